-- Written by a program of this session (a changed copy of the kit's printer). Not trusted: Lean checks it.
import Derived.Test.YtnmenfkmndnoaaaM0
import Derived.Test.YtnmenfkmndnoaaaFestoversref39guarded
import Derived.Test.YtnmenfkmndnoaaaFestoversref39outside
namespace Go.Proofs.Ytnmenfkmndnoaaa.Pr
open Go.RowKit Go.Proofs.YtnmenfkmndnoaaaW.PrintWords Go.Proofs.YtnmenfkmndnoaaaW.PrintLast Go.Proofs.YtnmenfkmndnoaaaW.PrintMore
attribute [local go_sem] max2_int min2_int max_two min_two max_three min_three max_four min_four
set_option linter.unusedVariables false
set_option linter.unusedSimpArgs false
mutual
def estoversref39_reason.j0 : Nat→List (S30)→List Int→Int→Bool→Int→Int→Int→Int→Int→Bool→Bool→Option (Int)
 | 0,_,_,_,_,_,_,_,_,_,_,_ => none
 | k + 1,x1,x2,x3,x20,x276000,x276001,x276002,x276003,x276004,x276005,x276006 => if x20 = true then (some 12) else (if x276006 = true then (some 8) else (if x276003 = 0 then (estoversref39_reason.j1 k x1 x2 x3 false x276000 x276001 x276002 x276003 x276004 x276005 x276006) else (estoversref39_reason.j1 k x1 x2 x3 (x276003 != 8) x276000 x276001 x276002 x276003 x276004 x276005 x276006)))
def estoversref39_reason.j1 : Nat→List (S30)→List Int→Int→Bool→Int→Int→Int→Int→Int→Bool→Bool→Option (Int)
 | 0,_,_,_,_,_,_,_,_,_,_,_ => none
 | k + 1,x1,x2,x3,x30,x276000,x276001,x276002,x276003,x276004,x276005,x276006 => if x30 = true then (some x276003) else ((estoversref39_guarded.f k x276000 x276001 x276002 x276003 x276004 x276005 x276006 x1 x2 x3 false).bind fun t277 => (if t277 = true then (some 11) else (some x276003)))
end
def estoversref39_reason.f (k : Nat) (a0_0 : Int) (a0_1 : Int) (a0_2 : Int) (a0_3 : Int) (a0_4 : Int) (a0_5 : Bool) (a0_6 : Bool) (l1 : List (S30)) (l2 : List Int) (a3 : Int) (a4 : Bool) : Option (Int):=(estoversref39_outside.f k a0_0 a0_1 a0_2 a0_3 a0_4 a0_5 a0_6 l1 a3).bind fun t276 => (if t276 = true then (some 13) else (if a4 = true then (estoversref39_reason.j0 k l1 l2 a3 (!a0_5) a0_0 a0_1 a0_2 a0_3 a0_4 a0_5 a0_6) else (estoversref39_reason.j0 k l1 l2 a3 false a0_0 a0_1 a0_2 a0_3 a0_4 a0_5 a0_6)))
theorem estoversref39_reason.mono_l : ∀ k,(∀ y0 y1 y2 y3 y4 y5 y6 y7 y8 y9 y10,LeO (estoversref39_reason.j0 k y0 y1 y2 y3 y4 y5 y6 y7 y8 y9 y10) (estoversref39_reason.j0 (k + 1) y0 y1 y2 y3 y4 y5 y6 y7 y8 y9 y10))∧(∀ y0 y1 y2 y3 y4 y5 y6 y7 y8 y9 y10,LeO (estoversref39_reason.j1 k y0 y1 y2 y3 y4 y5 y6 y7 y8 y9 y10) (estoversref39_reason.j1 (k + 1) y0 y1 y2 y3 y4 y5 y6 y7 y8 y9 y10))
 | 0 => ⟨fun _ _ _ _ _ _ _ _ _ _ _ r h => by simp [estoversref39_reason.j0] at h,fun _ _ _ _ _ _ _ _ _ _ _ r h => by simp [estoversref39_reason.j1] at h⟩
 | k + 1 => by
  obtain ⟨ih0,ih1⟩:=estoversref39_reason.mono_l k;refine ⟨?_,?_⟩
  ·
   intro y0 y1 y2 y3 y4 y5 y6 y7 y8 y9 y10
   unfold estoversref39_reason.j0
   repeat' first
    | (with_reducible exact ih0 _ _ _ _ _ _ _ _ _ _ _)
    | (with_reducible exact ih1 _ _ _ _ _ _ _ _ _ _ _)
    | (with_reducible exact estoversref39_guarded.mono _ _ _ _ _ _ _ _ _ _ _ _)
    | (with_reducible exact estoversref39_outside.mono _ _ _ _ _ _ _ _ _ _)
    | (with_reducible exact LeO.refl _)
    | (with_reducible exact LeO.none _)
    | (with_reducible refine LeO.ite ?_ ?_)
    | (with_reducible refine LeO.bind ?_ (fun _ => ?_))
    | exact ih0 _ _ _ _ _ _ _ _ _ _ _
    | exact ih1 _ _ _ _ _ _ _ _ _ _ _
    | exact estoversref39_guarded.mono _ _ _ _ _ _ _ _ _ _ _ _
    | exact estoversref39_outside.mono _ _ _ _ _ _ _ _ _ _
    | exact LeO.none _
    | refine LeO.ite ?_ ?_
    | refine LeO.bind ?_ (fun _ => ?_)
  ·
   intro y0 y1 y2 y3 y4 y5 y6 y7 y8 y9 y10
   unfold estoversref39_reason.j1
   repeat' first
    | (with_reducible exact ih0 _ _ _ _ _ _ _ _ _ _ _)
    | (with_reducible exact ih1 _ _ _ _ _ _ _ _ _ _ _)
    | (with_reducible exact estoversref39_guarded.mono _ _ _ _ _ _ _ _ _ _ _ _)
    | (with_reducible exact estoversref39_outside.mono _ _ _ _ _ _ _ _ _ _)
    | (with_reducible exact LeO.refl _)
    | (with_reducible exact LeO.none _)
    | (with_reducible refine LeO.ite ?_ ?_)
    | (with_reducible refine LeO.bind ?_ (fun _ => ?_))
    | exact ih0 _ _ _ _ _ _ _ _ _ _ _
    | exact ih1 _ _ _ _ _ _ _ _ _ _ _
    | exact estoversref39_guarded.mono _ _ _ _ _ _ _ _ _ _ _ _
    | exact estoversref39_outside.mono _ _ _ _ _ _ _ _ _ _
    | exact LeO.none _
    | refine LeO.ite ?_ ?_
    | refine LeO.bind ?_ (fun _ => ?_)
theorem estoversref39_reason.mono : ∀ a0 a1 a2 a3 a4 a5 a6 a7 a8 a9 a10 k,LeO (estoversref39_reason.f k a0 a1 a2 a3 a4 a5 a6 a7 a8 a9 a10) (estoversref39_reason.f (k + 1) a0 a1 a2 a3 a4 a5 a6 a7 a8 a9 a10):=by
 intro a0 a1 a2 a3 a4 a5 a6 a7 a8 a9 a10 k;obtain ⟨ih0,ih1⟩:=estoversref39_reason.mono_l k
 unfold estoversref39_reason.f
 repeat' first
  | (with_reducible exact ih0 _ _ _ _ _ _ _ _ _ _ _)
  | (with_reducible exact ih1 _ _ _ _ _ _ _ _ _ _ _)
  | (with_reducible exact estoversref39_guarded.mono _ _ _ _ _ _ _ _ _ _ _ _)
  | (with_reducible exact estoversref39_outside.mono _ _ _ _ _ _ _ _ _ _)
  | (with_reducible exact LeO.refl _)
  | (with_reducible exact LeO.none _)
  | (with_reducible refine LeO.ite ?_ ?_)
  | (with_reducible refine LeO.bind ?_ (fun _ => ?_))
  | exact ih0 _ _ _ _ _ _ _ _ _ _ _
  | exact ih1 _ _ _ _ _ _ _ _ _ _ _
  | exact estoversref39_guarded.mono _ _ _ _ _ _ _ _ _ _ _ _
  | exact estoversref39_outside.mono _ _ _ _ _ _ _ _ _ _
  | exact LeO.none _
  | refine LeO.ite ?_ ?_
  | refine LeO.bind ?_ (fun _ => ?_)
set_option maxHeartbeats 8000000 in
set_option maxRecDepth 100000 in
theorem estoversref39_reason.calls (k : Nat) (a0_0 : Int) (a0_1 : Int) (a0_2 : Int) (a0_3 : Int) (a0_4 : Int) (a0_5 : Bool) (a0_6 : Bool) (A1 : Option Addr) (c1 : Nat) (l1 : List (S30)) (A2 : Option Addr) (c2 : Nat) (l2 : List Int) (a3 : Int) (a4 : Bool) (r : Int) (w : World) (hr1 : Kd.C k30 w A1 l1.length l1) (hc1 : l1.length≤c1) (hr2 : Kd.C (Kd.int .i64) w A2 l2.length l2) (hc2 : l2.length≤c2) (h : estoversref39_reason.f k a0_0 a0_1 a0_2 a0_3 a0_4 a0_5 a0_6 l1 l2 a3 a4 = some r) :
 Calls Try.prog 64 #[.agg #[.int .i64 a0_0,.int .i64 a0_1,.int .i64 a0_2,.int .i64 a0_3,.int .i64 a0_4,.bool a0_5,.bool a0_6],.slice A1 l1.length c1,.slice A2 l2.length c2,.int .i64 a3,.bool a4] w fun e w' => e = .returned (.int .i64 r)∧Below w.heap.size w w':=by
 have hu34:=Try.underlying34;have HR1:=Aside0.mk hr1;have HC1:=Aside0.mk hc1;clear hr1 hc1;have HR2:=Aside0.mk hr2;have HC2:=Aside0.mk hc2;clear hr2 hc2;have HB:=Aside0.mk (Below.refl w.heap.size w)
 have H : ((estoversref39_outside.f k a0_0 a0_1 a0_2 a0_3 a0_4 a0_5 a0_6 l1 a3).bind fun t276 => (if t276 = true then (some 13) else (if a4 = true then (estoversref39_reason.j0 k l1 l2 a3 (!a0_5) a0_0 a0_1 a0_2 a0_3 a0_4 a0_5 a0_6) else (estoversref39_reason.j0 k l1 l2 a3 false a0_0 a0_1 a0_2 a0_3 a0_4 a0_5 a0_6)))) = some r:=h;clear h;replace H:=Option.bind_eq_some_iff.mp H
 obtain ⟨t276,A60,H⟩:=H;replace H : (if t276 = true then (some 13) else (if a4 = true then (estoversref39_reason.j0 k l1 l2 a3 (!a0_5) a0_0 a0_1 a0_2 a0_3 a0_4 a0_5 a0_6) else (estoversref39_reason.j0 k l1 l2 a3 false a0_0 a0_1 a0_2 a0_3 a0_4 a0_5 a0_6))) = some r:=H;have A6:=Aside0.mk A60;clear A60;by_cases c7 : t276 = true
 rotate_left
 ·
  replace c7:=Bool.eq_false_iff.mpr c7;subst c7
  have H1 : (if a4 = true then (estoversref39_reason.j0 k l1 l2 a3 (!a0_5) a0_0 a0_1 a0_2 a0_3 a0_4 a0_5 a0_6) else (estoversref39_reason.j0 k l1 l2 a3 false a0_0 a0_1 a0_2 a0_3 a0_4 a0_5 a0_6)) = some r:=by rw [if_neg (show ¬ (false = true) by decide)] at H;exact H
  clear H;have H:=H1;clear H1;have HC11:=Aside0.mk H;clear H
  go_enter Try.func64,Try.ntmps64
  go_upto_region 3 with (first | ((with_reducible refine gate_dst (N:=5) rfl ?_);refine box_event ?hg (N:=5) ?hd (cs:=#[.int .i64 a0_0,.int .i64 a0_1,.int .i64 a0_2,.int .i64 a0_3,.int .i64 a0_4,.bool a0_5,.bool a0_6]) (t:=34) ?hr ?_;(case hd => rfl);(case hg => rfl);(case hr => first | (go_simp;done) | (go_simp;rfl));intro gb275 hg w12 hbox hb;have n0_:=Aside0.mk (below_step (by repeat (first | (with_reducible first | exact HB.out | apply b0_ | apply b1_ | apply b2_) | exact HB.out)) hb);have n1_:=Aside0.mk (hbox);have n2_:=Aside0.mk ((by rw [hg];exact (below_size (by repeat (first | (with_reducible first | exact HB.out | apply b0_ | apply b1_ | apply b2_) | exact HB.out))) : w.heap.size≤gb275));have n3_:=Aside0.mk ((by rw [hg];exact (below_size (by repeat (first | (with_reducible first | exact HB.out | apply b0_ | apply b1_ | apply b2_) | exact HB.out))) : w.heap.size≤gb275));clear HB;have HB:=n0_;have BK275:=n1_;have GW275:=n2_;have GE275:=n3_;clear n0_ n1_ n2_ n3_;clear hb hbox hg;obtain ⟨hcz13_0,hcz13_1,hcz13_2,hcz13_3,hcz13_4,hcz13_5,hcz13_6,hfz13_0,hfz13_1,hfz13_2,hfz13_3,hfz13_4,hfz13_5,hfz13_6⟩:=q7_ BK275.out) | ((with_reducible refine gate_callee (f:=67) rfl ?_);refine goesL_ (some 14) rfl rfl Try.func67 (by kernel_rfl) rfl #[.agg #[.int .i64 a0_0,.int .i64 a0_1,.int .i64 a0_2,.int .i64 a0_3,.int .i64 a0_4,.bool a0_5,.bool a0_6],.slice A1 l1.length c1,.int .i64 a3] rfl (by (try simp only [z3_,z4_,z5_]);first | done | rfl | (simp only [z6_,z7_];rfl)) ?_;(with_reducible refine (estoversref39_outside.calls k a0_0 a0_1 a0_2 a0_3 a0_4 a0_5 a0_6 _ _ l1 a3 false _ ?side1 ?side2 A6.out).mono ?_);(case side1 => repeat (first | exact (Kd.C_below HR1.out HB.out) | (with_reducible refine Kd.C_alloc ?_ _) | (with_reducible refine Kd.C_drewN ?_ _) | (with_reducible refine Kd.C_drew ?_)));(case side2 => exact HC1.out);rintro e w14 ⟨rfl,hb⟩;refine ⟨_,rfl,?_⟩;have n0_:=Aside0.mk (blk_below (g:=gb275) (o:=.cells #[.int .i64 a0_0,.int .i64 a0_1,.int .i64 a0_2,.int .i64 a0_3,.int .i64 a0_4,.bool a0_5,.bool a0_6] 34 (0,0)) (by (with_reducible repeat (first | refine blk_drewN ?_ _ | refine blk_drew ?_ | refine blk_alloc ?_ _));exact BK275.out) hb);have n1_:=Aside0.mk (below_step (by repeat (first | (with_reducible first | exact HB.out | apply b0_ | apply b1_ | apply b2_ | refine below_set ?_ GE275.out) | exact HB.out)) hb);clear BK275;clear HB;have BK275:=n0_;have HB:=n1_;clear n0_ n1_))
  (try simp only [Act.put,List.setIfInBounds_toArray,List.set_cons_zero,List.set_cons_succ])
  go_cut [20] (fun v20 wc => ∃ (kq : Nat) (x20_10 : Bool),v20 = .bool x20_10∧Aside0 (estoversref39_reason.j0 kq l1 l2 a3 x20_10 a0_0 a0_1 a0_2 a0_3 a0_4 a0_5 a0_6 = some r)∧Aside0 (kq≤k)∧Aside0 (wc.heap[gb275]? = some (.cells #[.int .i64 a0_0,.int .i64 a0_1,.int .i64 a0_2,.int .i64 a0_3,.int .i64 a0_4,.bool a0_5,.bool a0_6] 34 (0,0)))∧Aside0 (Below w.heap.size w wc))
  case first =>
   have H:=HC11.out;clear HC11;by_cases c15 : a4 = true
   rotate_left
   ·
    replace c15:=Bool.eq_false_iff.mpr c15;subst c15
    have H1 : (estoversref39_reason.j0 k l1 l2 a3 false a0_0 a0_1 a0_2 a0_3 a0_4 a0_5 a0_6) = some r:=by rw [if_neg (show ¬ (false = true) by decide)] at H;exact H
    clear H;have H:=H1;clear H1;have H':=Aside0.mk H;clear H;go_wp2
    go_meet
    case rel => exact ⟨_,(false),(by first | rfl | (simp;done) | (simp [*];done)),H',⟨by first | omega | exact Nat.le_refl _⟩,⟨by (with_reducible repeat (first | refine blk_drewN ?_ _ | refine blk_drew ?_ | refine blk_alloc ?_ _));exact BK275.out⟩,⟨by repeat (first | (with_reducible first | exact HB.out | apply b0_ | apply b1_ | apply b2_ | refine below_set ?_ GE275.out) | exact HB.out)⟩⟩
   subst c15
   have H1 : (estoversref39_reason.j0 k l1 l2 a3 (!a0_5) a0_0 a0_1 a0_2 a0_3 a0_4 a0_5 a0_6) = some r:=by rw [if_pos rfl] at H;exact H
   clear H;have H:=H1;clear H1;have H':=Aside0.mk H;clear H;obtain ⟨hcz16_0,hcz16_1,hcz16_2,hcz16_3,hcz16_4,hcz16_5,hcz16_6,hfz16_0,hfz16_1,hfz16_2,hfz16_3,hfz16_4,hfz16_5,hfz16_6⟩:=q7_ BK275.out;go_wp2
   go_meet
   case rel => exact ⟨_,(!a0_5),(by first | rfl | (simp;done) | (simp [*];done)),H',⟨by first | omega | exact Nat.le_refl _⟩,⟨by (with_reducible repeat (first | refine blk_drewN ?_ _ | refine blk_drew ?_ | refine blk_alloc ?_ _));exact BK275.out⟩,⟨by repeat (first | (with_reducible first | exact HB.out | apply b0_ | apply b1_ | apply b2_ | refine below_set ?_ GE275.out) | exact HB.out)⟩⟩
  case rest =>
   clear HC11;obtain ⟨kq,x20_10,rfl,HA,HJ10,BK275,HB⟩:=hcut
   cases kq with
    | zero => exact absurd HA.out (by simp [estoversref39_reason.j0])
    | succ kj10 =>
     have H:=HA.out;clear HA;simp only [estoversref39_reason.j0] at H;by_cases c17 : x20_10 = true
     rotate_left
     ·
      replace c17:=Bool.eq_false_iff.mpr c17;subst c17
      have H1 : (if a0_6 = true then (some 8) else (if a0_3 = 0 then (estoversref39_reason.j1 kj10 l1 l2 a3 false a0_0 a0_1 a0_2 a0_3 a0_4 a0_5 a0_6) else (estoversref39_reason.j1 kj10 l1 l2 a3 (a0_3 != 8) a0_0 a0_1 a0_2 a0_3 a0_4 a0_5 a0_6))) = some r:=by rw [if_neg (show ¬ (false = true) by decide)] at H;exact H
      clear H;have H:=H1;clear H1;by_cases c18 : a0_6 = true
      rotate_left
      ·
       replace c18:=Bool.eq_false_iff.mpr c18;subst c18
       have H1 : (if a0_3 = 0 then (estoversref39_reason.j1 kj10 l1 l2 a3 false a0_0 a0_1 a0_2 a0_3 a0_4 a0_5 false) else (estoversref39_reason.j1 kj10 l1 l2 a3 (a0_3 != 8) a0_0 a0_1 a0_2 a0_3 a0_4 a0_5 false)) = some r:=by rw [if_neg (show ¬ (false = true) by decide)] at H;exact H
       clear H;have H:=H1;clear H1;have HC20:=Aside0.mk H;clear H;obtain ⟨hcz21_0,hcz21_1,hcz21_2,hcz21_3,hcz21_4,hcz21_5,hcz21_6,hfz21_0,hfz21_1,hfz21_2,hfz21_3,hfz21_4,hfz21_5,hfz21_6⟩:=q7_ BK275.out
       go_upto_region 7 with (fail)
       go_cut [30] (fun v30 wc => ∃ (kq : Nat) (x30_19 : Bool),v30 = .bool x30_19∧Aside0 (estoversref39_reason.j1 kq l1 l2 a3 x30_19 a0_0 a0_1 a0_2 a0_3 a0_4 a0_5 false = some r)∧Aside0 (kq≤kj10)∧Aside0 (wc.heap[gb275]? = some (.cells #[.int .i64 a0_0,.int .i64 a0_1,.int .i64 a0_2,.int .i64 a0_3,.int .i64 a0_4,.bool a0_5,.bool false] 34 (0,0)))∧Aside0 (Below w.heap.size w wc))
       case first =>
        have H:=HC20.out;clear HC20;by_cases c22 : a0_3 = 0
        rotate_left
        ·
         rw [if_neg c22] at H;have c22b0 : (a0_3 == 0) = false:=beq_eq_false_iff_ne.mpr c22;have c22b1 : (a0_3 != 0) = true:=bne_iff_ne.mpr c22
         (first | rw [c22b0] | (simp only [i64_w,i32_w];rw [c22b0]) | skip)
         have H':=Aside0.mk H;clear H;obtain ⟨hcz24_0,hcz24_1,hcz24_2,hcz24_3,hcz24_4,hcz24_5,hcz24_6,hfz24_0,hfz24_1,hfz24_2,hfz24_3,hfz24_4,hfz24_5,hfz24_6⟩:=q7_ BK275.out;go_wp2
         go_meet
         case rel => exact ⟨_,((a0_3 != 8)),(by first | rfl | (simp;done) | (simp [*];done)),H',⟨by have:=HJ10.out;first | omega | exact Nat.le_refl _⟩,⟨by (with_reducible repeat (first | refine blk_drewN ?_ _ | refine blk_drew ?_ | refine blk_alloc ?_ _));exact BK275.out⟩,⟨by repeat (first | (with_reducible first | exact HB.out | apply b0_ | apply b1_ | apply b2_ | refine below_set ?_ GE275.out) | exact HB.out)⟩⟩
        rw [if_pos c22] at H;have c22b0 : (a0_3 == 0) = true:=beq_iff_eq.mpr c22;have c22b1 : (a0_3 != 0) = false:=bne_eq_false_iff_eq.mpr c22;clear c22
        (first | rw [c22b0] | (simp only [i64_w,i32_w];rw [c22b0]) | skip)
        have H':=Aside0.mk H;clear H;obtain ⟨hcz23_0,hcz23_1,hcz23_2,hcz23_3,hcz23_4,hcz23_5,hcz23_6,hfz23_0,hfz23_1,hfz23_2,hfz23_3,hfz23_4,hfz23_5,hfz23_6⟩:=q7_ BK275.out;go_wp2
        go_meet
        case rel => exact ⟨_,(false),(by first | rfl | (simp;done) | (simp [*];done)),H',⟨by have:=HJ10.out;first | omega | exact Nat.le_refl _⟩,⟨by (with_reducible repeat (first | refine blk_drewN ?_ _ | refine blk_drew ?_ | refine blk_alloc ?_ _));exact BK275.out⟩,⟨by repeat (first | (with_reducible first | exact HB.out | apply b0_ | apply b1_ | apply b2_ | refine below_set ?_ GE275.out) | exact HB.out)⟩⟩
       case rest =>
        clear HC20;obtain ⟨kq,x30_19,rfl,HA,HJ19,BK275,HB⟩:=hcut
        cases kq with
         | zero => exact absurd HA.out (by simp [estoversref39_reason.j1])
         | succ kj19 =>
          have H:=HA.out;clear HA;simp only [estoversref39_reason.j1] at H;by_cases c25 : x30_19 = true
          rotate_left
          ·
           replace c25:=Bool.eq_false_iff.mpr c25;subst c25
           have H1 : ((estoversref39_guarded.f kj19 a0_0 a0_1 a0_2 a0_3 a0_4 a0_5 false l1 l2 a3 false).bind fun t277 => (if t277 = true then (some 11) else (some a0_3))) = some r:=by rw [if_neg (show ¬ (false = true) by decide)] at H;exact H
           clear H;have H:=H1;clear H1;replace H:=Option.bind_eq_some_iff.mp H;obtain ⟨t277,A270,H⟩:=H;replace H : (if t277 = true then (some 11) else (some a0_3)) = some r:=H;have A27:=Aside0.mk A270;clear A270;by_cases c28 : t277 = true
           rotate_left
           ·
            replace c28:=Bool.eq_false_iff.mpr c28;subst c28
            have H1 : (some a0_3) = some r:=by rw [if_neg (show ¬ (false = true) by decide)] at H;exact H
            clear H;have H:=H1;clear H1;obtain rfl:=Option.some.inj H;obtain ⟨hcz31_0,hcz31_1,hcz31_2,hcz31_3,hcz31_4,hcz31_5,hcz31_6,hfz31_0,hfz31_1,hfz31_2,hfz31_3,hfz31_4,hfz31_5,hfz31_6⟩:=q7_ BK275.out
            go_wp2_with (first | ((with_reducible refine gate_callee (f:=66) rfl ?_);refine goesL_ (some 37) rfl rfl Try.func66 (by kernel_rfl) rfl #[.agg #[.int .i64 a0_0,.int .i64 a0_1,.int .i64 a0_2,.int .i64 a0_3,.int .i64 a0_4,.bool a0_5,.bool false],.slice A1 l1.length c1,.slice A2 l2.length c2,.int .i64 a3,.bool false] rfl (by (try simp only [z3_,z4_,z5_]);first | done | rfl | (simp only [z6_,z7_];rfl)) ?_;(with_reducible refine (estoversref39_guarded.calls kj19 a0_0 a0_1 a0_2 a0_3 a0_4 a0_5 false _ _ l1 _ _ l2 a3 false false _ ?side1 ?side2 ?side3 ?side4 A27.out).mono ?_);(case side1 => repeat (first | exact (Kd.C_below HR1.out HB.out) | (with_reducible refine Kd.C_alloc ?_ _) | (with_reducible refine Kd.C_drewN ?_ _) | (with_reducible refine Kd.C_drew ?_)));(case side2 => exact HC1.out);(case side3 => repeat (first | exact (Kd.C_below HR2.out HB.out) | (with_reducible refine Kd.C_alloc ?_ _) | (with_reducible refine Kd.C_drewN ?_ _) | (with_reducible refine Kd.C_drew ?_)));(case side4 => exact HC2.out);rintro e w32 ⟨rfl,hb⟩;refine ⟨_,rfl,?_⟩;have n0_:=Aside0.mk (blk_below (g:=gb275) (o:=.cells #[.int .i64 a0_0,.int .i64 a0_1,.int .i64 a0_2,.int .i64 a0_3,.int .i64 a0_4,.bool a0_5,.bool false] 34 (0,0)) (by (with_reducible repeat (first | refine blk_drewN ?_ _ | refine blk_drew ?_ | refine blk_alloc ?_ _));exact BK275.out) hb);have n1_:=Aside0.mk (below_step (by repeat (first | (with_reducible first | exact HB.out | apply b0_ | apply b1_ | apply b2_ | refine below_set ?_ GE275.out) | exact HB.out)) hb);clear BK275;clear HB;have BK275:=n0_;have HB:=n1_;clear n0_ n1_;obtain ⟨hcz33_0,hcz33_1,hcz33_2,hcz33_3,hcz33_4,hcz33_5,hcz33_6,hfz33_0,hfz33_1,hfz33_2,hfz33_3,hfz33_4,hfz33_5,hfz33_6⟩:=q7_ BK275.out))
            go_ret;exact ⟨by first | rfl | (simp [errW_none,errW_some] <;> rfl) | (simp [*,errW_none,errW_some] <;> rfl),by repeat (first | (with_reducible first | exact HB.out | apply b0_ | apply b1_ | apply b2_ | refine below_set ?_ GE275.out) | exact HB.out)⟩
           subst c28
           have H1 : (some 11) = some r:=by rw [if_pos rfl] at H;exact H
           clear H;have H:=H1;clear H1;obtain rfl:=Option.some.inj H;obtain ⟨hcz29_0,hcz29_1,hcz29_2,hcz29_3,hcz29_4,hcz29_5,hcz29_6,hfz29_0,hfz29_1,hfz29_2,hfz29_3,hfz29_4,hfz29_5,hfz29_6⟩:=q7_ BK275.out
           go_wp2_with (first | ((with_reducible refine gate_callee (f:=66) rfl ?_);refine goesL_ (some 37) rfl rfl Try.func66 (by kernel_rfl) rfl #[.agg #[.int .i64 a0_0,.int .i64 a0_1,.int .i64 a0_2,.int .i64 a0_3,.int .i64 a0_4,.bool a0_5,.bool false],.slice A1 l1.length c1,.slice A2 l2.length c2,.int .i64 a3,.bool false] rfl (by (try simp only [z3_,z4_,z5_]);first | done | rfl | (simp only [z6_,z7_];rfl)) ?_;(with_reducible refine (estoversref39_guarded.calls kj19 a0_0 a0_1 a0_2 a0_3 a0_4 a0_5 false _ _ l1 _ _ l2 a3 false true _ ?side1 ?side2 ?side3 ?side4 A27.out).mono ?_);(case side1 => repeat (first | exact (Kd.C_below HR1.out HB.out) | (with_reducible refine Kd.C_alloc ?_ _) | (with_reducible refine Kd.C_drewN ?_ _) | (with_reducible refine Kd.C_drew ?_)));(case side2 => exact HC1.out);(case side3 => repeat (first | exact (Kd.C_below HR2.out HB.out) | (with_reducible refine Kd.C_alloc ?_ _) | (with_reducible refine Kd.C_drewN ?_ _) | (with_reducible refine Kd.C_drew ?_)));(case side4 => exact HC2.out);rintro e w30 ⟨rfl,hb⟩;refine ⟨_,rfl,?_⟩;have n0_:=Aside0.mk (blk_below (g:=gb275) (o:=.cells #[.int .i64 a0_0,.int .i64 a0_1,.int .i64 a0_2,.int .i64 a0_3,.int .i64 a0_4,.bool a0_5,.bool false] 34 (0,0)) (by (with_reducible repeat (first | refine blk_drewN ?_ _ | refine blk_drew ?_ | refine blk_alloc ?_ _));exact BK275.out) hb);have n1_:=Aside0.mk (below_step (by repeat (first | (with_reducible first | exact HB.out | apply b0_ | apply b1_ | apply b2_ | refine below_set ?_ GE275.out) | exact HB.out)) hb);clear BK275;clear HB;have BK275:=n0_;have HB:=n1_;clear n0_ n1_))
           go_ret;exact ⟨by first | rfl | (simp [errW_none,errW_some] <;> rfl) | (simp [*,errW_none,errW_some] <;> rfl),by repeat (first | (with_reducible first | exact HB.out | apply b0_ | apply b1_ | apply b2_ | refine below_set ?_ GE275.out) | exact HB.out)⟩
          subst c25
          have H1 : (some a0_3) = some r:=by rw [if_pos rfl] at H;exact H
          clear H;have H:=H1;clear H1;obtain rfl:=Option.some.inj H;obtain ⟨hcz26_0,hcz26_1,hcz26_2,hcz26_3,hcz26_4,hcz26_5,hcz26_6,hfz26_0,hfz26_1,hfz26_2,hfz26_3,hfz26_4,hfz26_5,hfz26_6⟩:=q7_ BK275.out;go_wp2;go_ret
          exact ⟨by first | rfl | (simp [errW_none,errW_some] <;> rfl) | (simp [*,errW_none,errW_some] <;> rfl),by repeat (first | (with_reducible first | exact HB.out | apply b0_ | apply b1_ | apply b2_ | refine below_set ?_ GE275.out) | exact HB.out)⟩
      subst c18
      have H1 : (some 8) = some r:=by rw [if_pos rfl] at H;exact H
      clear H;have H:=H1;clear H1;obtain rfl:=Option.some.inj H;obtain ⟨hcz19_0,hcz19_1,hcz19_2,hcz19_3,hcz19_4,hcz19_5,hcz19_6,hfz19_0,hfz19_1,hfz19_2,hfz19_3,hfz19_4,hfz19_5,hfz19_6⟩:=q7_ BK275.out;go_wp2;go_ret
      exact ⟨by first | rfl | (simp [errW_none,errW_some] <;> rfl) | (simp [*,errW_none,errW_some] <;> rfl),by repeat (first | (with_reducible first | exact HB.out | apply b0_ | apply b1_ | apply b2_ | refine below_set ?_ GE275.out) | exact HB.out)⟩
     subst c17
     have H1 : (some 12) = some r:=by rw [if_pos rfl] at H;exact H
     clear H;have H:=H1;clear H1;obtain rfl:=Option.some.inj H;go_wp2;go_ret;exact ⟨by first | rfl | (simp [errW_none,errW_some] <;> rfl) | (simp [*,errW_none,errW_some] <;> rfl),by repeat (first | (with_reducible first | exact HB.out | apply b0_ | apply b1_ | apply b2_ | refine below_set ?_ GE275.out) | exact HB.out)⟩
 subst c7
 have H1 : (some 13) = some r:=by rw [if_pos rfl] at H;exact H
 clear H;have H:=H1;clear H1;obtain rfl:=Option.some.inj H
 go_enter Try.func64,Try.ntmps64
 go_wp2_with (first | ((with_reducible refine gate_dst (N:=5) rfl ?_);refine box_event ?hg (N:=5) ?hd (cs:=#[.int .i64 a0_0,.int .i64 a0_1,.int .i64 a0_2,.int .i64 a0_3,.int .i64 a0_4,.bool a0_5,.bool a0_6]) (t:=34) ?hr ?_;(case hd => rfl);(case hg => rfl);(case hr => first | (go_simp;done) | (go_simp;rfl));intro gb275 hg w8 hbox hb;have n0_:=Aside0.mk (below_step (by repeat (first | (with_reducible first | exact HB.out | apply b0_ | apply b1_ | apply b2_) | exact HB.out)) hb);have n1_:=Aside0.mk (hbox);have n2_:=Aside0.mk ((by rw [hg];exact (below_size (by repeat (first | (with_reducible first | exact HB.out | apply b0_ | apply b1_ | apply b2_) | exact HB.out))) : w.heap.size≤gb275));have n3_:=Aside0.mk ((by rw [hg];exact (below_size (by repeat (first | (with_reducible first | exact HB.out | apply b0_ | apply b1_ | apply b2_) | exact HB.out))) : w.heap.size≤gb275));clear HB;have HB:=n0_;have BK275:=n1_;have GW275:=n2_;have GE275:=n3_;clear n0_ n1_ n2_ n3_;clear hb hbox hg;obtain ⟨hcz9_0,hcz9_1,hcz9_2,hcz9_3,hcz9_4,hcz9_5,hcz9_6,hfz9_0,hfz9_1,hfz9_2,hfz9_3,hfz9_4,hfz9_5,hfz9_6⟩:=q7_ BK275.out) | ((with_reducible refine gate_callee (f:=67) rfl ?_);refine goesL_ (some 14) rfl rfl Try.func67 (by kernel_rfl) rfl #[.agg #[.int .i64 a0_0,.int .i64 a0_1,.int .i64 a0_2,.int .i64 a0_3,.int .i64 a0_4,.bool a0_5,.bool a0_6],.slice A1 l1.length c1,.int .i64 a3] rfl (by (try simp only [z3_,z4_,z5_]);first | done | rfl | (simp only [z6_,z7_];rfl)) ?_;(with_reducible refine (estoversref39_outside.calls k a0_0 a0_1 a0_2 a0_3 a0_4 a0_5 a0_6 _ _ l1 a3 true _ ?side1 ?side2 A6.out).mono ?_);(case side1 => repeat (first | exact (Kd.C_below HR1.out HB.out) | (with_reducible refine Kd.C_alloc ?_ _) | (with_reducible refine Kd.C_drewN ?_ _) | (with_reducible refine Kd.C_drew ?_)));(case side2 => exact HC1.out);rintro e w10 ⟨rfl,hb⟩;refine ⟨_,rfl,?_⟩;have n0_:=Aside0.mk (blk_below (g:=gb275) (o:=.cells #[.int .i64 a0_0,.int .i64 a0_1,.int .i64 a0_2,.int .i64 a0_3,.int .i64 a0_4,.bool a0_5,.bool a0_6] 34 (0,0)) (by (with_reducible repeat (first | refine blk_drewN ?_ _ | refine blk_drew ?_ | refine blk_alloc ?_ _));exact BK275.out) hb);have n1_:=Aside0.mk (below_step (by repeat (first | (with_reducible first | exact HB.out | apply b0_ | apply b1_ | apply b2_ | refine below_set ?_ GE275.out) | exact HB.out)) hb);clear BK275;clear HB;have BK275:=n0_;have HB:=n1_;clear n0_ n1_))
 go_ret;exact ⟨by first | rfl | (simp [errW_none,errW_some] <;> rfl) | (simp [*,errW_none,errW_some] <;> rfl),by repeat (first | (with_reducible first | exact HB.out | apply b0_ | apply b1_ | apply b2_ | refine below_set ?_ GE275.out) | exact HB.out)⟩
end Go.Proofs.Ytnmenfkmndnoaaa.Pr
