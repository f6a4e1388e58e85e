-- Written by a program of this session (a changed copy of the kit's printer). Not trusted: Lean checks it.
import Derived.Test.YtnmenfkmndnoaaaM0
import Derived.Test.YtnmenfkmndnoaaaFestoverslaw39Few
import Derived.Test.YtnmenfkmndnoaaaM1
import Derived.Test.YtnmenfkmndnoaaaM2
import Derived.Test.YtnmenfkmndnoaaaM3
namespace Go.Proofs.Ytnmenfkmndnoaaa.Pr
open Go.RowKit Go.Proofs.YtnmenfkmndnoaaaW.PrintWords Go.Proofs.YtnmenfkmndnoaaaW.PrintLast Go.Proofs.YtnmenfkmndnoaaaW.PrintMore
attribute [local go_sem] max2_int min2_int max_two min_two max_three min_three max_four min_four
set_option linter.unusedVariables false
set_option linter.unusedSimpArgs false
mutual
def estoverslaw39_ReclaimplanEither.j0 : Nat→Bool→List (S34)→List (S30)→Int→Bool→Option (Bool)
 | 0,_,_,_,_,_ => none
 | k + 1,x12,x376000,x376001,x376002,x376003 => if x12 = true then ((estoverslaw39_awake.f k).bind fun t378 => (some t378)) else ((reclaimplan_Check.f k x376000 x376001).bind fun t379 => (if t379 = 0 then (if x376002 < (-1) then (estoverslaw39_ReclaimplanEither.j1 k true x376000 x376001 x376002 x376003) else (estoverslaw39_ReclaimplanEither.j1 k (decide (x376002≥(x376001.length : Int))) x376000 x376001 x376002 x376003)) else (estoverslaw39_ReclaimplanEither.j1 k true x376000 x376001 x376002 x376003)))
def estoverslaw39_ReclaimplanEither.j1 : Nat→Bool→List (S34)→List (S30)→Int→Bool→Option (Bool)
 | 0,_,_,_,_,_ => none
 | k + 1,x32,x376000,x376001,x376002,x376003 => if x32 = true then ((reclaimplan_Next.f k x376000 x376001 x376002 x376003).bind fun t380 => (some (t380 == (-1)))) else ((reclaimplan_Next.f k x376000 x376001 x376002 x376003).bind fun t381 => (if t381≥0 then (estoverslaw39_ReclaimplanEither.j2 k true x376000 x376001 x376002 x376003) else ((reclaimplan_Transit.f k x376000 x376001 x376002 x376003).bind fun t382 => (estoverslaw39_ReclaimplanEither.j2 k t382 x376000 x376001 x376002 x376003))))
def estoverslaw39_ReclaimplanEither.j2 : Nat→Bool→List (S34)→List (S30)→Int→Bool→Option (Bool)
 | 0,_,_,_,_,_ => none
 | k + 1,x3,x376000,x376001,x376002,x376003 => (reclaimplan_Witness.f k x376000 x376001 x376002 x376003).bind fun t383 => ((reclaimplan_Verify.f k x376000 x376001 x376002 x376003 t383).bind fun t386 => (if x3 = true then (some (t386 == 19)) else (some (t386 == 0))))
end
def estoverslaw39_ReclaimplanEither.f (k : Nat) (l0_0 : List (S34)) (l0_1 : List (S30)) (a0_2 : Int) (a0_3 : Bool) : Option (Bool):=(estoverslaw39_awake.f k).bind fun t376 => (if t376 = true then ((estoverslaw39_Few.f l0_0 l0_1 a0_2 a0_3).bind fun t377 => (estoverslaw39_ReclaimplanEither.j0 k (!t377) l0_0 l0_1 a0_2 a0_3)) else (estoverslaw39_ReclaimplanEither.j0 k true l0_0 l0_1 a0_2 a0_3))
theorem estoverslaw39_ReclaimplanEither.mono_l : ∀ k,(∀ y0 y1 y2 y3 y4,LeO (estoverslaw39_ReclaimplanEither.j0 k y0 y1 y2 y3 y4) (estoverslaw39_ReclaimplanEither.j0 (k + 1) y0 y1 y2 y3 y4))∧(∀ y0 y1 y2 y3 y4,LeO (estoverslaw39_ReclaimplanEither.j1 k y0 y1 y2 y3 y4) (estoverslaw39_ReclaimplanEither.j1 (k + 1) y0 y1 y2 y3 y4))∧(∀ y0 y1 y2 y3 y4,LeO (estoverslaw39_ReclaimplanEither.j2 k y0 y1 y2 y3 y4) (estoverslaw39_ReclaimplanEither.j2 (k + 1) y0 y1 y2 y3 y4))
 | 0 => ⟨fun _ _ _ _ _ r h => by simp [estoverslaw39_ReclaimplanEither.j0] at h,fun _ _ _ _ _ r h => by simp [estoverslaw39_ReclaimplanEither.j1] at h,fun _ _ _ _ _ r h => by simp [estoverslaw39_ReclaimplanEither.j2] at h⟩
 | k + 1 => by
  obtain ⟨ih0,ih1,ih2⟩:=estoverslaw39_ReclaimplanEither.mono_l k;refine ⟨?_,?_,?_⟩
  ·
   intro y0 y1 y2 y3 y4
   unfold estoverslaw39_ReclaimplanEither.j0
   repeat' first
    | (with_reducible exact ih0 _ _ _ _ _)
    | (with_reducible exact ih1 _ _ _ _ _)
    | (with_reducible exact ih2 _ _ _ _ _)
    | (with_reducible exact estoverslaw39_awake.mono _)
    | (with_reducible exact reclaimplan_Check.mono _ _ _)
    | (with_reducible exact reclaimplan_Next.mono _ _ _ _ _)
    | (with_reducible exact reclaimplan_Transit.mono _ _ _ _ _)
    | (with_reducible exact reclaimplan_Verify.mono _ _ _ _ _ _)
    | (with_reducible exact reclaimplan_Witness.mono _ _ _ _ _)
    | (with_reducible exact LeO.refl _)
    | (with_reducible exact LeO.none _)
    | (with_reducible refine LeO.ite ?_ ?_)
    | (with_reducible refine LeO.bind ?_ (fun _ => ?_))
    | exact ih0 _ _ _ _ _
    | exact ih1 _ _ _ _ _
    | exact ih2 _ _ _ _ _
    | exact estoverslaw39_awake.mono _
    | exact reclaimplan_Check.mono _ _ _
    | exact reclaimplan_Next.mono _ _ _ _ _
    | exact reclaimplan_Transit.mono _ _ _ _ _
    | exact reclaimplan_Verify.mono _ _ _ _ _ _
    | exact reclaimplan_Witness.mono _ _ _ _ _
    | exact LeO.none _
    | refine LeO.ite ?_ ?_
    | refine LeO.bind ?_ (fun _ => ?_)
  ·
   intro y0 y1 y2 y3 y4
   unfold estoverslaw39_ReclaimplanEither.j1
   repeat' first
    | (with_reducible exact ih0 _ _ _ _ _)
    | (with_reducible exact ih1 _ _ _ _ _)
    | (with_reducible exact ih2 _ _ _ _ _)
    | (with_reducible exact estoverslaw39_awake.mono _)
    | (with_reducible exact reclaimplan_Check.mono _ _ _)
    | (with_reducible exact reclaimplan_Next.mono _ _ _ _ _)
    | (with_reducible exact reclaimplan_Transit.mono _ _ _ _ _)
    | (with_reducible exact reclaimplan_Verify.mono _ _ _ _ _ _)
    | (with_reducible exact reclaimplan_Witness.mono _ _ _ _ _)
    | (with_reducible exact LeO.refl _)
    | (with_reducible exact LeO.none _)
    | (with_reducible refine LeO.ite ?_ ?_)
    | (with_reducible refine LeO.bind ?_ (fun _ => ?_))
    | exact ih0 _ _ _ _ _
    | exact ih1 _ _ _ _ _
    | exact ih2 _ _ _ _ _
    | exact estoverslaw39_awake.mono _
    | exact reclaimplan_Check.mono _ _ _
    | exact reclaimplan_Next.mono _ _ _ _ _
    | exact reclaimplan_Transit.mono _ _ _ _ _
    | exact reclaimplan_Verify.mono _ _ _ _ _ _
    | exact reclaimplan_Witness.mono _ _ _ _ _
    | exact LeO.none _
    | refine LeO.ite ?_ ?_
    | refine LeO.bind ?_ (fun _ => ?_)
  ·
   intro y0 y1 y2 y3 y4
   unfold estoverslaw39_ReclaimplanEither.j2
   repeat' first
    | (with_reducible exact ih0 _ _ _ _ _)
    | (with_reducible exact ih1 _ _ _ _ _)
    | (with_reducible exact ih2 _ _ _ _ _)
    | (with_reducible exact estoverslaw39_awake.mono _)
    | (with_reducible exact reclaimplan_Check.mono _ _ _)
    | (with_reducible exact reclaimplan_Next.mono _ _ _ _ _)
    | (with_reducible exact reclaimplan_Transit.mono _ _ _ _ _)
    | (with_reducible exact reclaimplan_Verify.mono _ _ _ _ _ _)
    | (with_reducible exact reclaimplan_Witness.mono _ _ _ _ _)
    | (with_reducible exact LeO.refl _)
    | (with_reducible exact LeO.none _)
    | (with_reducible refine LeO.ite ?_ ?_)
    | (with_reducible refine LeO.bind ?_ (fun _ => ?_))
    | exact ih0 _ _ _ _ _
    | exact ih1 _ _ _ _ _
    | exact ih2 _ _ _ _ _
    | exact estoverslaw39_awake.mono _
    | exact reclaimplan_Check.mono _ _ _
    | exact reclaimplan_Next.mono _ _ _ _ _
    | exact reclaimplan_Transit.mono _ _ _ _ _
    | exact reclaimplan_Verify.mono _ _ _ _ _ _
    | exact reclaimplan_Witness.mono _ _ _ _ _
    | exact LeO.none _
    | refine LeO.ite ?_ ?_
    | refine LeO.bind ?_ (fun _ => ?_)
theorem estoverslaw39_ReclaimplanEither.mono : ∀ a0 a1 a2 a3 k,LeO (estoverslaw39_ReclaimplanEither.f k a0 a1 a2 a3) (estoverslaw39_ReclaimplanEither.f (k + 1) a0 a1 a2 a3):=by
 intro a0 a1 a2 a3 k;obtain ⟨ih0,ih1,ih2⟩:=estoverslaw39_ReclaimplanEither.mono_l k
 unfold estoverslaw39_ReclaimplanEither.f
 repeat' first
  | (with_reducible exact ih0 _ _ _ _ _)
  | (with_reducible exact ih1 _ _ _ _ _)
  | (with_reducible exact ih2 _ _ _ _ _)
  | (with_reducible exact estoverslaw39_awake.mono _)
  | (with_reducible exact reclaimplan_Check.mono _ _ _)
  | (with_reducible exact reclaimplan_Next.mono _ _ _ _ _)
  | (with_reducible exact reclaimplan_Transit.mono _ _ _ _ _)
  | (with_reducible exact reclaimplan_Verify.mono _ _ _ _ _ _)
  | (with_reducible exact reclaimplan_Witness.mono _ _ _ _ _)
  | (with_reducible exact LeO.refl _)
  | (with_reducible exact LeO.none _)
  | (with_reducible refine LeO.ite ?_ ?_)
  | (with_reducible refine LeO.bind ?_ (fun _ => ?_))
  | exact ih0 _ _ _ _ _
  | exact ih1 _ _ _ _ _
  | exact ih2 _ _ _ _ _
  | exact estoverslaw39_awake.mono _
  | exact reclaimplan_Check.mono _ _ _
  | exact reclaimplan_Next.mono _ _ _ _ _
  | exact reclaimplan_Transit.mono _ _ _ _ _
  | exact reclaimplan_Verify.mono _ _ _ _ _ _
  | exact reclaimplan_Witness.mono _ _ _ _ _
  | exact LeO.none _
  | refine LeO.ite ?_ ?_
  | refine LeO.bind ?_ (fun _ => ?_)
set_option maxHeartbeats 8000000 in
set_option maxRecDepth 100000 in
theorem estoverslaw39_ReclaimplanEither.calls (k : Nat) (A0_0 : Option Addr) (c0_0 : Nat) (l0_0 : List (S34)) (A0_1 : Option Addr) (c0_1 : Nat) (l0_1 : List (S30)) (a0_2 : Int) (a0_3 : Bool) (r : Bool) (w : World) (hr0_0 : Kd.C k34 w A0_0 l0_0.length l0_0) (hc0_0 : l0_0.length≤c0_0) (hr0_1 : Kd.C k30 w A0_1 l0_1.length l0_1) (hc0_1 : l0_1.length≤c0_1) (h : estoverslaw39_ReclaimplanEither.f k l0_0 l0_1 a0_2 a0_3 = some r) :
 Calls Try.prog 11 #[.agg #[.slice A0_0 l0_0.length c0_0,.slice A0_1 l0_1.length c0_1,.int .i64 a0_2,.bool a0_3]] w fun e w' => e = .returned (.bool r)∧Below w.heap.size w w':=by
 have hu37:=Try.underlying37;have HR0_0:=Aside0.mk hr0_0;have HC0_0:=Aside0.mk hc0_0;clear hr0_0 hc0_0;have HR0_1:=Aside0.mk hr0_1;have HC0_1:=Aside0.mk hc0_1;clear hr0_1 hc0_1;have HB:=Aside0.mk (Below.refl w.heap.size w)
 have H : ((estoverslaw39_awake.f k).bind fun t376 => (if t376 = true then ((estoverslaw39_Few.f l0_0 l0_1 a0_2 a0_3).bind fun t377 => (estoverslaw39_ReclaimplanEither.j0 k (!t377) l0_0 l0_1 a0_2 a0_3)) else (estoverslaw39_ReclaimplanEither.j0 k true l0_0 l0_1 a0_2 a0_3))) = some r:=h;clear h;have HC2:=Aside0.mk H;clear H
 go_enter Try.func11,Try.ntmps11
 go_upto_region 1 with (first | ((with_reducible refine gate_dst (N:=1) rfl ?_);(try (refine gate_guard (by rfl) ?_;dsimp only));refine box_event ?hg (N:=1) ?hd (cs:=#[.slice A0_0 l0_0.length c0_0,.slice A0_1 l0_1.length c0_1,.int .i64 a0_2,.bool a0_3]) (t:=37) ?hr ?_;(case hd => rfl);(case hg => rfl);(case hr => first | (go_simp;done) | (go_simp;rfl));intro gb375 hg w3 hbox hb;have n0_:=Aside0.mk (below_step (by repeat (first | (with_reducible first | exact HB.out | apply b0_ | apply b1_ | apply b2_) | exact HB.out)) hb);have n1_:=Aside0.mk (hbox);have n2_:=Aside0.mk ((by rw [hg];exact (below_size (by repeat (first | (with_reducible first | exact HB.out | apply b0_ | apply b1_ | apply b2_) | exact HB.out))) : w.heap.size≤gb375));have n3_:=Aside0.mk ((by rw [hg];exact (below_size (by repeat (first | (with_reducible first | exact HB.out | apply b0_ | apply b1_ | apply b2_) | exact HB.out))) : w.heap.size≤gb375));clear HB;have HB:=n0_;have BK375:=n1_;have GW375:=n2_;have GE375:=n3_;clear n0_ n1_ n2_ n3_;clear hb hbox hg))
 (try simp only [Act.put,List.setIfInBounds_toArray,List.set_cons_zero,List.set_cons_succ])
 go_cut [12] (fun v12 wc => ∃ (kq : Nat) (x12_1 : Bool),v12 = .bool x12_1∧Aside0 (estoverslaw39_ReclaimplanEither.j0 kq x12_1 l0_0 l0_1 a0_2 a0_3 = some r)∧Aside0 (kq≤k)∧Aside0 (wc.heap[gb375]? = some (.cells #[(.slice A0_0 l0_0.length c0_0),(.slice A0_1 l0_1.length c0_1),.int .i64 a0_2,.bool a0_3] 37 (0,0)))∧Aside0 (Below w.heap.size w wc))
 case first =>
  have H:=HC2.out;clear HC2;replace H:=Option.bind_eq_some_iff.mp H;obtain ⟨t376,A40,H⟩:=H;replace H : (if t376 = true then ((estoverslaw39_Few.f l0_0 l0_1 a0_2 a0_3).bind fun t377 => (estoverslaw39_ReclaimplanEither.j0 k (!t377) l0_0 l0_1 a0_2 a0_3)) else (estoverslaw39_ReclaimplanEither.j0 k true l0_0 l0_1 a0_2 a0_3)) = some r:=H;have A4:=Aside0.mk A40;clear A40
  by_cases c5 : t376 = true
  rotate_left
  ·
   replace c5:=Bool.eq_false_iff.mpr c5;subst c5
   have H1 : (estoverslaw39_ReclaimplanEither.j0 k true l0_0 l0_1 a0_2 a0_3) = some r:=by rw [if_neg (show ¬ (false = true) by decide)] at H;exact H
   clear H;have H:=H1;clear H1;have H':=Aside0.mk H;clear H
   go_wp2_with (first | ((with_reducible refine gate_callee (f:=29) rfl ?_);refine goesL_ (some 6) rfl rfl Try.func29 (by kernel_rfl) rfl #[] rfl (by (try simp only [z3_,z4_,z5_]);first | done | rfl | (simp only [z6_,z7_];rfl)) ?_;(with_reducible refine (estoverslaw39_awake.calls k  false _ A4.out).mono ?_);rintro e w10 ⟨rfl,hb⟩;refine ⟨_,rfl,?_⟩;have n0_:=Aside0.mk (blk_below (g:=gb375) (o:=.cells #[.slice A0_0 l0_0.length c0_0,.slice A0_1 l0_1.length c0_1,.int .i64 a0_2,.bool a0_3] 37 (0,0)) (by (with_reducible repeat (first | refine blk_drewN ?_ _ | refine blk_drew ?_ | refine blk_alloc ?_ _));exact BK375.out) hb);have n1_:=Aside0.mk (below_step (by repeat (first | (with_reducible first | exact HB.out | apply b0_ | apply b1_ | apply b2_ | refine below_set ?_ GE375.out) | exact HB.out)) hb);clear BK375;clear HB;have BK375:=n0_;have HB:=n1_;clear n0_ n1_))
   go_meet
   case rel => exact ⟨_,(true),(by first | rfl | (simp;done) | (simp [*];done)),H',⟨by first | omega | exact Nat.le_refl _⟩,⟨by (with_reducible repeat (first | refine blk_drewN ?_ _ | refine blk_drew ?_ | refine blk_alloc ?_ _));exact BK375.out⟩,⟨by repeat (first | (with_reducible first | exact HB.out | apply b0_ | apply b1_ | apply b2_ | refine below_set ?_ GE375.out) | exact HB.out)⟩⟩
  subst c5
  have H1 : ((estoverslaw39_Few.f l0_0 l0_1 a0_2 a0_3).bind fun t377 => (estoverslaw39_ReclaimplanEither.j0 k (!t377) l0_0 l0_1 a0_2 a0_3)) = some r:=by rw [if_pos rfl] at H;exact H
  clear H;have H:=H1;clear H1;replace H:=Option.bind_eq_some_iff.mp H;obtain ⟨t377,A60,H⟩:=H;replace H : (estoverslaw39_ReclaimplanEither.j0 k (!t377) l0_0 l0_1 a0_2 a0_3) = some r:=H;have A6:=Aside0.mk A60;clear A60;have H':=Aside0.mk H;clear H
  go_wp2_with (first | ((with_reducible refine gate_callee (f:=29) rfl ?_);refine goesL_ (some 6) rfl rfl Try.func29 (by kernel_rfl) rfl #[] rfl (by (try simp only [z3_,z4_,z5_]);first | done | rfl | (simp only [z6_,z7_];rfl)) ?_;(with_reducible refine (estoverslaw39_awake.calls k  true _ A4.out).mono ?_);rintro e w7 ⟨rfl,hb⟩;refine ⟨_,rfl,?_⟩;have n0_:=Aside0.mk (blk_below (g:=gb375) (o:=.cells #[.slice A0_0 l0_0.length c0_0,.slice A0_1 l0_1.length c0_1,.int .i64 a0_2,.bool a0_3] 37 (0,0)) (by (with_reducible repeat (first | refine blk_drewN ?_ _ | refine blk_drew ?_ | refine blk_alloc ?_ _));exact BK375.out) hb);have n1_:=Aside0.mk (below_step (by repeat (first | (with_reducible first | exact HB.out | apply b0_ | apply b1_ | apply b2_ | refine below_set ?_ GE375.out) | exact HB.out)) hb);clear BK375;clear HB;have BK375:=n0_;have HB:=n1_;clear n0_ n1_;obtain ⟨hcz8_0,hcz8_1,hcz8_2,hcz8_3,hfz8_0,hfz8_1,hfz8_2,hfz8_3⟩:=q4_ BK375.out) | (go_at_call 21;(with_reducible refine (estoverslaw39_Few.calls _ _ l0_0 _ _ l0_1 a0_2 a0_3 t377 _ ?side1 ?side2 ?side3 ?side4 A6.out).mono ?_);(case side1 => repeat (first | exact (Kd.C_below HR0_0.out HB.out) | (with_reducible refine Kd.C_alloc ?_ _) | (with_reducible refine Kd.C_drewN ?_ _) | (with_reducible refine Kd.C_drew ?_)));(case side2 => exact HC0_0.out);(case side3 => repeat (first | exact (Kd.C_below HR0_1.out HB.out) | (with_reducible refine Kd.C_alloc ?_ _) | (with_reducible refine Kd.C_drewN ?_ _) | (with_reducible refine Kd.C_drew ?_)));(case side4 => exact HC0_1.out);rintro e w9 ⟨rfl,hb⟩;have n0_:=Aside0.mk (blk_below (g:=gb375) (o:=.cells #[.slice A0_0 l0_0.length c0_0,.slice A0_1 l0_1.length c0_1,.int .i64 a0_2,.bool a0_3] 37 (0,0)) (by (with_reducible repeat (first | refine blk_drewN ?_ _ | refine blk_drew ?_ | refine blk_alloc ?_ _));exact BK375.out) hb);have n1_:=Aside0.mk (below_step (by repeat (first | (with_reducible first | exact HB.out | apply b0_ | apply b1_ | apply b2_ | refine below_set ?_ GE375.out) | exact HB.out)) hb);clear BK375;clear HB;have BK375:=n0_;have HB:=n1_;clear n0_ n1_))
  go_meet
  case rel => exact ⟨_,(!t377),(by first | rfl | (simp;done) | (simp [*];done)),H',⟨by first | omega | exact Nat.le_refl _⟩,⟨by (with_reducible repeat (first | refine blk_drewN ?_ _ | refine blk_drew ?_ | refine blk_alloc ?_ _));exact BK375.out⟩,⟨by repeat (first | (with_reducible first | exact HB.out | apply b0_ | apply b1_ | apply b2_ | refine below_set ?_ GE375.out) | exact HB.out)⟩⟩
 case rest =>
  clear HC2;obtain ⟨kq,x12_1,rfl,HA,HJ1,BK375,HB⟩:=hcut
  cases kq with
   | zero => exact absurd HA.out (by simp [estoverslaw39_ReclaimplanEither.j0])
   | succ kj1 =>
    have H:=HA.out;clear HA;simp only [estoverslaw39_ReclaimplanEither.j0] at H;by_cases c11 : x12_1 = true
    rotate_left
    ·
     replace c11:=Bool.eq_false_iff.mpr c11;subst c11
     have H1 : ((reclaimplan_Check.f kj1 l0_0 l0_1).bind fun t379 => (if t379 = 0 then (if a0_2 < (-1) then (estoverslaw39_ReclaimplanEither.j1 kj1 true l0_0 l0_1 a0_2 a0_3) else (estoverslaw39_ReclaimplanEither.j1 kj1 (decide (a0_2≥(l0_1.length : Int))) l0_0 l0_1 a0_2 a0_3)) else (estoverslaw39_ReclaimplanEither.j1 kj1 true l0_0 l0_1 a0_2 a0_3))) = some r:=by rw [if_neg (show ¬ (false = true) by decide)] at H;exact H
     clear H;have H:=H1;clear H1;have HC14:=Aside0.mk H;clear H
     go_upto_region 3 with (fail)
     go_cut [32] (fun v32 wc => ∃ (kq : Nat) (x32_13 : Bool),v32 = .bool x32_13∧Aside0 (estoverslaw39_ReclaimplanEither.j1 kq x32_13 l0_0 l0_1 a0_2 a0_3 = some r)∧Aside0 (kq≤kj1)∧Aside0 (wc.heap[gb375]? = some (.cells #[(.slice A0_0 l0_0.length c0_0),(.slice A0_1 l0_1.length c0_1),.int .i64 a0_2,.bool a0_3] 37 (0,0)))∧Aside0 (Below w.heap.size w wc))
     case first =>
      have H:=HC14.out;clear HC14;replace H:=Option.bind_eq_some_iff.mp H;obtain ⟨t379,A150,H⟩:=H
      replace H : (if t379 = 0 then (if a0_2 < (-1) then (estoverslaw39_ReclaimplanEither.j1 kj1 true l0_0 l0_1 a0_2 a0_3) else (estoverslaw39_ReclaimplanEither.j1 kj1 (decide (a0_2≥(l0_1.length : Int))) l0_0 l0_1 a0_2 a0_3)) else (estoverslaw39_ReclaimplanEither.j1 kj1 true l0_0 l0_1 a0_2 a0_3)) = some r:=H;have A15:=Aside0.mk A150;clear A150;by_cases c16 : t379 = 0
      rotate_left
      ·
       rw [if_neg c16] at H;have c16b0 : (t379 == 0) = false:=beq_eq_false_iff_ne.mpr c16;have c16b1 : (t379 != 0) = true:=bne_iff_ne.mpr c16
       (first | rw [c16b0] | (simp only [i64_w,i32_w];rw [c16b0]) | skip)
       have H':=Aside0.mk H;clear H;obtain ⟨hcz24_0,hcz24_1,hcz24_2,hcz24_3,hfz24_0,hfz24_1,hfz24_2,hfz24_3⟩:=q4_ BK375.out
       go_wp2_with (first | ((with_reducible refine gate_callee (f:=31) rfl ?_);refine goesL_ (some 18) rfl rfl Try.func31 (by kernel_rfl) rfl #[.slice A0_0 l0_0.length c0_0,.slice A0_1 l0_1.length c0_1] rfl (by (try simp only [z3_,z4_,z5_]);first | done | rfl | (simp only [z6_,z7_];rfl)) ?_;(with_reducible refine (reclaimplan_Check.calls kj1 _ _ l0_0 _ _ l0_1 t379 _ ?side1 ?side2 ?side3 ?side4 A15.out).mono ?_);(case side1 => repeat (first | exact (Kd.C_below HR0_0.out HB.out) | (with_reducible refine Kd.C_alloc ?_ _) | (with_reducible refine Kd.C_drewN ?_ _) | (with_reducible refine Kd.C_drew ?_)));(case side2 => exact HC0_0.out);(case side3 => repeat (first | exact (Kd.C_below HR0_1.out HB.out) | (with_reducible refine Kd.C_alloc ?_ _) | (with_reducible refine Kd.C_drewN ?_ _) | (with_reducible refine Kd.C_drew ?_)));(case side4 => exact HC0_1.out);rintro e w25 ⟨rfl,hb⟩;refine ⟨_,rfl,?_⟩;have n0_:=Aside0.mk (blk_below (g:=gb375) (o:=.cells #[.slice A0_0 l0_0.length c0_0,.slice A0_1 l0_1.length c0_1,.int .i64 a0_2,.bool a0_3] 37 (0,0)) (by (with_reducible repeat (first | refine blk_drewN ?_ _ | refine blk_drew ?_ | refine blk_alloc ?_ _));exact BK375.out) hb);have n1_:=Aside0.mk (below_step (by repeat (first | (with_reducible first | exact HB.out | apply b0_ | apply b1_ | apply b2_ | refine below_set ?_ GE375.out) | exact HB.out)) hb);clear BK375;clear HB;have BK375:=n0_;have HB:=n1_;clear n0_ n1_))
       go_meet
       case rel => exact ⟨_,(true),(by first | rfl | (simp;done) | (simp [*];done)),H',⟨by have:=HJ1.out;first | omega | exact Nat.le_refl _⟩,⟨by (with_reducible repeat (first | refine blk_drewN ?_ _ | refine blk_drew ?_ | refine blk_alloc ?_ _));exact BK375.out⟩,⟨by repeat (first | (with_reducible first | exact HB.out | apply b0_ | apply b1_ | apply b2_ | refine below_set ?_ GE375.out) | exact HB.out)⟩⟩
      rw [if_pos c16] at H;have c16b0 : (t379 == 0) = true:=beq_iff_eq.mpr c16;have c16b1 : (t379 != 0) = false:=bne_eq_false_iff_eq.mpr c16;clear c16
      (first | rw [c16b0] | (simp only [i64_w,i32_w];rw [c16b0]) | skip)
      by_cases c17 : a0_2 < (-1)
      rotate_left
      ·
       rw [if_neg c17] at H;have c17b0 : decide (a0_2 < (-1)) = false:=decide_eq_false c17;clear c17;have H':=Aside0.mk H;clear H;obtain ⟨hcz21_0,hcz21_1,hcz21_2,hcz21_3,hfz21_0,hfz21_1,hfz21_2,hfz21_3⟩:=q4_ BK375.out
       go_wp2_with (first | ((with_reducible refine gate_callee (f:=31) rfl ?_);refine goesL_ (some 18) rfl rfl Try.func31 (by kernel_rfl) rfl #[.slice A0_0 l0_0.length c0_0,.slice A0_1 l0_1.length c0_1] rfl (by (try simp only [z3_,z4_,z5_]);first | done | rfl | (simp only [z6_,z7_];rfl)) ?_;(with_reducible refine (reclaimplan_Check.calls kj1 _ _ l0_0 _ _ l0_1 t379 _ ?side1 ?side2 ?side3 ?side4 A15.out).mono ?_);(case side1 => repeat (first | exact (Kd.C_below HR0_0.out HB.out) | (with_reducible refine Kd.C_alloc ?_ _) | (with_reducible refine Kd.C_drewN ?_ _) | (with_reducible refine Kd.C_drew ?_)));(case side2 => exact HC0_0.out);(case side3 => repeat (first | exact (Kd.C_below HR0_1.out HB.out) | (with_reducible refine Kd.C_alloc ?_ _) | (with_reducible refine Kd.C_drewN ?_ _) | (with_reducible refine Kd.C_drew ?_)));(case side4 => exact HC0_1.out);rintro e w22 ⟨rfl,hb⟩;refine ⟨_,rfl,?_⟩;have n0_:=Aside0.mk (blk_below (g:=gb375) (o:=.cells #[.slice A0_0 l0_0.length c0_0,.slice A0_1 l0_1.length c0_1,.int .i64 a0_2,.bool a0_3] 37 (0,0)) (by (with_reducible repeat (first | refine blk_drewN ?_ _ | refine blk_drew ?_ | refine blk_alloc ?_ _));exact BK375.out) hb);have n1_:=Aside0.mk (below_step (by repeat (first | (with_reducible first | exact HB.out | apply b0_ | apply b1_ | apply b2_ | refine below_set ?_ GE375.out) | exact HB.out)) hb);clear BK375;clear HB;have BK375:=n0_;have HB:=n1_;clear n0_ n1_;obtain ⟨hcz23_0,hcz23_1,hcz23_2,hcz23_3,hfz23_0,hfz23_1,hfz23_2,hfz23_3⟩:=q4_ BK375.out))
       go_meet
       case rel => exact ⟨_,(decide (a0_2≥(l0_1.length : Int))),(by first | rfl | (simp;done) | (simp [*];done)),H',⟨by have:=HJ1.out;first | omega | exact Nat.le_refl _⟩,⟨by (with_reducible repeat (first | refine blk_drewN ?_ _ | refine blk_drew ?_ | refine blk_alloc ?_ _));exact BK375.out⟩,⟨by repeat (first | (with_reducible first | exact HB.out | apply b0_ | apply b1_ | apply b2_ | refine below_set ?_ GE375.out) | exact HB.out)⟩⟩
      rw [if_pos c17] at H;have c17b0 : decide (a0_2 < (-1)) = true:=decide_eq_true c17;clear c17;have H':=Aside0.mk H;clear H;obtain ⟨hcz18_0,hcz18_1,hcz18_2,hcz18_3,hfz18_0,hfz18_1,hfz18_2,hfz18_3⟩:=q4_ BK375.out
      go_wp2_with (first | ((with_reducible refine gate_callee (f:=31) rfl ?_);refine goesL_ (some 18) rfl rfl Try.func31 (by kernel_rfl) rfl #[.slice A0_0 l0_0.length c0_0,.slice A0_1 l0_1.length c0_1] rfl (by (try simp only [z3_,z4_,z5_]);first | done | rfl | (simp only [z6_,z7_];rfl)) ?_;(with_reducible refine (reclaimplan_Check.calls kj1 _ _ l0_0 _ _ l0_1 t379 _ ?side1 ?side2 ?side3 ?side4 A15.out).mono ?_);(case side1 => repeat (first | exact (Kd.C_below HR0_0.out HB.out) | (with_reducible refine Kd.C_alloc ?_ _) | (with_reducible refine Kd.C_drewN ?_ _) | (with_reducible refine Kd.C_drew ?_)));(case side2 => exact HC0_0.out);(case side3 => repeat (first | exact (Kd.C_below HR0_1.out HB.out) | (with_reducible refine Kd.C_alloc ?_ _) | (with_reducible refine Kd.C_drewN ?_ _) | (with_reducible refine Kd.C_drew ?_)));(case side4 => exact HC0_1.out);rintro e w19 ⟨rfl,hb⟩;refine ⟨_,rfl,?_⟩;have n0_:=Aside0.mk (blk_below (g:=gb375) (o:=.cells #[.slice A0_0 l0_0.length c0_0,.slice A0_1 l0_1.length c0_1,.int .i64 a0_2,.bool a0_3] 37 (0,0)) (by (with_reducible repeat (first | refine blk_drewN ?_ _ | refine blk_drew ?_ | refine blk_alloc ?_ _));exact BK375.out) hb);have n1_:=Aside0.mk (below_step (by repeat (first | (with_reducible first | exact HB.out | apply b0_ | apply b1_ | apply b2_ | refine below_set ?_ GE375.out) | exact HB.out)) hb);clear BK375;clear HB;have BK375:=n0_;have HB:=n1_;clear n0_ n1_;obtain ⟨hcz20_0,hcz20_1,hcz20_2,hcz20_3,hfz20_0,hfz20_1,hfz20_2,hfz20_3⟩:=q4_ BK375.out))
      go_meet
      case rel => exact ⟨_,(true),(by first | rfl | (simp;done) | (simp [*];done)),H',⟨by have:=HJ1.out;first | omega | exact Nat.le_refl _⟩,⟨by (with_reducible repeat (first | refine blk_drewN ?_ _ | refine blk_drew ?_ | refine blk_alloc ?_ _));exact BK375.out⟩,⟨by repeat (first | (with_reducible first | exact HB.out | apply b0_ | apply b1_ | apply b2_ | refine below_set ?_ GE375.out) | exact HB.out)⟩⟩
     case rest =>
      clear HC14;obtain ⟨kq,x32_13,rfl,HA,HJ13,BK375,HB⟩:=hcut
      cases kq with
       | zero => exact absurd HA.out (by simp [estoverslaw39_ReclaimplanEither.j1])
       | succ kj13 =>
        have H:=HA.out;clear HA;simp only [estoverslaw39_ReclaimplanEither.j1] at H;by_cases c26 : x32_13 = true
        rotate_left
        ·
         replace c26:=Bool.eq_false_iff.mpr c26;subst c26
         have H1 : ((reclaimplan_Next.f kj13 l0_0 l0_1 a0_2 a0_3).bind fun t381 => (if t381≥0 then (estoverslaw39_ReclaimplanEither.j2 kj13 true l0_0 l0_1 a0_2 a0_3) else ((reclaimplan_Transit.f kj13 l0_0 l0_1 a0_2 a0_3).bind fun t382 => (estoverslaw39_ReclaimplanEither.j2 kj13 t382 l0_0 l0_1 a0_2 a0_3)))) = some r:=by rw [if_neg (show ¬ (false = true) by decide)] at H;exact H
         clear H;have H:=H1;clear H1;have HC30:=Aside0.mk H;clear H
         go_upto_region 5 with (fail)
         go_cut [3] (fun v3 wc => ∃ (kq : Nat) (x3_29 : Bool),v3 = .bool x3_29∧Aside0 (estoverslaw39_ReclaimplanEither.j2 kq x3_29 l0_0 l0_1 a0_2 a0_3 = some r)∧Aside0 (kq≤kj13)∧Aside0 (wc.heap[gb375]? = some (.cells #[(.slice A0_0 l0_0.length c0_0),(.slice A0_1 l0_1.length c0_1),.int .i64 a0_2,.bool a0_3] 37 (0,0)))∧Aside0 (Below w.heap.size w wc))
         case first =>
          have H:=HC30.out;clear HC30;replace H:=Option.bind_eq_some_iff.mp H;obtain ⟨t381,A310,H⟩:=H;replace H : (if t381≥0 then (estoverslaw39_ReclaimplanEither.j2 kj13 true l0_0 l0_1 a0_2 a0_3) else ((reclaimplan_Transit.f kj13 l0_0 l0_1 a0_2 a0_3).bind fun t382 => (estoverslaw39_ReclaimplanEither.j2 kj13 t382 l0_0 l0_1 a0_2 a0_3))) = some r:=H;have A31:=Aside0.mk A310;clear A310
          by_cases c32 : t381≥0
          rotate_left
          ·
           rw [if_neg c32] at H;have c32b0 : decide (0≤t381) = false:=decide_eq_false c32;clear c32
           (first | rw [c32b0] | (simp only [i64_w,i32_w];rw [c32b0]) | skip)
           replace H:=Option.bind_eq_some_iff.mp H;obtain ⟨t382,A350,H⟩:=H;replace H : (estoverslaw39_ReclaimplanEither.j2 kj13 t382 l0_0 l0_1 a0_2 a0_3) = some r:=H;have A35:=Aside0.mk A350;clear A350;have H':=Aside0.mk H;clear H;obtain ⟨hcz36_0,hcz36_1,hcz36_2,hcz36_3,hfz36_0,hfz36_1,hfz36_2,hfz36_3⟩:=q4_ BK375.out
           go_wp2_with (first | ((with_reducible refine gate_callee (f:=20) rfl ?_);refine goesL_ (some 51) rfl rfl Try.func20 (by kernel_rfl) rfl #[.slice A0_0 l0_0.length c0_0,.slice A0_1 l0_1.length c0_1,.int .i64 a0_2,.bool a0_3] rfl (by (try simp only [z3_,z4_,z5_]);first | done | rfl | (simp only [z6_,z7_];rfl)) ?_;(with_reducible refine (reclaimplan_Next.calls kj13 _ _ l0_0 _ _ l0_1 a0_2 a0_3 t381 _ ?side1 ?side2 ?side3 ?side4 A31.out).mono ?_);(case side1 => repeat (first | exact (Kd.C_below HR0_0.out HB.out) | (with_reducible refine Kd.C_alloc ?_ _) | (with_reducible refine Kd.C_drewN ?_ _) | (with_reducible refine Kd.C_drew ?_)));(case side2 => exact HC0_0.out);(case side3 => repeat (first | exact (Kd.C_below HR0_1.out HB.out) | (with_reducible refine Kd.C_alloc ?_ _) | (with_reducible refine Kd.C_drewN ?_ _) | (with_reducible refine Kd.C_drew ?_)));(case side4 => exact HC0_1.out);rintro e w37 ⟨rfl,hb⟩;refine ⟨_,rfl,?_⟩;have n0_:=Aside0.mk (blk_below (g:=gb375) (o:=.cells #[.slice A0_0 l0_0.length c0_0,.slice A0_1 l0_1.length c0_1,.int .i64 a0_2,.bool a0_3] 37 (0,0)) (by (with_reducible repeat (first | refine blk_drewN ?_ _ | refine blk_drew ?_ | refine blk_alloc ?_ _));exact BK375.out) hb);have n1_:=Aside0.mk (below_step (by repeat (first | (with_reducible first | exact HB.out | apply b0_ | apply b1_ | apply b2_ | refine below_set ?_ GE375.out) | exact HB.out)) hb);clear BK375;clear HB;have BK375:=n0_;have HB:=n1_;clear n0_ n1_;obtain ⟨hcz38_0,hcz38_1,hcz38_2,hcz38_3,hfz38_0,hfz38_1,hfz38_2,hfz38_3⟩:=q4_ BK375.out) | (go_at_call 24;(with_reducible refine (reclaimplan_Transit.calls kj13 _ _ l0_0 _ _ l0_1 a0_2 a0_3 t382 _ ?side1 ?side2 ?side3 ?side4 A35.out).mono ?_);(case side1 => repeat (first | exact (Kd.C_below HR0_0.out HB.out) | (with_reducible refine Kd.C_alloc ?_ _) | (with_reducible refine Kd.C_drewN ?_ _) | (with_reducible refine Kd.C_drew ?_)));(case side2 => exact HC0_0.out);(case side3 => repeat (first | exact (Kd.C_below HR0_1.out HB.out) | (with_reducible refine Kd.C_alloc ?_ _) | (with_reducible refine Kd.C_drewN ?_ _) | (with_reducible refine Kd.C_drew ?_)));(case side4 => exact HC0_1.out);rintro e w39 ⟨rfl,hb⟩;have n0_:=Aside0.mk (blk_below (g:=gb375) (o:=.cells #[.slice A0_0 l0_0.length c0_0,.slice A0_1 l0_1.length c0_1,.int .i64 a0_2,.bool a0_3] 37 (0,0)) (by (with_reducible repeat (first | refine blk_drewN ?_ _ | refine blk_drew ?_ | refine blk_alloc ?_ _));exact BK375.out) hb);have n1_:=Aside0.mk (below_step (by repeat (first | (with_reducible first | exact HB.out | apply b0_ | apply b1_ | apply b2_ | refine below_set ?_ GE375.out) | exact HB.out)) hb);clear BK375;clear HB;have BK375:=n0_;have HB:=n1_;clear n0_ n1_))
           go_meet
           case rel => exact ⟨_,(t382),(by first | rfl | (simp;done) | (simp [*];done)),H',⟨by have:=HJ1.out;have:=HJ13.out;first | omega | exact Nat.le_refl _⟩,⟨by (with_reducible repeat (first | refine blk_drewN ?_ _ | refine blk_drew ?_ | refine blk_alloc ?_ _));exact BK375.out⟩,⟨by repeat (first | (with_reducible first | exact HB.out | apply b0_ | apply b1_ | apply b2_ | refine below_set ?_ GE375.out) | exact HB.out)⟩⟩
          rw [if_pos c32] at H;have c32b0 : decide (0≤t381) = true:=decide_eq_true c32;clear c32
          (first | rw [c32b0] | (simp only [i64_w,i32_w];rw [c32b0]) | skip)
          have H':=Aside0.mk H;clear H;obtain ⟨hcz33_0,hcz33_1,hcz33_2,hcz33_3,hfz33_0,hfz33_1,hfz33_2,hfz33_3⟩:=q4_ BK375.out
          go_wp2_with (first | ((with_reducible refine gate_callee (f:=20) rfl ?_);refine goesL_ (some 51) rfl rfl Try.func20 (by kernel_rfl) rfl #[.slice A0_0 l0_0.length c0_0,.slice A0_1 l0_1.length c0_1,.int .i64 a0_2,.bool a0_3] rfl (by (try simp only [z3_,z4_,z5_]);first | done | rfl | (simp only [z6_,z7_];rfl)) ?_;(with_reducible refine (reclaimplan_Next.calls kj13 _ _ l0_0 _ _ l0_1 a0_2 a0_3 t381 _ ?side1 ?side2 ?side3 ?side4 A31.out).mono ?_);(case side1 => repeat (first | exact (Kd.C_below HR0_0.out HB.out) | (with_reducible refine Kd.C_alloc ?_ _) | (with_reducible refine Kd.C_drewN ?_ _) | (with_reducible refine Kd.C_drew ?_)));(case side2 => exact HC0_0.out);(case side3 => repeat (first | exact (Kd.C_below HR0_1.out HB.out) | (with_reducible refine Kd.C_alloc ?_ _) | (with_reducible refine Kd.C_drewN ?_ _) | (with_reducible refine Kd.C_drew ?_)));(case side4 => exact HC0_1.out);rintro e w34 ⟨rfl,hb⟩;refine ⟨_,rfl,?_⟩;have n0_:=Aside0.mk (blk_below (g:=gb375) (o:=.cells #[.slice A0_0 l0_0.length c0_0,.slice A0_1 l0_1.length c0_1,.int .i64 a0_2,.bool a0_3] 37 (0,0)) (by (with_reducible repeat (first | refine blk_drewN ?_ _ | refine blk_drew ?_ | refine blk_alloc ?_ _));exact BK375.out) hb);have n1_:=Aside0.mk (below_step (by repeat (first | (with_reducible first | exact HB.out | apply b0_ | apply b1_ | apply b2_ | refine below_set ?_ GE375.out) | exact HB.out)) hb);clear BK375;clear HB;have BK375:=n0_;have HB:=n1_;clear n0_ n1_))
          go_meet
          case rel => exact ⟨_,(true),(by first | rfl | (simp;done) | (simp [*];done)),H',⟨by have:=HJ1.out;have:=HJ13.out;first | omega | exact Nat.le_refl _⟩,⟨by (with_reducible repeat (first | refine blk_drewN ?_ _ | refine blk_drew ?_ | refine blk_alloc ?_ _));exact BK375.out⟩,⟨by repeat (first | (with_reducible first | exact HB.out | apply b0_ | apply b1_ | apply b2_ | refine below_set ?_ GE375.out) | exact HB.out)⟩⟩
         case rest =>
          clear HC30;obtain ⟨kq,x3_29,rfl,HA,HJ29,BK375,HB⟩:=hcut
          cases kq with
           | zero => exact absurd HA.out (by simp [estoverslaw39_ReclaimplanEither.j2])
           | succ kj29 =>
            have H:=HA.out;clear HA;simp only [estoverslaw39_ReclaimplanEither.j2] at H;replace H:=Option.bind_eq_some_iff.mp H;obtain ⟨t383,A400,H⟩:=H;replace H : ((reclaimplan_Verify.f kj29 l0_0 l0_1 a0_2 a0_3 t383).bind fun t386 => (if x3_29 = true then (some (t386 == 19)) else (some (t386 == 0)))) = some r:=H;have A40:=Aside0.mk A400;clear A400;replace H:=Option.bind_eq_some_iff.mp H
            obtain ⟨t386,A410,H⟩:=H;replace H : (if x3_29 = true then (some (t386 == 19)) else (some (t386 == 0))) = some r:=H;have A41:=Aside0.mk A410;clear A410;by_cases c42 : x3_29 = true
            rotate_left
            ·
             replace c42:=Bool.eq_false_iff.mpr c42;subst c42
             have H1 : (some (t386 == 0)) = some r:=by rw [if_neg (show ¬ (false = true) by decide)] at H;exact H
             clear H;have H:=H1;clear H1;obtain rfl:=Option.some.inj H;obtain ⟨hcz48_0,hcz48_1,hcz48_2,hcz48_3,hfz48_0,hfz48_1,hfz48_2,hfz48_3⟩:=q4_ BK375.out
             go_wp2_with (first | ((with_reducible refine gate_callee (f:=22) rfl ?_);refine goesL_ (some 72) rfl rfl Try.func22 (by kernel_rfl) rfl #[.slice A0_0 l0_0.length c0_0,.slice A0_1 l0_1.length c0_1,.int .i64 a0_2,.bool a0_3] rfl (by (try simp only [z3_,z4_,z5_]);first | done | rfl | (simp only [z6_,z7_];rfl)) ?_;(with_reducible refine (reclaimplan_Witness.calls kj29 _ _ l0_0 _ _ l0_1 a0_2 a0_3 t383 _ ?side1 ?side2 ?side3 ?side4 A40.out).mono ?_);(case side1 => repeat (first | exact (Kd.C_below HR0_0.out HB.out) | (with_reducible refine Kd.C_alloc ?_ _) | (with_reducible refine Kd.C_drewN ?_ _) | (with_reducible refine Kd.C_drew ?_)));(case side2 => exact HC0_0.out);(case side3 => repeat (first | exact (Kd.C_below HR0_1.out HB.out) | (with_reducible refine Kd.C_alloc ?_ _) | (with_reducible refine Kd.C_drewN ?_ _) | (with_reducible refine Kd.C_drew ?_)));(case side4 => exact HC0_1.out);rintro e w49 ⟨v384,rfl,ho0,hb⟩;refine ⟨_,rfl,?_⟩;have n0_:=Aside0.mk (Kd.R_lower ho0 (below_size (by repeat (first | (with_reducible first | exact HB.out | apply b0_ | apply b1_ | apply b2_ | refine below_set ?_ GE375.out) | exact HB.out))));have n1_:=Aside0.mk (blk_below (g:=gb375) (o:=.cells #[.slice A0_0 l0_0.length c0_0,.slice A0_1 l0_1.length c0_1,.int .i64 a0_2,.bool a0_3] 37 (0,0)) (by (with_reducible repeat (first | refine blk_drewN ?_ _ | refine blk_drew ?_ | refine blk_alloc ?_ _));exact BK375.out) hb);have n2_:=Aside0.mk (below_step (by repeat (first | (with_reducible first | exact HB.out | apply b0_ | apply b1_ | apply b2_ | refine below_set ?_ GE375.out) | exact HB.out)) hb);clear BK375;clear HB;have HO385:=n0_;have BK375:=n1_;have HB:=n2_;clear n0_ n1_ n2_;(try clear ho0);obtain ⟨hcz50_0,hcz50_1,hcz50_2,hcz50_3,hfz50_0,hfz50_1,hfz50_2,hfz50_3⟩:=q4_ BK375.out;obtain ⟨Ao51,co51,eo51⟩:=Kd.R_slice HO385.out;subst eo51) | ((with_reducible refine gate_callee (f:=23) rfl ?_);refine goesL_ (some 82) rfl rfl Try.func23 (by kernel_rfl) rfl #[.slice A0_0 l0_0.length c0_0,.slice A0_1 l0_1.length c0_1,.int .i64 a0_2,.bool a0_3,.slice Ao51 t383.length co51] rfl (by (try simp only [z3_,z4_,z5_]);first | done | rfl | (simp only [z6_,z7_];rfl)) ?_;(with_reducible refine (reclaimplan_Verify.calls kj29 _ _ l0_0 _ _ l0_1 a0_2 a0_3 _ _ t383 t386 _ ?side1 ?side2 ?side3 ?side4 ?side5 ?side6 A41.out).mono ?_);(case side1 => repeat (first | exact (Kd.C_below HR0_0.out HB.out) | (with_reducible refine Kd.C_alloc ?_ _) | (with_reducible refine Kd.C_drewN ?_ _) | (with_reducible refine Kd.C_drew ?_)));(case side2 => exact HC0_0.out);(case side3 => repeat (first | exact (Kd.C_below HR0_1.out HB.out) | (with_reducible refine Kd.C_alloc ?_ _) | (with_reducible refine Kd.C_drewN ?_ _) | (with_reducible refine Kd.C_drew ?_)));(case side4 => exact HC0_1.out);(case side5 => repeat (first | exact (Kd.R_reads' HO385.out).2.2 | (with_reducible refine Kd.C_alloc ?_ _) | (with_reducible refine Kd.C_drewN ?_ _) | (with_reducible refine Kd.C_drew ?_)));(case side6 => exact (Kd.R_reads' HO385.out).2.1);rintro e w52 ⟨rfl,hb⟩;refine ⟨_,rfl,?_⟩;have n0_:=Aside0.mk (Kd.R_below (by (with_reducible repeat (first | apply Kd.R_alloc | apply Kd.R_drewN | apply Kd.R_drew));exact HO385.out) hb);have n1_:=Aside0.mk (blk_below (g:=gb375) (o:=.cells #[.slice A0_0 l0_0.length c0_0,.slice A0_1 l0_1.length c0_1,.int .i64 a0_2,.bool a0_3] 37 (0,0)) (by (with_reducible repeat (first | refine blk_drewN ?_ _ | refine blk_drew ?_ | refine blk_alloc ?_ _));exact BK375.out) hb);have n2_:=Aside0.mk (below_step (by repeat (first | (with_reducible first | exact HB.out | apply b0_ | apply b1_ | apply b2_ | refine below_set ?_ GE375.out) | exact HB.out)) hb);clear HO385;clear BK375;clear HB;have HO385:=n0_;have BK375:=n1_;have HB:=n2_;clear n0_ n1_ n2_))
             go_ret;exact ⟨by first | rfl | (simp [errW_none,errW_some] <;> rfl) | (simp [*,errW_none,errW_some] <;> rfl),by repeat (first | (with_reducible first | exact HB.out | apply b0_ | apply b1_ | apply b2_ | refine below_set ?_ GE375.out) | exact HB.out)⟩
            subst c42
            have H1 : (some (t386 == 19)) = some r:=by rw [if_pos rfl] at H;exact H
            clear H;have H:=H1;clear H1;obtain rfl:=Option.some.inj H;obtain ⟨hcz43_0,hcz43_1,hcz43_2,hcz43_3,hfz43_0,hfz43_1,hfz43_2,hfz43_3⟩:=q4_ BK375.out
            go_wp2_with (first | ((with_reducible refine gate_callee (f:=22) rfl ?_);refine goesL_ (some 72) rfl rfl Try.func22 (by kernel_rfl) rfl #[.slice A0_0 l0_0.length c0_0,.slice A0_1 l0_1.length c0_1,.int .i64 a0_2,.bool a0_3] rfl (by (try simp only [z3_,z4_,z5_]);first | done | rfl | (simp only [z6_,z7_];rfl)) ?_;(with_reducible refine (reclaimplan_Witness.calls kj29 _ _ l0_0 _ _ l0_1 a0_2 a0_3 t383 _ ?side1 ?side2 ?side3 ?side4 A40.out).mono ?_);(case side1 => repeat (first | exact (Kd.C_below HR0_0.out HB.out) | (with_reducible refine Kd.C_alloc ?_ _) | (with_reducible refine Kd.C_drewN ?_ _) | (with_reducible refine Kd.C_drew ?_)));(case side2 => exact HC0_0.out);(case side3 => repeat (first | exact (Kd.C_below HR0_1.out HB.out) | (with_reducible refine Kd.C_alloc ?_ _) | (with_reducible refine Kd.C_drewN ?_ _) | (with_reducible refine Kd.C_drew ?_)));(case side4 => exact HC0_1.out);rintro e w44 ⟨v384,rfl,ho0,hb⟩;refine ⟨_,rfl,?_⟩;have n0_:=Aside0.mk (Kd.R_lower ho0 (below_size (by repeat (first | (with_reducible first | exact HB.out | apply b0_ | apply b1_ | apply b2_ | refine below_set ?_ GE375.out) | exact HB.out))));have n1_:=Aside0.mk (blk_below (g:=gb375) (o:=.cells #[.slice A0_0 l0_0.length c0_0,.slice A0_1 l0_1.length c0_1,.int .i64 a0_2,.bool a0_3] 37 (0,0)) (by (with_reducible repeat (first | refine blk_drewN ?_ _ | refine blk_drew ?_ | refine blk_alloc ?_ _));exact BK375.out) hb);have n2_:=Aside0.mk (below_step (by repeat (first | (with_reducible first | exact HB.out | apply b0_ | apply b1_ | apply b2_ | refine below_set ?_ GE375.out) | exact HB.out)) hb);clear BK375;clear HB;have HO385:=n0_;have BK375:=n1_;have HB:=n2_;clear n0_ n1_ n2_;(try clear ho0);obtain ⟨hcz45_0,hcz45_1,hcz45_2,hcz45_3,hfz45_0,hfz45_1,hfz45_2,hfz45_3⟩:=q4_ BK375.out;obtain ⟨Ao46,co46,eo46⟩:=Kd.R_slice HO385.out;subst eo46) | ((with_reducible refine gate_callee (f:=23) rfl ?_);refine goesL_ (some 82) rfl rfl Try.func23 (by kernel_rfl) rfl #[.slice A0_0 l0_0.length c0_0,.slice A0_1 l0_1.length c0_1,.int .i64 a0_2,.bool a0_3,.slice Ao46 t383.length co46] rfl (by (try simp only [z3_,z4_,z5_]);first | done | rfl | (simp only [z6_,z7_];rfl)) ?_;(with_reducible refine (reclaimplan_Verify.calls kj29 _ _ l0_0 _ _ l0_1 a0_2 a0_3 _ _ t383 t386 _ ?side1 ?side2 ?side3 ?side4 ?side5 ?side6 A41.out).mono ?_);(case side1 => repeat (first | exact (Kd.C_below HR0_0.out HB.out) | (with_reducible refine Kd.C_alloc ?_ _) | (with_reducible refine Kd.C_drewN ?_ _) | (with_reducible refine Kd.C_drew ?_)));(case side2 => exact HC0_0.out);(case side3 => repeat (first | exact (Kd.C_below HR0_1.out HB.out) | (with_reducible refine Kd.C_alloc ?_ _) | (with_reducible refine Kd.C_drewN ?_ _) | (with_reducible refine Kd.C_drew ?_)));(case side4 => exact HC0_1.out);(case side5 => repeat (first | exact (Kd.R_reads' HO385.out).2.2 | (with_reducible refine Kd.C_alloc ?_ _) | (with_reducible refine Kd.C_drewN ?_ _) | (with_reducible refine Kd.C_drew ?_)));(case side6 => exact (Kd.R_reads' HO385.out).2.1);rintro e w47 ⟨rfl,hb⟩;refine ⟨_,rfl,?_⟩;have n0_:=Aside0.mk (Kd.R_below (by (with_reducible repeat (first | apply Kd.R_alloc | apply Kd.R_drewN | apply Kd.R_drew));exact HO385.out) hb);have n1_:=Aside0.mk (blk_below (g:=gb375) (o:=.cells #[.slice A0_0 l0_0.length c0_0,.slice A0_1 l0_1.length c0_1,.int .i64 a0_2,.bool a0_3] 37 (0,0)) (by (with_reducible repeat (first | refine blk_drewN ?_ _ | refine blk_drew ?_ | refine blk_alloc ?_ _));exact BK375.out) hb);have n2_:=Aside0.mk (below_step (by repeat (first | (with_reducible first | exact HB.out | apply b0_ | apply b1_ | apply b2_ | refine below_set ?_ GE375.out) | exact HB.out)) hb);clear HO385;clear BK375;clear HB;have HO385:=n0_;have BK375:=n1_;have HB:=n2_;clear n0_ n1_ n2_))
            go_ret;exact ⟨by first | rfl | (simp [errW_none,errW_some] <;> rfl) | (simp [*,errW_none,errW_some] <;> rfl),by repeat (first | (with_reducible first | exact HB.out | apply b0_ | apply b1_ | apply b2_ | refine below_set ?_ GE375.out) | exact HB.out)⟩
        subst c26
        have H1 : ((reclaimplan_Next.f kj13 l0_0 l0_1 a0_2 a0_3).bind fun t380 => (some (t380 == (-1)))) = some r:=by rw [if_pos rfl] at H;exact H
        clear H;have H:=H1;clear H1;replace H:=Option.bind_eq_some_iff.mp H;obtain ⟨t380,A270,H⟩:=H;replace H : (some (t380 == (-1))) = some r:=H;have A27:=Aside0.mk A270;clear A270;obtain rfl:=Option.some.inj H;obtain ⟨hcz28_0,hcz28_1,hcz28_2,hcz28_3,hfz28_0,hfz28_1,hfz28_2,hfz28_3⟩:=q4_ BK375.out
        go_wp2_with (first | ((with_reducible refine gate_callee (f:=20) rfl ?_);refine goesL_ (some 41) rfl rfl Try.func20 (by kernel_rfl) rfl #[.slice A0_0 l0_0.length c0_0,.slice A0_1 l0_1.length c0_1,.int .i64 a0_2,.bool a0_3] rfl (by (try simp only [z3_,z4_,z5_]);first | done | rfl | (simp only [z6_,z7_];rfl)) ?_;(with_reducible refine (reclaimplan_Next.calls kj13 _ _ l0_0 _ _ l0_1 a0_2 a0_3 t380 _ ?side1 ?side2 ?side3 ?side4 A27.out).mono ?_);(case side1 => repeat (first | exact (Kd.C_below HR0_0.out HB.out) | (with_reducible refine Kd.C_alloc ?_ _) | (with_reducible refine Kd.C_drewN ?_ _) | (with_reducible refine Kd.C_drew ?_)));(case side2 => exact HC0_0.out);(case side3 => repeat (first | exact (Kd.C_below HR0_1.out HB.out) | (with_reducible refine Kd.C_alloc ?_ _) | (with_reducible refine Kd.C_drewN ?_ _) | (with_reducible refine Kd.C_drew ?_)));(case side4 => exact HC0_1.out);rintro e w29 ⟨rfl,hb⟩;refine ⟨_,rfl,?_⟩;have n0_:=Aside0.mk (blk_below (g:=gb375) (o:=.cells #[.slice A0_0 l0_0.length c0_0,.slice A0_1 l0_1.length c0_1,.int .i64 a0_2,.bool a0_3] 37 (0,0)) (by (with_reducible repeat (first | refine blk_drewN ?_ _ | refine blk_drew ?_ | refine blk_alloc ?_ _));exact BK375.out) hb);have n1_:=Aside0.mk (below_step (by repeat (first | (with_reducible first | exact HB.out | apply b0_ | apply b1_ | apply b2_ | refine below_set ?_ GE375.out) | exact HB.out)) hb);clear BK375;clear HB;have BK375:=n0_;have HB:=n1_;clear n0_ n1_))
        go_ret;exact ⟨by first | rfl | (simp [errW_none,errW_some] <;> rfl) | (simp [*,errW_none,errW_some] <;> rfl),by repeat (first | (with_reducible first | exact HB.out | apply b0_ | apply b1_ | apply b2_ | refine below_set ?_ GE375.out) | exact HB.out)⟩
    subst c11
    have H1 : ((estoverslaw39_awake.f kj1).bind fun t378 => (some t378)) = some r:=by rw [if_pos rfl] at H;exact H
    clear H;have H:=H1;clear H1;replace H:=Option.bind_eq_some_iff.mp H;obtain ⟨t378,A120,H⟩:=H;replace H : (some t378) = some r:=H;have A12:=Aside0.mk A120;clear A120;obtain rfl:=Option.some.inj H
    go_wp2_with (first | ((with_reducible refine gate_callee (f:=29) rfl ?_);refine goesL_ (some 13) rfl rfl Try.func29 (by kernel_rfl) rfl #[] rfl (by (try simp only [z3_,z4_,z5_]);first | done | rfl | (simp only [z6_,z7_];rfl)) ?_;(with_reducible refine (estoverslaw39_awake.calls kj1  t378 _ A12.out).mono ?_);rintro e w13 ⟨rfl,hb⟩;refine ⟨_,rfl,?_⟩;have n0_:=Aside0.mk (blk_below (g:=gb375) (o:=.cells #[.slice A0_0 l0_0.length c0_0,.slice A0_1 l0_1.length c0_1,.int .i64 a0_2,.bool a0_3] 37 (0,0)) (by (with_reducible repeat (first | refine blk_drewN ?_ _ | refine blk_drew ?_ | refine blk_alloc ?_ _));exact BK375.out) hb);have n1_:=Aside0.mk (below_step (by repeat (first | (with_reducible first | exact HB.out | apply b0_ | apply b1_ | apply b2_ | refine below_set ?_ GE375.out) | exact HB.out)) hb);clear BK375;clear HB;have BK375:=n0_;have HB:=n1_;clear n0_ n1_))
    go_ret;exact ⟨by first | rfl | (simp [errW_none,errW_some] <;> rfl) | (simp [*,errW_none,errW_some] <;> rfl),by repeat (first | (with_reducible first | exact HB.out | apply b0_ | apply b1_ | apply b2_ | refine below_set ?_ GE375.out) | exact HB.out)⟩
end Go.Proofs.Ytnmenfkmndnoaaa.Pr
