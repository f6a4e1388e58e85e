-- Written by a program of this session (a changed copy of the kit's printer). Not trusted: Lean checks it.
import Derived.Test.YtnmenfkmndnoaaaM0
import Derived.Test.YtnmenfkmndnoaaaFestoverslaw39Few
import Derived.Test.YtnmenfkmndnoaaaFestoversref39Next
import Derived.Test.YtnmenfkmndnoaaaM2
import Derived.Test.YtnmenfkmndnoaaaM3
namespace Go.Proofs.Ytnmenfkmndnoaaa.Pr
open Go.RowKit Go.Proofs.YtnmenfkmndnoaaaW.PrintWords Go.Proofs.YtnmenfkmndnoaaaW.PrintLast Go.Proofs.YtnmenfkmndnoaaaW.PrintMore
attribute [local go_sem] max2_int min2_int max_two min_two max_three min_three max_four min_four
set_option linter.unusedVariables false
set_option linter.unusedSimpArgs false
def estoverslaw39_ReclaimplanNext.j0 : Nat→Bool→List (S34)→List (S30)→Int→Bool→Option (Bool)
 | 0,_,_,_,_,_ => none
 | k + 1,x9,x331000,x331001,x331002,x331003 => if x9 = true then ((estoverslaw39_awake.f k).bind fun t333 => (some t333)) else ((reclaimplan_Next.f k x331000 x331001 x331002 x331003).bind fun t334 => ((estoversref39_Next.f k x331000 x331001 x331002 x331003).bind fun t335 => (some (t334 == t335))))
def estoverslaw39_ReclaimplanNext.f (k : Nat) (l0_0 : List (S34)) (l0_1 : List (S30)) (a0_2 : Int) (a0_3 : Bool) : Option (Bool):=(estoverslaw39_awake.f k).bind fun t331 => (if t331 = true then ((estoverslaw39_Few.f l0_0 l0_1 a0_2 a0_3).bind fun t332 => (estoverslaw39_ReclaimplanNext.j0 k (!t332) l0_0 l0_1 a0_2 a0_3)) else (estoverslaw39_ReclaimplanNext.j0 k true l0_0 l0_1 a0_2 a0_3))
theorem estoverslaw39_ReclaimplanNext.mono_l : ∀ k,(∀ y0 y1 y2 y3 y4,LeO (estoverslaw39_ReclaimplanNext.j0 k y0 y1 y2 y3 y4) (estoverslaw39_ReclaimplanNext.j0 (k + 1) y0 y1 y2 y3 y4))
 | 0 => fun _ _ _ _ _ r h => by simp [estoverslaw39_ReclaimplanNext.j0] at h
 | k + 1 => by
  have ih0:=estoverslaw39_ReclaimplanNext.mono_l k
  ·
   intro y0 y1 y2 y3 y4
   unfold estoverslaw39_ReclaimplanNext.j0
   repeat' first
    | (with_reducible exact ih0 _ _ _ _ _)
    | (with_reducible exact estoverslaw39_awake.mono _)
    | (with_reducible exact estoversref39_Next.mono _ _ _ _ _)
    | (with_reducible exact reclaimplan_Next.mono _ _ _ _ _)
    | (with_reducible exact LeO.refl _)
    | (with_reducible exact LeO.none _)
    | (with_reducible refine LeO.ite ?_ ?_)
    | (with_reducible refine LeO.bind ?_ (fun _ => ?_))
    | exact ih0 _ _ _ _ _
    | exact estoverslaw39_awake.mono _
    | exact estoversref39_Next.mono _ _ _ _ _
    | exact reclaimplan_Next.mono _ _ _ _ _
    | exact LeO.none _
    | refine LeO.ite ?_ ?_
    | refine LeO.bind ?_ (fun _ => ?_)
theorem estoverslaw39_ReclaimplanNext.mono : ∀ a0 a1 a2 a3 k,LeO (estoverslaw39_ReclaimplanNext.f k a0 a1 a2 a3) (estoverslaw39_ReclaimplanNext.f (k + 1) a0 a1 a2 a3):=by
 intro a0 a1 a2 a3 k;have ih0:=estoverslaw39_ReclaimplanNext.mono_l k
 unfold estoverslaw39_ReclaimplanNext.f
 repeat' first
  | (with_reducible exact ih0 _ _ _ _ _)
  | (with_reducible exact estoverslaw39_awake.mono _)
  | (with_reducible exact estoversref39_Next.mono _ _ _ _ _)
  | (with_reducible exact reclaimplan_Next.mono _ _ _ _ _)
  | (with_reducible exact LeO.refl _)
  | (with_reducible exact LeO.none _)
  | (with_reducible refine LeO.ite ?_ ?_)
  | (with_reducible refine LeO.bind ?_ (fun _ => ?_))
  | exact ih0 _ _ _ _ _
  | exact estoverslaw39_awake.mono _
  | exact estoversref39_Next.mono _ _ _ _ _
  | exact reclaimplan_Next.mono _ _ _ _ _
  | exact LeO.none _
  | refine LeO.ite ?_ ?_
  | refine LeO.bind ?_ (fun _ => ?_)
def estoverslaw39_ReclaimplanNext.T3 : Bool × List (List Nat × List Nat):=(true,[([],[]),([0],[0]),([],[]),([2],[2]),([],[]),([4],[4]),([],[]),([6],[6]),([1,3,5,7],[1,3,5,7]),([],[]),([9],[9]),([],[]),([11],[11]),([],[]),([13],[13]),([],[]),([15],[15]),([10,12,14,16,8],[10,12,14,16]),([8,17],[8,17]),([18,17,0,1,2,3,4,5,6,7,8,9,10,11,12,13,14,15,16,17,18],[18])])
def estoverslaw39_ReclaimplanNext.B3 : List Nat:=[0,1,0,4,0,16,0,64,255,0,512,0,2048,0,8192,0,32768,131071,262143,524287]
theorem estoverslaw39_ReclaimplanNext.tab3 : rtab .any (opsOf Try.f8 3) = estoverslaw39_ReclaimplanNext.T3:=by kernel_rfl
theorem estoverslaw39_ReclaimplanNext.bits3 : waitsOk estoverslaw39_ReclaimplanNext.T3.2 estoverslaw39_ReclaimplanNext.B3 = true:=by kernel_rfl
set_option maxHeartbeats 8000000 in
set_option maxRecDepth 100000 in
theorem estoverslaw39_ReclaimplanNext.calls (k : Nat) (A0_0 : Option Addr) (c0_0 : Nat) (l0_0 : List (S34)) (A0_1 : Option Addr) (c0_1 : Nat) (l0_1 : List (S30)) (a0_2 : Int) (a0_3 : Bool) (r : Bool) (w : World) (hr0_0 : Kd.C k34 w A0_0 l0_0.length l0_0) (hc0_0 : l0_0.length≤c0_0) (hr0_1 : Kd.C k30 w A0_1 l0_1.length l0_1) (hc0_1 : l0_1.length≤c0_1) (h : estoverslaw39_ReclaimplanNext.f k l0_0 l0_1 a0_2 a0_3 = some r) :
 Calls Try.prog 8 #[.agg #[.slice A0_0 l0_0.length c0_0,.slice A0_1 l0_1.length c0_1,.int .i64 a0_2,.bool a0_3]] w fun e w' => e = .returned (.bool r)∧Below w.heap.size w w':=by
 have hu37:=Try.underlying37;have HR0_0:=Aside0.mk hr0_0;have HC0_0:=Aside0.mk hc0_0;clear hr0_0 hc0_0;have HR0_1:=Aside0.mk hr0_1;have HC0_1:=Aside0.mk hc0_1;clear hr0_1 hc0_1;have HB:=Aside0.mk (Below.refl w.heap.size w)
 have H : ((estoverslaw39_awake.f k).bind fun t331 => (if t331 = true then ((estoverslaw39_Few.f l0_0 l0_1 a0_2 a0_3).bind fun t332 => (estoverslaw39_ReclaimplanNext.j0 k (!t332) l0_0 l0_1 a0_2 a0_3)) else (estoverslaw39_ReclaimplanNext.j0 k true l0_0 l0_1 a0_2 a0_3))) = some r:=h;clear h;have HC2:=Aside0.mk H;clear H
 go_enter Try.func8,Try.ntmps8
 go_upto_region 1 with (first | ((with_reducible refine gate_dst (N:=1) rfl ?_);refine box_event ?hg (N:=1) ?hd (cs:=#[.slice A0_0 l0_0.length c0_0,.slice A0_1 l0_1.length c0_1,.int .i64 a0_2,.bool a0_3]) (t:=37) ?hr ?_;(case hd => rfl);(case hg => rfl);(case hr => first | (go_simp;done) | (go_simp;rfl));intro gb330 hg w3 hbox hb;have n0_:=Aside0.mk (below_step (by repeat (first | (with_reducible first | exact HB.out | apply b0_ | apply b1_ | apply b2_) | exact HB.out)) hb);have n1_:=Aside0.mk (hbox);have n2_:=Aside0.mk ((by rw [hg];exact (below_size (by repeat (first | (with_reducible first | exact HB.out | apply b0_ | apply b1_ | apply b2_) | exact HB.out))) : w.heap.size≤gb330));have n3_:=Aside0.mk ((by rw [hg];exact (below_size (by repeat (first | (with_reducible first | exact HB.out | apply b0_ | apply b1_ | apply b2_) | exact HB.out))) : w.heap.size≤gb330));clear HB;have HB:=n0_;have BK330:=n1_;have GW330:=n2_;have GE330:=n3_;clear n0_ n1_ n2_ n3_;clear hb hbox hg))
 (try simp only [Act.put,List.setIfInBounds_toArray,List.set_cons_zero,List.set_cons_succ])
 go_cut [9] (fun v9 wc => ∃ (kq : Nat) (x9_1 : Bool),v9 = .bool x9_1∧Aside0 (estoverslaw39_ReclaimplanNext.j0 kq x9_1 l0_0 l0_1 a0_2 a0_3 = some r)∧Aside0 (kq≤k)∧Aside0 (wc.heap[gb330]? = some (.cells #[(.slice A0_0 l0_0.length c0_0),(.slice A0_1 l0_1.length c0_1),.int .i64 a0_2,.bool a0_3] 37 (0,0)))∧Aside0 (Below w.heap.size w wc))
 case first =>
  have H:=HC2.out;clear HC2;replace H:=Option.bind_eq_some_iff.mp H;obtain ⟨t331,A40,H⟩:=H;replace H : (if t331 = true then ((estoverslaw39_Few.f l0_0 l0_1 a0_2 a0_3).bind fun t332 => (estoverslaw39_ReclaimplanNext.j0 k (!t332) l0_0 l0_1 a0_2 a0_3)) else (estoverslaw39_ReclaimplanNext.j0 k true l0_0 l0_1 a0_2 a0_3)) = some r:=H;have A4:=Aside0.mk A40;clear A40
  by_cases c5 : t331 = true
  rotate_left
  ·
   replace c5:=Bool.eq_false_iff.mpr c5;subst c5
   have H1 : (estoverslaw39_ReclaimplanNext.j0 k true l0_0 l0_1 a0_2 a0_3) = some r:=by rw [if_neg (show ¬ (false = true) by decide)] at H;exact H
   clear H;have H:=H1;clear H1;have H':=Aside0.mk H;clear H
   go_wp2_with (first | ((with_reducible refine gate_callee (f:=29) rfl ?_);refine goesL_ (some 3) rfl rfl Try.func29 (by kernel_rfl) rfl #[] rfl (by (try simp only [z3_,z4_,z5_]);first | done | rfl | (simp only [z6_,z7_];rfl)) ?_;(with_reducible refine (estoverslaw39_awake.calls k  false _ A4.out).mono ?_);rintro e w10 ⟨rfl,hb⟩;refine ⟨_,rfl,?_⟩;have n0_:=Aside0.mk (blk_below (g:=gb330) (o:=.cells #[.slice A0_0 l0_0.length c0_0,.slice A0_1 l0_1.length c0_1,.int .i64 a0_2,.bool a0_3] 37 (0,0)) (by (with_reducible repeat (first | refine blk_drewN ?_ _ | refine blk_drew ?_ | refine blk_alloc ?_ _));exact BK330.out) hb);have n1_:=Aside0.mk (below_step (by repeat (first | (with_reducible first | exact HB.out | apply b0_ | apply b1_ | apply b2_ | refine below_set ?_ GE330.out) | exact HB.out)) hb);clear BK330;clear HB;have BK330:=n0_;have HB:=n1_;clear n0_ n1_))
   go_meet
   case rel => exact ⟨_,(true),(by first | rfl | (simp;done) | (simp [*];done)),H',⟨by first | omega | exact Nat.le_refl _⟩,⟨by (with_reducible repeat (first | refine blk_drewN ?_ _ | refine blk_drew ?_ | refine blk_alloc ?_ _));exact BK330.out⟩,⟨by repeat (first | (with_reducible first | exact HB.out | apply b0_ | apply b1_ | apply b2_ | refine below_set ?_ GE330.out) | exact HB.out)⟩⟩
  subst c5
  have H1 : ((estoverslaw39_Few.f l0_0 l0_1 a0_2 a0_3).bind fun t332 => (estoverslaw39_ReclaimplanNext.j0 k (!t332) l0_0 l0_1 a0_2 a0_3)) = some r:=by rw [if_pos rfl] at H;exact H
  clear H;have H:=H1;clear H1;replace H:=Option.bind_eq_some_iff.mp H;obtain ⟨t332,A60,H⟩:=H;replace H : (estoverslaw39_ReclaimplanNext.j0 k (!t332) l0_0 l0_1 a0_2 a0_3) = some r:=H;have A6:=Aside0.mk A60;clear A60;have H':=Aside0.mk H;clear H
  go_wp2_with (first | ((with_reducible refine gate_callee (f:=29) rfl ?_);refine goesL_ (some 3) rfl rfl Try.func29 (by kernel_rfl) rfl #[] rfl (by (try simp only [z3_,z4_,z5_]);first | done | rfl | (simp only [z6_,z7_];rfl)) ?_;(with_reducible refine (estoverslaw39_awake.calls k  true _ A4.out).mono ?_);rintro e w7 ⟨rfl,hb⟩;refine ⟨_,rfl,?_⟩;have n0_:=Aside0.mk (blk_below (g:=gb330) (o:=.cells #[.slice A0_0 l0_0.length c0_0,.slice A0_1 l0_1.length c0_1,.int .i64 a0_2,.bool a0_3] 37 (0,0)) (by (with_reducible repeat (first | refine blk_drewN ?_ _ | refine blk_drew ?_ | refine blk_alloc ?_ _));exact BK330.out) hb);have n1_:=Aside0.mk (below_step (by repeat (first | (with_reducible first | exact HB.out | apply b0_ | apply b1_ | apply b2_ | refine below_set ?_ GE330.out) | exact HB.out)) hb);clear BK330;clear HB;have BK330:=n0_;have HB:=n1_;clear n0_ n1_;obtain ⟨hcz8_0,hcz8_1,hcz8_2,hcz8_3,hfz8_0,hfz8_1,hfz8_2,hfz8_3⟩:=q4_ BK330.out) | (go_at_call 21;(with_reducible refine (estoverslaw39_Few.calls _ _ l0_0 _ _ l0_1 a0_2 a0_3 t332 _ ?side1 ?side2 ?side3 ?side4 A6.out).mono ?_);(case side1 => repeat (first | exact (Kd.C_below HR0_0.out HB.out) | (with_reducible refine Kd.C_alloc ?_ _) | (with_reducible refine Kd.C_drewN ?_ _) | (with_reducible refine Kd.C_drew ?_)));(case side2 => exact HC0_0.out);(case side3 => repeat (first | exact (Kd.C_below HR0_1.out HB.out) | (with_reducible refine Kd.C_alloc ?_ _) | (with_reducible refine Kd.C_drewN ?_ _) | (with_reducible refine Kd.C_drew ?_)));(case side4 => exact HC0_1.out);rintro e w9 ⟨rfl,hb⟩;have n0_:=Aside0.mk (blk_below (g:=gb330) (o:=.cells #[.slice A0_0 l0_0.length c0_0,.slice A0_1 l0_1.length c0_1,.int .i64 a0_2,.bool a0_3] 37 (0,0)) (by (with_reducible repeat (first | refine blk_drewN ?_ _ | refine blk_drew ?_ | refine blk_alloc ?_ _));exact BK330.out) hb);have n1_:=Aside0.mk (below_step (by repeat (first | (with_reducible first | exact HB.out | apply b0_ | apply b1_ | apply b2_ | refine below_set ?_ GE330.out) | exact HB.out)) hb);clear BK330;clear HB;have BK330:=n0_;have HB:=n1_;clear n0_ n1_))
  go_meet
  case rel => exact ⟨_,(!t332),(by first | rfl | (simp;done) | (simp [*];done)),H',⟨by first | omega | exact Nat.le_refl _⟩,⟨by (with_reducible repeat (first | refine blk_drewN ?_ _ | refine blk_drew ?_ | refine blk_alloc ?_ _));exact BK330.out⟩,⟨by repeat (first | (with_reducible first | exact HB.out | apply b0_ | apply b1_ | apply b2_ | refine below_set ?_ GE330.out) | exact HB.out)⟩⟩
 case rest =>
  clear HC2;obtain ⟨kq,x9_1,rfl,HA,HJ1,BK330,HB⟩:=hcut
  cases kq with
   | zero => exact absurd HA.out (by simp [estoverslaw39_ReclaimplanNext.j0])
   | succ kj1 =>
    have H:=HA.out;clear HA;simp only [estoverslaw39_ReclaimplanNext.j0] at H;by_cases c11 : x9_1 = true
    rotate_left
    ·
     replace c11:=Bool.eq_false_iff.mpr c11;subst c11
     have H1 : ((reclaimplan_Next.f kj1 l0_0 l0_1 a0_2 a0_3).bind fun t334 => ((estoversref39_Next.f kj1 l0_0 l0_1 a0_2 a0_3).bind fun t335 => (some (t334 == t335)))) = some r:=by rw [if_neg (show ¬ (false = true) by decide)] at H;exact H
     clear H;have H:=H1;clear H1;replace H:=Option.bind_eq_some_iff.mp H;obtain ⟨t334,A140,H⟩:=H;replace H : ((estoversref39_Next.f kj1 l0_0 l0_1 a0_2 a0_3).bind fun t335 => (some (t334 == t335))) = some r:=H;have A14:=Aside0.mk A140;clear A140;replace H:=Option.bind_eq_some_iff.mp H;obtain ⟨t335,A150,H⟩:=H;replace H : (some (t334 == t335)) = some r:=H
     have A15:=Aside0.mk A150;clear A150;obtain rfl:=Option.some.inj H
     try go_wp2
     have n0_:=Aside0.mk (blk_drew BK330.out);have n1_:=Aside0.mk (b2_ HB.out);clear BK330;clear HB;have BK330:=n0_;have HB:=n1_;clear n0_ n1_
     refine start_ (n:=20) (S:=fun w' => w'.cell? ⟨gb330,0,none⟩ = some (.slice A0_0 l0_0.length c0_0)∧w'.cell? ⟨gb330,1,none⟩ = some (.slice A0_1 l0_1.length c0_1)∧w'.cell? ⟨gb330,2,none⟩ = some (.int .i64 a0_2)∧w'.cell? ⟨gb330,3,none⟩ = some (.bool a0_3)) (ds:=[]) #[F0,F0,F0,F0,F0,F0,F0,F0,F0,F0,F0,F0,F0,F0,F0,F0,F0,F0,F0,F0] (by kernel_rfl) rfl rfl ⟨(blk_cell BK330.out 0).trans rfl,(blk_cell BK330.out 1).trans rfl,(blk_cell BK330.out 2).trans rfl,(blk_cell BK330.out 3).trans rfl⟩ (fun hHeld => ?_);refine with_tabW estoverslaw39_ReclaimplanNext.tab3 estoverslaw39_ReclaimplanNext.bits3 (fun HT_ HW_ => ?_)
     generalize wc.drew = w16 at BK330 HB hHeld ⊢;refine pure_ (i:=0) (N:=some 11) (v:=?_) (a':=?_) #[T0,F0,F0,F0,F0,F0,F0,F0,F0,F0,F0,F0,F0,F0,F0,F0,F0,F0,F0,F0] rfl rfl (any_of HT_.out (by kernel_rfl)) (fun _ _ _ h => h) (Or.inl ⟨by rfl,?_⟩) ?_ ?_
     rotate_left
     · intro w';go_simp;with_reducible rfl
     rotate_left
     · simp only [Act.put,z0_,z1_,z2_,i64_w,i32_w];rfl
     refine pure_ (i:=2) (N:=some 13) (v:=?_) (a':=?_) #[T0,F0,T0,F0,F0,F0,F0,F0,F0,F0,F0,F0,F0,F0,F0,F0,F0,F0,F0,F0] rfl rfl (any_of HT_.out (by kernel_rfl)) (fun _ _ _ h => h) (Or.inl ⟨by rfl,?_⟩) ?_ ?_
     rotate_left
     · intro w';go_simp;with_reducible rfl
     rotate_left
     · simp only [Act.put,z0_,z1_,z2_,i64_w,i32_w];rfl
     refine pure_ (i:=4) (N:=some 15) (v:=?_) (a':=?_) #[T0,F0,T0,F0,T0,F0,F0,F0,F0,F0,F0,F0,F0,F0,F0,F0,F0,F0,F0,F0] rfl rfl (any_of HT_.out (by kernel_rfl)) (fun _ _ _ h => h) (Or.inl ⟨by rfl,?_⟩) ?_ ?_
     rotate_left
     · intro w';go_simp;with_reducible rfl
     rotate_left
     · simp only [Act.put,z0_,z1_,z2_,i64_w,i32_w];rfl
     refine pure_ (i:=6) (N:=some 17) (v:=?_) (a':=?_) #[T0,F0,T0,F0,T0,F0,T0,F0,F0,F0,F0,F0,F0,F0,F0,F0,F0,F0,F0,F0] rfl rfl (any_of HT_.out (by kernel_rfl)) (fun _ _ _ h => h) (Or.inl ⟨by rfl,?_⟩) ?_ ?_
     rotate_left
     · intro w';go_simp;with_reducible rfl
     rotate_left
     · simp only [Act.put,z0_,z1_,z2_,i64_w,i32_w];rfl
     refine pure_ (i:=9) (N:=some 20) (v:=?_) (a':=?_) #[T0,F0,T0,F0,T0,F0,T0,F0,F0,T0,F0,F0,F0,F0,F0,F0,F0,F0,F0,F0] rfl rfl (any_of HT_.out (by kernel_rfl)) (fun _ _ _ h => h) (Or.inl ⟨by rfl,?_⟩) ?_ ?_
     rotate_left
     · intro w';go_simp;with_reducible rfl
     rotate_left
     · simp only [Act.put,z0_,z1_,z2_,i64_w,i32_w];rfl
     refine pure_ (i:=11) (N:=some 22) (v:=?_) (a':=?_) #[T0,F0,T0,F0,T0,F0,T0,F0,F0,T0,F0,T0,F0,F0,F0,F0,F0,F0,F0,F0] rfl rfl (any_of HT_.out (by kernel_rfl)) (fun _ _ _ h => h) (Or.inl ⟨by rfl,?_⟩) ?_ ?_
     rotate_left
     · intro w';go_simp;with_reducible rfl
     rotate_left
     · simp only [Act.put,z0_,z1_,z2_,i64_w,i32_w];rfl
     refine pure_ (i:=13) (N:=some 24) (v:=?_) (a':=?_) #[T0,F0,T0,F0,T0,F0,T0,F0,F0,T0,F0,T0,F0,T0,F0,F0,F0,F0,F0,F0] rfl rfl (any_of HT_.out (by kernel_rfl)) (fun _ _ _ h => h) (Or.inl ⟨by rfl,?_⟩) ?_ ?_
     rotate_left
     · intro w';go_simp;with_reducible rfl
     rotate_left
     · simp only [Act.put,z0_,z1_,z2_,i64_w,i32_w];rfl
     refine pure_ (i:=15) (N:=some 26) (v:=?_) (a':=?_) #[T0,F0,T0,F0,T0,F0,T0,F0,F0,T0,F0,T0,F0,T0,F0,T0,F0,F0,F0,F0] rfl rfl (any_of HT_.out (by kernel_rfl)) (fun _ _ _ h => h) (Or.inl ⟨by rfl,?_⟩) ?_ ?_
     rotate_left
     · intro w';go_simp;with_reducible rfl
     rotate_left
     · simp only [Act.put,z0_,z1_,z2_,i64_w,i32_w];rfl
     refine take_ (i:=1) (N:=some 12) (v:=?_) (a':=?_) #[T0,T0,T0,F0,T0,F0,T0,F0,F0,T0,F0,T0,F0,T0,F0,T0,F0,F0,F0,F0] rfl rfl (take_ofW HT_.out HW_.out (by kernel_rfl)) (fun _ _ _ h => h) (Or.inl ⟨by rfl,?_⟩) hHeld ?_ ?_
     rotate_left
     ·
      rintro w' ⟨s0,s1,s2,s3⟩
      go_simp;with_reducible rfl
     rotate_left
     · simp only [Act.put,z0_,z1_,z2_,i64_w,i32_w];rfl
     refine take_ (i:=3) (N:=some 14) (v:=?_) (a':=?_) #[T0,T0,T0,T0,T0,F0,T0,F0,F0,T0,F0,T0,F0,T0,F0,T0,F0,F0,F0,F0] rfl rfl (take_ofW HT_.out HW_.out (by kernel_rfl)) (fun _ _ _ h => h) (Or.inl ⟨by rfl,?_⟩) hHeld ?_ ?_
     rotate_left
     ·
      rintro w' ⟨s0,s1,s2,s3⟩
      go_simp;with_reducible rfl
     rotate_left
     · simp only [Act.put,z0_,z1_,z2_,i64_w,i32_w];rfl
     refine take_ (i:=5) (N:=some 16) (v:=?_) (a':=?_) #[T0,T0,T0,T0,T0,T0,T0,F0,F0,T0,F0,T0,F0,T0,F0,T0,F0,F0,F0,F0] rfl rfl (take_ofW HT_.out HW_.out (by kernel_rfl)) (fun _ _ _ h => h) (Or.inl ⟨by rfl,?_⟩) hHeld ?_ ?_
     rotate_left
     ·
      rintro w' ⟨s0,s1,s2,s3⟩
      go_simp;with_reducible rfl
     rotate_left
     · simp only [Act.put,z0_,z1_,z2_,i64_w,i32_w];rfl
     refine take_ (i:=7) (N:=some 18) (v:=?_) (a':=?_) #[T0,T0,T0,T0,T0,T0,T0,T0,F0,T0,F0,T0,F0,T0,F0,T0,F0,F0,F0,F0] rfl rfl (take_ofW HT_.out HW_.out (by kernel_rfl)) (fun _ _ _ h => h) (Or.inl ⟨by rfl,?_⟩) hHeld ?_ ?_
     rotate_left
     ·
      rintro w' ⟨s0,s1,s2,s3⟩
      go_simp;with_reducible rfl
     rotate_left
     · simp only [Act.put,z0_,z1_,z2_,i64_w,i32_w];rfl
     refine take_ (i:=10) (N:=some 21) (v:=?_) (a':=?_) #[T0,T0,T0,T0,T0,T0,T0,T0,F0,T0,T0,T0,F0,T0,F0,T0,F0,F0,F0,F0] rfl rfl (take_ofW HT_.out HW_.out (by kernel_rfl)) (fun _ _ _ h => h) (Or.inl ⟨by rfl,?_⟩) hHeld ?_ ?_
     rotate_left
     ·
      rintro w' ⟨s0,s1,s2,s3⟩
      go_simp;with_reducible rfl
     rotate_left
     · simp only [Act.put,z0_,z1_,z2_,i64_w,i32_w];rfl
     refine take_ (i:=12) (N:=some 23) (v:=?_) (a':=?_) #[T0,T0,T0,T0,T0,T0,T0,T0,F0,T0,T0,T0,T0,T0,F0,T0,F0,F0,F0,F0] rfl rfl (take_ofW HT_.out HW_.out (by kernel_rfl)) (fun _ _ _ h => h) (Or.inl ⟨by rfl,?_⟩) hHeld ?_ ?_
     rotate_left
     ·
      rintro w' ⟨s0,s1,s2,s3⟩
      go_simp;with_reducible rfl
     rotate_left
     · simp only [Act.put,z0_,z1_,z2_,i64_w,i32_w];rfl
     refine take_ (i:=14) (N:=some 25) (v:=?_) (a':=?_) #[T0,T0,T0,T0,T0,T0,T0,T0,F0,T0,T0,T0,T0,T0,T0,T0,F0,F0,F0,F0] rfl rfl (take_ofW HT_.out HW_.out (by kernel_rfl)) (fun _ _ _ h => h) (Or.inl ⟨by rfl,?_⟩) hHeld ?_ ?_
     rotate_left
     ·
      rintro w' ⟨s0,s1,s2,s3⟩
      go_simp;with_reducible rfl
     rotate_left
     · simp only [Act.put,z0_,z1_,z2_,i64_w,i32_w];rfl
     refine take_ (i:=16) (N:=some 27) (v:=?_) (a':=?_) #[T0,T0,T0,T0,T0,T0,T0,T0,F0,T0,T0,T0,T0,T0,T0,T0,T0,F0,F0,F0] rfl rfl (take_ofW HT_.out HW_.out (by kernel_rfl)) (fun _ _ _ h => h) (Or.inl ⟨by rfl,?_⟩) hHeld ?_ ?_
     rotate_left
     ·
      rintro w' ⟨s0,s1,s2,s3⟩
      go_simp;with_reducible rfl
     rotate_left
     · simp only [Act.put,z0_,z1_,z2_,i64_w,i32_w];rfl
     refine one_ (i:=8) (N:=some 19) #[T0,T0,T0,T0,T0,T0,T0,T0,T0,T0,T0,T0,T0,T0,T0,T0,T0,F0,F0,F0] rfl rfl (one_of HT_.out (by kernel_rfl)) (by decide) (fun K hK => ?_)
     refine goes_ Try.func20 (by kernel_rfl) rfl #[.slice A0_0 l0_0.length c0_0,.slice A0_1 l0_1.length c0_1,.int .i64 a0_2,.bool a0_3] (by rfl) rfl rfl (by (try simp only [z3_,z4_,z5_]);first | done | rfl | (simp only [z6_,z7_];rfl)) ?_
     with_reducible refine (reclaimplan_Next.calls kj1 _ _ l0_0 _ _ l0_1 a0_2 a0_3 t334 _ ?side1 ?side2 ?side3 ?side4 A14.out).mono ?_
     (case side1 => repeat (first | exact (Kd.C_below HR0_0.out HB.out) | (with_reducible refine Kd.C_alloc ?_ _) | (with_reducible refine Kd.C_drewN ?_ _) | (with_reducible refine Kd.C_drew ?_)))
     (case side2 => exact HC0_0.out)
     (case side3 => repeat (first | exact (Kd.C_below HR0_1.out HB.out) | (with_reducible refine Kd.C_alloc ?_ _) | (with_reducible refine Kd.C_drewN ?_ _) | (with_reducible refine Kd.C_drew ?_)))
     (case side4 => exact HC0_1.out)
     rintro e w17 ⟨rfl,hb⟩
     refine ⟨_,rfl,?_⟩;have n0_:=Aside0.mk (blk_below (g:=gb330) (o:=.cells #[.slice A0_0 l0_0.length c0_0,.slice A0_1 l0_1.length c0_1,.int .i64 a0_2,.bool a0_3] 37 (0,0)) (by (with_reducible repeat (first | refine blk_drewN ?_ _ | refine blk_drew ?_ | refine blk_alloc ?_ _));exact BK330.out) hb)
     have n1_:=Aside0.mk (below_step (by repeat (first | (with_reducible first | exact HB.out | apply b0_ | apply b1_ | apply b2_ | refine below_set ?_ GE330.out) | exact HB.out)) hb);clear BK330;clear HB;have BK330:=n0_;have HB:=n1_;clear n0_ n1_
     (try clear hb)
     (try clear hb2)
     (try clear hk)
     (try clear hi)
     refine hK.out _ _ ⟨(blk_cell BK330.out 0).trans rfl,(blk_cell BK330.out 1).trans rfl,(blk_cell BK330.out 2).trans rfl,(blk_cell BK330.out 3).trans rfl⟩ (fun hHeld => ?_);clear hK K;refine norm_ (a':=?_) ?_ ?_
     rotate_left
     ·
      show Act.put _ (some 19) _ = _
      simp only [Act.put,z0_,z1_,z2_,i64_w,i32_w];rfl
     refine one_ (i:=17) (N:=some 28) #[T0,T0,T0,T0,T0,T0,T0,T0,T0,T0,T0,T0,T0,T0,T0,T0,T0,T0,F0,F0] rfl rfl (one_of HT_.out (by kernel_rfl)) (by decide) (fun K hK => ?_)
     refine goes_ Try.func37 (by kernel_rfl) rfl #[.slice A0_0 l0_0.length c0_0,.slice A0_1 l0_1.length c0_1,.int .i64 a0_2,.bool a0_3] (by rfl) rfl rfl (by (try simp only [z3_,z4_,z5_]);first | done | rfl | (simp only [z6_,z7_];rfl)) ?_
     with_reducible refine (estoversref39_Next.calls kj1 _ _ l0_0 _ _ l0_1 a0_2 a0_3 t335 _ ?side1 ?side2 ?side3 ?side4 A15.out).mono ?_
     (case side1 => repeat (first | exact (Kd.C_below HR0_0.out HB.out) | (with_reducible refine Kd.C_alloc ?_ _) | (with_reducible refine Kd.C_drewN ?_ _) | (with_reducible refine Kd.C_drew ?_)))
     (case side2 => exact HC0_0.out)
     (case side3 => repeat (first | exact (Kd.C_below HR0_1.out HB.out) | (with_reducible refine Kd.C_alloc ?_ _) | (with_reducible refine Kd.C_drewN ?_ _) | (with_reducible refine Kd.C_drew ?_)))
     (case side4 => exact HC0_1.out)
     rintro e w18 ⟨rfl,hb⟩
     refine ⟨_,rfl,?_⟩;have n0_:=Aside0.mk (blk_below (g:=gb330) (o:=.cells #[.slice A0_0 l0_0.length c0_0,.slice A0_1 l0_1.length c0_1,.int .i64 a0_2,.bool a0_3] 37 (0,0)) (by (with_reducible repeat (first | refine blk_drewN ?_ _ | refine blk_drew ?_ | refine blk_alloc ?_ _));exact BK330.out) hb)
     have n1_:=Aside0.mk (below_step (by repeat (first | (with_reducible first | exact HB.out | apply b0_ | apply b1_ | apply b2_ | refine below_set ?_ GE330.out) | exact HB.out)) hb);clear BK330;clear HB;have BK330:=n0_;have HB:=n1_;clear n0_ n1_
     (try clear hb)
     (try clear hb2)
     (try clear hk)
     (try clear hi)
     refine hK.out _ _ ⟨(blk_cell BK330.out 0).trans rfl,(blk_cell BK330.out 1).trans rfl,(blk_cell BK330.out 2).trans rfl,(blk_cell BK330.out 3).trans rfl⟩ (fun hHeld => ?_);clear hK K;refine norm_ (a':=?_) ?_ ?_
     rotate_left
     ·
      show Act.put _ (some 28) _ = _
      simp only [Act.put,z0_,z1_,z2_,i64_w,i32_w];rfl
     refine pure_ (i:=18) (N:=some 29) (v:=?_) (a':=?_) #[T0,T0,T0,T0,T0,T0,T0,T0,T0,T0,T0,T0,T0,T0,T0,T0,T0,T0,T0,F0] rfl rfl (any_of HT_.out (by kernel_rfl)) (fun _ _ _ h => h) (Or.inl ⟨by rfl,?_⟩) ?_ ?_
     rotate_left
     · intro w';go_simp;with_reducible rfl
     rotate_left
     · simp only [Act.put,z0_,z1_,z2_,i64_w,i32_w];rfl
     refine pure_ (i:=19) (N:=some 2) (v:=?_) (a':=?_) #[T0,T0,T0,T0,T0,T0,T0,T0,T0,T0,T0,T0,T0,T0,T0,T0,T0,T0,T0,T0] rfl rfl (any_of HT_.out (by kernel_rfl)) (fun _ _ _ h => h) (Or.inl ⟨by rfl,?_⟩) ?_ ?_
     rotate_left
     · intro w';go_simp;with_reducible rfl
     rotate_left
     · simp only [Act.put,z0_,z1_,z2_,i64_w,i32_w];rfl
     refine done_ (done_of HT_.out (by kernel_rfl)) ?_
     try go_wp2
     go_ret;exact ⟨by first | rfl | (simp [errW_none,errW_some] <;> rfl) | (simp [*,errW_none,errW_some] <;> rfl),by repeat (first | (with_reducible first | exact HB.out | apply b0_ | apply b1_ | apply b2_ | refine below_set ?_ GE330.out) | exact HB.out)⟩
    subst c11
    have H1 : ((estoverslaw39_awake.f kj1).bind fun t333 => (some t333)) = some r:=by rw [if_pos rfl] at H;exact H
    clear H;have H:=H1;clear H1;replace H:=Option.bind_eq_some_iff.mp H;obtain ⟨t333,A120,H⟩:=H;replace H : (some t333) = some r:=H;have A12:=Aside0.mk A120;clear A120;obtain rfl:=Option.some.inj H
    go_wp2_with (first | ((with_reducible refine gate_callee (f:=29) rfl ?_);refine goesL_ (some 10) rfl rfl Try.func29 (by kernel_rfl) rfl #[] rfl (by (try simp only [z3_,z4_,z5_]);first | done | rfl | (simp only [z6_,z7_];rfl)) ?_;(with_reducible refine (estoverslaw39_awake.calls kj1  t333 _ A12.out).mono ?_);rintro e w13 ⟨rfl,hb⟩;refine ⟨_,rfl,?_⟩;have n0_:=Aside0.mk (blk_below (g:=gb330) (o:=.cells #[.slice A0_0 l0_0.length c0_0,.slice A0_1 l0_1.length c0_1,.int .i64 a0_2,.bool a0_3] 37 (0,0)) (by (with_reducible repeat (first | refine blk_drewN ?_ _ | refine blk_drew ?_ | refine blk_alloc ?_ _));exact BK330.out) hb);have n1_:=Aside0.mk (below_step (by repeat (first | (with_reducible first | exact HB.out | apply b0_ | apply b1_ | apply b2_ | refine below_set ?_ GE330.out) | exact HB.out)) hb);clear BK330;clear HB;have BK330:=n0_;have HB:=n1_;clear n0_ n1_))
    go_ret;exact ⟨by first | rfl | (simp [errW_none,errW_some] <;> rfl) | (simp [*,errW_none,errW_some] <;> rfl),by repeat (first | (with_reducible first | exact HB.out | apply b0_ | apply b1_ | apply b2_ | refine below_set ?_ GE330.out) | exact HB.out)⟩
end Go.Proofs.Ytnmenfkmndnoaaa.Pr
