-- Written by a program of this session (a changed copy of the kit's printer). Not trusted: Lean checks it.
import Derived.Test.YtnmenfkmndnoaaaM0
import Derived.Test.YtnmenfkmndnoaaaFestoversref39Leaving
import Derived.Test.YtnmenfkmndnoaaaFestoversref39Question
import Derived.Test.YtnmenfkmndnoaaaFestoversref39reason
import Derived.Test.YtnmenfkmndnoaaaM1
namespace Go.Proofs.Ytnmenfkmndnoaaa.Pr
open Go.RowKit Go.Proofs.YtnmenfkmndnoaaaW.PrintWords Go.Proofs.YtnmenfkmndnoaaaW.PrintLast Go.Proofs.YtnmenfkmndnoaaaW.PrintMore
attribute [local go_sem] max2_int min2_int max_two min_two max_three min_three max_four min_four
set_option linter.unusedVariables false
set_option linter.unusedSimpArgs false
section
attribute [local go_sem high] eqA34
def estoversref39_Reason.j0 : Nat→List (S34)→List (S30)→Int→Int→Bool→Bool→Option (Int)
 | 0,_,_,_,_,_,_ => none
 | k + 1,x0,x1,x2,x3,x4,x25 => if x25 = true then (some (-1)) else (if 0≤x3 then (if x3 < (x0.length : Int) then ((estoversref39_Leaving.f k x0 x1).bind fun t288 => ((estoversref39_reason.f k ((rd_T34 x0 x3).f0) ((rd_T34 x0 x3).f1) ((rd_T34 x0 x3).f2) ((rd_T34 x0 x3).f3) ((rd_T34 x0 x3).f4) ((rd_T34 x0 x3).f5) ((rd_T34 x0 x3).f6) x1 t288 x2 x4).bind fun t291 => (some t291))) else (none)) else (none))
def estoversref39_Reason.f (k : Nat) (l0 : List (S34)) (l1 : List (S30)) (a2 : Int) (a3 : Int) (a4 : Bool) : Option (Int):=(estoversref39_Question.f k l0 l1 a2).bind fun t286 => (if t286 = true then (if a3 < 0 then (estoversref39_Reason.j0 k l0 l1 a2 a3 a4 true) else (estoversref39_Reason.j0 k l0 l1 a2 a3 a4 (decide (a3≥(l0.length : Int))))) else (estoversref39_Reason.j0 k l0 l1 a2 a3 a4 true))
theorem estoversref39_Reason.mono_l : ∀ k,(∀ y0 y1 y2 y3 y4 y5,LeO (estoversref39_Reason.j0 k y0 y1 y2 y3 y4 y5) (estoversref39_Reason.j0 (k + 1) y0 y1 y2 y3 y4 y5))
 | 0 => fun _ _ _ _ _ _ r h => by simp [estoversref39_Reason.j0] at h
 | k + 1 => by
  have ih0:=estoversref39_Reason.mono_l k
  ·
   intro y0 y1 y2 y3 y4 y5
   unfold estoversref39_Reason.j0
   repeat' first
    | (with_reducible exact ih0 _ _ _ _ _ _)
    | (with_reducible exact estoversref39_Leaving.mono _ _ _)
    | (with_reducible exact estoversref39_Question.mono _ _ _ _)
    | (with_reducible exact estoversref39_reason.mono _ _ _ _ _ _ _ _ _ _ _ _)
    | (with_reducible exact LeO.refl _)
    | (with_reducible exact LeO.none _)
    | (with_reducible refine LeO.ite ?_ ?_)
    | (with_reducible refine LeO.bind ?_ (fun _ => ?_))
    | exact ih0 _ _ _ _ _ _
    | exact estoversref39_Leaving.mono _ _ _
    | exact estoversref39_Question.mono _ _ _ _
    | exact estoversref39_reason.mono _ _ _ _ _ _ _ _ _ _ _ _
    | exact LeO.none _
    | refine LeO.ite ?_ ?_
    | refine LeO.bind ?_ (fun _ => ?_)
theorem estoversref39_Reason.mono : ∀ a0 a1 a2 a3 a4 k,LeO (estoversref39_Reason.f k a0 a1 a2 a3 a4) (estoversref39_Reason.f (k + 1) a0 a1 a2 a3 a4):=by
 intro a0 a1 a2 a3 a4 k;have ih0:=estoversref39_Reason.mono_l k
 unfold estoversref39_Reason.f
 repeat' first
  | (with_reducible exact ih0 _ _ _ _ _ _)
  | (with_reducible exact estoversref39_Leaving.mono _ _ _)
  | (with_reducible exact estoversref39_Question.mono _ _ _ _)
  | (with_reducible exact estoversref39_reason.mono _ _ _ _ _ _ _ _ _ _ _ _)
  | (with_reducible exact LeO.refl _)
  | (with_reducible exact LeO.none _)
  | (with_reducible refine LeO.ite ?_ ?_)
  | (with_reducible refine LeO.bind ?_ (fun _ => ?_))
  | exact ih0 _ _ _ _ _ _
  | exact estoversref39_Leaving.mono _ _ _
  | exact estoversref39_Question.mono _ _ _ _
  | exact estoversref39_reason.mono _ _ _ _ _ _ _ _ _ _ _ _
  | exact LeO.none _
  | refine LeO.ite ?_ ?_
  | refine LeO.bind ?_ (fun _ => ?_)
def estoversref39_Reason.T3 : Bool × List (List Nat × List Nat):=(true,[([],[]),([],[]),([0,1],[0,1]),([2],[2]),([],[]),([],[]),([],[]),([5,6],[5,6]),([],[]),([],[]),([3,4,7,8,9,7],[3,4,7,8,9]),([10,10,0,1,2,3,4,5,6,7,8,9,10],[10])])
def estoversref39_Reason.B3 : List Nat:=[0,0,3,7,0,0,0,96,0,0,1023,2047]
theorem estoversref39_Reason.tab3 : rtab .any (opsOf Try.f34 3) = estoversref39_Reason.T3:=by kernel_rfl
theorem estoversref39_Reason.bits3 : waitsOk estoversref39_Reason.T3.2 estoversref39_Reason.B3 = true:=by kernel_rfl
set_option maxHeartbeats 8000000 in
set_option maxRecDepth 100000 in
theorem estoversref39_Reason.calls (k : Nat) (A0 : Option Addr) (c0 : Nat) (l0 : List (S34)) (A1 : Option Addr) (c1 : Nat) (l1 : List (S30)) (a2 : Int) (a3 : Int) (a4 : Bool) (r : Int) (w : World) (hr0 : Kd.C k34 w A0 l0.length l0) (hc0 : l0.length≤c0) (hr1 : Kd.C k30 w A1 l1.length l1) (hc1 : l1.length≤c1) (h : estoversref39_Reason.f k l0 l1 a2 a3 a4 = some r) :
 Calls Try.prog 34 #[.slice A0 l0.length c0,.slice A1 l1.length c1,.int .i64 a2,.int .i64 a3,.bool a4] w fun e w' => e = .returned (.int .i64 r)∧Below w.heap.size w w':=by
 have hu34:=Try.underlying34;have HR0:=Aside0.mk hr0;have HC0:=Aside0.mk hc0;clear hr0 hc0;have HR1:=Aside0.mk hr1;have HC1:=Aside0.mk hc1;clear hr1 hc1;have HB:=Aside0.mk (Below.refl w.heap.size w)
 have H : ((estoversref39_Question.f k l0 l1 a2).bind fun t286 => (if t286 = true then (if a3 < 0 then (estoversref39_Reason.j0 k l0 l1 a2 a3 a4 true) else (estoversref39_Reason.j0 k l0 l1 a2 a3 a4 (decide (a3≥(l0.length : Int))))) else (estoversref39_Reason.j0 k l0 l1 a2 a3 a4 true))) = some r:=h;clear h;have HC6:=Aside0.mk H;clear H
 go_enter Try.func34,Try.ntmps34
 go_upto_region 1 with (fail)
 go_cut [25] (fun v25 wc => ∃ (kq : Nat) (x25_5 : Bool),v25 = .bool x25_5∧Aside0 (estoversref39_Reason.j0 kq l0 l1 a2 a3 a4 x25_5 = some r)∧Aside0 (kq≤k)∧Aside0 (Below w.heap.size w wc))
 case first =>
  have H:=HC6.out;clear HC6;replace H:=Option.bind_eq_some_iff.mp H;obtain ⟨t286,A70,H⟩:=H;replace H : (if t286 = true then (if a3 < 0 then (estoversref39_Reason.j0 k l0 l1 a2 a3 a4 true) else (estoversref39_Reason.j0 k l0 l1 a2 a3 a4 (decide (a3≥(l0.length : Int))))) else (estoversref39_Reason.j0 k l0 l1 a2 a3 a4 true)) = some r:=H;have A7:=Aside0.mk A70;clear A70
  by_cases c8 : t286 = true
  rotate_left
  ·
   replace c8:=Bool.eq_false_iff.mpr c8;subst c8
   have H1 : (estoversref39_Reason.j0 k l0 l1 a2 a3 a4 true) = some r:=by rw [if_neg (show ¬ (false = true) by decide)] at H;exact H
   clear H;have H:=H1;clear H1;have H':=Aside0.mk H;clear H
   go_wp2_with (first | ((with_reducible refine gate_callee (f:=63) rfl ?_);refine goesL_ (some 14) rfl rfl Try.func63 (by kernel_rfl) rfl #[.slice A0 l0.length c0,.slice A1 l1.length c1,.int .i64 a2] rfl (by (try simp only [z3_,z4_,z5_]);first | done | rfl | (simp only [z6_,z7_];rfl)) ?_;(with_reducible refine (estoversref39_Question.calls k _ _ l0 _ _ l1 a2 false _ ?side1 ?side2 ?side3 ?side4 A7.out).mono ?_);(case side1 => repeat (first | exact (Kd.C_below HR0.out HB.out) | (with_reducible refine Kd.C_alloc ?_ _) | (with_reducible refine Kd.C_drewN ?_ _) | (with_reducible refine Kd.C_drew ?_)));(case side2 => exact HC0.out);(case side3 => repeat (first | exact (Kd.C_below HR1.out HB.out) | (with_reducible refine Kd.C_alloc ?_ _) | (with_reducible refine Kd.C_drewN ?_ _) | (with_reducible refine Kd.C_drew ?_)));(case side4 => exact HC1.out);rintro e w12 ⟨rfl,hb⟩;refine ⟨_,rfl,?_⟩;have n0_:=Aside0.mk (below_step (by repeat (first | (with_reducible first | exact HB.out | apply b0_ | apply b1_ | apply b2_) | exact HB.out)) hb);clear HB;have HB:=n0_;clear n0_))
   go_meet
   case rel => exact ⟨_,(true),(by first | rfl | (simp;done) | (simp [*];done)),H',⟨by first | omega | exact Nat.le_refl _⟩,⟨by repeat (first | (with_reducible first | exact HB.out | apply b0_ | apply b1_ | apply b2_) | exact HB.out)⟩⟩
  subst c8
  have H1 : (if a3 < 0 then (estoversref39_Reason.j0 k l0 l1 a2 a3 a4 true) else (estoversref39_Reason.j0 k l0 l1 a2 a3 a4 (decide (a3≥(l0.length : Int))))) = some r:=by rw [if_pos rfl] at H;exact H
  clear H;have H:=H1;clear H1;by_cases c9 : a3 < 0
  rotate_left
  ·
   rw [if_neg c9] at H;have c9b0 : decide (a3 < 0) = false:=decide_eq_false c9;clear c9
   (first | rw [c9b0] | (simp only [i64_w,i32_w];rw [c9b0]) | skip)
   have H':=Aside0.mk H;clear H
   go_wp2_with (first | ((with_reducible refine gate_callee (f:=63) rfl ?_);refine goesL_ (some 14) rfl rfl Try.func63 (by kernel_rfl) rfl #[.slice A0 l0.length c0,.slice A1 l1.length c1,.int .i64 a2] rfl (by (try simp only [z3_,z4_,z5_]);first | done | rfl | (simp only [z6_,z7_];rfl)) ?_;(with_reducible refine (estoversref39_Question.calls k _ _ l0 _ _ l1 a2 true _ ?side1 ?side2 ?side3 ?side4 A7.out).mono ?_);(case side1 => repeat (first | exact (Kd.C_below HR0.out HB.out) | (with_reducible refine Kd.C_alloc ?_ _) | (with_reducible refine Kd.C_drewN ?_ _) | (with_reducible refine Kd.C_drew ?_)));(case side2 => exact HC0.out);(case side3 => repeat (first | exact (Kd.C_below HR1.out HB.out) | (with_reducible refine Kd.C_alloc ?_ _) | (with_reducible refine Kd.C_drewN ?_ _) | (with_reducible refine Kd.C_drew ?_)));(case side4 => exact HC1.out);rintro e w11 ⟨rfl,hb⟩;refine ⟨_,rfl,?_⟩;have n0_:=Aside0.mk (below_step (by repeat (first | (with_reducible first | exact HB.out | apply b0_ | apply b1_ | apply b2_) | exact HB.out)) hb);clear HB;have HB:=n0_;clear n0_))
   go_meet
   case rel => exact ⟨_,(decide (a3≥(l0.length : Int))),(by first | rfl | (simp;done) | (simp [*];done)),H',⟨by first | omega | exact Nat.le_refl _⟩,⟨by repeat (first | (with_reducible first | exact HB.out | apply b0_ | apply b1_ | apply b2_) | exact HB.out)⟩⟩
  rw [if_pos c9] at H;have c9b0 : decide (a3 < 0) = true:=decide_eq_true c9;clear c9
  (first | rw [c9b0] | (simp only [i64_w,i32_w];rw [c9b0]) | skip)
  have H':=Aside0.mk H;clear H
  go_wp2_with (first | ((with_reducible refine gate_callee (f:=63) rfl ?_);refine goesL_ (some 14) rfl rfl Try.func63 (by kernel_rfl) rfl #[.slice A0 l0.length c0,.slice A1 l1.length c1,.int .i64 a2] rfl (by (try simp only [z3_,z4_,z5_]);first | done | rfl | (simp only [z6_,z7_];rfl)) ?_;(with_reducible refine (estoversref39_Question.calls k _ _ l0 _ _ l1 a2 true _ ?side1 ?side2 ?side3 ?side4 A7.out).mono ?_);(case side1 => repeat (first | exact (Kd.C_below HR0.out HB.out) | (with_reducible refine Kd.C_alloc ?_ _) | (with_reducible refine Kd.C_drewN ?_ _) | (with_reducible refine Kd.C_drew ?_)));(case side2 => exact HC0.out);(case side3 => repeat (first | exact (Kd.C_below HR1.out HB.out) | (with_reducible refine Kd.C_alloc ?_ _) | (with_reducible refine Kd.C_drewN ?_ _) | (with_reducible refine Kd.C_drew ?_)));(case side4 => exact HC1.out);rintro e w10 ⟨rfl,hb⟩;refine ⟨_,rfl,?_⟩;have n0_:=Aside0.mk (below_step (by repeat (first | (with_reducible first | exact HB.out | apply b0_ | apply b1_ | apply b2_) | exact HB.out)) hb);clear HB;have HB:=n0_;clear n0_))
  go_meet
  case rel => exact ⟨_,(true),(by first | rfl | (simp;done) | (simp [*];done)),H',⟨by first | omega | exact Nat.le_refl _⟩,⟨by repeat (first | (with_reducible first | exact HB.out | apply b0_ | apply b1_ | apply b2_) | exact HB.out)⟩⟩
 case rest =>
  clear HC6;obtain ⟨kq,x25_5,rfl,HA,HJ5,HB⟩:=hcut
  cases kq with
   | zero => exact absurd HA.out (by simp [estoversref39_Reason.j0])
   | succ kj5 =>
    have H:=HA.out;clear HA;simp only [estoversref39_Reason.j0] at H;by_cases c13 : x25_5 = true
    rotate_left
    ·
     replace c13:=Bool.eq_false_iff.mpr c13;subst c13
     have H1 : (if 0≤a3 then (if a3 < (l0.length : Int) then ((estoversref39_Leaving.f kj5 l0 l1).bind fun t288 => ((estoversref39_reason.f kj5 ((rd_T34 l0 a3).f0) ((rd_T34 l0 a3).f1) ((rd_T34 l0 a3).f2) ((rd_T34 l0 a3).f3) ((rd_T34 l0 a3).f4) ((rd_T34 l0 a3).f5) ((rd_T34 l0 a3).f6) l1 t288 a2 a4).bind fun t291 => (some t291))) else (none)) else (none)) = some r:=by rw [if_neg (show ¬ (false = true) by decide)] at H;exact H
     clear H;have H:=H1;clear H1;by_cases c14 : 0≤a3
     rotate_left
     · rw [if_neg c14] at H;exact absurd H (by simp)
     rw [if_pos c14] at H;have c14b0 : decide (0≤a3) = true:=decide_eq_true c14;clear c14;by_cases c15 : a3 < (l0.length : Int)
     rotate_left
     · rw [if_neg c15] at H;exact absurd H (by simp)
     rw [if_pos c15] at H;have c15b0 : decide (a3 < (l0.length : Int)) = true:=decide_eq_true c15;clear c15;replace H:=Option.bind_eq_some_iff.mp H;obtain ⟨t288,A160,H⟩:=H
     replace H : ((estoversref39_reason.f kj5 ((rd_T34 l0 a3).f0) ((rd_T34 l0 a3).f1) ((rd_T34 l0 a3).f2) ((rd_T34 l0 a3).f3) ((rd_T34 l0 a3).f4) ((rd_T34 l0 a3).f5) ((rd_T34 l0 a3).f6) l1 t288 a2 a4).bind fun t291 => (some t291)) = some r:=H;have A16:=Aside0.mk A160;clear A160;replace H:=Option.bind_eq_some_iff.mp H;obtain ⟨t291,A170,H⟩:=H;replace H : (some t291) = some r:=H
     have A17:=Aside0.mk A170;clear A170;obtain rfl:=Option.some.inj H
     try go_wp2
     have n0_:=Aside0.mk (b2_ HB.out);clear HB;have HB:=n0_;clear n0_;have p287 : 0≤(a3 : Int):=of_decide_eq_true (by first | (with_reducible assumption) | assumption);have q287 : a3 < (l0.length : Int):=of_decide_eq_true (by first | (with_reducible assumption) | assumption);obtain ⟨ad287,e287,hx287_0,hx287_1,hx287_2,hx287_3,hx287_4,hx287_5,hx287_6⟩:=at_T34 HR0.out a3 p287 q287
     have hw287_6:=hx287_6;have hw287_5:=hx287_5;have hw287_4:=hx287_4;have hw287_3:=hx287_3;have hw287_2:=hx287_2;have hw287_1:=hx287_1;have hw287_0:=hx287_0;cases e287;replace hx287_0:=(HB.out.cell (World.block_lt_of_cell? w _ hx287_0)).trans hx287_0;replace hx287_1:=(HB.out.cell (World.block_lt_of_cell? w _ hx287_1)).trans hx287_1
     replace hx287_2:=(HB.out.cell (World.block_lt_of_cell? w _ hx287_2)).trans hx287_2;replace hx287_3:=(HB.out.cell (World.block_lt_of_cell? w _ hx287_3)).trans hx287_3;replace hx287_4:=(HB.out.cell (World.block_lt_of_cell? w _ hx287_4)).trans hx287_4;replace hx287_5:=(HB.out.cell (World.block_lt_of_cell? w _ hx287_5)).trans hx287_5
     replace hx287_6:=(HB.out.cell (World.block_lt_of_cell? w _ hx287_6)).trans hx287_6;replace p287:=eq_true p287;replace q287:=eq_true q287
     refine start_ (n:=12) (S:=fun w' => w'.cell? (ad287.add ((a3).toNat * 7)) = some (.int .i64 ((rd_T34 l0 a3).f0))∧w'.cell? ⟨(ad287.add ((a3).toNat * 7)).block,(ad287.add ((a3).toNat * 7)).off + 1,none⟩ = some (.int .i64 ((rd_T34 l0 a3).f1))∧w'.cell? ⟨(ad287.add ((a3).toNat * 7)).block,(ad287.add ((a3).toNat * 7)).off + 2,none⟩ = some (.int .i64 ((rd_T34 l0 a3).f2))∧w'.cell? ⟨(ad287.add ((a3).toNat * 7)).block,(ad287.add ((a3).toNat * 7)).off + 3,none⟩ = some (.int .i64 ((rd_T34 l0 a3).f3))∧w'.cell? ⟨(ad287.add ((a3).toNat * 7)).block,(ad287.add ((a3).toNat * 7)).off + 4,none⟩ = some (.int .i64 ((rd_T34 l0 a3).f4))∧w'.cell? ⟨(ad287.add ((a3).toNat * 7)).block,(ad287.add ((a3).toNat * 7)).off + 5,none⟩ = some (.bool ((rd_T34 l0 a3).f5))∧w'.cell? ⟨(ad287.add ((a3).toNat * 7)).block,(ad287.add ((a3).toNat * 7)).off + 6,none⟩ = some (.bool ((rd_T34 l0 a3).f6))) (ds:=[]) #[F0,F0,F0,F0,F0,F0,F0,F0,F0,F0,F0,F0] (by kernel_rfl) rfl rfl ⟨((HB.out.cell (World.block_lt_of_cell? w _ hw287_0)).trans hw287_0),((HB.out.cell (World.block_lt_of_cell? w _ hw287_1)).trans hw287_1),((HB.out.cell (World.block_lt_of_cell? w _ hw287_2)).trans hw287_2),((HB.out.cell (World.block_lt_of_cell? w _ hw287_3)).trans hw287_3),((HB.out.cell (World.block_lt_of_cell? w _ hw287_4)).trans hw287_4),((HB.out.cell (World.block_lt_of_cell? w _ hw287_5)).trans hw287_5),((HB.out.cell (World.block_lt_of_cell? w _ hw287_6)).trans hw287_6)⟩ (fun hHeld => ?_);refine with_tabW estoversref39_Reason.tab3 estoversref39_Reason.bits3 (fun HT_ HW_ => ?_)
     generalize wc.drew = w18 at HB hx287_0 hx287_1 hx287_2 hx287_3 hx287_4 hx287_5 hx287_6 hHeld ⊢;refine pure_ (i:=0) (N:=some 26) (v:=?_) (a':=?_) #[T0,F0,F0,F0,F0,F0,F0,F0,F0,F0,F0,F0] rfl rfl (any_of HT_.out (by kernel_rfl)) (fun _ _ _ h => h) (Or.inl ⟨by rfl,?_⟩) ?_ ?_
     rotate_left
     · intro w';go_simp;with_reducible rfl
     rotate_left
     · simp only [Act.put,z0_,z1_,z2_,i64_w,i32_w];rfl
     refine pure_ (i:=1) (N:=some 27) (v:=?_) (a':=?_) #[T0,T0,F0,F0,F0,F0,F0,F0,F0,F0,F0,F0] rfl rfl (any_of HT_.out (by kernel_rfl)) (fun _ _ _ h => h) (Or.inl ⟨by rfl,?_⟩) ?_ ?_
     rotate_left
     · intro w';go_simp;with_reducible rfl
     rotate_left
     · simp only [Act.put,z0_,z1_,z2_,i64_w,i32_w];rfl
     refine pure_ (i:=2) (N:=some 28) (v:=?_) (a':=?_) #[T0,T0,T0,F0,F0,F0,F0,F0,F0,F0,F0,F0] rfl rfl (any_of HT_.out (by kernel_rfl)) (fun _ _ _ h => h) (Or.inl ⟨by rfl,?_⟩) ?_ ?_
     rotate_left
     · intro w';go_simp;with_reducible rfl
     rotate_left
     · simp only [Act.put,z0_,z1_,z2_,i64_w,i32_w];rfl
     refine pure_ (i:=4) (N:=some 30) (v:=?_) (a':=?_) #[T0,T0,T0,F0,T0,F0,F0,F0,F0,F0,F0,F0] rfl rfl (any_of HT_.out (by kernel_rfl)) (fun _ _ _ h => h) (Or.inl ⟨by rfl,?_⟩) ?_ ?_
     rotate_left
     · intro w';go_simp;with_reducible rfl
     rotate_left
     · simp only [Act.put,z0_,z1_,z2_,i64_w,i32_w];rfl
     refine pure_ (i:=5) (N:=some 31) (v:=?_) (a':=?_) #[T0,T0,T0,F0,T0,T0,F0,F0,F0,F0,F0,F0] rfl rfl (any_of HT_.out (by kernel_rfl)) (fun _ _ _ h => h) (Or.inl ⟨by rfl,?_⟩) ?_ ?_
     rotate_left
     · intro w';go_simp;with_reducible rfl
     rotate_left
     · simp only [Act.put,z0_,z1_,z2_,i64_w,i32_w];rfl
     refine pure_ (i:=6) (N:=some 32) (v:=?_) (a':=?_) #[T0,T0,T0,F0,T0,T0,T0,F0,F0,F0,F0,F0] rfl rfl (any_of HT_.out (by kernel_rfl)) (fun _ _ _ h => h) (Or.inl ⟨by rfl,?_⟩) ?_ ?_
     rotate_left
     · intro w';go_simp;with_reducible rfl
     rotate_left
     · simp only [Act.put,z0_,z1_,z2_,i64_w,i32_w];rfl
     refine pure_ (i:=8) (N:=some 34) (v:=?_) (a':=?_) #[T0,T0,T0,F0,T0,T0,T0,F0,T0,F0,F0,F0] rfl rfl (any_of HT_.out (by kernel_rfl)) (fun _ _ _ h => h) (Or.inl ⟨by rfl,?_⟩) ?_ ?_
     rotate_left
     · intro w';go_simp;with_reducible rfl
     rotate_left
     · simp only [Act.put,z0_,z1_,z2_,i64_w,i32_w];rfl
     refine pure_ (i:=9) (N:=some 35) (v:=?_) (a':=?_) #[T0,T0,T0,F0,T0,T0,T0,F0,T0,T0,F0,F0] rfl rfl (any_of HT_.out (by kernel_rfl)) (fun _ _ _ h => h) (Or.inl ⟨by rfl,?_⟩) ?_ ?_
     rotate_left
     · intro w';go_simp;with_reducible rfl
     rotate_left
     · simp only [Act.put,z0_,z1_,z2_,i64_w,i32_w];rfl
     refine take_ (i:=3) (N:=some 29) (v:=?_) (a':=?_) #[T0,T0,T0,T0,T0,T0,T0,F0,T0,T0,F0,F0] rfl rfl (take_ofW HT_.out HW_.out (by kernel_rfl)) (fun _ _ _ h => h) (Or.inl ⟨by rfl,?_⟩) hHeld ?_ ?_
     rotate_left
     ·
      rintro w' ⟨s0,s1,s2,s3,s4,s5,s6⟩
      go_simp;with_reducible rfl
     rotate_left
     · simp only [Act.put,z0_,z1_,z2_,i64_w,i32_w];rfl
     refine one_ (i:=7) (N:=some 33) #[T0,T0,T0,T0,T0,T0,T0,T0,T0,T0,F0,F0] rfl rfl (one_of HT_.out (by kernel_rfl)) (by decide) (fun K hK => ?_);refine goes_ Try.func65 (by kernel_rfl) rfl #[.slice (some ad287) l0.length c0,.slice A1 l1.length c1] (by rfl) rfl rfl (by (try simp only [z3_,z4_,z5_]);first | done | rfl | (simp only [z6_,z7_];rfl)) ?_
     with_reducible refine (estoversref39_Leaving.calls kj5 _ _ l0 _ _ l1 t288 _ ?side1 ?side2 ?side3 ?side4 A16.out).mono ?_
     (case side1 => repeat (first | exact (Kd.C_below HR0.out HB.out) | (with_reducible refine Kd.C_alloc ?_ _) | (with_reducible refine Kd.C_drewN ?_ _) | (with_reducible refine Kd.C_drew ?_)))
     (case side2 => exact HC0.out)
     (case side3 => repeat (first | exact (Kd.C_below HR1.out HB.out) | (with_reducible refine Kd.C_alloc ?_ _) | (with_reducible refine Kd.C_drewN ?_ _) | (with_reducible refine Kd.C_drew ?_)))
     (case side4 => exact HC1.out)
     rintro e w19 ⟨v289,rfl,ho0,hb⟩
     refine ⟨_,rfl,?_⟩;have n0_:=Aside0.mk (Kd.R_lower ho0 (below_size (by repeat (first | (with_reducible first | exact HB.out | apply b0_ | apply b1_ | apply b2_) | exact HB.out))));have n1_:=Aside0.mk (below_step (by repeat (first | (with_reducible first | exact HB.out | apply b0_ | apply b1_ | apply b2_) | exact HB.out)) hb);clear HB;have HO290:=n0_;have HB:=n1_;clear n0_ n1_
     (try clear hb)
     (try clear hb2)
     (try clear hk)
     (try clear hi)
     (try clear ho0)
     obtain ⟨Ao20,co20,eo20⟩:=Kd.R_slice HO290.out
     (first | subst eo20 | (injection eo20 with f1_ f2_ f3_;have f4_:=f1_.symm;have f5_:=f3_.symm;clear f1_ f2_ f3_;subst f4_;subst f5_))
     refine hK.out _ _ ⟨((HB.out.cell (World.block_lt_of_cell? w _ hw287_0)).trans hw287_0),((HB.out.cell (World.block_lt_of_cell? w _ hw287_1)).trans hw287_1),((HB.out.cell (World.block_lt_of_cell? w _ hw287_2)).trans hw287_2),((HB.out.cell (World.block_lt_of_cell? w _ hw287_3)).trans hw287_3),((HB.out.cell (World.block_lt_of_cell? w _ hw287_4)).trans hw287_4),((HB.out.cell (World.block_lt_of_cell? w _ hw287_5)).trans hw287_5),((HB.out.cell (World.block_lt_of_cell? w _ hw287_6)).trans hw287_6)⟩ (fun hHeld => ?_)
     clear hK K;refine norm_ (a':=?_) ?_ ?_
     rotate_left
     ·
      show Act.put _ (some 33) _ = _
      simp only [Act.put,z0_,z1_,z2_,i64_w,i32_w];rfl
     refine one_ (i:=10) (N:=some 36) #[T0,T0,T0,T0,T0,T0,T0,T0,T0,T0,T0,F0] rfl rfl (one_of HT_.out (by kernel_rfl)) (by decide) (fun K hK => ?_)
     refine goes_ Try.func64 (by kernel_rfl) rfl #[.agg #[.int .i64 ((rd_T34 l0 a3).f0),.int .i64 ((rd_T34 l0 a3).f1),.int .i64 ((rd_T34 l0 a3).f2),.int .i64 ((rd_T34 l0 a3).f3),.int .i64 ((rd_T34 l0 a3).f4),.bool ((rd_T34 l0 a3).f5),.bool ((rd_T34 l0 a3).f6)],.slice A1 l1.length c1,.slice Ao20 t288.length co20,.int .i64 a2,.bool a4] (by rfl) rfl rfl (by (try simp only [z3_,z4_,z5_]);first | done | rfl | (simp only [z6_,z7_];rfl)) ?_
     with_reducible refine (estoversref39_reason.calls kj5 ((rd_T34 l0 a3).f0) ((rd_T34 l0 a3).f1) ((rd_T34 l0 a3).f2) ((rd_T34 l0 a3).f3) ((rd_T34 l0 a3).f4) ((rd_T34 l0 a3).f5) ((rd_T34 l0 a3).f6) _ _ l1 _ _ t288 a2 a4 t291 _ ?side1 ?side2 ?side3 ?side4 A17.out).mono ?_
     (case side1 => repeat (first | exact (Kd.C_below HR1.out HB.out) | (with_reducible refine Kd.C_alloc ?_ _) | (with_reducible refine Kd.C_drewN ?_ _) | (with_reducible refine Kd.C_drew ?_)))
     (case side2 => exact HC1.out)
     (case side3 => repeat (first | exact (Kd.R_reads' HO290.out).2.2 | (with_reducible refine Kd.C_alloc ?_ _) | (with_reducible refine Kd.C_drewN ?_ _) | (with_reducible refine Kd.C_drew ?_)))
     (case side4 => exact (Kd.R_reads' HO290.out).2.1)
     rintro e w21 ⟨rfl,hb⟩
     refine ⟨_,rfl,?_⟩;have n0_:=Aside0.mk (Kd.R_below (by (with_reducible repeat (first | apply Kd.R_alloc | apply Kd.R_drewN | apply Kd.R_drew));exact HO290.out) hb);have n1_:=Aside0.mk (below_step (by repeat (first | (with_reducible first | exact HB.out | apply b0_ | apply b1_ | apply b2_) | exact HB.out)) hb);clear HO290;clear HB;have HO290:=n0_;have HB:=n1_;clear n0_ n1_
     (try clear hb)
     (try clear hb2)
     (try clear hk)
     (try clear hi)
     refine hK.out _ _ ⟨((HB.out.cell (World.block_lt_of_cell? w _ hw287_0)).trans hw287_0),((HB.out.cell (World.block_lt_of_cell? w _ hw287_1)).trans hw287_1),((HB.out.cell (World.block_lt_of_cell? w _ hw287_2)).trans hw287_2),((HB.out.cell (World.block_lt_of_cell? w _ hw287_3)).trans hw287_3),((HB.out.cell (World.block_lt_of_cell? w _ hw287_4)).trans hw287_4),((HB.out.cell (World.block_lt_of_cell? w _ hw287_5)).trans hw287_5),((HB.out.cell (World.block_lt_of_cell? w _ hw287_6)).trans hw287_6)⟩ (fun hHeld => ?_)
     clear hK K;refine norm_ (a':=?_) ?_ ?_
     rotate_left
     ·
      show Act.put _ (some 36) _ = _
      simp only [Act.put,z0_,z1_,z2_,i64_w,i32_w];rfl
     refine pure_ (i:=11) (N:=some 10) (v:=?_) (a':=?_) #[T0,T0,T0,T0,T0,T0,T0,T0,T0,T0,T0,T0] rfl rfl (any_of HT_.out (by kernel_rfl)) (fun _ _ _ h => h) (Or.inl ⟨by rfl,?_⟩) ?_ ?_
     rotate_left
     · intro w';go_simp;with_reducible rfl
     rotate_left
     · simp only [Act.put,z0_,z1_,z2_,i64_w,i32_w];rfl
     refine done_ (done_of HT_.out (by kernel_rfl)) ?_
     try go_wp2
     go_ret;exact ⟨by first | rfl | (simp [errW_none,errW_some] <;> rfl) | (simp [*,errW_none,errW_some] <;> rfl),by repeat (first | (with_reducible first | exact HB.out | apply b0_ | apply b1_ | apply b2_) | exact HB.out)⟩
    subst c13
    have H1 : (some (-1)) = some r:=by rw [if_pos rfl] at H;exact H
    clear H;have H:=H1;clear H1;obtain rfl:=Option.some.inj H;go_wp2;go_ret;exact ⟨by first | rfl | (simp [errW_none,errW_some] <;> rfl) | (simp [*,errW_none,errW_some] <;> rfl),by repeat (first | (with_reducible first | exact HB.out | apply b0_ | apply b1_ | apply b2_) | exact HB.out)⟩
end
end Go.Proofs.Ytnmenfkmndnoaaa.Pr
