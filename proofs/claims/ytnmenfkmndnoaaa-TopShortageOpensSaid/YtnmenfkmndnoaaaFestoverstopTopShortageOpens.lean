-- Written by a program of this session (a changed copy of the kit's printer). Not trusted: Lean checks it.
import Derived.Test.YtnmenfkmndnoaaaM0
import Derived.Test.YtnmenfkmndnoaaaV2
import Derived.Test.YtnmenfkmndnoaaaFestoversref19Check
import Derived.Test.YtnmenfkmndnoaaaFestoverstopawake20
import Derived.Test.YtnmenfkmndnoaaaFestoverstopownPages
import Derived.Test.YtnmenfkmndnoaaaFestoverstoprestOf
import Derived.Test.YtnmenfkmndnoaaaFprotectionOvercommit
import Derived.Test.YtnmenfkmndnoaaaM2
namespace Go.Proofs.Ytnmenfkmndnoaaa.Pr
open Go.RowKit Go.Proofs.YtnmenfkmndnoaaaW.PrintWords Go.Proofs.YtnmenfkmndnoaaaW.PrintLast Go.Proofs.YtnmenfkmndnoaaaW.PrintMore
attribute [local go_sem] max2_int min2_int max_two min_two max_three min_three max_four min_four
set_option linter.unusedVariables false
set_option linter.unusedSimpArgs false
mutual
def estoverstop_TopShortageOpens.j0 : Nat→List (S30)→Int→Bool→Option (Bool)
 | 0,_,_,_ => none
 | k + 1,x0,x1,x16 => if x16 = true then ((estoverstop_awake20.f k).bind fun t519 => (some t519)) else ((protection_Overcommit.f k x0 x1).bind fun bt520 => ((estoverstop_ownPages.f k x0).bind fun t522 => (if bt520.2 = 0 then (if bt520.1 = (-1) then (if 0 < (x0.length : Int) then (estoverstop_TopShortageOpens.j1 k x0 x1 t522 ((t522.length : Int) != ((rd_T30 x0 0).f1))) else (none)) else (estoverstop_TopShortageOpens.j1 k x0 x1 t522 true)) else (estoverstop_TopShortageOpens.j1 k x0 x1 t522 true))))
def estoverstop_TopShortageOpens.j1 : Nat→List (S30)→Int→List (S34)→Bool→Option (Bool)
 | 0,_,_,_,_ => none
 | k + 1,x0,x1,x7,x40 => if x40 = true then (some true) else (estoverstop_TopShortageOpens.l0 k x0 x1 x7 (wrap64 ((x7.length : Int) + 1)) 0)
def estoverstop_TopShortageOpens.l0 : Nat→List (S30)→Int→List (S34)→Int→Int→Option (Bool)
 | 0,_,_,_,_,_ => none
 | k + 1,x0,x1,x7,x43,x44 => if x44 < x43 then ((estoverstop_restOf.f k x7 x0 0).bind fun t526 => ((reclaimplan_Next.f k x7 x0 (-1) false).bind fun t527 => (if t527 = (-1) then (some (decide (t526≤x1))) else (if t527 < 0 then (estoverstop_TopShortageOpens.j3 k x0 x1 x7 t527 x43 x44 true) else (if t527≥(x7.length : Int) then (estoverstop_TopShortageOpens.j3 k x0 x1 x7 t527 x43 x44 true) else (if 0≤t527 then (if t527 < (x7.length : Int) then (estoverstop_TopShortageOpens.j3 k x0 x1 x7 t527 x43 x44 ((rd_T34 x7 t527).f6)) else (none)) else (none))))))) else (some false)
def estoverstop_TopShortageOpens.j3 : Nat→List (S30)→Int→List (S34)→Int→Int→Int→Bool→Option (Bool)
 | 0,_,_,_,_,_,_,_ => none
 | k + 1,x0,x1,x7,x9,x43,x44,x71 => if x71 = true then (some false) else (if 0≤x9 then (if x9 < (x7.length : Int) then (estoverstop_TopShortageOpens.l0 k x0 x1 (x7.set (x9 : Int).toNat (⟨(rd_T34 x7 x9).f0,(rd_T34 x7 x9).f1,(rd_T34 x7 x9).f2,(rd_T34 x7 x9).f3,(rd_T34 x7 x9).f4,(rd_T34 x7 x9).f5,true⟩ : S34)) x43 (wrap64 (x44 + 1))) else (none)) else (none))
end
def estoverstop_TopShortageOpens.f (k : Nat) (l0 : List (S30)) (a1 : Int) : Option (Bool):=(estoverstop_awake20.f k).bind fun t517 => (if t517 = true then ((estoversref19_Check.f k l0).bind fun t518 => (estoverstop_TopShortageOpens.j0 k l0 a1 (t518 != 0))) else (estoverstop_TopShortageOpens.j0 k l0 a1 true))
theorem estoverstop_TopShortageOpens.mono_l : ∀ k,(∀ y0 y1 y2,LeO (estoverstop_TopShortageOpens.j0 k y0 y1 y2) (estoverstop_TopShortageOpens.j0 (k + 1) y0 y1 y2))∧(∀ y0 y1 y2 y3,LeO (estoverstop_TopShortageOpens.j1 k y0 y1 y2 y3) (estoverstop_TopShortageOpens.j1 (k + 1) y0 y1 y2 y3))∧(∀ y0 y1 y2 y3 y4,LeO (estoverstop_TopShortageOpens.l0 k y0 y1 y2 y3 y4) (estoverstop_TopShortageOpens.l0 (k + 1) y0 y1 y2 y3 y4))∧(∀ y0 y1 y2 y3 y4 y5 y6,LeO (estoverstop_TopShortageOpens.j3 k y0 y1 y2 y3 y4 y5 y6) (estoverstop_TopShortageOpens.j3 (k + 1) y0 y1 y2 y3 y4 y5 y6))
 | 0 => ⟨fun _ _ _ r h => by simp [estoverstop_TopShortageOpens.j0] at h,fun _ _ _ _ r h => by simp [estoverstop_TopShortageOpens.j1] at h,fun _ _ _ _ _ r h => by simp [estoverstop_TopShortageOpens.l0] at h,fun _ _ _ _ _ _ _ r h => by simp [estoverstop_TopShortageOpens.j3] at h⟩
 | k + 1 => by
  obtain ⟨ih0,ih1,ih2,ih3⟩:=estoverstop_TopShortageOpens.mono_l k;refine ⟨?_,?_,?_,?_⟩
  ·
   intro y0 y1 y2
   unfold estoverstop_TopShortageOpens.j0
   repeat' first
    | (with_reducible exact ih0 _ _ _)
    | (with_reducible exact ih1 _ _ _ _)
    | (with_reducible exact ih2 _ _ _ _ _)
    | (with_reducible exact ih3 _ _ _ _ _ _ _)
    | (with_reducible exact estoversref19_Check.mono _ _)
    | (with_reducible exact estoverstop_awake20.mono _)
    | (with_reducible exact estoverstop_ownPages.mono _ _)
    | (with_reducible exact estoverstop_restOf.mono _ _ _ _)
    | (with_reducible exact protection_Overcommit.mono _ _ _)
    | (with_reducible exact reclaimplan_Next.mono _ _ _ _ _)
    | (with_reducible exact LeO.refl _)
    | (with_reducible exact LeO.none _)
    | (with_reducible refine LeO.ite ?_ ?_)
    | (with_reducible refine LeO.bind ?_ (fun _ => ?_))
    | exact ih0 _ _ _
    | exact ih1 _ _ _ _
    | exact ih2 _ _ _ _ _
    | exact ih3 _ _ _ _ _ _ _
    | exact estoversref19_Check.mono _ _
    | exact estoverstop_awake20.mono _
    | exact estoverstop_ownPages.mono _ _
    | exact estoverstop_restOf.mono _ _ _ _
    | exact protection_Overcommit.mono _ _ _
    | exact reclaimplan_Next.mono _ _ _ _ _
    | exact LeO.none _
    | refine LeO.ite ?_ ?_
    | refine LeO.bind ?_ (fun _ => ?_)
  ·
   intro y0 y1 y2 y3
   unfold estoverstop_TopShortageOpens.j1
   repeat' first
    | (with_reducible exact ih0 _ _ _)
    | (with_reducible exact ih1 _ _ _ _)
    | (with_reducible exact ih2 _ _ _ _ _)
    | (with_reducible exact ih3 _ _ _ _ _ _ _)
    | (with_reducible exact estoversref19_Check.mono _ _)
    | (with_reducible exact estoverstop_awake20.mono _)
    | (with_reducible exact estoverstop_ownPages.mono _ _)
    | (with_reducible exact estoverstop_restOf.mono _ _ _ _)
    | (with_reducible exact protection_Overcommit.mono _ _ _)
    | (with_reducible exact reclaimplan_Next.mono _ _ _ _ _)
    | (with_reducible exact LeO.refl _)
    | (with_reducible exact LeO.none _)
    | (with_reducible refine LeO.ite ?_ ?_)
    | (with_reducible refine LeO.bind ?_ (fun _ => ?_))
    | exact ih0 _ _ _
    | exact ih1 _ _ _ _
    | exact ih2 _ _ _ _ _
    | exact ih3 _ _ _ _ _ _ _
    | exact estoversref19_Check.mono _ _
    | exact estoverstop_awake20.mono _
    | exact estoverstop_ownPages.mono _ _
    | exact estoverstop_restOf.mono _ _ _ _
    | exact protection_Overcommit.mono _ _ _
    | exact reclaimplan_Next.mono _ _ _ _ _
    | exact LeO.none _
    | refine LeO.ite ?_ ?_
    | refine LeO.bind ?_ (fun _ => ?_)
  ·
   intro y0 y1 y2 y3 y4
   unfold estoverstop_TopShortageOpens.l0
   repeat' first
    | (with_reducible exact ih0 _ _ _)
    | (with_reducible exact ih1 _ _ _ _)
    | (with_reducible exact ih2 _ _ _ _ _)
    | (with_reducible exact ih3 _ _ _ _ _ _ _)
    | (with_reducible exact estoversref19_Check.mono _ _)
    | (with_reducible exact estoverstop_awake20.mono _)
    | (with_reducible exact estoverstop_ownPages.mono _ _)
    | (with_reducible exact estoverstop_restOf.mono _ _ _ _)
    | (with_reducible exact protection_Overcommit.mono _ _ _)
    | (with_reducible exact reclaimplan_Next.mono _ _ _ _ _)
    | (with_reducible exact LeO.refl _)
    | (with_reducible exact LeO.none _)
    | (with_reducible refine LeO.ite ?_ ?_)
    | (with_reducible refine LeO.bind ?_ (fun _ => ?_))
    | exact ih0 _ _ _
    | exact ih1 _ _ _ _
    | exact ih2 _ _ _ _ _
    | exact ih3 _ _ _ _ _ _ _
    | exact estoversref19_Check.mono _ _
    | exact estoverstop_awake20.mono _
    | exact estoverstop_ownPages.mono _ _
    | exact estoverstop_restOf.mono _ _ _ _
    | exact protection_Overcommit.mono _ _ _
    | exact reclaimplan_Next.mono _ _ _ _ _
    | exact LeO.none _
    | refine LeO.ite ?_ ?_
    | refine LeO.bind ?_ (fun _ => ?_)
  ·
   intro y0 y1 y2 y3 y4 y5 y6
   unfold estoverstop_TopShortageOpens.j3
   repeat' first
    | (with_reducible exact ih0 _ _ _)
    | (with_reducible exact ih1 _ _ _ _)
    | (with_reducible exact ih2 _ _ _ _ _)
    | (with_reducible exact ih3 _ _ _ _ _ _ _)
    | (with_reducible exact estoversref19_Check.mono _ _)
    | (with_reducible exact estoverstop_awake20.mono _)
    | (with_reducible exact estoverstop_ownPages.mono _ _)
    | (with_reducible exact estoverstop_restOf.mono _ _ _ _)
    | (with_reducible exact protection_Overcommit.mono _ _ _)
    | (with_reducible exact reclaimplan_Next.mono _ _ _ _ _)
    | (with_reducible exact LeO.refl _)
    | (with_reducible exact LeO.none _)
    | (with_reducible refine LeO.ite ?_ ?_)
    | (with_reducible refine LeO.bind ?_ (fun _ => ?_))
    | exact ih0 _ _ _
    | exact ih1 _ _ _ _
    | exact ih2 _ _ _ _ _
    | exact ih3 _ _ _ _ _ _ _
    | exact estoversref19_Check.mono _ _
    | exact estoverstop_awake20.mono _
    | exact estoverstop_ownPages.mono _ _
    | exact estoverstop_restOf.mono _ _ _ _
    | exact protection_Overcommit.mono _ _ _
    | exact reclaimplan_Next.mono _ _ _ _ _
    | exact LeO.none _
    | refine LeO.ite ?_ ?_
    | refine LeO.bind ?_ (fun _ => ?_)
theorem estoverstop_TopShortageOpens.mono : ∀ a0 a1 k,LeO (estoverstop_TopShortageOpens.f k a0 a1) (estoverstop_TopShortageOpens.f (k + 1) a0 a1):=by
 intro a0 a1 k;obtain ⟨ih0,ih1,ih2,ih3⟩:=estoverstop_TopShortageOpens.mono_l k
 unfold estoverstop_TopShortageOpens.f
 repeat' first
  | (with_reducible exact ih0 _ _ _)
  | (with_reducible exact ih1 _ _ _ _)
  | (with_reducible exact ih2 _ _ _ _ _)
  | (with_reducible exact ih3 _ _ _ _ _ _ _)
  | (with_reducible exact estoversref19_Check.mono _ _)
  | (with_reducible exact estoverstop_awake20.mono _)
  | (with_reducible exact estoverstop_ownPages.mono _ _)
  | (with_reducible exact estoverstop_restOf.mono _ _ _ _)
  | (with_reducible exact protection_Overcommit.mono _ _ _)
  | (with_reducible exact reclaimplan_Next.mono _ _ _ _ _)
  | (with_reducible exact LeO.refl _)
  | (with_reducible exact LeO.none _)
  | (with_reducible refine LeO.ite ?_ ?_)
  | (with_reducible refine LeO.bind ?_ (fun _ => ?_))
  | exact ih0 _ _ _
  | exact ih1 _ _ _ _
  | exact ih2 _ _ _ _ _
  | exact ih3 _ _ _ _ _ _ _
  | exact estoversref19_Check.mono _ _
  | exact estoverstop_awake20.mono _
  | exact estoverstop_ownPages.mono _ _
  | exact estoverstop_restOf.mono _ _ _ _
  | exact protection_Overcommit.mono _ _ _
  | exact reclaimplan_Next.mono _ _ _ _ _
  | exact LeO.none _
  | refine LeO.ite ?_ ?_
  | refine LeO.bind ?_ (fun _ => ?_)
set_option maxHeartbeats 8000000 in
set_option maxRecDepth 100000 in
theorem estoverstop_TopShortageOpens.calls (k : Nat) (A0 : Option Addr) (c0 : Nat) (l0 : List (S30)) (a1 : Int) (r : Bool) (w : World) (hr0 : Kd.C k30 w A0 l0.length l0) (hc0 : l0.length≤c0) (h : estoverstop_TopShortageOpens.f k l0 a1 = some r) :
 Calls Try.prog 3 #[.slice A0 l0.length c0,.int .i64 a1] w fun e w' => e = .returned (.bool r)∧Below w.heap.size w w':=by
 have HR0:=Aside0.mk hr0;have HC0:=Aside0.mk hc0;clear hr0 hc0;have HB:=Aside0.mk (Below.refl w.heap.size w);have H : ((estoverstop_awake20.f k).bind fun t517 => (if t517 = true then ((estoversref19_Check.f k l0).bind fun t518 => (estoverstop_TopShortageOpens.j0 k l0 a1 (t518 != 0))) else (estoverstop_TopShortageOpens.j0 k l0 a1 true))) = some r:=h;clear h;have HC3:=Aside0.mk H
 clear H
 go_enter Try.func3,Try.ntmps3
 go_upto_region 1 with (fail)
 go_cut [16] (fun v16 wc => ∃ (kq : Nat) (x16_2 : Bool),v16 = .bool x16_2∧Aside0 (estoverstop_TopShortageOpens.j0 kq l0 a1 x16_2 = some r)∧Aside0 (kq≤k)∧Aside0 (Below w.heap.size w wc))
 case first =>
  have H:=HC3.out;clear HC3;replace H:=Option.bind_eq_some_iff.mp H;obtain ⟨t517,A40,H⟩:=H;replace H : (if t517 = true then ((estoversref19_Check.f k l0).bind fun t518 => (estoverstop_TopShortageOpens.j0 k l0 a1 (t518 != 0))) else (estoverstop_TopShortageOpens.j0 k l0 a1 true)) = some r:=H;have A4:=Aside0.mk A40;clear A40;by_cases c5 : t517 = true
  rotate_left
  ·
   replace c5:=Bool.eq_false_iff.mpr c5;subst c5
   have H1 : (estoverstop_TopShortageOpens.j0 k l0 a1 true) = some r:=by rw [if_neg (show ¬ (false = true) by decide)] at H;exact H
   clear H;have H:=H1;clear H1;have H':=Aside0.mk H;clear H
   go_wp2_with (first | ((with_reducible refine gate_callee (f:=15) rfl ?_);refine goesL_ (some 10) rfl rfl Try.func15 (by kernel_rfl) rfl #[] rfl (by (try simp only [z3_,z4_,z5_]);first | done | rfl | (simp only [z6_,z7_];rfl)) ?_;(with_reducible refine (estoverstop_awake20.calls k  false _ A4.out).mono ?_);rintro e w8 ⟨rfl,hb⟩;refine ⟨_,rfl,?_⟩;have n0_:=Aside0.mk (below_step (by repeat (first | (with_reducible first | exact HB.out | apply b0_ | apply b1_ | apply b2_) | exact HB.out)) hb);clear HB;have HB:=n0_;clear n0_))
   go_meet
   case rel => exact ⟨_,(true),(by first | rfl | (simp;done) | (simp [*];done)),H',⟨by first | omega | exact Nat.le_refl _⟩,⟨by repeat (first | (with_reducible first | exact HB.out | apply b0_ | apply b1_ | apply b2_) | exact HB.out)⟩⟩
  subst c5
  have H1 : ((estoversref19_Check.f k l0).bind fun t518 => (estoverstop_TopShortageOpens.j0 k l0 a1 (t518 != 0))) = some r:=by rw [if_pos rfl] at H;exact H
  clear H;have H:=H1;clear H1;replace H:=Option.bind_eq_some_iff.mp H;obtain ⟨t518,A60,H⟩:=H;replace H : (estoverstop_TopShortageOpens.j0 k l0 a1 (t518 != 0)) = some r:=H;have A6:=Aside0.mk A60;clear A60;have H':=Aside0.mk H;clear H
  go_wp2_with (first | ((with_reducible refine gate_callee (f:=15) rfl ?_);refine goesL_ (some 10) rfl rfl Try.func15 (by kernel_rfl) rfl #[] rfl (by (try simp only [z3_,z4_,z5_]);first | done | rfl | (simp only [z6_,z7_];rfl)) ?_;(with_reducible refine (estoverstop_awake20.calls k  true _ A4.out).mono ?_);rintro e w7 ⟨rfl,hb⟩;refine ⟨_,rfl,?_⟩;have n0_:=Aside0.mk (below_step (by repeat (first | (with_reducible first | exact HB.out | apply b0_ | apply b1_ | apply b2_) | exact HB.out)) hb);clear HB;have HB:=n0_;clear n0_) | (go_at_call 16;(with_reducible refine (estoversref19_Check.calls k _ _ l0 t518 _ ?side1 ?side2 A6.out).mono ?_);(case side1 => repeat (first | exact (Kd.C_below HR0.out HB.out) | (with_reducible refine Kd.C_alloc ?_ _) | (with_reducible refine Kd.C_drewN ?_ _) | (with_reducible refine Kd.C_drew ?_)));(case side2 => exact HC0.out);rintro e w' ⟨rfl,⟨nd,rfl⟩⟩))
  go_meet
  case rel => exact ⟨_,((t518 != 0)),(by first | rfl | (simp;done) | (simp [*];done)),H',⟨by first | omega | exact Nat.le_refl _⟩,⟨by repeat (first | (with_reducible first | exact HB.out | apply b0_ | apply b1_ | apply b2_) | exact HB.out)⟩⟩
 case rest =>
  clear HC3;obtain ⟨kq,x16_2,rfl,HA,HJ2,HB⟩:=hcut
  cases kq with
   | zero => exact absurd HA.out (by simp [estoverstop_TopShortageOpens.j0])
   | succ kj2 =>
    have H:=HA.out;clear HA;simp only [estoverstop_TopShortageOpens.j0] at H;by_cases c9 : x16_2 = true
    rotate_left
    ·
     replace c9:=Bool.eq_false_iff.mpr c9;subst c9
     have H1 : ((protection_Overcommit.f kj2 l0 a1).bind fun bt520 => ((estoverstop_ownPages.f kj2 l0).bind fun t522 => (if bt520.2 = 0 then (if bt520.1 = (-1) then (if 0 < (l0.length : Int) then (estoverstop_TopShortageOpens.j1 kj2 l0 a1 t522 ((t522.length : Int) != ((rd_T30 l0 0).f1))) else (none)) else (estoverstop_TopShortageOpens.j1 kj2 l0 a1 t522 true)) else (estoverstop_TopShortageOpens.j1 kj2 l0 a1 t522 true)))) = some r:=by rw [if_neg (show ¬ (false = true) by decide)] at H;exact H
     clear H;have H:=H1;clear H1;replace H:=Option.bind_eq_some_iff.mp H;obtain ⟨⟨t520,t521⟩,A120,H⟩:=H
     replace H : ((estoverstop_ownPages.f kj2 l0).bind fun t522 => (if t521 = 0 then (if t520 = (-1) then (if 0 < (l0.length : Int) then (estoverstop_TopShortageOpens.j1 kj2 l0 a1 t522 ((t522.length : Int) != ((rd_T30 l0 0).f1))) else (none)) else (estoverstop_TopShortageOpens.j1 kj2 l0 a1 t522 true)) else (estoverstop_TopShortageOpens.j1 kj2 l0 a1 t522 true))) = some r:=H;have A12:=Aside0.mk A120
     clear A120;replace H:=Option.bind_eq_some_iff.mp H;obtain ⟨t522,A130,H⟩:=H
     replace H : (if t521 = 0 then (if t520 = (-1) then (if 0 < (l0.length : Int) then (estoverstop_TopShortageOpens.j1 kj2 l0 a1 t522 ((t522.length : Int) != ((rd_T30 l0 0).f1))) else (none)) else (estoverstop_TopShortageOpens.j1 kj2 l0 a1 t522 true)) else (estoverstop_TopShortageOpens.j1 kj2 l0 a1 t522 true)) = some r:=H;have A13:=Aside0.mk A130;clear A130;have HC14:=Aside0.mk H;clear H
     go_upto_region 5 with (first | ((with_reducible refine gate_callee (f:=17) rfl ?_);refine goesL_ (some 21) rfl rfl Try.func17 (by kernel_rfl) rfl #[.slice A0 l0.length c0,.int .i64 a1] rfl (by (try simp only [z3_,z4_,z5_]);first | done | rfl | (simp only [z6_,z7_];rfl)) ?_;(with_reducible refine (protection_Overcommit.calls kj2 _ _ l0 a1 t520 t521 _ ?side1 ?side2 A12.out).mono ?_);(case side1 => repeat (first | exact (Kd.C_below HR0.out HB.out) | (with_reducible refine Kd.C_alloc ?_ _) | (with_reducible refine Kd.C_drewN ?_ _) | (with_reducible refine Kd.C_drew ?_)));(case side2 => exact HC0.out);rintro e w15 ⟨rfl,hb⟩;refine ⟨_,rfl,?_⟩;have n0_:=Aside0.mk (below_step (by repeat (first | (with_reducible first | exact HB.out | apply b0_ | apply b1_ | apply b2_) | exact HB.out)) hb);clear HB;have HB:=n0_;clear n0_) | ((with_reducible refine gate_callee (f:=18) rfl ?_);refine goesL_ (some 25) rfl rfl Try.func18 (by kernel_rfl) rfl #[.slice A0 l0.length c0] rfl (by (try simp only [z3_,z4_,z5_]);first | done | rfl | (simp only [z6_,z7_];rfl)) ?_;(with_reducible refine (estoverstop_ownPages.calls kj2 _ _ l0 t522 _ ?side1 ?side2 A13.out).mono ?_);(case side1 => repeat (first | exact (Kd.C_below HR0.out HB.out) | (with_reducible refine Kd.C_alloc ?_ _) | (with_reducible refine Kd.C_drewN ?_ _) | (with_reducible refine Kd.C_drew ?_)));(case side2 => exact HC0.out);rintro e w16 ⟨v523,rfl,ho0,hb⟩;refine ⟨_,rfl,?_⟩;have n0_:=Aside0.mk (Kd.R_lower ho0 (below_size (by repeat (first | (with_reducible first | exact HB.out | apply b0_ | apply b1_ | apply b2_) | exact HB.out))));have n1_:=Aside0.mk (below_step (by repeat (first | (with_reducible first | exact HB.out | apply b0_ | apply b1_ | apply b2_) | exact HB.out)) hb);clear HB;have HO524:=n0_;have HB:=n1_;clear n0_ n1_;(try clear ho0)))
     (try simp only [Act.put,List.setIfInBounds_toArray,List.set_cons_zero,List.set_cons_succ])
     go_cut [40] (fun v40 wc => ∃ (kq : Nat) (x40_13 : Bool),v40 = .bool x40_13∧Aside0 (estoverstop_TopShortageOpens.j1 kq l0 a1 t522 x40_13 = some r)∧Aside0 (kq≤kj2)∧Aside0 (Kd.R k34 34 wc w.heap.size (fun _ => True) v523 t522)∧Aside0 (Below w.heap.size w wc))
     case first =>
      have H:=HC14.out;clear HC14;by_cases c17 : t521 = 0
      rotate_left
      ·
       rw [if_neg c17] at H;have c17b0 : (t521 == 0) = false:=beq_eq_false_iff_ne.mpr c17;have c17b1 : (t521 != 0) = true:=bne_iff_ne.mpr c17
       (first | rw [c17b0] | (simp only [i64_w,i32_w];rw [c17b0]) | skip)
       have H':=Aside0.mk H;clear H;go_wp2
       go_meet
       case rel => exact ⟨_,(true),(by first | rfl | (simp;done) | (simp [*];done)),H',⟨by have:=HJ2.out;first | omega | exact Nat.le_refl _⟩,⟨by (with_reducible repeat (first | apply Kd.R_alloc | apply Kd.R_drewN | apply Kd.R_drew));exact HO524.out⟩,⟨by repeat (first | (with_reducible first | exact HB.out | apply b0_ | apply b1_ | apply b2_) | exact HB.out)⟩⟩
      rw [if_pos c17] at H;have c17b0 : (t521 == 0) = true:=beq_iff_eq.mpr c17;have c17b1 : (t521 != 0) = false:=bne_eq_false_iff_eq.mpr c17;clear c17
      (first | rw [c17b0] | (simp only [i64_w,i32_w];rw [c17b0]) | skip)
      by_cases c18 : t520 = (-1)
      rotate_left
      ·
       rw [if_neg c18] at H;have c18b0 : (t520 == (-1)) = false:=beq_eq_false_iff_ne.mpr c18;have c18b1 : (t520 != (-1)) = true:=bne_iff_ne.mpr c18;have H':=Aside0.mk H;clear H;go_wp2
       go_meet
       case rel => exact ⟨_,(true),(by first | rfl | (simp;done) | (simp [*];done)),H',⟨by have:=HJ2.out;first | omega | exact Nat.le_refl _⟩,⟨by (with_reducible repeat (first | apply Kd.R_alloc | apply Kd.R_drewN | apply Kd.R_drew));exact HO524.out⟩,⟨by repeat (first | (with_reducible first | exact HB.out | apply b0_ | apply b1_ | apply b2_) | exact HB.out)⟩⟩
      rw [if_pos c18] at H;have c18b0 : (t520 == (-1)) = true:=beq_iff_eq.mpr c18;have c18b1 : (t520 != (-1)) = false:=bne_eq_false_iff_eq.mpr c18;clear c18;by_cases c19 : 0 < (l0.length : Int)
      rotate_left
      · rw [if_neg c19] at H;exact absurd H (by simp)
      rw [if_pos c19] at H;have c19b0 : decide (0 < (l0.length : Int)) = true:=decide_eq_true c19;have c19b1 : decide (0 < l0.length) = true:=decide_eq_true (by omega);clear c19;have H':=Aside0.mk H;clear H;obtain ⟨Ao20,co20,eo20⟩:=Kd.R_slice HO524.out;subst eo20;have p525 : 0≤(0 : Int):=(by omega)
      have q525 : 0 < (l0.length : Int):=of_decide_eq_true (by first | (with_reducible assumption) | assumption);obtain ⟨ad525,e525,hx525_0,hx525_1,hx525_2,hx525_3,hx525_4⟩:=at_T30 HR0.out 0 p525 q525;cases e525;have qi525 : (0 < l0.length) = True:=eq_true (by omega)
      (try rw [show ((0 : Int)).toNat = 0 from rfl] at hx525_0)
      (try rw [show 0 * 5 = 0 from rfl] at hx525_0)
      (try rw [Addr.add_zero'] at hx525_0)
      (try rw [show ((0 : Int)).toNat = 0 from rfl] at hx525_1)
      (try rw [show 0 * 5 = 0 from rfl] at hx525_1)
      (try rw [Addr.add_zero'] at hx525_1)
      (try rw [show ((0 : Int)).toNat = 0 from rfl] at hx525_2)
      (try rw [show 0 * 5 = 0 from rfl] at hx525_2)
      (try rw [Addr.add_zero'] at hx525_2)
      (try rw [show ((0 : Int)).toNat = 0 from rfl] at hx525_3)
      (try rw [show 0 * 5 = 0 from rfl] at hx525_3)
      (try rw [Addr.add_zero'] at hx525_3)
      (try rw [show ((0 : Int)).toNat = 0 from rfl] at hx525_4)
      (try rw [show 0 * 5 = 0 from rfl] at hx525_4)
      (try rw [Addr.add_zero'] at hx525_4)
      replace hx525_0:=(HB.out.cell (World.block_lt_of_cell? w _ hx525_0)).trans hx525_0;replace hx525_1:=(HB.out.cell (World.block_lt_of_cell? w _ hx525_1)).trans hx525_1;replace hx525_2:=(HB.out.cell (World.block_lt_of_cell? w _ hx525_2)).trans hx525_2;replace hx525_3:=(HB.out.cell (World.block_lt_of_cell? w _ hx525_3)).trans hx525_3
      replace hx525_4:=(HB.out.cell (World.block_lt_of_cell? w _ hx525_4)).trans hx525_4;replace p525:=eq_true p525;replace q525:=eq_true q525;go_wp2
      go_meet
      case rel => exact ⟨_,(((t522.length : Int) != ((rd_T30 l0 0).f1))),(by first | rfl | (simp;done) | (simp [*];done)),H',⟨by have:=HJ2.out;first | omega | exact Nat.le_refl _⟩,⟨by (with_reducible repeat (first | apply Kd.R_alloc | apply Kd.R_drewN | apply Kd.R_drew));exact HO524.out⟩,⟨by repeat (first | (with_reducible first | exact HB.out | apply b0_ | apply b1_ | apply b2_) | exact HB.out)⟩⟩
     case rest =>
      clear HC14;obtain ⟨kq,x40_13,rfl,HA,HJ13,HO_7,HB⟩:=hcut
      cases kq with
       | zero => exact absurd HA.out (by simp [estoverstop_TopShortageOpens.j1])
       | succ kj13 =>
        have H:=HA.out;clear HA;simp only [estoverstop_TopShortageOpens.j1] at H;by_cases c21 : x40_13 = true
        rotate_left
        ·
         replace c21:=Bool.eq_false_iff.mpr c21;subst c21
         have H1 : (estoverstop_TopShortageOpens.l0 kj13 l0 a1 t522 (wrap64 ((t522.length : Int) + 1)) 0) = some r:=by rw [if_neg (show ¬ (false = true) by decide)] at H;exact H
         clear H;have H:=H1;clear H1;have H':=Aside0.mk H;clear H;obtain ⟨Ao22,co22,eo22⟩:=Kd.R_slice HO_7.out;subst eo22;go_wp2
         go_loopg [44] kj13 (fun kq v44 w' => ∃ (x7_3 : List (S34)) (x44_3 : Int),v44 = .int .i64 x44_3∧Aside0 (estoverstop_TopShortageOpens.l0 kq l0 a1 x7_3 (wrap64 ((t522.length : Int) + 1)) x44_3 = some r)∧Aside0 (kq≤kj13)∧Aside0 (Kd.R k34 34 w' w.heap.size (fun _ => True) (.slice Ao22 t522.length co22) x7_3)∧Aside0 (Below w.heap.size w w'))
         case atStart => exact ⟨(t522),(0),(by first | rfl | (simp;done) | (simp [*];done)),H',⟨Nat.le_refl _⟩,⟨by (with_reducible repeat (first | apply Kd.R_alloc | apply Kd.R_drewN | apply Kd.R_drew));exact HO_7.out⟩,⟨by repeat (first | (with_reducible first | exact HB.out | apply b0_ | apply b1_ | apply b2_) | exact HB.out)⟩⟩
         case round =>
          clear H';obtain ⟨x7_3,x44_3,rfl,HA,HK3,HO_7,HB⟩:=hrel;have hl7_3:=(Kd.R_reads' HO_7.out).1;rw [hl7_3] at HO_7
          (try simp only [hl7_3])
          cases gk with
           | zero => exact absurd HA.out (by simp [estoverstop_TopShortageOpens.l0])
           | succ k3 =>
            have H:=HA.out;clear HA;simp only [estoverstop_TopShortageOpens.l0] at H;by_cases c23 : x44_3 < (wrap64 ((t522.length : Int) + 1))
            rotate_left
            · rw [if_neg c23] at H;have c23b0 : decide (x44_3 < (wrap64 ((t522.length : Int) + 1))) = false:=decide_eq_false c23; have c23b0q : decide (x44_3 < (wrap64 ((x7_3.length : Int) + 1))) = false := (by first | (rw [← hl7_3]; exact c23b0) | (have c23b0z := c23b0; simp only [hl7_3] at c23b0z; exact c23b0z));clear c23;obtain rfl:=Option.some.inj H;go_wp2;go_ret;exact ⟨by first | rfl | (simp [errW_none,errW_some] <;> rfl) | (simp [*,errW_none,errW_some] <;> rfl),by repeat (first | (with_reducible first | exact HB.out | apply b0_ | apply b1_ | apply b2_) | exact HB.out)⟩
            rw [if_pos c23] at H;have c23b0 : decide (x44_3 < (wrap64 ((t522.length : Int) + 1))) = true:=decide_eq_true c23; have c23b0q : decide (x44_3 < (wrap64 ((x7_3.length : Int) + 1))) = true := (by first | (rw [← hl7_3]; exact c23b0) | (have c23b0z := c23b0; simp only [hl7_3] at c23b0z; exact c23b0z));clear c23;replace H:=Option.bind_eq_some_iff.mp H;obtain ⟨t526,A240,H⟩:=H
            replace H : ((reclaimplan_Next.f k3 x7_3 l0 (-1) false).bind fun t527 => (if t527 = (-1) then (some (decide (t526≤a1))) else (if t527 < 0 then (estoverstop_TopShortageOpens.j3 k3 l0 a1 x7_3 t527 (wrap64 ((t522.length : Int) + 1)) x44_3 true) else (if t527≥(x7_3.length : Int) then (estoverstop_TopShortageOpens.j3 k3 l0 a1 x7_3 t527 (wrap64 ((t522.length : Int) + 1)) x44_3 true) else (if 0≤t527 then (if t527 < (x7_3.length : Int) then (estoverstop_TopShortageOpens.j3 k3 l0 a1 x7_3 t527 (wrap64 ((t522.length : Int) + 1)) x44_3 ((rd_T34 x7_3 t527).f6)) else (none)) else (none)))))) = some r:=H
            have A24:=Aside0.mk A240;clear A240;replace H:=Option.bind_eq_some_iff.mp H;obtain ⟨t527,A250,H⟩:=H
            replace H : (if t527 = (-1) then (some (decide (t526≤a1))) else (if t527 < 0 then (estoverstop_TopShortageOpens.j3 k3 l0 a1 x7_3 t527 (wrap64 ((t522.length : Int) + 1)) x44_3 true) else (if t527≥(x7_3.length : Int) then (estoverstop_TopShortageOpens.j3 k3 l0 a1 x7_3 t527 (wrap64 ((t522.length : Int) + 1)) x44_3 true) else (if 0≤t527 then (if t527 < (x7_3.length : Int) then (estoverstop_TopShortageOpens.j3 k3 l0 a1 x7_3 t527 (wrap64 ((t522.length : Int) + 1)) x44_3 ((rd_T34 x7_3 t527).f6)) else (none)) else (none))))) = some r:=H
            have A25:=Aside0.mk A250;clear A250;by_cases c26 : t527 = (-1)
            rotate_left
            ·
             rw [if_neg c26] at H;have c26b0 : (t527 == (-1)) = false:=beq_eq_false_iff_ne.mpr c26;have c26b1 : (t527 != (-1)) = true:=bne_iff_ne.mpr c26;have HC29:=Aside0.mk H;clear H
             go_upto_region 13 with (first | ((with_reducible refine gate_callee (f:=19) rfl ?_);refine goesL_ (some 48) rfl rfl Try.func19 (by kernel_rfl) rfl #[.slice Ao22 x7_3.length co22,.slice A0 l0.length c0,.int .i64 0] rfl (by (try simp only [z3_,z4_,z5_]);first | done | rfl | (simp only [z6_,z7_];rfl)) ?_;(with_reducible refine (estoverstop_restOf.calls k3 _ _ x7_3 _ _ l0 0 t526 _ ?side1 ?side2 ?side3 ?side4 A24.out).mono ?_);(case side1 => repeat (first | exact (Kd.R_reads' HO_7.out).2.2 | (with_reducible refine Kd.C_alloc ?_ _) | (with_reducible refine Kd.C_drewN ?_ _) | (with_reducible refine Kd.C_drew ?_)));(case side2 => exact (Kd.R_reads' HO_7.out).2.1);(case side3 => repeat (first | exact (Kd.C_below HR0.out HB.out) | (with_reducible refine Kd.C_alloc ?_ _) | (with_reducible refine Kd.C_drewN ?_ _) | (with_reducible refine Kd.C_drew ?_)));(case side4 => exact HC0.out);rintro e w30 ⟨rfl,hb⟩;refine ⟨_,rfl,?_⟩;have n0_:=Aside0.mk (Kd.R_below (by (with_reducible repeat (first | apply Kd.R_alloc | apply Kd.R_drewN | apply Kd.R_drew));exact HO_7.out) hb);have n1_:=Aside0.mk (below_step (by repeat (first | (with_reducible first | exact HB.out | apply b0_ | apply b1_ | apply b2_) | exact HB.out)) hb);clear HO_7;clear HB;have HO_7:=n0_;have HB:=n1_;clear n0_ n1_) | ((with_reducible refine gate_callee (f:=20) rfl ?_);refine goesL_ (some 51) rfl rfl Try.func20 (by kernel_rfl) rfl #[.slice Ao22 x7_3.length co22,.slice A0 l0.length c0,.int .i64 (-1),.bool false] rfl (by (try simp only [z3_,z4_,z5_]);first | done | rfl | (simp only [z6_,z7_];rfl)) ?_;(with_reducible refine (reclaimplan_Next.calls k3 _ _ x7_3 _ _ l0 (-1) false t527 _ ?side1 ?side2 ?side3 ?side4 A25.out).mono ?_);(case side1 => repeat (first | exact (Kd.R_reads' HO_7.out).2.2 | (with_reducible refine Kd.C_alloc ?_ _) | (with_reducible refine Kd.C_drewN ?_ _) | (with_reducible refine Kd.C_drew ?_)));(case side2 => exact (Kd.R_reads' HO_7.out).2.1);(case side3 => repeat (first | exact (Kd.C_below HR0.out HB.out) | (with_reducible refine Kd.C_alloc ?_ _) | (with_reducible refine Kd.C_drewN ?_ _) | (with_reducible refine Kd.C_drew ?_)));(case side4 => exact HC0.out);rintro e w31 ⟨rfl,hb⟩;refine ⟨_,rfl,?_⟩;have n0_:=Aside0.mk (Kd.R_below (by (with_reducible repeat (first | apply Kd.R_alloc | apply Kd.R_drewN | apply Kd.R_drew));exact HO_7.out) hb);have n1_:=Aside0.mk (below_step (by repeat (first | (with_reducible first | exact HB.out | apply b0_ | apply b1_ | apply b2_) | exact HB.out)) hb);clear HO_7;clear HB;have HO_7:=n0_;have HB:=n1_;clear n0_ n1_))
             (try simp only [Act.put,List.setIfInBounds_toArray,List.set_cons_zero,List.set_cons_succ])
             go_cut [71] (fun v71 wc => ∃ (kq : Nat) (x71_28 : Bool),v71 = .bool x71_28∧Aside0 (estoverstop_TopShortageOpens.j3 kq l0 a1 x7_3 t527 (wrap64 ((t522.length : Int) + 1)) x44_3 x71_28 = some r)∧Aside0 (kq≤k3)∧Aside0 (Kd.R k34 34 wc w.heap.size (fun _ => True) (.slice Ao22 x7_3.length co22) x7_3)∧Aside0 (Below w.heap.size w wc))
             case first =>
              have H:=HC29.out;clear HC29;by_cases c32 : t527 < 0
              rotate_left
              ·
               rw [if_neg c32] at H;have c32b0 : decide (t527 < 0) = false:=decide_eq_false c32;clear c32
               (first | rw [c32b0] | (simp only [i64_w,i32_w];rw [c32b0]) | skip)
               by_cases c33 : t527≥(x7_3.length : Int)
               rotate_left
               ·
                rw [if_neg c33] at H;have c33b0 : decide ((x7_3.length : Int)≤t527) = false:=decide_eq_false c33;clear c33;by_cases c34 : 0≤t527
                rotate_left
                · rw [if_neg c34] at H;exact absurd H (by simp)
                rw [if_pos c34] at H;have c34b0 : decide (0≤t527) = true:=decide_eq_true c34;clear c34;by_cases c35 : t527 < (x7_3.length : Int)
                rotate_left
                · rw [if_neg c35] at H;exact absurd H (by simp)
                rw [if_pos c35] at H;have c35b0 : decide (t527 < (x7_3.length : Int)) = true:=decide_eq_true c35;clear c35;have H':=Aside0.mk H;clear H;have p528 : 0≤(t527 : Int):=of_decide_eq_true (by first | (with_reducible assumption) | assumption);have q528 : t527 < (x7_3.length : Int):=of_decide_eq_true (by first | (with_reducible assumption) | assumption)
                obtain ⟨ad528,e528,hx528_0,hx528_1,hx528_2,hx528_3,hx528_4,hx528_5,hx528_6⟩:=at_T34 (Kd.R_reads' HO_7.out).2.2 t527 p528 q528;cases e528;replace p528:=eq_true p528;replace q528:=eq_true q528;go_wp2
                go_meet
                case rel => exact ⟨_,((rd_T34 x7_3 t527).f6),(by first | rfl | (simp;done) | (simp [*];done)),H',⟨by have:=HJ2.out;have:=HJ13.out;have:=HK3.out;first | omega | exact Nat.le_refl _⟩,⟨by (try simp only [hl7_3]);(with_reducible repeat (first | apply Kd.R_alloc | apply Kd.R_drewN | apply Kd.R_drew));exact HO_7.out⟩,⟨by repeat (first | (with_reducible first | exact HB.out | apply b0_ | apply b1_ | apply b2_) | exact HB.out)⟩⟩
               rw [if_pos c33] at H;have c33b0 : decide ((x7_3.length : Int)≤t527) = true:=decide_eq_true c33;clear c33;have H':=Aside0.mk H;clear H;go_wp2
               go_meet
               case rel => exact ⟨_,(true),(by first | rfl | (simp;done) | (simp [*];done)),H',⟨by have:=HJ2.out;have:=HJ13.out;have:=HK3.out;first | omega | exact Nat.le_refl _⟩,⟨by (try simp only [hl7_3]);(with_reducible repeat (first | apply Kd.R_alloc | apply Kd.R_drewN | apply Kd.R_drew));exact HO_7.out⟩,⟨by repeat (first | (with_reducible first | exact HB.out | apply b0_ | apply b1_ | apply b2_) | exact HB.out)⟩⟩
              rw [if_pos c32] at H;have c32b0 : decide (t527 < 0) = true:=decide_eq_true c32;clear c32
              (first | rw [c32b0] | (simp only [i64_w,i32_w];rw [c32b0]) | skip)
              have H':=Aside0.mk H;clear H;go_wp2
              go_meet
              case rel => exact ⟨_,(true),(by first | rfl | (simp;done) | (simp [*];done)),H',⟨by have:=HJ2.out;have:=HJ13.out;have:=HK3.out;first | omega | exact Nat.le_refl _⟩,⟨by (try simp only [hl7_3]);(with_reducible repeat (first | apply Kd.R_alloc | apply Kd.R_drewN | apply Kd.R_drew));exact HO_7.out⟩,⟨by repeat (first | (with_reducible first | exact HB.out | apply b0_ | apply b1_ | apply b2_) | exact HB.out)⟩⟩
             case rest =>
              clear HC29;obtain ⟨kq,x71_28,rfl,HA,HJ28,HO_7,HB⟩:=hcut
              cases kq with
               | zero => exact absurd HA.out (by simp [estoverstop_TopShortageOpens.j3])
               | succ kj28 =>
                have H:=HA.out;clear HA;simp only [estoverstop_TopShortageOpens.j3] at H;by_cases c36 : x71_28 = true
                rotate_left
                ·
                 replace c36:=Bool.eq_false_iff.mpr c36;subst c36
                 have H1 : (if 0≤t527 then (if t527 < (x7_3.length : Int) then (estoverstop_TopShortageOpens.l0 kj28 l0 a1 (x7_3.set (t527 : Int).toNat (⟨(rd_T34 x7_3 t527).f0,(rd_T34 x7_3 t527).f1,(rd_T34 x7_3 t527).f2,(rd_T34 x7_3 t527).f3,(rd_T34 x7_3 t527).f4,(rd_T34 x7_3 t527).f5,true⟩ : S34)) (wrap64 ((t522.length : Int) + 1)) (wrap64 (x44_3 + 1))) else (none)) else (none)) = some r:=by rw [if_neg (show ¬ (false = true) by decide)] at H;exact H
                 clear H;have H:=H1;clear H1;by_cases c37 : 0≤t527
                 rotate_left
                 · rw [if_neg c37] at H;exact absurd H (by simp)
                 rw [if_pos c37] at H;have c37b0 : decide (0≤t527) = true:=decide_eq_true c37;clear c37;by_cases c38 : t527 < (x7_3.length : Int)
                 rotate_left
                 · rw [if_neg c38] at H;exact absurd H (by simp)
                 rw [if_pos c38] at H;have c38b0 : decide (t527 < (x7_3.length : Int)) = true:=decide_eq_true c38;clear c38;obtain ⟨y529,hy529⟩ : ∃ y_ : List (S34),y_ = (x7_3.set (t527 : Int).toNat (⟨(rd_T34 x7_3 t527).f0,(rd_T34 x7_3 t527).f1,(rd_T34 x7_3 t527).f2,(rd_T34 x7_3 t527).f3,(rd_T34 x7_3 t527).f4,(rd_T34 x7_3 t527).f5,true⟩ : S34)):=⟨_,rfl⟩
                 replace H : (estoverstop_TopShortageOpens.l0 kj28 l0 a1 y529 (wrap64 ((t522.length : Int) + 1)) (wrap64 (x44_3 + 1))) = some r:=by first | (rw [hy529];with_reducible exact H) | (have H2_:=(Option.bind_some _ _).symm.trans H;rw [hy529];with_reducible exact H2_) | (have H2_:=(Option.bind_some _ _).symm.trans H;with_reducible exact H2_) | with_reducible exact H | (rw [hy529];exact H) | exact H
                 have Ny529:=Aside0.mk hy529;clear hy529;have H':=Aside0.mk H;clear H;have p39 : 0≤(t527 : Int):=of_decide_eq_true (by first | (with_reducible assumption) | assumption);have q39 : (t527 : Int) < ((x7_3.length : Int) : Int):=of_decide_eq_true (by first | (with_reducible assumption) | assumption);obtain ⟨go39,co39,eo39,gb39,gl39,cl39,HG39⟩:=Kd.R_form HO_7.out (by omega)
                 (first | cases eo39 | (injection eo39 with ea_ en_ ec_;(first | subst ea_ | (injection ea_ with ea_;subst ea_));subst ec_;clear en_))
                 have GB39:=Aside0.mk gb39;have GG39:=Aside0.mk HG39;clear gb39 gl39 HG39;obtain ⟨ce39,hcl39,hM39,hcc39,hfr39⟩:=Kd.R_elem HO_7.out z34 (t527 : Int) p39 q39;obtain rfl:=k34_openM hM39;have hx39_0 : wc.cell? ⟨go39,(t527 : Int).toNat * 7,none⟩ = some (.int .i64 ((rd_T34 x7_3 t527).f0)):=hcc39 0 _ rfl
                 have hx39_1 : wc.cell? ⟨go39,(t527 : Int).toNat * 7 + 1,none⟩ = some (.int .i64 ((rd_T34 x7_3 t527).f1)):=hcc39 1 _ rfl;have hx39_2 : wc.cell? ⟨go39,(t527 : Int).toNat * 7 + 2,none⟩ = some (.int .i64 ((rd_T34 x7_3 t527).f2)):=hcc39 2 _ rfl;have hx39_3 : wc.cell? ⟨go39,(t527 : Int).toNat * 7 + 3,none⟩ = some (.int .i64 ((rd_T34 x7_3 t527).f3)):=hcc39 3 _ rfl
                 have hx39_4 : wc.cell? ⟨go39,(t527 : Int).toNat * 7 + 4,none⟩ = some (.int .i64 ((rd_T34 x7_3 t527).f4)):=hcc39 4 _ rfl;have hx39_5 : wc.cell? ⟨go39,(t527 : Int).toNat * 7 + 5,none⟩ = some (.bool ((rd_T34 x7_3 t527).f5)):=hcc39 5 _ rfl;have hx39_6 : wc.cell? ⟨go39,(t527 : Int).toNat * 7 + 6,none⟩ = some (.bool ((rd_T34 x7_3 t527).f6)):=hcc39 6 _ rfl
                 have hf39_0 : wc.frozen? ⟨go39,(t527 : Int).toNat * 7,none⟩ = false:=hfr39 0;have hf39_1 : wc.frozen? ⟨go39,(t527 : Int).toNat * 7 + 1,none⟩ = false:=hfr39 1;have hf39_2 : wc.frozen? ⟨go39,(t527 : Int).toNat * 7 + 2,none⟩ = false:=hfr39 2;have hf39_3 : wc.frozen? ⟨go39,(t527 : Int).toNat * 7 + 3,none⟩ = false:=hfr39 3
                 have hf39_4 : wc.frozen? ⟨go39,(t527 : Int).toNat * 7 + 4,none⟩ = false:=hfr39 4;have hf39_5 : wc.frozen? ⟨go39,(t527 : Int).toNat * 7 + 5,none⟩ = false:=hfr39 5;have hf39_6 : wc.frozen? ⟨go39,(t527 : Int).toNat * 7 + 6,none⟩ = false:=hfr39 6;clear hcl39 hcc39 hfr39;(try clear hM39);replace p39:=eq_true p39;replace q39:=eq_true q39
                 have HX40:=Aside0.mk (show Kd.R k34 34 wc w.heap.size (fun _ => True) (.slice (some ⟨go39,0,none⟩) x7_3.length co22) x7_3 from (by (with_reducible repeat (first | apply Kd.R_alloc | apply Kd.R_drewN | apply Kd.R_drew));exact HO_7.out))
                 obtain ⟨ce40,hcl40,hM40,hcc40,hfr40⟩:=Kd.R_elem HX40.out z34 (t527 : Int) (of_decide_eq_true (by first | (with_reducible assumption) | assumption)) (by have h_ : (t527 : Int) < ((x7_3.length : Int) : Int):=of_decide_eq_true (by first | (with_reducible assumption) | assumption);first | exact h_ | (have e_:=(Kd.R_reads' HO_7.out).1;omega) | simpa using h_);obtain rfl:=k34_openM hM40
                 have HP40:=Kd.R_seg HX40.out (t527 : Int) (of_decide_eq_true (by first | (with_reducible assumption) | assumption)) (by have h_ : (t527 : Int) < ((x7_3.length : Int) : Int):=of_decide_eq_true (by first | (with_reducible assumption) | assumption);first | exact h_ | (have e_:=(Kd.R_reads' HO_7.out).1;omega) | simpa using h_) (seg:=[.bool true]) (j:=6) hcl40 hcc40 (show 7≤7 from by decide) (x':=(⟨(rd_T34 x7_3 t527).f0,(rd_T34 x7_3 t527).f1,(rd_T34 x7_3 t527).f2,(rd_T34 x7_3 t527).f3,(rd_T34 x7_3 t527).f4,(rd_T34 x7_3 t527).f5,true⟩ : S34)) (k34_mkM _ _ _ (⟨(rd_T34 x7_3 t527).f0,(rd_T34 x7_3 t527).f1,(rd_T34 x7_3 t527).f2,(rd_T34 x7_3 t527).f3,(rd_T34 x7_3 t527).f4,(rd_T34 x7_3 t527).f5,true⟩ : S34) ) (fun _ hk => hk)
                 have hx40_6:=hcc40 6 _ rfl
                 (try simp only [show (k34).sz = 7 from rfl,Nat.mul_one,Nat.add_zero] at hx40_6)
                 have hf40_6:=hfr40 6
                 (try simp only [show (k34).sz = 7 from rfl,Nat.mul_one,Nat.add_zero] at hf40_6)
                 clear hcl40 hcc40 hfr40;(try clear hM40)
                 go_wp2_with (first | ((with_reducible refine gate_store (t:=4) (p:=75) rfl ?_);refine store_event (t:=4) (p:=75) (v:=?vo_w41) (w1:=(wc.setCell ⟨go39,(t527 : Int).toNat * 7 + 6,none⟩ (.bool true))) ?hg ?ho ?hn ?hr ?_;(case ho => rfl);(case hg => rfl);(case hn => rfl);(case hr => first | (go_simp;done) | (go_simp;rfl));intro w41 hw;have hg : wc.grownBy w41 (some go39):=(by rw [hw];exact HP40.2);have hp_ : Kd.R k34 34 w41 w.heap.size (fun _ => True) (.slice (some ⟨go39,0,none⟩) x7_3.length co22) y529:=(by rw [hw,Ny529.out];exact HP40.1);clear HP40;have n0_:=Aside0.mk (hp_);have n1_:=Aside0.mk ((by rw [hw];exact below_set (HB.out) GB39.out : Below w.heap.size w w41));clear HO_7;clear HB;have HO_7:=n0_;have HB:=n1_;clear n0_ n1_;clear hg hw hp_))
                 (try simp only [← hl7_3])
                 go_roundg kj28
                 case measure => have:=HJ2.out;have:=HJ13.out;have:=HK3.out;have:=HJ28.out;omega
                 case rel => exact ⟨(y529),(wrap64 (x44_3 + 1)),(by first | rfl | (simp;done) | (simp [*];done)),H',⟨by have:=HJ2.out;have:=HJ13.out;have:=HK3.out;have:=HJ28.out;omega⟩,⟨by (try simp only [hl7_3]);(with_reducible repeat (first | apply Kd.R_alloc | apply Kd.R_drewN | apply Kd.R_drew));exact HO_7.out⟩,⟨by repeat (first | (with_reducible first | exact HB.out | apply b0_ | apply b1_ | apply b2_) | exact HB.out)⟩⟩
                subst c36
                have H1 : (some false) = some r:=by rw [if_pos rfl] at H;exact H
                clear H;have H:=H1;clear H1;obtain rfl:=Option.some.inj H;go_wp2;go_ret;exact ⟨by first | rfl | (simp [errW_none,errW_some] <;> rfl) | (simp [*,errW_none,errW_some] <;> rfl),by repeat (first | (with_reducible first | exact HB.out | apply b0_ | apply b1_ | apply b2_) | exact HB.out)⟩
            rw [if_pos c26] at H;have c26b0 : (t527 == (-1)) = true:=beq_iff_eq.mpr c26;have c26b1 : (t527 != (-1)) = false:=bne_eq_false_iff_eq.mpr c26;clear c26;obtain rfl:=Option.some.inj H
            go_wp2_with (first | ((with_reducible refine gate_callee (f:=19) rfl ?_);refine goesL_ (some 48) rfl rfl Try.func19 (by kernel_rfl) rfl #[.slice Ao22 x7_3.length co22,.slice A0 l0.length c0,.int .i64 0] rfl (by (try simp only [z3_,z4_,z5_]);first | done | rfl | (simp only [z6_,z7_];rfl)) ?_;(with_reducible refine (estoverstop_restOf.calls k3 _ _ x7_3 _ _ l0 0 t526 _ ?side1 ?side2 ?side3 ?side4 A24.out).mono ?_);(case side1 => repeat (first | exact (Kd.R_reads' HO_7.out).2.2 | (with_reducible refine Kd.C_alloc ?_ _) | (with_reducible refine Kd.C_drewN ?_ _) | (with_reducible refine Kd.C_drew ?_)));(case side2 => exact (Kd.R_reads' HO_7.out).2.1);(case side3 => repeat (first | exact (Kd.C_below HR0.out HB.out) | (with_reducible refine Kd.C_alloc ?_ _) | (with_reducible refine Kd.C_drewN ?_ _) | (with_reducible refine Kd.C_drew ?_)));(case side4 => exact HC0.out);rintro e w27 ⟨rfl,hb⟩;refine ⟨_,rfl,?_⟩;have n0_:=Aside0.mk (Kd.R_below (by (with_reducible repeat (first | apply Kd.R_alloc | apply Kd.R_drewN | apply Kd.R_drew));exact HO_7.out) hb);have n1_:=Aside0.mk (below_step (by repeat (first | (with_reducible first | exact HB.out | apply b0_ | apply b1_ | apply b2_) | exact HB.out)) hb);clear HO_7;clear HB;have HO_7:=n0_;have HB:=n1_;clear n0_ n1_) | ((with_reducible refine gate_callee (f:=20) rfl ?_);refine goesL_ (some 51) rfl rfl Try.func20 (by kernel_rfl) rfl #[.slice Ao22 x7_3.length co22,.slice A0 l0.length c0,.int .i64 (-1),.bool false] rfl (by (try simp only [z3_,z4_,z5_]);first | done | rfl | (simp only [z6_,z7_];rfl)) ?_;(with_reducible refine (reclaimplan_Next.calls k3 _ _ x7_3 _ _ l0 (-1) false t527 _ ?side1 ?side2 ?side3 ?side4 A25.out).mono ?_);(case side1 => repeat (first | exact (Kd.R_reads' HO_7.out).2.2 | (with_reducible refine Kd.C_alloc ?_ _) | (with_reducible refine Kd.C_drewN ?_ _) | (with_reducible refine Kd.C_drew ?_)));(case side2 => exact (Kd.R_reads' HO_7.out).2.1);(case side3 => repeat (first | exact (Kd.C_below HR0.out HB.out) | (with_reducible refine Kd.C_alloc ?_ _) | (with_reducible refine Kd.C_drewN ?_ _) | (with_reducible refine Kd.C_drew ?_)));(case side4 => exact HC0.out);rintro e w28 ⟨rfl,hb⟩;refine ⟨_,rfl,?_⟩;have n0_:=Aside0.mk (Kd.R_below (by (with_reducible repeat (first | apply Kd.R_alloc | apply Kd.R_drewN | apply Kd.R_drew));exact HO_7.out) hb);have n1_:=Aside0.mk (below_step (by repeat (first | (with_reducible first | exact HB.out | apply b0_ | apply b1_ | apply b2_) | exact HB.out)) hb);clear HO_7;clear HB;have HO_7:=n0_;have HB:=n1_;clear n0_ n1_))
            go_ret;exact ⟨by first | rfl | (simp [errW_none,errW_some] <;> rfl) | (simp [*,errW_none,errW_some] <;> rfl),by repeat (first | (with_reducible first | exact HB.out | apply b0_ | apply b1_ | apply b2_) | exact HB.out)⟩
        subst c21
        have H1 : (some true) = some r:=by rw [if_pos rfl] at H;exact H
        clear H;have H:=H1;clear H1;obtain rfl:=Option.some.inj H;go_wp2;go_ret;exact ⟨by first | rfl | (simp [errW_none,errW_some] <;> rfl) | (simp [*,errW_none,errW_some] <;> rfl),by repeat (first | (with_reducible first | exact HB.out | apply b0_ | apply b1_ | apply b2_) | exact HB.out)⟩
    subst c9
    have H1 : ((estoverstop_awake20.f kj2).bind fun t519 => (some t519)) = some r:=by rw [if_pos rfl] at H;exact H
    clear H;have H:=H1;clear H1;replace H:=Option.bind_eq_some_iff.mp H;obtain ⟨t519,A100,H⟩:=H;replace H : (some t519) = some r:=H;have A10:=Aside0.mk A100;clear A100;obtain rfl:=Option.some.inj H
    go_wp2_with (first | ((with_reducible refine gate_callee (f:=15) rfl ?_);refine goesL_ (some 17) rfl rfl Try.func15 (by kernel_rfl) rfl #[] rfl (by (try simp only [z3_,z4_,z5_]);first | done | rfl | (simp only [z6_,z7_];rfl)) ?_;(with_reducible refine (estoverstop_awake20.calls kj2  t519 _ A10.out).mono ?_);rintro e w11 ⟨rfl,hb⟩;refine ⟨_,rfl,?_⟩;have n0_:=Aside0.mk (below_step (by repeat (first | (with_reducible first | exact HB.out | apply b0_ | apply b1_ | apply b2_) | exact HB.out)) hb);clear HB;have HB:=n0_;clear n0_))
    go_ret;exact ⟨by first | rfl | (simp [errW_none,errW_some] <;> rfl) | (simp [*,errW_none,errW_some] <;> rfl),by repeat (first | (with_reducible first | exact HB.out | apply b0_ | apply b1_ | apply b2_) | exact HB.out)⟩
end Go.Proofs.Ytnmenfkmndnoaaa.Pr
