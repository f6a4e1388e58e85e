-- Written by a program of this session (a changed copy of the kit's printer). Not trusted: Lean checks it.
import Derived.Test.YtnmenfkmndnoaaaM0
import Derived.Test.YtnmenfkmndnoaaaFestoverslaw39Few
import Derived.Test.YtnmenfkmndnoaaaM2
import Derived.Test.YtnmenfkmndnoaaaM3
namespace Go.Proofs.Ytnmenfkmndnoaaa.Pr
open Go.RowKit Go.Proofs.YtnmenfkmndnoaaaW.PrintWords Go.Proofs.YtnmenfkmndnoaaaW.PrintLast Go.Proofs.YtnmenfkmndnoaaaW.PrintMore
attribute [local go_sem] max2_int min2_int max_two min_two max_three min_three max_four min_four
set_option linter.unusedVariables false
set_option linter.unusedSimpArgs false
mutual
def estoverslaw39_ReclaimplanOldest.j0 : Nat→Bool→List (S34)→List (S30)→Int→Bool→Option (Bool)
 | 0,_,_,_,_,_ => none
 | k + 1,x15,x427000,x427001,x427002,x427003 => if x15 = true then ((estoverslaw39_awake.f k).bind fun t429 => (some t429)) else ((reclaimplan_Next.f k x427000 x427001 x427002 x427003).bind fun t430 => (if t430 < 0 then (estoverslaw39_ReclaimplanOldest.j1 k t430 true x427000 x427001 x427002 x427003) else (estoverslaw39_ReclaimplanOldest.j1 k t430 (decide (t430≥(x427000.length : Int))) x427000 x427001 x427002 x427003)))
def estoverslaw39_ReclaimplanOldest.j1 : Nat→Int→Bool→List (S34)→List (S30)→Int→Bool→Option (Bool)
 | 0,_,_,_,_,_,_ => none
 | k + 1,x3,x34,x427000,x427001,x427002,x427003 => if x34 = true then (some (x3 == (-1))) else ((some (([] : List (S30)) : List (S30))).bind fun y431 => (if y431.length + x427001.length < 3518437208883 then ((some (y431 ++ x427001 : List (S30))).bind fun y434 => (estoverslaw39_ReclaimplanOldest.l0 k x3 y434 (y434.length : Int) 0 x427000 x427001 x427002 x427003)) else (none)))
def estoverslaw39_ReclaimplanOldest.l0 : Nat→Int→List (S30)→Int→Int→List (S34)→List (S30)→Int→Bool→Option (Bool)
 | 0,_,_,_,_,_,_,_,_ => none
 | k + 1,x3,x4,x42,x43,x427000,x427001,x427002,x427003 => if x43 < x42 then (if 0≤x43 then (if x43 < (x4.length : Int) then (estoverslaw39_ReclaimplanOldest.l0 k x3 (x4.set (x43 : Int).toNat (⟨(rd_T30 x4 x43).f0,(rd_T30 x4 x43).f1,mx ((rd_T30 x4 x43).f2) ((rd_T30 x4 x43).f3),(rd_T30 x4 x43).f3,(rd_T30 x4 x43).f4⟩ : S30)) x42 (wrap64 (x43 + 1)) x427000 x427001 x427002 x427003) else (none)) else (none)) else ((reclaimplan_Reason.f k x427000 x4 x427002 x3 x427003).bind fun t440 => (estoverslaw39_ReclaimplanOldest.l1 k x3 x4 t440 (x427000.length : Int) 0 x427000 x427001 x427002 x427003))
def estoverslaw39_ReclaimplanOldest.l1 : Nat→Int→List (S30)→Int→Int→Int→List (S34)→List (S30)→Int→Bool→Option (Bool)
 | 0,_,_,_,_,_,_,_,_,_ => none
 | k + 1,x3,x4,x6,x73,x74,x427000,x427001,x427002,x427003 => if x74 < x73 then ((reclaimplan_Reason.f k x427000 x427001 x427002 x74 x427003).bind fun t441 => (if t441 = 0 then ((reclaimplan_Reason.f k x427000 x4 x427002 x74 x427003).bind fun t442 => (if t442 = 0 then (if x6 = 0 then (if 0≤x74 then (if x74 < (x427000.length : Int) then (if 0≤x3 then (if x3 < (x427000.length : Int) then (if ((rd_T34 x427000 x74).f2) < ((rd_T34 x427000 x3).f2) then (estoverslaw39_ReclaimplanOldest.j4 k x3 x4 x6 x73 x74 true x427000 x427001 x427002 x427003) else (estoverslaw39_ReclaimplanOldest.j4 k x3 x4 x6 x73 x74 false x427000 x427001 x427002 x427003)) else (none)) else (none)) else (none)) else (none)) else (estoverslaw39_ReclaimplanOldest.j4 k x3 x4 x6 x73 x74 true x427000 x427001 x427002 x427003)) else (if x6 = 0 then (estoverslaw39_ReclaimplanOldest.j4 k x3 x4 x6 x73 x74 false x427000 x427001 x427002 x427003) else (if 0≤x74 then (if x74 < (x427000.length : Int) then (if 0≤x3 then (if x3 < (x427000.length : Int) then (estoverslaw39_ReclaimplanOldest.j4 k x3 x4 x6 x73 x74 (decide (((rd_T34 x427000 x74).f2) < ((rd_T34 x427000 x3).f2))) x427000 x427001 x427002 x427003) else (none)) else (none)) else (none)) else (none))))) else (estoverslaw39_ReclaimplanOldest.l1 k x3 x4 x6 x73 (wrap64 (x74 + 1)) x427000 x427001 x427002 x427003))) else (some true)
def estoverslaw39_ReclaimplanOldest.j4 : Nat→Int→List (S30)→Int→Int→Int→Bool→List (S34)→List (S30)→Int→Bool→Option (Bool)
 | 0,_,_,_,_,_,_,_,_,_,_ => none
 | k + 1,x3,x4,x6,x73,x74,x137,x427000,x427001,x427002,x427003 => if x137 = true then (some false) else (estoverslaw39_ReclaimplanOldest.l1 k x3 x4 x6 x73 (wrap64 (x74 + 1)) x427000 x427001 x427002 x427003)
end
def estoverslaw39_ReclaimplanOldest.f (k : Nat) (l0_0 : List (S34)) (l0_1 : List (S30)) (a0_2 : Int) (a0_3 : Bool) : Option (Bool):=(estoverslaw39_awake.f k).bind fun t427 => (if t427 = true then ((estoverslaw39_Few.f l0_0 l0_1 a0_2 a0_3).bind fun t428 => (estoverslaw39_ReclaimplanOldest.j0 k (!t428) l0_0 l0_1 a0_2 a0_3)) else (estoverslaw39_ReclaimplanOldest.j0 k true l0_0 l0_1 a0_2 a0_3))
theorem estoverslaw39_ReclaimplanOldest.mono_l : ∀ k,(∀ y0 y1 y2 y3 y4,LeO (estoverslaw39_ReclaimplanOldest.j0 k y0 y1 y2 y3 y4) (estoverslaw39_ReclaimplanOldest.j0 (k + 1) y0 y1 y2 y3 y4))∧(∀ y0 y1 y2 y3 y4 y5,LeO (estoverslaw39_ReclaimplanOldest.j1 k y0 y1 y2 y3 y4 y5) (estoverslaw39_ReclaimplanOldest.j1 (k + 1) y0 y1 y2 y3 y4 y5))∧(∀ y0 y1 y2 y3 y4 y5 y6 y7,LeO (estoverslaw39_ReclaimplanOldest.l0 k y0 y1 y2 y3 y4 y5 y6 y7) (estoverslaw39_ReclaimplanOldest.l0 (k + 1) y0 y1 y2 y3 y4 y5 y6 y7))∧(∀ y0 y1 y2 y3 y4 y5 y6 y7 y8,LeO (estoverslaw39_ReclaimplanOldest.l1 k y0 y1 y2 y3 y4 y5 y6 y7 y8) (estoverslaw39_ReclaimplanOldest.l1 (k + 1) y0 y1 y2 y3 y4 y5 y6 y7 y8))∧(∀ y0 y1 y2 y3 y4 y5 y6 y7 y8 y9,LeO (estoverslaw39_ReclaimplanOldest.j4 k y0 y1 y2 y3 y4 y5 y6 y7 y8 y9) (estoverslaw39_ReclaimplanOldest.j4 (k + 1) y0 y1 y2 y3 y4 y5 y6 y7 y8 y9))
 | 0 => ⟨fun _ _ _ _ _ r h => by simp [estoverslaw39_ReclaimplanOldest.j0] at h,fun _ _ _ _ _ _ r h => by simp [estoverslaw39_ReclaimplanOldest.j1] at h,fun _ _ _ _ _ _ _ _ r h => by simp [estoverslaw39_ReclaimplanOldest.l0] at h,fun _ _ _ _ _ _ _ _ _ r h => by simp [estoverslaw39_ReclaimplanOldest.l1] at h,fun _ _ _ _ _ _ _ _ _ _ r h => by simp [estoverslaw39_ReclaimplanOldest.j4] at h⟩
 | k + 1 => by
  obtain ⟨ih0,ih1,ih2,ih3,ih4⟩:=estoverslaw39_ReclaimplanOldest.mono_l k;refine ⟨?_,?_,?_,?_,?_⟩
  ·
   intro y0 y1 y2 y3 y4
   unfold estoverslaw39_ReclaimplanOldest.j0
   repeat' first
    | (with_reducible exact ih0 _ _ _ _ _)
    | (with_reducible exact ih1 _ _ _ _ _ _)
    | (with_reducible exact ih2 _ _ _ _ _ _ _ _)
    | (with_reducible exact ih3 _ _ _ _ _ _ _ _ _)
    | (with_reducible exact ih4 _ _ _ _ _ _ _ _ _ _)
    | (with_reducible exact estoverslaw39_awake.mono _)
    | (with_reducible exact reclaimplan_Next.mono _ _ _ _ _)
    | (with_reducible exact reclaimplan_Reason.mono _ _ _ _ _ _)
    | (with_reducible exact LeO.refl _)
    | (with_reducible exact LeO.none _)
    | (with_reducible refine LeO.ite ?_ ?_)
    | (with_reducible refine LeO.bind ?_ (fun _ => ?_))
    | exact ih0 _ _ _ _ _
    | exact ih1 _ _ _ _ _ _
    | exact ih2 _ _ _ _ _ _ _ _
    | exact ih3 _ _ _ _ _ _ _ _ _
    | exact ih4 _ _ _ _ _ _ _ _ _ _
    | exact estoverslaw39_awake.mono _
    | exact reclaimplan_Next.mono _ _ _ _ _
    | exact reclaimplan_Reason.mono _ _ _ _ _ _
    | exact LeO.none _
    | refine LeO.ite ?_ ?_
    | refine LeO.bind ?_ (fun _ => ?_)
  ·
   intro y0 y1 y2 y3 y4 y5
   unfold estoverslaw39_ReclaimplanOldest.j1
   repeat' first
    | (with_reducible exact ih0 _ _ _ _ _)
    | (with_reducible exact ih1 _ _ _ _ _ _)
    | (with_reducible exact ih2 _ _ _ _ _ _ _ _)
    | (with_reducible exact ih3 _ _ _ _ _ _ _ _ _)
    | (with_reducible exact ih4 _ _ _ _ _ _ _ _ _ _)
    | (with_reducible exact estoverslaw39_awake.mono _)
    | (with_reducible exact reclaimplan_Next.mono _ _ _ _ _)
    | (with_reducible exact reclaimplan_Reason.mono _ _ _ _ _ _)
    | (with_reducible exact LeO.refl _)
    | (with_reducible exact LeO.none _)
    | (with_reducible refine LeO.ite ?_ ?_)
    | (with_reducible refine LeO.bind ?_ (fun _ => ?_))
    | exact ih0 _ _ _ _ _
    | exact ih1 _ _ _ _ _ _
    | exact ih2 _ _ _ _ _ _ _ _
    | exact ih3 _ _ _ _ _ _ _ _ _
    | exact ih4 _ _ _ _ _ _ _ _ _ _
    | exact estoverslaw39_awake.mono _
    | exact reclaimplan_Next.mono _ _ _ _ _
    | exact reclaimplan_Reason.mono _ _ _ _ _ _
    | exact LeO.none _
    | refine LeO.ite ?_ ?_
    | refine LeO.bind ?_ (fun _ => ?_)
  ·
   intro y0 y1 y2 y3 y4 y5 y6 y7
   unfold estoverslaw39_ReclaimplanOldest.l0
   repeat' first
    | (with_reducible exact ih0 _ _ _ _ _)
    | (with_reducible exact ih1 _ _ _ _ _ _)
    | (with_reducible exact ih2 _ _ _ _ _ _ _ _)
    | (with_reducible exact ih3 _ _ _ _ _ _ _ _ _)
    | (with_reducible exact ih4 _ _ _ _ _ _ _ _ _ _)
    | (with_reducible exact estoverslaw39_awake.mono _)
    | (with_reducible exact reclaimplan_Next.mono _ _ _ _ _)
    | (with_reducible exact reclaimplan_Reason.mono _ _ _ _ _ _)
    | (with_reducible exact LeO.refl _)
    | (with_reducible exact LeO.none _)
    | (with_reducible refine LeO.ite ?_ ?_)
    | (with_reducible refine LeO.bind ?_ (fun _ => ?_))
    | exact ih0 _ _ _ _ _
    | exact ih1 _ _ _ _ _ _
    | exact ih2 _ _ _ _ _ _ _ _
    | exact ih3 _ _ _ _ _ _ _ _ _
    | exact ih4 _ _ _ _ _ _ _ _ _ _
    | exact estoverslaw39_awake.mono _
    | exact reclaimplan_Next.mono _ _ _ _ _
    | exact reclaimplan_Reason.mono _ _ _ _ _ _
    | exact LeO.none _
    | refine LeO.ite ?_ ?_
    | refine LeO.bind ?_ (fun _ => ?_)
  ·
   intro y0 y1 y2 y3 y4 y5 y6 y7 y8
   unfold estoverslaw39_ReclaimplanOldest.l1
   repeat' first
    | (with_reducible exact ih0 _ _ _ _ _)
    | (with_reducible exact ih1 _ _ _ _ _ _)
    | (with_reducible exact ih2 _ _ _ _ _ _ _ _)
    | (with_reducible exact ih3 _ _ _ _ _ _ _ _ _)
    | (with_reducible exact ih4 _ _ _ _ _ _ _ _ _ _)
    | (with_reducible exact estoverslaw39_awake.mono _)
    | (with_reducible exact reclaimplan_Next.mono _ _ _ _ _)
    | (with_reducible exact reclaimplan_Reason.mono _ _ _ _ _ _)
    | (with_reducible exact LeO.refl _)
    | (with_reducible exact LeO.none _)
    | (with_reducible refine LeO.ite ?_ ?_)
    | (with_reducible refine LeO.bind ?_ (fun _ => ?_))
    | exact ih0 _ _ _ _ _
    | exact ih1 _ _ _ _ _ _
    | exact ih2 _ _ _ _ _ _ _ _
    | exact ih3 _ _ _ _ _ _ _ _ _
    | exact ih4 _ _ _ _ _ _ _ _ _ _
    | exact estoverslaw39_awake.mono _
    | exact reclaimplan_Next.mono _ _ _ _ _
    | exact reclaimplan_Reason.mono _ _ _ _ _ _
    | exact LeO.none _
    | refine LeO.ite ?_ ?_
    | refine LeO.bind ?_ (fun _ => ?_)
  ·
   intro y0 y1 y2 y3 y4 y5 y6 y7 y8 y9
   unfold estoverslaw39_ReclaimplanOldest.j4
   repeat' first
    | (with_reducible exact ih0 _ _ _ _ _)
    | (with_reducible exact ih1 _ _ _ _ _ _)
    | (with_reducible exact ih2 _ _ _ _ _ _ _ _)
    | (with_reducible exact ih3 _ _ _ _ _ _ _ _ _)
    | (with_reducible exact ih4 _ _ _ _ _ _ _ _ _ _)
    | (with_reducible exact estoverslaw39_awake.mono _)
    | (with_reducible exact reclaimplan_Next.mono _ _ _ _ _)
    | (with_reducible exact reclaimplan_Reason.mono _ _ _ _ _ _)
    | (with_reducible exact LeO.refl _)
    | (with_reducible exact LeO.none _)
    | (with_reducible refine LeO.ite ?_ ?_)
    | (with_reducible refine LeO.bind ?_ (fun _ => ?_))
    | exact ih0 _ _ _ _ _
    | exact ih1 _ _ _ _ _ _
    | exact ih2 _ _ _ _ _ _ _ _
    | exact ih3 _ _ _ _ _ _ _ _ _
    | exact ih4 _ _ _ _ _ _ _ _ _ _
    | exact estoverslaw39_awake.mono _
    | exact reclaimplan_Next.mono _ _ _ _ _
    | exact reclaimplan_Reason.mono _ _ _ _ _ _
    | exact LeO.none _
    | refine LeO.ite ?_ ?_
    | refine LeO.bind ?_ (fun _ => ?_)
theorem estoverslaw39_ReclaimplanOldest.mono : ∀ a0 a1 a2 a3 k,LeO (estoverslaw39_ReclaimplanOldest.f k a0 a1 a2 a3) (estoverslaw39_ReclaimplanOldest.f (k + 1) a0 a1 a2 a3):=by
 intro a0 a1 a2 a3 k;obtain ⟨ih0,ih1,ih2,ih3,ih4⟩:=estoverslaw39_ReclaimplanOldest.mono_l k
 unfold estoverslaw39_ReclaimplanOldest.f
 repeat' first
  | (with_reducible exact ih0 _ _ _ _ _)
  | (with_reducible exact ih1 _ _ _ _ _ _)
  | (with_reducible exact ih2 _ _ _ _ _ _ _ _)
  | (with_reducible exact ih3 _ _ _ _ _ _ _ _ _)
  | (with_reducible exact ih4 _ _ _ _ _ _ _ _ _ _)
  | (with_reducible exact estoverslaw39_awake.mono _)
  | (with_reducible exact reclaimplan_Next.mono _ _ _ _ _)
  | (with_reducible exact reclaimplan_Reason.mono _ _ _ _ _ _)
  | (with_reducible exact LeO.refl _)
  | (with_reducible exact LeO.none _)
  | (with_reducible refine LeO.ite ?_ ?_)
  | (with_reducible refine LeO.bind ?_ (fun _ => ?_))
  | exact ih0 _ _ _ _ _
  | exact ih1 _ _ _ _ _ _
  | exact ih2 _ _ _ _ _ _ _ _
  | exact ih3 _ _ _ _ _ _ _ _ _
  | exact ih4 _ _ _ _ _ _ _ _ _ _
  | exact estoverslaw39_awake.mono _
  | exact reclaimplan_Next.mono _ _ _ _ _
  | exact reclaimplan_Reason.mono _ _ _ _ _ _
  | exact LeO.none _
  | refine LeO.ite ?_ ?_
  | refine LeO.bind ?_ (fun _ => ?_)
def estoverslaw39_ReclaimplanOldest.T10 : Bool × List (List Nat × List Nat):=(true,[([],[]),([],[]),([],[]),([],[]),([2,3],[2,3]),([4],[4]),([5],[5]),([],[]),([],[]),([7,8],[7,8]),([9],[9]),([10],[10]),([6,11],[6,11]),([0,1,0,1,2,3,4,5,6,7,8,9,10,11,12],[0,1]),([13,0,1,2,3,4,5,6,7,8,9,10,11,12],[13]),([14,12,0,1,2,3,4,5,6,7,8,9,10,11,12],[12,14])])
def estoverslaw39_ReclaimplanOldest.B10 : List Nat:=[0,0,0,0,12,28,60,0,0,384,896,1920,4092,8191,16383,32767]
theorem estoverslaw39_ReclaimplanOldest.tab10 : rtab .any (opsOf Try.f14 10) = estoverslaw39_ReclaimplanOldest.T10:=by kernel_rfl
theorem estoverslaw39_ReclaimplanOldest.bits10 : waitsOk estoverslaw39_ReclaimplanOldest.T10.2 estoverslaw39_ReclaimplanOldest.B10 = true:=by kernel_rfl
def estoverslaw39_ReclaimplanOldest.T18 : Bool × List (List Nat × List Nat):=(true,[([],[]),([0],[0]),([1],[1]),([2],[2]),([3,2],[2,3]),([4,2,2],[2,4]),([5],[5]),([6,5],[5,6]),([5],[5]),([7,8,5],[5,7,8]),([9,5],[5,9]),([10,5],[5,10]),([5],[5]),([12,5],[5,12]),([5],[5]),([13,14,5],[5,13,14]),([15,5],[5,15]),([16,5],[5,16]),([11,17,5],[5,11,17]),([5,18,2],[2,5,18]),([2,19],[2,19]),([20,5],[20]),([21],[21]),([22,21],[21,22]),([23,21,21],[21,23]),([24],[24]),([25,24],[24,25]),([24],[24]),([26,27,24],[24,26,27]),([28,24],[24,28]),([29,24],[24,29]),([24],[24]),([31,24],[24,31]),([24],[24]),([32,33,24],[24,32,33]),([34,24],[24,34]),([35,24],[24,35]),([30,36,24],[24,30,36]),([24,37,21],[21,24,37]),([21,38],[21,38])])
def estoverslaw39_ReclaimplanOldest.B18 : List Nat:=[0,1,3,7,15,31,63,127,63,511,1023,2047,63,4159,63,28735,61503,127039,262143,524287,1048575,2097151,4194303,8388607,16777215,33554431,67108863,33554431,268435455,536870911,1073741823,33554431,2181038079,33554431,15065939967,32245809151,66605547519,137438953471,274877906943,549755813887]
theorem estoverslaw39_ReclaimplanOldest.tab18 : rtab .any (opsOf Try.f14 18) = estoverslaw39_ReclaimplanOldest.T18:=by kernel_rfl
theorem estoverslaw39_ReclaimplanOldest.bits18 : waitsOk estoverslaw39_ReclaimplanOldest.T18.2 estoverslaw39_ReclaimplanOldest.B18 = true:=by kernel_rfl
set_option maxHeartbeats 8000000 in
set_option maxRecDepth 100000 in
theorem estoverslaw39_ReclaimplanOldest.calls (k : Nat) (A0_0 : Option Addr) (c0_0 : Nat) (l0_0 : List (S34)) (A0_1 : Option Addr) (c0_1 : Nat) (l0_1 : List (S30)) (a0_2 : Int) (a0_3 : Bool) (r : Bool) (w : World) (hr0_0 : Kd.C k34 w A0_0 l0_0.length l0_0) (hc0_0 : l0_0.length≤c0_0) (hr0_1 : Kd.C k30 w A0_1 l0_1.length l0_1) (hc0_1 : l0_1.length≤c0_1) (h : estoverslaw39_ReclaimplanOldest.f k l0_0 l0_1 a0_2 a0_3 = some r) :
 Calls Try.prog 14 #[.agg #[.slice A0_0 l0_0.length c0_0,.slice A0_1 l0_1.length c0_1,.int .i64 a0_2,.bool a0_3]] w fun e w' => e = .returned (.bool r)∧Below w.heap.size w w':=by
 have hu37:=Try.underlying37;have HR0_0:=Aside0.mk hr0_0;have HC0_0:=Aside0.mk hc0_0;clear hr0_0 hc0_0;have HR0_1:=Aside0.mk hr0_1;have HC0_1:=Aside0.mk hc0_1;clear hr0_1 hc0_1;have HB:=Aside0.mk (Below.refl w.heap.size w)
 have H : ((estoverslaw39_awake.f k).bind fun t427 => (if t427 = true then ((estoverslaw39_Few.f l0_0 l0_1 a0_2 a0_3).bind fun t428 => (estoverslaw39_ReclaimplanOldest.j0 k (!t428) l0_0 l0_1 a0_2 a0_3)) else (estoverslaw39_ReclaimplanOldest.j0 k true l0_0 l0_1 a0_2 a0_3))) = some r:=h;clear h;have HC2:=Aside0.mk H;clear H
 go_enter Try.func14,Try.ntmps14
 go_upto_region 1 with (first | ((with_reducible refine gate_dst (N:=1) rfl ?_);(try (refine gate_guard (by rfl) ?_;dsimp only));refine box_event ?hg (N:=1) ?hd (cs:=#[.slice A0_0 l0_0.length c0_0,.slice A0_1 l0_1.length c0_1,.int .i64 a0_2,.bool a0_3]) (t:=37) ?hr ?_;(case hd => rfl);(case hg => rfl);(case hr => first | (go_simp;done) | (go_simp;rfl));intro gb426 hg w3 hbox hb;have n0_:=Aside0.mk (below_step (by repeat (first | (with_reducible first | exact HB.out | apply b0_ | apply b1_ | apply b2_) | exact HB.out)) hb);have n1_:=Aside0.mk (hbox);have n2_:=Aside0.mk ((by rw [hg];exact (below_size (by repeat (first | (with_reducible first | exact HB.out | apply b0_ | apply b1_ | apply b2_) | exact HB.out))) : w.heap.size≤gb426));have n3_:=Aside0.mk ((by rw [hg];exact (below_size (by repeat (first | (with_reducible first | exact HB.out | apply b0_ | apply b1_ | apply b2_) | exact HB.out))) : w.heap.size≤gb426));clear HB;have HB:=n0_;have BK426:=n1_;have GW426:=n2_;have GE426:=n3_;clear n0_ n1_ n2_ n3_;clear hb hbox hg))
 (try simp only [Act.put,List.setIfInBounds_toArray,List.set_cons_zero,List.set_cons_succ])
 go_cut [15] (fun v15 wc => ∃ (kq : Nat) (x15_1 : Bool),v15 = .bool x15_1∧Aside0 (estoverslaw39_ReclaimplanOldest.j0 kq x15_1 l0_0 l0_1 a0_2 a0_3 = some r)∧Aside0 (kq≤k)∧Aside0 (wc.heap[gb426]? = some (.cells #[(.slice A0_0 l0_0.length c0_0),(.slice A0_1 l0_1.length c0_1),.int .i64 a0_2,.bool a0_3] 37 (0,0)))∧Aside0 (Below w.heap.size w wc))
 case first =>
  have H:=HC2.out;clear HC2;replace H:=Option.bind_eq_some_iff.mp H;obtain ⟨t427,A40,H⟩:=H;replace H : (if t427 = true then ((estoverslaw39_Few.f l0_0 l0_1 a0_2 a0_3).bind fun t428 => (estoverslaw39_ReclaimplanOldest.j0 k (!t428) l0_0 l0_1 a0_2 a0_3)) else (estoverslaw39_ReclaimplanOldest.j0 k true l0_0 l0_1 a0_2 a0_3)) = some r:=H;have A4:=Aside0.mk A40;clear A40
  by_cases c5 : t427 = true
  rotate_left
  ·
   replace c5:=Bool.eq_false_iff.mpr c5;subst c5
   have H1 : (estoverslaw39_ReclaimplanOldest.j0 k true l0_0 l0_1 a0_2 a0_3) = some r:=by rw [if_neg (show ¬ (false = true) by decide)] at H;exact H
   clear H;have H:=H1;clear H1;have H':=Aside0.mk H;clear H
   go_wp2_with (first | ((with_reducible refine gate_callee (f:=29) rfl ?_);refine goesL_ (some 9) rfl rfl Try.func29 (by kernel_rfl) rfl #[] rfl (by (try simp only [z3_,z4_,z5_]);first | done | rfl | (simp only [z6_,z7_];rfl)) ?_;(with_reducible refine (estoverslaw39_awake.calls k  false _ A4.out).mono ?_);rintro e w10 ⟨rfl,hb⟩;refine ⟨_,rfl,?_⟩;have n0_:=Aside0.mk (blk_below (g:=gb426) (o:=.cells #[.slice A0_0 l0_0.length c0_0,.slice A0_1 l0_1.length c0_1,.int .i64 a0_2,.bool a0_3] 37 (0,0)) (by (with_reducible repeat (first | refine blk_drewN ?_ _ | refine blk_drew ?_ | refine blk_alloc ?_ _));exact BK426.out) hb);have n1_:=Aside0.mk (below_step (by repeat (first | (with_reducible first | exact HB.out | apply b0_ | apply b1_ | apply b2_ | refine below_set ?_ GE426.out) | exact HB.out)) hb);clear BK426;clear HB;have BK426:=n0_;have HB:=n1_;clear n0_ n1_))
   go_meet
   case rel => exact ⟨_,(true),(by first | rfl | (simp;done) | (simp [*];done)),H',⟨by first | omega | exact Nat.le_refl _⟩,⟨by (with_reducible repeat (first | refine blk_drewN ?_ _ | refine blk_drew ?_ | refine blk_alloc ?_ _));exact BK426.out⟩,⟨by repeat (first | (with_reducible first | exact HB.out | apply b0_ | apply b1_ | apply b2_ | refine below_set ?_ GE426.out) | exact HB.out)⟩⟩
  subst c5
  have H1 : ((estoverslaw39_Few.f l0_0 l0_1 a0_2 a0_3).bind fun t428 => (estoverslaw39_ReclaimplanOldest.j0 k (!t428) l0_0 l0_1 a0_2 a0_3)) = some r:=by rw [if_pos rfl] at H;exact H
  clear H;have H:=H1;clear H1;replace H:=Option.bind_eq_some_iff.mp H;obtain ⟨t428,A60,H⟩:=H;replace H : (estoverslaw39_ReclaimplanOldest.j0 k (!t428) l0_0 l0_1 a0_2 a0_3) = some r:=H;have A6:=Aside0.mk A60;clear A60;have H':=Aside0.mk H;clear H
  go_wp2_with (first | ((with_reducible refine gate_callee (f:=29) rfl ?_);refine goesL_ (some 9) rfl rfl Try.func29 (by kernel_rfl) rfl #[] rfl (by (try simp only [z3_,z4_,z5_]);first | done | rfl | (simp only [z6_,z7_];rfl)) ?_;(with_reducible refine (estoverslaw39_awake.calls k  true _ A4.out).mono ?_);rintro e w7 ⟨rfl,hb⟩;refine ⟨_,rfl,?_⟩;have n0_:=Aside0.mk (blk_below (g:=gb426) (o:=.cells #[.slice A0_0 l0_0.length c0_0,.slice A0_1 l0_1.length c0_1,.int .i64 a0_2,.bool a0_3] 37 (0,0)) (by (with_reducible repeat (first | refine blk_drewN ?_ _ | refine blk_drew ?_ | refine blk_alloc ?_ _));exact BK426.out) hb);have n1_:=Aside0.mk (below_step (by repeat (first | (with_reducible first | exact HB.out | apply b0_ | apply b1_ | apply b2_ | refine below_set ?_ GE426.out) | exact HB.out)) hb);clear BK426;clear HB;have BK426:=n0_;have HB:=n1_;clear n0_ n1_;obtain ⟨hcz8_0,hcz8_1,hcz8_2,hcz8_3,hfz8_0,hfz8_1,hfz8_2,hfz8_3⟩:=q4_ BK426.out) | (go_at_call 21;(with_reducible refine (estoverslaw39_Few.calls _ _ l0_0 _ _ l0_1 a0_2 a0_3 t428 _ ?side1 ?side2 ?side3 ?side4 A6.out).mono ?_);(case side1 => repeat (first | exact (Kd.C_below HR0_0.out HB.out) | (with_reducible refine Kd.C_alloc ?_ _) | (with_reducible refine Kd.C_drewN ?_ _) | (with_reducible refine Kd.C_drew ?_)));(case side2 => exact HC0_0.out);(case side3 => repeat (first | exact (Kd.C_below HR0_1.out HB.out) | (with_reducible refine Kd.C_alloc ?_ _) | (with_reducible refine Kd.C_drewN ?_ _) | (with_reducible refine Kd.C_drew ?_)));(case side4 => exact HC0_1.out);rintro e w9 ⟨rfl,hb⟩;have n0_:=Aside0.mk (blk_below (g:=gb426) (o:=.cells #[.slice A0_0 l0_0.length c0_0,.slice A0_1 l0_1.length c0_1,.int .i64 a0_2,.bool a0_3] 37 (0,0)) (by (with_reducible repeat (first | refine blk_drewN ?_ _ | refine blk_drew ?_ | refine blk_alloc ?_ _));exact BK426.out) hb);have n1_:=Aside0.mk (below_step (by repeat (first | (with_reducible first | exact HB.out | apply b0_ | apply b1_ | apply b2_ | refine below_set ?_ GE426.out) | exact HB.out)) hb);clear BK426;clear HB;have BK426:=n0_;have HB:=n1_;clear n0_ n1_))
  go_meet
  case rel => exact ⟨_,(!t428),(by first | rfl | (simp;done) | (simp [*];done)),H',⟨by first | omega | exact Nat.le_refl _⟩,⟨by (with_reducible repeat (first | refine blk_drewN ?_ _ | refine blk_drew ?_ | refine blk_alloc ?_ _));exact BK426.out⟩,⟨by repeat (first | (with_reducible first | exact HB.out | apply b0_ | apply b1_ | apply b2_ | refine below_set ?_ GE426.out) | exact HB.out)⟩⟩
 case rest =>
  clear HC2;obtain ⟨kq,x15_1,rfl,HA,HJ1,BK426,HB⟩:=hcut
  cases kq with
   | zero => exact absurd HA.out (by simp [estoverslaw39_ReclaimplanOldest.j0])
   | succ kj1 =>
    have H:=HA.out;clear HA;simp only [estoverslaw39_ReclaimplanOldest.j0] at H;by_cases c11 : x15_1 = true
    rotate_left
    ·
     replace c11:=Bool.eq_false_iff.mpr c11;subst c11
     have H1 : ((reclaimplan_Next.f kj1 l0_0 l0_1 a0_2 a0_3).bind fun t430 => (if t430 < 0 then (estoverslaw39_ReclaimplanOldest.j1 kj1 t430 true l0_0 l0_1 a0_2 a0_3) else (estoverslaw39_ReclaimplanOldest.j1 kj1 t430 (decide (t430≥(l0_0.length : Int))) l0_0 l0_1 a0_2 a0_3))) = some r:=by rw [if_neg (show ¬ (false = true) by decide)] at H;exact H
     clear H;have H:=H1;clear H1;replace H:=Option.bind_eq_some_iff.mp H;obtain ⟨t430,A140,H⟩:=H;replace H : (if t430 < 0 then (estoverslaw39_ReclaimplanOldest.j1 kj1 t430 true l0_0 l0_1 a0_2 a0_3) else (estoverslaw39_ReclaimplanOldest.j1 kj1 t430 (decide (t430≥(l0_0.length : Int))) l0_0 l0_1 a0_2 a0_3)) = some r:=H;have A14:=Aside0.mk A140;clear A140;have HC15:=Aside0.mk H
     clear H;obtain ⟨hcz16_0,hcz16_1,hcz16_2,hcz16_3,hfz16_0,hfz16_1,hfz16_2,hfz16_3⟩:=q4_ BK426.out
     go_upto_region 4 with (first | ((with_reducible refine gate_callee (f:=20) rfl ?_);refine goesL_ (some 25) rfl rfl Try.func20 (by kernel_rfl) rfl #[.slice A0_0 l0_0.length c0_0,.slice A0_1 l0_1.length c0_1,.int .i64 a0_2,.bool a0_3] rfl (by (try simp only [z3_,z4_,z5_]);first | done | rfl | (simp only [z6_,z7_];rfl)) ?_;(with_reducible refine (reclaimplan_Next.calls kj1 _ _ l0_0 _ _ l0_1 a0_2 a0_3 t430 _ ?side1 ?side2 ?side3 ?side4 A14.out).mono ?_);(case side1 => repeat (first | exact (Kd.C_below HR0_0.out HB.out) | (with_reducible refine Kd.C_alloc ?_ _) | (with_reducible refine Kd.C_drewN ?_ _) | (with_reducible refine Kd.C_drew ?_)));(case side2 => exact HC0_0.out);(case side3 => repeat (first | exact (Kd.C_below HR0_1.out HB.out) | (with_reducible refine Kd.C_alloc ?_ _) | (with_reducible refine Kd.C_drewN ?_ _) | (with_reducible refine Kd.C_drew ?_)));(case side4 => exact HC0_1.out);rintro e w17 ⟨rfl,hb⟩;refine ⟨_,rfl,?_⟩;have n0_:=Aside0.mk (blk_below (g:=gb426) (o:=.cells #[.slice A0_0 l0_0.length c0_0,.slice A0_1 l0_1.length c0_1,.int .i64 a0_2,.bool a0_3] 37 (0,0)) (by (with_reducible repeat (first | refine blk_drewN ?_ _ | refine blk_drew ?_ | refine blk_alloc ?_ _));exact BK426.out) hb);have n1_:=Aside0.mk (below_step (by repeat (first | (with_reducible first | exact HB.out | apply b0_ | apply b1_ | apply b2_ | refine below_set ?_ GE426.out) | exact HB.out)) hb);clear BK426;clear HB;have BK426:=n0_;have HB:=n1_;clear n0_ n1_))
     (try simp only [Act.put,List.setIfInBounds_toArray,List.set_cons_zero,List.set_cons_succ])
     go_cut [34] (fun v34 wc => ∃ (kq : Nat) (x34_14 : Bool),v34 = .bool x34_14∧Aside0 (estoverslaw39_ReclaimplanOldest.j1 kq t430 x34_14 l0_0 l0_1 a0_2 a0_3 = some r)∧Aside0 (kq≤kj1)∧Aside0 (wc.heap[gb426]? = some (.cells #[(.slice A0_0 l0_0.length c0_0),(.slice A0_1 l0_1.length c0_1),.int .i64 a0_2,.bool a0_3] 37 (0,0)))∧Aside0 (Below w.heap.size w wc))
     case first =>
      have H:=HC15.out;clear HC15;by_cases c18 : t430 < 0
      rotate_left
      ·
       rw [if_neg c18] at H;have c18b0 : decide (t430 < 0) = false:=decide_eq_false c18;clear c18
       (first | rw [c18b0] | (simp only [i64_w,i32_w];rw [c18b0]) | skip)
       have H':=Aside0.mk H;clear H;obtain ⟨hcz19_0,hcz19_1,hcz19_2,hcz19_3,hfz19_0,hfz19_1,hfz19_2,hfz19_3⟩:=q4_ BK426.out;go_wp2
       go_meet
       case rel => exact ⟨_,(decide (t430≥(l0_0.length : Int))),(by first | rfl | (simp;done) | (simp [*];done)),H',⟨by have:=HJ1.out;first | omega | exact Nat.le_refl _⟩,⟨by (with_reducible repeat (first | refine blk_drewN ?_ _ | refine blk_drew ?_ | refine blk_alloc ?_ _));exact BK426.out⟩,⟨by repeat (first | (with_reducible first | exact HB.out | apply b0_ | apply b1_ | apply b2_ | refine below_set ?_ GE426.out) | exact HB.out)⟩⟩
      rw [if_pos c18] at H;have c18b0 : decide (t430 < 0) = true:=decide_eq_true c18;clear c18
      (first | rw [c18b0] | (simp only [i64_w,i32_w];rw [c18b0]) | skip)
      have H':=Aside0.mk H;clear H;go_wp2
      go_meet
      case rel => exact ⟨_,(true),(by first | rfl | (simp;done) | (simp [*];done)),H',⟨by have:=HJ1.out;first | omega | exact Nat.le_refl _⟩,⟨by (with_reducible repeat (first | refine blk_drewN ?_ _ | refine blk_drew ?_ | refine blk_alloc ?_ _));exact BK426.out⟩,⟨by repeat (first | (with_reducible first | exact HB.out | apply b0_ | apply b1_ | apply b2_ | refine below_set ?_ GE426.out) | exact HB.out)⟩⟩
     case rest =>
      clear HC15;obtain ⟨kq,x34_14,rfl,HA,HJ14,BK426,HB⟩:=hcut
      cases kq with
       | zero => exact absurd HA.out (by simp [estoverslaw39_ReclaimplanOldest.j1])
       | succ kj14 =>
        have H:=HA.out;clear HA;simp only [estoverslaw39_ReclaimplanOldest.j1] at H;by_cases c20 : x34_14 = true
        rotate_left
        ·
         replace c20:=Bool.eq_false_iff.mpr c20;subst c20
         have H1 : ((some (([] : List (S30)) : List (S30))).bind fun y431 => (if y431.length + l0_1.length < 3518437208883 then ((some (y431 ++ l0_1 : List (S30))).bind fun y434 => (estoverslaw39_ReclaimplanOldest.l0 kj14 t430 y434 (y434.length : Int) 0 l0_0 l0_1 a0_2 a0_3)) else (none))) = some r:=by rw [if_neg (show ¬ (false = true) by decide)] at H;exact H
         clear H;have H:=H1;clear H1;obtain ⟨y431,hy431⟩ : ∃ y_ : List (S30),y_ = (([] : List (S30))):=⟨_,rfl⟩
         replace H : (if y431.length + l0_1.length < 3518437208883 then ((some (y431 ++ l0_1 : List (S30))).bind fun y434 => (estoverslaw39_ReclaimplanOldest.l0 kj14 t430 y434 (y434.length : Int) 0 l0_0 l0_1 a0_2 a0_3)) else (none)) = some r:=by first | (rw [hy431];with_reducible exact H) | (have H2_:=(Option.bind_some _ _).symm.trans H;rw [hy431];with_reducible exact H2_) | (have H2_:=(Option.bind_some _ _).symm.trans H;with_reducible exact H2_) | with_reducible exact H | (rw [hy431];exact H) | exact H
         have Ny431:=Aside0.mk hy431;clear hy431;by_cases c21 : y431.length + l0_1.length < 3518437208883
         rotate_left
         · rw [if_neg c21] at H;exact absurd H (by simp)
         rw [if_pos c21] at H;have LMc21:=Aside0.mk c21;clear c21;obtain ⟨y434,hy434⟩ : ∃ y_ : List (S30),y_ = (y431 ++ l0_1):=⟨_,rfl⟩
         replace H : (estoverslaw39_ReclaimplanOldest.l0 kj14 t430 y434 (y434.length : Int) 0 l0_0 l0_1 a0_2 a0_3) = some r:=by first | (rw [hy434];with_reducible exact H) | (have H2_:=(Option.bind_some _ _).symm.trans H;rw [hy434];with_reducible exact H2_) | (have H2_:=(Option.bind_some _ _).symm.trans H;with_reducible exact H2_) | with_reducible exact H | (rw [hy434];exact H) | exact H
         have Ny434:=Aside0.mk hy434;clear hy434;have H':=Aside0.mk H;clear H
         go_wp2_with (first | ((with_reducible refine gate_dst (N:=37) rfl ?_);(try (refine gate_guard (by rfl) ?_;dsimp only));refine Kd.R_lit k30 _ 30 ?hg (N:=37) ?hd (xs:=([] : List (S30))) (inner:=[]) (ok:=fun _ => True) (okp:=fun _ => True) ?hr ?hp (fun _ hk => hk) trivial (Below.refl _ _) (Nat.le_refl _) (by simp) ?_;(case hd => rfl);(case hg => rfl);(case hr => first | (go_simp;done) | (go_simp;rfl));(case hp => exact (Reps.none _ _));intro v432 w22 ho23 hb hg_ hnew_;clear hg_ hnew_;(first | rw [← Ny431.out] at ho23 | (simp only [Int.reduceToNat] at ho23;rw [← Ny431.out] at ho23));have n0_:=Aside0.mk (Kd.R_lower ho23 (below_size (by repeat (first | (with_reducible first | exact HB.out | apply b0_ | apply b1_ | apply b2_ | refine below_set ?_ GE426.out) | exact HB.out))));have n1_:=Aside0.mk (blk_below (g:=gb426) (o:=.cells #[.slice A0_0 l0_0.length c0_0,.slice A0_1 l0_1.length c0_1,.int .i64 a0_2,.bool a0_3] 37 (0,0)) (by (with_reducible repeat (first | refine blk_drewN ?_ _ | refine blk_drew ?_ | refine blk_alloc ?_ _));exact BK426.out) hb);have n2_:=Aside0.mk (below_step (by repeat (first | (with_reducible first | exact HB.out | apply b0_ | apply b1_ | apply b2_ | refine below_set ?_ GE426.out) | exact HB.out)) hb);clear BK426;clear HB;have HO433:=n0_;have BK426:=n1_;have HB:=n2_;clear n0_ n1_ n2_;clear hb ho23;obtain ⟨hcz24_0,hcz24_1,hcz24_2,hcz24_3,hfz24_0,hfz24_1,hfz24_2,hfz24_3⟩:=q4_ BK426.out) | ((with_reducible refine gate_builtin (b:=.append) (xs:=#[.tmp 37,.tmp 39]) rfl ?_);(try (refine gate_guard (by rfl) ?_;dsimp only));at_builtin;refine Kd.R_append_rows k30 (w0:=w) w.heap.size rfl (.tmp 37) (.tmp 39) 22 30 (.agg #[(.int .i64 0),(.int .i64 0),(.int .i64 0),(.int .i64 0),(.int .i64 0)]) 40 rfl Try.underlying22 info30 rfl (by decide) (by omega) v432 y431 l0_1 _ _ _ (fun _ => True) (fun _ => False) rfl rfl ?aO ?aR (fun _ _ h => h) (fun _ h => h.elim) ?aF ?aB ?aS ?aL ?_;(case aR => repeat (first | exact (Kd.C_below HR0_1.out HB.out) | (with_reducible refine Kd.C_alloc ?_ _) | (with_reducible refine Kd.C_drewN ?_ _) | (with_reducible refine Kd.C_drew ?_)));(case aB => exact (by repeat (first | (with_reducible first | exact HB.out | apply b0_ | apply b1_ | apply b2_ | refine below_set ?_ GE426.out) | exact HB.out)));(case aF => exact (fun _ _ => trivial));(case aO => exact (by (with_reducible repeat (first | apply Kd.R_alloc | apply Kd.R_drewN | apply Kd.R_drew));exact HO433.out));(case aS => exact (below_size (by repeat (first | (with_reducible first | exact HB.out | apply b0_ | apply b1_ | apply b2_ | refine below_set ?_ GE426.out) | exact HB.out))));(case aL => have:=LMc21.out;omega);intro v435 w25 ho hb hg hat;rw [← Ny434.out] at ho;have n0_:=Aside0.mk (blk_grown (g:=gb426) (o:=.cells #[.slice A0_0 l0_0.length c0_0,.slice A0_1 l0_1.length c0_1,.int .i64 a0_2,.bool a0_3] 37 (0,0)) (by (with_reducible repeat (first | refine blk_drewN ?_ _ | refine blk_drew ?_ | refine blk_alloc ?_ _));exact BK426.out) hg (Kd.R_ne HO433.out BK426.out (by decide)));have n1_:=Aside0.mk (hb);have n2_:=Aside0.mk (ho);clear BK426;clear HB;clear HO433;have BK426:=n0_;have HB:=n1_;have HO436:=n2_;clear n0_ n1_ n2_;clear ho hb hg hat;obtain ⟨Ao26,co26,eo26⟩:=Kd.R_slice HO436.out;subst eo26))
         go_loopg [43] kj14 (fun kq v43 w' => ∃ (x4_3 : List (S30)) (x43_3 : Int),v43 = .int .i64 x43_3∧Aside0 (estoverslaw39_ReclaimplanOldest.l0 kq t430 x4_3 (y434.length : Int) x43_3 l0_0 l0_1 a0_2 a0_3 = some r)∧Aside0 (kq≤kj14)∧Aside0 (Kd.R k30 30 w' w.heap.size (fun _ => True) (.slice Ao26 y434.length co26) x4_3)∧Aside0 (w'.heap[gb426]? = some (.cells #[(.slice A0_0 l0_0.length c0_0),(.slice A0_1 l0_1.length c0_1),.int .i64 a0_2,.bool a0_3] 37 (0,0)))∧Aside0 (Below w.heap.size w w'))
         case atStart => exact ⟨(y434),(0),(by first | rfl | (simp;done) | (simp [*];done)),H',⟨Nat.le_refl _⟩,⟨by (with_reducible repeat (first | apply Kd.R_alloc | apply Kd.R_drewN | apply Kd.R_drew));exact HO436.out⟩,⟨by (with_reducible repeat (first | refine blk_drewN ?_ _ | refine blk_drew ?_ | refine blk_alloc ?_ _));exact BK426.out⟩,⟨by repeat (first | (with_reducible first | exact HB.out | apply b0_ | apply b1_ | apply b2_ | refine below_set ?_ GE426.out) | exact HB.out)⟩⟩
         case round =>
          clear H';obtain ⟨x4_3,x43_3,rfl,HA,HK3,HO_4,BK426,HB⟩:=hrel;have hl4_3:=(Kd.R_reads' HO_4.out).1;rw [hl4_3] at HO_4
          (try simp only [hl4_3])
          (try simp only [hl4_3] at BK426)
          cases gk with
           | zero => exact absurd HA.out (by simp [estoverslaw39_ReclaimplanOldest.l0])
           | succ k3 =>
            have H:=HA.out;clear HA;simp only [estoverslaw39_ReclaimplanOldest.l0] at H;by_cases c27 : x43_3 < (y434.length : Int)
            rotate_left
            ·
             rw [if_neg c27] at H;have c27b0 : decide (x43_3 < (y434.length : Int)) = false:=decide_eq_false c27;have c27b0q : decide (x43_3 < (x4_3.length : Int)) = false:=(by first | (rw [← hl4_3];exact c27b0) | (have c27b0z:=c27b0;simp only [hl4_3] at c27b0z;exact c27b0z));clear c27;replace H:=Option.bind_eq_some_iff.mp H;obtain ⟨t440,A340,H⟩:=H;replace H : (estoverslaw39_ReclaimplanOldest.l1 k3 t430 x4_3 t440 (l0_0.length : Int) 0 l0_0 l0_1 a0_2 a0_3) = some r:=H;have A34:=Aside0.mk A340;clear A340;have H':=Aside0.mk H;clear H
             obtain ⟨hcz35_0,hcz35_1,hcz35_2,hcz35_3,hfz35_0,hfz35_1,hfz35_2,hfz35_3⟩:=q4_ BK426.out
             go_wp2_with (first | ((with_reducible refine gate_callee (f:=33) rfl ?_);refine goesL_ (some 70) rfl rfl Try.func33 (by kernel_rfl) rfl #[.slice A0_0 l0_0.length c0_0,.slice Ao26 x4_3.length co26,.int .i64 a0_2,.int .i64 t430,.bool a0_3] rfl (by (try simp only [z3_,z4_,z5_]);first | done | rfl | (simp only [z6_,z7_];rfl)) ?_;(with_reducible refine (reclaimplan_Reason.calls k3 _ _ l0_0 _ _ x4_3 a0_2 t430 a0_3 t440 _ ?side1 ?side2 ?side3 ?side4 A34.out).mono ?_);(case side1 => repeat (first | exact (Kd.C_below HR0_0.out HB.out) | (with_reducible refine Kd.C_alloc ?_ _) | (with_reducible refine Kd.C_drewN ?_ _) | (with_reducible refine Kd.C_drew ?_)));(case side2 => exact HC0_0.out);(case side3 => repeat (first | exact (Kd.R_reads' HO_4.out).2.2 | (with_reducible refine Kd.C_alloc ?_ _) | (with_reducible refine Kd.C_drewN ?_ _) | (with_reducible refine Kd.C_drew ?_)));(case side4 => exact (Kd.R_reads' HO_4.out).2.1);rintro e w36 ⟨rfl,hb⟩;refine ⟨_,rfl,?_⟩;have n0_:=Aside0.mk (Kd.R_below (by (with_reducible repeat (first | apply Kd.R_alloc | apply Kd.R_drewN | apply Kd.R_drew));exact HO_4.out) hb);have n1_:=Aside0.mk (blk_below (g:=gb426) (o:=.cells #[.slice A0_0 l0_0.length c0_0,.slice A0_1 l0_1.length c0_1,.int .i64 a0_2,.bool a0_3] 37 (0,0)) (by (with_reducible repeat (first | refine blk_drewN ?_ _ | refine blk_drew ?_ | refine blk_alloc ?_ _));exact BK426.out) hb);have n2_:=Aside0.mk (below_step (by repeat (first | (with_reducible first | exact HB.out | apply b0_ | apply b1_ | apply b2_ | refine below_set ?_ GE426.out) | exact HB.out)) hb);clear HO_4;clear BK426;clear HB;have HO_4:=n0_;have BK426:=n1_;have HB:=n2_;clear n0_ n1_ n2_;obtain ⟨hcz37_0,hcz37_1,hcz37_2,hcz37_3,hfz37_0,hfz37_1,hfz37_2,hfz37_3⟩:=q4_ BK426.out))
             go_loopg [74] k3 (fun kq v74 w' => ∃ (x74_4 : Int),v74 = .int .i64 x74_4∧Aside0 (estoverslaw39_ReclaimplanOldest.l1 kq t430 x4_3 t440 (l0_0.length : Int) x74_4 l0_0 l0_1 a0_2 a0_3 = some r)∧Aside0 (kq≤k3)∧Aside0 (Kd.R k30 30 w' w.heap.size (fun _ => True) (.slice Ao26 x4_3.length co26) x4_3)∧Aside0 (w'.heap[gb426]? = some (.cells #[(.slice A0_0 l0_0.length c0_0),(.slice A0_1 l0_1.length c0_1),.int .i64 a0_2,.bool a0_3] 37 (0,0)))∧Aside0 (Below w.heap.size w w'))
             case atStart => exact ⟨(0),(by first | rfl | (simp;done) | (simp [*];done)),H',⟨Nat.le_refl _⟩,⟨by (try simp only [hl4_3]);(with_reducible repeat (first | apply Kd.R_alloc | apply Kd.R_drewN | apply Kd.R_drew));exact HO_4.out⟩,⟨by (try simp only [hl4_3]);(with_reducible repeat (first | refine blk_drewN ?_ _ | refine blk_drew ?_ | refine blk_alloc ?_ _));exact BK426.out⟩,⟨by repeat (first | (with_reducible first | exact HB.out | apply b0_ | apply b1_ | apply b2_ | refine below_set ?_ GE426.out) | exact HB.out)⟩⟩
             case round =>
              clear H';obtain ⟨x74_4,rfl,HA,HK4,HO_4,BK426,HB⟩:=hrel
              cases gk with
               | zero => exact absurd HA.out (by simp [estoverslaw39_ReclaimplanOldest.l1])
               | succ k4 =>
                have H:=HA.out;clear HA;simp only [estoverslaw39_ReclaimplanOldest.l1] at H;by_cases c38 : x74_4 < (l0_0.length : Int)
                rotate_left
                ·
                 rw [if_neg c38] at H;have c38b0 : decide (x74_4 < (l0_0.length : Int)) = false:=decide_eq_false c38;clear c38;obtain rfl:=Option.some.inj H;go_wp2;go_ret
                 exact ⟨by first | rfl | (simp [errW_none,errW_some] <;> rfl) | (simp [*,errW_none,errW_some] <;> rfl),by repeat (first | (with_reducible first | exact HB.out | apply b0_ | apply b1_ | apply b2_ | refine below_set ?_ GE426.out) | exact HB.out)⟩
                rw [if_pos c38] at H;have c38b0 : decide (x74_4 < (l0_0.length : Int)) = true:=decide_eq_true c38;clear c38;replace H:=Option.bind_eq_some_iff.mp H;obtain ⟨t441,A390,H⟩:=H
                replace H : (if t441 = 0 then ((reclaimplan_Reason.f k4 l0_0 x4_3 a0_2 x74_4 a0_3).bind fun t442 => (if t442 = 0 then (if t440 = 0 then (if 0≤x74_4 then (if x74_4 < (l0_0.length : Int) then (if 0≤t430 then (if t430 < (l0_0.length : Int) then (if ((rd_T34 l0_0 x74_4).f2) < ((rd_T34 l0_0 t430).f2) then (estoverslaw39_ReclaimplanOldest.j4 k4 t430 x4_3 t440 (l0_0.length : Int) x74_4 true l0_0 l0_1 a0_2 a0_3) else (estoverslaw39_ReclaimplanOldest.j4 k4 t430 x4_3 t440 (l0_0.length : Int) x74_4 false l0_0 l0_1 a0_2 a0_3)) else (none)) else (none)) else (none)) else (none)) else (estoverslaw39_ReclaimplanOldest.j4 k4 t430 x4_3 t440 (l0_0.length : Int) x74_4 true l0_0 l0_1 a0_2 a0_3)) else (if t440 = 0 then (estoverslaw39_ReclaimplanOldest.j4 k4 t430 x4_3 t440 (l0_0.length : Int) x74_4 false l0_0 l0_1 a0_2 a0_3) else (if 0≤x74_4 then (if x74_4 < (l0_0.length : Int) then (if 0≤t430 then (if t430 < (l0_0.length : Int) then (estoverslaw39_ReclaimplanOldest.j4 k4 t430 x4_3 t440 (l0_0.length : Int) x74_4 (decide (((rd_T34 l0_0 x74_4).f2) < ((rd_T34 l0_0 t430).f2))) l0_0 l0_1 a0_2 a0_3) else (none)) else (none)) else (none)) else (none))))) else (estoverslaw39_ReclaimplanOldest.l1 k4 t430 x4_3 t440 (l0_0.length : Int) (wrap64 (x74_4 + 1)) l0_0 l0_1 a0_2 a0_3)) = some r:=H
                have A39:=Aside0.mk A390;clear A390;by_cases c40 : t441 = 0
                rotate_left
                ·
                 rw [if_neg c40] at H;have c40b0 : (t441 == 0) = false:=beq_eq_false_iff_ne.mpr c40;have c40b1 : (t441 != 0) = true:=bne_iff_ne.mpr c40;have H':=Aside0.mk H;clear H;obtain ⟨hcz65_0,hcz65_1,hcz65_2,hcz65_3,hfz65_0,hfz65_1,hfz65_2,hfz65_3⟩:=q4_ BK426.out
                 go_wp2_with (first | ((with_reducible refine gate_callee (f:=33) rfl ?_);refine goesL_ (some 86) rfl rfl Try.func33 (by kernel_rfl) rfl #[.slice A0_0 l0_0.length c0_0,.slice A0_1 l0_1.length c0_1,.int .i64 a0_2,.int .i64 x74_4,.bool a0_3] rfl (by (try simp only [z3_,z4_,z5_]);first | done | rfl | (simp only [z6_,z7_];rfl)) ?_;(with_reducible refine (reclaimplan_Reason.calls k4 _ _ l0_0 _ _ l0_1 a0_2 x74_4 a0_3 t441 _ ?side1 ?side2 ?side3 ?side4 A39.out).mono ?_);(case side1 => repeat (first | exact (Kd.C_below HR0_0.out HB.out) | (with_reducible refine Kd.C_alloc ?_ _) | (with_reducible refine Kd.C_drewN ?_ _) | (with_reducible refine Kd.C_drew ?_)));(case side2 => exact HC0_0.out);(case side3 => repeat (first | exact (Kd.C_below HR0_1.out HB.out) | (with_reducible refine Kd.C_alloc ?_ _) | (with_reducible refine Kd.C_drewN ?_ _) | (with_reducible refine Kd.C_drew ?_)));(case side4 => exact HC0_1.out);rintro e w66 ⟨rfl,hb⟩;refine ⟨_,rfl,?_⟩;have n0_:=Aside0.mk (Kd.R_below (by (with_reducible repeat (first | apply Kd.R_alloc | apply Kd.R_drewN | apply Kd.R_drew));exact HO_4.out) hb);have n1_:=Aside0.mk (blk_below (g:=gb426) (o:=.cells #[.slice A0_0 l0_0.length c0_0,.slice A0_1 l0_1.length c0_1,.int .i64 a0_2,.bool a0_3] 37 (0,0)) (by (with_reducible repeat (first | refine blk_drewN ?_ _ | refine blk_drew ?_ | refine blk_alloc ?_ _));exact BK426.out) hb);have n2_:=Aside0.mk (below_step (by repeat (first | (with_reducible first | exact HB.out | apply b0_ | apply b1_ | apply b2_ | refine below_set ?_ GE426.out) | exact HB.out)) hb);clear HO_4;clear BK426;clear HB;have HO_4:=n0_;have BK426:=n1_;have HB:=n2_;clear n0_ n1_ n2_))
                 go_roundg k4
                 case measure => have:=HJ1.out;have:=HJ14.out;have:=HK3.out;have:=HK4.out;omega
                 case rel => exact ⟨(wrap64 (x74_4 + 1)),(by first | rfl | (simp;done) | (simp [*];done)),H',⟨by have:=HJ1.out;have:=HJ14.out;have:=HK3.out;have:=HK4.out;omega⟩,⟨by (try simp only [hl4_3]);(with_reducible repeat (first | apply Kd.R_alloc | apply Kd.R_drewN | apply Kd.R_drew));exact HO_4.out⟩,⟨by (try simp only [hl4_3]);(with_reducible repeat (first | refine blk_drewN ?_ _ | refine blk_drew ?_ | refine blk_alloc ?_ _));exact BK426.out⟩,⟨by repeat (first | (with_reducible first | exact HB.out | apply b0_ | apply b1_ | apply b2_ | refine below_set ?_ GE426.out) | exact HB.out)⟩⟩
                rw [if_pos c40] at H;have c40b0 : (t441 == 0) = true:=beq_iff_eq.mpr c40;have c40b1 : (t441 != 0) = false:=bne_eq_false_iff_eq.mpr c40;clear c40;replace H:=Option.bind_eq_some_iff.mp H;obtain ⟨t442,A410,H⟩:=H
                replace H : (if t442 = 0 then (if t440 = 0 then (if 0≤x74_4 then (if x74_4 < (l0_0.length : Int) then (if 0≤t430 then (if t430 < (l0_0.length : Int) then (if ((rd_T34 l0_0 x74_4).f2) < ((rd_T34 l0_0 t430).f2) then (estoverslaw39_ReclaimplanOldest.j4 k4 t430 x4_3 t440 (l0_0.length : Int) x74_4 true l0_0 l0_1 a0_2 a0_3) else (estoverslaw39_ReclaimplanOldest.j4 k4 t430 x4_3 t440 (l0_0.length : Int) x74_4 false l0_0 l0_1 a0_2 a0_3)) else (none)) else (none)) else (none)) else (none)) else (estoverslaw39_ReclaimplanOldest.j4 k4 t430 x4_3 t440 (l0_0.length : Int) x74_4 true l0_0 l0_1 a0_2 a0_3)) else (if t440 = 0 then (estoverslaw39_ReclaimplanOldest.j4 k4 t430 x4_3 t440 (l0_0.length : Int) x74_4 false l0_0 l0_1 a0_2 a0_3) else (if 0≤x74_4 then (if x74_4 < (l0_0.length : Int) then (if 0≤t430 then (if t430 < (l0_0.length : Int) then (estoverslaw39_ReclaimplanOldest.j4 k4 t430 x4_3 t440 (l0_0.length : Int) x74_4 (decide (((rd_T34 l0_0 x74_4).f2) < ((rd_T34 l0_0 t430).f2))) l0_0 l0_1 a0_2 a0_3) else (none)) else (none)) else (none)) else (none)))) = some r:=H
                have A41:=Aside0.mk A410;clear A410;have HC42:=Aside0.mk H;clear H;obtain ⟨hcz43_0,hcz43_1,hcz43_2,hcz43_3,hfz43_0,hfz43_1,hfz43_2,hfz43_3⟩:=q4_ BK426.out
                go_upto_region 18 with (first | ((with_reducible refine gate_callee (f:=33) rfl ?_);refine goesL_ (some 86) rfl rfl Try.func33 (by kernel_rfl) rfl #[.slice A0_0 l0_0.length c0_0,.slice A0_1 l0_1.length c0_1,.int .i64 a0_2,.int .i64 x74_4,.bool a0_3] rfl (by (try simp only [z3_,z4_,z5_]);first | done | rfl | (simp only [z6_,z7_];rfl)) ?_;(with_reducible refine (reclaimplan_Reason.calls k4 _ _ l0_0 _ _ l0_1 a0_2 x74_4 a0_3 t441 _ ?side1 ?side2 ?side3 ?side4 A39.out).mono ?_);(case side1 => repeat (first | exact (Kd.C_below HR0_0.out HB.out) | (with_reducible refine Kd.C_alloc ?_ _) | (with_reducible refine Kd.C_drewN ?_ _) | (with_reducible refine Kd.C_drew ?_)));(case side2 => exact HC0_0.out);(case side3 => repeat (first | exact (Kd.C_below HR0_1.out HB.out) | (with_reducible refine Kd.C_alloc ?_ _) | (with_reducible refine Kd.C_drewN ?_ _) | (with_reducible refine Kd.C_drew ?_)));(case side4 => exact HC0_1.out);rintro e w44 ⟨rfl,hb⟩;refine ⟨_,rfl,?_⟩;have n0_:=Aside0.mk (Kd.R_below (by (with_reducible repeat (first | apply Kd.R_alloc | apply Kd.R_drewN | apply Kd.R_drew));exact HO_4.out) hb);have n1_:=Aside0.mk (blk_below (g:=gb426) (o:=.cells #[.slice A0_0 l0_0.length c0_0,.slice A0_1 l0_1.length c0_1,.int .i64 a0_2,.bool a0_3] 37 (0,0)) (by (with_reducible repeat (first | refine blk_drewN ?_ _ | refine blk_drew ?_ | refine blk_alloc ?_ _));exact BK426.out) hb);have n2_:=Aside0.mk (below_step (by repeat (first | (with_reducible first | exact HB.out | apply b0_ | apply b1_ | apply b2_ | refine below_set ?_ GE426.out) | exact HB.out)) hb);clear HO_4;clear BK426;clear HB;have HO_4:=n0_;have BK426:=n1_;have HB:=n2_;clear n0_ n1_ n2_;obtain ⟨hcz45_0,hcz45_1,hcz45_2,hcz45_3,hfz45_0,hfz45_1,hfz45_2,hfz45_3⟩:=q4_ BK426.out) | ((with_reducible refine gate_callee (f:=33) rfl ?_);refine goesL_ (some 96) rfl rfl Try.func33 (by kernel_rfl) rfl #[.slice A0_0 l0_0.length c0_0,.slice Ao26 x4_3.length co26,.int .i64 a0_2,.int .i64 x74_4,.bool a0_3] rfl (by (try simp only [z3_,z4_,z5_]);first | done | rfl | (simp only [z6_,z7_];rfl)) ?_;(with_reducible refine (reclaimplan_Reason.calls k4 _ _ l0_0 _ _ x4_3 a0_2 x74_4 a0_3 t442 _ ?side1 ?side2 ?side3 ?side4 A41.out).mono ?_);(case side1 => repeat (first | exact (Kd.C_below HR0_0.out HB.out) | (with_reducible refine Kd.C_alloc ?_ _) | (with_reducible refine Kd.C_drewN ?_ _) | (with_reducible refine Kd.C_drew ?_)));(case side2 => exact HC0_0.out);(case side3 => repeat (first | exact (Kd.R_reads' HO_4.out).2.2 | (with_reducible refine Kd.C_alloc ?_ _) | (with_reducible refine Kd.C_drewN ?_ _) | (with_reducible refine Kd.C_drew ?_)));(case side4 => exact (Kd.R_reads' HO_4.out).2.1);rintro e w46 ⟨rfl,hb⟩;refine ⟨_,rfl,?_⟩;have n0_:=Aside0.mk (Kd.R_below (by (with_reducible repeat (first | apply Kd.R_alloc | apply Kd.R_drewN | apply Kd.R_drew));exact HO_4.out) hb);have n1_:=Aside0.mk (blk_below (g:=gb426) (o:=.cells #[.slice A0_0 l0_0.length c0_0,.slice A0_1 l0_1.length c0_1,.int .i64 a0_2,.bool a0_3] 37 (0,0)) (by (with_reducible repeat (first | refine blk_drewN ?_ _ | refine blk_drew ?_ | refine blk_alloc ?_ _));exact BK426.out) hb);have n2_:=Aside0.mk (below_step (by repeat (first | (with_reducible first | exact HB.out | apply b0_ | apply b1_ | apply b2_ | refine below_set ?_ GE426.out) | exact HB.out)) hb);clear HO_4;clear BK426;clear HB;have HO_4:=n0_;have BK426:=n1_;have HB:=n2_;clear n0_ n1_ n2_))
                (try simp only [Act.put,List.setIfInBounds_toArray,List.set_cons_zero,List.set_cons_succ])
                go_cut [137] (fun v137 wc => ∃ (kq : Nat) (x137_41 : Bool),v137 = .bool x137_41∧Aside0 (estoverslaw39_ReclaimplanOldest.j4 kq t430 x4_3 t440 (l0_0.length : Int) x74_4 x137_41 l0_0 l0_1 a0_2 a0_3 = some r)∧Aside0 (kq≤k4)∧Aside0 (Kd.R k30 30 wc w.heap.size (fun _ => True) (.slice Ao26 x4_3.length co26) x4_3)∧Aside0 (wc.heap[gb426]? = some (.cells #[(.slice A0_0 l0_0.length c0_0),(.slice A0_1 l0_1.length c0_1),.int .i64 a0_2,.bool a0_3] 37 (0,0)))∧Aside0 (Below w.heap.size w wc))
                case first =>
                 have H:=HC42.out;clear HC42;by_cases c47 : t442 = 0
                 rotate_left
                 ·
                  rw [if_neg c47] at H;have c47b0 : (t442 == 0) = false:=beq_eq_false_iff_ne.mpr c47;have c47b1 : (t442 != 0) = true:=bne_iff_ne.mpr c47
                  (first | rw [c47b0] | (simp only [i64_w,i32_w];rw [c47b0]) | skip)
                  by_cases c57 : t440 = 0
                  rotate_left
                  ·
                   rw [if_neg c57] at H;have c57b0 : (t440 == 0) = false:=beq_eq_false_iff_ne.mpr c57;have c57b1 : (t440 != 0) = true:=bne_iff_ne.mpr c57;by_cases c59 : 0≤x74_4
                   rotate_left
                   · rw [if_neg c59] at H;exact absurd H (by simp)
                   rw [if_pos c59] at H;have c59b0 : decide (0≤x74_4) = true:=decide_eq_true c59;clear c59;by_cases c60 : x74_4 < (l0_0.length : Int)
                   rotate_left
                   · rw [if_neg c60] at H;exact absurd H (by simp)
                   rw [if_pos c60] at H;have c60b0 : decide (x74_4 < (l0_0.length : Int)) = true:=decide_eq_true c60;clear c60;by_cases c61 : 0≤t430
                   rotate_left
                   · rw [if_neg c61] at H;exact absurd H (by simp)
                   rw [if_pos c61] at H;have c61b0 : decide (0≤t430) = true:=decide_eq_true c61;clear c61;by_cases c62 : t430 < (l0_0.length : Int)
                   rotate_left
                   · rw [if_neg c62] at H;exact absurd H (by simp)
                   rw [if_pos c62] at H;have c62b0 : decide (t430 < (l0_0.length : Int)) = true:=decide_eq_true c62;clear c62;have H':=Aside0.mk H;clear H
                   try go_wp2
                   have n0_:=Aside0.mk (Kd.R_drew HO_4.out);have n1_:=Aside0.mk (blk_drew BK426.out);have n2_:=Aside0.mk (b2_ HB.out);clear HO_4;clear BK426;clear HB;have HO_4:=n0_;have BK426:=n1_;have HB:=n2_;clear n0_ n1_ n2_;have p445 : 0≤(x74_4 : Int):=of_decide_eq_true (by first | (with_reducible assumption) | assumption)
                   have q445 : x74_4 < (l0_0.length : Int):=of_decide_eq_true (by first | (with_reducible assumption) | assumption);obtain ⟨ad445,e445,hx445_0,hx445_1,hx445_2,hx445_3,hx445_4,hx445_5,hx445_6⟩:=at_T34 HR0_0.out x74_4 p445 q445;have hw445_6:=hx445_6;have hw445_5:=hx445_5;have hw445_4:=hx445_4;have hw445_3:=hx445_3;have hw445_2:=hx445_2;have hw445_1:=hx445_1
                   have hw445_0:=hx445_0;cases e445;replace hx445_0:=(HB.out.cell (World.block_lt_of_cell? w _ hx445_0)).trans hx445_0;replace hx445_1:=(HB.out.cell (World.block_lt_of_cell? w _ hx445_1)).trans hx445_1;replace hx445_2:=(HB.out.cell (World.block_lt_of_cell? w _ hx445_2)).trans hx445_2;replace hx445_3:=(HB.out.cell (World.block_lt_of_cell? w _ hx445_3)).trans hx445_3
                   replace hx445_4:=(HB.out.cell (World.block_lt_of_cell? w _ hx445_4)).trans hx445_4;replace hx445_5:=(HB.out.cell (World.block_lt_of_cell? w _ hx445_5)).trans hx445_5;replace hx445_6:=(HB.out.cell (World.block_lt_of_cell? w _ hx445_6)).trans hx445_6;replace p445:=eq_true p445;replace q445:=eq_true q445
                   have p446 : 0≤(t430 : Int):=of_decide_eq_true (by first | (with_reducible assumption) | assumption);have q446 : t430 < (l0_0.length : Int):=of_decide_eq_true (by first | (with_reducible assumption) | assumption);obtain ⟨ad446,e446,hx446_0,hx446_1,hx446_2,hx446_3,hx446_4,hx446_5,hx446_6⟩:=at_T34 HR0_0.out t430 p446 q446;have hw446_6:=hx446_6;have hw446_5:=hx446_5
                   have hw446_4:=hx446_4;have hw446_3:=hx446_3;have hw446_2:=hx446_2;have hw446_1:=hx446_1;have hw446_0:=hx446_0;obtain rfl : ad445 = ad446:=(by injection e446);replace hx446_0:=(HB.out.cell (World.block_lt_of_cell? w _ hx446_0)).trans hx446_0;replace hx446_1:=(HB.out.cell (World.block_lt_of_cell? w _ hx446_1)).trans hx446_1
                   replace hx446_2:=(HB.out.cell (World.block_lt_of_cell? w _ hx446_2)).trans hx446_2;replace hx446_3:=(HB.out.cell (World.block_lt_of_cell? w _ hx446_3)).trans hx446_3;replace hx446_4:=(HB.out.cell (World.block_lt_of_cell? w _ hx446_4)).trans hx446_4;replace hx446_5:=(HB.out.cell (World.block_lt_of_cell? w _ hx446_5)).trans hx446_5
                   replace hx446_6:=(HB.out.cell (World.block_lt_of_cell? w _ hx446_6)).trans hx446_6;replace p446:=eq_true p446;replace q446:=eq_true q446
                   refine start_ (n:=40) (S:=fun w' => w'.cell? ⟨gb426,0,none⟩ = some (.slice (some ad445) l0_0.length c0_0)∧w'.cell? ⟨gb426,1,none⟩ = some (.slice A0_1 l0_1.length c0_1)∧w'.cell? ⟨gb426,2,none⟩ = some (.int .i64 a0_2)∧w'.cell? ⟨gb426,3,none⟩ = some (.bool a0_3)∧w'.cell? (ad445.add ((x74_4).toNat * 7)) = some (.int .i64 ((rd_T34 l0_0 x74_4).f0))∧w'.cell? ⟨(ad445.add ((x74_4).toNat * 7)).block,(ad445.add ((x74_4).toNat * 7)).off + 1,none⟩ = some (.int .i64 ((rd_T34 l0_0 x74_4).f1))∧w'.cell? ⟨(ad445.add ((x74_4).toNat * 7)).block,(ad445.add ((x74_4).toNat * 7)).off + 2,none⟩ = some (.int .i64 ((rd_T34 l0_0 x74_4).f2))∧w'.cell? ⟨(ad445.add ((x74_4).toNat * 7)).block,(ad445.add ((x74_4).toNat * 7)).off + 3,none⟩ = some (.int .i64 ((rd_T34 l0_0 x74_4).f3))∧w'.cell? ⟨(ad445.add ((x74_4).toNat * 7)).block,(ad445.add ((x74_4).toNat * 7)).off + 4,none⟩ = some (.int .i64 ((rd_T34 l0_0 x74_4).f4))∧w'.cell? ⟨(ad445.add ((x74_4).toNat * 7)).block,(ad445.add ((x74_4).toNat * 7)).off + 5,none⟩ = some (.bool ((rd_T34 l0_0 x74_4).f5))∧w'.cell? ⟨(ad445.add ((x74_4).toNat * 7)).block,(ad445.add ((x74_4).toNat * 7)).off + 6,none⟩ = some (.bool ((rd_T34 l0_0 x74_4).f6))∧w'.cell? (ad445.add ((t430).toNat * 7)) = some (.int .i64 ((rd_T34 l0_0 t430).f0))∧w'.cell? ⟨(ad445.add ((t430).toNat * 7)).block,(ad445.add ((t430).toNat * 7)).off + 1,none⟩ = some (.int .i64 ((rd_T34 l0_0 t430).f1))∧w'.cell? ⟨(ad445.add ((t430).toNat * 7)).block,(ad445.add ((t430).toNat * 7)).off + 2,none⟩ = some (.int .i64 ((rd_T34 l0_0 t430).f2))∧w'.cell? ⟨(ad445.add ((t430).toNat * 7)).block,(ad445.add ((t430).toNat * 7)).off + 3,none⟩ = some (.int .i64 ((rd_T34 l0_0 t430).f3))∧w'.cell? ⟨(ad445.add ((t430).toNat * 7)).block,(ad445.add ((t430).toNat * 7)).off + 4,none⟩ = some (.int .i64 ((rd_T34 l0_0 t430).f4))∧w'.cell? ⟨(ad445.add ((t430).toNat * 7)).block,(ad445.add ((t430).toNat * 7)).off + 5,none⟩ = some (.bool ((rd_T34 l0_0 t430).f5))∧w'.cell? ⟨(ad445.add ((t430).toNat * 7)).block,(ad445.add ((t430).toNat * 7)).off + 6,none⟩ = some (.bool ((rd_T34 l0_0 t430).f6))) (ds:=[]) #[F0,F0,F0,F0,F0,F0,F0,F0,F0,F0,F0,F0,F0,F0,F0,F0,F0,F0,F0,F0,F0,F0,F0,F0,F0,F0,F0,F0,F0,F0,F0,F0,F0,F0,F0,F0,F0,F0,F0,F0] (by kernel_rfl) rfl rfl ⟨(blk_cell BK426.out 0).trans rfl,(blk_cell BK426.out 1).trans rfl,(blk_cell BK426.out 2).trans rfl,(blk_cell BK426.out 3).trans rfl,((HB.out.cell (World.block_lt_of_cell? w _ hw445_0)).trans hw445_0),((HB.out.cell (World.block_lt_of_cell? w _ hw445_1)).trans hw445_1),((HB.out.cell (World.block_lt_of_cell? w _ hw445_2)).trans hw445_2),((HB.out.cell (World.block_lt_of_cell? w _ hw445_3)).trans hw445_3),((HB.out.cell (World.block_lt_of_cell? w _ hw445_4)).trans hw445_4),((HB.out.cell (World.block_lt_of_cell? w _ hw445_5)).trans hw445_5),((HB.out.cell (World.block_lt_of_cell? w _ hw445_6)).trans hw445_6),((HB.out.cell (World.block_lt_of_cell? w _ hw446_0)).trans hw446_0),((HB.out.cell (World.block_lt_of_cell? w _ hw446_1)).trans hw446_1),((HB.out.cell (World.block_lt_of_cell? w _ hw446_2)).trans hw446_2),((HB.out.cell (World.block_lt_of_cell? w _ hw446_3)).trans hw446_3),((HB.out.cell (World.block_lt_of_cell? w _ hw446_4)).trans hw446_4),((HB.out.cell (World.block_lt_of_cell? w _ hw446_5)).trans hw446_5),((HB.out.cell (World.block_lt_of_cell? w _ hw446_6)).trans hw446_6)⟩ (fun hHeld => ?_);refine with_tabW estoverslaw39_ReclaimplanOldest.tab18 estoverslaw39_ReclaimplanOldest.bits18 (fun HT_ HW_ => ?_)
                   generalize w46.drew = w63 at HO_4 BK426 HB hx445_0 hx445_1 hx445_2 hx445_3 hx445_4 hx445_5 hx445_6 hx446_0 hx446_1 hx446_2 hx446_3 hx446_4 hx446_5 hx446_6 hHeld ⊢
                   refine pure_ (i:=0) (N:=some 98) (v:=?_) (a':=?_) #[T0,F0,F0,F0,F0,F0,F0,F0,F0,F0,F0,F0,F0,F0,F0,F0,F0,F0,F0,F0,F0,F0,F0,F0,F0,F0,F0,F0,F0,F0,F0,F0,F0,F0,F0,F0,F0,F0,F0,F0] rfl rfl (any_of HT_.out (by kernel_rfl)) (fun _ _ _ h => h) (Or.inl ⟨by rfl,?_⟩) ?_ ?_
                   rotate_left
                   · intro w';go_simp;with_reducible rfl
                   rotate_left
                   · simp only [Act.put,z0_,z1_,z2_,i64_w,i32_w];rfl
                   refine pure_ (i:=1) (N:=some 99) (v:=?_) (a':=?_) #[T0,T0,F0,F0,F0,F0,F0,F0,F0,F0,F0,F0,F0,F0,F0,F0,F0,F0,F0,F0,F0,F0,F0,F0,F0,F0,F0,F0,F0,F0,F0,F0,F0,F0,F0,F0,F0,F0,F0,F0] rfl rfl (any_of HT_.out (by kernel_rfl)) (fun _ _ _ h => h) (Or.inl ⟨by rfl,?_⟩) ?_ ?_
                   rotate_left
                   · intro w';go_simp;with_reducible rfl
                   rotate_left
                   · simp only [Act.put,z0_,z1_,z2_,i64_w,i32_w];rfl
                   refine pure_ (i:=2) (N:=some 100) (v:=?_) (a':=?_) #[T0,T0,T0,F0,F0,F0,F0,F0,F0,F0,F0,F0,F0,F0,F0,F0,F0,F0,F0,F0,F0,F0,F0,F0,F0,F0,F0,F0,F0,F0,F0,F0,F0,F0,F0,F0,F0,F0,F0,F0] rfl rfl (any_of HT_.out (by kernel_rfl)) (fun _ _ _ h => h) (Or.inl ⟨by rfl,?_⟩) ?_ ?_
                   rotate_left
                   · intro w';go_simp;with_reducible rfl
                   rotate_left
                   · simp only [Act.put,z0_,z1_,z2_,i64_w,i32_w];rfl
                   refine pure_ (i:=3) (N:=some 101) (v:=undef) (a':=?_) #[T0,T0,T0,T0,F0,F0,F0,F0,F0,F0,F0,F0,F0,F0,F0,F0,F0,F0,F0,F0,F0,F0,F0,F0,F0,F0,F0,F0,F0,F0,F0,F0,F0,F0,F0,F0,F0,F0,F0,F0] rfl rfl (any_of HT_.out (by kernel_rfl)) (fun _ _ _ h => h) (Or.inr ⟨by rfl,rfl⟩) ?_ ?_
                   rotate_left
                   · simp only [Act.put,z0_,z1_,z2_,i64_w,i32_w];rfl
                   refine pure_ (i:=4) (N:=some 102) (v:=undef) (a':=?_) #[T0,T0,T0,T0,T0,F0,F0,F0,F0,F0,F0,F0,F0,F0,F0,F0,F0,F0,F0,F0,F0,F0,F0,F0,F0,F0,F0,F0,F0,F0,F0,F0,F0,F0,F0,F0,F0,F0,F0,F0] rfl rfl (any_of HT_.out (by kernel_rfl)) (fun _ _ _ h => h) (Or.inr ⟨by rfl,rfl⟩) ?_ ?_
                   rotate_left
                   · simp only [Act.put,z0_,z1_,z2_,i64_w,i32_w];rfl
                   refine pure_ (i:=5) (N:=some 103) (v:=undef) (a':=?_) #[T0,T0,T0,T0,T0,T0,F0,F0,F0,F0,F0,F0,F0,F0,F0,F0,F0,F0,F0,F0,F0,F0,F0,F0,F0,F0,F0,F0,F0,F0,F0,F0,F0,F0,F0,F0,F0,F0,F0,F0] rfl rfl (any_of HT_.out (by kernel_rfl)) (fun _ _ _ h => h) (Or.inr ⟨by rfl,rfl⟩) ?_ ?_
                   rotate_left
                   · simp only [Act.put,z0_,z1_,z2_,i64_w,i32_w];rfl
                   refine pure_ (i:=6) (N:=some 104) (v:=undef) (a':=?_) #[T0,T0,T0,T0,T0,T0,T0,F0,F0,F0,F0,F0,F0,F0,F0,F0,F0,F0,F0,F0,F0,F0,F0,F0,F0,F0,F0,F0,F0,F0,F0,F0,F0,F0,F0,F0,F0,F0,F0,F0] rfl rfl (any_of HT_.out (by kernel_rfl)) (fun _ _ _ h => h) (Or.inr ⟨by rfl,rfl⟩) ?_ ?_
                   rotate_left
                   · simp only [Act.put,z0_,z1_,z2_,i64_w,i32_w];rfl
                   refine pure_ (i:=7) (N:=some 105) (v:=undef) (a':=?_) #[T0,T0,T0,T0,T0,T0,T0,T0,F0,F0,F0,F0,F0,F0,F0,F0,F0,F0,F0,F0,F0,F0,F0,F0,F0,F0,F0,F0,F0,F0,F0,F0,F0,F0,F0,F0,F0,F0,F0,F0] rfl rfl (any_of HT_.out (by kernel_rfl)) (fun _ _ _ h => h) (Or.inr ⟨by rfl,rfl⟩) ?_ ?_
                   rotate_left
                   · simp only [Act.put,z0_,z1_,z2_,i64_w,i32_w];rfl
                   refine pure_ (i:=8) (N:=some 106) (v:=undef) (a':=?_) #[T0,T0,T0,T0,T0,T0,T0,T0,T0,F0,F0,F0,F0,F0,F0,F0,F0,F0,F0,F0,F0,F0,F0,F0,F0,F0,F0,F0,F0,F0,F0,F0,F0,F0,F0,F0,F0,F0,F0,F0] rfl rfl (any_of HT_.out (by kernel_rfl)) (fun _ _ _ h => h) (Or.inr ⟨by rfl,rfl⟩) ?_ ?_
                   rotate_left
                   · simp only [Act.put,z0_,z1_,z2_,i64_w,i32_w];rfl
                   refine pure_ (i:=9) (N:=some 107) (v:=undef) (a':=?_) #[T0,T0,T0,T0,T0,T0,T0,T0,T0,T0,F0,F0,F0,F0,F0,F0,F0,F0,F0,F0,F0,F0,F0,F0,F0,F0,F0,F0,F0,F0,F0,F0,F0,F0,F0,F0,F0,F0,F0,F0] rfl rfl (any_of HT_.out (by kernel_rfl)) (fun _ _ _ h => h) (Or.inr ⟨by rfl,rfl⟩) ?_ ?_
                   rotate_left
                   · simp only [Act.put,z0_,z1_,z2_,i64_w,i32_w];rfl
                   refine pure_ (i:=10) (N:=some 108) (v:=undef) (a':=?_) #[T0,T0,T0,T0,T0,T0,T0,T0,T0,T0,T0,F0,F0,F0,F0,F0,F0,F0,F0,F0,F0,F0,F0,F0,F0,F0,F0,F0,F0,F0,F0,F0,F0,F0,F0,F0,F0,F0,F0,F0] rfl rfl (any_of HT_.out (by kernel_rfl)) (fun _ _ _ h => h) (Or.inr ⟨by rfl,rfl⟩) ?_ ?_
                   rotate_left
                   · simp only [Act.put,z0_,z1_,z2_,i64_w,i32_w];rfl
                   refine pure_ (i:=11) (N:=some 109) (v:=undef) (a':=?_) #[T0,T0,T0,T0,T0,T0,T0,T0,T0,T0,T0,T0,F0,F0,F0,F0,F0,F0,F0,F0,F0,F0,F0,F0,F0,F0,F0,F0,F0,F0,F0,F0,F0,F0,F0,F0,F0,F0,F0,F0] rfl rfl (any_of HT_.out (by kernel_rfl)) (fun _ _ _ h => h) (Or.inr ⟨by rfl,rfl⟩) ?_ ?_
                   rotate_left
                   · simp only [Act.put,z0_,z1_,z2_,i64_w,i32_w];rfl
                   refine pure_ (i:=12) (N:=some 110) (v:=undef) (a':=?_) #[T0,T0,T0,T0,T0,T0,T0,T0,T0,T0,T0,T0,T0,F0,F0,F0,F0,F0,F0,F0,F0,F0,F0,F0,F0,F0,F0,F0,F0,F0,F0,F0,F0,F0,F0,F0,F0,F0,F0,F0] rfl rfl (any_of HT_.out (by kernel_rfl)) (fun _ _ _ h => h) (Or.inr ⟨by rfl,rfl⟩) ?_ ?_
                   rotate_left
                   · simp only [Act.put,z0_,z1_,z2_,i64_w,i32_w];rfl
                   refine pure_ (i:=13) (N:=some 111) (v:=undef) (a':=?_) #[T0,T0,T0,T0,T0,T0,T0,T0,T0,T0,T0,T0,T0,T0,F0,F0,F0,F0,F0,F0,F0,F0,F0,F0,F0,F0,F0,F0,F0,F0,F0,F0,F0,F0,F0,F0,F0,F0,F0,F0] rfl rfl (any_of HT_.out (by kernel_rfl)) (fun _ _ _ h => h) (Or.inr ⟨by rfl,rfl⟩) ?_ ?_
                   rotate_left
                   · simp only [Act.put,z0_,z1_,z2_,i64_w,i32_w];rfl
                   refine pure_ (i:=14) (N:=some 112) (v:=undef) (a':=?_) #[T0,T0,T0,T0,T0,T0,T0,T0,T0,T0,T0,T0,T0,T0,T0,F0,F0,F0,F0,F0,F0,F0,F0,F0,F0,F0,F0,F0,F0,F0,F0,F0,F0,F0,F0,F0,F0,F0,F0,F0] rfl rfl (any_of HT_.out (by kernel_rfl)) (fun _ _ _ h => h) (Or.inr ⟨by rfl,rfl⟩) ?_ ?_
                   rotate_left
                   · simp only [Act.put,z0_,z1_,z2_,i64_w,i32_w];rfl
                   refine pure_ (i:=15) (N:=some 113) (v:=undef) (a':=?_) #[T0,T0,T0,T0,T0,T0,T0,T0,T0,T0,T0,T0,T0,T0,T0,T0,F0,F0,F0,F0,F0,F0,F0,F0,F0,F0,F0,F0,F0,F0,F0,F0,F0,F0,F0,F0,F0,F0,F0,F0] rfl rfl (any_of HT_.out (by kernel_rfl)) (fun _ _ _ h => h) (Or.inr ⟨by rfl,rfl⟩) ?_ ?_
                   rotate_left
                   · simp only [Act.put,z0_,z1_,z2_,i64_w,i32_w];rfl
                   refine pure_ (i:=16) (N:=some 114) (v:=undef) (a':=?_) #[T0,T0,T0,T0,T0,T0,T0,T0,T0,T0,T0,T0,T0,T0,T0,T0,T0,F0,F0,F0,F0,F0,F0,F0,F0,F0,F0,F0,F0,F0,F0,F0,F0,F0,F0,F0,F0,F0,F0,F0] rfl rfl (any_of HT_.out (by kernel_rfl)) (fun _ _ _ h => h) (Or.inr ⟨by rfl,rfl⟩) ?_ ?_
                   rotate_left
                   · simp only [Act.put,z0_,z1_,z2_,i64_w,i32_w];rfl
                   refine pure_ (i:=17) (N:=some 115) (v:=undef) (a':=?_) #[T0,T0,T0,T0,T0,T0,T0,T0,T0,T0,T0,T0,T0,T0,T0,T0,T0,T0,F0,F0,F0,F0,F0,F0,F0,F0,F0,F0,F0,F0,F0,F0,F0,F0,F0,F0,F0,F0,F0,F0] rfl rfl (any_of HT_.out (by kernel_rfl)) (fun _ _ _ h => h) (Or.inr ⟨by rfl,rfl⟩) ?_ ?_
                   rotate_left
                   · simp only [Act.put,z0_,z1_,z2_,i64_w,i32_w];rfl
                   refine pure_ (i:=18) (N:=some 116) (v:=undef) (a':=?_) #[T0,T0,T0,T0,T0,T0,T0,T0,T0,T0,T0,T0,T0,T0,T0,T0,T0,T0,T0,F0,F0,F0,F0,F0,F0,F0,F0,F0,F0,F0,F0,F0,F0,F0,F0,F0,F0,F0,F0,F0] rfl rfl (any_of HT_.out (by kernel_rfl)) (fun _ _ _ h => h) (Or.inr ⟨by rfl,rfl⟩) ?_ ?_
                   rotate_left
                   · simp only [Act.put,z0_,z1_,z2_,i64_w,i32_w];rfl
                   refine pure_ (i:=19) (N:=some 117) (v:=undef) (a':=?_) #[T0,T0,T0,T0,T0,T0,T0,T0,T0,T0,T0,T0,T0,T0,T0,T0,T0,T0,T0,T0,F0,F0,F0,F0,F0,F0,F0,F0,F0,F0,F0,F0,F0,F0,F0,F0,F0,F0,F0,F0] rfl rfl (any_of HT_.out (by kernel_rfl)) (fun _ _ _ h => h) (Or.inr ⟨by rfl,rfl⟩) ?_ ?_
                   rotate_left
                   · simp only [Act.put,z0_,z1_,z2_,i64_w,i32_w];rfl
                   refine pure_ (i:=20) (N:=some 118) (v:=?_) (a':=?_) #[T0,T0,T0,T0,T0,T0,T0,T0,T0,T0,T0,T0,T0,T0,T0,T0,T0,T0,T0,T0,T0,F0,F0,F0,F0,F0,F0,F0,F0,F0,F0,F0,F0,F0,F0,F0,F0,F0,F0,F0] rfl rfl (any_of HT_.out (by kernel_rfl)) (fun _ _ _ h => h) (Or.inl ⟨by rfl,?_⟩) ?_ ?_
                   rotate_left
                   · intro w';go_simp;with_reducible rfl
                   rotate_left
                   · simp only [Act.put,z0_,z1_,z2_,i64_w,i32_w];rfl
                   refine pure_ (i:=21) (N:=some 119) (v:=?_) (a':=?_) #[T0,T0,T0,T0,T0,T0,T0,T0,T0,T0,T0,T0,T0,T0,T0,T0,T0,T0,T0,T0,T0,T0,F0,F0,F0,F0,F0,F0,F0,F0,F0,F0,F0,F0,F0,F0,F0,F0,F0,F0] rfl rfl (any_of HT_.out (by kernel_rfl)) (fun _ _ _ h => h) (Or.inl ⟨by rfl,?_⟩) ?_ ?_
                   rotate_left
                   · intro w';go_simp;with_reducible rfl
                   rotate_left
                   · simp only [Act.put,z0_,z1_,z2_,i64_w,i32_w];rfl
                   refine pure_ (i:=22) (N:=some 120) (v:=?_) (a':=?_) #[T0,T0,T0,T0,T0,T0,T0,T0,T0,T0,T0,T0,T0,T0,T0,T0,T0,T0,T0,T0,T0,T0,T0,F0,F0,F0,F0,F0,F0,F0,F0,F0,F0,F0,F0,F0,F0,F0,F0,F0] rfl rfl (any_of HT_.out (by kernel_rfl)) (fun _ _ _ h => h) (Or.inl ⟨by rfl,?_⟩) ?_ ?_
                   rotate_left
                   · intro w';go_simp;with_reducible rfl
                   rotate_left
                   · simp only [Act.put,z0_,z1_,z2_,i64_w,i32_w];rfl
                   refine pure_ (i:=23) (N:=some 121) (v:=?_) (a':=?_) #[T0,T0,T0,T0,T0,T0,T0,T0,T0,T0,T0,T0,T0,T0,T0,T0,T0,T0,T0,T0,T0,T0,T0,T0,F0,F0,F0,F0,F0,F0,F0,F0,F0,F0,F0,F0,F0,F0,F0,F0] rfl rfl (any_of HT_.out (by kernel_rfl)) (fun _ _ _ h => h) (Or.inl ⟨by rfl,?_⟩) ?_ ?_
                   rotate_left
                   · intro w';go_simp;with_reducible rfl
                   rotate_left
                   · simp only [Act.put,z0_,z1_,z2_,i64_w,i32_w];rfl
                   refine pure_ (i:=24) (N:=some 122) (v:=?_) (a':=?_) #[T0,T0,T0,T0,T0,T0,T0,T0,T0,T0,T0,T0,T0,T0,T0,T0,T0,T0,T0,T0,T0,T0,T0,T0,T0,F0,F0,F0,F0,F0,F0,F0,F0,F0,F0,F0,F0,F0,F0,F0] rfl rfl (any_of HT_.out (by kernel_rfl)) (fun _ _ _ h => h) (Or.inl ⟨by rfl,?_⟩) ?_ ?_
                   rotate_left
                   · intro w';go_simp;with_reducible rfl
                   rotate_left
                   · simp only [Act.put,z0_,z1_,z2_,i64_w,i32_w];rfl
                   refine pure_ (i:=25) (N:=some 123) (v:=?_) (a':=?_) #[T0,T0,T0,T0,T0,T0,T0,T0,T0,T0,T0,T0,T0,T0,T0,T0,T0,T0,T0,T0,T0,T0,T0,T0,T0,T0,F0,F0,F0,F0,F0,F0,F0,F0,F0,F0,F0,F0,F0,F0] rfl rfl (any_of HT_.out (by kernel_rfl)) (fun _ _ _ h => h) (Or.inl ⟨by rfl,?_⟩) ?_ ?_
                   rotate_left
                   · intro w';go_simp;with_reducible rfl
                   rotate_left
                   · simp only [Act.put,z0_,z1_,z2_,i64_w,i32_w];rfl
                   refine pure_ (i:=27) (N:=some 125) (v:=?_) (a':=?_) #[T0,T0,T0,T0,T0,T0,T0,T0,T0,T0,T0,T0,T0,T0,T0,T0,T0,T0,T0,T0,T0,T0,T0,T0,T0,T0,F0,T0,F0,F0,F0,F0,F0,F0,F0,F0,F0,F0,F0,F0] rfl rfl (any_of HT_.out (by kernel_rfl)) (fun _ _ _ h => h) (Or.inl ⟨by rfl,?_⟩) ?_ ?_
                   rotate_left
                   · intro w';go_simp;with_reducible rfl
                   rotate_left
                   · simp only [Act.put,z0_,z1_,z2_,i64_w,i32_w];rfl
                   refine pure_ (i:=31) (N:=some 129) (v:=?_) (a':=?_) #[T0,T0,T0,T0,T0,T0,T0,T0,T0,T0,T0,T0,T0,T0,T0,T0,T0,T0,T0,T0,T0,T0,T0,T0,T0,T0,F0,T0,F0,F0,F0,T0,F0,F0,F0,F0,F0,F0,F0,F0] rfl rfl (any_of HT_.out (by kernel_rfl)) (fun _ _ _ h => h) (Or.inl ⟨by rfl,?_⟩) ?_ ?_
                   rotate_left
                   · intro w';go_simp;with_reducible rfl
                   rotate_left
                   · simp only [Act.put,z0_,z1_,z2_,i64_w,i32_w];rfl
                   refine pure_ (i:=33) (N:=some 131) (v:=?_) (a':=?_) #[T0,T0,T0,T0,T0,T0,T0,T0,T0,T0,T0,T0,T0,T0,T0,T0,T0,T0,T0,T0,T0,T0,T0,T0,T0,T0,F0,T0,F0,F0,F0,T0,F0,T0,F0,F0,F0,F0,F0,F0] rfl rfl (any_of HT_.out (by kernel_rfl)) (fun _ _ _ h => h) (Or.inl ⟨by rfl,?_⟩) ?_ ?_
                   rotate_left
                   · intro w';go_simp;with_reducible rfl
                   rotate_left
                   · simp only [Act.put,z0_,z1_,z2_,i64_w,i32_w];rfl
                   refine take_ (i:=26) (N:=some 124) (v:=?_) (a':=?_) #[T0,T0,T0,T0,T0,T0,T0,T0,T0,T0,T0,T0,T0,T0,T0,T0,T0,T0,T0,T0,T0,T0,T0,T0,T0,T0,T0,T0,F0,F0,F0,T0,F0,T0,F0,F0,F0,F0,F0,F0] rfl rfl (take_ofW HT_.out HW_.out (by kernel_rfl)) (fun _ _ _ h => h) (Or.inl ⟨by rfl,?_⟩) hHeld ?_ ?_
                   rotate_left
                   ·
                    rintro w' ⟨s0,s1,s2,s3,s4,s5,s6,s7,s8,s9,s10,s11,s12,s13,s14,s15,s16,s17⟩
                    go_simp;with_reducible rfl
                   rotate_left
                   · simp only [Act.put,z0_,z1_,z2_,i64_w,i32_w];rfl
                   refine pure_ (i:=28) (N:=some 126) (v:=?_) (a':=?_) #[T0,T0,T0,T0,T0,T0,T0,T0,T0,T0,T0,T0,T0,T0,T0,T0,T0,T0,T0,T0,T0,T0,T0,T0,T0,T0,T0,T0,T0,F0,F0,T0,F0,T0,F0,F0,F0,F0,F0,F0] rfl rfl (any_of HT_.out (by kernel_rfl)) (fun _ _ _ h => h) (Or.inl ⟨by rfl,?_⟩) ?_ ?_
                   rotate_left
                   · intro w';go_simp;with_reducible rfl
                   rotate_left
                   · simp only [Act.put,z0_,z1_,z2_,i64_w,i32_w];rfl
                   refine pure_ (i:=29) (N:=some 127) (v:=?_) (a':=?_) #[T0,T0,T0,T0,T0,T0,T0,T0,T0,T0,T0,T0,T0,T0,T0,T0,T0,T0,T0,T0,T0,T0,T0,T0,T0,T0,T0,T0,T0,T0,F0,T0,F0,T0,F0,F0,F0,F0,F0,F0] rfl rfl (any_of HT_.out (by kernel_rfl)) (fun _ _ _ h => h) (Or.inl ⟨by rfl,?_⟩) ?_ ?_
                   rotate_left
                   · intro w';go_simp;with_reducible rfl
                   rotate_left
                   · simp only [Act.put,z0_,z1_,z2_,i64_w,i32_w];rfl
                   refine take_ (i:=30) (N:=some 128) (v:=?_) (a':=?_) #[T0,T0,T0,T0,T0,T0,T0,T0,T0,T0,T0,T0,T0,T0,T0,T0,T0,T0,T0,T0,T0,T0,T0,T0,T0,T0,T0,T0,T0,T0,T0,T0,F0,T0,F0,F0,F0,F0,F0,F0] rfl rfl (take_ofW HT_.out HW_.out (by kernel_rfl)) (fun _ _ _ h => h) (Or.inl ⟨by rfl,?_⟩) hHeld ?_ ?_
                   rotate_left
                   ·
                    rintro w' ⟨s0,s1,s2,s3,s4,s5,s6,s7,s8,s9,s10,s11,s12,s13,s14,s15,s16,s17⟩
                    go_simp;with_reducible rfl
                   rotate_left
                   · simp only [Act.put,z0_,z1_,z2_,i64_w,i32_w];rfl
                   refine take_ (i:=32) (N:=some 130) (v:=?_) (a':=?_) #[T0,T0,T0,T0,T0,T0,T0,T0,T0,T0,T0,T0,T0,T0,T0,T0,T0,T0,T0,T0,T0,T0,T0,T0,T0,T0,T0,T0,T0,T0,T0,T0,T0,T0,F0,F0,F0,F0,F0,F0] rfl rfl (take_ofW HT_.out HW_.out (by kernel_rfl)) (fun _ _ _ h => h) (Or.inl ⟨by rfl,?_⟩) hHeld ?_ ?_
                   rotate_left
                   ·
                    rintro w' ⟨s0,s1,s2,s3,s4,s5,s6,s7,s8,s9,s10,s11,s12,s13,s14,s15,s16,s17⟩
                    go_simp;with_reducible rfl
                   rotate_left
                   · simp only [Act.put,z0_,z1_,z2_,i64_w,i32_w];rfl
                   refine pure_ (i:=34) (N:=some 132) (v:=?_) (a':=?_) #[T0,T0,T0,T0,T0,T0,T0,T0,T0,T0,T0,T0,T0,T0,T0,T0,T0,T0,T0,T0,T0,T0,T0,T0,T0,T0,T0,T0,T0,T0,T0,T0,T0,T0,T0,F0,F0,F0,F0,F0] rfl rfl (any_of HT_.out (by kernel_rfl)) (fun _ _ _ h => h) (Or.inl ⟨by rfl,?_⟩) ?_ ?_
                   rotate_left
                   · intro w';go_simp;with_reducible rfl
                   rotate_left
                   · simp only [Act.put,z0_,z1_,z2_,i64_w,i32_w];rfl
                   refine pure_ (i:=35) (N:=some 133) (v:=?_) (a':=?_) #[T0,T0,T0,T0,T0,T0,T0,T0,T0,T0,T0,T0,T0,T0,T0,T0,T0,T0,T0,T0,T0,T0,T0,T0,T0,T0,T0,T0,T0,T0,T0,T0,T0,T0,T0,T0,F0,F0,F0,F0] rfl rfl (any_of HT_.out (by kernel_rfl)) (fun _ _ _ h => h) (Or.inl ⟨by rfl,?_⟩) ?_ ?_
                   rotate_left
                   · intro w';go_simp;with_reducible rfl
                   rotate_left
                   · simp only [Act.put,z0_,z1_,z2_,i64_w,i32_w];rfl
                   refine take_ (i:=36) (N:=some 134) (v:=?_) (a':=?_) #[T0,T0,T0,T0,T0,T0,T0,T0,T0,T0,T0,T0,T0,T0,T0,T0,T0,T0,T0,T0,T0,T0,T0,T0,T0,T0,T0,T0,T0,T0,T0,T0,T0,T0,T0,T0,T0,F0,F0,F0] rfl rfl (take_ofW HT_.out HW_.out (by kernel_rfl)) (fun _ _ _ h => h) (Or.inl ⟨by rfl,?_⟩) hHeld ?_ ?_
                   rotate_left
                   ·
                    rintro w' ⟨s0,s1,s2,s3,s4,s5,s6,s7,s8,s9,s10,s11,s12,s13,s14,s15,s16,s17⟩
                    go_simp;with_reducible rfl
                   rotate_left
                   · simp only [Act.put,z0_,z1_,z2_,i64_w,i32_w];rfl
                   refine pure_ (i:=37) (N:=some 135) (v:=?_) (a':=?_) #[T0,T0,T0,T0,T0,T0,T0,T0,T0,T0,T0,T0,T0,T0,T0,T0,T0,T0,T0,T0,T0,T0,T0,T0,T0,T0,T0,T0,T0,T0,T0,T0,T0,T0,T0,T0,T0,T0,F0,F0] rfl rfl (any_of HT_.out (by kernel_rfl)) (fun _ _ _ h => h) (Or.inl ⟨by rfl,?_⟩) ?_ ?_
                   rotate_left
                   · intro w';go_simp;with_reducible rfl
                   rotate_left
                   · simp only [Act.put,z0_,z1_,z2_,i64_w,i32_w];rfl
                   refine pure_ (i:=38) (N:=some 136) (v:=?_) (a':=?_) #[T0,T0,T0,T0,T0,T0,T0,T0,T0,T0,T0,T0,T0,T0,T0,T0,T0,T0,T0,T0,T0,T0,T0,T0,T0,T0,T0,T0,T0,T0,T0,T0,T0,T0,T0,T0,T0,T0,T0,F0] rfl rfl (any_of HT_.out (by kernel_rfl)) (fun _ _ _ h => h) (Or.inl ⟨by rfl,?_⟩) ?_ ?_
                   rotate_left
                   · intro w';go_simp;with_reducible rfl
                   rotate_left
                   · simp only [Act.put,z0_,z1_,z2_,i64_w,i32_w];rfl
                   refine pure_ (i:=39) (N:=some 137) (v:=?_) (a':=?_) #[T0,T0,T0,T0,T0,T0,T0,T0,T0,T0,T0,T0,T0,T0,T0,T0,T0,T0,T0,T0,T0,T0,T0,T0,T0,T0,T0,T0,T0,T0,T0,T0,T0,T0,T0,T0,T0,T0,T0,T0] rfl rfl (any_of HT_.out (by kernel_rfl)) (fun _ _ _ h => h) (Or.inl ⟨by rfl,?_⟩) ?_ ?_
                   rotate_left
                   · intro w';go_simp;with_reducible rfl
                   rotate_left
                   · simp only [Act.put,z0_,z1_,z2_,i64_w,i32_w];rfl
                   refine done_ (done_of HT_.out (by kernel_rfl)) ?_
                   try go_wp2
                   (first | go_meet | (refine Met.intro ?_;go_step;(repeat apply Exists.intro);refine ⟨?rel,by first | rw [c47b1] | (rw [c47b1];rfl)⟩))
                   case rel => exact ⟨_,(decide (((rd_T34 l0_0 x74_4).f2) < ((rd_T34 l0_0 t430).f2))),(by first | rfl | (simp;done) | (simp [*];done)),H',⟨by have:=HJ1.out;have:=HJ14.out;have:=HK3.out;have:=HK4.out;first | omega | exact Nat.le_refl _⟩,⟨by (try simp only [hl4_3]);(with_reducible repeat (first | apply Kd.R_alloc | apply Kd.R_drewN | apply Kd.R_drew));exact HO_4.out⟩,⟨by (try simp only [hl4_3]);(with_reducible repeat (first | refine blk_drewN ?_ _ | refine blk_drew ?_ | refine blk_alloc ?_ _));exact BK426.out⟩,⟨by repeat (first | (with_reducible first | exact HB.out | apply b0_ | apply b1_ | apply b2_ | refine below_set ?_ GE426.out) | exact HB.out)⟩⟩
                  rw [if_pos c57] at H;have c57b0 : (t440 == 0) = true:=beq_iff_eq.mpr c57;have c57b1 : (t440 != 0) = false:=bne_eq_false_iff_eq.mpr c57;clear c57;have H':=Aside0.mk H;clear H
                  try go_wp2
                  have n0_:=Aside0.mk (Kd.R_drew HO_4.out);have n1_:=Aside0.mk (blk_drew BK426.out);have n2_:=Aside0.mk (b2_ HB.out);clear HO_4;clear BK426;clear HB;have HO_4:=n0_;have BK426:=n1_;have HB:=n2_;clear n0_ n1_ n2_
                  refine start_ (n:=40) (S:=fun w' => True) (ds:=[]) #[F0,F0,F0,F0,F0,F0,F0,F0,F0,F0,F0,F0,F0,F0,F0,F0,F0,F0,F0,F0,F0,F0,F0,F0,F0,F0,F0,F0,F0,F0,F0,F0,F0,F0,F0,F0,F0,F0,F0,F0] (by kernel_rfl) rfl rfl trivial (fun hHeld => ?_);refine with_tabW estoverslaw39_ReclaimplanOldest.tab18 estoverslaw39_ReclaimplanOldest.bits18 (fun HT_ HW_ => ?_);generalize w46.drew = w58 at HO_4 BK426 HB hHeld ⊢
                  refine pure_ (i:=0) (N:=some 98) (v:=?_) (a':=?_) #[T0,F0,F0,F0,F0,F0,F0,F0,F0,F0,F0,F0,F0,F0,F0,F0,F0,F0,F0,F0,F0,F0,F0,F0,F0,F0,F0,F0,F0,F0,F0,F0,F0,F0,F0,F0,F0,F0,F0,F0] rfl rfl (any_of HT_.out (by kernel_rfl)) (fun _ _ _ h => h) (Or.inl ⟨by rfl,?_⟩) ?_ ?_
                  rotate_left
                  · intro w';go_simp;with_reducible rfl
                  rotate_left
                  · simp only [Act.put,z0_,z1_,z2_,i64_w,i32_w];rfl
                  refine pure_ (i:=1) (N:=some 99) (v:=?_) (a':=?_) #[T0,T0,F0,F0,F0,F0,F0,F0,F0,F0,F0,F0,F0,F0,F0,F0,F0,F0,F0,F0,F0,F0,F0,F0,F0,F0,F0,F0,F0,F0,F0,F0,F0,F0,F0,F0,F0,F0,F0,F0] rfl rfl (any_of HT_.out (by kernel_rfl)) (fun _ _ _ h => h) (Or.inl ⟨by rfl,?_⟩) ?_ ?_
                  rotate_left
                  · intro w';go_simp;with_reducible rfl
                  rotate_left
                  · simp only [Act.put,z0_,z1_,z2_,i64_w,i32_w];rfl
                  refine pure_ (i:=2) (N:=some 100) (v:=?_) (a':=?_) #[T0,T0,T0,F0,F0,F0,F0,F0,F0,F0,F0,F0,F0,F0,F0,F0,F0,F0,F0,F0,F0,F0,F0,F0,F0,F0,F0,F0,F0,F0,F0,F0,F0,F0,F0,F0,F0,F0,F0,F0] rfl rfl (any_of HT_.out (by kernel_rfl)) (fun _ _ _ h => h) (Or.inl ⟨by rfl,?_⟩) ?_ ?_
                  rotate_left
                  · intro w';go_simp;with_reducible rfl
                  rotate_left
                  · simp only [Act.put,z0_,z1_,z2_,i64_w,i32_w];rfl
                  refine pure_ (i:=3) (N:=some 101) (v:=undef) (a':=?_) #[T0,T0,T0,T0,F0,F0,F0,F0,F0,F0,F0,F0,F0,F0,F0,F0,F0,F0,F0,F0,F0,F0,F0,F0,F0,F0,F0,F0,F0,F0,F0,F0,F0,F0,F0,F0,F0,F0,F0,F0] rfl rfl (any_of HT_.out (by kernel_rfl)) (fun _ _ _ h => h) (Or.inr ⟨by rfl,rfl⟩) ?_ ?_
                  rotate_left
                  · simp only [Act.put,z0_,z1_,z2_,i64_w,i32_w];rfl
                  refine pure_ (i:=4) (N:=some 102) (v:=undef) (a':=?_) #[T0,T0,T0,T0,T0,F0,F0,F0,F0,F0,F0,F0,F0,F0,F0,F0,F0,F0,F0,F0,F0,F0,F0,F0,F0,F0,F0,F0,F0,F0,F0,F0,F0,F0,F0,F0,F0,F0,F0,F0] rfl rfl (any_of HT_.out (by kernel_rfl)) (fun _ _ _ h => h) (Or.inr ⟨by rfl,rfl⟩) ?_ ?_
                  rotate_left
                  · simp only [Act.put,z0_,z1_,z2_,i64_w,i32_w];rfl
                  refine pure_ (i:=5) (N:=some 103) (v:=undef) (a':=?_) #[T0,T0,T0,T0,T0,T0,F0,F0,F0,F0,F0,F0,F0,F0,F0,F0,F0,F0,F0,F0,F0,F0,F0,F0,F0,F0,F0,F0,F0,F0,F0,F0,F0,F0,F0,F0,F0,F0,F0,F0] rfl rfl (any_of HT_.out (by kernel_rfl)) (fun _ _ _ h => h) (Or.inr ⟨by rfl,rfl⟩) ?_ ?_
                  rotate_left
                  · simp only [Act.put,z0_,z1_,z2_,i64_w,i32_w];rfl
                  refine pure_ (i:=6) (N:=some 104) (v:=undef) (a':=?_) #[T0,T0,T0,T0,T0,T0,T0,F0,F0,F0,F0,F0,F0,F0,F0,F0,F0,F0,F0,F0,F0,F0,F0,F0,F0,F0,F0,F0,F0,F0,F0,F0,F0,F0,F0,F0,F0,F0,F0,F0] rfl rfl (any_of HT_.out (by kernel_rfl)) (fun _ _ _ h => h) (Or.inr ⟨by rfl,rfl⟩) ?_ ?_
                  rotate_left
                  · simp only [Act.put,z0_,z1_,z2_,i64_w,i32_w];rfl
                  refine pure_ (i:=7) (N:=some 105) (v:=undef) (a':=?_) #[T0,T0,T0,T0,T0,T0,T0,T0,F0,F0,F0,F0,F0,F0,F0,F0,F0,F0,F0,F0,F0,F0,F0,F0,F0,F0,F0,F0,F0,F0,F0,F0,F0,F0,F0,F0,F0,F0,F0,F0] rfl rfl (any_of HT_.out (by kernel_rfl)) (fun _ _ _ h => h) (Or.inr ⟨by rfl,rfl⟩) ?_ ?_
                  rotate_left
                  · simp only [Act.put,z0_,z1_,z2_,i64_w,i32_w];rfl
                  refine pure_ (i:=8) (N:=some 106) (v:=undef) (a':=?_) #[T0,T0,T0,T0,T0,T0,T0,T0,T0,F0,F0,F0,F0,F0,F0,F0,F0,F0,F0,F0,F0,F0,F0,F0,F0,F0,F0,F0,F0,F0,F0,F0,F0,F0,F0,F0,F0,F0,F0,F0] rfl rfl (any_of HT_.out (by kernel_rfl)) (fun _ _ _ h => h) (Or.inr ⟨by rfl,rfl⟩) ?_ ?_
                  rotate_left
                  · simp only [Act.put,z0_,z1_,z2_,i64_w,i32_w];rfl
                  refine pure_ (i:=9) (N:=some 107) (v:=undef) (a':=?_) #[T0,T0,T0,T0,T0,T0,T0,T0,T0,T0,F0,F0,F0,F0,F0,F0,F0,F0,F0,F0,F0,F0,F0,F0,F0,F0,F0,F0,F0,F0,F0,F0,F0,F0,F0,F0,F0,F0,F0,F0] rfl rfl (any_of HT_.out (by kernel_rfl)) (fun _ _ _ h => h) (Or.inr ⟨by rfl,rfl⟩) ?_ ?_
                  rotate_left
                  · simp only [Act.put,z0_,z1_,z2_,i64_w,i32_w];rfl
                  refine pure_ (i:=10) (N:=some 108) (v:=undef) (a':=?_) #[T0,T0,T0,T0,T0,T0,T0,T0,T0,T0,T0,F0,F0,F0,F0,F0,F0,F0,F0,F0,F0,F0,F0,F0,F0,F0,F0,F0,F0,F0,F0,F0,F0,F0,F0,F0,F0,F0,F0,F0] rfl rfl (any_of HT_.out (by kernel_rfl)) (fun _ _ _ h => h) (Or.inr ⟨by rfl,rfl⟩) ?_ ?_
                  rotate_left
                  · simp only [Act.put,z0_,z1_,z2_,i64_w,i32_w];rfl
                  refine pure_ (i:=11) (N:=some 109) (v:=undef) (a':=?_) #[T0,T0,T0,T0,T0,T0,T0,T0,T0,T0,T0,T0,F0,F0,F0,F0,F0,F0,F0,F0,F0,F0,F0,F0,F0,F0,F0,F0,F0,F0,F0,F0,F0,F0,F0,F0,F0,F0,F0,F0] rfl rfl (any_of HT_.out (by kernel_rfl)) (fun _ _ _ h => h) (Or.inr ⟨by rfl,rfl⟩) ?_ ?_
                  rotate_left
                  · simp only [Act.put,z0_,z1_,z2_,i64_w,i32_w];rfl
                  refine pure_ (i:=12) (N:=some 110) (v:=undef) (a':=?_) #[T0,T0,T0,T0,T0,T0,T0,T0,T0,T0,T0,T0,T0,F0,F0,F0,F0,F0,F0,F0,F0,F0,F0,F0,F0,F0,F0,F0,F0,F0,F0,F0,F0,F0,F0,F0,F0,F0,F0,F0] rfl rfl (any_of HT_.out (by kernel_rfl)) (fun _ _ _ h => h) (Or.inr ⟨by rfl,rfl⟩) ?_ ?_
                  rotate_left
                  · simp only [Act.put,z0_,z1_,z2_,i64_w,i32_w];rfl
                  refine pure_ (i:=13) (N:=some 111) (v:=undef) (a':=?_) #[T0,T0,T0,T0,T0,T0,T0,T0,T0,T0,T0,T0,T0,T0,F0,F0,F0,F0,F0,F0,F0,F0,F0,F0,F0,F0,F0,F0,F0,F0,F0,F0,F0,F0,F0,F0,F0,F0,F0,F0] rfl rfl (any_of HT_.out (by kernel_rfl)) (fun _ _ _ h => h) (Or.inr ⟨by rfl,rfl⟩) ?_ ?_
                  rotate_left
                  · simp only [Act.put,z0_,z1_,z2_,i64_w,i32_w];rfl
                  refine pure_ (i:=14) (N:=some 112) (v:=undef) (a':=?_) #[T0,T0,T0,T0,T0,T0,T0,T0,T0,T0,T0,T0,T0,T0,T0,F0,F0,F0,F0,F0,F0,F0,F0,F0,F0,F0,F0,F0,F0,F0,F0,F0,F0,F0,F0,F0,F0,F0,F0,F0] rfl rfl (any_of HT_.out (by kernel_rfl)) (fun _ _ _ h => h) (Or.inr ⟨by rfl,rfl⟩) ?_ ?_
                  rotate_left
                  · simp only [Act.put,z0_,z1_,z2_,i64_w,i32_w];rfl
                  refine pure_ (i:=15) (N:=some 113) (v:=undef) (a':=?_) #[T0,T0,T0,T0,T0,T0,T0,T0,T0,T0,T0,T0,T0,T0,T0,T0,F0,F0,F0,F0,F0,F0,F0,F0,F0,F0,F0,F0,F0,F0,F0,F0,F0,F0,F0,F0,F0,F0,F0,F0] rfl rfl (any_of HT_.out (by kernel_rfl)) (fun _ _ _ h => h) (Or.inr ⟨by rfl,rfl⟩) ?_ ?_
                  rotate_left
                  · simp only [Act.put,z0_,z1_,z2_,i64_w,i32_w];rfl
                  refine pure_ (i:=16) (N:=some 114) (v:=undef) (a':=?_) #[T0,T0,T0,T0,T0,T0,T0,T0,T0,T0,T0,T0,T0,T0,T0,T0,T0,F0,F0,F0,F0,F0,F0,F0,F0,F0,F0,F0,F0,F0,F0,F0,F0,F0,F0,F0,F0,F0,F0,F0] rfl rfl (any_of HT_.out (by kernel_rfl)) (fun _ _ _ h => h) (Or.inr ⟨by rfl,rfl⟩) ?_ ?_
                  rotate_left
                  · simp only [Act.put,z0_,z1_,z2_,i64_w,i32_w];rfl
                  refine pure_ (i:=17) (N:=some 115) (v:=undef) (a':=?_) #[T0,T0,T0,T0,T0,T0,T0,T0,T0,T0,T0,T0,T0,T0,T0,T0,T0,T0,F0,F0,F0,F0,F0,F0,F0,F0,F0,F0,F0,F0,F0,F0,F0,F0,F0,F0,F0,F0,F0,F0] rfl rfl (any_of HT_.out (by kernel_rfl)) (fun _ _ _ h => h) (Or.inr ⟨by rfl,rfl⟩) ?_ ?_
                  rotate_left
                  · simp only [Act.put,z0_,z1_,z2_,i64_w,i32_w];rfl
                  refine pure_ (i:=18) (N:=some 116) (v:=undef) (a':=?_) #[T0,T0,T0,T0,T0,T0,T0,T0,T0,T0,T0,T0,T0,T0,T0,T0,T0,T0,T0,F0,F0,F0,F0,F0,F0,F0,F0,F0,F0,F0,F0,F0,F0,F0,F0,F0,F0,F0,F0,F0] rfl rfl (any_of HT_.out (by kernel_rfl)) (fun _ _ _ h => h) (Or.inr ⟨by rfl,rfl⟩) ?_ ?_
                  rotate_left
                  · simp only [Act.put,z0_,z1_,z2_,i64_w,i32_w];rfl
                  refine pure_ (i:=19) (N:=some 117) (v:=undef) (a':=?_) #[T0,T0,T0,T0,T0,T0,T0,T0,T0,T0,T0,T0,T0,T0,T0,T0,T0,T0,T0,T0,F0,F0,F0,F0,F0,F0,F0,F0,F0,F0,F0,F0,F0,F0,F0,F0,F0,F0,F0,F0] rfl rfl (any_of HT_.out (by kernel_rfl)) (fun _ _ _ h => h) (Or.inr ⟨by rfl,rfl⟩) ?_ ?_
                  rotate_left
                  · simp only [Act.put,z0_,z1_,z2_,i64_w,i32_w];rfl
                  refine pure_ (i:=20) (N:=some 118) (v:=?_) (a':=?_) #[T0,T0,T0,T0,T0,T0,T0,T0,T0,T0,T0,T0,T0,T0,T0,T0,T0,T0,T0,T0,T0,F0,F0,F0,F0,F0,F0,F0,F0,F0,F0,F0,F0,F0,F0,F0,F0,F0,F0,F0] rfl rfl (any_of HT_.out (by kernel_rfl)) (fun _ _ _ h => h) (Or.inl ⟨by rfl,?_⟩) ?_ ?_
                  rotate_left
                  · intro w';go_simp;with_reducible rfl
                  rotate_left
                  · simp only [Act.put,z0_,z1_,z2_,i64_w,i32_w];rfl
                  refine pure_ (i:=21) (N:=some 119) (v:=?_) (a':=?_) #[T0,T0,T0,T0,T0,T0,T0,T0,T0,T0,T0,T0,T0,T0,T0,T0,T0,T0,T0,T0,T0,T0,F0,F0,F0,F0,F0,F0,F0,F0,F0,F0,F0,F0,F0,F0,F0,F0,F0,F0] rfl rfl (any_of HT_.out (by kernel_rfl)) (fun _ _ _ h => h) (Or.inl ⟨by rfl,?_⟩) ?_ ?_
                  rotate_left
                  · intro w';go_simp;with_reducible rfl
                  rotate_left
                  · simp only [Act.put,z0_,z1_,z2_,i64_w,i32_w];rfl
                  refine pure_ (i:=22) (N:=some 120) (v:=?_) (a':=?_) #[T0,T0,T0,T0,T0,T0,T0,T0,T0,T0,T0,T0,T0,T0,T0,T0,T0,T0,T0,T0,T0,T0,T0,F0,F0,F0,F0,F0,F0,F0,F0,F0,F0,F0,F0,F0,F0,F0,F0,F0] rfl rfl (any_of HT_.out (by kernel_rfl)) (fun _ _ _ h => h) (Or.inl ⟨by rfl,?_⟩) ?_ ?_
                  rotate_left
                  · intro w';go_simp;with_reducible rfl
                  rotate_left
                  · simp only [Act.put,z0_,z1_,z2_,i64_w,i32_w];rfl
                  refine pure_ (i:=23) (N:=some 121) (v:=?_) (a':=?_) #[T0,T0,T0,T0,T0,T0,T0,T0,T0,T0,T0,T0,T0,T0,T0,T0,T0,T0,T0,T0,T0,T0,T0,T0,F0,F0,F0,F0,F0,F0,F0,F0,F0,F0,F0,F0,F0,F0,F0,F0] rfl rfl (any_of HT_.out (by kernel_rfl)) (fun _ _ _ h => h) (Or.inl ⟨by rfl,?_⟩) ?_ ?_
                  rotate_left
                  · intro w';go_simp;with_reducible rfl
                  rotate_left
                  · simp only [Act.put,z0_,z1_,z2_,i64_w,i32_w];rfl
                  refine pure_ (i:=24) (N:=some 122) (v:=?_) (a':=?_) #[T0,T0,T0,T0,T0,T0,T0,T0,T0,T0,T0,T0,T0,T0,T0,T0,T0,T0,T0,T0,T0,T0,T0,T0,T0,F0,F0,F0,F0,F0,F0,F0,F0,F0,F0,F0,F0,F0,F0,F0] rfl rfl (any_of HT_.out (by kernel_rfl)) (fun _ _ _ h => h) (Or.inl ⟨by rfl,?_⟩) ?_ ?_
                  rotate_left
                  · intro w';go_simp;with_reducible rfl
                  rotate_left
                  · simp only [Act.put,z0_,z1_,z2_,i64_w,i32_w];rfl
                  refine pure_ (i:=25) (N:=some 123) (v:=undef) (a':=?_) #[T0,T0,T0,T0,T0,T0,T0,T0,T0,T0,T0,T0,T0,T0,T0,T0,T0,T0,T0,T0,T0,T0,T0,T0,T0,T0,F0,F0,F0,F0,F0,F0,F0,F0,F0,F0,F0,F0,F0,F0] rfl rfl (any_of HT_.out (by kernel_rfl)) (fun _ _ _ h => h) (Or.inr ⟨by rfl,rfl⟩) ?_ ?_
                  rotate_left
                  · simp only [Act.put,z0_,z1_,z2_,i64_w,i32_w];rfl
                  refine pure_ (i:=26) (N:=some 124) (v:=undef) (a':=?_) #[T0,T0,T0,T0,T0,T0,T0,T0,T0,T0,T0,T0,T0,T0,T0,T0,T0,T0,T0,T0,T0,T0,T0,T0,T0,T0,T0,F0,F0,F0,F0,F0,F0,F0,F0,F0,F0,F0,F0,F0] rfl rfl (any_of HT_.out (by kernel_rfl)) (fun _ _ _ h => h) (Or.inr ⟨by rfl,rfl⟩) ?_ ?_
                  rotate_left
                  · simp only [Act.put,z0_,z1_,z2_,i64_w,i32_w];rfl
                  refine pure_ (i:=27) (N:=some 125) (v:=undef) (a':=?_) #[T0,T0,T0,T0,T0,T0,T0,T0,T0,T0,T0,T0,T0,T0,T0,T0,T0,T0,T0,T0,T0,T0,T0,T0,T0,T0,T0,T0,F0,F0,F0,F0,F0,F0,F0,F0,F0,F0,F0,F0] rfl rfl (any_of HT_.out (by kernel_rfl)) (fun _ _ _ h => h) (Or.inr ⟨by rfl,rfl⟩) ?_ ?_
                  rotate_left
                  · simp only [Act.put,z0_,z1_,z2_,i64_w,i32_w];rfl
                  refine pure_ (i:=28) (N:=some 126) (v:=undef) (a':=?_) #[T0,T0,T0,T0,T0,T0,T0,T0,T0,T0,T0,T0,T0,T0,T0,T0,T0,T0,T0,T0,T0,T0,T0,T0,T0,T0,T0,T0,T0,F0,F0,F0,F0,F0,F0,F0,F0,F0,F0,F0] rfl rfl (any_of HT_.out (by kernel_rfl)) (fun _ _ _ h => h) (Or.inr ⟨by rfl,rfl⟩) ?_ ?_
                  rotate_left
                  · simp only [Act.put,z0_,z1_,z2_,i64_w,i32_w];rfl
                  refine pure_ (i:=29) (N:=some 127) (v:=undef) (a':=?_) #[T0,T0,T0,T0,T0,T0,T0,T0,T0,T0,T0,T0,T0,T0,T0,T0,T0,T0,T0,T0,T0,T0,T0,T0,T0,T0,T0,T0,T0,T0,F0,F0,F0,F0,F0,F0,F0,F0,F0,F0] rfl rfl (any_of HT_.out (by kernel_rfl)) (fun _ _ _ h => h) (Or.inr ⟨by rfl,rfl⟩) ?_ ?_
                  rotate_left
                  · simp only [Act.put,z0_,z1_,z2_,i64_w,i32_w];rfl
                  refine pure_ (i:=30) (N:=some 128) (v:=undef) (a':=?_) #[T0,T0,T0,T0,T0,T0,T0,T0,T0,T0,T0,T0,T0,T0,T0,T0,T0,T0,T0,T0,T0,T0,T0,T0,T0,T0,T0,T0,T0,T0,T0,F0,F0,F0,F0,F0,F0,F0,F0,F0] rfl rfl (any_of HT_.out (by kernel_rfl)) (fun _ _ _ h => h) (Or.inr ⟨by rfl,rfl⟩) ?_ ?_
                  rotate_left
                  · simp only [Act.put,z0_,z1_,z2_,i64_w,i32_w];rfl
                  refine pure_ (i:=31) (N:=some 129) (v:=undef) (a':=?_) #[T0,T0,T0,T0,T0,T0,T0,T0,T0,T0,T0,T0,T0,T0,T0,T0,T0,T0,T0,T0,T0,T0,T0,T0,T0,T0,T0,T0,T0,T0,T0,T0,F0,F0,F0,F0,F0,F0,F0,F0] rfl rfl (any_of HT_.out (by kernel_rfl)) (fun _ _ _ h => h) (Or.inr ⟨by rfl,rfl⟩) ?_ ?_
                  rotate_left
                  · simp only [Act.put,z0_,z1_,z2_,i64_w,i32_w];rfl
                  refine pure_ (i:=32) (N:=some 130) (v:=undef) (a':=?_) #[T0,T0,T0,T0,T0,T0,T0,T0,T0,T0,T0,T0,T0,T0,T0,T0,T0,T0,T0,T0,T0,T0,T0,T0,T0,T0,T0,T0,T0,T0,T0,T0,T0,F0,F0,F0,F0,F0,F0,F0] rfl rfl (any_of HT_.out (by kernel_rfl)) (fun _ _ _ h => h) (Or.inr ⟨by rfl,rfl⟩) ?_ ?_
                  rotate_left
                  · simp only [Act.put,z0_,z1_,z2_,i64_w,i32_w];rfl
                  refine pure_ (i:=33) (N:=some 131) (v:=undef) (a':=?_) #[T0,T0,T0,T0,T0,T0,T0,T0,T0,T0,T0,T0,T0,T0,T0,T0,T0,T0,T0,T0,T0,T0,T0,T0,T0,T0,T0,T0,T0,T0,T0,T0,T0,T0,F0,F0,F0,F0,F0,F0] rfl rfl (any_of HT_.out (by kernel_rfl)) (fun _ _ _ h => h) (Or.inr ⟨by rfl,rfl⟩) ?_ ?_
                  rotate_left
                  · simp only [Act.put,z0_,z1_,z2_,i64_w,i32_w];rfl
                  refine pure_ (i:=34) (N:=some 132) (v:=undef) (a':=?_) #[T0,T0,T0,T0,T0,T0,T0,T0,T0,T0,T0,T0,T0,T0,T0,T0,T0,T0,T0,T0,T0,T0,T0,T0,T0,T0,T0,T0,T0,T0,T0,T0,T0,T0,T0,F0,F0,F0,F0,F0] rfl rfl (any_of HT_.out (by kernel_rfl)) (fun _ _ _ h => h) (Or.inr ⟨by rfl,rfl⟩) ?_ ?_
                  rotate_left
                  · simp only [Act.put,z0_,z1_,z2_,i64_w,i32_w];rfl
                  refine pure_ (i:=35) (N:=some 133) (v:=undef) (a':=?_) #[T0,T0,T0,T0,T0,T0,T0,T0,T0,T0,T0,T0,T0,T0,T0,T0,T0,T0,T0,T0,T0,T0,T0,T0,T0,T0,T0,T0,T0,T0,T0,T0,T0,T0,T0,T0,F0,F0,F0,F0] rfl rfl (any_of HT_.out (by kernel_rfl)) (fun _ _ _ h => h) (Or.inr ⟨by rfl,rfl⟩) ?_ ?_
                  rotate_left
                  · simp only [Act.put,z0_,z1_,z2_,i64_w,i32_w];rfl
                  refine pure_ (i:=36) (N:=some 134) (v:=undef) (a':=?_) #[T0,T0,T0,T0,T0,T0,T0,T0,T0,T0,T0,T0,T0,T0,T0,T0,T0,T0,T0,T0,T0,T0,T0,T0,T0,T0,T0,T0,T0,T0,T0,T0,T0,T0,T0,T0,T0,F0,F0,F0] rfl rfl (any_of HT_.out (by kernel_rfl)) (fun _ _ _ h => h) (Or.inr ⟨by rfl,rfl⟩) ?_ ?_
                  rotate_left
                  · simp only [Act.put,z0_,z1_,z2_,i64_w,i32_w];rfl
                  refine pure_ (i:=37) (N:=some 135) (v:=undef) (a':=?_) #[T0,T0,T0,T0,T0,T0,T0,T0,T0,T0,T0,T0,T0,T0,T0,T0,T0,T0,T0,T0,T0,T0,T0,T0,T0,T0,T0,T0,T0,T0,T0,T0,T0,T0,T0,T0,T0,T0,F0,F0] rfl rfl (any_of HT_.out (by kernel_rfl)) (fun _ _ _ h => h) (Or.inr ⟨by rfl,rfl⟩) ?_ ?_
                  rotate_left
                  · simp only [Act.put,z0_,z1_,z2_,i64_w,i32_w];rfl
                  refine pure_ (i:=38) (N:=some 136) (v:=?_) (a':=?_) #[T0,T0,T0,T0,T0,T0,T0,T0,T0,T0,T0,T0,T0,T0,T0,T0,T0,T0,T0,T0,T0,T0,T0,T0,T0,T0,T0,T0,T0,T0,T0,T0,T0,T0,T0,T0,T0,T0,T0,F0] rfl rfl (any_of HT_.out (by kernel_rfl)) (fun _ _ _ h => h) (Or.inl ⟨by rfl,?_⟩) ?_ ?_
                  rotate_left
                  · intro w';go_simp;with_reducible rfl
                  rotate_left
                  · simp only [Act.put,z0_,z1_,z2_,i64_w,i32_w];rfl
                  refine pure_ (i:=39) (N:=some 137) (v:=?_) (a':=?_) #[T0,T0,T0,T0,T0,T0,T0,T0,T0,T0,T0,T0,T0,T0,T0,T0,T0,T0,T0,T0,T0,T0,T0,T0,T0,T0,T0,T0,T0,T0,T0,T0,T0,T0,T0,T0,T0,T0,T0,T0] rfl rfl (any_of HT_.out (by kernel_rfl)) (fun _ _ _ h => h) (Or.inl ⟨by rfl,?_⟩) ?_ ?_
                  rotate_left
                  · intro w';go_simp;with_reducible rfl
                  rotate_left
                  · simp only [Act.put,z0_,z1_,z2_,i64_w,i32_w];rfl
                  refine done_ (done_of HT_.out (by kernel_rfl)) ?_
                  try go_wp2
                  (first | go_meet | (refine Met.intro ?_;go_step;(repeat apply Exists.intro);refine ⟨?rel,by first | rw [c47b1] | (rw [c47b1];rfl)⟩))
                  case rel => exact ⟨_,(false),(by first | rfl | (simp;done) | (simp [*];done)),H',⟨by have:=HJ1.out;have:=HJ14.out;have:=HK3.out;have:=HK4.out;first | omega | exact Nat.le_refl _⟩,⟨by (try simp only [hl4_3]);(with_reducible repeat (first | apply Kd.R_alloc | apply Kd.R_drewN | apply Kd.R_drew));exact HO_4.out⟩,⟨by (try simp only [hl4_3]);(with_reducible repeat (first | refine blk_drewN ?_ _ | refine blk_drew ?_ | refine blk_alloc ?_ _));exact BK426.out⟩,⟨by repeat (first | (with_reducible first | exact HB.out | apply b0_ | apply b1_ | apply b2_ | refine below_set ?_ GE426.out) | exact HB.out)⟩⟩
                 rw [if_pos c47] at H;have c47b0 : (t442 == 0) = true:=beq_iff_eq.mpr c47;have c47b1 : (t442 != 0) = false:=bne_eq_false_iff_eq.mpr c47;clear c47
                 (first | rw [c47b0] | (simp only [i64_w,i32_w];rw [c47b0]) | skip)
                 by_cases c48 : t440 = 0
                 rotate_left
                 ·
                  rw [if_neg c48] at H;have c48b0 : (t440 == 0) = false:=beq_eq_false_iff_ne.mpr c48;have c48b1 : (t440 != 0) = true:=bne_iff_ne.mpr c48;have H':=Aside0.mk H;clear H
                  try go_wp2
                  have n0_:=Aside0.mk (Kd.R_drew HO_4.out);have n1_:=Aside0.mk (blk_drew BK426.out);have n2_:=Aside0.mk (b2_ HB.out);clear HO_4;clear BK426;clear HB;have HO_4:=n0_;have BK426:=n1_;have HB:=n2_;clear n0_ n1_ n2_
                  refine start_ (n:=40) (S:=fun w' => True) (ds:=[]) #[F0,F0,F0,F0,F0,F0,F0,F0,F0,F0,F0,F0,F0,F0,F0,F0,F0,F0,F0,F0,F0,F0,F0,F0,F0,F0,F0,F0,F0,F0,F0,F0,F0,F0,F0,F0,F0,F0,F0,F0] (by kernel_rfl) rfl rfl trivial (fun hHeld => ?_);refine with_tabW estoverslaw39_ReclaimplanOldest.tab18 estoverslaw39_ReclaimplanOldest.bits18 (fun HT_ HW_ => ?_);generalize w46.drew = w56 at HO_4 BK426 HB hHeld ⊢
                  refine pure_ (i:=0) (N:=some 98) (v:=?_) (a':=?_) #[T0,F0,F0,F0,F0,F0,F0,F0,F0,F0,F0,F0,F0,F0,F0,F0,F0,F0,F0,F0,F0,F0,F0,F0,F0,F0,F0,F0,F0,F0,F0,F0,F0,F0,F0,F0,F0,F0,F0,F0] rfl rfl (any_of HT_.out (by kernel_rfl)) (fun _ _ _ h => h) (Or.inl ⟨by rfl,?_⟩) ?_ ?_
                  rotate_left
                  · intro w';go_simp;with_reducible rfl
                  rotate_left
                  · simp only [Act.put,z0_,z1_,z2_,i64_w,i32_w];rfl
                  refine pure_ (i:=1) (N:=some 99) (v:=?_) (a':=?_) #[T0,T0,F0,F0,F0,F0,F0,F0,F0,F0,F0,F0,F0,F0,F0,F0,F0,F0,F0,F0,F0,F0,F0,F0,F0,F0,F0,F0,F0,F0,F0,F0,F0,F0,F0,F0,F0,F0,F0,F0] rfl rfl (any_of HT_.out (by kernel_rfl)) (fun _ _ _ h => h) (Or.inl ⟨by rfl,?_⟩) ?_ ?_
                  rotate_left
                  · intro w';go_simp;with_reducible rfl
                  rotate_left
                  · simp only [Act.put,z0_,z1_,z2_,i64_w,i32_w];rfl
                  refine pure_ (i:=2) (N:=some 100) (v:=?_) (a':=?_) #[T0,T0,T0,F0,F0,F0,F0,F0,F0,F0,F0,F0,F0,F0,F0,F0,F0,F0,F0,F0,F0,F0,F0,F0,F0,F0,F0,F0,F0,F0,F0,F0,F0,F0,F0,F0,F0,F0,F0,F0] rfl rfl (any_of HT_.out (by kernel_rfl)) (fun _ _ _ h => h) (Or.inl ⟨by rfl,?_⟩) ?_ ?_
                  rotate_left
                  · intro w';go_simp;with_reducible rfl
                  rotate_left
                  · simp only [Act.put,z0_,z1_,z2_,i64_w,i32_w];rfl
                  refine pure_ (i:=3) (N:=some 101) (v:=?_) (a':=?_) #[T0,T0,T0,T0,F0,F0,F0,F0,F0,F0,F0,F0,F0,F0,F0,F0,F0,F0,F0,F0,F0,F0,F0,F0,F0,F0,F0,F0,F0,F0,F0,F0,F0,F0,F0,F0,F0,F0,F0,F0] rfl rfl (any_of HT_.out (by kernel_rfl)) (fun _ _ _ h => h) (Or.inl ⟨by rfl,?_⟩) ?_ ?_
                  rotate_left
                  · intro w';go_simp;with_reducible rfl
                  rotate_left
                  · simp only [Act.put,z0_,z1_,z2_,i64_w,i32_w];rfl
                  refine pure_ (i:=4) (N:=some 102) (v:=?_) (a':=?_) #[T0,T0,T0,T0,T0,F0,F0,F0,F0,F0,F0,F0,F0,F0,F0,F0,F0,F0,F0,F0,F0,F0,F0,F0,F0,F0,F0,F0,F0,F0,F0,F0,F0,F0,F0,F0,F0,F0,F0,F0] rfl rfl (any_of HT_.out (by kernel_rfl)) (fun _ _ _ h => h) (Or.inl ⟨by rfl,?_⟩) ?_ ?_
                  rotate_left
                  · intro w';go_simp;with_reducible rfl
                  rotate_left
                  · simp only [Act.put,z0_,z1_,z2_,i64_w,i32_w];rfl
                  refine pure_ (i:=5) (N:=some 103) (v:=?_) (a':=?_) #[T0,T0,T0,T0,T0,T0,F0,F0,F0,F0,F0,F0,F0,F0,F0,F0,F0,F0,F0,F0,F0,F0,F0,F0,F0,F0,F0,F0,F0,F0,F0,F0,F0,F0,F0,F0,F0,F0,F0,F0] rfl rfl (any_of HT_.out (by kernel_rfl)) (fun _ _ _ h => h) (Or.inl ⟨by rfl,?_⟩) ?_ ?_
                  rotate_left
                  · intro w';go_simp;with_reducible rfl
                  rotate_left
                  · simp only [Act.put,z0_,z1_,z2_,i64_w,i32_w];rfl
                  refine pure_ (i:=6) (N:=some 104) (v:=undef) (a':=?_) #[T0,T0,T0,T0,T0,T0,T0,F0,F0,F0,F0,F0,F0,F0,F0,F0,F0,F0,F0,F0,F0,F0,F0,F0,F0,F0,F0,F0,F0,F0,F0,F0,F0,F0,F0,F0,F0,F0,F0,F0] rfl rfl (any_of HT_.out (by kernel_rfl)) (fun _ _ _ h => h) (Or.inr ⟨by rfl,rfl⟩) ?_ ?_
                  rotate_left
                  · simp only [Act.put,z0_,z1_,z2_,i64_w,i32_w];rfl
                  refine pure_ (i:=7) (N:=some 105) (v:=undef) (a':=?_) #[T0,T0,T0,T0,T0,T0,T0,T0,F0,F0,F0,F0,F0,F0,F0,F0,F0,F0,F0,F0,F0,F0,F0,F0,F0,F0,F0,F0,F0,F0,F0,F0,F0,F0,F0,F0,F0,F0,F0,F0] rfl rfl (any_of HT_.out (by kernel_rfl)) (fun _ _ _ h => h) (Or.inr ⟨by rfl,rfl⟩) ?_ ?_
                  rotate_left
                  · simp only [Act.put,z0_,z1_,z2_,i64_w,i32_w];rfl
                  refine pure_ (i:=8) (N:=some 106) (v:=undef) (a':=?_) #[T0,T0,T0,T0,T0,T0,T0,T0,T0,F0,F0,F0,F0,F0,F0,F0,F0,F0,F0,F0,F0,F0,F0,F0,F0,F0,F0,F0,F0,F0,F0,F0,F0,F0,F0,F0,F0,F0,F0,F0] rfl rfl (any_of HT_.out (by kernel_rfl)) (fun _ _ _ h => h) (Or.inr ⟨by rfl,rfl⟩) ?_ ?_
                  rotate_left
                  · simp only [Act.put,z0_,z1_,z2_,i64_w,i32_w];rfl
                  refine pure_ (i:=9) (N:=some 107) (v:=undef) (a':=?_) #[T0,T0,T0,T0,T0,T0,T0,T0,T0,T0,F0,F0,F0,F0,F0,F0,F0,F0,F0,F0,F0,F0,F0,F0,F0,F0,F0,F0,F0,F0,F0,F0,F0,F0,F0,F0,F0,F0,F0,F0] rfl rfl (any_of HT_.out (by kernel_rfl)) (fun _ _ _ h => h) (Or.inr ⟨by rfl,rfl⟩) ?_ ?_
                  rotate_left
                  · simp only [Act.put,z0_,z1_,z2_,i64_w,i32_w];rfl
                  refine pure_ (i:=10) (N:=some 108) (v:=undef) (a':=?_) #[T0,T0,T0,T0,T0,T0,T0,T0,T0,T0,T0,F0,F0,F0,F0,F0,F0,F0,F0,F0,F0,F0,F0,F0,F0,F0,F0,F0,F0,F0,F0,F0,F0,F0,F0,F0,F0,F0,F0,F0] rfl rfl (any_of HT_.out (by kernel_rfl)) (fun _ _ _ h => h) (Or.inr ⟨by rfl,rfl⟩) ?_ ?_
                  rotate_left
                  · simp only [Act.put,z0_,z1_,z2_,i64_w,i32_w];rfl
                  refine pure_ (i:=11) (N:=some 109) (v:=undef) (a':=?_) #[T0,T0,T0,T0,T0,T0,T0,T0,T0,T0,T0,T0,F0,F0,F0,F0,F0,F0,F0,F0,F0,F0,F0,F0,F0,F0,F0,F0,F0,F0,F0,F0,F0,F0,F0,F0,F0,F0,F0,F0] rfl rfl (any_of HT_.out (by kernel_rfl)) (fun _ _ _ h => h) (Or.inr ⟨by rfl,rfl⟩) ?_ ?_
                  rotate_left
                  · simp only [Act.put,z0_,z1_,z2_,i64_w,i32_w];rfl
                  refine pure_ (i:=12) (N:=some 110) (v:=undef) (a':=?_) #[T0,T0,T0,T0,T0,T0,T0,T0,T0,T0,T0,T0,T0,F0,F0,F0,F0,F0,F0,F0,F0,F0,F0,F0,F0,F0,F0,F0,F0,F0,F0,F0,F0,F0,F0,F0,F0,F0,F0,F0] rfl rfl (any_of HT_.out (by kernel_rfl)) (fun _ _ _ h => h) (Or.inr ⟨by rfl,rfl⟩) ?_ ?_
                  rotate_left
                  · simp only [Act.put,z0_,z1_,z2_,i64_w,i32_w];rfl
                  refine pure_ (i:=13) (N:=some 111) (v:=undef) (a':=?_) #[T0,T0,T0,T0,T0,T0,T0,T0,T0,T0,T0,T0,T0,T0,F0,F0,F0,F0,F0,F0,F0,F0,F0,F0,F0,F0,F0,F0,F0,F0,F0,F0,F0,F0,F0,F0,F0,F0,F0,F0] rfl rfl (any_of HT_.out (by kernel_rfl)) (fun _ _ _ h => h) (Or.inr ⟨by rfl,rfl⟩) ?_ ?_
                  rotate_left
                  · simp only [Act.put,z0_,z1_,z2_,i64_w,i32_w];rfl
                  refine pure_ (i:=14) (N:=some 112) (v:=undef) (a':=?_) #[T0,T0,T0,T0,T0,T0,T0,T0,T0,T0,T0,T0,T0,T0,T0,F0,F0,F0,F0,F0,F0,F0,F0,F0,F0,F0,F0,F0,F0,F0,F0,F0,F0,F0,F0,F0,F0,F0,F0,F0] rfl rfl (any_of HT_.out (by kernel_rfl)) (fun _ _ _ h => h) (Or.inr ⟨by rfl,rfl⟩) ?_ ?_
                  rotate_left
                  · simp only [Act.put,z0_,z1_,z2_,i64_w,i32_w];rfl
                  refine pure_ (i:=15) (N:=some 113) (v:=undef) (a':=?_) #[T0,T0,T0,T0,T0,T0,T0,T0,T0,T0,T0,T0,T0,T0,T0,T0,F0,F0,F0,F0,F0,F0,F0,F0,F0,F0,F0,F0,F0,F0,F0,F0,F0,F0,F0,F0,F0,F0,F0,F0] rfl rfl (any_of HT_.out (by kernel_rfl)) (fun _ _ _ h => h) (Or.inr ⟨by rfl,rfl⟩) ?_ ?_
                  rotate_left
                  · simp only [Act.put,z0_,z1_,z2_,i64_w,i32_w];rfl
                  refine pure_ (i:=16) (N:=some 114) (v:=undef) (a':=?_) #[T0,T0,T0,T0,T0,T0,T0,T0,T0,T0,T0,T0,T0,T0,T0,T0,T0,F0,F0,F0,F0,F0,F0,F0,F0,F0,F0,F0,F0,F0,F0,F0,F0,F0,F0,F0,F0,F0,F0,F0] rfl rfl (any_of HT_.out (by kernel_rfl)) (fun _ _ _ h => h) (Or.inr ⟨by rfl,rfl⟩) ?_ ?_
                  rotate_left
                  · simp only [Act.put,z0_,z1_,z2_,i64_w,i32_w];rfl
                  refine pure_ (i:=17) (N:=some 115) (v:=undef) (a':=?_) #[T0,T0,T0,T0,T0,T0,T0,T0,T0,T0,T0,T0,T0,T0,T0,T0,T0,T0,F0,F0,F0,F0,F0,F0,F0,F0,F0,F0,F0,F0,F0,F0,F0,F0,F0,F0,F0,F0,F0,F0] rfl rfl (any_of HT_.out (by kernel_rfl)) (fun _ _ _ h => h) (Or.inr ⟨by rfl,rfl⟩) ?_ ?_
                  rotate_left
                  · simp only [Act.put,z0_,z1_,z2_,i64_w,i32_w];rfl
                  refine pure_ (i:=18) (N:=some 116) (v:=undef) (a':=?_) #[T0,T0,T0,T0,T0,T0,T0,T0,T0,T0,T0,T0,T0,T0,T0,T0,T0,T0,T0,F0,F0,F0,F0,F0,F0,F0,F0,F0,F0,F0,F0,F0,F0,F0,F0,F0,F0,F0,F0,F0] rfl rfl (any_of HT_.out (by kernel_rfl)) (fun _ _ _ h => h) (Or.inr ⟨by rfl,rfl⟩) ?_ ?_
                  rotate_left
                  · simp only [Act.put,z0_,z1_,z2_,i64_w,i32_w];rfl
                  refine pure_ (i:=19) (N:=some 117) (v:=?_) (a':=?_) #[T0,T0,T0,T0,T0,T0,T0,T0,T0,T0,T0,T0,T0,T0,T0,T0,T0,T0,T0,T0,F0,F0,F0,F0,F0,F0,F0,F0,F0,F0,F0,F0,F0,F0,F0,F0,F0,F0,F0,F0] rfl rfl (any_of HT_.out (by kernel_rfl)) (fun _ _ _ h => h) (Or.inl ⟨by rfl,?_⟩) ?_ ?_
                  rotate_left
                  · intro w';go_simp;with_reducible rfl
                  rotate_left
                  · simp only [Act.put,z0_,z1_,z2_,i64_w,i32_w];rfl
                  refine pure_ (i:=20) (N:=some 118) (v:=?_) (a':=?_) #[T0,T0,T0,T0,T0,T0,T0,T0,T0,T0,T0,T0,T0,T0,T0,T0,T0,T0,T0,T0,T0,F0,F0,F0,F0,F0,F0,F0,F0,F0,F0,F0,F0,F0,F0,F0,F0,F0,F0,F0] rfl rfl (any_of HT_.out (by kernel_rfl)) (fun _ _ _ h => h) (Or.inl ⟨by rfl,?_⟩) ?_ ?_
                  rotate_left
                  · intro w';go_simp;with_reducible rfl
                  rotate_left
                  · simp only [Act.put,z0_,z1_,z2_,i64_w,i32_w];rfl
                  refine pure_ (i:=21) (N:=some 119) (v:=?_) (a':=?_) #[T0,T0,T0,T0,T0,T0,T0,T0,T0,T0,T0,T0,T0,T0,T0,T0,T0,T0,T0,T0,T0,T0,F0,F0,F0,F0,F0,F0,F0,F0,F0,F0,F0,F0,F0,F0,F0,F0,F0,F0] rfl rfl (any_of HT_.out (by kernel_rfl)) (fun _ _ _ h => h) (Or.inl ⟨by rfl,?_⟩) ?_ ?_
                  rotate_left
                  · intro w';go_simp;with_reducible rfl
                  rotate_left
                  · simp only [Act.put,z0_,z1_,z2_,i64_w,i32_w];rfl
                  refine pure_ (i:=22) (N:=some 120) (v:=undef) (a':=?_) #[T0,T0,T0,T0,T0,T0,T0,T0,T0,T0,T0,T0,T0,T0,T0,T0,T0,T0,T0,T0,T0,T0,T0,F0,F0,F0,F0,F0,F0,F0,F0,F0,F0,F0,F0,F0,F0,F0,F0,F0] rfl rfl (any_of HT_.out (by kernel_rfl)) (fun _ _ _ h => h) (Or.inr ⟨by rfl,rfl⟩) ?_ ?_
                  rotate_left
                  · simp only [Act.put,z0_,z1_,z2_,i64_w,i32_w];rfl
                  refine pure_ (i:=23) (N:=some 121) (v:=undef) (a':=?_) #[T0,T0,T0,T0,T0,T0,T0,T0,T0,T0,T0,T0,T0,T0,T0,T0,T0,T0,T0,T0,T0,T0,T0,T0,F0,F0,F0,F0,F0,F0,F0,F0,F0,F0,F0,F0,F0,F0,F0,F0] rfl rfl (any_of HT_.out (by kernel_rfl)) (fun _ _ _ h => h) (Or.inr ⟨by rfl,rfl⟩) ?_ ?_
                  rotate_left
                  · simp only [Act.put,z0_,z1_,z2_,i64_w,i32_w];rfl
                  refine pure_ (i:=24) (N:=some 122) (v:=undef) (a':=?_) #[T0,T0,T0,T0,T0,T0,T0,T0,T0,T0,T0,T0,T0,T0,T0,T0,T0,T0,T0,T0,T0,T0,T0,T0,T0,F0,F0,F0,F0,F0,F0,F0,F0,F0,F0,F0,F0,F0,F0,F0] rfl rfl (any_of HT_.out (by kernel_rfl)) (fun _ _ _ h => h) (Or.inr ⟨by rfl,rfl⟩) ?_ ?_
                  rotate_left
                  · simp only [Act.put,z0_,z1_,z2_,i64_w,i32_w];rfl
                  refine pure_ (i:=25) (N:=some 123) (v:=undef) (a':=?_) #[T0,T0,T0,T0,T0,T0,T0,T0,T0,T0,T0,T0,T0,T0,T0,T0,T0,T0,T0,T0,T0,T0,T0,T0,T0,T0,F0,F0,F0,F0,F0,F0,F0,F0,F0,F0,F0,F0,F0,F0] rfl rfl (any_of HT_.out (by kernel_rfl)) (fun _ _ _ h => h) (Or.inr ⟨by rfl,rfl⟩) ?_ ?_
                  rotate_left
                  · simp only [Act.put,z0_,z1_,z2_,i64_w,i32_w];rfl
                  refine pure_ (i:=26) (N:=some 124) (v:=undef) (a':=?_) #[T0,T0,T0,T0,T0,T0,T0,T0,T0,T0,T0,T0,T0,T0,T0,T0,T0,T0,T0,T0,T0,T0,T0,T0,T0,T0,T0,F0,F0,F0,F0,F0,F0,F0,F0,F0,F0,F0,F0,F0] rfl rfl (any_of HT_.out (by kernel_rfl)) (fun _ _ _ h => h) (Or.inr ⟨by rfl,rfl⟩) ?_ ?_
                  rotate_left
                  · simp only [Act.put,z0_,z1_,z2_,i64_w,i32_w];rfl
                  refine pure_ (i:=27) (N:=some 125) (v:=undef) (a':=?_) #[T0,T0,T0,T0,T0,T0,T0,T0,T0,T0,T0,T0,T0,T0,T0,T0,T0,T0,T0,T0,T0,T0,T0,T0,T0,T0,T0,T0,F0,F0,F0,F0,F0,F0,F0,F0,F0,F0,F0,F0] rfl rfl (any_of HT_.out (by kernel_rfl)) (fun _ _ _ h => h) (Or.inr ⟨by rfl,rfl⟩) ?_ ?_
                  rotate_left
                  · simp only [Act.put,z0_,z1_,z2_,i64_w,i32_w];rfl
                  refine pure_ (i:=28) (N:=some 126) (v:=undef) (a':=?_) #[T0,T0,T0,T0,T0,T0,T0,T0,T0,T0,T0,T0,T0,T0,T0,T0,T0,T0,T0,T0,T0,T0,T0,T0,T0,T0,T0,T0,T0,F0,F0,F0,F0,F0,F0,F0,F0,F0,F0,F0] rfl rfl (any_of HT_.out (by kernel_rfl)) (fun _ _ _ h => h) (Or.inr ⟨by rfl,rfl⟩) ?_ ?_
                  rotate_left
                  · simp only [Act.put,z0_,z1_,z2_,i64_w,i32_w];rfl
                  refine pure_ (i:=29) (N:=some 127) (v:=undef) (a':=?_) #[T0,T0,T0,T0,T0,T0,T0,T0,T0,T0,T0,T0,T0,T0,T0,T0,T0,T0,T0,T0,T0,T0,T0,T0,T0,T0,T0,T0,T0,T0,F0,F0,F0,F0,F0,F0,F0,F0,F0,F0] rfl rfl (any_of HT_.out (by kernel_rfl)) (fun _ _ _ h => h) (Or.inr ⟨by rfl,rfl⟩) ?_ ?_
                  rotate_left
                  · simp only [Act.put,z0_,z1_,z2_,i64_w,i32_w];rfl
                  refine pure_ (i:=30) (N:=some 128) (v:=undef) (a':=?_) #[T0,T0,T0,T0,T0,T0,T0,T0,T0,T0,T0,T0,T0,T0,T0,T0,T0,T0,T0,T0,T0,T0,T0,T0,T0,T0,T0,T0,T0,T0,T0,F0,F0,F0,F0,F0,F0,F0,F0,F0] rfl rfl (any_of HT_.out (by kernel_rfl)) (fun _ _ _ h => h) (Or.inr ⟨by rfl,rfl⟩) ?_ ?_
                  rotate_left
                  · simp only [Act.put,z0_,z1_,z2_,i64_w,i32_w];rfl
                  refine pure_ (i:=31) (N:=some 129) (v:=undef) (a':=?_) #[T0,T0,T0,T0,T0,T0,T0,T0,T0,T0,T0,T0,T0,T0,T0,T0,T0,T0,T0,T0,T0,T0,T0,T0,T0,T0,T0,T0,T0,T0,T0,T0,F0,F0,F0,F0,F0,F0,F0,F0] rfl rfl (any_of HT_.out (by kernel_rfl)) (fun _ _ _ h => h) (Or.inr ⟨by rfl,rfl⟩) ?_ ?_
                  rotate_left
                  · simp only [Act.put,z0_,z1_,z2_,i64_w,i32_w];rfl
                  refine pure_ (i:=32) (N:=some 130) (v:=undef) (a':=?_) #[T0,T0,T0,T0,T0,T0,T0,T0,T0,T0,T0,T0,T0,T0,T0,T0,T0,T0,T0,T0,T0,T0,T0,T0,T0,T0,T0,T0,T0,T0,T0,T0,T0,F0,F0,F0,F0,F0,F0,F0] rfl rfl (any_of HT_.out (by kernel_rfl)) (fun _ _ _ h => h) (Or.inr ⟨by rfl,rfl⟩) ?_ ?_
                  rotate_left
                  · simp only [Act.put,z0_,z1_,z2_,i64_w,i32_w];rfl
                  refine pure_ (i:=33) (N:=some 131) (v:=undef) (a':=?_) #[T0,T0,T0,T0,T0,T0,T0,T0,T0,T0,T0,T0,T0,T0,T0,T0,T0,T0,T0,T0,T0,T0,T0,T0,T0,T0,T0,T0,T0,T0,T0,T0,T0,T0,F0,F0,F0,F0,F0,F0] rfl rfl (any_of HT_.out (by kernel_rfl)) (fun _ _ _ h => h) (Or.inr ⟨by rfl,rfl⟩) ?_ ?_
                  rotate_left
                  · simp only [Act.put,z0_,z1_,z2_,i64_w,i32_w];rfl
                  refine pure_ (i:=34) (N:=some 132) (v:=undef) (a':=?_) #[T0,T0,T0,T0,T0,T0,T0,T0,T0,T0,T0,T0,T0,T0,T0,T0,T0,T0,T0,T0,T0,T0,T0,T0,T0,T0,T0,T0,T0,T0,T0,T0,T0,T0,T0,F0,F0,F0,F0,F0] rfl rfl (any_of HT_.out (by kernel_rfl)) (fun _ _ _ h => h) (Or.inr ⟨by rfl,rfl⟩) ?_ ?_
                  rotate_left
                  · simp only [Act.put,z0_,z1_,z2_,i64_w,i32_w];rfl
                  refine pure_ (i:=35) (N:=some 133) (v:=undef) (a':=?_) #[T0,T0,T0,T0,T0,T0,T0,T0,T0,T0,T0,T0,T0,T0,T0,T0,T0,T0,T0,T0,T0,T0,T0,T0,T0,T0,T0,T0,T0,T0,T0,T0,T0,T0,T0,T0,F0,F0,F0,F0] rfl rfl (any_of HT_.out (by kernel_rfl)) (fun _ _ _ h => h) (Or.inr ⟨by rfl,rfl⟩) ?_ ?_
                  rotate_left
                  · simp only [Act.put,z0_,z1_,z2_,i64_w,i32_w];rfl
                  refine pure_ (i:=36) (N:=some 134) (v:=undef) (a':=?_) #[T0,T0,T0,T0,T0,T0,T0,T0,T0,T0,T0,T0,T0,T0,T0,T0,T0,T0,T0,T0,T0,T0,T0,T0,T0,T0,T0,T0,T0,T0,T0,T0,T0,T0,T0,T0,T0,F0,F0,F0] rfl rfl (any_of HT_.out (by kernel_rfl)) (fun _ _ _ h => h) (Or.inr ⟨by rfl,rfl⟩) ?_ ?_
                  rotate_left
                  · simp only [Act.put,z0_,z1_,z2_,i64_w,i32_w];rfl
                  refine pure_ (i:=37) (N:=some 135) (v:=undef) (a':=?_) #[T0,T0,T0,T0,T0,T0,T0,T0,T0,T0,T0,T0,T0,T0,T0,T0,T0,T0,T0,T0,T0,T0,T0,T0,T0,T0,T0,T0,T0,T0,T0,T0,T0,T0,T0,T0,T0,T0,F0,F0] rfl rfl (any_of HT_.out (by kernel_rfl)) (fun _ _ _ h => h) (Or.inr ⟨by rfl,rfl⟩) ?_ ?_
                  rotate_left
                  · simp only [Act.put,z0_,z1_,z2_,i64_w,i32_w];rfl
                  refine pure_ (i:=38) (N:=some 136) (v:=undef) (a':=?_) #[T0,T0,T0,T0,T0,T0,T0,T0,T0,T0,T0,T0,T0,T0,T0,T0,T0,T0,T0,T0,T0,T0,T0,T0,T0,T0,T0,T0,T0,T0,T0,T0,T0,T0,T0,T0,T0,T0,T0,F0] rfl rfl (any_of HT_.out (by kernel_rfl)) (fun _ _ _ h => h) (Or.inr ⟨by rfl,rfl⟩) ?_ ?_
                  rotate_left
                  · simp only [Act.put,z0_,z1_,z2_,i64_w,i32_w];rfl
                  refine pure_ (i:=39) (N:=some 137) (v:=?_) (a':=?_) #[T0,T0,T0,T0,T0,T0,T0,T0,T0,T0,T0,T0,T0,T0,T0,T0,T0,T0,T0,T0,T0,T0,T0,T0,T0,T0,T0,T0,T0,T0,T0,T0,T0,T0,T0,T0,T0,T0,T0,T0] rfl rfl (any_of HT_.out (by kernel_rfl)) (fun _ _ _ h => h) (Or.inl ⟨by rfl,?_⟩) ?_ ?_
                  rotate_left
                  · intro w';go_simp;with_reducible rfl
                  rotate_left
                  · simp only [Act.put,z0_,z1_,z2_,i64_w,i32_w];rfl
                  refine done_ (done_of HT_.out (by kernel_rfl)) ?_
                  try go_wp2
                  (first | go_meet | (refine Met.intro ?_;go_step;(repeat apply Exists.intro);refine ⟨?rel,by first | rw [c47b1] | (rw [c47b1];rfl)⟩))
                  case rel => exact ⟨_,(true),(by first | rfl | (simp;done) | (simp [*];done)),H',⟨by have:=HJ1.out;have:=HJ14.out;have:=HK3.out;have:=HK4.out;first | omega | exact Nat.le_refl _⟩,⟨by (try simp only [hl4_3]);(with_reducible repeat (first | apply Kd.R_alloc | apply Kd.R_drewN | apply Kd.R_drew));exact HO_4.out⟩,⟨by (try simp only [hl4_3]);(with_reducible repeat (first | refine blk_drewN ?_ _ | refine blk_drew ?_ | refine blk_alloc ?_ _));exact BK426.out⟩,⟨by repeat (first | (with_reducible first | exact HB.out | apply b0_ | apply b1_ | apply b2_ | refine below_set ?_ GE426.out) | exact HB.out)⟩⟩
                 rw [if_pos c48] at H;have c48b0 : (t440 == 0) = true:=beq_iff_eq.mpr c48;have c48b1 : (t440 != 0) = false:=bne_eq_false_iff_eq.mpr c48;clear c48;by_cases c49 : 0≤x74_4
                 rotate_left
                 · rw [if_neg c49] at H;exact absurd H (by simp)
                 rw [if_pos c49] at H;have c49b0 : decide (0≤x74_4) = true:=decide_eq_true c49;clear c49;by_cases c50 : x74_4 < (l0_0.length : Int)
                 rotate_left
                 · rw [if_neg c50] at H;exact absurd H (by simp)
                 rw [if_pos c50] at H;have c50b0 : decide (x74_4 < (l0_0.length : Int)) = true:=decide_eq_true c50;clear c50;by_cases c51 : 0≤t430
                 rotate_left
                 · rw [if_neg c51] at H;exact absurd H (by simp)
                 rw [if_pos c51] at H;have c51b0 : decide (0≤t430) = true:=decide_eq_true c51;clear c51;by_cases c52 : t430 < (l0_0.length : Int)
                 rotate_left
                 · rw [if_neg c52] at H;exact absurd H (by simp)
                 rw [if_pos c52] at H;have c52b0 : decide (t430 < (l0_0.length : Int)) = true:=decide_eq_true c52;clear c52;by_cases c53 : ((rd_T34 l0_0 x74_4).f2) < ((rd_T34 l0_0 t430).f2)
                 rotate_left
                 ·
                  rw [if_neg c53] at H;have c53b0 : decide (((rd_T34 l0_0 x74_4).f2) < ((rd_T34 l0_0 t430).f2)) = false:=decide_eq_false c53;clear c53;have H':=Aside0.mk H;clear H
                  try go_wp2
                  have n0_:=Aside0.mk (Kd.R_drew HO_4.out);have n1_:=Aside0.mk (blk_drew BK426.out);have n2_:=Aside0.mk (b2_ HB.out);clear HO_4;clear BK426;clear HB;have HO_4:=n0_;have BK426:=n1_;have HB:=n2_;clear n0_ n1_ n2_;have p443 : 0≤(x74_4 : Int):=of_decide_eq_true (by first | (with_reducible assumption) | assumption)
                  have q443 : x74_4 < (l0_0.length : Int):=of_decide_eq_true (by first | (with_reducible assumption) | assumption);obtain ⟨ad443,e443,hx443_0,hx443_1,hx443_2,hx443_3,hx443_4,hx443_5,hx443_6⟩:=at_T34 HR0_0.out x74_4 p443 q443;have hw443_6:=hx443_6;have hw443_5:=hx443_5;have hw443_4:=hx443_4;have hw443_3:=hx443_3;have hw443_2:=hx443_2;have hw443_1:=hx443_1
                  have hw443_0:=hx443_0;cases e443;replace hx443_0:=(HB.out.cell (World.block_lt_of_cell? w _ hx443_0)).trans hx443_0;replace hx443_1:=(HB.out.cell (World.block_lt_of_cell? w _ hx443_1)).trans hx443_1;replace hx443_2:=(HB.out.cell (World.block_lt_of_cell? w _ hx443_2)).trans hx443_2;replace hx443_3:=(HB.out.cell (World.block_lt_of_cell? w _ hx443_3)).trans hx443_3
                  replace hx443_4:=(HB.out.cell (World.block_lt_of_cell? w _ hx443_4)).trans hx443_4;replace hx443_5:=(HB.out.cell (World.block_lt_of_cell? w _ hx443_5)).trans hx443_5;replace hx443_6:=(HB.out.cell (World.block_lt_of_cell? w _ hx443_6)).trans hx443_6;replace p443:=eq_true p443;replace q443:=eq_true q443
                  have p444 : 0≤(t430 : Int):=of_decide_eq_true (by first | (with_reducible assumption) | assumption);have q444 : t430 < (l0_0.length : Int):=of_decide_eq_true (by first | (with_reducible assumption) | assumption);obtain ⟨ad444,e444,hx444_0,hx444_1,hx444_2,hx444_3,hx444_4,hx444_5,hx444_6⟩:=at_T34 HR0_0.out t430 p444 q444;have hw444_6:=hx444_6;have hw444_5:=hx444_5
                  have hw444_4:=hx444_4;have hw444_3:=hx444_3;have hw444_2:=hx444_2;have hw444_1:=hx444_1;have hw444_0:=hx444_0;obtain rfl : ad443 = ad444:=(by injection e444);replace hx444_0:=(HB.out.cell (World.block_lt_of_cell? w _ hx444_0)).trans hx444_0;replace hx444_1:=(HB.out.cell (World.block_lt_of_cell? w _ hx444_1)).trans hx444_1
                  replace hx444_2:=(HB.out.cell (World.block_lt_of_cell? w _ hx444_2)).trans hx444_2;replace hx444_3:=(HB.out.cell (World.block_lt_of_cell? w _ hx444_3)).trans hx444_3;replace hx444_4:=(HB.out.cell (World.block_lt_of_cell? w _ hx444_4)).trans hx444_4;replace hx444_5:=(HB.out.cell (World.block_lt_of_cell? w _ hx444_5)).trans hx444_5
                  replace hx444_6:=(HB.out.cell (World.block_lt_of_cell? w _ hx444_6)).trans hx444_6;replace p444:=eq_true p444;replace q444:=eq_true q444
                  refine start_ (n:=40) (S:=fun w' => w'.cell? ⟨gb426,0,none⟩ = some (.slice (some ad443) l0_0.length c0_0)∧w'.cell? ⟨gb426,1,none⟩ = some (.slice A0_1 l0_1.length c0_1)∧w'.cell? ⟨gb426,2,none⟩ = some (.int .i64 a0_2)∧w'.cell? ⟨gb426,3,none⟩ = some (.bool a0_3)∧w'.cell? (ad443.add ((x74_4).toNat * 7)) = some (.int .i64 ((rd_T34 l0_0 x74_4).f0))∧w'.cell? ⟨(ad443.add ((x74_4).toNat * 7)).block,(ad443.add ((x74_4).toNat * 7)).off + 1,none⟩ = some (.int .i64 ((rd_T34 l0_0 x74_4).f1))∧w'.cell? ⟨(ad443.add ((x74_4).toNat * 7)).block,(ad443.add ((x74_4).toNat * 7)).off + 2,none⟩ = some (.int .i64 ((rd_T34 l0_0 x74_4).f2))∧w'.cell? ⟨(ad443.add ((x74_4).toNat * 7)).block,(ad443.add ((x74_4).toNat * 7)).off + 3,none⟩ = some (.int .i64 ((rd_T34 l0_0 x74_4).f3))∧w'.cell? ⟨(ad443.add ((x74_4).toNat * 7)).block,(ad443.add ((x74_4).toNat * 7)).off + 4,none⟩ = some (.int .i64 ((rd_T34 l0_0 x74_4).f4))∧w'.cell? ⟨(ad443.add ((x74_4).toNat * 7)).block,(ad443.add ((x74_4).toNat * 7)).off + 5,none⟩ = some (.bool ((rd_T34 l0_0 x74_4).f5))∧w'.cell? ⟨(ad443.add ((x74_4).toNat * 7)).block,(ad443.add ((x74_4).toNat * 7)).off + 6,none⟩ = some (.bool ((rd_T34 l0_0 x74_4).f6))∧w'.cell? (ad443.add ((t430).toNat * 7)) = some (.int .i64 ((rd_T34 l0_0 t430).f0))∧w'.cell? ⟨(ad443.add ((t430).toNat * 7)).block,(ad443.add ((t430).toNat * 7)).off + 1,none⟩ = some (.int .i64 ((rd_T34 l0_0 t430).f1))∧w'.cell? ⟨(ad443.add ((t430).toNat * 7)).block,(ad443.add ((t430).toNat * 7)).off + 2,none⟩ = some (.int .i64 ((rd_T34 l0_0 t430).f2))∧w'.cell? ⟨(ad443.add ((t430).toNat * 7)).block,(ad443.add ((t430).toNat * 7)).off + 3,none⟩ = some (.int .i64 ((rd_T34 l0_0 t430).f3))∧w'.cell? ⟨(ad443.add ((t430).toNat * 7)).block,(ad443.add ((t430).toNat * 7)).off + 4,none⟩ = some (.int .i64 ((rd_T34 l0_0 t430).f4))∧w'.cell? ⟨(ad443.add ((t430).toNat * 7)).block,(ad443.add ((t430).toNat * 7)).off + 5,none⟩ = some (.bool ((rd_T34 l0_0 t430).f5))∧w'.cell? ⟨(ad443.add ((t430).toNat * 7)).block,(ad443.add ((t430).toNat * 7)).off + 6,none⟩ = some (.bool ((rd_T34 l0_0 t430).f6))) (ds:=[]) #[F0,F0,F0,F0,F0,F0,F0,F0,F0,F0,F0,F0,F0,F0,F0,F0,F0,F0,F0,F0,F0,F0,F0,F0,F0,F0,F0,F0,F0,F0,F0,F0,F0,F0,F0,F0,F0,F0,F0,F0] (by kernel_rfl) rfl rfl ⟨(blk_cell BK426.out 0).trans rfl,(blk_cell BK426.out 1).trans rfl,(blk_cell BK426.out 2).trans rfl,(blk_cell BK426.out 3).trans rfl,((HB.out.cell (World.block_lt_of_cell? w _ hw443_0)).trans hw443_0),((HB.out.cell (World.block_lt_of_cell? w _ hw443_1)).trans hw443_1),((HB.out.cell (World.block_lt_of_cell? w _ hw443_2)).trans hw443_2),((HB.out.cell (World.block_lt_of_cell? w _ hw443_3)).trans hw443_3),((HB.out.cell (World.block_lt_of_cell? w _ hw443_4)).trans hw443_4),((HB.out.cell (World.block_lt_of_cell? w _ hw443_5)).trans hw443_5),((HB.out.cell (World.block_lt_of_cell? w _ hw443_6)).trans hw443_6),((HB.out.cell (World.block_lt_of_cell? w _ hw444_0)).trans hw444_0),((HB.out.cell (World.block_lt_of_cell? w _ hw444_1)).trans hw444_1),((HB.out.cell (World.block_lt_of_cell? w _ hw444_2)).trans hw444_2),((HB.out.cell (World.block_lt_of_cell? w _ hw444_3)).trans hw444_3),((HB.out.cell (World.block_lt_of_cell? w _ hw444_4)).trans hw444_4),((HB.out.cell (World.block_lt_of_cell? w _ hw444_5)).trans hw444_5),((HB.out.cell (World.block_lt_of_cell? w _ hw444_6)).trans hw444_6)⟩ (fun hHeld => ?_);refine with_tabW estoverslaw39_ReclaimplanOldest.tab18 estoverslaw39_ReclaimplanOldest.bits18 (fun HT_ HW_ => ?_)
                  generalize w46.drew = w55 at HO_4 BK426 HB hx443_0 hx443_1 hx443_2 hx443_3 hx443_4 hx443_5 hx443_6 hx444_0 hx444_1 hx444_2 hx444_3 hx444_4 hx444_5 hx444_6 hHeld ⊢
                  refine pure_ (i:=0) (N:=some 98) (v:=?_) (a':=?_) #[T0,F0,F0,F0,F0,F0,F0,F0,F0,F0,F0,F0,F0,F0,F0,F0,F0,F0,F0,F0,F0,F0,F0,F0,F0,F0,F0,F0,F0,F0,F0,F0,F0,F0,F0,F0,F0,F0,F0,F0] rfl rfl (any_of HT_.out (by kernel_rfl)) (fun _ _ _ h => h) (Or.inl ⟨by rfl,?_⟩) ?_ ?_
                  rotate_left
                  · intro w';go_simp;with_reducible rfl
                  rotate_left
                  · simp only [Act.put,z0_,z1_,z2_,i64_w,i32_w];rfl
                  refine pure_ (i:=1) (N:=some 99) (v:=?_) (a':=?_) #[T0,T0,F0,F0,F0,F0,F0,F0,F0,F0,F0,F0,F0,F0,F0,F0,F0,F0,F0,F0,F0,F0,F0,F0,F0,F0,F0,F0,F0,F0,F0,F0,F0,F0,F0,F0,F0,F0,F0,F0] rfl rfl (any_of HT_.out (by kernel_rfl)) (fun _ _ _ h => h) (Or.inl ⟨by rfl,?_⟩) ?_ ?_
                  rotate_left
                  · intro w';go_simp;with_reducible rfl
                  rotate_left
                  · simp only [Act.put,z0_,z1_,z2_,i64_w,i32_w];rfl
                  refine pure_ (i:=2) (N:=some 100) (v:=?_) (a':=?_) #[T0,T0,T0,F0,F0,F0,F0,F0,F0,F0,F0,F0,F0,F0,F0,F0,F0,F0,F0,F0,F0,F0,F0,F0,F0,F0,F0,F0,F0,F0,F0,F0,F0,F0,F0,F0,F0,F0,F0,F0] rfl rfl (any_of HT_.out (by kernel_rfl)) (fun _ _ _ h => h) (Or.inl ⟨by rfl,?_⟩) ?_ ?_
                  rotate_left
                  · intro w';go_simp;with_reducible rfl
                  rotate_left
                  · simp only [Act.put,z0_,z1_,z2_,i64_w,i32_w];rfl
                  refine pure_ (i:=3) (N:=some 101) (v:=?_) (a':=?_) #[T0,T0,T0,T0,F0,F0,F0,F0,F0,F0,F0,F0,F0,F0,F0,F0,F0,F0,F0,F0,F0,F0,F0,F0,F0,F0,F0,F0,F0,F0,F0,F0,F0,F0,F0,F0,F0,F0,F0,F0] rfl rfl (any_of HT_.out (by kernel_rfl)) (fun _ _ _ h => h) (Or.inl ⟨by rfl,?_⟩) ?_ ?_
                  rotate_left
                  · intro w';go_simp;with_reducible rfl
                  rotate_left
                  · simp only [Act.put,z0_,z1_,z2_,i64_w,i32_w];rfl
                  refine pure_ (i:=4) (N:=some 102) (v:=?_) (a':=?_) #[T0,T0,T0,T0,T0,F0,F0,F0,F0,F0,F0,F0,F0,F0,F0,F0,F0,F0,F0,F0,F0,F0,F0,F0,F0,F0,F0,F0,F0,F0,F0,F0,F0,F0,F0,F0,F0,F0,F0,F0] rfl rfl (any_of HT_.out (by kernel_rfl)) (fun _ _ _ h => h) (Or.inl ⟨by rfl,?_⟩) ?_ ?_
                  rotate_left
                  · intro w';go_simp;with_reducible rfl
                  rotate_left
                  · simp only [Act.put,z0_,z1_,z2_,i64_w,i32_w];rfl
                  refine pure_ (i:=5) (N:=some 103) (v:=?_) (a':=?_) #[T0,T0,T0,T0,T0,T0,F0,F0,F0,F0,F0,F0,F0,F0,F0,F0,F0,F0,F0,F0,F0,F0,F0,F0,F0,F0,F0,F0,F0,F0,F0,F0,F0,F0,F0,F0,F0,F0,F0,F0] rfl rfl (any_of HT_.out (by kernel_rfl)) (fun _ _ _ h => h) (Or.inl ⟨by rfl,?_⟩) ?_ ?_
                  rotate_left
                  · intro w';go_simp;with_reducible rfl
                  rotate_left
                  · simp only [Act.put,z0_,z1_,z2_,i64_w,i32_w];rfl
                  refine pure_ (i:=6) (N:=some 104) (v:=?_) (a':=?_) #[T0,T0,T0,T0,T0,T0,T0,F0,F0,F0,F0,F0,F0,F0,F0,F0,F0,F0,F0,F0,F0,F0,F0,F0,F0,F0,F0,F0,F0,F0,F0,F0,F0,F0,F0,F0,F0,F0,F0,F0] rfl rfl (any_of HT_.out (by kernel_rfl)) (fun _ _ _ h => h) (Or.inl ⟨by rfl,?_⟩) ?_ ?_
                  rotate_left
                  · intro w';go_simp;with_reducible rfl
                  rotate_left
                  · simp only [Act.put,z0_,z1_,z2_,i64_w,i32_w];rfl
                  refine pure_ (i:=8) (N:=some 106) (v:=?_) (a':=?_) #[T0,T0,T0,T0,T0,T0,T0,F0,T0,F0,F0,F0,F0,F0,F0,F0,F0,F0,F0,F0,F0,F0,F0,F0,F0,F0,F0,F0,F0,F0,F0,F0,F0,F0,F0,F0,F0,F0,F0,F0] rfl rfl (any_of HT_.out (by kernel_rfl)) (fun _ _ _ h => h) (Or.inl ⟨by rfl,?_⟩) ?_ ?_
                  rotate_left
                  · intro w';go_simp;with_reducible rfl
                  rotate_left
                  · simp only [Act.put,z0_,z1_,z2_,i64_w,i32_w];rfl
                  refine pure_ (i:=12) (N:=some 110) (v:=?_) (a':=?_) #[T0,T0,T0,T0,T0,T0,T0,F0,T0,F0,F0,F0,T0,F0,F0,F0,F0,F0,F0,F0,F0,F0,F0,F0,F0,F0,F0,F0,F0,F0,F0,F0,F0,F0,F0,F0,F0,F0,F0,F0] rfl rfl (any_of HT_.out (by kernel_rfl)) (fun _ _ _ h => h) (Or.inl ⟨by rfl,?_⟩) ?_ ?_
                  rotate_left
                  · intro w';go_simp;with_reducible rfl
                  rotate_left
                  · simp only [Act.put,z0_,z1_,z2_,i64_w,i32_w];rfl
                  refine pure_ (i:=14) (N:=some 112) (v:=?_) (a':=?_) #[T0,T0,T0,T0,T0,T0,T0,F0,T0,F0,F0,F0,T0,F0,T0,F0,F0,F0,F0,F0,F0,F0,F0,F0,F0,F0,F0,F0,F0,F0,F0,F0,F0,F0,F0,F0,F0,F0,F0,F0] rfl rfl (any_of HT_.out (by kernel_rfl)) (fun _ _ _ h => h) (Or.inl ⟨by rfl,?_⟩) ?_ ?_
                  rotate_left
                  · intro w';go_simp;with_reducible rfl
                  rotate_left
                  · simp only [Act.put,z0_,z1_,z2_,i64_w,i32_w];rfl
                  refine take_ (i:=7) (N:=some 105) (v:=?_) (a':=?_) #[T0,T0,T0,T0,T0,T0,T0,T0,T0,F0,F0,F0,T0,F0,T0,F0,F0,F0,F0,F0,F0,F0,F0,F0,F0,F0,F0,F0,F0,F0,F0,F0,F0,F0,F0,F0,F0,F0,F0,F0] rfl rfl (take_ofW HT_.out HW_.out (by kernel_rfl)) (fun _ _ _ h => h) (Or.inl ⟨by rfl,?_⟩) hHeld ?_ ?_
                  rotate_left
                  ·
                   rintro w' ⟨s0,s1,s2,s3,s4,s5,s6,s7,s8,s9,s10,s11,s12,s13,s14,s15,s16,s17⟩
                   go_simp;with_reducible rfl
                  rotate_left
                  · simp only [Act.put,z0_,z1_,z2_,i64_w,i32_w];rfl
                  refine pure_ (i:=9) (N:=some 107) (v:=?_) (a':=?_) #[T0,T0,T0,T0,T0,T0,T0,T0,T0,T0,F0,F0,T0,F0,T0,F0,F0,F0,F0,F0,F0,F0,F0,F0,F0,F0,F0,F0,F0,F0,F0,F0,F0,F0,F0,F0,F0,F0,F0,F0] rfl rfl (any_of HT_.out (by kernel_rfl)) (fun _ _ _ h => h) (Or.inl ⟨by rfl,?_⟩) ?_ ?_
                  rotate_left
                  · intro w';go_simp;with_reducible rfl
                  rotate_left
                  · simp only [Act.put,z0_,z1_,z2_,i64_w,i32_w];rfl
                  refine pure_ (i:=10) (N:=some 108) (v:=?_) (a':=?_) #[T0,T0,T0,T0,T0,T0,T0,T0,T0,T0,T0,F0,T0,F0,T0,F0,F0,F0,F0,F0,F0,F0,F0,F0,F0,F0,F0,F0,F0,F0,F0,F0,F0,F0,F0,F0,F0,F0,F0,F0] rfl rfl (any_of HT_.out (by kernel_rfl)) (fun _ _ _ h => h) (Or.inl ⟨by rfl,?_⟩) ?_ ?_
                  rotate_left
                  · intro w';go_simp;with_reducible rfl
                  rotate_left
                  · simp only [Act.put,z0_,z1_,z2_,i64_w,i32_w];rfl
                  refine take_ (i:=11) (N:=some 109) (v:=?_) (a':=?_) #[T0,T0,T0,T0,T0,T0,T0,T0,T0,T0,T0,T0,T0,F0,T0,F0,F0,F0,F0,F0,F0,F0,F0,F0,F0,F0,F0,F0,F0,F0,F0,F0,F0,F0,F0,F0,F0,F0,F0,F0] rfl rfl (take_ofW HT_.out HW_.out (by kernel_rfl)) (fun _ _ _ h => h) (Or.inl ⟨by rfl,?_⟩) hHeld ?_ ?_
                  rotate_left
                  ·
                   rintro w' ⟨s0,s1,s2,s3,s4,s5,s6,s7,s8,s9,s10,s11,s12,s13,s14,s15,s16,s17⟩
                   go_simp;with_reducible rfl
                  rotate_left
                  · simp only [Act.put,z0_,z1_,z2_,i64_w,i32_w];rfl
                  refine take_ (i:=13) (N:=some 111) (v:=?_) (a':=?_) #[T0,T0,T0,T0,T0,T0,T0,T0,T0,T0,T0,T0,T0,T0,T0,F0,F0,F0,F0,F0,F0,F0,F0,F0,F0,F0,F0,F0,F0,F0,F0,F0,F0,F0,F0,F0,F0,F0,F0,F0] rfl rfl (take_ofW HT_.out HW_.out (by kernel_rfl)) (fun _ _ _ h => h) (Or.inl ⟨by rfl,?_⟩) hHeld ?_ ?_
                  rotate_left
                  ·
                   rintro w' ⟨s0,s1,s2,s3,s4,s5,s6,s7,s8,s9,s10,s11,s12,s13,s14,s15,s16,s17⟩
                   go_simp;with_reducible rfl
                  rotate_left
                  · simp only [Act.put,z0_,z1_,z2_,i64_w,i32_w];rfl
                  refine pure_ (i:=15) (N:=some 113) (v:=?_) (a':=?_) #[T0,T0,T0,T0,T0,T0,T0,T0,T0,T0,T0,T0,T0,T0,T0,T0,F0,F0,F0,F0,F0,F0,F0,F0,F0,F0,F0,F0,F0,F0,F0,F0,F0,F0,F0,F0,F0,F0,F0,F0] rfl rfl (any_of HT_.out (by kernel_rfl)) (fun _ _ _ h => h) (Or.inl ⟨by rfl,?_⟩) ?_ ?_
                  rotate_left
                  · intro w';go_simp;with_reducible rfl
                  rotate_left
                  · simp only [Act.put,z0_,z1_,z2_,i64_w,i32_w];rfl
                  refine pure_ (i:=16) (N:=some 114) (v:=?_) (a':=?_) #[T0,T0,T0,T0,T0,T0,T0,T0,T0,T0,T0,T0,T0,T0,T0,T0,T0,F0,F0,F0,F0,F0,F0,F0,F0,F0,F0,F0,F0,F0,F0,F0,F0,F0,F0,F0,F0,F0,F0,F0] rfl rfl (any_of HT_.out (by kernel_rfl)) (fun _ _ _ h => h) (Or.inl ⟨by rfl,?_⟩) ?_ ?_
                  rotate_left
                  · intro w';go_simp;with_reducible rfl
                  rotate_left
                  · simp only [Act.put,z0_,z1_,z2_,i64_w,i32_w];rfl
                  refine take_ (i:=17) (N:=some 115) (v:=?_) (a':=?_) #[T0,T0,T0,T0,T0,T0,T0,T0,T0,T0,T0,T0,T0,T0,T0,T0,T0,T0,F0,F0,F0,F0,F0,F0,F0,F0,F0,F0,F0,F0,F0,F0,F0,F0,F0,F0,F0,F0,F0,F0] rfl rfl (take_ofW HT_.out HW_.out (by kernel_rfl)) (fun _ _ _ h => h) (Or.inl ⟨by rfl,?_⟩) hHeld ?_ ?_
                  rotate_left
                  ·
                   rintro w' ⟨s0,s1,s2,s3,s4,s5,s6,s7,s8,s9,s10,s11,s12,s13,s14,s15,s16,s17⟩
                   go_simp;with_reducible rfl
                  rotate_left
                  · simp only [Act.put,z0_,z1_,z2_,i64_w,i32_w];rfl
                  refine pure_ (i:=18) (N:=some 116) (v:=?_) (a':=?_) #[T0,T0,T0,T0,T0,T0,T0,T0,T0,T0,T0,T0,T0,T0,T0,T0,T0,T0,T0,F0,F0,F0,F0,F0,F0,F0,F0,F0,F0,F0,F0,F0,F0,F0,F0,F0,F0,F0,F0,F0] rfl rfl (any_of HT_.out (by kernel_rfl)) (fun _ _ _ h => h) (Or.inl ⟨by rfl,?_⟩) ?_ ?_
                  rotate_left
                  · intro w';go_simp;with_reducible rfl
                  rotate_left
                  · simp only [Act.put,z0_,z1_,z2_,i64_w,i32_w];rfl
                  refine pure_ (i:=19) (N:=some 117) (v:=?_) (a':=?_) #[T0,T0,T0,T0,T0,T0,T0,T0,T0,T0,T0,T0,T0,T0,T0,T0,T0,T0,T0,T0,F0,F0,F0,F0,F0,F0,F0,F0,F0,F0,F0,F0,F0,F0,F0,F0,F0,F0,F0,F0] rfl rfl (any_of HT_.out (by kernel_rfl)) (fun _ _ _ h => h) (Or.inl ⟨by rfl,?_⟩) ?_ ?_
                  rotate_left
                  · intro w';go_simp;with_reducible rfl
                  rotate_left
                  · simp only [Act.put,z0_,z1_,z2_,i64_w,i32_w];rfl
                  refine pure_ (i:=20) (N:=some 118) (v:=?_) (a':=?_) #[T0,T0,T0,T0,T0,T0,T0,T0,T0,T0,T0,T0,T0,T0,T0,T0,T0,T0,T0,T0,T0,F0,F0,F0,F0,F0,F0,F0,F0,F0,F0,F0,F0,F0,F0,F0,F0,F0,F0,F0] rfl rfl (any_of HT_.out (by kernel_rfl)) (fun _ _ _ h => h) (Or.inl ⟨by rfl,?_⟩) ?_ ?_
                  rotate_left
                  · intro w';go_simp;with_reducible rfl
                  rotate_left
                  · simp only [Act.put,z0_,z1_,z2_,i64_w,i32_w];rfl
                  refine pure_ (i:=21) (N:=some 119) (v:=?_) (a':=?_) #[T0,T0,T0,T0,T0,T0,T0,T0,T0,T0,T0,T0,T0,T0,T0,T0,T0,T0,T0,T0,T0,T0,F0,F0,F0,F0,F0,F0,F0,F0,F0,F0,F0,F0,F0,F0,F0,F0,F0,F0] rfl rfl (any_of HT_.out (by kernel_rfl)) (fun _ _ _ h => h) (Or.inl ⟨by rfl,?_⟩) ?_ ?_
                  rotate_left
                  · intro w';go_simp;with_reducible rfl
                  rotate_left
                  · simp only [Act.put,z0_,z1_,z2_,i64_w,i32_w];rfl
                  refine pure_ (i:=22) (N:=some 120) (v:=?_) (a':=?_) #[T0,T0,T0,T0,T0,T0,T0,T0,T0,T0,T0,T0,T0,T0,T0,T0,T0,T0,T0,T0,T0,T0,T0,F0,F0,F0,F0,F0,F0,F0,F0,F0,F0,F0,F0,F0,F0,F0,F0,F0] rfl rfl (any_of HT_.out (by kernel_rfl)) (fun _ _ _ h => h) (Or.inl ⟨by rfl,?_⟩) ?_ ?_
                  rotate_left
                  · intro w';go_simp;with_reducible rfl
                  rotate_left
                  · simp only [Act.put,z0_,z1_,z2_,i64_w,i32_w];rfl
                  refine pure_ (i:=23) (N:=some 121) (v:=?_) (a':=?_) #[T0,T0,T0,T0,T0,T0,T0,T0,T0,T0,T0,T0,T0,T0,T0,T0,T0,T0,T0,T0,T0,T0,T0,T0,F0,F0,F0,F0,F0,F0,F0,F0,F0,F0,F0,F0,F0,F0,F0,F0] rfl rfl (any_of HT_.out (by kernel_rfl)) (fun _ _ _ h => h) (Or.inl ⟨by rfl,?_⟩) ?_ ?_
                  rotate_left
                  · intro w';go_simp;with_reducible rfl
                  rotate_left
                  · simp only [Act.put,z0_,z1_,z2_,i64_w,i32_w];rfl
                  refine pure_ (i:=24) (N:=some 122) (v:=?_) (a':=?_) #[T0,T0,T0,T0,T0,T0,T0,T0,T0,T0,T0,T0,T0,T0,T0,T0,T0,T0,T0,T0,T0,T0,T0,T0,T0,F0,F0,F0,F0,F0,F0,F0,F0,F0,F0,F0,F0,F0,F0,F0] rfl rfl (any_of HT_.out (by kernel_rfl)) (fun _ _ _ h => h) (Or.inl ⟨by rfl,?_⟩) ?_ ?_
                  rotate_left
                  · intro w';go_simp;with_reducible rfl
                  rotate_left
                  · simp only [Act.put,z0_,z1_,z2_,i64_w,i32_w];rfl
                  refine pure_ (i:=25) (N:=some 123) (v:=undef) (a':=?_) #[T0,T0,T0,T0,T0,T0,T0,T0,T0,T0,T0,T0,T0,T0,T0,T0,T0,T0,T0,T0,T0,T0,T0,T0,T0,T0,F0,F0,F0,F0,F0,F0,F0,F0,F0,F0,F0,F0,F0,F0] rfl rfl (any_of HT_.out (by kernel_rfl)) (fun _ _ _ h => h) (Or.inr ⟨by rfl,rfl⟩) ?_ ?_
                  rotate_left
                  · simp only [Act.put,z0_,z1_,z2_,i64_w,i32_w];rfl
                  refine pure_ (i:=26) (N:=some 124) (v:=undef) (a':=?_) #[T0,T0,T0,T0,T0,T0,T0,T0,T0,T0,T0,T0,T0,T0,T0,T0,T0,T0,T0,T0,T0,T0,T0,T0,T0,T0,T0,F0,F0,F0,F0,F0,F0,F0,F0,F0,F0,F0,F0,F0] rfl rfl (any_of HT_.out (by kernel_rfl)) (fun _ _ _ h => h) (Or.inr ⟨by rfl,rfl⟩) ?_ ?_
                  rotate_left
                  · simp only [Act.put,z0_,z1_,z2_,i64_w,i32_w];rfl
                  refine pure_ (i:=27) (N:=some 125) (v:=undef) (a':=?_) #[T0,T0,T0,T0,T0,T0,T0,T0,T0,T0,T0,T0,T0,T0,T0,T0,T0,T0,T0,T0,T0,T0,T0,T0,T0,T0,T0,T0,F0,F0,F0,F0,F0,F0,F0,F0,F0,F0,F0,F0] rfl rfl (any_of HT_.out (by kernel_rfl)) (fun _ _ _ h => h) (Or.inr ⟨by rfl,rfl⟩) ?_ ?_
                  rotate_left
                  · simp only [Act.put,z0_,z1_,z2_,i64_w,i32_w];rfl
                  refine pure_ (i:=28) (N:=some 126) (v:=undef) (a':=?_) #[T0,T0,T0,T0,T0,T0,T0,T0,T0,T0,T0,T0,T0,T0,T0,T0,T0,T0,T0,T0,T0,T0,T0,T0,T0,T0,T0,T0,T0,F0,F0,F0,F0,F0,F0,F0,F0,F0,F0,F0] rfl rfl (any_of HT_.out (by kernel_rfl)) (fun _ _ _ h => h) (Or.inr ⟨by rfl,rfl⟩) ?_ ?_
                  rotate_left
                  · simp only [Act.put,z0_,z1_,z2_,i64_w,i32_w];rfl
                  refine pure_ (i:=29) (N:=some 127) (v:=undef) (a':=?_) #[T0,T0,T0,T0,T0,T0,T0,T0,T0,T0,T0,T0,T0,T0,T0,T0,T0,T0,T0,T0,T0,T0,T0,T0,T0,T0,T0,T0,T0,T0,F0,F0,F0,F0,F0,F0,F0,F0,F0,F0] rfl rfl (any_of HT_.out (by kernel_rfl)) (fun _ _ _ h => h) (Or.inr ⟨by rfl,rfl⟩) ?_ ?_
                  rotate_left
                  · simp only [Act.put,z0_,z1_,z2_,i64_w,i32_w];rfl
                  refine pure_ (i:=30) (N:=some 128) (v:=undef) (a':=?_) #[T0,T0,T0,T0,T0,T0,T0,T0,T0,T0,T0,T0,T0,T0,T0,T0,T0,T0,T0,T0,T0,T0,T0,T0,T0,T0,T0,T0,T0,T0,T0,F0,F0,F0,F0,F0,F0,F0,F0,F0] rfl rfl (any_of HT_.out (by kernel_rfl)) (fun _ _ _ h => h) (Or.inr ⟨by rfl,rfl⟩) ?_ ?_
                  rotate_left
                  · simp only [Act.put,z0_,z1_,z2_,i64_w,i32_w];rfl
                  refine pure_ (i:=31) (N:=some 129) (v:=undef) (a':=?_) #[T0,T0,T0,T0,T0,T0,T0,T0,T0,T0,T0,T0,T0,T0,T0,T0,T0,T0,T0,T0,T0,T0,T0,T0,T0,T0,T0,T0,T0,T0,T0,T0,F0,F0,F0,F0,F0,F0,F0,F0] rfl rfl (any_of HT_.out (by kernel_rfl)) (fun _ _ _ h => h) (Or.inr ⟨by rfl,rfl⟩) ?_ ?_
                  rotate_left
                  · simp only [Act.put,z0_,z1_,z2_,i64_w,i32_w];rfl
                  refine pure_ (i:=32) (N:=some 130) (v:=undef) (a':=?_) #[T0,T0,T0,T0,T0,T0,T0,T0,T0,T0,T0,T0,T0,T0,T0,T0,T0,T0,T0,T0,T0,T0,T0,T0,T0,T0,T0,T0,T0,T0,T0,T0,T0,F0,F0,F0,F0,F0,F0,F0] rfl rfl (any_of HT_.out (by kernel_rfl)) (fun _ _ _ h => h) (Or.inr ⟨by rfl,rfl⟩) ?_ ?_
                  rotate_left
                  · simp only [Act.put,z0_,z1_,z2_,i64_w,i32_w];rfl
                  refine pure_ (i:=33) (N:=some 131) (v:=undef) (a':=?_) #[T0,T0,T0,T0,T0,T0,T0,T0,T0,T0,T0,T0,T0,T0,T0,T0,T0,T0,T0,T0,T0,T0,T0,T0,T0,T0,T0,T0,T0,T0,T0,T0,T0,T0,F0,F0,F0,F0,F0,F0] rfl rfl (any_of HT_.out (by kernel_rfl)) (fun _ _ _ h => h) (Or.inr ⟨by rfl,rfl⟩) ?_ ?_
                  rotate_left
                  · simp only [Act.put,z0_,z1_,z2_,i64_w,i32_w];rfl
                  refine pure_ (i:=34) (N:=some 132) (v:=undef) (a':=?_) #[T0,T0,T0,T0,T0,T0,T0,T0,T0,T0,T0,T0,T0,T0,T0,T0,T0,T0,T0,T0,T0,T0,T0,T0,T0,T0,T0,T0,T0,T0,T0,T0,T0,T0,T0,F0,F0,F0,F0,F0] rfl rfl (any_of HT_.out (by kernel_rfl)) (fun _ _ _ h => h) (Or.inr ⟨by rfl,rfl⟩) ?_ ?_
                  rotate_left
                  · simp only [Act.put,z0_,z1_,z2_,i64_w,i32_w];rfl
                  refine pure_ (i:=35) (N:=some 133) (v:=undef) (a':=?_) #[T0,T0,T0,T0,T0,T0,T0,T0,T0,T0,T0,T0,T0,T0,T0,T0,T0,T0,T0,T0,T0,T0,T0,T0,T0,T0,T0,T0,T0,T0,T0,T0,T0,T0,T0,T0,F0,F0,F0,F0] rfl rfl (any_of HT_.out (by kernel_rfl)) (fun _ _ _ h => h) (Or.inr ⟨by rfl,rfl⟩) ?_ ?_
                  rotate_left
                  · simp only [Act.put,z0_,z1_,z2_,i64_w,i32_w];rfl
                  refine pure_ (i:=36) (N:=some 134) (v:=undef) (a':=?_) #[T0,T0,T0,T0,T0,T0,T0,T0,T0,T0,T0,T0,T0,T0,T0,T0,T0,T0,T0,T0,T0,T0,T0,T0,T0,T0,T0,T0,T0,T0,T0,T0,T0,T0,T0,T0,T0,F0,F0,F0] rfl rfl (any_of HT_.out (by kernel_rfl)) (fun _ _ _ h => h) (Or.inr ⟨by rfl,rfl⟩) ?_ ?_
                  rotate_left
                  · simp only [Act.put,z0_,z1_,z2_,i64_w,i32_w];rfl
                  refine pure_ (i:=37) (N:=some 135) (v:=undef) (a':=?_) #[T0,T0,T0,T0,T0,T0,T0,T0,T0,T0,T0,T0,T0,T0,T0,T0,T0,T0,T0,T0,T0,T0,T0,T0,T0,T0,T0,T0,T0,T0,T0,T0,T0,T0,T0,T0,T0,T0,F0,F0] rfl rfl (any_of HT_.out (by kernel_rfl)) (fun _ _ _ h => h) (Or.inr ⟨by rfl,rfl⟩) ?_ ?_
                  rotate_left
                  · simp only [Act.put,z0_,z1_,z2_,i64_w,i32_w];rfl
                  refine pure_ (i:=38) (N:=some 136) (v:=?_) (a':=?_) #[T0,T0,T0,T0,T0,T0,T0,T0,T0,T0,T0,T0,T0,T0,T0,T0,T0,T0,T0,T0,T0,T0,T0,T0,T0,T0,T0,T0,T0,T0,T0,T0,T0,T0,T0,T0,T0,T0,T0,F0] rfl rfl (any_of HT_.out (by kernel_rfl)) (fun _ _ _ h => h) (Or.inl ⟨by rfl,?_⟩) ?_ ?_
                  rotate_left
                  · intro w';go_simp;with_reducible rfl
                  rotate_left
                  · simp only [Act.put,z0_,z1_,z2_,i64_w,i32_w];rfl
                  refine pure_ (i:=39) (N:=some 137) (v:=?_) (a':=?_) #[T0,T0,T0,T0,T0,T0,T0,T0,T0,T0,T0,T0,T0,T0,T0,T0,T0,T0,T0,T0,T0,T0,T0,T0,T0,T0,T0,T0,T0,T0,T0,T0,T0,T0,T0,T0,T0,T0,T0,T0] rfl rfl (any_of HT_.out (by kernel_rfl)) (fun _ _ _ h => h) (Or.inl ⟨by rfl,?_⟩) ?_ ?_
                  rotate_left
                  · intro w';go_simp;with_reducible rfl
                  rotate_left
                  · simp only [Act.put,z0_,z1_,z2_,i64_w,i32_w];rfl
                  refine done_ (done_of HT_.out (by kernel_rfl)) ?_
                  try go_wp2
                  (first | go_meet | (refine Met.intro ?_;go_step;(repeat apply Exists.intro);refine ⟨?rel,by first | rw [c47b1] | (rw [c47b1];rfl)⟩))
                  case rel => exact ⟨_,(false),(by first | rfl | (simp;done) | (simp [*];done)),H',⟨by have:=HJ1.out;have:=HJ14.out;have:=HK3.out;have:=HK4.out;first | omega | exact Nat.le_refl _⟩,⟨by (try simp only [hl4_3]);(with_reducible repeat (first | apply Kd.R_alloc | apply Kd.R_drewN | apply Kd.R_drew));exact HO_4.out⟩,⟨by (try simp only [hl4_3]);(with_reducible repeat (first | refine blk_drewN ?_ _ | refine blk_drew ?_ | refine blk_alloc ?_ _));exact BK426.out⟩,⟨by repeat (first | (with_reducible first | exact HB.out | apply b0_ | apply b1_ | apply b2_ | refine below_set ?_ GE426.out) | exact HB.out)⟩⟩
                 rw [if_pos c53] at H;have c53b0 : decide (((rd_T34 l0_0 x74_4).f2) < ((rd_T34 l0_0 t430).f2)) = true:=decide_eq_true c53;clear c53;have H':=Aside0.mk H;clear H
                 try go_wp2
                 have n0_:=Aside0.mk (Kd.R_drew HO_4.out);have n1_:=Aside0.mk (blk_drew BK426.out);have n2_:=Aside0.mk (b2_ HB.out);clear HO_4;clear BK426;clear HB;have HO_4:=n0_;have BK426:=n1_;have HB:=n2_;clear n0_ n1_ n2_;have p443 : 0≤(x74_4 : Int):=of_decide_eq_true (by first | (with_reducible assumption) | assumption)
                 have q443 : x74_4 < (l0_0.length : Int):=of_decide_eq_true (by first | (with_reducible assumption) | assumption);obtain ⟨ad443,e443,hx443_0,hx443_1,hx443_2,hx443_3,hx443_4,hx443_5,hx443_6⟩:=at_T34 HR0_0.out x74_4 p443 q443;have hw443_6:=hx443_6;have hw443_5:=hx443_5;have hw443_4:=hx443_4;have hw443_3:=hx443_3;have hw443_2:=hx443_2;have hw443_1:=hx443_1
                 have hw443_0:=hx443_0;cases e443;replace hx443_0:=(HB.out.cell (World.block_lt_of_cell? w _ hx443_0)).trans hx443_0;replace hx443_1:=(HB.out.cell (World.block_lt_of_cell? w _ hx443_1)).trans hx443_1;replace hx443_2:=(HB.out.cell (World.block_lt_of_cell? w _ hx443_2)).trans hx443_2;replace hx443_3:=(HB.out.cell (World.block_lt_of_cell? w _ hx443_3)).trans hx443_3
                 replace hx443_4:=(HB.out.cell (World.block_lt_of_cell? w _ hx443_4)).trans hx443_4;replace hx443_5:=(HB.out.cell (World.block_lt_of_cell? w _ hx443_5)).trans hx443_5;replace hx443_6:=(HB.out.cell (World.block_lt_of_cell? w _ hx443_6)).trans hx443_6;replace p443:=eq_true p443;replace q443:=eq_true q443
                 have p444 : 0≤(t430 : Int):=of_decide_eq_true (by first | (with_reducible assumption) | assumption);have q444 : t430 < (l0_0.length : Int):=of_decide_eq_true (by first | (with_reducible assumption) | assumption);obtain ⟨ad444,e444,hx444_0,hx444_1,hx444_2,hx444_3,hx444_4,hx444_5,hx444_6⟩:=at_T34 HR0_0.out t430 p444 q444;have hw444_6:=hx444_6;have hw444_5:=hx444_5
                 have hw444_4:=hx444_4;have hw444_3:=hx444_3;have hw444_2:=hx444_2;have hw444_1:=hx444_1;have hw444_0:=hx444_0;obtain rfl : ad443 = ad444:=(by injection e444);replace hx444_0:=(HB.out.cell (World.block_lt_of_cell? w _ hx444_0)).trans hx444_0;replace hx444_1:=(HB.out.cell (World.block_lt_of_cell? w _ hx444_1)).trans hx444_1
                 replace hx444_2:=(HB.out.cell (World.block_lt_of_cell? w _ hx444_2)).trans hx444_2;replace hx444_3:=(HB.out.cell (World.block_lt_of_cell? w _ hx444_3)).trans hx444_3;replace hx444_4:=(HB.out.cell (World.block_lt_of_cell? w _ hx444_4)).trans hx444_4;replace hx444_5:=(HB.out.cell (World.block_lt_of_cell? w _ hx444_5)).trans hx444_5
                 replace hx444_6:=(HB.out.cell (World.block_lt_of_cell? w _ hx444_6)).trans hx444_6;replace p444:=eq_true p444;replace q444:=eq_true q444
                 refine start_ (n:=40) (S:=fun w' => w'.cell? ⟨gb426,0,none⟩ = some (.slice (some ad443) l0_0.length c0_0)∧w'.cell? ⟨gb426,1,none⟩ = some (.slice A0_1 l0_1.length c0_1)∧w'.cell? ⟨gb426,2,none⟩ = some (.int .i64 a0_2)∧w'.cell? ⟨gb426,3,none⟩ = some (.bool a0_3)∧w'.cell? (ad443.add ((x74_4).toNat * 7)) = some (.int .i64 ((rd_T34 l0_0 x74_4).f0))∧w'.cell? ⟨(ad443.add ((x74_4).toNat * 7)).block,(ad443.add ((x74_4).toNat * 7)).off + 1,none⟩ = some (.int .i64 ((rd_T34 l0_0 x74_4).f1))∧w'.cell? ⟨(ad443.add ((x74_4).toNat * 7)).block,(ad443.add ((x74_4).toNat * 7)).off + 2,none⟩ = some (.int .i64 ((rd_T34 l0_0 x74_4).f2))∧w'.cell? ⟨(ad443.add ((x74_4).toNat * 7)).block,(ad443.add ((x74_4).toNat * 7)).off + 3,none⟩ = some (.int .i64 ((rd_T34 l0_0 x74_4).f3))∧w'.cell? ⟨(ad443.add ((x74_4).toNat * 7)).block,(ad443.add ((x74_4).toNat * 7)).off + 4,none⟩ = some (.int .i64 ((rd_T34 l0_0 x74_4).f4))∧w'.cell? ⟨(ad443.add ((x74_4).toNat * 7)).block,(ad443.add ((x74_4).toNat * 7)).off + 5,none⟩ = some (.bool ((rd_T34 l0_0 x74_4).f5))∧w'.cell? ⟨(ad443.add ((x74_4).toNat * 7)).block,(ad443.add ((x74_4).toNat * 7)).off + 6,none⟩ = some (.bool ((rd_T34 l0_0 x74_4).f6))∧w'.cell? (ad443.add ((t430).toNat * 7)) = some (.int .i64 ((rd_T34 l0_0 t430).f0))∧w'.cell? ⟨(ad443.add ((t430).toNat * 7)).block,(ad443.add ((t430).toNat * 7)).off + 1,none⟩ = some (.int .i64 ((rd_T34 l0_0 t430).f1))∧w'.cell? ⟨(ad443.add ((t430).toNat * 7)).block,(ad443.add ((t430).toNat * 7)).off + 2,none⟩ = some (.int .i64 ((rd_T34 l0_0 t430).f2))∧w'.cell? ⟨(ad443.add ((t430).toNat * 7)).block,(ad443.add ((t430).toNat * 7)).off + 3,none⟩ = some (.int .i64 ((rd_T34 l0_0 t430).f3))∧w'.cell? ⟨(ad443.add ((t430).toNat * 7)).block,(ad443.add ((t430).toNat * 7)).off + 4,none⟩ = some (.int .i64 ((rd_T34 l0_0 t430).f4))∧w'.cell? ⟨(ad443.add ((t430).toNat * 7)).block,(ad443.add ((t430).toNat * 7)).off + 5,none⟩ = some (.bool ((rd_T34 l0_0 t430).f5))∧w'.cell? ⟨(ad443.add ((t430).toNat * 7)).block,(ad443.add ((t430).toNat * 7)).off + 6,none⟩ = some (.bool ((rd_T34 l0_0 t430).f6))) (ds:=[]) #[F0,F0,F0,F0,F0,F0,F0,F0,F0,F0,F0,F0,F0,F0,F0,F0,F0,F0,F0,F0,F0,F0,F0,F0,F0,F0,F0,F0,F0,F0,F0,F0,F0,F0,F0,F0,F0,F0,F0,F0] (by kernel_rfl) rfl rfl ⟨(blk_cell BK426.out 0).trans rfl,(blk_cell BK426.out 1).trans rfl,(blk_cell BK426.out 2).trans rfl,(blk_cell BK426.out 3).trans rfl,((HB.out.cell (World.block_lt_of_cell? w _ hw443_0)).trans hw443_0),((HB.out.cell (World.block_lt_of_cell? w _ hw443_1)).trans hw443_1),((HB.out.cell (World.block_lt_of_cell? w _ hw443_2)).trans hw443_2),((HB.out.cell (World.block_lt_of_cell? w _ hw443_3)).trans hw443_3),((HB.out.cell (World.block_lt_of_cell? w _ hw443_4)).trans hw443_4),((HB.out.cell (World.block_lt_of_cell? w _ hw443_5)).trans hw443_5),((HB.out.cell (World.block_lt_of_cell? w _ hw443_6)).trans hw443_6),((HB.out.cell (World.block_lt_of_cell? w _ hw444_0)).trans hw444_0),((HB.out.cell (World.block_lt_of_cell? w _ hw444_1)).trans hw444_1),((HB.out.cell (World.block_lt_of_cell? w _ hw444_2)).trans hw444_2),((HB.out.cell (World.block_lt_of_cell? w _ hw444_3)).trans hw444_3),((HB.out.cell (World.block_lt_of_cell? w _ hw444_4)).trans hw444_4),((HB.out.cell (World.block_lt_of_cell? w _ hw444_5)).trans hw444_5),((HB.out.cell (World.block_lt_of_cell? w _ hw444_6)).trans hw444_6)⟩ (fun hHeld => ?_);refine with_tabW estoverslaw39_ReclaimplanOldest.tab18 estoverslaw39_ReclaimplanOldest.bits18 (fun HT_ HW_ => ?_)
                 generalize w46.drew = w54 at HO_4 BK426 HB hx443_0 hx443_1 hx443_2 hx443_3 hx443_4 hx443_5 hx443_6 hx444_0 hx444_1 hx444_2 hx444_3 hx444_4 hx444_5 hx444_6 hHeld ⊢
                 refine pure_ (i:=0) (N:=some 98) (v:=?_) (a':=?_) #[T0,F0,F0,F0,F0,F0,F0,F0,F0,F0,F0,F0,F0,F0,F0,F0,F0,F0,F0,F0,F0,F0,F0,F0,F0,F0,F0,F0,F0,F0,F0,F0,F0,F0,F0,F0,F0,F0,F0,F0] rfl rfl (any_of HT_.out (by kernel_rfl)) (fun _ _ _ h => h) (Or.inl ⟨by rfl,?_⟩) ?_ ?_
                 rotate_left
                 · intro w';go_simp;with_reducible rfl
                 rotate_left
                 · simp only [Act.put,z0_,z1_,z2_,i64_w,i32_w];rfl
                 refine pure_ (i:=1) (N:=some 99) (v:=?_) (a':=?_) #[T0,T0,F0,F0,F0,F0,F0,F0,F0,F0,F0,F0,F0,F0,F0,F0,F0,F0,F0,F0,F0,F0,F0,F0,F0,F0,F0,F0,F0,F0,F0,F0,F0,F0,F0,F0,F0,F0,F0,F0] rfl rfl (any_of HT_.out (by kernel_rfl)) (fun _ _ _ h => h) (Or.inl ⟨by rfl,?_⟩) ?_ ?_
                 rotate_left
                 · intro w';go_simp;with_reducible rfl
                 rotate_left
                 · simp only [Act.put,z0_,z1_,z2_,i64_w,i32_w];rfl
                 refine pure_ (i:=2) (N:=some 100) (v:=?_) (a':=?_) #[T0,T0,T0,F0,F0,F0,F0,F0,F0,F0,F0,F0,F0,F0,F0,F0,F0,F0,F0,F0,F0,F0,F0,F0,F0,F0,F0,F0,F0,F0,F0,F0,F0,F0,F0,F0,F0,F0,F0,F0] rfl rfl (any_of HT_.out (by kernel_rfl)) (fun _ _ _ h => h) (Or.inl ⟨by rfl,?_⟩) ?_ ?_
                 rotate_left
                 · intro w';go_simp;with_reducible rfl
                 rotate_left
                 · simp only [Act.put,z0_,z1_,z2_,i64_w,i32_w];rfl
                 refine pure_ (i:=3) (N:=some 101) (v:=?_) (a':=?_) #[T0,T0,T0,T0,F0,F0,F0,F0,F0,F0,F0,F0,F0,F0,F0,F0,F0,F0,F0,F0,F0,F0,F0,F0,F0,F0,F0,F0,F0,F0,F0,F0,F0,F0,F0,F0,F0,F0,F0,F0] rfl rfl (any_of HT_.out (by kernel_rfl)) (fun _ _ _ h => h) (Or.inl ⟨by rfl,?_⟩) ?_ ?_
                 rotate_left
                 · intro w';go_simp;with_reducible rfl
                 rotate_left
                 · simp only [Act.put,z0_,z1_,z2_,i64_w,i32_w];rfl
                 refine pure_ (i:=4) (N:=some 102) (v:=?_) (a':=?_) #[T0,T0,T0,T0,T0,F0,F0,F0,F0,F0,F0,F0,F0,F0,F0,F0,F0,F0,F0,F0,F0,F0,F0,F0,F0,F0,F0,F0,F0,F0,F0,F0,F0,F0,F0,F0,F0,F0,F0,F0] rfl rfl (any_of HT_.out (by kernel_rfl)) (fun _ _ _ h => h) (Or.inl ⟨by rfl,?_⟩) ?_ ?_
                 rotate_left
                 · intro w';go_simp;with_reducible rfl
                 rotate_left
                 · simp only [Act.put,z0_,z1_,z2_,i64_w,i32_w];rfl
                 refine pure_ (i:=5) (N:=some 103) (v:=?_) (a':=?_) #[T0,T0,T0,T0,T0,T0,F0,F0,F0,F0,F0,F0,F0,F0,F0,F0,F0,F0,F0,F0,F0,F0,F0,F0,F0,F0,F0,F0,F0,F0,F0,F0,F0,F0,F0,F0,F0,F0,F0,F0] rfl rfl (any_of HT_.out (by kernel_rfl)) (fun _ _ _ h => h) (Or.inl ⟨by rfl,?_⟩) ?_ ?_
                 rotate_left
                 · intro w';go_simp;with_reducible rfl
                 rotate_left
                 · simp only [Act.put,z0_,z1_,z2_,i64_w,i32_w];rfl
                 refine pure_ (i:=6) (N:=some 104) (v:=?_) (a':=?_) #[T0,T0,T0,T0,T0,T0,T0,F0,F0,F0,F0,F0,F0,F0,F0,F0,F0,F0,F0,F0,F0,F0,F0,F0,F0,F0,F0,F0,F0,F0,F0,F0,F0,F0,F0,F0,F0,F0,F0,F0] rfl rfl (any_of HT_.out (by kernel_rfl)) (fun _ _ _ h => h) (Or.inl ⟨by rfl,?_⟩) ?_ ?_
                 rotate_left
                 · intro w';go_simp;with_reducible rfl
                 rotate_left
                 · simp only [Act.put,z0_,z1_,z2_,i64_w,i32_w];rfl
                 refine pure_ (i:=8) (N:=some 106) (v:=?_) (a':=?_) #[T0,T0,T0,T0,T0,T0,T0,F0,T0,F0,F0,F0,F0,F0,F0,F0,F0,F0,F0,F0,F0,F0,F0,F0,F0,F0,F0,F0,F0,F0,F0,F0,F0,F0,F0,F0,F0,F0,F0,F0] rfl rfl (any_of HT_.out (by kernel_rfl)) (fun _ _ _ h => h) (Or.inl ⟨by rfl,?_⟩) ?_ ?_
                 rotate_left
                 · intro w';go_simp;with_reducible rfl
                 rotate_left
                 · simp only [Act.put,z0_,z1_,z2_,i64_w,i32_w];rfl
                 refine pure_ (i:=12) (N:=some 110) (v:=?_) (a':=?_) #[T0,T0,T0,T0,T0,T0,T0,F0,T0,F0,F0,F0,T0,F0,F0,F0,F0,F0,F0,F0,F0,F0,F0,F0,F0,F0,F0,F0,F0,F0,F0,F0,F0,F0,F0,F0,F0,F0,F0,F0] rfl rfl (any_of HT_.out (by kernel_rfl)) (fun _ _ _ h => h) (Or.inl ⟨by rfl,?_⟩) ?_ ?_
                 rotate_left
                 · intro w';go_simp;with_reducible rfl
                 rotate_left
                 · simp only [Act.put,z0_,z1_,z2_,i64_w,i32_w];rfl
                 refine pure_ (i:=14) (N:=some 112) (v:=?_) (a':=?_) #[T0,T0,T0,T0,T0,T0,T0,F0,T0,F0,F0,F0,T0,F0,T0,F0,F0,F0,F0,F0,F0,F0,F0,F0,F0,F0,F0,F0,F0,F0,F0,F0,F0,F0,F0,F0,F0,F0,F0,F0] rfl rfl (any_of HT_.out (by kernel_rfl)) (fun _ _ _ h => h) (Or.inl ⟨by rfl,?_⟩) ?_ ?_
                 rotate_left
                 · intro w';go_simp;with_reducible rfl
                 rotate_left
                 · simp only [Act.put,z0_,z1_,z2_,i64_w,i32_w];rfl
                 refine take_ (i:=7) (N:=some 105) (v:=?_) (a':=?_) #[T0,T0,T0,T0,T0,T0,T0,T0,T0,F0,F0,F0,T0,F0,T0,F0,F0,F0,F0,F0,F0,F0,F0,F0,F0,F0,F0,F0,F0,F0,F0,F0,F0,F0,F0,F0,F0,F0,F0,F0] rfl rfl (take_ofW HT_.out HW_.out (by kernel_rfl)) (fun _ _ _ h => h) (Or.inl ⟨by rfl,?_⟩) hHeld ?_ ?_
                 rotate_left
                 ·
                  rintro w' ⟨s0,s1,s2,s3,s4,s5,s6,s7,s8,s9,s10,s11,s12,s13,s14,s15,s16,s17⟩
                  go_simp;with_reducible rfl
                 rotate_left
                 · simp only [Act.put,z0_,z1_,z2_,i64_w,i32_w];rfl
                 refine pure_ (i:=9) (N:=some 107) (v:=?_) (a':=?_) #[T0,T0,T0,T0,T0,T0,T0,T0,T0,T0,F0,F0,T0,F0,T0,F0,F0,F0,F0,F0,F0,F0,F0,F0,F0,F0,F0,F0,F0,F0,F0,F0,F0,F0,F0,F0,F0,F0,F0,F0] rfl rfl (any_of HT_.out (by kernel_rfl)) (fun _ _ _ h => h) (Or.inl ⟨by rfl,?_⟩) ?_ ?_
                 rotate_left
                 · intro w';go_simp;with_reducible rfl
                 rotate_left
                 · simp only [Act.put,z0_,z1_,z2_,i64_w,i32_w];rfl
                 refine pure_ (i:=10) (N:=some 108) (v:=?_) (a':=?_) #[T0,T0,T0,T0,T0,T0,T0,T0,T0,T0,T0,F0,T0,F0,T0,F0,F0,F0,F0,F0,F0,F0,F0,F0,F0,F0,F0,F0,F0,F0,F0,F0,F0,F0,F0,F0,F0,F0,F0,F0] rfl rfl (any_of HT_.out (by kernel_rfl)) (fun _ _ _ h => h) (Or.inl ⟨by rfl,?_⟩) ?_ ?_
                 rotate_left
                 · intro w';go_simp;with_reducible rfl
                 rotate_left
                 · simp only [Act.put,z0_,z1_,z2_,i64_w,i32_w];rfl
                 refine take_ (i:=11) (N:=some 109) (v:=?_) (a':=?_) #[T0,T0,T0,T0,T0,T0,T0,T0,T0,T0,T0,T0,T0,F0,T0,F0,F0,F0,F0,F0,F0,F0,F0,F0,F0,F0,F0,F0,F0,F0,F0,F0,F0,F0,F0,F0,F0,F0,F0,F0] rfl rfl (take_ofW HT_.out HW_.out (by kernel_rfl)) (fun _ _ _ h => h) (Or.inl ⟨by rfl,?_⟩) hHeld ?_ ?_
                 rotate_left
                 ·
                  rintro w' ⟨s0,s1,s2,s3,s4,s5,s6,s7,s8,s9,s10,s11,s12,s13,s14,s15,s16,s17⟩
                  go_simp;with_reducible rfl
                 rotate_left
                 · simp only [Act.put,z0_,z1_,z2_,i64_w,i32_w];rfl
                 refine take_ (i:=13) (N:=some 111) (v:=?_) (a':=?_) #[T0,T0,T0,T0,T0,T0,T0,T0,T0,T0,T0,T0,T0,T0,T0,F0,F0,F0,F0,F0,F0,F0,F0,F0,F0,F0,F0,F0,F0,F0,F0,F0,F0,F0,F0,F0,F0,F0,F0,F0] rfl rfl (take_ofW HT_.out HW_.out (by kernel_rfl)) (fun _ _ _ h => h) (Or.inl ⟨by rfl,?_⟩) hHeld ?_ ?_
                 rotate_left
                 ·
                  rintro w' ⟨s0,s1,s2,s3,s4,s5,s6,s7,s8,s9,s10,s11,s12,s13,s14,s15,s16,s17⟩
                  go_simp;with_reducible rfl
                 rotate_left
                 · simp only [Act.put,z0_,z1_,z2_,i64_w,i32_w];rfl
                 refine pure_ (i:=15) (N:=some 113) (v:=?_) (a':=?_) #[T0,T0,T0,T0,T0,T0,T0,T0,T0,T0,T0,T0,T0,T0,T0,T0,F0,F0,F0,F0,F0,F0,F0,F0,F0,F0,F0,F0,F0,F0,F0,F0,F0,F0,F0,F0,F0,F0,F0,F0] rfl rfl (any_of HT_.out (by kernel_rfl)) (fun _ _ _ h => h) (Or.inl ⟨by rfl,?_⟩) ?_ ?_
                 rotate_left
                 · intro w';go_simp;with_reducible rfl
                 rotate_left
                 · simp only [Act.put,z0_,z1_,z2_,i64_w,i32_w];rfl
                 refine pure_ (i:=16) (N:=some 114) (v:=?_) (a':=?_) #[T0,T0,T0,T0,T0,T0,T0,T0,T0,T0,T0,T0,T0,T0,T0,T0,T0,F0,F0,F0,F0,F0,F0,F0,F0,F0,F0,F0,F0,F0,F0,F0,F0,F0,F0,F0,F0,F0,F0,F0] rfl rfl (any_of HT_.out (by kernel_rfl)) (fun _ _ _ h => h) (Or.inl ⟨by rfl,?_⟩) ?_ ?_
                 rotate_left
                 · intro w';go_simp;with_reducible rfl
                 rotate_left
                 · simp only [Act.put,z0_,z1_,z2_,i64_w,i32_w];rfl
                 refine take_ (i:=17) (N:=some 115) (v:=?_) (a':=?_) #[T0,T0,T0,T0,T0,T0,T0,T0,T0,T0,T0,T0,T0,T0,T0,T0,T0,T0,F0,F0,F0,F0,F0,F0,F0,F0,F0,F0,F0,F0,F0,F0,F0,F0,F0,F0,F0,F0,F0,F0] rfl rfl (take_ofW HT_.out HW_.out (by kernel_rfl)) (fun _ _ _ h => h) (Or.inl ⟨by rfl,?_⟩) hHeld ?_ ?_
                 rotate_left
                 ·
                  rintro w' ⟨s0,s1,s2,s3,s4,s5,s6,s7,s8,s9,s10,s11,s12,s13,s14,s15,s16,s17⟩
                  go_simp;with_reducible rfl
                 rotate_left
                 · simp only [Act.put,z0_,z1_,z2_,i64_w,i32_w];rfl
                 refine pure_ (i:=18) (N:=some 116) (v:=?_) (a':=?_) #[T0,T0,T0,T0,T0,T0,T0,T0,T0,T0,T0,T0,T0,T0,T0,T0,T0,T0,T0,F0,F0,F0,F0,F0,F0,F0,F0,F0,F0,F0,F0,F0,F0,F0,F0,F0,F0,F0,F0,F0] rfl rfl (any_of HT_.out (by kernel_rfl)) (fun _ _ _ h => h) (Or.inl ⟨by rfl,?_⟩) ?_ ?_
                 rotate_left
                 · intro w';go_simp;with_reducible rfl
                 rotate_left
                 · simp only [Act.put,z0_,z1_,z2_,i64_w,i32_w];rfl
                 refine pure_ (i:=19) (N:=some 117) (v:=?_) (a':=?_) #[T0,T0,T0,T0,T0,T0,T0,T0,T0,T0,T0,T0,T0,T0,T0,T0,T0,T0,T0,T0,F0,F0,F0,F0,F0,F0,F0,F0,F0,F0,F0,F0,F0,F0,F0,F0,F0,F0,F0,F0] rfl rfl (any_of HT_.out (by kernel_rfl)) (fun _ _ _ h => h) (Or.inl ⟨by rfl,?_⟩) ?_ ?_
                 rotate_left
                 · intro w';go_simp;with_reducible rfl
                 rotate_left
                 · simp only [Act.put,z0_,z1_,z2_,i64_w,i32_w];rfl
                 refine pure_ (i:=20) (N:=some 118) (v:=?_) (a':=?_) #[T0,T0,T0,T0,T0,T0,T0,T0,T0,T0,T0,T0,T0,T0,T0,T0,T0,T0,T0,T0,T0,F0,F0,F0,F0,F0,F0,F0,F0,F0,F0,F0,F0,F0,F0,F0,F0,F0,F0,F0] rfl rfl (any_of HT_.out (by kernel_rfl)) (fun _ _ _ h => h) (Or.inl ⟨by rfl,?_⟩) ?_ ?_
                 rotate_left
                 · intro w';go_simp;with_reducible rfl
                 rotate_left
                 · simp only [Act.put,z0_,z1_,z2_,i64_w,i32_w];rfl
                 refine pure_ (i:=21) (N:=some 119) (v:=?_) (a':=?_) #[T0,T0,T0,T0,T0,T0,T0,T0,T0,T0,T0,T0,T0,T0,T0,T0,T0,T0,T0,T0,T0,T0,F0,F0,F0,F0,F0,F0,F0,F0,F0,F0,F0,F0,F0,F0,F0,F0,F0,F0] rfl rfl (any_of HT_.out (by kernel_rfl)) (fun _ _ _ h => h) (Or.inl ⟨by rfl,?_⟩) ?_ ?_
                 rotate_left
                 · intro w';go_simp;with_reducible rfl
                 rotate_left
                 · simp only [Act.put,z0_,z1_,z2_,i64_w,i32_w];rfl
                 refine pure_ (i:=22) (N:=some 120) (v:=undef) (a':=?_) #[T0,T0,T0,T0,T0,T0,T0,T0,T0,T0,T0,T0,T0,T0,T0,T0,T0,T0,T0,T0,T0,T0,T0,F0,F0,F0,F0,F0,F0,F0,F0,F0,F0,F0,F0,F0,F0,F0,F0,F0] rfl rfl (any_of HT_.out (by kernel_rfl)) (fun _ _ _ h => h) (Or.inr ⟨by rfl,rfl⟩) ?_ ?_
                 rotate_left
                 · simp only [Act.put,z0_,z1_,z2_,i64_w,i32_w];rfl
                 refine pure_ (i:=23) (N:=some 121) (v:=undef) (a':=?_) #[T0,T0,T0,T0,T0,T0,T0,T0,T0,T0,T0,T0,T0,T0,T0,T0,T0,T0,T0,T0,T0,T0,T0,T0,F0,F0,F0,F0,F0,F0,F0,F0,F0,F0,F0,F0,F0,F0,F0,F0] rfl rfl (any_of HT_.out (by kernel_rfl)) (fun _ _ _ h => h) (Or.inr ⟨by rfl,rfl⟩) ?_ ?_
                 rotate_left
                 · simp only [Act.put,z0_,z1_,z2_,i64_w,i32_w];rfl
                 refine pure_ (i:=24) (N:=some 122) (v:=undef) (a':=?_) #[T0,T0,T0,T0,T0,T0,T0,T0,T0,T0,T0,T0,T0,T0,T0,T0,T0,T0,T0,T0,T0,T0,T0,T0,T0,F0,F0,F0,F0,F0,F0,F0,F0,F0,F0,F0,F0,F0,F0,F0] rfl rfl (any_of HT_.out (by kernel_rfl)) (fun _ _ _ h => h) (Or.inr ⟨by rfl,rfl⟩) ?_ ?_
                 rotate_left
                 · simp only [Act.put,z0_,z1_,z2_,i64_w,i32_w];rfl
                 refine pure_ (i:=25) (N:=some 123) (v:=undef) (a':=?_) #[T0,T0,T0,T0,T0,T0,T0,T0,T0,T0,T0,T0,T0,T0,T0,T0,T0,T0,T0,T0,T0,T0,T0,T0,T0,T0,F0,F0,F0,F0,F0,F0,F0,F0,F0,F0,F0,F0,F0,F0] rfl rfl (any_of HT_.out (by kernel_rfl)) (fun _ _ _ h => h) (Or.inr ⟨by rfl,rfl⟩) ?_ ?_
                 rotate_left
                 · simp only [Act.put,z0_,z1_,z2_,i64_w,i32_w];rfl
                 refine pure_ (i:=26) (N:=some 124) (v:=undef) (a':=?_) #[T0,T0,T0,T0,T0,T0,T0,T0,T0,T0,T0,T0,T0,T0,T0,T0,T0,T0,T0,T0,T0,T0,T0,T0,T0,T0,T0,F0,F0,F0,F0,F0,F0,F0,F0,F0,F0,F0,F0,F0] rfl rfl (any_of HT_.out (by kernel_rfl)) (fun _ _ _ h => h) (Or.inr ⟨by rfl,rfl⟩) ?_ ?_
                 rotate_left
                 · simp only [Act.put,z0_,z1_,z2_,i64_w,i32_w];rfl
                 refine pure_ (i:=27) (N:=some 125) (v:=undef) (a':=?_) #[T0,T0,T0,T0,T0,T0,T0,T0,T0,T0,T0,T0,T0,T0,T0,T0,T0,T0,T0,T0,T0,T0,T0,T0,T0,T0,T0,T0,F0,F0,F0,F0,F0,F0,F0,F0,F0,F0,F0,F0] rfl rfl (any_of HT_.out (by kernel_rfl)) (fun _ _ _ h => h) (Or.inr ⟨by rfl,rfl⟩) ?_ ?_
                 rotate_left
                 · simp only [Act.put,z0_,z1_,z2_,i64_w,i32_w];rfl
                 refine pure_ (i:=28) (N:=some 126) (v:=undef) (a':=?_) #[T0,T0,T0,T0,T0,T0,T0,T0,T0,T0,T0,T0,T0,T0,T0,T0,T0,T0,T0,T0,T0,T0,T0,T0,T0,T0,T0,T0,T0,F0,F0,F0,F0,F0,F0,F0,F0,F0,F0,F0] rfl rfl (any_of HT_.out (by kernel_rfl)) (fun _ _ _ h => h) (Or.inr ⟨by rfl,rfl⟩) ?_ ?_
                 rotate_left
                 · simp only [Act.put,z0_,z1_,z2_,i64_w,i32_w];rfl
                 refine pure_ (i:=29) (N:=some 127) (v:=undef) (a':=?_) #[T0,T0,T0,T0,T0,T0,T0,T0,T0,T0,T0,T0,T0,T0,T0,T0,T0,T0,T0,T0,T0,T0,T0,T0,T0,T0,T0,T0,T0,T0,F0,F0,F0,F0,F0,F0,F0,F0,F0,F0] rfl rfl (any_of HT_.out (by kernel_rfl)) (fun _ _ _ h => h) (Or.inr ⟨by rfl,rfl⟩) ?_ ?_
                 rotate_left
                 · simp only [Act.put,z0_,z1_,z2_,i64_w,i32_w];rfl
                 refine pure_ (i:=30) (N:=some 128) (v:=undef) (a':=?_) #[T0,T0,T0,T0,T0,T0,T0,T0,T0,T0,T0,T0,T0,T0,T0,T0,T0,T0,T0,T0,T0,T0,T0,T0,T0,T0,T0,T0,T0,T0,T0,F0,F0,F0,F0,F0,F0,F0,F0,F0] rfl rfl (any_of HT_.out (by kernel_rfl)) (fun _ _ _ h => h) (Or.inr ⟨by rfl,rfl⟩) ?_ ?_
                 rotate_left
                 · simp only [Act.put,z0_,z1_,z2_,i64_w,i32_w];rfl
                 refine pure_ (i:=31) (N:=some 129) (v:=undef) (a':=?_) #[T0,T0,T0,T0,T0,T0,T0,T0,T0,T0,T0,T0,T0,T0,T0,T0,T0,T0,T0,T0,T0,T0,T0,T0,T0,T0,T0,T0,T0,T0,T0,T0,F0,F0,F0,F0,F0,F0,F0,F0] rfl rfl (any_of HT_.out (by kernel_rfl)) (fun _ _ _ h => h) (Or.inr ⟨by rfl,rfl⟩) ?_ ?_
                 rotate_left
                 · simp only [Act.put,z0_,z1_,z2_,i64_w,i32_w];rfl
                 refine pure_ (i:=32) (N:=some 130) (v:=undef) (a':=?_) #[T0,T0,T0,T0,T0,T0,T0,T0,T0,T0,T0,T0,T0,T0,T0,T0,T0,T0,T0,T0,T0,T0,T0,T0,T0,T0,T0,T0,T0,T0,T0,T0,T0,F0,F0,F0,F0,F0,F0,F0] rfl rfl (any_of HT_.out (by kernel_rfl)) (fun _ _ _ h => h) (Or.inr ⟨by rfl,rfl⟩) ?_ ?_
                 rotate_left
                 · simp only [Act.put,z0_,z1_,z2_,i64_w,i32_w];rfl
                 refine pure_ (i:=33) (N:=some 131) (v:=undef) (a':=?_) #[T0,T0,T0,T0,T0,T0,T0,T0,T0,T0,T0,T0,T0,T0,T0,T0,T0,T0,T0,T0,T0,T0,T0,T0,T0,T0,T0,T0,T0,T0,T0,T0,T0,T0,F0,F0,F0,F0,F0,F0] rfl rfl (any_of HT_.out (by kernel_rfl)) (fun _ _ _ h => h) (Or.inr ⟨by rfl,rfl⟩) ?_ ?_
                 rotate_left
                 · simp only [Act.put,z0_,z1_,z2_,i64_w,i32_w];rfl
                 refine pure_ (i:=34) (N:=some 132) (v:=undef) (a':=?_) #[T0,T0,T0,T0,T0,T0,T0,T0,T0,T0,T0,T0,T0,T0,T0,T0,T0,T0,T0,T0,T0,T0,T0,T0,T0,T0,T0,T0,T0,T0,T0,T0,T0,T0,T0,F0,F0,F0,F0,F0] rfl rfl (any_of HT_.out (by kernel_rfl)) (fun _ _ _ h => h) (Or.inr ⟨by rfl,rfl⟩) ?_ ?_
                 rotate_left
                 · simp only [Act.put,z0_,z1_,z2_,i64_w,i32_w];rfl
                 refine pure_ (i:=35) (N:=some 133) (v:=undef) (a':=?_) #[T0,T0,T0,T0,T0,T0,T0,T0,T0,T0,T0,T0,T0,T0,T0,T0,T0,T0,T0,T0,T0,T0,T0,T0,T0,T0,T0,T0,T0,T0,T0,T0,T0,T0,T0,T0,F0,F0,F0,F0] rfl rfl (any_of HT_.out (by kernel_rfl)) (fun _ _ _ h => h) (Or.inr ⟨by rfl,rfl⟩) ?_ ?_
                 rotate_left
                 · simp only [Act.put,z0_,z1_,z2_,i64_w,i32_w];rfl
                 refine pure_ (i:=36) (N:=some 134) (v:=undef) (a':=?_) #[T0,T0,T0,T0,T0,T0,T0,T0,T0,T0,T0,T0,T0,T0,T0,T0,T0,T0,T0,T0,T0,T0,T0,T0,T0,T0,T0,T0,T0,T0,T0,T0,T0,T0,T0,T0,T0,F0,F0,F0] rfl rfl (any_of HT_.out (by kernel_rfl)) (fun _ _ _ h => h) (Or.inr ⟨by rfl,rfl⟩) ?_ ?_
                 rotate_left
                 · simp only [Act.put,z0_,z1_,z2_,i64_w,i32_w];rfl
                 refine pure_ (i:=37) (N:=some 135) (v:=undef) (a':=?_) #[T0,T0,T0,T0,T0,T0,T0,T0,T0,T0,T0,T0,T0,T0,T0,T0,T0,T0,T0,T0,T0,T0,T0,T0,T0,T0,T0,T0,T0,T0,T0,T0,T0,T0,T0,T0,T0,T0,F0,F0] rfl rfl (any_of HT_.out (by kernel_rfl)) (fun _ _ _ h => h) (Or.inr ⟨by rfl,rfl⟩) ?_ ?_
                 rotate_left
                 · simp only [Act.put,z0_,z1_,z2_,i64_w,i32_w];rfl
                 refine pure_ (i:=38) (N:=some 136) (v:=undef) (a':=?_) #[T0,T0,T0,T0,T0,T0,T0,T0,T0,T0,T0,T0,T0,T0,T0,T0,T0,T0,T0,T0,T0,T0,T0,T0,T0,T0,T0,T0,T0,T0,T0,T0,T0,T0,T0,T0,T0,T0,T0,F0] rfl rfl (any_of HT_.out (by kernel_rfl)) (fun _ _ _ h => h) (Or.inr ⟨by rfl,rfl⟩) ?_ ?_
                 rotate_left
                 · simp only [Act.put,z0_,z1_,z2_,i64_w,i32_w];rfl
                 refine pure_ (i:=39) (N:=some 137) (v:=?_) (a':=?_) #[T0,T0,T0,T0,T0,T0,T0,T0,T0,T0,T0,T0,T0,T0,T0,T0,T0,T0,T0,T0,T0,T0,T0,T0,T0,T0,T0,T0,T0,T0,T0,T0,T0,T0,T0,T0,T0,T0,T0,T0] rfl rfl (any_of HT_.out (by kernel_rfl)) (fun _ _ _ h => h) (Or.inl ⟨by rfl,?_⟩) ?_ ?_
                 rotate_left
                 · intro w';go_simp;with_reducible rfl
                 rotate_left
                 · simp only [Act.put,z0_,z1_,z2_,i64_w,i32_w];rfl
                 refine done_ (done_of HT_.out (by kernel_rfl)) ?_
                 try go_wp2
                 (first | go_meet | (refine Met.intro ?_;go_step;(repeat apply Exists.intro);refine ⟨?rel,by first | rw [c47b1] | (rw [c47b1];rfl)⟩))
                 case rel => exact ⟨_,(true),(by first | rfl | (simp;done) | (simp [*];done)),H',⟨by have:=HJ1.out;have:=HJ14.out;have:=HK3.out;have:=HK4.out;first | omega | exact Nat.le_refl _⟩,⟨by (try simp only [hl4_3]);(with_reducible repeat (first | apply Kd.R_alloc | apply Kd.R_drewN | apply Kd.R_drew));exact HO_4.out⟩,⟨by (try simp only [hl4_3]);(with_reducible repeat (first | refine blk_drewN ?_ _ | refine blk_drew ?_ | refine blk_alloc ?_ _));exact BK426.out⟩,⟨by repeat (first | (with_reducible first | exact HB.out | apply b0_ | apply b1_ | apply b2_ | refine below_set ?_ GE426.out) | exact HB.out)⟩⟩
                case rest =>
                 clear HC42;obtain ⟨kq,x137_41,rfl,HA,HJ41,HO_4,BK426,HB⟩:=hcut
                 cases kq with
                  | zero => exact absurd HA.out (by simp [estoverslaw39_ReclaimplanOldest.j4])
                  | succ kj41 =>
                   have H:=HA.out;clear HA;simp only [estoverslaw39_ReclaimplanOldest.j4] at H;by_cases c64 : x137_41 = true
                   rotate_left
                   ·
                    replace c64:=Bool.eq_false_iff.mpr c64;subst c64
                    have H1 : (estoverslaw39_ReclaimplanOldest.l1 kj41 t430 x4_3 t440 (l0_0.length : Int) (wrap64 (x74_4 + 1)) l0_0 l0_1 a0_2 a0_3) = some r:=by rw [if_neg (show ¬ (false = true) by decide)] at H;exact H
                    clear H;have H:=H1;clear H1;have H':=Aside0.mk H;clear H;go_wp2
                    go_roundg kj41
                    case measure => have:=HJ1.out;have:=HJ14.out;have:=HK3.out;have:=HK4.out;have:=HJ41.out;omega
                    case rel => exact ⟨(wrap64 (x74_4 + 1)),(by first | rfl | (simp;done) | (simp [*];done)),H',⟨by have:=HJ1.out;have:=HJ14.out;have:=HK3.out;have:=HK4.out;have:=HJ41.out;omega⟩,⟨by (try simp only [hl4_3]);(with_reducible repeat (first | apply Kd.R_alloc | apply Kd.R_drewN | apply Kd.R_drew));exact HO_4.out⟩,⟨by (try simp only [hl4_3]);(with_reducible repeat (first | refine blk_drewN ?_ _ | refine blk_drew ?_ | refine blk_alloc ?_ _));exact BK426.out⟩,⟨by repeat (first | (with_reducible first | exact HB.out | apply b0_ | apply b1_ | apply b2_ | refine below_set ?_ GE426.out) | exact HB.out)⟩⟩
                   subst c64
                   have H1 : (some false) = some r:=by rw [if_pos rfl] at H;exact H
                   clear H;have H:=H1;clear H1;obtain rfl:=Option.some.inj H;go_wp2;go_ret;exact ⟨by first | rfl | (simp [errW_none,errW_some] <;> rfl) | (simp [*,errW_none,errW_some] <;> rfl),by repeat (first | (with_reducible first | exact HB.out | apply b0_ | apply b1_ | apply b2_ | refine below_set ?_ GE426.out) | exact HB.out)⟩
            rw [if_pos c27] at H;have c27b0 : decide (x43_3 < (y434.length : Int)) = true:=decide_eq_true c27;have c27b0q : decide (x43_3 < (x4_3.length : Int)) = true:=(by first | (rw [← hl4_3];exact c27b0) | (have c27b0z:=c27b0;simp only [hl4_3] at c27b0z;exact c27b0z));clear c27;by_cases c28 : 0≤x43_3
            rotate_left
            · rw [if_neg c28] at H;exact absurd H (by simp)
            rw [if_pos c28] at H;have c28b0 : decide (0≤x43_3) = true:=decide_eq_true c28;clear c28;by_cases c29 : x43_3 < (x4_3.length : Int)
            rotate_left
            · rw [if_neg c29] at H;exact absurd H (by simp)
            rw [if_pos c29] at H;have c29b0 : decide (x43_3 < (x4_3.length : Int)) = true:=decide_eq_true c29;clear c29;obtain ⟨ji30,hji30⟩ : ∃ j_ : Int,(mx ((rd_T30 x4_3 x43_3).f2) ((rd_T30 x4_3 x43_3).f3)) = j_:=⟨_,rfl⟩
            replace H : (estoverslaw39_ReclaimplanOldest.l0 k3 t430 (x4_3.set (x43_3 : Int).toNat (⟨(rd_T30 x4_3 x43_3).f0,(rd_T30 x4_3 x43_3).f1,ji30,(rd_T30 x4_3 x43_3).f3,(rd_T30 x4_3 x43_3).f4⟩ : S30)) (y434.length : Int) (wrap64 (x43_3 + 1)) l0_0 l0_1 a0_2 a0_3) = some r:=by first | (rw [hji30] at H;exact H) | (simp only [hji30] at H ⊢;exact H)
            have hji30_ : (if ((rd_T30 x4_3 x43_3).f2) < ((rd_T30 x4_3 x43_3).f3) then ((rd_T30 x4_3 x43_3).f3) else ((rd_T30 x4_3 x43_3).f2)) = ji30:=hji30;obtain ⟨y439,hy439⟩ : ∃ y_ : List (S30),y_ = (x4_3.set (x43_3 : Int).toNat (⟨(rd_T30 x4_3 x43_3).f0,(rd_T30 x4_3 x43_3).f1,ji30,(rd_T30 x4_3 x43_3).f3,(rd_T30 x4_3 x43_3).f4⟩ : S30)):=⟨_,rfl⟩
            replace H : (estoverslaw39_ReclaimplanOldest.l0 k3 t430 y439 (y434.length : Int) (wrap64 (x43_3 + 1)) l0_0 l0_1 a0_2 a0_3) = some r:=by first | (rw [hy439];with_reducible exact H) | (have H2_:=(Option.bind_some _ _).symm.trans H;rw [hy439];with_reducible exact H2_) | (have H2_:=(Option.bind_some _ _).symm.trans H;with_reducible exact H2_) | with_reducible exact H | (rw [hy439];exact H) | exact H
            have Ny439:=Aside0.mk hy439;clear hy439;have H':=Aside0.mk H;clear H
            try go_wp2
            have n0_:=Aside0.mk (Kd.R_drew HO_4.out);have n1_:=Aside0.mk (blk_drew BK426.out);have n2_:=Aside0.mk (b2_ HB.out);clear HO_4;clear BK426;clear HB;have HO_4:=n0_;have BK426:=n1_;have HB:=n2_;clear n0_ n1_ n2_;have p437 : 0≤(x43_3 : Int):=of_decide_eq_true (by first | (with_reducible assumption) | assumption)
            have q437 : x43_3 < (x4_3.length : Int):=of_decide_eq_true (by first | (with_reducible assumption) | assumption);obtain ⟨ad437,e437,hx437_0,hx437_1,hx437_2,hx437_3,hx437_4⟩:=at_T30 (Kd.R_reads' HO_4.out).2.2 x43_3 p437 q437;cases e437;replace p437:=eq_true p437;replace q437:=eq_true q437
            have p438 : 0≤(x43_3 : Int):=of_decide_eq_true (by first | (with_reducible assumption) | assumption);have q438 : x43_3 < (x4_3.length : Int):=of_decide_eq_true (by first | (with_reducible assumption) | assumption);obtain ⟨ad438,e438,hx438_0,hx438_1,hx438_2,hx438_3,hx438_4⟩:=at_T30 (Kd.R_reads' HO_4.out).2.2 x43_3 p438 q438;obtain rfl : ad437 = ad438:=(by injection e438)
            replace p438:=eq_true p438;replace q438:=eq_true q438;have p31 : 0≤(x43_3 : Int):=of_decide_eq_true (by first | (with_reducible assumption) | assumption);have q31 : (x43_3 : Int) < ((x4_3.length : Int) : Int):=of_decide_eq_true (by first | (with_reducible assumption) | assumption);obtain ⟨go31,co31,eo31,gb31,gl31,cl31,HG31⟩:=Kd.R_form HO_4.out (by omega)
            (first | cases eo31 | (injection eo31 with ea_ en_ ec_;(first | subst ea_ | (injection ea_ with ea_;subst ea_));subst ec_;clear en_))
            have GB31:=Aside0.mk gb31;have GG31:=Aside0.mk HG31;clear gb31 gl31 HG31
            (first | simp only [add_plain] at hx437_0 | skip)
            (first | simp only [add_plain] at hx437_1 | skip)
            (first | simp only [add_plain] at hx437_2 | skip)
            (first | simp only [add_plain] at hx437_3 | skip)
            (first | simp only [add_plain] at hx437_4 | skip)
            (first | simp only [add_plain] at hx438_0 | skip)
            (first | simp only [add_plain] at hx438_1 | skip)
            (first | simp only [add_plain] at hx438_2 | skip)
            (first | simp only [add_plain] at hx438_3 | skip)
            (first | simp only [add_plain] at hx438_4 | skip)
            obtain ⟨ce31,hcl31,hM31,hcc31,hfr31⟩:=Kd.R_elem HO_4.out z30 (x43_3 : Int) p31 q31;obtain rfl:=k30_openM hM31;have hx31_0 : World.cell? _ ⟨go31,(x43_3 : Int).toNat * 5,none⟩ = some (.int .i64 ((rd_T30 x4_3 x43_3).f0)):=hcc31 0 _ rfl;have hx31_1 : World.cell? _ ⟨go31,(x43_3 : Int).toNat * 5 + 1,none⟩ = some (.int .i64 ((rd_T30 x4_3 x43_3).f1)):=hcc31 1 _ rfl
            have hx31_2 : World.cell? _ ⟨go31,(x43_3 : Int).toNat * 5 + 2,none⟩ = some (.int .i64 ((rd_T30 x4_3 x43_3).f2)):=hcc31 2 _ rfl;have hx31_3 : World.cell? _ ⟨go31,(x43_3 : Int).toNat * 5 + 3,none⟩ = some (.int .i64 ((rd_T30 x4_3 x43_3).f3)):=hcc31 3 _ rfl;have hx31_4 : World.cell? _ ⟨go31,(x43_3 : Int).toNat * 5 + 4,none⟩ = some (.int .i64 ((rd_T30 x4_3 x43_3).f4)):=hcc31 4 _ rfl
            have hf31_0 : World.frozen? _ ⟨go31,(x43_3 : Int).toNat * 5,none⟩ = false:=hfr31 0;have hf31_1 : World.frozen? _ ⟨go31,(x43_3 : Int).toNat * 5 + 1,none⟩ = false:=hfr31 1;have hf31_2 : World.frozen? _ ⟨go31,(x43_3 : Int).toNat * 5 + 2,none⟩ = false:=hfr31 2;have hf31_3 : World.frozen? _ ⟨go31,(x43_3 : Int).toNat * 5 + 3,none⟩ = false:=hfr31 3
            have hf31_4 : World.frozen? _ ⟨go31,(x43_3 : Int).toNat * 5 + 4,none⟩ = false:=hfr31 4;clear hcl31 hcc31 hfr31 hM31;replace p31:=eq_true p31;replace q31:=eq_true q31
            obtain ⟨ce33,hcl33,hM33,hcc33,hfr33⟩:=Kd.R_elem HO_4.out z30 (x43_3 : Int) (of_decide_eq_true (by first | (with_reducible assumption) | assumption)) (by have h_ : (x43_3 : Int) < ((x4_3.length : Int) : Int):=of_decide_eq_true (by first | (with_reducible assumption) | assumption);first | exact h_ | (have e_:=(Kd.R_reads' HO_4.out).1;omega) | simpa using h_);obtain rfl:=k30_openM hM33
            have HP33:=(Kd.R_seg HO_4.out (x43_3 : Int) (of_decide_eq_true (by first | (with_reducible assumption) | assumption)) (by have h_ : (x43_3 : Int) < ((x4_3.length : Int) : Int):=of_decide_eq_true (by first | (with_reducible assumption) | assumption);first | exact h_ | (have e_:=(Kd.R_reads' HO_4.out).1;omega) | simpa using h_) (seg:=[.int .i64 ji30]) (j:=2) hcl33 hcc33 (show 3≤5 from by decide) (x':=(⟨(rd_T30 x4_3 x43_3).f0,(rd_T30 x4_3 x43_3).f1,ji30,(rd_T30 x4_3 x43_3).f3,(rd_T30 x4_3 x43_3).f4⟩ : S30)) (k30_mkM _ _ _ (⟨(rd_T30 x4_3 x43_3).f0,(rd_T30 x4_3 x43_3).f1,ji30,(rd_T30 x4_3 x43_3).f3,(rd_T30 x4_3 x43_3).f4⟩ : S30) ) (fun _ hk => hk)).1
            rw [← Ny439.out] at HP33;have HQ33:=Aside0.mk HP33;clear hcl33 hcc33 hfr33 hM33 HP33
            refine start_ (n:=16) (S:=fun w' => w'.cell? ⟨go31,((x43_3).toNat * 5),none⟩ = some (.int .i64 ((rd_T30 x4_3 x43_3).f0))∧w'.cell? ⟨go31,((x43_3).toNat * 5) + 1,none⟩ = some (.int .i64 ((rd_T30 x4_3 x43_3).f1))∧w'.cell? ⟨go31,((x43_3).toNat * 5) + 2,none⟩ = some (.int .i64 ((rd_T30 x4_3 x43_3).f2))∧w'.cell? ⟨go31,((x43_3).toNat * 5) + 3,none⟩ = some (.int .i64 ((rd_T30 x4_3 x43_3).f3))∧w'.cell? ⟨go31,((x43_3).toNat * 5) + 4,none⟩ = some (.int .i64 ((rd_T30 x4_3 x43_3).f4))∧w'.cell? ⟨go31,((x43_3).toNat * 5),none⟩ = some (.int .i64 ((rd_T30 x4_3 x43_3).f0))∧w'.cell? ⟨go31,((x43_3).toNat * 5) + 1,none⟩ = some (.int .i64 ((rd_T30 x4_3 x43_3).f1))∧w'.cell? ⟨go31,((x43_3).toNat * 5) + 2,none⟩ = some (.int .i64 ((rd_T30 x4_3 x43_3).f2))∧w'.cell? ⟨go31,((x43_3).toNat * 5) + 3,none⟩ = some (.int .i64 ((rd_T30 x4_3 x43_3).f3))∧w'.cell? ⟨go31,((x43_3).toNat * 5) + 4,none⟩ = some (.int .i64 ((rd_T30 x4_3 x43_3).f4))) (ds:=[15]) #[F0,F0,F0,F0,F0,F0,F0,F0,F0,F0,F0,F0,F0,F0,F0,F0] (by kernel_rfl) rfl rfl ⟨hx437_0,hx437_1,hx437_2,hx437_3,hx437_4,hx438_0,hx438_1,hx438_2,hx438_3,hx438_4⟩ (fun hHeld => ?_);refine with_tabW estoverslaw39_ReclaimplanOldest.tab10 estoverslaw39_ReclaimplanOldest.bits10 (fun HT_ HW_ => ?_)
            generalize wr.drew = w32 at HO_4 BK426 HB GG31 HQ33 hf31_0 hf31_1 hf31_2 hf31_3 hf31_4 hx31_0 hx31_1 hx31_2 hx31_3 hx31_4 hx437_0 hx437_1 hx437_2 hx437_3 hx437_4 hx438_0 hx438_1 hx438_2 hx438_3 hx438_4 hHeld ⊢
            refine pure_ (i:=0) (N:=some 46) (v:=?_) (a':=?_) #[T0,F0,F0,F0,F0,F0,F0,F0,F0,F0,F0,F0,F0,F0,F0,F0] rfl rfl (any_of HT_.out (by kernel_rfl)) (fun _ _ _ h => h) (Or.inl ⟨by rfl,?_⟩) ?_ ?_
            rotate_left
            · intro w';go_simp;with_reducible rfl
            rotate_left
            · simp only [Act.put,z0_,z1_,z2_,i64_w,i32_w];rfl
            refine pure_ (i:=1) (N:=some 47) (v:=?_) (a':=?_) #[T0,T0,F0,F0,F0,F0,F0,F0,F0,F0,F0,F0,F0,F0,F0,F0] rfl rfl (any_of HT_.out (by kernel_rfl)) (fun _ _ _ h => h) (Or.inl ⟨by rfl,?_⟩) ?_ ?_
            rotate_left
            · intro w';go_simp;with_reducible rfl
            rotate_left
            · simp only [Act.put,z0_,z1_,z2_,i64_w,i32_w];rfl
            refine pure_ (i:=2) (N:=some 48) (v:=?_) (a':=?_) #[T0,T0,T0,F0,F0,F0,F0,F0,F0,F0,F0,F0,F0,F0,F0,F0] rfl rfl (any_of HT_.out (by kernel_rfl)) (fun _ _ _ h => h) (Or.inl ⟨by rfl,?_⟩) ?_ ?_
            rotate_left
            · intro w';go_simp;with_reducible rfl
            rotate_left
            · simp only [Act.put,z0_,z1_,z2_,i64_w,i32_w];rfl
            refine pure_ (i:=3) (N:=some 49) (v:=?_) (a':=?_) #[T0,T0,T0,T0,F0,F0,F0,F0,F0,F0,F0,F0,F0,F0,F0,F0] rfl rfl (any_of HT_.out (by kernel_rfl)) (fun _ _ _ h => h) (Or.inl ⟨by rfl,?_⟩) ?_ ?_
            rotate_left
            · intro w';go_simp;with_reducible rfl
            rotate_left
            · simp only [Act.put,z0_,z1_,z2_,i64_w,i32_w];rfl
            refine pure_ (i:=4) (N:=some 50) (v:=?_) (a':=?_) #[T0,T0,T0,T0,T0,F0,F0,F0,F0,F0,F0,F0,F0,F0,F0,F0] rfl rfl (any_of HT_.out (by kernel_rfl)) (fun _ _ _ h => h) (Or.inl ⟨by rfl,?_⟩) ?_ ?_
            rotate_left
            · intro w';go_simp;with_reducible rfl
            rotate_left
            · simp only [Act.put,z0_,z1_,z2_,i64_w,i32_w];rfl
            refine pure_ (i:=5) (N:=some 51) (v:=?_) (a':=?_) #[T0,T0,T0,T0,T0,T0,F0,F0,F0,F0,F0,F0,F0,F0,F0,F0] rfl rfl (any_of HT_.out (by kernel_rfl)) (fun _ _ _ h => h) (Or.inl ⟨by rfl,?_⟩) ?_ ?_
            rotate_left
            · intro w';go_simp;with_reducible rfl
            rotate_left
            · simp only [Act.put,z0_,z1_,z2_,i64_w,i32_w];rfl
            refine pure_ (i:=7) (N:=some 53) (v:=?_) (a':=?_) #[T0,T0,T0,T0,T0,T0,F0,T0,F0,F0,F0,F0,F0,F0,F0,F0] rfl rfl (any_of HT_.out (by kernel_rfl)) (fun _ _ _ h => h) (Or.inl ⟨by rfl,?_⟩) ?_ ?_
            rotate_left
            · intro w';go_simp;with_reducible rfl
            rotate_left
            · simp only [Act.put,z0_,z1_,z2_,i64_w,i32_w];rfl
            refine pure_ (i:=8) (N:=some 54) (v:=?_) (a':=?_) #[T0,T0,T0,T0,T0,T0,F0,T0,T0,F0,F0,F0,F0,F0,F0,F0] rfl rfl (any_of HT_.out (by kernel_rfl)) (fun _ _ _ h => h) (Or.inl ⟨by rfl,?_⟩) ?_ ?_
            rotate_left
            · intro w';go_simp;with_reducible rfl
            rotate_left
            · simp only [Act.put,z0_,z1_,z2_,i64_w,i32_w];rfl
            refine pure_ (i:=9) (N:=some 55) (v:=?_) (a':=?_) #[T0,T0,T0,T0,T0,T0,F0,T0,T0,T0,F0,F0,F0,F0,F0,F0] rfl rfl (any_of HT_.out (by kernel_rfl)) (fun _ _ _ h => h) (Or.inl ⟨by rfl,?_⟩) ?_ ?_
            rotate_left
            · intro w';go_simp;with_reducible rfl
            rotate_left
            · simp only [Act.put,z0_,z1_,z2_,i64_w,i32_w];rfl
            refine pure_ (i:=10) (N:=some 56) (v:=?_) (a':=?_) #[T0,T0,T0,T0,T0,T0,F0,T0,T0,T0,T0,F0,F0,F0,F0,F0] rfl rfl (any_of HT_.out (by kernel_rfl)) (fun _ _ _ h => h) (Or.inl ⟨by rfl,?_⟩) ?_ ?_
            rotate_left
            · intro w';go_simp;with_reducible rfl
            rotate_left
            · simp only [Act.put,z0_,z1_,z2_,i64_w,i32_w];rfl
            refine take_ (i:=6) (N:=some 52) (v:=?_) (a':=?_) #[T0,T0,T0,T0,T0,T0,T0,T0,T0,T0,T0,F0,F0,F0,F0,F0] rfl rfl (take_ofW HT_.out HW_.out (by kernel_rfl)) (fun _ _ _ h => h) (Or.inl ⟨by rfl,?_⟩) hHeld ?_ ?_
            rotate_left
            ·
             rintro w' ⟨s0,s1,s2,s3,s4,s5,s6,s7,s8,s9⟩
             go_simp;with_reducible rfl
            rotate_left
            · simp only [Act.put,z0_,z1_,z2_,i64_w,i32_w];rfl
            refine take_ (i:=11) (N:=some 57) (v:=?_) (a':=?_) #[T0,T0,T0,T0,T0,T0,T0,T0,T0,T0,T0,T0,F0,F0,F0,F0] rfl rfl (take_ofW HT_.out HW_.out (by kernel_rfl)) (fun _ _ _ h => h) (Or.inl ⟨by rfl,?_⟩) hHeld ?_ ?_
            rotate_left
            ·
             rintro w' ⟨s0,s1,s2,s3,s4,s5,s6,s7,s8,s9⟩
             go_simp;with_reducible rfl
            rotate_left
            · simp only [Act.put,z0_,z1_,z2_,i64_w,i32_w];rfl
            refine pure_ (i:=12) (N:=some 58) (v:=?_) (a':=?_) #[T0,T0,T0,T0,T0,T0,T0,T0,T0,T0,T0,T0,T0,F0,F0,F0] rfl rfl (any_of HT_.out (by kernel_rfl)) (fun _ _ _ h => h) (Or.inl ⟨by rfl,?_⟩) ?_ ?_
            rotate_left
            · intro w';go_simp;with_reducible rfl
            rotate_left
            · simp only [Act.put,z0_,z1_,z2_,i64_w,i32_w];rfl
            refine pure_ (i:=13) (N:=some 59) (v:=?_) (a':=?_) #[T0,T0,T0,T0,T0,T0,T0,T0,T0,T0,T0,T0,T0,T0,F0,F0] rfl rfl (any_of HT_.out (by kernel_rfl)) (fun _ _ _ h => h) (Or.inl ⟨by rfl,?_⟩) ?_ ?_
            rotate_left
            · intro w';go_simp;with_reducible rfl
            rotate_left
            · simp only [Act.put,z0_,z1_,z2_,i64_w,i32_w];rfl
            refine pure_ (i:=14) (N:=some 60) (v:=?_) (a':=?_) #[T0,T0,T0,T0,T0,T0,T0,T0,T0,T0,T0,T0,T0,T0,T0,F0] rfl rfl (any_of HT_.out (by kernel_rfl)) (fun _ _ _ h => h) (Or.inl ⟨by rfl,?_⟩) ?_ ?_
            rotate_left
            · intro w';go_simp;with_reducible rfl
            rotate_left
            · simp only [Act.put,z0_,z1_,z2_,i64_w,i32_w];rfl
            refine last_ (i:=15) (N:=none) #[T0,T0,T0,T0,T0,T0,T0,T0,T0,T0,T0,T0,T0,T0,T0,T0] rfl rfl (one_of HT_.out (by kernel_rfl)) (by decide) (fun K hK => ?_);refine skip_ (w1:=?_) (by rfl) rfl ?_ ?_
            rotate_left
            · go_simp;rfl
            refine hK.out _ _ ?_;clear hK K;refine done_ (done_of HT_.out (by kernel_rfl)) ?_
            try go_wp2
            (try simp only [← hl4_3])
            go_roundg k3
            case measure => have:=HJ1.out;have:=HJ14.out;have:=HK3.out;omega
            case rel => exact ⟨(y439),(wrap64 (x43_3 + 1)),(by first | rfl | (simp;done) | (simp [*];done)),H',⟨by have:=HJ1.out;have:=HJ14.out;have:=HK3.out;omega⟩,⟨by (try simp only [hl4_3]);(with_reducible repeat (first | apply Kd.R_alloc | apply Kd.R_drewN | apply Kd.R_drew));exact HQ33.out⟩,⟨by (try simp only [hl4_3]);(with_reducible repeat (first | refine blk_drewN ?_ _ | refine blk_drew ?_ | refine blk_alloc ?_ _));refine blk_far ?_ (by have h_:=Kd.R_ne HO_4.out BK426.out (by decide);intro e_;exact h_ (by rw [e_];rfl)) _;(with_reducible repeat (first | refine blk_drewN ?_ _ | refine blk_drew ?_ | refine blk_alloc ?_ _));exact BK426.out⟩,⟨by repeat (first | (with_reducible first | exact HB.out | apply b0_ | apply b1_ | apply b2_ | refine below_set ?_ GB31.out | refine below_set ?_ GE426.out) | exact HB.out)⟩⟩
        subst c20
        have H1 : (some (t430 == (-1))) = some r:=by rw [if_pos rfl] at H;exact H
        clear H;have H:=H1;clear H1;obtain rfl:=Option.some.inj H;go_wp2;go_ret;exact ⟨by first | rfl | (simp [errW_none,errW_some] <;> rfl) | (simp [*,errW_none,errW_some] <;> rfl),by repeat (first | (with_reducible first | exact HB.out | apply b0_ | apply b1_ | apply b2_ | refine below_set ?_ GE426.out) | exact HB.out)⟩
    subst c11
    have H1 : ((estoverslaw39_awake.f kj1).bind fun t429 => (some t429)) = some r:=by rw [if_pos rfl] at H;exact H
    clear H;have H:=H1;clear H1;replace H:=Option.bind_eq_some_iff.mp H;obtain ⟨t429,A120,H⟩:=H;replace H : (some t429) = some r:=H;have A12:=Aside0.mk A120;clear A120;obtain rfl:=Option.some.inj H
    go_wp2_with (first | ((with_reducible refine gate_callee (f:=29) rfl ?_);refine goesL_ (some 16) rfl rfl Try.func29 (by kernel_rfl) rfl #[] rfl (by (try simp only [z3_,z4_,z5_]);first | done | rfl | (simp only [z6_,z7_];rfl)) ?_;(with_reducible refine (estoverslaw39_awake.calls kj1  t429 _ A12.out).mono ?_);rintro e w13 ⟨rfl,hb⟩;refine ⟨_,rfl,?_⟩;have n0_:=Aside0.mk (blk_below (g:=gb426) (o:=.cells #[.slice A0_0 l0_0.length c0_0,.slice A0_1 l0_1.length c0_1,.int .i64 a0_2,.bool a0_3] 37 (0,0)) (by (with_reducible repeat (first | refine blk_drewN ?_ _ | refine blk_drew ?_ | refine blk_alloc ?_ _));exact BK426.out) hb);have n1_:=Aside0.mk (below_step (by repeat (first | (with_reducible first | exact HB.out | apply b0_ | apply b1_ | apply b2_ | refine below_set ?_ GE426.out) | exact HB.out)) hb);clear BK426;clear HB;have BK426:=n0_;have HB:=n1_;clear n0_ n1_))
    go_ret;exact ⟨by first | rfl | (simp [errW_none,errW_some] <;> rfl) | (simp [*,errW_none,errW_some] <;> rfl),by repeat (first | (with_reducible first | exact HB.out | apply b0_ | apply b1_ | apply b2_ | refine below_set ?_ GE426.out) | exact HB.out)⟩
end Go.Proofs.Ytnmenfkmndnoaaa.Pr
