-- Written by a program of this session (a changed copy of the kit's printer). Not trusted: Lean checks it.
import Derived.Test.YtnmenfkmndnoaaaM0
import Derived.Test.YtnmenfkmndnoaaaFestoverslaw39Few
import Derived.Test.YtnmenfkmndnoaaaFestoversref19Check
import Derived.Test.YtnmenfkmndnoaaaFestoversref19Inside
import Derived.Test.YtnmenfkmndnoaaaM2
import Derived.Test.YtnmenfkmndnoaaaM3
namespace Go.Proofs.Ytnmenfkmndnoaaa.Pr
open Go.RowKit Go.Proofs.YtnmenfkmndnoaaaW.PrintWords Go.Proofs.YtnmenfkmndnoaaaW.PrintLast Go.Proofs.YtnmenfkmndnoaaaW.PrintMore
attribute [local go_sem] max2_int min2_int max_two min_two max_three min_three max_four min_four
set_option linter.unusedVariables false
set_option linter.unusedSimpArgs false
mutual
def estoverslaw39_ReclaimplanFloors.j0 : Nat→Bool→List (S34)→List (S30)→Int→Bool→Option (Bool)
 | 0,_,_,_,_,_ => none
 | k + 1,x22,x403000,x403001,x403002,x403003 => if x22 = true then ((estoverslaw39_awake.f k).bind fun t406 => (some t406)) else ((some (([] : List (S34)) : List (S34))).bind fun y407 => (if y407.length + x403000.length < 2932031007402 then ((some (y407 ++ x403000 : List (S34))).bind fun y410 => ((reclaimplan_Useful.f k y410 x403001 x403002 x403003).bind fun t413 => (estoverslaw39_ReclaimplanFloors.l0 k y410 t413 (wrap64 ((y410.length : Int) + 1)) 0 x403000 x403001 x403002 x403003))) else (none)))
def estoverslaw39_ReclaimplanFloors.l0 : Nat→List (S34)→Int→Int→Int→List (S34)→List (S30)→Int→Bool→Option (Bool)
 | 0,_,_,_,_,_,_,_,_ => none
 | k + 1,x3,x4,x38,x39,x403000,x403001,x403002,x403003 => if x39 < x38 then ((reclaimplan_Next.f k x3 x403001 x403002 x403003).bind fun t414 => (if t414 < 0 then (some (t414 == (-1))) else (if t414≥(x3.length : Int) then (estoverslaw39_ReclaimplanFloors.j2 k x3 x4 t414 x38 x39 true x403000 x403001 x403002 x403003) else (if 0≤t414 then (if t414 < (x3.length : Int) then (if (rd_T34 x3 t414).f6 = true then (estoverslaw39_ReclaimplanFloors.j2 k x3 x4 t414 x38 x39 true x403000 x403001 x403002 x403003) else (estoverslaw39_ReclaimplanFloors.j2 k x3 x4 t414 x38 x39 (((rd_T34 x3 t414).f3) != 0) x403000 x403001 x403002 x403003)) else (none)) else (none))))) else (some false)
def estoverslaw39_ReclaimplanFloors.j2 : Nat→List (S34)→Int→Int→Int→Int→Bool→List (S34)→List (S30)→Int→Bool→Option (Bool)
 | 0,_,_,_,_,_,_,_,_,_,_ => none
 | k + 1,x3,x4,x5,x38,x39,x71,x403000,x403001,x403002,x403003 => if x71 = true then (some false) else (if 0≤x5 then (if x5 < (x3.length : Int) then ((some (x3.set (x5 : Int).toNat (⟨(rd_T34 x3 x5).f0,(rd_T34 x3 x5).f1,(rd_T34 x3 x5).f2,(rd_T34 x3 x5).f3,(rd_T34 x3 x5).f4,(rd_T34 x3 x5).f5,true⟩ : S34) : List (S34))).bind fun y417 => ((reclaimplan_Useful.f k y417 x403001 x403002 x403003).bind fun t418 => (if t418 = (wrap64 (x4 + 1)) then (estoverslaw39_ReclaimplanFloors.l1 k y417 (wrap64 (x4 + 1)) ((rd_T34 y417 x5).f1) x38 x39 x403000 x403001 x403002 x403003) else (some false)))) else (none)) else (none))
def estoverslaw39_ReclaimplanFloors.l1 : Nat→List (S34)→Int→Int→Int→Int→List (S34)→List (S30)→Int→Bool→Option (Bool)
 | 0,_,_,_,_,_,_,_,_,_ => none
 | k + 1,x3,x4,x6,x38,x39,x403000,x403001,x403002,x403003 => if x6 > 0 then (if x6 < (x403001.length : Int) then (estoverslaw39_ReclaimplanFloors.j4 k x3 x4 x6 x38 x39 (x6 != x403002) x403000 x403001 x403002 x403003) else (estoverslaw39_ReclaimplanFloors.j4 k x3 x4 x6 x38 x39 false x403000 x403001 x403002 x403003)) else (estoverslaw39_ReclaimplanFloors.j4 k x3 x4 x6 x38 x39 false x403000 x403001 x403002 x403003)
def estoverslaw39_ReclaimplanFloors.j4 : Nat→List (S34)→Int→Int→Int→Int→Bool→List (S34)→List (S30)→Int→Bool→Option (Bool)
 | 0,_,_,_,_,_,_,_,_,_,_ => none
 | k + 1,x3,x4,x6,x38,x39,x107,x403000,x403001,x403002,x403003 => if x107 = true then (if 0≤x6 then (if x6 < (x403001.length : Int) then (estoverslaw39_ReclaimplanFloors.l2 k x3 x4 x6 ((rd_T30 x403001 x6).f1) x38 x39 x3 (x3.length : Int) 0 x403000 x403001 x403002 x403003) else (none)) else (none)) else (estoverslaw39_ReclaimplanFloors.l0 k x3 x4 x38 (wrap64 (x39 + 1)) x403000 x403001 x403002 x403003)
def estoverslaw39_ReclaimplanFloors.l2 : Nat→List (S34)→Int→Int→Int→Int→Int→List (S34)→Int→Int→List (S34)→List (S30)→Int→Bool→Option (Bool)
 | 0,_,_,_,_,_,_,_,_,_,_,_,_,_ => none
 | k + 1,x3,x4,x6,x7,x38,x39,x120,x121,x122,x403000,x403001,x403002,x403003 => if x122 < x121 then (if 0≤x122 then (if x122 < (x120.length : Int) then (if (rd_T34 x120 x122).f6 = true then ((estoversref19_Inside.f k x403001 ((rd_T34 x120 x122).f1) x6).bind fun t423 => (estoverslaw39_ReclaimplanFloors.j6 k x3 x4 x6 x7 x38 x39 x120 x121 x122 t423 x403000 x403001 x403002 x403003)) else (estoverslaw39_ReclaimplanFloors.j6 k x3 x4 x6 x7 x38 x39 x120 x121 x122 false x403000 x403001 x403002 x403003)) else (none)) else (none)) else (if 0≤x6 then (if x6 < (x403001.length : Int) then (if x7 < ((rd_T30 x403001 x6).f2) then (some false) else (estoverslaw39_ReclaimplanFloors.l1 k x3 x4 ((rd_T30 x403001 x6).f0) x38 x39 x403000 x403001 x403002 x403003)) else (none)) else (none))
def estoverslaw39_ReclaimplanFloors.j6 : Nat→List (S34)→Int→Int→Int→Int→Int→List (S34)→Int→Int→Bool→List (S34)→List (S30)→Int→Bool→Option (Bool)
 | 0,_,_,_,_,_,_,_,_,_,_,_,_,_,_ => none
 | k + 1,x3,x4,x6,x7,x38,x39,x120,x121,x122,x135,x403000,x403001,x403002,x403003 => if x135 = true then (estoverslaw39_ReclaimplanFloors.l2 k x3 x4 x6 (wrap64 (x7 - 1)) x38 x39 x120 x121 (wrap64 (x122 + 1)) x403000 x403001 x403002 x403003) else (estoverslaw39_ReclaimplanFloors.l2 k x3 x4 x6 x7 x38 x39 x120 x121 (wrap64 (x122 + 1)) x403000 x403001 x403002 x403003)
end
def estoverslaw39_ReclaimplanFloors.f (k : Nat) (l0_0 : List (S34)) (l0_1 : List (S30)) (a0_2 : Int) (a0_3 : Bool) : Option (Bool):=(estoverslaw39_awake.f k).bind fun t403 => (if t403 = true then ((estoverslaw39_Few.f l0_0 l0_1 a0_2 a0_3).bind fun t404 => (if t404 = true then ((estoversref19_Check.f k l0_1).bind fun t405 => (estoverslaw39_ReclaimplanFloors.j0 k (t405 != 0) l0_0 l0_1 a0_2 a0_3)) else (estoverslaw39_ReclaimplanFloors.j0 k true l0_0 l0_1 a0_2 a0_3))) else (estoverslaw39_ReclaimplanFloors.j0 k true l0_0 l0_1 a0_2 a0_3))
theorem estoverslaw39_ReclaimplanFloors.mono_l : ∀ k,(∀ y0 y1 y2 y3 y4,LeO (estoverslaw39_ReclaimplanFloors.j0 k y0 y1 y2 y3 y4) (estoverslaw39_ReclaimplanFloors.j0 (k + 1) y0 y1 y2 y3 y4))∧(∀ y0 y1 y2 y3 y4 y5 y6 y7,LeO (estoverslaw39_ReclaimplanFloors.l0 k y0 y1 y2 y3 y4 y5 y6 y7) (estoverslaw39_ReclaimplanFloors.l0 (k + 1) y0 y1 y2 y3 y4 y5 y6 y7))∧(∀ y0 y1 y2 y3 y4 y5 y6 y7 y8 y9,LeO (estoverslaw39_ReclaimplanFloors.j2 k y0 y1 y2 y3 y4 y5 y6 y7 y8 y9) (estoverslaw39_ReclaimplanFloors.j2 (k + 1) y0 y1 y2 y3 y4 y5 y6 y7 y8 y9))∧(∀ y0 y1 y2 y3 y4 y5 y6 y7 y8,LeO (estoverslaw39_ReclaimplanFloors.l1 k y0 y1 y2 y3 y4 y5 y6 y7 y8) (estoverslaw39_ReclaimplanFloors.l1 (k + 1) y0 y1 y2 y3 y4 y5 y6 y7 y8))∧(∀ y0 y1 y2 y3 y4 y5 y6 y7 y8 y9,LeO (estoverslaw39_ReclaimplanFloors.j4 k y0 y1 y2 y3 y4 y5 y6 y7 y8 y9) (estoverslaw39_ReclaimplanFloors.j4 (k + 1) y0 y1 y2 y3 y4 y5 y6 y7 y8 y9))∧(∀ y0 y1 y2 y3 y4 y5 y6 y7 y8 y9 y10 y11 y12,LeO (estoverslaw39_ReclaimplanFloors.l2 k y0 y1 y2 y3 y4 y5 y6 y7 y8 y9 y10 y11 y12) (estoverslaw39_ReclaimplanFloors.l2 (k + 1) y0 y1 y2 y3 y4 y5 y6 y7 y8 y9 y10 y11 y12))∧(∀ y0 y1 y2 y3 y4 y5 y6 y7 y8 y9 y10 y11 y12 y13,LeO (estoverslaw39_ReclaimplanFloors.j6 k y0 y1 y2 y3 y4 y5 y6 y7 y8 y9 y10 y11 y12 y13) (estoverslaw39_ReclaimplanFloors.j6 (k + 1) y0 y1 y2 y3 y4 y5 y6 y7 y8 y9 y10 y11 y12 y13))
 | 0 => ⟨fun _ _ _ _ _ r h => by simp [estoverslaw39_ReclaimplanFloors.j0] at h,fun _ _ _ _ _ _ _ _ r h => by simp [estoverslaw39_ReclaimplanFloors.l0] at h,fun _ _ _ _ _ _ _ _ _ _ r h => by simp [estoverslaw39_ReclaimplanFloors.j2] at h,fun _ _ _ _ _ _ _ _ _ r h => by simp [estoverslaw39_ReclaimplanFloors.l1] at h,fun _ _ _ _ _ _ _ _ _ _ r h => by simp [estoverslaw39_ReclaimplanFloors.j4] at h,fun _ _ _ _ _ _ _ _ _ _ _ _ _ r h => by simp [estoverslaw39_ReclaimplanFloors.l2] at h,fun _ _ _ _ _ _ _ _ _ _ _ _ _ _ r h => by simp [estoverslaw39_ReclaimplanFloors.j6] at h⟩
 | k + 1 => by
  obtain ⟨ih0,ih1,ih2,ih3,ih4,ih5,ih6⟩:=estoverslaw39_ReclaimplanFloors.mono_l k;refine ⟨?_,?_,?_,?_,?_,?_,?_⟩
  ·
   intro y0 y1 y2 y3 y4
   unfold estoverslaw39_ReclaimplanFloors.j0
   repeat' first
    | (with_reducible exact ih0 _ _ _ _ _)
    | (with_reducible exact ih1 _ _ _ _ _ _ _ _)
    | (with_reducible exact ih2 _ _ _ _ _ _ _ _ _ _)
    | (with_reducible exact ih3 _ _ _ _ _ _ _ _ _)
    | (with_reducible exact ih4 _ _ _ _ _ _ _ _ _ _)
    | (with_reducible exact ih5 _ _ _ _ _ _ _ _ _ _ _ _ _)
    | (with_reducible exact ih6 _ _ _ _ _ _ _ _ _ _ _ _ _ _)
    | (with_reducible exact estoverslaw39_awake.mono _)
    | (with_reducible exact estoversref19_Check.mono _ _)
    | (with_reducible exact estoversref19_Inside.mono _ _ _ _)
    | (with_reducible exact reclaimplan_Next.mono _ _ _ _ _)
    | (with_reducible exact reclaimplan_Useful.mono _ _ _ _ _)
    | (with_reducible exact LeO.refl _)
    | (with_reducible exact LeO.none _)
    | (with_reducible refine LeO.ite ?_ ?_)
    | (with_reducible refine LeO.bind ?_ (fun _ => ?_))
    | exact ih0 _ _ _ _ _
    | exact ih1 _ _ _ _ _ _ _ _
    | exact ih2 _ _ _ _ _ _ _ _ _ _
    | exact ih3 _ _ _ _ _ _ _ _ _
    | exact ih4 _ _ _ _ _ _ _ _ _ _
    | exact ih5 _ _ _ _ _ _ _ _ _ _ _ _ _
    | exact ih6 _ _ _ _ _ _ _ _ _ _ _ _ _ _
    | exact estoverslaw39_awake.mono _
    | exact estoversref19_Check.mono _ _
    | exact estoversref19_Inside.mono _ _ _ _
    | exact reclaimplan_Next.mono _ _ _ _ _
    | exact reclaimplan_Useful.mono _ _ _ _ _
    | exact LeO.none _
    | refine LeO.ite ?_ ?_
    | refine LeO.bind ?_ (fun _ => ?_)
  ·
   intro y0 y1 y2 y3 y4 y5 y6 y7
   unfold estoverslaw39_ReclaimplanFloors.l0
   repeat' first
    | (with_reducible exact ih0 _ _ _ _ _)
    | (with_reducible exact ih1 _ _ _ _ _ _ _ _)
    | (with_reducible exact ih2 _ _ _ _ _ _ _ _ _ _)
    | (with_reducible exact ih3 _ _ _ _ _ _ _ _ _)
    | (with_reducible exact ih4 _ _ _ _ _ _ _ _ _ _)
    | (with_reducible exact ih5 _ _ _ _ _ _ _ _ _ _ _ _ _)
    | (with_reducible exact ih6 _ _ _ _ _ _ _ _ _ _ _ _ _ _)
    | (with_reducible exact estoverslaw39_awake.mono _)
    | (with_reducible exact estoversref19_Check.mono _ _)
    | (with_reducible exact estoversref19_Inside.mono _ _ _ _)
    | (with_reducible exact reclaimplan_Next.mono _ _ _ _ _)
    | (with_reducible exact reclaimplan_Useful.mono _ _ _ _ _)
    | (with_reducible exact LeO.refl _)
    | (with_reducible exact LeO.none _)
    | (with_reducible refine LeO.ite ?_ ?_)
    | (with_reducible refine LeO.bind ?_ (fun _ => ?_))
    | exact ih0 _ _ _ _ _
    | exact ih1 _ _ _ _ _ _ _ _
    | exact ih2 _ _ _ _ _ _ _ _ _ _
    | exact ih3 _ _ _ _ _ _ _ _ _
    | exact ih4 _ _ _ _ _ _ _ _ _ _
    | exact ih5 _ _ _ _ _ _ _ _ _ _ _ _ _
    | exact ih6 _ _ _ _ _ _ _ _ _ _ _ _ _ _
    | exact estoverslaw39_awake.mono _
    | exact estoversref19_Check.mono _ _
    | exact estoversref19_Inside.mono _ _ _ _
    | exact reclaimplan_Next.mono _ _ _ _ _
    | exact reclaimplan_Useful.mono _ _ _ _ _
    | exact LeO.none _
    | refine LeO.ite ?_ ?_
    | refine LeO.bind ?_ (fun _ => ?_)
  ·
   intro y0 y1 y2 y3 y4 y5 y6 y7 y8 y9
   unfold estoverslaw39_ReclaimplanFloors.j2
   repeat' first
    | (with_reducible exact ih0 _ _ _ _ _)
    | (with_reducible exact ih1 _ _ _ _ _ _ _ _)
    | (with_reducible exact ih2 _ _ _ _ _ _ _ _ _ _)
    | (with_reducible exact ih3 _ _ _ _ _ _ _ _ _)
    | (with_reducible exact ih4 _ _ _ _ _ _ _ _ _ _)
    | (with_reducible exact ih5 _ _ _ _ _ _ _ _ _ _ _ _ _)
    | (with_reducible exact ih6 _ _ _ _ _ _ _ _ _ _ _ _ _ _)
    | (with_reducible exact estoverslaw39_awake.mono _)
    | (with_reducible exact estoversref19_Check.mono _ _)
    | (with_reducible exact estoversref19_Inside.mono _ _ _ _)
    | (with_reducible exact reclaimplan_Next.mono _ _ _ _ _)
    | (with_reducible exact reclaimplan_Useful.mono _ _ _ _ _)
    | (with_reducible exact LeO.refl _)
    | (with_reducible exact LeO.none _)
    | (with_reducible refine LeO.ite ?_ ?_)
    | (with_reducible refine LeO.bind ?_ (fun _ => ?_))
    | exact ih0 _ _ _ _ _
    | exact ih1 _ _ _ _ _ _ _ _
    | exact ih2 _ _ _ _ _ _ _ _ _ _
    | exact ih3 _ _ _ _ _ _ _ _ _
    | exact ih4 _ _ _ _ _ _ _ _ _ _
    | exact ih5 _ _ _ _ _ _ _ _ _ _ _ _ _
    | exact ih6 _ _ _ _ _ _ _ _ _ _ _ _ _ _
    | exact estoverslaw39_awake.mono _
    | exact estoversref19_Check.mono _ _
    | exact estoversref19_Inside.mono _ _ _ _
    | exact reclaimplan_Next.mono _ _ _ _ _
    | exact reclaimplan_Useful.mono _ _ _ _ _
    | exact LeO.none _
    | refine LeO.ite ?_ ?_
    | refine LeO.bind ?_ (fun _ => ?_)
  ·
   intro y0 y1 y2 y3 y4 y5 y6 y7 y8
   unfold estoverslaw39_ReclaimplanFloors.l1
   repeat' first
    | (with_reducible exact ih0 _ _ _ _ _)
    | (with_reducible exact ih1 _ _ _ _ _ _ _ _)
    | (with_reducible exact ih2 _ _ _ _ _ _ _ _ _ _)
    | (with_reducible exact ih3 _ _ _ _ _ _ _ _ _)
    | (with_reducible exact ih4 _ _ _ _ _ _ _ _ _ _)
    | (with_reducible exact ih5 _ _ _ _ _ _ _ _ _ _ _ _ _)
    | (with_reducible exact ih6 _ _ _ _ _ _ _ _ _ _ _ _ _ _)
    | (with_reducible exact estoverslaw39_awake.mono _)
    | (with_reducible exact estoversref19_Check.mono _ _)
    | (with_reducible exact estoversref19_Inside.mono _ _ _ _)
    | (with_reducible exact reclaimplan_Next.mono _ _ _ _ _)
    | (with_reducible exact reclaimplan_Useful.mono _ _ _ _ _)
    | (with_reducible exact LeO.refl _)
    | (with_reducible exact LeO.none _)
    | (with_reducible refine LeO.ite ?_ ?_)
    | (with_reducible refine LeO.bind ?_ (fun _ => ?_))
    | exact ih0 _ _ _ _ _
    | exact ih1 _ _ _ _ _ _ _ _
    | exact ih2 _ _ _ _ _ _ _ _ _ _
    | exact ih3 _ _ _ _ _ _ _ _ _
    | exact ih4 _ _ _ _ _ _ _ _ _ _
    | exact ih5 _ _ _ _ _ _ _ _ _ _ _ _ _
    | exact ih6 _ _ _ _ _ _ _ _ _ _ _ _ _ _
    | exact estoverslaw39_awake.mono _
    | exact estoversref19_Check.mono _ _
    | exact estoversref19_Inside.mono _ _ _ _
    | exact reclaimplan_Next.mono _ _ _ _ _
    | exact reclaimplan_Useful.mono _ _ _ _ _
    | exact LeO.none _
    | refine LeO.ite ?_ ?_
    | refine LeO.bind ?_ (fun _ => ?_)
  ·
   intro y0 y1 y2 y3 y4 y5 y6 y7 y8 y9
   unfold estoverslaw39_ReclaimplanFloors.j4
   repeat' first
    | (with_reducible exact ih0 _ _ _ _ _)
    | (with_reducible exact ih1 _ _ _ _ _ _ _ _)
    | (with_reducible exact ih2 _ _ _ _ _ _ _ _ _ _)
    | (with_reducible exact ih3 _ _ _ _ _ _ _ _ _)
    | (with_reducible exact ih4 _ _ _ _ _ _ _ _ _ _)
    | (with_reducible exact ih5 _ _ _ _ _ _ _ _ _ _ _ _ _)
    | (with_reducible exact ih6 _ _ _ _ _ _ _ _ _ _ _ _ _ _)
    | (with_reducible exact estoverslaw39_awake.mono _)
    | (with_reducible exact estoversref19_Check.mono _ _)
    | (with_reducible exact estoversref19_Inside.mono _ _ _ _)
    | (with_reducible exact reclaimplan_Next.mono _ _ _ _ _)
    | (with_reducible exact reclaimplan_Useful.mono _ _ _ _ _)
    | (with_reducible exact LeO.refl _)
    | (with_reducible exact LeO.none _)
    | (with_reducible refine LeO.ite ?_ ?_)
    | (with_reducible refine LeO.bind ?_ (fun _ => ?_))
    | exact ih0 _ _ _ _ _
    | exact ih1 _ _ _ _ _ _ _ _
    | exact ih2 _ _ _ _ _ _ _ _ _ _
    | exact ih3 _ _ _ _ _ _ _ _ _
    | exact ih4 _ _ _ _ _ _ _ _ _ _
    | exact ih5 _ _ _ _ _ _ _ _ _ _ _ _ _
    | exact ih6 _ _ _ _ _ _ _ _ _ _ _ _ _ _
    | exact estoverslaw39_awake.mono _
    | exact estoversref19_Check.mono _ _
    | exact estoversref19_Inside.mono _ _ _ _
    | exact reclaimplan_Next.mono _ _ _ _ _
    | exact reclaimplan_Useful.mono _ _ _ _ _
    | exact LeO.none _
    | refine LeO.ite ?_ ?_
    | refine LeO.bind ?_ (fun _ => ?_)
  ·
   intro y0 y1 y2 y3 y4 y5 y6 y7 y8 y9 y10 y11 y12
   unfold estoverslaw39_ReclaimplanFloors.l2
   repeat' first
    | (with_reducible exact ih0 _ _ _ _ _)
    | (with_reducible exact ih1 _ _ _ _ _ _ _ _)
    | (with_reducible exact ih2 _ _ _ _ _ _ _ _ _ _)
    | (with_reducible exact ih3 _ _ _ _ _ _ _ _ _)
    | (with_reducible exact ih4 _ _ _ _ _ _ _ _ _ _)
    | (with_reducible exact ih5 _ _ _ _ _ _ _ _ _ _ _ _ _)
    | (with_reducible exact ih6 _ _ _ _ _ _ _ _ _ _ _ _ _ _)
    | (with_reducible exact estoverslaw39_awake.mono _)
    | (with_reducible exact estoversref19_Check.mono _ _)
    | (with_reducible exact estoversref19_Inside.mono _ _ _ _)
    | (with_reducible exact reclaimplan_Next.mono _ _ _ _ _)
    | (with_reducible exact reclaimplan_Useful.mono _ _ _ _ _)
    | (with_reducible exact LeO.refl _)
    | (with_reducible exact LeO.none _)
    | (with_reducible refine LeO.ite ?_ ?_)
    | (with_reducible refine LeO.bind ?_ (fun _ => ?_))
    | exact ih0 _ _ _ _ _
    | exact ih1 _ _ _ _ _ _ _ _
    | exact ih2 _ _ _ _ _ _ _ _ _ _
    | exact ih3 _ _ _ _ _ _ _ _ _
    | exact ih4 _ _ _ _ _ _ _ _ _ _
    | exact ih5 _ _ _ _ _ _ _ _ _ _ _ _ _
    | exact ih6 _ _ _ _ _ _ _ _ _ _ _ _ _ _
    | exact estoverslaw39_awake.mono _
    | exact estoversref19_Check.mono _ _
    | exact estoversref19_Inside.mono _ _ _ _
    | exact reclaimplan_Next.mono _ _ _ _ _
    | exact reclaimplan_Useful.mono _ _ _ _ _
    | exact LeO.none _
    | refine LeO.ite ?_ ?_
    | refine LeO.bind ?_ (fun _ => ?_)
  ·
   intro y0 y1 y2 y3 y4 y5 y6 y7 y8 y9 y10 y11 y12 y13
   unfold estoverslaw39_ReclaimplanFloors.j6
   repeat' first
    | (with_reducible exact ih0 _ _ _ _ _)
    | (with_reducible exact ih1 _ _ _ _ _ _ _ _)
    | (with_reducible exact ih2 _ _ _ _ _ _ _ _ _ _)
    | (with_reducible exact ih3 _ _ _ _ _ _ _ _ _)
    | (with_reducible exact ih4 _ _ _ _ _ _ _ _ _ _)
    | (with_reducible exact ih5 _ _ _ _ _ _ _ _ _ _ _ _ _)
    | (with_reducible exact ih6 _ _ _ _ _ _ _ _ _ _ _ _ _ _)
    | (with_reducible exact estoverslaw39_awake.mono _)
    | (with_reducible exact estoversref19_Check.mono _ _)
    | (with_reducible exact estoversref19_Inside.mono _ _ _ _)
    | (with_reducible exact reclaimplan_Next.mono _ _ _ _ _)
    | (with_reducible exact reclaimplan_Useful.mono _ _ _ _ _)
    | (with_reducible exact LeO.refl _)
    | (with_reducible exact LeO.none _)
    | (with_reducible refine LeO.ite ?_ ?_)
    | (with_reducible refine LeO.bind ?_ (fun _ => ?_))
    | exact ih0 _ _ _ _ _
    | exact ih1 _ _ _ _ _ _ _ _
    | exact ih2 _ _ _ _ _ _ _ _ _ _
    | exact ih3 _ _ _ _ _ _ _ _ _
    | exact ih4 _ _ _ _ _ _ _ _ _ _
    | exact ih5 _ _ _ _ _ _ _ _ _ _ _ _ _
    | exact ih6 _ _ _ _ _ _ _ _ _ _ _ _ _ _
    | exact estoverslaw39_awake.mono _
    | exact estoversref19_Check.mono _ _
    | exact estoversref19_Inside.mono _ _ _ _
    | exact reclaimplan_Next.mono _ _ _ _ _
    | exact reclaimplan_Useful.mono _ _ _ _ _
    | exact LeO.none _
    | refine LeO.ite ?_ ?_
    | refine LeO.bind ?_ (fun _ => ?_)
theorem estoverslaw39_ReclaimplanFloors.mono : ∀ a0 a1 a2 a3 k,LeO (estoverslaw39_ReclaimplanFloors.f k a0 a1 a2 a3) (estoverslaw39_ReclaimplanFloors.f (k + 1) a0 a1 a2 a3):=by
 intro a0 a1 a2 a3 k;obtain ⟨ih0,ih1,ih2,ih3,ih4,ih5,ih6⟩:=estoverslaw39_ReclaimplanFloors.mono_l k
 unfold estoverslaw39_ReclaimplanFloors.f
 repeat' first
  | (with_reducible exact ih0 _ _ _ _ _)
  | (with_reducible exact ih1 _ _ _ _ _ _ _ _)
  | (with_reducible exact ih2 _ _ _ _ _ _ _ _ _ _)
  | (with_reducible exact ih3 _ _ _ _ _ _ _ _ _)
  | (with_reducible exact ih4 _ _ _ _ _ _ _ _ _ _)
  | (with_reducible exact ih5 _ _ _ _ _ _ _ _ _ _ _ _ _)
  | (with_reducible exact ih6 _ _ _ _ _ _ _ _ _ _ _ _ _ _)
  | (with_reducible exact estoverslaw39_awake.mono _)
  | (with_reducible exact estoversref19_Check.mono _ _)
  | (with_reducible exact estoversref19_Inside.mono _ _ _ _)
  | (with_reducible exact reclaimplan_Next.mono _ _ _ _ _)
  | (with_reducible exact reclaimplan_Useful.mono _ _ _ _ _)
  | (with_reducible exact LeO.refl _)
  | (with_reducible exact LeO.none _)
  | (with_reducible refine LeO.ite ?_ ?_)
  | (with_reducible refine LeO.bind ?_ (fun _ => ?_))
  | exact ih0 _ _ _ _ _
  | exact ih1 _ _ _ _ _ _ _ _
  | exact ih2 _ _ _ _ _ _ _ _ _ _
  | exact ih3 _ _ _ _ _ _ _ _ _
  | exact ih4 _ _ _ _ _ _ _ _ _ _
  | exact ih5 _ _ _ _ _ _ _ _ _ _ _ _ _
  | exact ih6 _ _ _ _ _ _ _ _ _ _ _ _ _ _
  | exact estoverslaw39_awake.mono _
  | exact estoversref19_Check.mono _ _
  | exact estoversref19_Inside.mono _ _ _ _
  | exact reclaimplan_Next.mono _ _ _ _ _
  | exact reclaimplan_Useful.mono _ _ _ _ _
  | exact LeO.none _
  | refine LeO.ite ?_ ?_
  | refine LeO.bind ?_ (fun _ => ?_)
set_option maxHeartbeats 8000000 in
set_option maxRecDepth 100000 in
theorem estoverslaw39_ReclaimplanFloors.calls (k : Nat) (A0_0 : Option Addr) (c0_0 : Nat) (l0_0 : List (S34)) (A0_1 : Option Addr) (c0_1 : Nat) (l0_1 : List (S30)) (a0_2 : Int) (a0_3 : Bool) (r : Bool) (w : World) (hr0_0 : Kd.C k34 w A0_0 l0_0.length l0_0) (hc0_0 : l0_0.length≤c0_0) (hr0_1 : Kd.C k30 w A0_1 l0_1.length l0_1) (hc0_1 : l0_1.length≤c0_1) (h : estoverslaw39_ReclaimplanFloors.f k l0_0 l0_1 a0_2 a0_3 = some r) :
 Calls Try.prog 13 #[.agg #[.slice A0_0 l0_0.length c0_0,.slice A0_1 l0_1.length c0_1,.int .i64 a0_2,.bool a0_3]] w fun e w' => e = .returned (.bool r)∧Below w.heap.size w w':=by
 have hu37:=Try.underlying37;have hu34:=Try.underlying34;have HR0_0:=Aside0.mk hr0_0;have HC0_0:=Aside0.mk hc0_0;clear hr0_0 hc0_0;have HR0_1:=Aside0.mk hr0_1;have HC0_1:=Aside0.mk hc0_1;clear hr0_1 hc0_1;have HB:=Aside0.mk (Below.refl w.heap.size w)
 have H : ((estoverslaw39_awake.f k).bind fun t403 => (if t403 = true then ((estoverslaw39_Few.f l0_0 l0_1 a0_2 a0_3).bind fun t404 => (if t404 = true then ((estoversref19_Check.f k l0_1).bind fun t405 => (estoverslaw39_ReclaimplanFloors.j0 k (t405 != 0) l0_0 l0_1 a0_2 a0_3)) else (estoverslaw39_ReclaimplanFloors.j0 k true l0_0 l0_1 a0_2 a0_3))) else (estoverslaw39_ReclaimplanFloors.j0 k true l0_0 l0_1 a0_2 a0_3))) = some r:=h
 clear h;have HC2:=Aside0.mk H;clear H
 go_enter Try.func13,Try.ntmps13
 go_upto_region 1 with (first | ((with_reducible refine gate_dst (N:=1) rfl ?_);(try (refine gate_guard (by rfl) ?_;dsimp only));refine box_event ?hg (N:=1) ?hd (cs:=#[.slice A0_0 l0_0.length c0_0,.slice A0_1 l0_1.length c0_1,.int .i64 a0_2,.bool a0_3]) (t:=37) ?hr ?_;(case hd => rfl);(case hg => rfl);(case hr => first | (go_simp;done) | (go_simp;rfl));intro gb402 hg w3 hbox hb;have n0_:=Aside0.mk (below_step (by repeat (first | (with_reducible first | exact HB.out | apply b0_ | apply b1_ | apply b2_) | exact HB.out)) hb);have n1_:=Aside0.mk (hbox);have n2_:=Aside0.mk ((by rw [hg];exact (below_size (by repeat (first | (with_reducible first | exact HB.out | apply b0_ | apply b1_ | apply b2_) | exact HB.out))) : w.heap.size≤gb402));have n3_:=Aside0.mk ((by rw [hg];exact (below_size (by repeat (first | (with_reducible first | exact HB.out | apply b0_ | apply b1_ | apply b2_) | exact HB.out))) : w.heap.size≤gb402));clear HB;have HB:=n0_;have BK402:=n1_;have GW402:=n2_;have GE402:=n3_;clear n0_ n1_ n2_ n3_;clear hb hbox hg))
 (try simp only [Act.put,List.setIfInBounds_toArray,List.set_cons_zero,List.set_cons_succ])
 go_cut [22] (fun v22 wc => ∃ (kq : Nat) (x22_1 : Bool),v22 = .bool x22_1∧Aside0 (estoverslaw39_ReclaimplanFloors.j0 kq x22_1 l0_0 l0_1 a0_2 a0_3 = some r)∧Aside0 (kq≤k)∧Aside0 (wc.heap[gb402]? = some (.cells #[(.slice A0_0 l0_0.length c0_0),(.slice A0_1 l0_1.length c0_1),.int .i64 a0_2,.bool a0_3] 37 (0,0)))∧Aside0 (Below w.heap.size w wc))
 case first =>
  have H:=HC2.out;clear HC2;replace H:=Option.bind_eq_some_iff.mp H;obtain ⟨t403,A40,H⟩:=H
  replace H : (if t403 = true then ((estoverslaw39_Few.f l0_0 l0_1 a0_2 a0_3).bind fun t404 => (if t404 = true then ((estoversref19_Check.f k l0_1).bind fun t405 => (estoverslaw39_ReclaimplanFloors.j0 k (t405 != 0) l0_0 l0_1 a0_2 a0_3)) else (estoverslaw39_ReclaimplanFloors.j0 k true l0_0 l0_1 a0_2 a0_3))) else (estoverslaw39_ReclaimplanFloors.j0 k true l0_0 l0_1 a0_2 a0_3)) = some r:=H
  have A4:=Aside0.mk A40;clear A40;by_cases c5 : t403 = true
  rotate_left
  ·
   replace c5:=Bool.eq_false_iff.mpr c5;subst c5
   have H1 : (estoverslaw39_ReclaimplanFloors.j0 k true l0_0 l0_1 a0_2 a0_3) = some r:=by rw [if_neg (show ¬ (false = true) by decide)] at H;exact H
   clear H;have H:=H1;clear H1;have H':=Aside0.mk H;clear H
   go_wp2_with (first | ((with_reducible refine gate_callee (f:=29) rfl ?_);refine goesL_ (some 10) rfl rfl Try.func29 (by kernel_rfl) rfl #[] rfl (by (try simp only [z3_,z4_,z5_]);first | done | rfl | (simp only [z6_,z7_];rfl)) ?_;(with_reducible refine (estoverslaw39_awake.calls k  false _ A4.out).mono ?_);rintro e w16 ⟨rfl,hb⟩;refine ⟨_,rfl,?_⟩;have n0_:=Aside0.mk (blk_below (g:=gb402) (o:=.cells #[.slice A0_0 l0_0.length c0_0,.slice A0_1 l0_1.length c0_1,.int .i64 a0_2,.bool a0_3] 37 (0,0)) (by (with_reducible repeat (first | refine blk_drewN ?_ _ | refine blk_drew ?_ | refine blk_alloc ?_ _));exact BK402.out) hb);have n1_:=Aside0.mk (below_step (by repeat (first | (with_reducible first | exact HB.out | apply b0_ | apply b1_ | apply b2_ | refine below_set ?_ GE402.out) | exact HB.out)) hb);clear BK402;clear HB;have BK402:=n0_;have HB:=n1_;clear n0_ n1_))
   go_meet
   case rel => exact ⟨_,(true),(by first | rfl | (simp;done) | (simp [*];done)),H',⟨by first | omega | exact Nat.le_refl _⟩,⟨by (with_reducible repeat (first | refine blk_drewN ?_ _ | refine blk_drew ?_ | refine blk_alloc ?_ _));exact BK402.out⟩,⟨by repeat (first | (with_reducible first | exact HB.out | apply b0_ | apply b1_ | apply b2_ | refine below_set ?_ GE402.out) | exact HB.out)⟩⟩
  subst c5
  have H1 : ((estoverslaw39_Few.f l0_0 l0_1 a0_2 a0_3).bind fun t404 => (if t404 = true then ((estoversref19_Check.f k l0_1).bind fun t405 => (estoverslaw39_ReclaimplanFloors.j0 k (t405 != 0) l0_0 l0_1 a0_2 a0_3)) else (estoverslaw39_ReclaimplanFloors.j0 k true l0_0 l0_1 a0_2 a0_3))) = some r:=by rw [if_pos rfl] at H;exact H
  clear H;have H:=H1;clear H1;replace H:=Option.bind_eq_some_iff.mp H;obtain ⟨t404,A60,H⟩:=H;replace H : (if t404 = true then ((estoversref19_Check.f k l0_1).bind fun t405 => (estoverslaw39_ReclaimplanFloors.j0 k (t405 != 0) l0_0 l0_1 a0_2 a0_3)) else (estoverslaw39_ReclaimplanFloors.j0 k true l0_0 l0_1 a0_2 a0_3)) = some r:=H;have A6:=Aside0.mk A60;clear A60
  by_cases c7 : t404 = true
  rotate_left
  ·
   replace c7:=Bool.eq_false_iff.mpr c7;subst c7
   have H1 : (estoverslaw39_ReclaimplanFloors.j0 k true l0_0 l0_1 a0_2 a0_3) = some r:=by rw [if_neg (show ¬ (false = true) by decide)] at H;exact H
   clear H;have H:=H1;clear H1;have H':=Aside0.mk H;clear H
   go_wp2_with (first | ((with_reducible refine gate_callee (f:=29) rfl ?_);refine goesL_ (some 10) rfl rfl Try.func29 (by kernel_rfl) rfl #[] rfl (by (try simp only [z3_,z4_,z5_]);first | done | rfl | (simp only [z6_,z7_];rfl)) ?_;(with_reducible refine (estoverslaw39_awake.calls k  true _ A4.out).mono ?_);rintro e w13 ⟨rfl,hb⟩;refine ⟨_,rfl,?_⟩;have n0_:=Aside0.mk (blk_below (g:=gb402) (o:=.cells #[.slice A0_0 l0_0.length c0_0,.slice A0_1 l0_1.length c0_1,.int .i64 a0_2,.bool a0_3] 37 (0,0)) (by (with_reducible repeat (first | refine blk_drewN ?_ _ | refine blk_drew ?_ | refine blk_alloc ?_ _));exact BK402.out) hb);have n1_:=Aside0.mk (below_step (by repeat (first | (with_reducible first | exact HB.out | apply b0_ | apply b1_ | apply b2_ | refine below_set ?_ GE402.out) | exact HB.out)) hb);clear BK402;clear HB;have BK402:=n0_;have HB:=n1_;clear n0_ n1_;obtain ⟨hcz14_0,hcz14_1,hcz14_2,hcz14_3,hfz14_0,hfz14_1,hfz14_2,hfz14_3⟩:=q4_ BK402.out) | (go_at_call 21;(with_reducible refine (estoverslaw39_Few.calls _ _ l0_0 _ _ l0_1 a0_2 a0_3 false _ ?side1 ?side2 ?side3 ?side4 A6.out).mono ?_);(case side1 => repeat (first | exact (Kd.C_below HR0_0.out HB.out) | (with_reducible refine Kd.C_alloc ?_ _) | (with_reducible refine Kd.C_drewN ?_ _) | (with_reducible refine Kd.C_drew ?_)));(case side2 => exact HC0_0.out);(case side3 => repeat (first | exact (Kd.C_below HR0_1.out HB.out) | (with_reducible refine Kd.C_alloc ?_ _) | (with_reducible refine Kd.C_drewN ?_ _) | (with_reducible refine Kd.C_drew ?_)));(case side4 => exact HC0_1.out);rintro e w15 ⟨rfl,hb⟩;have n0_:=Aside0.mk (blk_below (g:=gb402) (o:=.cells #[.slice A0_0 l0_0.length c0_0,.slice A0_1 l0_1.length c0_1,.int .i64 a0_2,.bool a0_3] 37 (0,0)) (by (with_reducible repeat (first | refine blk_drewN ?_ _ | refine blk_drew ?_ | refine blk_alloc ?_ _));exact BK402.out) hb);have n1_:=Aside0.mk (below_step (by repeat (first | (with_reducible first | exact HB.out | apply b0_ | apply b1_ | apply b2_ | refine below_set ?_ GE402.out) | exact HB.out)) hb);clear BK402;clear HB;have BK402:=n0_;have HB:=n1_;clear n0_ n1_))
   go_meet
   case rel => exact ⟨_,(true),(by first | rfl | (simp;done) | (simp [*];done)),H',⟨by first | omega | exact Nat.le_refl _⟩,⟨by (with_reducible repeat (first | refine blk_drewN ?_ _ | refine blk_drew ?_ | refine blk_alloc ?_ _));exact BK402.out⟩,⟨by repeat (first | (with_reducible first | exact HB.out | apply b0_ | apply b1_ | apply b2_ | refine below_set ?_ GE402.out) | exact HB.out)⟩⟩
  subst c7
  have H1 : ((estoversref19_Check.f k l0_1).bind fun t405 => (estoverslaw39_ReclaimplanFloors.j0 k (t405 != 0) l0_0 l0_1 a0_2 a0_3)) = some r:=by rw [if_pos rfl] at H;exact H
  clear H;have H:=H1;clear H1;replace H:=Option.bind_eq_some_iff.mp H;obtain ⟨t405,A80,H⟩:=H;replace H : (estoverslaw39_ReclaimplanFloors.j0 k (t405 != 0) l0_0 l0_1 a0_2 a0_3) = some r:=H;have A8:=Aside0.mk A80;clear A80;have H':=Aside0.mk H;clear H
  go_wp2_with (first | ((with_reducible refine gate_callee (f:=29) rfl ?_);refine goesL_ (some 10) rfl rfl Try.func29 (by kernel_rfl) rfl #[] rfl (by (try simp only [z3_,z4_,z5_]);first | done | rfl | (simp only [z6_,z7_];rfl)) ?_;(with_reducible refine (estoverslaw39_awake.calls k  true _ A4.out).mono ?_);rintro e w9 ⟨rfl,hb⟩;refine ⟨_,rfl,?_⟩;have n0_:=Aside0.mk (blk_below (g:=gb402) (o:=.cells #[.slice A0_0 l0_0.length c0_0,.slice A0_1 l0_1.length c0_1,.int .i64 a0_2,.bool a0_3] 37 (0,0)) (by (with_reducible repeat (first | refine blk_drewN ?_ _ | refine blk_drew ?_ | refine blk_alloc ?_ _));exact BK402.out) hb);have n1_:=Aside0.mk (below_step (by repeat (first | (with_reducible first | exact HB.out | apply b0_ | apply b1_ | apply b2_ | refine below_set ?_ GE402.out) | exact HB.out)) hb);clear BK402;clear HB;have BK402:=n0_;have HB:=n1_;clear n0_ n1_;obtain ⟨hcz10_0,hcz10_1,hcz10_2,hcz10_3,hfz10_0,hfz10_1,hfz10_2,hfz10_3⟩:=q4_ BK402.out) | (go_at_call 21;(with_reducible refine (estoverslaw39_Few.calls _ _ l0_0 _ _ l0_1 a0_2 a0_3 true _ ?side1 ?side2 ?side3 ?side4 A6.out).mono ?_);(case side1 => repeat (first | exact (Kd.C_below HR0_0.out HB.out) | (with_reducible refine Kd.C_alloc ?_ _) | (with_reducible refine Kd.C_drewN ?_ _) | (with_reducible refine Kd.C_drew ?_)));(case side2 => exact HC0_0.out);(case side3 => repeat (first | exact (Kd.C_below HR0_1.out HB.out) | (with_reducible refine Kd.C_alloc ?_ _) | (with_reducible refine Kd.C_drewN ?_ _) | (with_reducible refine Kd.C_drew ?_)));(case side4 => exact HC0_1.out);rintro e w11 ⟨rfl,hb⟩;have n0_:=Aside0.mk (blk_below (g:=gb402) (o:=.cells #[.slice A0_0 l0_0.length c0_0,.slice A0_1 l0_1.length c0_1,.int .i64 a0_2,.bool a0_3] 37 (0,0)) (by (with_reducible repeat (first | refine blk_drewN ?_ _ | refine blk_drew ?_ | refine blk_alloc ?_ _));exact BK402.out) hb);have n1_:=Aside0.mk (below_step (by repeat (first | (with_reducible first | exact HB.out | apply b0_ | apply b1_ | apply b2_ | refine below_set ?_ GE402.out) | exact HB.out)) hb);clear BK402;clear HB;have BK402:=n0_;have HB:=n1_;clear n0_ n1_;obtain ⟨hcz12_0,hcz12_1,hcz12_2,hcz12_3,hfz12_0,hfz12_1,hfz12_2,hfz12_3⟩:=q4_ BK402.out) | (go_at_call 16;(with_reducible refine (estoversref19_Check.calls k _ _ l0_1 t405 _ ?side1 ?side2 A8.out).mono ?_);(case side1 => repeat (first | exact (Kd.C_below HR0_1.out HB.out) | (with_reducible refine Kd.C_alloc ?_ _) | (with_reducible refine Kd.C_drewN ?_ _) | (with_reducible refine Kd.C_drew ?_)));(case side2 => exact HC0_1.out);rintro e w' ⟨rfl,⟨nd,rfl⟩⟩))
  go_meet
  case rel => exact ⟨_,((t405 != 0)),(by first | rfl | (simp;done) | (simp [*];done)),H',⟨by first | omega | exact Nat.le_refl _⟩,⟨by (with_reducible repeat (first | refine blk_drewN ?_ _ | refine blk_drew ?_ | refine blk_alloc ?_ _));exact BK402.out⟩,⟨by repeat (first | (with_reducible first | exact HB.out | apply b0_ | apply b1_ | apply b2_ | refine below_set ?_ GE402.out) | exact HB.out)⟩⟩
 case rest =>
  clear HC2;obtain ⟨kq,x22_1,rfl,HA,HJ1,BK402,HB⟩:=hcut
  cases kq with
   | zero => exact absurd HA.out (by simp [estoverslaw39_ReclaimplanFloors.j0])
   | succ kj1 =>
    have H:=HA.out;clear HA;simp only [estoverslaw39_ReclaimplanFloors.j0] at H;by_cases c17 : x22_1 = true
    rotate_left
    ·
     replace c17:=Bool.eq_false_iff.mpr c17;subst c17
     have H1 : ((some (([] : List (S34)) : List (S34))).bind fun y407 => (if y407.length + l0_0.length < 2932031007402 then ((some (y407 ++ l0_0 : List (S34))).bind fun y410 => ((reclaimplan_Useful.f kj1 y410 l0_1 a0_2 a0_3).bind fun t413 => (estoverslaw39_ReclaimplanFloors.l0 kj1 y410 t413 (wrap64 ((y410.length : Int) + 1)) 0 l0_0 l0_1 a0_2 a0_3))) else (none))) = some r:=by rw [if_neg (show ¬ (false = true) by decide)] at H;exact H
     clear H;have H:=H1;clear H1;obtain ⟨y407,hy407⟩ : ∃ y_ : List (S34),y_ = (([] : List (S34))):=⟨_,rfl⟩
     replace H : (if y407.length + l0_0.length < 2932031007402 then ((some (y407 ++ l0_0 : List (S34))).bind fun y410 => ((reclaimplan_Useful.f kj1 y410 l0_1 a0_2 a0_3).bind fun t413 => (estoverslaw39_ReclaimplanFloors.l0 kj1 y410 t413 (wrap64 ((y410.length : Int) + 1)) 0 l0_0 l0_1 a0_2 a0_3))) else (none)) = some r:=by first | (rw [hy407];with_reducible exact H) | (have H2_:=(Option.bind_some _ _).symm.trans H;rw [hy407];with_reducible exact H2_) | (have H2_:=(Option.bind_some _ _).symm.trans H;with_reducible exact H2_) | with_reducible exact H | (rw [hy407];exact H) | exact H
     have Ny407:=Aside0.mk hy407;clear hy407;by_cases c20 : y407.length + l0_0.length < 2932031007402
     rotate_left
     · rw [if_neg c20] at H;exact absurd H (by simp)
     rw [if_pos c20] at H;have LMc20:=Aside0.mk c20;clear c20;obtain ⟨y410,hy410⟩ : ∃ y_ : List (S34),y_ = (y407 ++ l0_0):=⟨_,rfl⟩
     replace H : ((reclaimplan_Useful.f kj1 y410 l0_1 a0_2 a0_3).bind fun t413 => (estoverslaw39_ReclaimplanFloors.l0 kj1 y410 t413 (wrap64 ((y410.length : Int) + 1)) 0 l0_0 l0_1 a0_2 a0_3)) = some r:=by first | (rw [hy410];with_reducible exact H) | (have H2_:=(Option.bind_some _ _).symm.trans H;rw [hy410];with_reducible exact H2_) | (have H2_:=(Option.bind_some _ _).symm.trans H;with_reducible exact H2_) | with_reducible exact H | (rw [hy410];exact H) | exact H
     have Ny410:=Aside0.mk hy410;clear hy410;replace H:=Option.bind_eq_some_iff.mp H;obtain ⟨t413,A210,H⟩:=H;replace H : (estoverslaw39_ReclaimplanFloors.l0 kj1 y410 t413 (wrap64 ((y410.length : Int) + 1)) 0 l0_0 l0_1 a0_2 a0_3) = some r:=H;have A21:=Aside0.mk A210;clear A210;have H':=Aside0.mk H;clear H
     go_wp2_with (first | ((with_reducible refine gate_dst (N:=24) rfl ?_);(try (refine gate_guard (by rfl) ?_;dsimp only));refine Kd.R_lit k34 _ 34 ?hg (N:=24) ?hd (xs:=([] : List (S34))) (inner:=[]) (ok:=fun _ => True) (okp:=fun _ => True) ?hr ?hp (fun _ hk => hk) trivial (Below.refl _ _) (Nat.le_refl _) (by simp) ?_;(case hd => rfl);(case hg => rfl);(case hr => first | (go_simp;done) | (go_simp;rfl));(case hp => exact (Reps.none _ _));intro v408 w22 ho23 hb hg_ hnew_;clear hg_ hnew_;(first | rw [← Ny407.out] at ho23 | (simp only [Int.reduceToNat] at ho23;rw [← Ny407.out] at ho23));have n0_:=Aside0.mk (Kd.R_lower ho23 (below_size (by repeat (first | (with_reducible first | exact HB.out | apply b0_ | apply b1_ | apply b2_ | refine below_set ?_ GE402.out) | exact HB.out))));have n1_:=Aside0.mk (blk_below (g:=gb402) (o:=.cells #[.slice A0_0 l0_0.length c0_0,.slice A0_1 l0_1.length c0_1,.int .i64 a0_2,.bool a0_3] 37 (0,0)) (by (with_reducible repeat (first | refine blk_drewN ?_ _ | refine blk_drew ?_ | refine blk_alloc ?_ _));exact BK402.out) hb);have n2_:=Aside0.mk (below_step (by repeat (first | (with_reducible first | exact HB.out | apply b0_ | apply b1_ | apply b2_ | refine below_set ?_ GE402.out) | exact HB.out)) hb);clear BK402;clear HB;have HO409:=n0_;have BK402:=n1_;have HB:=n2_;clear n0_ n1_ n2_;clear hb ho23;obtain ⟨hcz24_0,hcz24_1,hcz24_2,hcz24_3,hfz24_0,hfz24_1,hfz24_2,hfz24_3⟩:=q4_ BK402.out) | ((with_reducible refine gate_builtin (b:=.append) (xs:=#[.tmp 24,.tmp 26]) rfl ?_);(try (refine gate_guard (by rfl) ?_;dsimp only));at_builtin;refine Kd.R_append_rows k34 (w0:=w) w.heap.size rfl (.tmp 24) (.tmp 26) 27 34 (.agg #[(.int .i64 0),(.int .i64 0),(.int .i64 0),(.int .i64 0),(.int .i64 0),(.bool false),(.bool false)]) 48 rfl Try.underlying27 info34 rfl (by decide) (by omega) v408 y407 l0_0 _ _ _ (fun _ => True) (fun _ => False) rfl rfl ?aO ?aR (fun _ _ h => h) (fun _ h => h.elim) ?aF ?aB ?aS ?aL ?_;(case aR => repeat (first | exact (Kd.C_below HR0_0.out HB.out) | (with_reducible refine Kd.C_alloc ?_ _) | (with_reducible refine Kd.C_drewN ?_ _) | (with_reducible refine Kd.C_drew ?_)));(case aB => exact (by repeat (first | (with_reducible first | exact HB.out | apply b0_ | apply b1_ | apply b2_ | refine below_set ?_ GE402.out) | exact HB.out)));(case aF => exact (fun _ _ => trivial));(case aO => exact (by (with_reducible repeat (first | apply Kd.R_alloc | apply Kd.R_drewN | apply Kd.R_drew));exact HO409.out));(case aS => exact (below_size (by repeat (first | (with_reducible first | exact HB.out | apply b0_ | apply b1_ | apply b2_ | refine below_set ?_ GE402.out) | exact HB.out))));(case aL => have:=LMc20.out;omega);intro v411 w25 ho hb hg hat;rw [← Ny410.out] at ho;have n0_:=Aside0.mk (blk_grown (g:=gb402) (o:=.cells #[.slice A0_0 l0_0.length c0_0,.slice A0_1 l0_1.length c0_1,.int .i64 a0_2,.bool a0_3] 37 (0,0)) (by (with_reducible repeat (first | refine blk_drewN ?_ _ | refine blk_drew ?_ | refine blk_alloc ?_ _));exact BK402.out) hg (Kd.R_ne HO409.out BK402.out (by decide)));have n1_:=Aside0.mk (hb);have n2_:=Aside0.mk (ho);clear BK402;clear HB;clear HO409;have BK402:=n0_;have HB:=n1_;have HO412:=n2_;clear n0_ n1_ n2_;clear ho hb hg hat;obtain ⟨hcz26_0,hcz26_1,hcz26_2,hcz26_3,hfz26_0,hfz26_1,hfz26_2,hfz26_3⟩:=q4_ BK402.out;obtain ⟨Ao27,co27,eo27⟩:=Kd.R_slice HO412.out;subst eo27) | ((with_reducible refine gate_callee (f:=38) rfl ?_);refine goesL_ (some 35) rfl rfl Try.func38 (by kernel_rfl) rfl #[.slice Ao27 y410.length co27,.slice A0_1 l0_1.length c0_1,.int .i64 a0_2,.bool a0_3] rfl (by (try simp only [z3_,z4_,z5_]);first | done | rfl | (simp only [z6_,z7_];rfl)) ?_;(with_reducible refine (reclaimplan_Useful.calls kj1 _ _ y410 _ _ l0_1 a0_2 a0_3 t413 _ ?side1 ?side2 ?side3 ?side4 A21.out).mono ?_);(case side1 => repeat (first | exact (Kd.R_reads' HO412.out).2.2 | (with_reducible refine Kd.C_alloc ?_ _) | (with_reducible refine Kd.C_drewN ?_ _) | (with_reducible refine Kd.C_drew ?_)));(case side2 => exact (Kd.R_reads' HO412.out).2.1);(case side3 => repeat (first | exact (Kd.C_below HR0_1.out HB.out) | (with_reducible refine Kd.C_alloc ?_ _) | (with_reducible refine Kd.C_drewN ?_ _) | (with_reducible refine Kd.C_drew ?_)));(case side4 => exact HC0_1.out);rintro e w28 ⟨rfl,hb⟩;refine ⟨_,rfl,?_⟩;have n0_:=Aside0.mk (Kd.R_below (by (with_reducible repeat (first | apply Kd.R_alloc | apply Kd.R_drewN | apply Kd.R_drew));exact HO412.out) hb);have n1_:=Aside0.mk (blk_below (g:=gb402) (o:=.cells #[.slice A0_0 l0_0.length c0_0,.slice A0_1 l0_1.length c0_1,.int .i64 a0_2,.bool a0_3] 37 (0,0)) (by (with_reducible repeat (first | refine blk_drewN ?_ _ | refine blk_drew ?_ | refine blk_alloc ?_ _));exact BK402.out) hb);have n2_:=Aside0.mk (below_step (by repeat (first | (with_reducible first | exact HB.out | apply b0_ | apply b1_ | apply b2_ | refine below_set ?_ GE402.out) | exact HB.out)) hb);clear HO412;clear BK402;clear HB;have HO412:=n0_;have BK402:=n1_;have HB:=n2_;clear n0_ n1_ n2_))
     go_loopg [4,39] kj1 (fun kq v4 v39 w' => ∃ (x3_2 : List (S34)) (x4_2 : Int) (x39_2 : Int),v4 = .int .i64 x4_2∧v39 = .int .i64 x39_2∧Aside0 (estoverslaw39_ReclaimplanFloors.l0 kq x3_2 x4_2 (wrap64 ((y410.length : Int) + 1)) x39_2 l0_0 l0_1 a0_2 a0_3 = some r)∧Aside0 (kq≤kj1)∧Aside0 (Kd.R k34 34 w' w.heap.size (fun _ => True) (.slice Ao27 y410.length co27) x3_2)∧Aside0 (w'.heap[gb402]? = some (.cells #[(.slice A0_0 l0_0.length c0_0),(.slice A0_1 l0_1.length c0_1),.int .i64 a0_2,.bool a0_3] 37 (0,0)))∧Aside0 (Below w.heap.size w w'))
     case atStart => exact ⟨(y410),(t413),(0),(by first | rfl | (simp;done) | (simp [*];done)),(by first | rfl | (simp;done) | (simp [*];done)),H',⟨Nat.le_refl _⟩,⟨by (with_reducible repeat (first | apply Kd.R_alloc | apply Kd.R_drewN | apply Kd.R_drew));exact HO412.out⟩,⟨by (with_reducible repeat (first | refine blk_drewN ?_ _ | refine blk_drew ?_ | refine blk_alloc ?_ _));exact BK402.out⟩,⟨by repeat (first | (with_reducible first | exact HB.out | apply b0_ | apply b1_ | apply b2_ | refine below_set ?_ GE402.out) | exact HB.out)⟩⟩
     case round =>
      clear H';obtain ⟨x3_2,x4_2,x39_2,rfl,rfl,HA,HK2,HO_3,BK402,HB⟩:=hrel;have hl3_2:=(Kd.R_reads' HO_3.out).1;rw [hl3_2] at HO_3
      (try simp only [hl3_2])
      (try simp only [hl3_2] at BK402)
      cases gk with
       | zero => exact absurd HA.out (by simp [estoverslaw39_ReclaimplanFloors.l0])
       | succ k2 =>
        have H:=HA.out;clear HA;simp only [estoverslaw39_ReclaimplanFloors.l0] at H;by_cases c29 : x39_2 < (wrap64 ((y410.length : Int) + 1))
        rotate_left
        ·
         rw [if_neg c29] at H;have c29b0 : decide (x39_2 < (wrap64 ((y410.length : Int) + 1))) = false:=decide_eq_false c29;have c29b0q : decide (x39_2 < (wrap64 ((x3_2.length : Int) + 1))) = false:=(by first | (rw [← hl3_2];exact c29b0) | (have c29b0z:=c29b0;simp only [hl3_2] at c29b0z;exact c29b0z));clear c29;obtain rfl:=Option.some.inj H;go_wp2;go_ret
         exact ⟨by first | rfl | (simp [errW_none,errW_some] <;> rfl) | (simp [*,errW_none,errW_some] <;> rfl),by repeat (first | (with_reducible first | exact HB.out | apply b0_ | apply b1_ | apply b2_ | refine below_set ?_ GE402.out) | exact HB.out)⟩
        rw [if_pos c29] at H;have c29b0 : decide (x39_2 < (wrap64 ((y410.length : Int) + 1))) = true:=decide_eq_true c29;have c29b0q : decide (x39_2 < (wrap64 ((x3_2.length : Int) + 1))) = true:=(by first | (rw [← hl3_2];exact c29b0) | (have c29b0z:=c29b0;simp only [hl3_2] at c29b0z;exact c29b0z));clear c29;replace H:=Option.bind_eq_some_iff.mp H;obtain ⟨t414,A300,H⟩:=H
        replace H : (if t414 < 0 then (some (t414 == (-1))) else (if t414≥(x3_2.length : Int) then (estoverslaw39_ReclaimplanFloors.j2 k2 x3_2 x4_2 t414 (wrap64 ((y410.length : Int) + 1)) x39_2 true l0_0 l0_1 a0_2 a0_3) else (if 0≤t414 then (if t414 < (x3_2.length : Int) then (if (rd_T34 x3_2 t414).f6 = true then (estoverslaw39_ReclaimplanFloors.j2 k2 x3_2 x4_2 t414 (wrap64 ((y410.length : Int) + 1)) x39_2 true l0_0 l0_1 a0_2 a0_3) else (estoverslaw39_ReclaimplanFloors.j2 k2 x3_2 x4_2 t414 (wrap64 ((y410.length : Int) + 1)) x39_2 (((rd_T34 x3_2 t414).f3) != 0) l0_0 l0_1 a0_2 a0_3)) else (none)) else (none)))) = some r:=H
        have A30:=Aside0.mk A300;clear A300;by_cases c31 : t414 < 0
        rotate_left
        ·
         rw [if_neg c31] at H;have c31b0 : decide (t414 < 0) = false:=decide_eq_false c31;clear c31;have HC34:=Aside0.mk H;clear H;obtain ⟨hcz35_0,hcz35_1,hcz35_2,hcz35_3,hfz35_0,hfz35_1,hfz35_2,hfz35_3⟩:=q4_ BK402.out
         go_upto_region 10 with (first | ((with_reducible refine gate_callee (f:=20) rfl ?_);refine goesL_ (some 48) rfl rfl Try.func20 (by kernel_rfl) rfl #[.slice Ao27 x3_2.length co27,.slice A0_1 l0_1.length c0_1,.int .i64 a0_2,.bool a0_3] rfl (by (try simp only [z3_,z4_,z5_]);first | done | rfl | (simp only [z6_,z7_];rfl)) ?_;(with_reducible refine (reclaimplan_Next.calls k2 _ _ x3_2 _ _ l0_1 a0_2 a0_3 t414 _ ?side1 ?side2 ?side3 ?side4 A30.out).mono ?_);(case side1 => repeat (first | exact (Kd.R_reads' HO_3.out).2.2 | (with_reducible refine Kd.C_alloc ?_ _) | (with_reducible refine Kd.C_drewN ?_ _) | (with_reducible refine Kd.C_drew ?_)));(case side2 => exact (Kd.R_reads' HO_3.out).2.1);(case side3 => repeat (first | exact (Kd.C_below HR0_1.out HB.out) | (with_reducible refine Kd.C_alloc ?_ _) | (with_reducible refine Kd.C_drewN ?_ _) | (with_reducible refine Kd.C_drew ?_)));(case side4 => exact HC0_1.out);rintro e w36 ⟨rfl,hb⟩;refine ⟨_,rfl,?_⟩;have n0_:=Aside0.mk (Kd.R_below (by (with_reducible repeat (first | apply Kd.R_alloc | apply Kd.R_drewN | apply Kd.R_drew));exact HO_3.out) hb);have n1_:=Aside0.mk (blk_below (g:=gb402) (o:=.cells #[.slice A0_0 l0_0.length c0_0,.slice A0_1 l0_1.length c0_1,.int .i64 a0_2,.bool a0_3] 37 (0,0)) (by (with_reducible repeat (first | refine blk_drewN ?_ _ | refine blk_drew ?_ | refine blk_alloc ?_ _));exact BK402.out) hb);have n2_:=Aside0.mk (below_step (by repeat (first | (with_reducible first | exact HB.out | apply b0_ | apply b1_ | apply b2_ | refine below_set ?_ GE402.out) | exact HB.out)) hb);clear HO_3;clear BK402;clear HB;have HO_3:=n0_;have BK402:=n1_;have HB:=n2_;clear n0_ n1_ n2_))
         (try simp only [Act.put,List.setIfInBounds_toArray,List.set_cons_zero,List.set_cons_succ])
         go_cut [71] (fun v71 wc => ∃ (kq : Nat) (x71_33 : Bool),v71 = .bool x71_33∧Aside0 (estoverslaw39_ReclaimplanFloors.j2 kq x3_2 x4_2 t414 (wrap64 ((y410.length : Int) + 1)) x39_2 x71_33 l0_0 l0_1 a0_2 a0_3 = some r)∧Aside0 (kq≤k2)∧Aside0 (Kd.R k34 34 wc w.heap.size (fun _ => True) (.slice Ao27 x3_2.length co27) x3_2)∧Aside0 (wc.heap[gb402]? = some (.cells #[(.slice A0_0 l0_0.length c0_0),(.slice A0_1 l0_1.length c0_1),.int .i64 a0_2,.bool a0_3] 37 (0,0)))∧Aside0 (Below w.heap.size w wc))
         case first =>
          have H:=HC34.out;clear HC34;by_cases c37 : t414≥(x3_2.length : Int)
          rotate_left
          ·
           rw [if_neg c37] at H;have c37b0 : decide ((x3_2.length : Int)≤t414) = false:=decide_eq_false c37;clear c37
           (first | rw [c37b0] | (simp only [i64_w,i32_w];rw [c37b0]) | skip)
           by_cases c38 : 0≤t414
           rotate_left
           · rw [if_neg c38] at H;exact absurd H (by simp)
           rw [if_pos c38] at H;have c38b0 : decide (0≤t414) = true:=decide_eq_true c38;clear c38;by_cases c39 : t414 < (x3_2.length : Int)
           rotate_left
           · rw [if_neg c39] at H;exact absurd H (by simp)
           rw [if_pos c39] at H;have c39b0 : decide (t414 < (x3_2.length : Int)) = true:=decide_eq_true c39;clear c39;obtain ⟨bq40,hbq40⟩ : ∃ b_ : Bool,b_ = ((rd_T34 x3_2 t414).f6):=⟨_,rfl⟩
           replace H : (if bq40 = true then (estoverslaw39_ReclaimplanFloors.j2 k2 x3_2 x4_2 t414 (wrap64 ((y410.length : Int) + 1)) x39_2 true l0_0 l0_1 a0_2 a0_3) else (estoverslaw39_ReclaimplanFloors.j2 k2 x3_2 x4_2 t414 (wrap64 ((y410.length : Int) + 1)) x39_2 (((rd_T34 x3_2 t414).f3) != 0) l0_0 l0_1 a0_2 a0_3)) = some r:=by rw [← hbq40] at H;exact H
           have Nbq40:=Aside0.mk hbq40;clear hbq40;by_cases c41 : bq40 = true
           rotate_left
           ·
            replace c41:=Bool.eq_false_iff.mpr c41;subst c41
            have H1 : (estoverslaw39_ReclaimplanFloors.j2 k2 x3_2 x4_2 t414 (wrap64 ((y410.length : Int) + 1)) x39_2 (((rd_T34 x3_2 t414).f3) != 0) l0_0 l0_1 a0_2 a0_3) = some r:=by rw [if_neg (show ¬ (false = true) by decide)] at H;exact H
            clear H;have H:=H1;clear H1;have H':=Aside0.mk H;clear H;have p415 : 0≤(t414 : Int):=of_decide_eq_true (by first | (with_reducible assumption) | assumption);have q415 : t414 < (x3_2.length : Int):=of_decide_eq_true (by first | (with_reducible assumption) | assumption)
            obtain ⟨ad415,e415,hx415_0,hx415_1,hx415_2,hx415_3,hx415_4,hx415_5,hx415_6⟩:=at_T34 (Kd.R_reads' HO_3.out).2.2 t414 p415 q415
            (try rw [← Nbq40.out] at hx415_5)
            (try rw [← Nbq40.out] at hx415_6)
            cases e415;replace p415:=eq_true p415;replace q415:=eq_true q415;have p416 : 0≤(t414 : Int):=of_decide_eq_true (by first | (with_reducible assumption) | assumption);have q416 : t414 < (x3_2.length : Int):=of_decide_eq_true (by first | (with_reducible assumption) | assumption)
            obtain ⟨ad416,e416,hx416_0,hx416_1,hx416_2,hx416_3,hx416_4,hx416_5,hx416_6⟩:=at_T34 (Kd.R_reads' HO_3.out).2.2 t414 p416 q416
            (try rw [← Nbq40.out] at hx416_5)
            (try rw [← Nbq40.out] at hx416_6)
            obtain rfl : ad415 = ad416:=(by injection e416);replace p416:=eq_true p416;replace q416:=eq_true q416;go_wp2
            go_meet
            case rel => exact ⟨_,((((rd_T34 x3_2 t414).f3) != 0)),(by first | rfl | (simp;done) | (simp [*];done)),H',⟨by have:=HJ1.out;have:=HK2.out;first | omega | exact Nat.le_refl _⟩,⟨by (try simp only [hl3_2]);(with_reducible repeat (first | apply Kd.R_alloc | apply Kd.R_drewN | apply Kd.R_drew));exact HO_3.out⟩,⟨by (try simp only [hl3_2]);(try rw [← Nbq40.out]);(with_reducible repeat (first | refine blk_drewN ?_ _ | refine blk_drew ?_ | refine blk_alloc ?_ _));exact BK402.out⟩,⟨by repeat (first | (with_reducible first | exact HB.out | apply b0_ | apply b1_ | apply b2_ | refine below_set ?_ GE402.out) | exact HB.out)⟩⟩
           subst c41
           have H1 : (estoverslaw39_ReclaimplanFloors.j2 k2 x3_2 x4_2 t414 (wrap64 ((y410.length : Int) + 1)) x39_2 true l0_0 l0_1 a0_2 a0_3) = some r:=by rw [if_pos rfl] at H;exact H
           clear H;have H:=H1;clear H1;have H':=Aside0.mk H;clear H;have p415 : 0≤(t414 : Int):=of_decide_eq_true (by first | (with_reducible assumption) | assumption);have q415 : t414 < (x3_2.length : Int):=of_decide_eq_true (by first | (with_reducible assumption) | assumption)
           obtain ⟨ad415,e415,hx415_0,hx415_1,hx415_2,hx415_3,hx415_4,hx415_5,hx415_6⟩:=at_T34 (Kd.R_reads' HO_3.out).2.2 t414 p415 q415
           (try rw [← Nbq40.out] at hx415_5)
           (try rw [← Nbq40.out] at hx415_6)
           cases e415;replace p415:=eq_true p415;replace q415:=eq_true q415;go_wp2
           go_meet
           case rel => exact ⟨_,(true),(by first | rfl | (simp;done) | (simp [*];done)),H',⟨by have:=HJ1.out;have:=HK2.out;first | omega | exact Nat.le_refl _⟩,⟨by (try simp only [hl3_2]);(with_reducible repeat (first | apply Kd.R_alloc | apply Kd.R_drewN | apply Kd.R_drew));exact HO_3.out⟩,⟨by (try simp only [hl3_2]);(try rw [← Nbq40.out]);(with_reducible repeat (first | refine blk_drewN ?_ _ | refine blk_drew ?_ | refine blk_alloc ?_ _));exact BK402.out⟩,⟨by repeat (first | (with_reducible first | exact HB.out | apply b0_ | apply b1_ | apply b2_ | refine below_set ?_ GE402.out) | exact HB.out)⟩⟩
          rw [if_pos c37] at H;have c37b0 : decide ((x3_2.length : Int)≤t414) = true:=decide_eq_true c37;clear c37
          (first | rw [c37b0] | (simp only [i64_w,i32_w];rw [c37b0]) | skip)
          have H':=Aside0.mk H;clear H;go_wp2
          go_meet
          case rel => exact ⟨_,(true),(by first | rfl | (simp;done) | (simp [*];done)),H',⟨by have:=HJ1.out;have:=HK2.out;first | omega | exact Nat.le_refl _⟩,⟨by (try simp only [hl3_2]);(with_reducible repeat (first | apply Kd.R_alloc | apply Kd.R_drewN | apply Kd.R_drew));exact HO_3.out⟩,⟨by (try simp only [hl3_2]);(with_reducible repeat (first | refine blk_drewN ?_ _ | refine blk_drew ?_ | refine blk_alloc ?_ _));exact BK402.out⟩,⟨by repeat (first | (with_reducible first | exact HB.out | apply b0_ | apply b1_ | apply b2_ | refine below_set ?_ GE402.out) | exact HB.out)⟩⟩
         case rest =>
          clear HC34;obtain ⟨kq,x71_33,rfl,HA,HJ33,HO_3,BK402,HB⟩:=hcut
          cases kq with
           | zero => exact absurd HA.out (by simp [estoverslaw39_ReclaimplanFloors.j2])
           | succ kj33 =>
            have H:=HA.out;clear HA;simp only [estoverslaw39_ReclaimplanFloors.j2] at H;by_cases c42 : x71_33 = true
            rotate_left
            ·
             replace c42:=Bool.eq_false_iff.mpr c42;subst c42
             have H1 : (if 0≤t414 then (if t414 < (x3_2.length : Int) then ((some (x3_2.set (t414 : Int).toNat (⟨(rd_T34 x3_2 t414).f0,(rd_T34 x3_2 t414).f1,(rd_T34 x3_2 t414).f2,(rd_T34 x3_2 t414).f3,(rd_T34 x3_2 t414).f4,(rd_T34 x3_2 t414).f5,true⟩ : S34) : List (S34))).bind fun y417 => ((reclaimplan_Useful.f kj33 y417 l0_1 a0_2 a0_3).bind fun t418 => (if t418 = (wrap64 (x4_2 + 1)) then (estoverslaw39_ReclaimplanFloors.l1 kj33 y417 (wrap64 (x4_2 + 1)) ((rd_T34 y417 t414).f1) (wrap64 ((y410.length : Int) + 1)) x39_2 l0_0 l0_1 a0_2 a0_3) else (some false)))) else (none)) else (none)) = some r:=by rw [if_neg (show ¬ (false = true) by decide)] at H;exact H
             clear H;have H:=H1;clear H1;by_cases c43 : 0≤t414
             rotate_left
             · rw [if_neg c43] at H;exact absurd H (by simp)
             rw [if_pos c43] at H;have c43b0 : decide (0≤t414) = true:=decide_eq_true c43;clear c43;by_cases c44 : t414 < (x3_2.length : Int)
             rotate_left
             · rw [if_neg c44] at H;exact absurd H (by simp)
             rw [if_pos c44] at H;have c44b0 : decide (t414 < (x3_2.length : Int)) = true:=decide_eq_true c44;clear c44;obtain ⟨y417,hy417⟩ : ∃ y_ : List (S34),y_ = (x3_2.set (t414 : Int).toNat (⟨(rd_T34 x3_2 t414).f0,(rd_T34 x3_2 t414).f1,(rd_T34 x3_2 t414).f2,(rd_T34 x3_2 t414).f3,(rd_T34 x3_2 t414).f4,(rd_T34 x3_2 t414).f5,true⟩ : S34)):=⟨_,rfl⟩
             replace H : ((reclaimplan_Useful.f kj33 y417 l0_1 a0_2 a0_3).bind fun t418 => (if t418 = (wrap64 (x4_2 + 1)) then (estoverslaw39_ReclaimplanFloors.l1 kj33 y417 (wrap64 (x4_2 + 1)) ((rd_T34 y417 t414).f1) (wrap64 ((y410.length : Int) + 1)) x39_2 l0_0 l0_1 a0_2 a0_3) else (some false))) = some r:=by first | (rw [hy417];with_reducible exact H) | (have H2_:=(Option.bind_some _ _).symm.trans H;rw [hy417];with_reducible exact H2_) | (have H2_:=(Option.bind_some _ _).symm.trans H;with_reducible exact H2_) | with_reducible exact H | (rw [hy417];exact H) | exact H
             have Ny417:=Aside0.mk hy417;clear hy417;replace H:=Option.bind_eq_some_iff.mp H;obtain ⟨t418,A460,H⟩:=H;replace H : (if t418 = (wrap64 (x4_2 + 1)) then (estoverslaw39_ReclaimplanFloors.l1 kj33 y417 (wrap64 (x4_2 + 1)) ((rd_T34 y417 t414).f1) (wrap64 ((y410.length : Int) + 1)) x39_2 l0_0 l0_1 a0_2 a0_3) else (some false)) = some r:=H;have A46:=Aside0.mk A460;clear A460
             by_cases c47 : t418 = (wrap64 (x4_2 + 1))
             rotate_left
             ·
              rw [if_neg c47] at H;have c47b0 : (t418 == (wrap64 (x4_2 + 1))) = false:=beq_eq_false_iff_ne.mpr c47;have c47b1 : (t418 != (wrap64 (x4_2 + 1))) = true:=bne_iff_ne.mpr c47;obtain rfl:=Option.some.inj H;have p45 : 0≤(t414 : Int):=of_decide_eq_true (by first | (with_reducible assumption) | assumption)
              have q45 : (t414 : Int) < ((x3_2.length : Int) : Int):=of_decide_eq_true (by first | (with_reducible assumption) | assumption);obtain ⟨go45,co45,eo45,gb45,gl45,cl45,HG45⟩:=Kd.R_form HO_3.out (by omega)
              (first | cases eo45 | (injection eo45 with ea_ en_ ec_;(first | subst ea_ | (injection ea_ with ea_;subst ea_));subst ec_;clear en_))
              have GB45:=Aside0.mk gb45;have GG45:=Aside0.mk HG45;clear gb45 gl45 HG45;obtain ⟨ce45,hcl45,hM45,hcc45,hfr45⟩:=Kd.R_elem HO_3.out z34 (t414 : Int) p45 q45;obtain rfl:=k34_openM hM45;have hx45_0 : wc.cell? ⟨go45,(t414 : Int).toNat * 7,none⟩ = some (.int .i64 ((rd_T34 x3_2 t414).f0)):=hcc45 0 _ rfl
              have hx45_1 : wc.cell? ⟨go45,(t414 : Int).toNat * 7 + 1,none⟩ = some (.int .i64 ((rd_T34 x3_2 t414).f1)):=hcc45 1 _ rfl;have hx45_2 : wc.cell? ⟨go45,(t414 : Int).toNat * 7 + 2,none⟩ = some (.int .i64 ((rd_T34 x3_2 t414).f2)):=hcc45 2 _ rfl;have hx45_3 : wc.cell? ⟨go45,(t414 : Int).toNat * 7 + 3,none⟩ = some (.int .i64 ((rd_T34 x3_2 t414).f3)):=hcc45 3 _ rfl
              have hx45_4 : wc.cell? ⟨go45,(t414 : Int).toNat * 7 + 4,none⟩ = some (.int .i64 ((rd_T34 x3_2 t414).f4)):=hcc45 4 _ rfl;have hx45_5 : wc.cell? ⟨go45,(t414 : Int).toNat * 7 + 5,none⟩ = some (.bool ((rd_T34 x3_2 t414).f5)):=hcc45 5 _ rfl;have hx45_6 : wc.cell? ⟨go45,(t414 : Int).toNat * 7 + 6,none⟩ = some (.bool ((rd_T34 x3_2 t414).f6)):=hcc45 6 _ rfl
              have hf45_0 : wc.frozen? ⟨go45,(t414 : Int).toNat * 7,none⟩ = false:=hfr45 0;have hf45_1 : wc.frozen? ⟨go45,(t414 : Int).toNat * 7 + 1,none⟩ = false:=hfr45 1;have hf45_2 : wc.frozen? ⟨go45,(t414 : Int).toNat * 7 + 2,none⟩ = false:=hfr45 2;have hf45_3 : wc.frozen? ⟨go45,(t414 : Int).toNat * 7 + 3,none⟩ = false:=hfr45 3
              have hf45_4 : wc.frozen? ⟨go45,(t414 : Int).toNat * 7 + 4,none⟩ = false:=hfr45 4;have hf45_5 : wc.frozen? ⟨go45,(t414 : Int).toNat * 7 + 5,none⟩ = false:=hfr45 5;have hf45_6 : wc.frozen? ⟨go45,(t414 : Int).toNat * 7 + 6,none⟩ = false:=hfr45 6;clear hcl45 hcc45 hfr45 hM45;replace p45:=eq_true p45;replace q45:=eq_true q45
              have HX83:=Aside0.mk (show Kd.R k34 34 wc w.heap.size (fun _ => True) (.slice (some ⟨go45,0,none⟩) x3_2.length co27) x3_2 from (by (with_reducible repeat (first | apply Kd.R_alloc | apply Kd.R_drewN | apply Kd.R_drew));exact HO_3.out))
              obtain ⟨ce83,hcl83,hM83,hcc83,hfr83⟩:=Kd.R_elem HX83.out z34 (t414 : Int) (of_decide_eq_true (by first | (with_reducible assumption) | assumption)) (by have h_ : (t414 : Int) < ((x3_2.length : Int) : Int):=of_decide_eq_true (by first | (with_reducible assumption) | assumption);first | exact h_ | (have e_:=(Kd.R_reads' HO_3.out).1;omega) | simpa using h_);obtain rfl:=k34_openM hM83
              have HP83:=Kd.R_seg HX83.out (t414 : Int) (of_decide_eq_true (by first | (with_reducible assumption) | assumption)) (by have h_ : (t414 : Int) < ((x3_2.length : Int) : Int):=of_decide_eq_true (by first | (with_reducible assumption) | assumption);first | exact h_ | (have e_:=(Kd.R_reads' HO_3.out).1;omega) | simpa using h_) (seg:=[.bool true]) (j:=6) hcl83 hcc83 (show 7≤7 from by decide) (x':=(⟨(rd_T34 x3_2 t414).f0,(rd_T34 x3_2 t414).f1,(rd_T34 x3_2 t414).f2,(rd_T34 x3_2 t414).f3,(rd_T34 x3_2 t414).f4,(rd_T34 x3_2 t414).f5,true⟩ : S34)) (k34_mkM _ _ _ (⟨(rd_T34 x3_2 t414).f0,(rd_T34 x3_2 t414).f1,(rd_T34 x3_2 t414).f2,(rd_T34 x3_2 t414).f3,(rd_T34 x3_2 t414).f4,(rd_T34 x3_2 t414).f5,true⟩ : S34) ) (fun _ hk => hk)
              have hx83_6:=hcc83 6 _ rfl
              (try simp only [show (k34).sz = 7 from rfl,Nat.mul_one,Nat.add_zero] at hx83_6)
              have hf83_6:=hfr83 6
              (try simp only [show (k34).sz = 7 from rfl,Nat.mul_one,Nat.add_zero] at hf83_6)
              clear hcl83 hcc83 hfr83 hM83
              go_wp2_with (first | ((with_reducible refine gate_store (t:=4) (p:=75) rfl ?_);refine store_event (t:=4) (p:=75) (v:=?vo_w84) (w1:=(wc.setCell ⟨go45,(t414 : Int).toNat * 7 + 6,none⟩ (.bool true))) ?hg ?ho ?hn ?hr ?_;(case ho => rfl);(case hg => rfl);(case hn => rfl);(case hr => first | (go_simp;done) | (go_simp;rfl));intro w84 hw;have hg : wc.grownBy w84 (some go45):=(by rw [hw];exact HP83.2);have hp_ : Kd.R k34 34 w84 w.heap.size (fun _ => True) (.slice (some ⟨go45,0,none⟩) x3_2.length co27) y417:=(by rw [hw,Ny417.out];exact HP83.1);clear HP83;have n0_:=Aside0.mk (hp_);have n1_:=Aside0.mk (blk_grown (g:=gb402) (o:=.cells #[.slice A0_0 l0_0.length c0_0,.slice A0_1 l0_1.length c0_1,.int .i64 a0_2,.bool a0_3] 37 (0,0)) (by (with_reducible repeat (first | refine blk_drewN ?_ _ | refine blk_drew ?_ | refine blk_alloc ?_ _));exact BK402.out) hg (Kd.R_ne HO_3.out BK402.out (by decide)));have n2_:=Aside0.mk ((by rw [hw];exact below_set (HB.out) GB45.out : Below w.heap.size w w84));clear HO_3;clear BK402;clear HB;have HO_3:=n0_;have BK402:=n1_;have HB:=n2_;clear n0_ n1_ n2_;clear hg hw hp_;obtain ⟨hcz85_0,hcz85_1,hcz85_2,hcz85_3,hfz85_0,hfz85_1,hfz85_2,hfz85_3⟩:=q4_ BK402.out) | ((with_reducible refine gate_callee (f:=38) rfl ?_);refine goesL_ (some 85) rfl rfl Try.func38 (by kernel_rfl) rfl #[.slice (some ⟨go45,0,none⟩) y417.length co27,.slice A0_1 l0_1.length c0_1,.int .i64 a0_2,.bool a0_3] rfl (by (try simp only [List.map_toArray,List.map_cons,List.map_nil]);first | done | (rw [show y417.length = x3_2.length from (Kd.R_reads' HO_3.out).1.symm] <;> rfl) | rfl | (simp only [List.length_drop,List.length_take];rfl)) ?_;(with_reducible refine (reclaimplan_Useful.calls kj33 _ _ y417 _ _ l0_1 a0_2 a0_3 t418 _ ?side1 ?side2 ?side3 ?side4 A46.out).mono ?_);(case side1 => repeat (first | exact (Kd.R_reads' HO_3.out).2.2 | (with_reducible refine Kd.C_alloc ?_ _) | (with_reducible refine Kd.C_drewN ?_ _) | (with_reducible refine Kd.C_drew ?_)));(case side2 => rw [show y417.length = x3_2.length from (Kd.R_reads' HO_3.out).1.symm];exact (Kd.R_reads' HO_3.out).2.1);(case side3 => repeat (first | exact (Kd.C_below HR0_1.out HB.out) | (with_reducible refine Kd.C_alloc ?_ _) | (with_reducible refine Kd.C_drewN ?_ _) | (with_reducible refine Kd.C_drew ?_)));(case side4 => exact HC0_1.out);rintro e w86 ⟨rfl,hb⟩;refine ⟨_,rfl,?_⟩;have n0_:=Aside0.mk (Kd.R_below (by (with_reducible repeat (first | apply Kd.R_alloc | apply Kd.R_drewN | apply Kd.R_drew));exact HO_3.out) hb);have n1_:=Aside0.mk (blk_below (g:=gb402) (o:=.cells #[.slice A0_0 l0_0.length c0_0,.slice A0_1 l0_1.length c0_1,.int .i64 a0_2,.bool a0_3] 37 (0,0)) (by (with_reducible repeat (first | refine blk_drewN ?_ _ | refine blk_drew ?_ | refine blk_alloc ?_ _));exact BK402.out) hb);have n2_:=Aside0.mk (below_step (by repeat (first | (with_reducible first | exact HB.out | apply b0_ | apply b1_ | apply b2_ | refine below_set ?_ GE402.out) | exact HB.out)) hb);clear HO_3;clear BK402;clear HB;have HO_3:=n0_;have BK402:=n1_;have HB:=n2_;clear n0_ n1_ n2_))
              go_ret;exact ⟨by first | rfl | (simp [errW_none,errW_some] <;> rfl) | (simp [*,errW_none,errW_some] <;> rfl),by repeat (first | (with_reducible first | exact HB.out | apply b0_ | apply b1_ | apply b2_ | refine below_set ?_ GE402.out) | exact HB.out)⟩
             rw [if_pos c47] at H;have c47b0 : (t418 == (wrap64 (x4_2 + 1))) = true:=beq_iff_eq.mpr c47;have c47b1 : (t418 != (wrap64 (x4_2 + 1))) = false:=bne_eq_false_iff_eq.mpr c47;clear c47;have H':=Aside0.mk H;clear H;have p45 : 0≤(t414 : Int):=of_decide_eq_true (by first | (with_reducible assumption) | assumption)
             have q45 : (t414 : Int) < ((x3_2.length : Int) : Int):=of_decide_eq_true (by first | (with_reducible assumption) | assumption);obtain ⟨go45,co45,eo45,gb45,gl45,cl45,HG45⟩:=Kd.R_form HO_3.out (by omega)
             (first | cases eo45 | (injection eo45 with ea_ en_ ec_;(first | subst ea_ | (injection ea_ with ea_;subst ea_));subst ec_;clear en_))
             have GB45:=Aside0.mk gb45;have GG45:=Aside0.mk HG45;clear gb45 gl45 HG45;obtain ⟨ce45,hcl45,hM45,hcc45,hfr45⟩:=Kd.R_elem HO_3.out z34 (t414 : Int) p45 q45;obtain rfl:=k34_openM hM45;have hx45_0 : wc.cell? ⟨go45,(t414 : Int).toNat * 7,none⟩ = some (.int .i64 ((rd_T34 x3_2 t414).f0)):=hcc45 0 _ rfl
             have hx45_1 : wc.cell? ⟨go45,(t414 : Int).toNat * 7 + 1,none⟩ = some (.int .i64 ((rd_T34 x3_2 t414).f1)):=hcc45 1 _ rfl;have hx45_2 : wc.cell? ⟨go45,(t414 : Int).toNat * 7 + 2,none⟩ = some (.int .i64 ((rd_T34 x3_2 t414).f2)):=hcc45 2 _ rfl;have hx45_3 : wc.cell? ⟨go45,(t414 : Int).toNat * 7 + 3,none⟩ = some (.int .i64 ((rd_T34 x3_2 t414).f3)):=hcc45 3 _ rfl
             have hx45_4 : wc.cell? ⟨go45,(t414 : Int).toNat * 7 + 4,none⟩ = some (.int .i64 ((rd_T34 x3_2 t414).f4)):=hcc45 4 _ rfl;have hx45_5 : wc.cell? ⟨go45,(t414 : Int).toNat * 7 + 5,none⟩ = some (.bool ((rd_T34 x3_2 t414).f5)):=hcc45 5 _ rfl;have hx45_6 : wc.cell? ⟨go45,(t414 : Int).toNat * 7 + 6,none⟩ = some (.bool ((rd_T34 x3_2 t414).f6)):=hcc45 6 _ rfl
             have hf45_0 : wc.frozen? ⟨go45,(t414 : Int).toNat * 7,none⟩ = false:=hfr45 0;have hf45_1 : wc.frozen? ⟨go45,(t414 : Int).toNat * 7 + 1,none⟩ = false:=hfr45 1;have hf45_2 : wc.frozen? ⟨go45,(t414 : Int).toNat * 7 + 2,none⟩ = false:=hfr45 2;have hf45_3 : wc.frozen? ⟨go45,(t414 : Int).toNat * 7 + 3,none⟩ = false:=hfr45 3
             have hf45_4 : wc.frozen? ⟨go45,(t414 : Int).toNat * 7 + 4,none⟩ = false:=hfr45 4;have hf45_5 : wc.frozen? ⟨go45,(t414 : Int).toNat * 7 + 5,none⟩ = false:=hfr45 5;have hf45_6 : wc.frozen? ⟨go45,(t414 : Int).toNat * 7 + 6,none⟩ = false:=hfr45 6;clear hcl45 hcc45 hfr45 hM45;replace p45:=eq_true p45;replace q45:=eq_true q45
             have HX48:=Aside0.mk (show Kd.R k34 34 wc w.heap.size (fun _ => True) (.slice (some ⟨go45,0,none⟩) x3_2.length co27) x3_2 from (by (with_reducible repeat (first | apply Kd.R_alloc | apply Kd.R_drewN | apply Kd.R_drew));exact HO_3.out))
             obtain ⟨ce48,hcl48,hM48,hcc48,hfr48⟩:=Kd.R_elem HX48.out z34 (t414 : Int) (of_decide_eq_true (by first | (with_reducible assumption) | assumption)) (by have h_ : (t414 : Int) < ((x3_2.length : Int) : Int):=of_decide_eq_true (by first | (with_reducible assumption) | assumption);first | exact h_ | (have e_:=(Kd.R_reads' HO_3.out).1;omega) | simpa using h_);obtain rfl:=k34_openM hM48
             have HP48:=Kd.R_seg HX48.out (t414 : Int) (of_decide_eq_true (by first | (with_reducible assumption) | assumption)) (by have h_ : (t414 : Int) < ((x3_2.length : Int) : Int):=of_decide_eq_true (by first | (with_reducible assumption) | assumption);first | exact h_ | (have e_:=(Kd.R_reads' HO_3.out).1;omega) | simpa using h_) (seg:=[.bool true]) (j:=6) hcl48 hcc48 (show 7≤7 from by decide) (x':=(⟨(rd_T34 x3_2 t414).f0,(rd_T34 x3_2 t414).f1,(rd_T34 x3_2 t414).f2,(rd_T34 x3_2 t414).f3,(rd_T34 x3_2 t414).f4,(rd_T34 x3_2 t414).f5,true⟩ : S34)) (k34_mkM _ _ _ (⟨(rd_T34 x3_2 t414).f0,(rd_T34 x3_2 t414).f1,(rd_T34 x3_2 t414).f2,(rd_T34 x3_2 t414).f3,(rd_T34 x3_2 t414).f4,(rd_T34 x3_2 t414).f5,true⟩ : S34) ) (fun _ hk => hk)
             have hx48_6:=hcc48 6 _ rfl
             (try simp only [show (k34).sz = 7 from rfl,Nat.mul_one,Nat.add_zero] at hx48_6)
             have hf48_6:=hfr48 6
             (try simp only [show (k34).sz = 7 from rfl,Nat.mul_one,Nat.add_zero] at hf48_6)
             clear hcl48 hcc48 hfr48 hM48
             go_wp2_with (first | ((with_reducible refine gate_store (t:=4) (p:=75) rfl ?_);refine store_event (t:=4) (p:=75) (v:=?vo_w49) (w1:=(wc.setCell ⟨go45,(t414 : Int).toNat * 7 + 6,none⟩ (.bool true))) ?hg ?ho ?hn ?hr ?_;(case ho => rfl);(case hg => rfl);(case hn => rfl);(case hr => first | (go_simp;done) | (go_simp;rfl));intro w49 hw;have hg : wc.grownBy w49 (some go45):=(by rw [hw];exact HP48.2);have hp_ : Kd.R k34 34 w49 w.heap.size (fun _ => True) (.slice (some ⟨go45,0,none⟩) x3_2.length co27) y417:=(by rw [hw,Ny417.out];exact HP48.1);clear HP48;have n0_:=Aside0.mk (hp_);have n1_:=Aside0.mk (blk_grown (g:=gb402) (o:=.cells #[.slice A0_0 l0_0.length c0_0,.slice A0_1 l0_1.length c0_1,.int .i64 a0_2,.bool a0_3] 37 (0,0)) (by (with_reducible repeat (first | refine blk_drewN ?_ _ | refine blk_drew ?_ | refine blk_alloc ?_ _));exact BK402.out) hg (Kd.R_ne HO_3.out BK402.out (by decide)));have n2_:=Aside0.mk ((by rw [hw];exact below_set (HB.out) GB45.out : Below w.heap.size w w49));clear HO_3;clear BK402;clear HB;have HO_3:=n0_;have BK402:=n1_;have HB:=n2_;clear n0_ n1_ n2_;clear hg hw hp_;obtain ⟨hcz50_0,hcz50_1,hcz50_2,hcz50_3,hfz50_0,hfz50_1,hfz50_2,hfz50_3⟩:=q4_ BK402.out) | ((with_reducible refine gate_callee (f:=38) rfl ?_);refine goesL_ (some 85) rfl rfl Try.func38 (by kernel_rfl) rfl #[.slice (some ⟨go45,0,none⟩) y417.length co27,.slice A0_1 l0_1.length c0_1,.int .i64 a0_2,.bool a0_3] rfl (by (try simp only [List.map_toArray,List.map_cons,List.map_nil]);first | done | (rw [show y417.length = x3_2.length from (Kd.R_reads' HO_3.out).1.symm] <;> rfl) | rfl | (simp only [List.length_drop,List.length_take];rfl)) ?_;(with_reducible refine (reclaimplan_Useful.calls kj33 _ _ y417 _ _ l0_1 a0_2 a0_3 t418 _ ?side1 ?side2 ?side3 ?side4 A46.out).mono ?_);(case side1 => repeat (first | exact (Kd.R_reads' HO_3.out).2.2 | (with_reducible refine Kd.C_alloc ?_ _) | (with_reducible refine Kd.C_drewN ?_ _) | (with_reducible refine Kd.C_drew ?_)));(case side2 => rw [show y417.length = x3_2.length from (Kd.R_reads' HO_3.out).1.symm];exact (Kd.R_reads' HO_3.out).2.1);(case side3 => repeat (first | exact (Kd.C_below HR0_1.out HB.out) | (with_reducible refine Kd.C_alloc ?_ _) | (with_reducible refine Kd.C_drewN ?_ _) | (with_reducible refine Kd.C_drew ?_)));(case side4 => exact HC0_1.out);rintro e w51 ⟨rfl,hb⟩;refine ⟨_,rfl,?_⟩;have n0_:=Aside0.mk (Kd.R_below (by (with_reducible repeat (first | apply Kd.R_alloc | apply Kd.R_drewN | apply Kd.R_drew));exact HO_3.out) hb);have n1_:=Aside0.mk (blk_below (g:=gb402) (o:=.cells #[.slice A0_0 l0_0.length c0_0,.slice A0_1 l0_1.length c0_1,.int .i64 a0_2,.bool a0_3] 37 (0,0)) (by (with_reducible repeat (first | refine blk_drewN ?_ _ | refine blk_drew ?_ | refine blk_alloc ?_ _));exact BK402.out) hb);have n2_:=Aside0.mk (below_step (by repeat (first | (with_reducible first | exact HB.out | apply b0_ | apply b1_ | apply b2_ | refine below_set ?_ GE402.out) | exact HB.out)) hb);clear HO_3;clear BK402;clear HB;have HO_3:=n0_;have BK402:=n1_;have HB:=n2_;clear n0_ n1_ n2_;have p419 : 0≤(t414 : Int):=of_decide_eq_true (by first | (with_reducible assumption) | assumption);have q419 : t414 < (y417.length : Int):=(by have h_ : (t414 : Int) < ((x3_2.length : Int) : Int):=of_decide_eq_true (by first | (with_reducible assumption) | assumption);first | (have e_:=(Kd.R_reads' HO_3.out).1;omega) | simpa only [Ny417.out,List.length_set] using h_);have ql419 : ((t414 : Int) < ((x3_2.length : Int) : Int)) = True:=eq_true (of_decide_eq_true (by first | (with_reducible assumption) | assumption));obtain ⟨ad419,e419,hx419_0,hx419_1,hx419_2,hx419_3,hx419_4,hx419_5,hx419_6⟩:=at_T34 (Kd.R_reads' HO_3.out).2.2 t414 p419 q419;obtain rfl : (⟨go45,0,none⟩ : Addr) = ad419:=(by injection e419);(first | simp only [add_plain] at hx419_0 | simp only [add_at] at hx419_0 | simp only [Addr.add,Nat.zero_add] at hx419_0 | skip);(first | simp only [add_plain] at hx419_1 | simp only [add_at] at hx419_1 | simp only [Addr.add,Nat.zero_add] at hx419_1 | skip);(first | simp only [add_plain] at hx419_2 | simp only [add_at] at hx419_2 | simp only [Addr.add,Nat.zero_add] at hx419_2 | skip);(first | simp only [add_plain] at hx419_3 | simp only [add_at] at hx419_3 | simp only [Addr.add,Nat.zero_add] at hx419_3 | skip);(first | simp only [add_plain] at hx419_4 | simp only [add_at] at hx419_4 | simp only [Addr.add,Nat.zero_add] at hx419_4 | skip);(first | simp only [add_plain] at hx419_5 | simp only [add_at] at hx419_5 | simp only [Addr.add,Nat.zero_add] at hx419_5 | skip);(first | simp only [add_plain] at hx419_6 | simp only [add_at] at hx419_6 | simp only [Addr.add,Nat.zero_add] at hx419_6 | skip);replace p419:=eq_true p419;replace q419:=eq_true q419))
             go_loopg [6] kj33 (fun kq v6 w' => ∃ (x6_4 : Int),v6 = .int .i64 x6_4∧Aside0 (estoverslaw39_ReclaimplanFloors.l1 kq y417 (wrap64 (x4_2 + 1)) x6_4 (wrap64 ((y410.length : Int) + 1)) x39_2 l0_0 l0_1 a0_2 a0_3 = some r)∧Aside0 (kq≤kj33)∧Aside0 (Kd.R k34 34 w' w.heap.size (fun _ => True) (.slice (some ⟨go45,0,none⟩) x3_2.length co27) y417)∧Aside0 (w'.heap[gb402]? = some (.cells #[(.slice A0_0 l0_0.length c0_0),(.slice A0_1 l0_1.length c0_1),.int .i64 a0_2,.bool a0_3] 37 (0,0)))∧Aside0 (Below w.heap.size w w'))
             case atStart => exact ⟨((rd_T34 y417 t414).f1),(by first | rfl | (simp;done) | (simp [*];done)),H',⟨Nat.le_refl _⟩,⟨by (try simp only [hl3_2]);(with_reducible repeat (first | apply Kd.R_alloc | apply Kd.R_drewN | apply Kd.R_drew));exact HO_3.out⟩,⟨by (try simp only [hl3_2]);(with_reducible repeat (first | refine blk_drewN ?_ _ | refine blk_drew ?_ | refine blk_alloc ?_ _));exact BK402.out⟩,⟨by repeat (first | (with_reducible first | exact HB.out | apply b0_ | apply b1_ | apply b2_ | refine below_set ?_ GE402.out) | exact HB.out)⟩⟩
             case round =>
              clear H';obtain ⟨x6_4,rfl,HA,HK4,HO_3,BK402,HB⟩:=hrel;have hl3_4:=(Kd.R_reads' HO_3.out).1;rw [hl3_4] at HO_3
              (try simp only [hl3_4])
              (try simp only [hl3_4] at BK402)
              cases gk with
               | zero => exact absurd HA.out (by simp [estoverslaw39_ReclaimplanFloors.l1])
               | succ k4 =>
                have H:=HA.out;clear HA;simp only [estoverslaw39_ReclaimplanFloors.l1] at H;have HC52:=Aside0.mk H;clear H
                go_upto_region 17 with (fail)
                go_cut [107] (fun v107 wc => ∃ (kq : Nat) (x107_51 : Bool),v107 = .bool x107_51∧Aside0 (estoverslaw39_ReclaimplanFloors.j4 kq y417 (wrap64 (x4_2 + 1)) x6_4 (wrap64 ((y410.length : Int) + 1)) x39_2 x107_51 l0_0 l0_1 a0_2 a0_3 = some r)∧Aside0 (kq≤k4)∧Aside0 (Kd.R k34 34 wc w.heap.size (fun _ => True) (.slice (some ⟨go45,0,none⟩) y417.length co27) y417)∧Aside0 (wc.heap[gb402]? = some (.cells #[(.slice A0_0 l0_0.length c0_0),(.slice A0_1 l0_1.length c0_1),.int .i64 a0_2,.bool a0_3] 37 (0,0)))∧Aside0 (Below w.heap.size w wc))
                case first =>
                 have H:=HC52.out;clear HC52;by_cases c53 : x6_4 > 0
                 rotate_left
                 ·
                  rw [if_neg c53] at H;have c53b0 : decide (0 < x6_4) = false:=decide_eq_false c53;clear c53
                  (first | rw [c53b0] | (simp only [i64_w,i32_w];rw [c53b0]) | skip)
                  have H':=Aside0.mk H;clear H;go_wp2
                  go_meet
                  case rel => exact ⟨_,(false),(by first | rfl | (simp;done) | (simp [*];done)),H',⟨by have:=HJ1.out;have:=HK2.out;have:=HJ33.out;have:=HK4.out;first | omega | exact Nat.le_refl _⟩,⟨by (try simp only [hl3_2]);(try simp only [hl3_4]);(with_reducible repeat (first | apply Kd.R_alloc | apply Kd.R_drewN | apply Kd.R_drew));exact HO_3.out⟩,⟨by (try simp only [hl3_2]);(try simp only [hl3_4]);(with_reducible repeat (first | refine blk_drewN ?_ _ | refine blk_drew ?_ | refine blk_alloc ?_ _));exact BK402.out⟩,⟨by repeat (first | (with_reducible first | exact HB.out | apply b0_ | apply b1_ | apply b2_ | refine below_set ?_ GE402.out) | exact HB.out)⟩⟩
                 rw [if_pos c53] at H;have c53b0 : decide (0 < x6_4) = true:=decide_eq_true c53;clear c53
                 (first | rw [c53b0] | (simp only [i64_w,i32_w];rw [c53b0]) | skip)
                 by_cases c54 : x6_4 < (l0_1.length : Int)
                 rotate_left
                 ·
                  rw [if_neg c54] at H;have c54b0 : decide (x6_4 < (l0_1.length : Int)) = false:=decide_eq_false c54;clear c54;have H':=Aside0.mk H;clear H;obtain ⟨hcz56_0,hcz56_1,hcz56_2,hcz56_3,hfz56_0,hfz56_1,hfz56_2,hfz56_3⟩:=q4_ BK402.out;go_wp2
                  go_meet
                  case rel => exact ⟨_,(false),(by first | rfl | (simp;done) | (simp [*];done)),H',⟨by have:=HJ1.out;have:=HK2.out;have:=HJ33.out;have:=HK4.out;first | omega | exact Nat.le_refl _⟩,⟨by (try simp only [hl3_2]);(try simp only [hl3_4]);(with_reducible repeat (first | apply Kd.R_alloc | apply Kd.R_drewN | apply Kd.R_drew));exact HO_3.out⟩,⟨by (try simp only [hl3_2]);(try simp only [hl3_4]);(with_reducible repeat (first | refine blk_drewN ?_ _ | refine blk_drew ?_ | refine blk_alloc ?_ _));exact BK402.out⟩,⟨by repeat (first | (with_reducible first | exact HB.out | apply b0_ | apply b1_ | apply b2_ | refine below_set ?_ GE402.out) | exact HB.out)⟩⟩
                 rw [if_pos c54] at H;have c54b0 : decide (x6_4 < (l0_1.length : Int)) = true:=decide_eq_true c54;clear c54;have H':=Aside0.mk H;clear H;obtain ⟨hcz55_0,hcz55_1,hcz55_2,hcz55_3,hfz55_0,hfz55_1,hfz55_2,hfz55_3⟩:=q4_ BK402.out;go_wp2
                 go_meet
                 case rel => exact ⟨_,((x6_4 != a0_2)),(by first | rfl | (simp;done) | (simp [*];done)),H',⟨by have:=HJ1.out;have:=HK2.out;have:=HJ33.out;have:=HK4.out;first | omega | exact Nat.le_refl _⟩,⟨by (try simp only [hl3_2]);(try simp only [hl3_4]);(with_reducible repeat (first | apply Kd.R_alloc | apply Kd.R_drewN | apply Kd.R_drew));exact HO_3.out⟩,⟨by (try simp only [hl3_2]);(try simp only [hl3_4]);(with_reducible repeat (first | refine blk_drewN ?_ _ | refine blk_drew ?_ | refine blk_alloc ?_ _));exact BK402.out⟩,⟨by repeat (first | (with_reducible first | exact HB.out | apply b0_ | apply b1_ | apply b2_ | refine below_set ?_ GE402.out) | exact HB.out)⟩⟩
                case rest =>
                 clear HC52;obtain ⟨kq,x107_51,rfl,HA,HJ51,HO_3,BK402,HB⟩:=hcut
                 cases kq with
                  | zero => exact absurd HA.out (by simp [estoverslaw39_ReclaimplanFloors.j4])
                  | succ kj51 =>
                   have H:=HA.out;clear HA;simp only [estoverslaw39_ReclaimplanFloors.j4] at H;by_cases c57 : x107_51 = true
                   rotate_left
                   ·
                    replace c57:=Bool.eq_false_iff.mpr c57;subst c57
                    have H1 : (estoverslaw39_ReclaimplanFloors.l0 kj51 y417 (wrap64 (x4_2 + 1)) (wrap64 ((y410.length : Int) + 1)) (wrap64 (x39_2 + 1)) l0_0 l0_1 a0_2 a0_3) = some r:=by rw [if_neg (show ¬ (false = true) by decide)] at H;exact H
                    clear H;have H:=H1;clear H1;have H':=Aside0.mk H;clear H;go_wp2
                    (try simp only [← hl3_2,← hl3_4])
                    go_roundg kj51
                    case measure => have:=HJ1.out;have:=HK2.out;have:=HJ33.out;have:=HK4.out;have:=HJ51.out;omega
                    case rel => exact ⟨(y417),((wrap64 (x4_2 + 1))),(wrap64 (x39_2 + 1)),(by first | rfl | (simp;done) | (simp [*];done)),(by first | rfl | (simp;done) | (simp [*];done)),H',⟨by have:=HJ1.out;have:=HK2.out;have:=HJ33.out;have:=HK4.out;have:=HJ51.out;omega⟩,⟨by (try simp only [hl3_2]);(try simp only [hl3_4]);(with_reducible repeat (first | apply Kd.R_alloc | apply Kd.R_drewN | apply Kd.R_drew));exact HO_3.out⟩,⟨by (try simp only [hl3_2]);(try simp only [hl3_4]);(with_reducible repeat (first | refine blk_drewN ?_ _ | refine blk_drew ?_ | refine blk_alloc ?_ _));exact BK402.out⟩,⟨by repeat (first | (with_reducible first | exact HB.out | apply b0_ | apply b1_ | apply b2_ | refine below_set ?_ GE402.out) | exact HB.out)⟩⟩
                   subst c57
                   have H1 : (if 0≤x6_4 then (if x6_4 < (l0_1.length : Int) then (estoverslaw39_ReclaimplanFloors.l2 kj51 y417 (wrap64 (x4_2 + 1)) x6_4 ((rd_T30 l0_1 x6_4).f1) (wrap64 ((y410.length : Int) + 1)) x39_2 y417 (y417.length : Int) 0 l0_0 l0_1 a0_2 a0_3) else (none)) else (none)) = some r:=by rw [if_pos rfl] at H;exact H
                   clear H;have H:=H1;clear H1;by_cases c58 : 0≤x6_4
                   rotate_left
                   · rw [if_neg c58] at H;exact absurd H (by simp)
                   rw [if_pos c58] at H;have c58b0 : decide (0≤x6_4) = true:=decide_eq_true c58;clear c58;by_cases c59 : x6_4 < (l0_1.length : Int)
                   rotate_left
                   · rw [if_neg c59] at H;exact absurd H (by simp)
                   rw [if_pos c59] at H;have c59b0 : decide (x6_4 < (l0_1.length : Int)) = true:=decide_eq_true c59;clear c59;have H':=Aside0.mk H;clear H;obtain ⟨hcz60_0,hcz60_1,hcz60_2,hcz60_3,hfz60_0,hfz60_1,hfz60_2,hfz60_3⟩:=q4_ BK402.out
                   have p420 : 0≤(x6_4 : Int):=of_decide_eq_true (by first | (with_reducible assumption) | assumption);have q420 : x6_4 < (l0_1.length : Int):=of_decide_eq_true (by first | (with_reducible assumption) | assumption);obtain ⟨ad420,e420,hx420_0,hx420_1,hx420_2,hx420_3,hx420_4⟩:=at_T30 HR0_1.out x6_4 p420 q420;cases e420
                   replace hx420_0:=(HB.out.cell (World.block_lt_of_cell? w _ hx420_0)).trans hx420_0;replace hx420_1:=(HB.out.cell (World.block_lt_of_cell? w _ hx420_1)).trans hx420_1;replace hx420_2:=(HB.out.cell (World.block_lt_of_cell? w _ hx420_2)).trans hx420_2;replace hx420_3:=(HB.out.cell (World.block_lt_of_cell? w _ hx420_3)).trans hx420_3
                   replace hx420_4:=(HB.out.cell (World.block_lt_of_cell? w _ hx420_4)).trans hx420_4;replace p420:=eq_true p420;replace q420:=eq_true q420;go_wp2
                   go_loopg [7,122] kj51 (fun kq v7 v122 w' => ∃ (x7_6 : Int) (x122_6 : Int),v7 = .int .i64 x7_6∧v122 = .int .i64 x122_6∧Aside0 (estoverslaw39_ReclaimplanFloors.l2 kq y417 (wrap64 (x4_2 + 1)) x6_4 x7_6 (wrap64 ((y410.length : Int) + 1)) x39_2 y417 (y417.length : Int) x122_6 l0_0 l0_1 a0_2 a0_3 = some r)∧Aside0 (kq≤kj51)∧Aside0 (Kd.R k34 34 w' w.heap.size (fun _ => True) (.slice (some ⟨go45,0,none⟩) y417.length co27) y417)∧Aside0 (Kd.R k34 34 w' w.heap.size (fun _ => True) (.slice (some ⟨go45,0,none⟩) y417.length co27) y417)∧Aside0 (w'.heap[gb402]? = some (.cells #[(.slice A0_0 l0_0.length c0_0),(.slice (some ad420) l0_1.length c0_1),.int .i64 a0_2,.bool a0_3] 37 (0,0)))∧Aside0 (Below w.heap.size w w'))
                   case atStart => exact ⟨((rd_T30 l0_1 x6_4).f1),(0),(by first | rfl | (simp;done) | (simp [*];done)),(by first | rfl | (simp;done) | (simp [*];done)),H',⟨Nat.le_refl _⟩,⟨by (try simp only [hl3_2]);(try simp only [hl3_4]);(with_reducible repeat (first | apply Kd.R_alloc | apply Kd.R_drewN | apply Kd.R_drew));exact HO_3.out⟩,⟨by (try simp only [hl3_2]);(try simp only [hl3_4]);(with_reducible repeat (first | apply Kd.R_alloc | apply Kd.R_drewN | apply Kd.R_drew));exact HO_3.out⟩,⟨by (try simp only [hl3_2]);(try simp only [hl3_4]);(with_reducible repeat (first | refine blk_drewN ?_ _ | refine blk_drew ?_ | refine blk_alloc ?_ _));exact BK402.out⟩,⟨by repeat (first | (with_reducible first | exact HB.out | apply b0_ | apply b1_ | apply b2_ | refine below_set ?_ GE402.out) | exact HB.out)⟩⟩
                   case round =>
                    clear H';obtain ⟨x7_6,x122_6,rfl,rfl,HA,HK6,HO_3,HO_120,BK402,HB⟩:=hrel
                    cases gk with
                     | zero => exact absurd HA.out (by simp [estoverslaw39_ReclaimplanFloors.l2])
                     | succ k6 =>
                      have H:=HA.out;clear HA;simp only [estoverslaw39_ReclaimplanFloors.l2] at H;by_cases c61 : x122_6 < (y417.length : Int)
                      rotate_left
                      ·
                       rw [if_neg c61] at H;have c61b0 : decide (x122_6 < (y417.length : Int)) = false:=decide_eq_false c61;clear c61;by_cases c78 : 0≤x6_4
                       rotate_left
                       · rw [if_neg c78] at H;exact absurd H (by simp)
                       rw [if_pos c78] at H;have c78b0 : decide (0≤x6_4) = true:=decide_eq_true c78;clear c78;by_cases c79 : x6_4 < (l0_1.length : Int)
                       rotate_left
                       · rw [if_neg c79] at H;exact absurd H (by simp)
                       rw [if_pos c79] at H;have c79b0 : decide (x6_4 < (l0_1.length : Int)) = true:=decide_eq_true c79;clear c79;by_cases c80 : x7_6 < ((rd_T30 l0_1 x6_4).f2)
                       rotate_left
                       ·
                        rw [if_neg c80] at H;have c80b0 : decide (x7_6 < ((rd_T30 l0_1 x6_4).f2)) = false:=decide_eq_false c80;clear c80;have H':=Aside0.mk H;clear H;obtain ⟨hcz82_0,hcz82_1,hcz82_2,hcz82_3,hfz82_0,hfz82_1,hfz82_2,hfz82_3⟩:=q4_ BK402.out
                        have p424 : 0≤(x6_4 : Int):=of_decide_eq_true (by first | (with_reducible assumption) | assumption);have q424 : x6_4 < (l0_1.length : Int):=of_decide_eq_true (by first | (with_reducible assumption) | assumption);obtain ⟨ad424,e424,hx424_0,hx424_1,hx424_2,hx424_3,hx424_4⟩:=at_T30 HR0_1.out x6_4 p424 q424;obtain rfl : ad420 = ad424:=(by injection e424)
                        replace hx424_0:=(HB.out.cell (World.block_lt_of_cell? w _ hx424_0)).trans hx424_0;replace hx424_1:=(HB.out.cell (World.block_lt_of_cell? w _ hx424_1)).trans hx424_1;replace hx424_2:=(HB.out.cell (World.block_lt_of_cell? w _ hx424_2)).trans hx424_2;replace hx424_3:=(HB.out.cell (World.block_lt_of_cell? w _ hx424_3)).trans hx424_3
                        replace hx424_4:=(HB.out.cell (World.block_lt_of_cell? w _ hx424_4)).trans hx424_4;replace p424:=eq_true p424;replace q424:=eq_true q424;have p425 : 0≤(x6_4 : Int):=of_decide_eq_true (by first | (with_reducible assumption) | assumption);have q425 : x6_4 < (l0_1.length : Int):=of_decide_eq_true (by first | (with_reducible assumption) | assumption)
                        obtain ⟨ad425,e425,hx425_0,hx425_1,hx425_2,hx425_3,hx425_4⟩:=at_T30 HR0_1.out x6_4 p425 q425;obtain rfl : ad420 = ad425:=(by injection e425);replace hx425_0:=(HB.out.cell (World.block_lt_of_cell? w _ hx425_0)).trans hx425_0;replace hx425_1:=(HB.out.cell (World.block_lt_of_cell? w _ hx425_1)).trans hx425_1
                        replace hx425_2:=(HB.out.cell (World.block_lt_of_cell? w _ hx425_2)).trans hx425_2;replace hx425_3:=(HB.out.cell (World.block_lt_of_cell? w _ hx425_3)).trans hx425_3;replace hx425_4:=(HB.out.cell (World.block_lt_of_cell? w _ hx425_4)).trans hx425_4;replace p425:=eq_true p425;replace q425:=eq_true q425;go_wp2
                        (try simp only [← hl3_4])
                        go_roundg k6
                        case measure => have:=HJ1.out;have:=HK2.out;have:=HJ33.out;have:=HK4.out;have:=HJ51.out;have:=HK6.out;omega
                        case rel => exact ⟨((rd_T30 l0_1 x6_4).f0),(by first | rfl | (simp;done) | (simp [*];done)),H',⟨by have:=HJ1.out;have:=HK2.out;have:=HJ33.out;have:=HK4.out;have:=HJ51.out;have:=HK6.out;omega⟩,⟨by (try simp only [hl3_2]);(try simp only [hl3_4]);(with_reducible repeat (first | apply Kd.R_alloc | apply Kd.R_drewN | apply Kd.R_drew));exact HO_3.out⟩,⟨by (try simp only [hl3_2]);(try simp only [hl3_4]);(with_reducible repeat (first | refine blk_drewN ?_ _ | refine blk_drew ?_ | refine blk_alloc ?_ _));exact BK402.out⟩,⟨by repeat (first | (with_reducible first | exact HB.out | apply b0_ | apply b1_ | apply b2_ | refine below_set ?_ GE402.out) | exact HB.out)⟩⟩
                       rw [if_pos c80] at H;have c80b0 : decide (x7_6 < ((rd_T30 l0_1 x6_4).f2)) = true:=decide_eq_true c80;clear c80;obtain rfl:=Option.some.inj H;obtain ⟨hcz81_0,hcz81_1,hcz81_2,hcz81_3,hfz81_0,hfz81_1,hfz81_2,hfz81_3⟩:=q4_ BK402.out
                       have p424 : 0≤(x6_4 : Int):=of_decide_eq_true (by first | (with_reducible assumption) | assumption);have q424 : x6_4 < (l0_1.length : Int):=of_decide_eq_true (by first | (with_reducible assumption) | assumption);obtain ⟨ad424,e424,hx424_0,hx424_1,hx424_2,hx424_3,hx424_4⟩:=at_T30 HR0_1.out x6_4 p424 q424;obtain rfl : ad420 = ad424:=(by injection e424)
                       replace hx424_0:=(HB.out.cell (World.block_lt_of_cell? w _ hx424_0)).trans hx424_0;replace hx424_1:=(HB.out.cell (World.block_lt_of_cell? w _ hx424_1)).trans hx424_1;replace hx424_2:=(HB.out.cell (World.block_lt_of_cell? w _ hx424_2)).trans hx424_2;replace hx424_3:=(HB.out.cell (World.block_lt_of_cell? w _ hx424_3)).trans hx424_3
                       replace hx424_4:=(HB.out.cell (World.block_lt_of_cell? w _ hx424_4)).trans hx424_4;replace p424:=eq_true p424;replace q424:=eq_true q424;go_wp2;go_ret
                       exact ⟨by first | rfl | (simp [errW_none,errW_some] <;> rfl) | (simp [*,errW_none,errW_some] <;> rfl),by repeat (first | (with_reducible first | exact HB.out | apply b0_ | apply b1_ | apply b2_ | refine below_set ?_ GE402.out) | exact HB.out)⟩
                      rw [if_pos c61] at H;have c61b0 : decide (x122_6 < (y417.length : Int)) = true:=decide_eq_true c61;clear c61;by_cases c62 : 0≤x122_6
                      rotate_left
                      · rw [if_neg c62] at H;exact absurd H (by simp)
                      rw [if_pos c62] at H;have c62b0 : decide (0≤x122_6) = true:=decide_eq_true c62;clear c62;by_cases c63 : x122_6 < (y417.length : Int)
                      rotate_left
                      · rw [if_neg c63] at H;exact absurd H (by simp)
                      rw [if_pos c63] at H;have c63b0 : decide (x122_6 < (y417.length : Int)) = true:=decide_eq_true c63;clear c63;have HC64:=Aside0.mk H;clear H;have p421 : 0≤(x122_6 : Int):=of_decide_eq_true (by first | (with_reducible assumption) | assumption);have q421 : x122_6 < (y417.length : Int):=of_decide_eq_true (by first | (with_reducible assumption) | assumption)
                      obtain ⟨ad421,e421,hx421_0,hx421_1,hx421_2,hx421_3,hx421_4,hx421_5,hx421_6⟩:=at_T34 (Kd.R_reads' HO_120.out).2.2 x122_6 p421 q421;obtain rfl : (⟨go45,0,none⟩ : Addr) = ad421:=(by injection e421)
                      (first | simp only [add_plain] at hx421_0 | simp only [add_at] at hx421_0 | simp only [Addr.add,Nat.zero_add] at hx421_0 | skip)
                      (first | simp only [add_plain] at hx421_1 | simp only [add_at] at hx421_1 | simp only [Addr.add,Nat.zero_add] at hx421_1 | skip)
                      (first | simp only [add_plain] at hx421_2 | simp only [add_at] at hx421_2 | simp only [Addr.add,Nat.zero_add] at hx421_2 | skip)
                      (first | simp only [add_plain] at hx421_3 | simp only [add_at] at hx421_3 | simp only [Addr.add,Nat.zero_add] at hx421_3 | skip)
                      (first | simp only [add_plain] at hx421_4 | simp only [add_at] at hx421_4 | simp only [Addr.add,Nat.zero_add] at hx421_4 | skip)
                      (first | simp only [add_plain] at hx421_5 | simp only [add_at] at hx421_5 | simp only [Addr.add,Nat.zero_add] at hx421_5 | skip)
                      (first | simp only [add_plain] at hx421_6 | simp only [add_at] at hx421_6 | simp only [Addr.add,Nat.zero_add] at hx421_6 | skip)
                      replace p421:=eq_true p421;replace q421:=eq_true q421
                      go_upto_region 23 with (first | ((with_reducible refine gate_dst (N:=9) rfl ?_);(try (refine gate_guard (by rfl) ?_;dsimp only));refine box_event ?hg (N:=9) ?hd (cs:=#[.int .i64 0,.int .i64 0,.int .i64 0,.int .i64 0,.int .i64 0,.bool false,.bool false]) (t:=34) ?hr ?_;(case hd => rfl);(case hg => rfl);(case hr => first | (go_simp;done) | (go_simp;rfl));intro gb422 hg w65 hbox hb;have n0_:=Aside0.mk (Kd.R_below (Kd.R_elderB (by (with_reducible repeat (first | apply Kd.R_alloc | apply Kd.R_drewN | apply Kd.R_drew));exact HO_3.out) gb422 (Nat.le_of_eq hg.symm)) hb);have n1_:=Aside0.mk (Kd.R_below (Kd.R_elderB (by (with_reducible repeat (first | apply Kd.R_alloc | apply Kd.R_drewN | apply Kd.R_drew));exact HO_120.out) gb422 (Nat.le_of_eq hg.symm)) hb);have n2_:=Aside0.mk (blk_below (g:=gb402) (o:=.cells #[.slice A0_0 l0_0.length c0_0,.slice (some ad420) l0_1.length c0_1,.int .i64 a0_2,.bool a0_3] 37 (0,0)) (by (with_reducible repeat (first | refine blk_drewN ?_ _ | refine blk_drew ?_ | refine blk_alloc ?_ _));exact BK402.out) hb);have n3_:=Aside0.mk (below_step (by repeat (first | (with_reducible first | exact HB.out | apply b0_ | apply b1_ | apply b2_ | refine below_set ?_ GE402.out) | exact HB.out)) hb);have n4_:=Aside0.mk (hbox);have n5_:=Aside0.mk ((by rw [hg];exact (below_size (by repeat (first | (with_reducible first | exact HB.out | apply b0_ | apply b1_ | apply b2_ | refine below_set ?_ GE402.out) | exact HB.out))) : w.heap.size≤gb422));have n6_:=Aside0.mk ((by rw [hg];exact (below_size (by repeat (first | (with_reducible first | exact HB.out | apply b0_ | apply b1_ | apply b2_ | refine below_set ?_ GE402.out) | exact HB.out))) : w.heap.size≤gb422));have n7_:=Aside0.mk ((by rw [hg];exact Nat.ne_of_lt (blk_lt (g:=gb402) (o:=.cells #[.slice A0_0 l0_0.length c0_0,.slice (some ad420) l0_1.length c0_1,.int .i64 a0_2,.bool a0_3] 37 (0,0)) (by (with_reducible repeat (first | refine blk_drewN ?_ _ | refine blk_drew ?_ | refine blk_alloc ?_ _));exact BK402.out)) : gb402≠gb422));have n8_:=Aside0.mk ((by rw [hg];exact Nat.ne_of_gt (blk_lt (g:=gb402) (o:=.cells #[.slice A0_0 l0_0.length c0_0,.slice (some ad420) l0_1.length c0_1,.int .i64 a0_2,.bool a0_3] 37 (0,0)) (by (with_reducible repeat (first | refine blk_drewN ?_ _ | refine blk_drew ?_ | refine blk_alloc ?_ _));exact BK402.out)) : gb422≠gb402));clear HO_3;clear HO_120;clear BK402;clear HB;have HO_3:=n0_;have HO_120:=n1_;have BK402:=n2_;have HB:=n3_;have BK422:=n4_;have GW422:=n5_;have GE422:=n6_;have NB402_422:=n7_;have NB422_402:=n8_;clear n0_ n1_ n2_ n3_ n4_ n5_ n6_ n7_ n8_;clear hb hbox hg;have hnb66:=NB422_402.out;have hnc66:=NB402_422.out;obtain ⟨hcz67_0,hcz67_1,hcz67_2,hcz67_3,hcz67_4,hcz67_5,hcz67_6,hfz67_0,hfz67_1,hfz67_2,hfz67_3,hfz67_4,hfz67_5,hfz67_6⟩:=q7_ BK422.out))
                      (try simp only [Act.put,List.setIfInBounds_toArray,List.set_cons_zero,List.set_cons_succ])
                      go_cut [135] (fun v135 wc => ∃ (kq : Nat) (x135_63 : Bool),v135 = .bool x135_63∧Aside0 (estoverslaw39_ReclaimplanFloors.j6 kq y417 (wrap64 (x4_2 + 1)) x6_4 x7_6 (wrap64 ((y410.length : Int) + 1)) x39_2 y417 (y417.length : Int) x122_6 x135_63 l0_0 l0_1 a0_2 a0_3 = some r)∧Aside0 (kq≤k6)∧Aside0 (Kd.R k34 34 wc w.heap.size (fun k_ => k_≠gb422) (.slice (some ⟨go45,0,none⟩) y417.length co27) y417)∧Aside0 (Kd.R k34 34 wc w.heap.size (fun k_ => k_≠gb422) (.slice (some ⟨go45,0,none⟩) y417.length co27) y417)∧Aside0 (wc.heap[gb402]? = some (.cells #[(.slice A0_0 l0_0.length c0_0),(.slice (some ad420) l0_1.length c0_1),.int .i64 a0_2,.bool a0_3] 37 (0,0)))∧Aside0 (wc.heap[gb422]? = some (.cells #[.int .i64 ((rd_T34 y417 x122_6).f0),.int .i64 ((rd_T34 y417 x122_6).f1),.int .i64 ((rd_T34 y417 x122_6).f2),.int .i64 ((rd_T34 y417 x122_6).f3),.int .i64 ((rd_T34 y417 x122_6).f4),.bool ((rd_T34 y417 x122_6).f5),.bool ((rd_T34 y417 x122_6).f6)] 34 (0,0)))∧Aside0 (Below w.heap.size w wc))
                      case first =>
                       have H:=HC64.out;clear HC64;obtain ⟨bq68,hbq68⟩ : ∃ b_ : Bool,b_ = ((rd_T34 y417 x122_6).f6):=⟨_,rfl⟩
                       replace H : (if bq68 = true then ((estoversref19_Inside.f k6 l0_1 ((rd_T34 y417 x122_6).f1) x6_4).bind fun t423 => (estoverslaw39_ReclaimplanFloors.j6 k6 y417 (wrap64 (x4_2 + 1)) x6_4 x7_6 (wrap64 ((y410.length : Int) + 1)) x39_2 y417 (y417.length : Int) x122_6 t423 l0_0 l0_1 a0_2 a0_3)) else (estoverslaw39_ReclaimplanFloors.j6 k6 y417 (wrap64 (x4_2 + 1)) x6_4 x7_6 (wrap64 ((y410.length : Int) + 1)) x39_2 y417 (y417.length : Int) x122_6 false l0_0 l0_1 a0_2 a0_3)) = some r:=by rw [← hbq68] at H;exact H
                       have Nbq68:=Aside0.mk hbq68;clear hbq68
                       (try rw [← Nbq68.out])
                       by_cases c69 : bq68 = true
                       rotate_left
                       ·
                        replace c69:=Bool.eq_false_iff.mpr c69;subst c69
                        have H1 : (estoverslaw39_ReclaimplanFloors.j6 k6 y417 (wrap64 (x4_2 + 1)) x6_4 x7_6 (wrap64 ((y410.length : Int) + 1)) x39_2 y417 (y417.length : Int) x122_6 false l0_0 l0_1 a0_2 a0_3) = some r:=by rw [if_neg (show ¬ (false = true) by decide)] at H;exact H
                        clear H;have H:=H1;clear H1;have H':=Aside0.mk H;clear H;have hnb75:=NB422_402.out;have hnc75:=NB402_422.out;obtain ⟨hcz76_0,hcz76_1,hcz76_2,hcz76_3,hcz76_4,hcz76_5,hcz76_6,hfz76_0,hfz76_1,hfz76_2,hfz76_3,hfz76_4,hfz76_5,hfz76_6⟩:=q7_ BK422.out;go_wp2
                        go_meet
                        case rel => exact ⟨_,(false),(by first | rfl | (simp;done) | (simp [*];done)),H',⟨by have:=HJ1.out;have:=HK2.out;have:=HJ33.out;have:=HK4.out;have:=HJ51.out;have:=HK6.out;first | omega | exact Nat.le_refl _⟩,⟨by (try simp only [hl3_2]);(try simp only [hl3_4]);(with_reducible repeat (first | apply Kd.R_alloc | apply Kd.R_drewN | apply Kd.R_drew));exact Kd.R_mono (Kd.R_far (p:=⟨gb422,6,none⟩) (Kd.R_far (p:=⟨gb422,5,none⟩) (Kd.R_far (p:=⟨gb422,4,none⟩) (Kd.R_far (p:=⟨gb422,3,none⟩) (Kd.R_far (p:=⟨gb422,2,none⟩) (Kd.R_far (p:=⟨gb422,1,none⟩) (Kd.R_far (p:=⟨gb422,0,none⟩) (Kd.R_mono HO_3.out (fun k_ hk => (⟨hk,hk.2⟩ : _∧k_≠gb422))) (fun _ hk => hk.2) (.int .i64 ((rd_T34 y417 x122_6).f0))) (fun _ hk => hk.2) (.int .i64 ((rd_T34 y417 x122_6).f1))) (fun _ hk => hk.2) (.int .i64 ((rd_T34 y417 x122_6).f2))) (fun _ hk => hk.2) (.int .i64 ((rd_T34 y417 x122_6).f3))) (fun _ hk => hk.2) (.int .i64 ((rd_T34 y417 x122_6).f4))) (fun _ hk => hk.2) (.bool ((rd_T34 y417 x122_6).f5))) (fun _ hk => hk.2) (.bool (false))) (fun _ hk => hk.1.2)⟩,⟨by (try simp only [hl3_2]);(try simp only [hl3_4]);(with_reducible repeat (first | apply Kd.R_alloc | apply Kd.R_drewN | apply Kd.R_drew));exact Kd.R_mono (Kd.R_far (p:=⟨gb422,6,none⟩) (Kd.R_far (p:=⟨gb422,5,none⟩) (Kd.R_far (p:=⟨gb422,4,none⟩) (Kd.R_far (p:=⟨gb422,3,none⟩) (Kd.R_far (p:=⟨gb422,2,none⟩) (Kd.R_far (p:=⟨gb422,1,none⟩) (Kd.R_far (p:=⟨gb422,0,none⟩) (Kd.R_mono HO_120.out (fun k_ hk => (⟨hk,hk.2⟩ : _∧k_≠gb422))) (fun _ hk => hk.2) (.int .i64 ((rd_T34 y417 x122_6).f0))) (fun _ hk => hk.2) (.int .i64 ((rd_T34 y417 x122_6).f1))) (fun _ hk => hk.2) (.int .i64 ((rd_T34 y417 x122_6).f2))) (fun _ hk => hk.2) (.int .i64 ((rd_T34 y417 x122_6).f3))) (fun _ hk => hk.2) (.int .i64 ((rd_T34 y417 x122_6).f4))) (fun _ hk => hk.2) (.bool ((rd_T34 y417 x122_6).f5))) (fun _ hk => hk.2) (.bool (false))) (fun _ hk => hk.1.2)⟩,⟨by (try simp only [hl3_2]);(try simp only [hl3_4]);(try rw [← Nbq68.out]);(with_reducible repeat (first | refine blk_drewN ?_ _ | refine blk_drew ?_ | refine blk_alloc ?_ _));refine blk_far ?_ NB402_422.out _;(try rw [← Nbq68.out]);(with_reducible repeat (first | refine blk_drewN ?_ _ | refine blk_drew ?_ | refine blk_alloc ?_ _));refine blk_far ?_ NB402_422.out _;(try rw [← Nbq68.out]);(with_reducible repeat (first | refine blk_drewN ?_ _ | refine blk_drew ?_ | refine blk_alloc ?_ _));refine blk_far ?_ NB402_422.out _;(try rw [← Nbq68.out]);(with_reducible repeat (first | refine blk_drewN ?_ _ | refine blk_drew ?_ | refine blk_alloc ?_ _));refine blk_far ?_ NB402_422.out _;(try rw [← Nbq68.out]);(with_reducible repeat (first | refine blk_drewN ?_ _ | refine blk_drew ?_ | refine blk_alloc ?_ _));refine blk_far ?_ NB402_422.out _;(try rw [← Nbq68.out]);(with_reducible repeat (first | refine blk_drewN ?_ _ | refine blk_drew ?_ | refine blk_alloc ?_ _));refine blk_far ?_ NB402_422.out _;(try rw [← Nbq68.out]);(with_reducible repeat (first | refine blk_drewN ?_ _ | refine blk_drew ?_ | refine blk_alloc ?_ _));refine blk_far ?_ NB402_422.out _;(try rw [← Nbq68.out]);(with_reducible repeat (first | refine blk_drewN ?_ _ | refine blk_drew ?_ | refine blk_alloc ?_ _));exact BK402.out⟩,⟨by (try simp only [hl3_2]);(try simp only [hl3_4]);(try rw [← Nbq68.out]);(with_reducible repeat (first | refine blk_drewN ?_ _ | refine blk_drew ?_ | refine blk_alloc ?_ _));refine blk_put (cs:=#[.int .i64 ((rd_T34 y417 x122_6).f0),.int .i64 ((rd_T34 y417 x122_6).f1),.int .i64 ((rd_T34 y417 x122_6).f2),.int .i64 ((rd_T34 y417 x122_6).f3),.int .i64 ((rd_T34 y417 x122_6).f4),.bool ((rd_T34 y417 x122_6).f5),.bool false]) ?_ 6 _ rfl;(try rw [← Nbq68.out]);(with_reducible repeat (first | refine blk_drewN ?_ _ | refine blk_drew ?_ | refine blk_alloc ?_ _));refine blk_put (cs:=#[.int .i64 ((rd_T34 y417 x122_6).f0),.int .i64 ((rd_T34 y417 x122_6).f1),.int .i64 ((rd_T34 y417 x122_6).f2),.int .i64 ((rd_T34 y417 x122_6).f3),.int .i64 ((rd_T34 y417 x122_6).f4),.bool false,.bool false]) ?_ 5 _ rfl;(try rw [← Nbq68.out]);(with_reducible repeat (first | refine blk_drewN ?_ _ | refine blk_drew ?_ | refine blk_alloc ?_ _));refine blk_put (cs:=#[.int .i64 ((rd_T34 y417 x122_6).f0),.int .i64 ((rd_T34 y417 x122_6).f1),.int .i64 ((rd_T34 y417 x122_6).f2),.int .i64 ((rd_T34 y417 x122_6).f3),.int .i64 0,.bool false,.bool false]) ?_ 4 _ rfl;(try rw [← Nbq68.out]);(with_reducible repeat (first | refine blk_drewN ?_ _ | refine blk_drew ?_ | refine blk_alloc ?_ _));refine blk_put (cs:=#[.int .i64 ((rd_T34 y417 x122_6).f0),.int .i64 ((rd_T34 y417 x122_6).f1),.int .i64 ((rd_T34 y417 x122_6).f2),.int .i64 0,.int .i64 0,.bool false,.bool false]) ?_ 3 _ rfl;(try rw [← Nbq68.out]);(with_reducible repeat (first | refine blk_drewN ?_ _ | refine blk_drew ?_ | refine blk_alloc ?_ _));refine blk_put (cs:=#[.int .i64 ((rd_T34 y417 x122_6).f0),.int .i64 ((rd_T34 y417 x122_6).f1),.int .i64 0,.int .i64 0,.int .i64 0,.bool false,.bool false]) ?_ 2 _ rfl;(try rw [← Nbq68.out]);(with_reducible repeat (first | refine blk_drewN ?_ _ | refine blk_drew ?_ | refine blk_alloc ?_ _));refine blk_put (cs:=#[.int .i64 ((rd_T34 y417 x122_6).f0),.int .i64 0,.int .i64 0,.int .i64 0,.int .i64 0,.bool false,.bool false]) ?_ 1 _ rfl;(try rw [← Nbq68.out]);(with_reducible repeat (first | refine blk_drewN ?_ _ | refine blk_drew ?_ | refine blk_alloc ?_ _));refine blk_put (cs:=#[.int .i64 0,.int .i64 0,.int .i64 0,.int .i64 0,.int .i64 0,.bool false,.bool false]) ?_ 0 _ rfl;(try rw [← Nbq68.out]);(with_reducible repeat (first | refine blk_drewN ?_ _ | refine blk_drew ?_ | refine blk_alloc ?_ _));exact BK422.out⟩,⟨by repeat (first | (with_reducible first | exact HB.out | apply b0_ | apply b1_ | apply b2_ | refine below_set ?_ GE402.out | refine below_set ?_ GE422.out) | exact HB.out)⟩⟩
                       subst c69
                       have H1 : ((estoversref19_Inside.f k6 l0_1 ((rd_T34 y417 x122_6).f1) x6_4).bind fun t423 => (estoverslaw39_ReclaimplanFloors.j6 k6 y417 (wrap64 (x4_2 + 1)) x6_4 x7_6 (wrap64 ((y410.length : Int) + 1)) x39_2 y417 (y417.length : Int) x122_6 t423 l0_0 l0_1 a0_2 a0_3)) = some r:=by rw [if_pos rfl] at H;exact H
                       clear H;have H:=H1;clear H1;replace H:=Option.bind_eq_some_iff.mp H;obtain ⟨t423,A700,H⟩:=H;replace H : (estoverslaw39_ReclaimplanFloors.j6 k6 y417 (wrap64 (x4_2 + 1)) x6_4 x7_6 (wrap64 ((y410.length : Int) + 1)) x39_2 y417 (y417.length : Int) x122_6 t423 l0_0 l0_1 a0_2 a0_3) = some r:=H;have A70:=Aside0.mk A700;clear A700;have H':=Aside0.mk H;clear H
                       have hnb71:=NB422_402.out;have hnc71:=NB402_422.out;obtain ⟨hcz72_0,hcz72_1,hcz72_2,hcz72_3,hcz72_4,hcz72_5,hcz72_6,hfz72_0,hfz72_1,hfz72_2,hfz72_3,hfz72_4,hfz72_5,hfz72_6⟩:=q7_ BK422.out;obtain ⟨hcz73_0,hcz73_1,hcz73_2,hcz73_3,hfz73_0,hfz73_1,hfz73_2,hfz73_3⟩:=q4_ BK402.out
                       go_wp2_with (first | (go_at_call 42;(with_reducible refine (estoversref19_Inside.calls k6 _ _ l0_1 ((rd_T34 y417 x122_6).f1) x6_4 t423 _ ?side1 ?side2 A70.out).mono ?_);(case side1 => exact Kd.C_below HR0_1.out (by repeat (first | (with_reducible first | exact HB.out | apply b0_ | apply b1_ | apply b2_ | refine below_set ?_ GE402.out | refine below_set ?_ GE422.out) | exact HB.out)));(case side2 => exact HC0_1.out);rintro e w74 ⟨rfl,hb⟩;have n0_:=Aside0.mk (Kd.R_below (by (with_reducible repeat (first | apply Kd.R_alloc | apply Kd.R_drewN | apply Kd.R_drew));exact (Kd.R_mono (Kd.R_far (p:=⟨gb422,6,none⟩) (Kd.R_far (p:=⟨gb422,5,none⟩) (Kd.R_far (p:=⟨gb422,4,none⟩) (Kd.R_far (p:=⟨gb422,3,none⟩) (Kd.R_far (p:=⟨gb422,2,none⟩) (Kd.R_far (p:=⟨gb422,1,none⟩) (Kd.R_far (p:=⟨gb422,0,none⟩) (Kd.R_mono HO_3.out (fun k_ hk => (⟨hk,hk.2⟩ : _∧k_≠gb422))) (fun _ hk => hk.2) (.int .i64 ((rd_T34 y417 x122_6).f0))) (fun _ hk => hk.2) (.int .i64 ((rd_T34 y417 x122_6).f1))) (fun _ hk => hk.2) (.int .i64 ((rd_T34 y417 x122_6).f2))) (fun _ hk => hk.2) (.int .i64 ((rd_T34 y417 x122_6).f3))) (fun _ hk => hk.2) (.int .i64 ((rd_T34 y417 x122_6).f4))) (fun _ hk => hk.2) (.bool ((rd_T34 y417 x122_6).f5))) (fun _ hk => hk.2) (.bool (true))) (fun _ h_ => h_.1))) hb);have n1_:=Aside0.mk (Kd.R_below (by (with_reducible repeat (first | apply Kd.R_alloc | apply Kd.R_drewN | apply Kd.R_drew));exact (Kd.R_mono (Kd.R_far (p:=⟨gb422,6,none⟩) (Kd.R_far (p:=⟨gb422,5,none⟩) (Kd.R_far (p:=⟨gb422,4,none⟩) (Kd.R_far (p:=⟨gb422,3,none⟩) (Kd.R_far (p:=⟨gb422,2,none⟩) (Kd.R_far (p:=⟨gb422,1,none⟩) (Kd.R_far (p:=⟨gb422,0,none⟩) (Kd.R_mono HO_120.out (fun k_ hk => (⟨hk,hk.2⟩ : _∧k_≠gb422))) (fun _ hk => hk.2) (.int .i64 ((rd_T34 y417 x122_6).f0))) (fun _ hk => hk.2) (.int .i64 ((rd_T34 y417 x122_6).f1))) (fun _ hk => hk.2) (.int .i64 ((rd_T34 y417 x122_6).f2))) (fun _ hk => hk.2) (.int .i64 ((rd_T34 y417 x122_6).f3))) (fun _ hk => hk.2) (.int .i64 ((rd_T34 y417 x122_6).f4))) (fun _ hk => hk.2) (.bool ((rd_T34 y417 x122_6).f5))) (fun _ hk => hk.2) (.bool (true))) (fun _ h_ => h_.1))) hb);have n2_:=Aside0.mk (blk_below (g:=gb402) (o:=.cells #[.slice A0_0 l0_0.length c0_0,.slice (some ad420) l0_1.length c0_1,.int .i64 a0_2,.bool a0_3] 37 (0,0)) (by (with_reducible repeat (first | refine blk_drewN ?_ _ | refine blk_drew ?_ | refine blk_alloc ?_ _));refine blk_far ?_ NB402_422.out _;(with_reducible repeat (first | refine blk_drewN ?_ _ | refine blk_drew ?_ | refine blk_alloc ?_ _));refine blk_far ?_ NB402_422.out _;(with_reducible repeat (first | refine blk_drewN ?_ _ | refine blk_drew ?_ | refine blk_alloc ?_ _));refine blk_far ?_ NB402_422.out _;(with_reducible repeat (first | refine blk_drewN ?_ _ | refine blk_drew ?_ | refine blk_alloc ?_ _));refine blk_far ?_ NB402_422.out _;(with_reducible repeat (first | refine blk_drewN ?_ _ | refine blk_drew ?_ | refine blk_alloc ?_ _));refine blk_far ?_ NB402_422.out _;(with_reducible repeat (first | refine blk_drewN ?_ _ | refine blk_drew ?_ | refine blk_alloc ?_ _));refine blk_far ?_ NB402_422.out _;(with_reducible repeat (first | refine blk_drewN ?_ _ | refine blk_drew ?_ | refine blk_alloc ?_ _));refine blk_far ?_ NB402_422.out _;(with_reducible repeat (first | refine blk_drewN ?_ _ | refine blk_drew ?_ | refine blk_alloc ?_ _));exact BK402.out) hb);have n3_:=Aside0.mk (blk_below (g:=gb422) (o:=.cells #[.int .i64 ((rd_T34 y417 x122_6).f0),.int .i64 ((rd_T34 y417 x122_6).f1),.int .i64 ((rd_T34 y417 x122_6).f2),.int .i64 ((rd_T34 y417 x122_6).f3),.int .i64 ((rd_T34 y417 x122_6).f4),.bool ((rd_T34 y417 x122_6).f5),.bool true] 34 (0,0)) (by (with_reducible repeat (first | refine blk_drewN ?_ _ | refine blk_drew ?_ | refine blk_alloc ?_ _));refine blk_put (cs:=#[.int .i64 ((rd_T34 y417 x122_6).f0),.int .i64 ((rd_T34 y417 x122_6).f1),.int .i64 ((rd_T34 y417 x122_6).f2),.int .i64 ((rd_T34 y417 x122_6).f3),.int .i64 ((rd_T34 y417 x122_6).f4),.bool ((rd_T34 y417 x122_6).f5),.bool false]) ?_ 6 _ rfl;(with_reducible repeat (first | refine blk_drewN ?_ _ | refine blk_drew ?_ | refine blk_alloc ?_ _));refine blk_put (cs:=#[.int .i64 ((rd_T34 y417 x122_6).f0),.int .i64 ((rd_T34 y417 x122_6).f1),.int .i64 ((rd_T34 y417 x122_6).f2),.int .i64 ((rd_T34 y417 x122_6).f3),.int .i64 ((rd_T34 y417 x122_6).f4),.bool false,.bool false]) ?_ 5 _ rfl;(with_reducible repeat (first | refine blk_drewN ?_ _ | refine blk_drew ?_ | refine blk_alloc ?_ _));refine blk_put (cs:=#[.int .i64 ((rd_T34 y417 x122_6).f0),.int .i64 ((rd_T34 y417 x122_6).f1),.int .i64 ((rd_T34 y417 x122_6).f2),.int .i64 ((rd_T34 y417 x122_6).f3),.int .i64 0,.bool false,.bool false]) ?_ 4 _ rfl;(with_reducible repeat (first | refine blk_drewN ?_ _ | refine blk_drew ?_ | refine blk_alloc ?_ _));refine blk_put (cs:=#[.int .i64 ((rd_T34 y417 x122_6).f0),.int .i64 ((rd_T34 y417 x122_6).f1),.int .i64 ((rd_T34 y417 x122_6).f2),.int .i64 0,.int .i64 0,.bool false,.bool false]) ?_ 3 _ rfl;(with_reducible repeat (first | refine blk_drewN ?_ _ | refine blk_drew ?_ | refine blk_alloc ?_ _));refine blk_put (cs:=#[.int .i64 ((rd_T34 y417 x122_6).f0),.int .i64 ((rd_T34 y417 x122_6).f1),.int .i64 0,.int .i64 0,.int .i64 0,.bool false,.bool false]) ?_ 2 _ rfl;(with_reducible repeat (first | refine blk_drewN ?_ _ | refine blk_drew ?_ | refine blk_alloc ?_ _));refine blk_put (cs:=#[.int .i64 ((rd_T34 y417 x122_6).f0),.int .i64 0,.int .i64 0,.int .i64 0,.int .i64 0,.bool false,.bool false]) ?_ 1 _ rfl;(with_reducible repeat (first | refine blk_drewN ?_ _ | refine blk_drew ?_ | refine blk_alloc ?_ _));refine blk_put (cs:=#[.int .i64 0,.int .i64 0,.int .i64 0,.int .i64 0,.int .i64 0,.bool false,.bool false]) ?_ 0 _ rfl;(with_reducible repeat (first | refine blk_drewN ?_ _ | refine blk_drew ?_ | refine blk_alloc ?_ _));exact BK422.out) hb);have n4_:=Aside0.mk (below_step (by repeat (first | (with_reducible first | exact HB.out | apply b0_ | apply b1_ | apply b2_ | refine below_set ?_ GE402.out | refine below_set ?_ GE422.out) | exact HB.out)) hb);clear HO_3;clear HO_120;clear BK402;clear BK422;clear HB;have HO_3:=n0_;have HO_120:=n1_;have BK402:=n2_;have BK422:=n3_;have HB:=n4_;clear n0_ n1_ n2_ n3_ n4_))
                       go_meet
                       case rel => exact ⟨_,(t423),(by first | rfl | (simp;done) | (simp [*];done)),H',⟨by have:=HJ1.out;have:=HK2.out;have:=HJ33.out;have:=HK4.out;have:=HJ51.out;have:=HK6.out;first | omega | exact Nat.le_refl _⟩,⟨by (try simp only [hl3_2]);(try simp only [hl3_4]);(with_reducible repeat (first | apply Kd.R_alloc | apply Kd.R_drewN | apply Kd.R_drew));exact Kd.R_mono HO_3.out (fun _ hk => hk.2)⟩,⟨by (try simp only [hl3_2]);(try simp only [hl3_4]);(with_reducible repeat (first | apply Kd.R_alloc | apply Kd.R_drewN | apply Kd.R_drew));exact Kd.R_mono HO_120.out (fun _ hk => hk.2)⟩,⟨by (try simp only [hl3_2]);(try simp only [hl3_4]);(try rw [← Nbq68.out]);(with_reducible repeat (first | refine blk_drewN ?_ _ | refine blk_drew ?_ | refine blk_alloc ?_ _));exact BK402.out⟩,⟨by (try simp only [hl3_2]);(try simp only [hl3_4]);(try rw [← Nbq68.out]);(with_reducible repeat (first | refine blk_drewN ?_ _ | refine blk_drew ?_ | refine blk_alloc ?_ _));exact BK422.out⟩,⟨by repeat (first | (with_reducible first | exact HB.out | apply b0_ | apply b1_ | apply b2_ | refine below_set ?_ GE402.out | refine below_set ?_ GE422.out) | exact HB.out)⟩⟩
                      case rest =>
                       clear HC64;obtain ⟨kq,x135_63,rfl,HA,HJ63,HO_3,HO_120,BK402,BK422,HB⟩:=hcut
                       cases kq with
                        | zero => exact absurd HA.out (by simp [estoverslaw39_ReclaimplanFloors.j6])
                        | succ kj63 =>
                         have H:=HA.out;clear HA;simp only [estoverslaw39_ReclaimplanFloors.j6] at H;by_cases c77 : x135_63 = true
                         rotate_left
                         ·
                          replace c77:=Bool.eq_false_iff.mpr c77;subst c77
                          have H1 : (estoverslaw39_ReclaimplanFloors.l2 kj63 y417 (wrap64 (x4_2 + 1)) x6_4 x7_6 (wrap64 ((y410.length : Int) + 1)) x39_2 y417 (y417.length : Int) (wrap64 (x122_6 + 1)) l0_0 l0_1 a0_2 a0_3) = some r:=by rw [if_neg (show ¬ (false = true) by decide)] at H;exact H
                          clear H;have H:=H1;clear H1;have H':=Aside0.mk H;clear H;go_wp2
                          go_roundg kj63
                          case measure => have:=HJ1.out;have:=HK2.out;have:=HJ33.out;have:=HK4.out;have:=HJ51.out;have:=HK6.out;have:=HJ63.out;omega
                          case rel => exact ⟨(x7_6),(wrap64 (x122_6 + 1)),(by first | rfl | (simp;done) | (simp [*];done)),(by first | rfl | (simp;done) | (simp [*];done)),H',⟨by have:=HJ1.out;have:=HK2.out;have:=HJ33.out;have:=HK4.out;have:=HJ51.out;have:=HK6.out;have:=HJ63.out;omega⟩,⟨by (try simp only [hl3_2]);(try simp only [hl3_4]);(with_reducible repeat (first | apply Kd.R_alloc | apply Kd.R_drewN | apply Kd.R_drew));exact Kd.R_mono HO_3.out (fun _ hk => trivial)⟩,⟨by (try simp only [hl3_2]);(try simp only [hl3_4]);(with_reducible repeat (first | apply Kd.R_alloc | apply Kd.R_drewN | apply Kd.R_drew));exact Kd.R_mono HO_120.out (fun _ hk => trivial)⟩,⟨by (try simp only [hl3_2]);(try simp only [hl3_4]);(with_reducible repeat (first | refine blk_drewN ?_ _ | refine blk_drew ?_ | refine blk_alloc ?_ _));exact BK402.out⟩,⟨by repeat (first | (with_reducible first | exact HB.out | apply b0_ | apply b1_ | apply b2_ | refine below_set ?_ GE402.out | refine below_set ?_ GE422.out) | exact HB.out)⟩⟩
                         subst c77
                         have H1 : (estoverslaw39_ReclaimplanFloors.l2 kj63 y417 (wrap64 (x4_2 + 1)) x6_4 (wrap64 (x7_6 - 1)) (wrap64 ((y410.length : Int) + 1)) x39_2 y417 (y417.length : Int) (wrap64 (x122_6 + 1)) l0_0 l0_1 a0_2 a0_3) = some r:=by rw [if_pos rfl] at H;exact H
                         clear H;have H:=H1;clear H1;have H':=Aside0.mk H;clear H;go_wp2
                         go_roundg kj63
                         case measure => have:=HJ1.out;have:=HK2.out;have:=HJ33.out;have:=HK4.out;have:=HJ51.out;have:=HK6.out;have:=HJ63.out;omega
                         case rel => exact ⟨(wrap64 (x7_6 - 1)),(wrap64 (x122_6 + 1)),(by first | rfl | (simp;done) | (simp [*];done)),(by first | rfl | (simp;done) | (simp [*];done)),H',⟨by have:=HJ1.out;have:=HK2.out;have:=HJ33.out;have:=HK4.out;have:=HJ51.out;have:=HK6.out;have:=HJ63.out;omega⟩,⟨by (try simp only [hl3_2]);(try simp only [hl3_4]);(with_reducible repeat (first | apply Kd.R_alloc | apply Kd.R_drewN | apply Kd.R_drew));exact Kd.R_mono HO_3.out (fun _ hk => trivial)⟩,⟨by (try simp only [hl3_2]);(try simp only [hl3_4]);(with_reducible repeat (first | apply Kd.R_alloc | apply Kd.R_drewN | apply Kd.R_drew));exact Kd.R_mono HO_120.out (fun _ hk => trivial)⟩,⟨by (try simp only [hl3_2]);(try simp only [hl3_4]);(with_reducible repeat (first | refine blk_drewN ?_ _ | refine blk_drew ?_ | refine blk_alloc ?_ _));exact BK402.out⟩,⟨by repeat (first | (with_reducible first | exact HB.out | apply b0_ | apply b1_ | apply b2_ | refine below_set ?_ GE402.out | refine below_set ?_ GE422.out) | exact HB.out)⟩⟩
            subst c42
            have H1 : (some false) = some r:=by rw [if_pos rfl] at H;exact H
            clear H;have H:=H1;clear H1;obtain rfl:=Option.some.inj H;go_wp2;go_ret;exact ⟨by first | rfl | (simp [errW_none,errW_some] <;> rfl) | (simp [*,errW_none,errW_some] <;> rfl),by repeat (first | (with_reducible first | exact HB.out | apply b0_ | apply b1_ | apply b2_ | refine below_set ?_ GE402.out) | exact HB.out)⟩
        rw [if_pos c31] at H;have c31b0 : decide (t414 < 0) = true:=decide_eq_true c31;clear c31;obtain rfl:=Option.some.inj H;obtain ⟨hcz32_0,hcz32_1,hcz32_2,hcz32_3,hfz32_0,hfz32_1,hfz32_2,hfz32_3⟩:=q4_ BK402.out
        go_wp2_with (first | ((with_reducible refine gate_callee (f:=20) rfl ?_);refine goesL_ (some 48) rfl rfl Try.func20 (by kernel_rfl) rfl #[.slice Ao27 x3_2.length co27,.slice A0_1 l0_1.length c0_1,.int .i64 a0_2,.bool a0_3] rfl (by (try simp only [z3_,z4_,z5_]);first | done | rfl | (simp only [z6_,z7_];rfl)) ?_;(with_reducible refine (reclaimplan_Next.calls k2 _ _ x3_2 _ _ l0_1 a0_2 a0_3 t414 _ ?side1 ?side2 ?side3 ?side4 A30.out).mono ?_);(case side1 => repeat (first | exact (Kd.R_reads' HO_3.out).2.2 | (with_reducible refine Kd.C_alloc ?_ _) | (with_reducible refine Kd.C_drewN ?_ _) | (with_reducible refine Kd.C_drew ?_)));(case side2 => exact (Kd.R_reads' HO_3.out).2.1);(case side3 => repeat (first | exact (Kd.C_below HR0_1.out HB.out) | (with_reducible refine Kd.C_alloc ?_ _) | (with_reducible refine Kd.C_drewN ?_ _) | (with_reducible refine Kd.C_drew ?_)));(case side4 => exact HC0_1.out);rintro e w33 ⟨rfl,hb⟩;refine ⟨_,rfl,?_⟩;have n0_:=Aside0.mk (Kd.R_below (by (with_reducible repeat (first | apply Kd.R_alloc | apply Kd.R_drewN | apply Kd.R_drew));exact HO_3.out) hb);have n1_:=Aside0.mk (blk_below (g:=gb402) (o:=.cells #[.slice A0_0 l0_0.length c0_0,.slice A0_1 l0_1.length c0_1,.int .i64 a0_2,.bool a0_3] 37 (0,0)) (by (with_reducible repeat (first | refine blk_drewN ?_ _ | refine blk_drew ?_ | refine blk_alloc ?_ _));exact BK402.out) hb);have n2_:=Aside0.mk (below_step (by repeat (first | (with_reducible first | exact HB.out | apply b0_ | apply b1_ | apply b2_ | refine below_set ?_ GE402.out) | exact HB.out)) hb);clear HO_3;clear BK402;clear HB;have HO_3:=n0_;have BK402:=n1_;have HB:=n2_;clear n0_ n1_ n2_))
        go_ret;exact ⟨by first | rfl | (simp [errW_none,errW_some] <;> rfl) | (simp [*,errW_none,errW_some] <;> rfl),by repeat (first | (with_reducible first | exact HB.out | apply b0_ | apply b1_ | apply b2_ | refine below_set ?_ GE402.out) | exact HB.out)⟩
    subst c17
    have H1 : ((estoverslaw39_awake.f kj1).bind fun t406 => (some t406)) = some r:=by rw [if_pos rfl] at H;exact H
    clear H;have H:=H1;clear H1;replace H:=Option.bind_eq_some_iff.mp H;obtain ⟨t406,A180,H⟩:=H;replace H : (some t406) = some r:=H;have A18:=Aside0.mk A180;clear A180;obtain rfl:=Option.some.inj H
    go_wp2_with (first | ((with_reducible refine gate_callee (f:=29) rfl ?_);refine goesL_ (some 23) rfl rfl Try.func29 (by kernel_rfl) rfl #[] rfl (by (try simp only [z3_,z4_,z5_]);first | done | rfl | (simp only [z6_,z7_];rfl)) ?_;(with_reducible refine (estoverslaw39_awake.calls kj1  t406 _ A18.out).mono ?_);rintro e w19 ⟨rfl,hb⟩;refine ⟨_,rfl,?_⟩;have n0_:=Aside0.mk (blk_below (g:=gb402) (o:=.cells #[.slice A0_0 l0_0.length c0_0,.slice A0_1 l0_1.length c0_1,.int .i64 a0_2,.bool a0_3] 37 (0,0)) (by (with_reducible repeat (first | refine blk_drewN ?_ _ | refine blk_drew ?_ | refine blk_alloc ?_ _));exact BK402.out) hb);have n1_:=Aside0.mk (below_step (by repeat (first | (with_reducible first | exact HB.out | apply b0_ | apply b1_ | apply b2_ | refine below_set ?_ GE402.out) | exact HB.out)) hb);clear BK402;clear HB;have BK402:=n0_;have HB:=n1_;clear n0_ n1_))
    go_ret;exact ⟨by first | rfl | (simp [errW_none,errW_some] <;> rfl) | (simp [*,errW_none,errW_some] <;> rfl),by repeat (first | (with_reducible first | exact HB.out | apply b0_ | apply b1_ | apply b2_ | refine below_set ?_ GE402.out) | exact HB.out)⟩
end Go.Proofs.Ytnmenfkmndnoaaa.Pr
