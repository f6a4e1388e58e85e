-- Written by a program of this session (a changed copy of the kit's printer). Not trusted: Lean checks it.
import Derived.Test.YtnmenfkmndnoaaaM0
import Derived.Test.YtnmenfkmndnoaaaFestoversref19Check
namespace Go.Proofs.Ytnmenfkmndnoaaa.Pr
open Go.RowKit Go.Proofs.YtnmenfkmndnoaaaW.PrintWords Go.Proofs.YtnmenfkmndnoaaaW.PrintLast Go.Proofs.YtnmenfkmndnoaaaW.PrintMore
attribute [local go_sem] max2_int min2_int max_two min_two max_three min_three max_four min_four
set_option linter.unusedVariables false
set_option linter.unusedSimpArgs false
mutual
def estoversref39_Check.l0 : Nat→List (S34)→List (S30)→Int→Option (Int)
 | 0,_,_,_ => none
 | k + 1,x0,x1,x6 => if x6 < (x0.length : Int) then (if 0≤x6 then (if ((rd_T34 x0 x6).f0) < 0 then (estoversref39_Check.j1 k x0 x1 x6 true ((rd_T34 x0 x6).f0) ((rd_T34 x0 x6).f1) ((rd_T34 x0 x6).f2) ((rd_T34 x0 x6).f3) ((rd_T34 x0 x6).f4) ((rd_T34 x0 x6).f5) ((rd_T34 x0 x6).f6)) else (if ((rd_T34 x0 x6).f0)≥256 then (estoversref39_Check.j1 k x0 x1 x6 true ((rd_T34 x0 x6).f0) ((rd_T34 x0 x6).f1) ((rd_T34 x0 x6).f2) ((rd_T34 x0 x6).f3) ((rd_T34 x0 x6).f4) ((rd_T34 x0 x6).f5) ((rd_T34 x0 x6).f6)) else (if ((rd_T34 x0 x6).f1) < (-1) then (estoversref39_Check.j1 k x0 x1 x6 true ((rd_T34 x0 x6).f0) ((rd_T34 x0 x6).f1) ((rd_T34 x0 x6).f2) ((rd_T34 x0 x6).f3) ((rd_T34 x0 x6).f4) ((rd_T34 x0 x6).f5) ((rd_T34 x0 x6).f6)) else (estoversref39_Check.j1 k x0 x1 x6 (decide (((rd_T34 x0 x6).f1)≥(x1.length : Int))) ((rd_T34 x0 x6).f0) ((rd_T34 x0 x6).f1) ((rd_T34 x0 x6).f2) ((rd_T34 x0 x6).f3) ((rd_T34 x0 x6).f4) ((rd_T34 x0 x6).f5) ((rd_T34 x0 x6).f6))))) else (none)) else (some 0)
def estoversref39_Check.j1 : Nat→List (S34)→List (S30)→Int→Bool→Int→Int→Int→Int→Int→Bool→Bool→Option (Int)
 | 0,_,_,_,_,_,_,_,_,_,_,_ => none
 | k + 1,x0,x1,x6,x42,x231000,x231001,x231002,x231003,x231004,x231005,x231006 => if x42 = true then (some 2) else (if x6 > 0 then (if 0≤(wrap64 (x6 - 1)) then (if (wrap64 (x6 - 1)) < (x0.length : Int) then (estoversref39_Check.j2 k x0 x1 x6 (decide (x231000≤((rd_T34 x0 (wrap64 (x6 - 1))).f0))) x231000 x231001 x231002 x231003 x231004 x231005 x231006) else (none)) else (none)) else (estoversref39_Check.j2 k x0 x1 x6 false x231000 x231001 x231002 x231003 x231004 x231005 x231006))
def estoversref39_Check.j2 : Nat→List (S34)→List (S30)→Int→Bool→Int→Int→Int→Int→Int→Bool→Bool→Option (Int)
 | 0,_,_,_,_,_,_,_,_,_,_,_ => none
 | k + 1,x0,x1,x6,x55,x231000,x231001,x231002,x231003,x231004,x231005,x231006 => if x55 = true then (some 10) else (if x231003 < 0 then (estoversref39_Check.j3 k x0 x1 x6 true x231000 x231001 x231002 x231003 x231004 x231005 x231006) else (if x231003 > 10 then (estoversref39_Check.j3 k x0 x1 x6 true x231000 x231001 x231002 x231003 x231004 x231005 x231006) else (if x231002 < (-1) then (estoversref39_Check.j3 k x0 x1 x6 true x231000 x231001 x231002 x231003 x231004 x231005 x231006) else (estoversref39_Check.j3 k x0 x1 x6 (decide (x231004 < (-1))) x231000 x231001 x231002 x231003 x231004 x231005 x231006))))
def estoversref39_Check.j3 : Nat→List (S34)→List (S30)→Int→Bool→Int→Int→Int→Int→Int→Bool→Bool→Option (Int)
 | 0,_,_,_,_,_,_,_,_,_,_,_ => none
 | k + 1,x0,x1,x6,x73,x231000,x231001,x231002,x231003,x231004,x231005,x231006 => if x73 = true then (some 1) else (if x231003 = 0 then (if x231006 = true then (estoversref39_Check.j4 k x0 x1 x6 false) else (estoversref39_Check.j4 k x0 x1 x6 (x231002 == (-1)))) else (estoversref39_Check.j4 k x0 x1 x6 false))
def estoversref39_Check.j4 : Nat→List (S34)→List (S30)→Int→Bool→Option (Int)
 | 0,_,_,_,_ => none
 | k + 1,x0,x1,x6,x86 => if x86 = true then (some 3) else (estoversref39_Check.l0 k x0 x1 (wrap64 (x6 + 1)))
end
def estoversref39_Check.f (k : Nat) (l0 : List (S34)) (l1 : List (S30)) : Option (Int):=(estoversref19_Check.f k l1).bind fun t228 => (if t228 = 0 then (estoversref39_Check.l0 k l0 l1 0) else (some t228))
theorem estoversref39_Check.mono_l : ∀ k,(∀ y0 y1 y2,LeO (estoversref39_Check.l0 k y0 y1 y2) (estoversref39_Check.l0 (k + 1) y0 y1 y2))∧(∀ y0 y1 y2 y3 y4 y5 y6 y7 y8 y9 y10,LeO (estoversref39_Check.j1 k y0 y1 y2 y3 y4 y5 y6 y7 y8 y9 y10) (estoversref39_Check.j1 (k + 1) y0 y1 y2 y3 y4 y5 y6 y7 y8 y9 y10))∧(∀ y0 y1 y2 y3 y4 y5 y6 y7 y8 y9 y10,LeO (estoversref39_Check.j2 k y0 y1 y2 y3 y4 y5 y6 y7 y8 y9 y10) (estoversref39_Check.j2 (k + 1) y0 y1 y2 y3 y4 y5 y6 y7 y8 y9 y10))∧(∀ y0 y1 y2 y3 y4 y5 y6 y7 y8 y9 y10,LeO (estoversref39_Check.j3 k y0 y1 y2 y3 y4 y5 y6 y7 y8 y9 y10) (estoversref39_Check.j3 (k + 1) y0 y1 y2 y3 y4 y5 y6 y7 y8 y9 y10))∧(∀ y0 y1 y2 y3,LeO (estoversref39_Check.j4 k y0 y1 y2 y3) (estoversref39_Check.j4 (k + 1) y0 y1 y2 y3))
 | 0 => ⟨fun _ _ _ r h => by simp [estoversref39_Check.l0] at h,fun _ _ _ _ _ _ _ _ _ _ _ r h => by simp [estoversref39_Check.j1] at h,fun _ _ _ _ _ _ _ _ _ _ _ r h => by simp [estoversref39_Check.j2] at h,fun _ _ _ _ _ _ _ _ _ _ _ r h => by simp [estoversref39_Check.j3] at h,fun _ _ _ _ r h => by simp [estoversref39_Check.j4] at h⟩
 | k + 1 => by
  obtain ⟨ih0,ih1,ih2,ih3,ih4⟩:=estoversref39_Check.mono_l k;refine ⟨?_,?_,?_,?_,?_⟩
  ·
   intro y0 y1 y2
   unfold estoversref39_Check.l0
   repeat' first
    | (with_reducible exact ih0 _ _ _)
    | (with_reducible exact ih1 _ _ _ _ _ _ _ _ _ _ _)
    | (with_reducible exact ih2 _ _ _ _ _ _ _ _ _ _ _)
    | (with_reducible exact ih3 _ _ _ _ _ _ _ _ _ _ _)
    | (with_reducible exact ih4 _ _ _ _)
    | (with_reducible exact estoversref19_Check.mono _ _)
    | (with_reducible exact LeO.refl _)
    | (with_reducible exact LeO.none _)
    | (with_reducible refine LeO.ite ?_ ?_)
    | (with_reducible refine LeO.bind ?_ (fun _ => ?_))
    | exact ih0 _ _ _
    | exact ih1 _ _ _ _ _ _ _ _ _ _ _
    | exact ih2 _ _ _ _ _ _ _ _ _ _ _
    | exact ih3 _ _ _ _ _ _ _ _ _ _ _
    | exact ih4 _ _ _ _
    | exact estoversref19_Check.mono _ _
    | exact LeO.none _
    | refine LeO.ite ?_ ?_
    | refine LeO.bind ?_ (fun _ => ?_)
  ·
   intro y0 y1 y2 y3 y4 y5 y6 y7 y8 y9 y10
   unfold estoversref39_Check.j1
   repeat' first
    | (with_reducible exact ih0 _ _ _)
    | (with_reducible exact ih1 _ _ _ _ _ _ _ _ _ _ _)
    | (with_reducible exact ih2 _ _ _ _ _ _ _ _ _ _ _)
    | (with_reducible exact ih3 _ _ _ _ _ _ _ _ _ _ _)
    | (with_reducible exact ih4 _ _ _ _)
    | (with_reducible exact estoversref19_Check.mono _ _)
    | (with_reducible exact LeO.refl _)
    | (with_reducible exact LeO.none _)
    | (with_reducible refine LeO.ite ?_ ?_)
    | (with_reducible refine LeO.bind ?_ (fun _ => ?_))
    | exact ih0 _ _ _
    | exact ih1 _ _ _ _ _ _ _ _ _ _ _
    | exact ih2 _ _ _ _ _ _ _ _ _ _ _
    | exact ih3 _ _ _ _ _ _ _ _ _ _ _
    | exact ih4 _ _ _ _
    | exact estoversref19_Check.mono _ _
    | exact LeO.none _
    | refine LeO.ite ?_ ?_
    | refine LeO.bind ?_ (fun _ => ?_)
  ·
   intro y0 y1 y2 y3 y4 y5 y6 y7 y8 y9 y10
   unfold estoversref39_Check.j2
   repeat' first
    | (with_reducible exact ih0 _ _ _)
    | (with_reducible exact ih1 _ _ _ _ _ _ _ _ _ _ _)
    | (with_reducible exact ih2 _ _ _ _ _ _ _ _ _ _ _)
    | (with_reducible exact ih3 _ _ _ _ _ _ _ _ _ _ _)
    | (with_reducible exact ih4 _ _ _ _)
    | (with_reducible exact estoversref19_Check.mono _ _)
    | (with_reducible exact LeO.refl _)
    | (with_reducible exact LeO.none _)
    | (with_reducible refine LeO.ite ?_ ?_)
    | (with_reducible refine LeO.bind ?_ (fun _ => ?_))
    | exact ih0 _ _ _
    | exact ih1 _ _ _ _ _ _ _ _ _ _ _
    | exact ih2 _ _ _ _ _ _ _ _ _ _ _
    | exact ih3 _ _ _ _ _ _ _ _ _ _ _
    | exact ih4 _ _ _ _
    | exact estoversref19_Check.mono _ _
    | exact LeO.none _
    | refine LeO.ite ?_ ?_
    | refine LeO.bind ?_ (fun _ => ?_)
  ·
   intro y0 y1 y2 y3 y4 y5 y6 y7 y8 y9 y10
   unfold estoversref39_Check.j3
   repeat' first
    | (with_reducible exact ih0 _ _ _)
    | (with_reducible exact ih1 _ _ _ _ _ _ _ _ _ _ _)
    | (with_reducible exact ih2 _ _ _ _ _ _ _ _ _ _ _)
    | (with_reducible exact ih3 _ _ _ _ _ _ _ _ _ _ _)
    | (with_reducible exact ih4 _ _ _ _)
    | (with_reducible exact estoversref19_Check.mono _ _)
    | (with_reducible exact LeO.refl _)
    | (with_reducible exact LeO.none _)
    | (with_reducible refine LeO.ite ?_ ?_)
    | (with_reducible refine LeO.bind ?_ (fun _ => ?_))
    | exact ih0 _ _ _
    | exact ih1 _ _ _ _ _ _ _ _ _ _ _
    | exact ih2 _ _ _ _ _ _ _ _ _ _ _
    | exact ih3 _ _ _ _ _ _ _ _ _ _ _
    | exact ih4 _ _ _ _
    | exact estoversref19_Check.mono _ _
    | exact LeO.none _
    | refine LeO.ite ?_ ?_
    | refine LeO.bind ?_ (fun _ => ?_)
  ·
   intro y0 y1 y2 y3
   unfold estoversref39_Check.j4
   repeat' first
    | (with_reducible exact ih0 _ _ _)
    | (with_reducible exact ih1 _ _ _ _ _ _ _ _ _ _ _)
    | (with_reducible exact ih2 _ _ _ _ _ _ _ _ _ _ _)
    | (with_reducible exact ih3 _ _ _ _ _ _ _ _ _ _ _)
    | (with_reducible exact ih4 _ _ _ _)
    | (with_reducible exact estoversref19_Check.mono _ _)
    | (with_reducible exact LeO.refl _)
    | (with_reducible exact LeO.none _)
    | (with_reducible refine LeO.ite ?_ ?_)
    | (with_reducible refine LeO.bind ?_ (fun _ => ?_))
    | exact ih0 _ _ _
    | exact ih1 _ _ _ _ _ _ _ _ _ _ _
    | exact ih2 _ _ _ _ _ _ _ _ _ _ _
    | exact ih3 _ _ _ _ _ _ _ _ _ _ _
    | exact ih4 _ _ _ _
    | exact estoversref19_Check.mono _ _
    | exact LeO.none _
    | refine LeO.ite ?_ ?_
    | refine LeO.bind ?_ (fun _ => ?_)
theorem estoversref39_Check.mono : ∀ a0 a1 k,LeO (estoversref39_Check.f k a0 a1) (estoversref39_Check.f (k + 1) a0 a1):=by
 intro a0 a1 k;obtain ⟨ih0,ih1,ih2,ih3,ih4⟩:=estoversref39_Check.mono_l k
 unfold estoversref39_Check.f
 repeat' first
  | (with_reducible exact ih0 _ _ _)
  | (with_reducible exact ih1 _ _ _ _ _ _ _ _ _ _ _)
  | (with_reducible exact ih2 _ _ _ _ _ _ _ _ _ _ _)
  | (with_reducible exact ih3 _ _ _ _ _ _ _ _ _ _ _)
  | (with_reducible exact ih4 _ _ _ _)
  | (with_reducible exact estoversref19_Check.mono _ _)
  | (with_reducible exact LeO.refl _)
  | (with_reducible exact LeO.none _)
  | (with_reducible refine LeO.ite ?_ ?_)
  | (with_reducible refine LeO.bind ?_ (fun _ => ?_))
  | exact ih0 _ _ _
  | exact ih1 _ _ _ _ _ _ _ _ _ _ _
  | exact ih2 _ _ _ _ _ _ _ _ _ _ _
  | exact ih3 _ _ _ _ _ _ _ _ _ _ _
  | exact ih4 _ _ _ _
  | exact estoversref19_Check.mono _ _
  | exact LeO.none _
  | refine LeO.ite ?_ ?_
  | refine LeO.bind ?_ (fun _ => ?_)
set_option maxHeartbeats 8000000 in
set_option maxRecDepth 100000 in
theorem estoversref39_Check.calls (k : Nat) (A0 : Option Addr) (c0 : Nat) (l0 : List (S34)) (A1 : Option Addr) (c1 : Nat) (l1 : List (S30)) (r : Int) (w : World) (hr0 : Kd.C k34 w A0 l0.length l0) (hc0 : l0.length≤c0) (hr1 : Kd.C k30 w A1 l1.length l1) (hc1 : l1.length≤c1) (h : estoversref39_Check.f k l0 l1 = some r) :
 Calls Try.prog 32 #[.slice A0 l0.length c0,.slice A1 l1.length c1] w fun e w' => e = .returned (.int .i64 r)∧Below w.heap.size w w':=by
 have hu34:=Try.underlying34;have HR0:=Aside0.mk hr0;have HC0:=Aside0.mk hc0;clear hr0 hc0;have HR1:=Aside0.mk hr1;have HC1:=Aside0.mk hc1;clear hr1 hc1;have HB:=Aside0.mk (Below.refl w.heap.size w);have H : ((estoversref19_Check.f k l1).bind fun t228 => (if t228 = 0 then (estoversref39_Check.l0 k l0 l1 0) else (some t228))) = some r:=h;clear h
 replace H:=Option.bind_eq_some_iff.mp H;obtain ⟨t228,A30,H⟩:=H;replace H : (if t228 = 0 then (estoversref39_Check.l0 k l0 l1 0) else (some t228)) = some r:=H;have A3:=Aside0.mk A30;clear A30;by_cases c4 : t228 = 0
 rotate_left
 ·
  rw [if_neg c4] at H;have c4b0 : (t228 == 0) = false:=beq_eq_false_iff_ne.mpr c4;have c4b1 : (t228 != 0) = true:=bne_iff_ne.mpr c4;obtain rfl:=Option.some.inj H
  go_enter Try.func32,Try.ntmps32
  go_wp2_with (first | (go_at_call 16;(with_reducible refine (estoversref19_Check.calls k _ _ l1 t228 _ ?side1 ?side2 A3.out).mono ?_);(case side1 => repeat (first | exact HR1.out | (with_reducible refine Kd.C_alloc ?_ _) | (with_reducible refine Kd.C_drewN ?_ _) | (with_reducible refine Kd.C_drew ?_)));(case side2 => exact HC1.out);rintro e w' ⟨rfl,⟨nd,rfl⟩⟩;(try first | exact ⟨rfl,_,World.drewN_drewN _ _ _⟩ | exact ⟨rfl,_,Eq.trans (World.drewN_drewN _ _ _) (congrArg (World.drewN _) (Nat.add_assoc _ _ _))⟩)))
  repeat (go_quiet (first | (go_at_call 16;(with_reducible refine (estoversref19_Check.calls k _ _ l1 t228 _ ?side1 ?side2 A3.out).mono ?_);(case side1 => repeat (first | exact HR1.out | (with_reducible refine Kd.C_alloc ?_ _) | (with_reducible refine Kd.C_drewN ?_ _) | (with_reducible refine Kd.C_drew ?_)));(case side2 => exact HC1.out);rintro e w' ⟨rfl,⟨nd,rfl⟩⟩;(try first | exact ⟨rfl,_,World.drewN_drewN _ _ _⟩ | exact ⟨rfl,_,Eq.trans (World.drewN_drewN _ _ _) (congrArg (World.drewN _) (Nat.add_assoc _ _ _))⟩)));try go_wp2_with (first | (go_at_call 16;(with_reducible refine (estoversref19_Check.calls k _ _ l1 t228 _ ?side1 ?side2 A3.out).mono ?_);(case side1 => repeat (first | exact HR1.out | (with_reducible refine Kd.C_alloc ?_ _) | (with_reducible refine Kd.C_drewN ?_ _) | (with_reducible refine Kd.C_drew ?_)));(case side2 => exact HC1.out);rintro e w' ⟨rfl,⟨nd,rfl⟩⟩;(try first | exact ⟨rfl,_,World.drewN_drewN _ _ _⟩ | exact ⟨rfl,_,Eq.trans (World.drewN_drewN _ _ _) (congrArg (World.drewN _) (Nat.add_assoc _ _ _))⟩))))
  go_ret;exact ⟨by first | rfl | (simp [errW_none,errW_some] <;> rfl) | (simp [*,errW_none,errW_some] <;> rfl),by repeat (first | (with_reducible first | exact HB.out | apply b0_ | apply b1_ | apply b2_) | exact HB.out)⟩
 rw [if_pos c4] at H;have c4b0 : (t228 == 0) = true:=beq_iff_eq.mpr c4;have c4b1 : (t228 != 0) = false:=bne_eq_false_iff_eq.mpr c4;clear c4;have H':=Aside0.mk H;clear H
 go_enter Try.func32,Try.ntmps32
 go_wp2_with (first | (go_at_call 16;(with_reducible refine (estoversref19_Check.calls k _ _ l1 t228 _ ?side1 ?side2 A3.out).mono ?_);(case side1 => repeat (first | exact HR1.out | (with_reducible refine Kd.C_alloc ?_ _) | (with_reducible refine Kd.C_drewN ?_ _) | (with_reducible refine Kd.C_drew ?_)));(case side2 => exact HC1.out);rintro e w' ⟨rfl,⟨nd,rfl⟩⟩;(try first | exact ⟨rfl,_,World.drewN_drewN _ _ _⟩ | exact ⟨rfl,_,Eq.trans (World.drewN_drewN _ _ _) (congrArg (World.drewN _) (Nat.add_assoc _ _ _))⟩)))
 repeat (go_quiet (first | (go_at_call 16;(with_reducible refine (estoversref19_Check.calls k _ _ l1 t228 _ ?side1 ?side2 A3.out).mono ?_);(case side1 => repeat (first | exact HR1.out | (with_reducible refine Kd.C_alloc ?_ _) | (with_reducible refine Kd.C_drewN ?_ _) | (with_reducible refine Kd.C_drew ?_)));(case side2 => exact HC1.out);rintro e w' ⟨rfl,⟨nd,rfl⟩⟩;(try first | exact ⟨rfl,_,World.drewN_drewN _ _ _⟩ | exact ⟨rfl,_,Eq.trans (World.drewN_drewN _ _ _) (congrArg (World.drewN _) (Nat.add_assoc _ _ _))⟩)));try go_wp2_with (first | (go_at_call 16;(with_reducible refine (estoversref19_Check.calls k _ _ l1 t228 _ ?side1 ?side2 A3.out).mono ?_);(case side1 => repeat (first | exact HR1.out | (with_reducible refine Kd.C_alloc ?_ _) | (with_reducible refine Kd.C_drewN ?_ _) | (with_reducible refine Kd.C_drew ?_)));(case side2 => exact HC1.out);rintro e w' ⟨rfl,⟨nd,rfl⟩⟩;(try first | exact ⟨rfl,_,World.drewN_drewN _ _ _⟩ | exact ⟨rfl,_,Eq.trans (World.drewN_drewN _ _ _) (congrArg (World.drewN _) (Nat.add_assoc _ _ _))⟩))))
 go_loopg [6] k (fun kq v6 w' => ∃ (x6_1 : Int),v6 = .int .i64 x6_1∧Aside0 (estoversref39_Check.l0 kq l0 l1 x6_1 = some r)∧Aside0 (kq≤k)∧Aside0 (Below w.heap.size w w'))
 case atStart => exact ⟨(0),(by first | rfl | (simp;done) | (simp [*];done)),H',⟨Nat.le_refl _⟩,⟨by repeat (first | (with_reducible first | exact HB.out | apply b0_ | apply b1_ | apply b2_) | exact HB.out)⟩⟩
 case round =>
  clear H';obtain ⟨x6_1,rfl,HA,HK1,HB⟩:=hrel
  cases gk with
   | zero => exact absurd HA.out (by simp [estoversref39_Check.l0])
   | succ k1 =>
    have H:=HA.out;clear HA;simp only [estoversref39_Check.l0] at H;by_cases c5 : x6_1 < (l0.length : Int)
    rotate_left
    ·
     rw [if_neg c5] at H;have c5b0 : decide (x6_1 < (l0.length : Int)) = false:=decide_eq_false c5;clear c5;obtain rfl:=Option.some.inj H;go_wp2
     repeat (go_quiet (fail);try go_wp2)
     go_ret;exact ⟨by first | rfl | (simp [errW_none,errW_some] <;> rfl) | (simp [*,errW_none,errW_some] <;> rfl),by repeat (first | (with_reducible first | exact HB.out | apply b0_ | apply b1_ | apply b2_) | exact HB.out)⟩
    rw [if_pos c5] at H;have c5b0 : decide (x6_1 < (l0.length : Int)) = true:=decide_eq_true c5;clear c5;by_cases c6 : 0≤x6_1
    rotate_left
    · rw [if_neg c6] at H;exact absurd H (by simp)
    rw [if_pos c6] at H;have c6b0 : decide (0≤x6_1) = true:=decide_eq_true c6;clear c6;have HC7:=Aside0.mk H;clear H;have p229 : 0≤(x6_1 : Int):=of_decide_eq_true (by first | (with_reducible assumption) | assumption);have q229 : x6_1 < (l0.length : Int):=of_decide_eq_true (by first | (with_reducible assumption) | assumption)
    obtain ⟨ad229,e229,hx229_0,hx229_1,hx229_2,hx229_3,hx229_4,hx229_5,hx229_6⟩:=at_T34 HR0.out x6_1 p229 q229;cases e229;replace hx229_0:=(HB.out.cell (World.block_lt_of_cell? w _ hx229_0)).trans hx229_0;replace hx229_1:=(HB.out.cell (World.block_lt_of_cell? w _ hx229_1)).trans hx229_1;replace hx229_2:=(HB.out.cell (World.block_lt_of_cell? w _ hx229_2)).trans hx229_2
    replace hx229_3:=(HB.out.cell (World.block_lt_of_cell? w _ hx229_3)).trans hx229_3;replace hx229_4:=(HB.out.cell (World.block_lt_of_cell? w _ hx229_4)).trans hx229_4;replace hx229_5:=(HB.out.cell (World.block_lt_of_cell? w _ hx229_5)).trans hx229_5;replace hx229_6:=(HB.out.cell (World.block_lt_of_cell? w _ hx229_6)).trans hx229_6;replace p229:=eq_true p229
    replace q229:=eq_true q229
    go_upto_region 8 with (first | ((with_reducible refine gate_dst (N:=7) rfl ?_);(try (refine gate_guard (by rfl) ?_;dsimp only));refine box_event ?hg (N:=7) ?hd (cs:=#[.int .i64 0,.int .i64 0,.int .i64 0,.int .i64 0,.int .i64 0,.bool false,.bool false]) (t:=34) ?hr ?_;(case hd => rfl);(case hg => rfl);(case hr => first | (go_simp;done) | (go_simp;rfl));intro gb230 hg w8 hbox hb;have n0_:=Aside0.mk (below_step (by repeat (first | (with_reducible first | exact HB.out | apply b0_ | apply b1_ | apply b2_) | exact HB.out)) hb);have n1_:=Aside0.mk (hbox);have n2_:=Aside0.mk ((by rw [hg];exact (below_size (by repeat (first | (with_reducible first | exact HB.out | apply b0_ | apply b1_ | apply b2_) | exact HB.out))) : w.heap.size≤gb230));have n3_:=Aside0.mk ((by rw [hg];exact (below_size (by repeat (first | (with_reducible first | exact HB.out | apply b0_ | apply b1_ | apply b2_) | exact HB.out))) : w.heap.size≤gb230));clear HB;have HB:=n0_;have BK230:=n1_;have GW230:=n2_;have GE230:=n3_;clear n0_ n1_ n2_ n3_;clear hb hbox hg;obtain ⟨hcz9_0,hcz9_1,hcz9_2,hcz9_3,hcz9_4,hcz9_5,hcz9_6,hfz9_0,hfz9_1,hfz9_2,hfz9_3,hfz9_4,hfz9_5,hfz9_6⟩:=q7_ BK230.out))
    repeat (go_quiet (first | ((with_reducible refine gate_dst (N:=7) rfl ?_);(try (refine gate_guard (by rfl) ?_;dsimp only));refine box_event ?hg (N:=7) ?hd (cs:=#[.int .i64 0,.int .i64 0,.int .i64 0,.int .i64 0,.int .i64 0,.bool false,.bool false]) (t:=34) ?hr ?_;(case hd => rfl);(case hg => rfl);(case hr => first | (go_simp;done) | (go_simp;rfl));intro gb230 hg w8 hbox hb;have n0_:=Aside0.mk (below_step (by repeat (first | (with_reducible first | exact HB.out | apply b0_ | apply b1_ | apply b2_) | exact HB.out)) hb);have n1_:=Aside0.mk (hbox);have n2_:=Aside0.mk ((by rw [hg];exact (below_size (by repeat (first | (with_reducible first | exact HB.out | apply b0_ | apply b1_ | apply b2_) | exact HB.out))) : w.heap.size≤gb230));have n3_:=Aside0.mk ((by rw [hg];exact (below_size (by repeat (first | (with_reducible first | exact HB.out | apply b0_ | apply b1_ | apply b2_) | exact HB.out))) : w.heap.size≤gb230));clear HB;have HB:=n0_;have BK230:=n1_;have GW230:=n2_;have GE230:=n3_;clear n0_ n1_ n2_ n3_;clear hb hbox hg;obtain ⟨hcz9_0,hcz9_1,hcz9_2,hcz9_3,hcz9_4,hcz9_5,hcz9_6,hfz9_0,hfz9_1,hfz9_2,hfz9_3,hfz9_4,hfz9_5,hfz9_6⟩:=q7_ BK230.out));go_upto_region 8 with (first | ((with_reducible refine gate_dst (N:=7) rfl ?_);(try (refine gate_guard (by rfl) ?_;dsimp only));refine box_event ?hg (N:=7) ?hd (cs:=#[.int .i64 0,.int .i64 0,.int .i64 0,.int .i64 0,.int .i64 0,.bool false,.bool false]) (t:=34) ?hr ?_;(case hd => rfl);(case hg => rfl);(case hr => first | (go_simp;done) | (go_simp;rfl));intro gb230 hg w8 hbox hb;have n0_:=Aside0.mk (below_step (by repeat (first | (with_reducible first | exact HB.out | apply b0_ | apply b1_ | apply b2_) | exact HB.out)) hb);have n1_:=Aside0.mk (hbox);have n2_:=Aside0.mk ((by rw [hg];exact (below_size (by repeat (first | (with_reducible first | exact HB.out | apply b0_ | apply b1_ | apply b2_) | exact HB.out))) : w.heap.size≤gb230));have n3_:=Aside0.mk ((by rw [hg];exact (below_size (by repeat (first | (with_reducible first | exact HB.out | apply b0_ | apply b1_ | apply b2_) | exact HB.out))) : w.heap.size≤gb230));clear HB;have HB:=n0_;have BK230:=n1_;have GW230:=n2_;have GE230:=n3_;clear n0_ n1_ n2_ n3_;clear hb hbox hg;obtain ⟨hcz9_0,hcz9_1,hcz9_2,hcz9_3,hcz9_4,hcz9_5,hcz9_6,hfz9_0,hfz9_1,hfz9_2,hfz9_3,hfz9_4,hfz9_5,hfz9_6⟩:=q7_ BK230.out)))
    (try simp only [Act.put,List.setIfInBounds_toArray,List.set_cons_zero,List.set_cons_succ])
    go_cut [42] (fun v42 wc => ∃ (kq : Nat) (x42_6 : Bool),v42 = .bool x42_6∧Aside0 (estoversref39_Check.j1 kq l0 l1 x6_1 x42_6 ((rd_T34 l0 x6_1).f0) ((rd_T34 l0 x6_1).f1) ((rd_T34 l0 x6_1).f2) ((rd_T34 l0 x6_1).f3) ((rd_T34 l0 x6_1).f4) ((rd_T34 l0 x6_1).f5) ((rd_T34 l0 x6_1).f6) = some r)∧Aside0 (kq≤k1)∧Aside0 (wc.heap[gb230]? = some (.cells #[.int .i64 ((rd_T34 l0 x6_1).f0),.int .i64 ((rd_T34 l0 x6_1).f1),.int .i64 ((rd_T34 l0 x6_1).f2),.int .i64 ((rd_T34 l0 x6_1).f3),.int .i64 ((rd_T34 l0 x6_1).f4),.bool ((rd_T34 l0 x6_1).f5),.bool ((rd_T34 l0 x6_1).f6)] 34 (0,0)))∧Aside0 (Below w.heap.size w wc))
    case first =>
     have H:=HC7.out;clear HC7;by_cases c10 : ((rd_T34 l0 x6_1).f0) < 0
     rotate_left
     ·
      rw [if_neg c10] at H;have c10b0 : decide (((rd_T34 l0 x6_1).f0) < 0) = false:=decide_eq_false c10;clear c10
      (first | rw [c10b0] | (simp only [i64_w,i32_w];rw [c10b0]) | skip)
      by_cases c12 : ((rd_T34 l0 x6_1).f0)≥256
      rotate_left
      ·
       rw [if_neg c12] at H;have c12b0 : decide (256≤((rd_T34 l0 x6_1).f0)) = false:=decide_eq_false c12;clear c12;by_cases c14 : ((rd_T34 l0 x6_1).f1) < (-1)
       rotate_left
       ·
        rw [if_neg c14] at H;have c14b0 : decide (((rd_T34 l0 x6_1).f1) < (-1)) = false:=decide_eq_false c14;clear c14;have H':=Aside0.mk H;clear H;obtain ⟨hcz16_0,hcz16_1,hcz16_2,hcz16_3,hcz16_4,hcz16_5,hcz16_6,hfz16_0,hfz16_1,hfz16_2,hfz16_3,hfz16_4,hfz16_5,hfz16_6⟩:=q7_ BK230.out;go_wp2
        repeat (go_quiet (fail);try go_wp2)
        go_meet
        case rel => exact ⟨_,(decide (((rd_T34 l0 x6_1).f1)≥(l1.length : Int))),(by first | rfl | (simp;done) | (simp [*];done)),H',⟨by have:=HK1.out;first | omega | exact Nat.le_refl _⟩,⟨by (with_reducible repeat (first | refine blk_drewN ?_ _ | refine blk_drew ?_ | refine blk_alloc ?_ _));refine blk_put (cs:=#[.int .i64 ((rd_T34 l0 x6_1).f0),.int .i64 ((rd_T34 l0 x6_1).f1),.int .i64 ((rd_T34 l0 x6_1).f2),.int .i64 ((rd_T34 l0 x6_1).f3),.int .i64 ((rd_T34 l0 x6_1).f4),.bool ((rd_T34 l0 x6_1).f5),.bool false]) ?_ 6 _ rfl;(with_reducible repeat (first | refine blk_drewN ?_ _ | refine blk_drew ?_ | refine blk_alloc ?_ _));refine blk_put (cs:=#[.int .i64 ((rd_T34 l0 x6_1).f0),.int .i64 ((rd_T34 l0 x6_1).f1),.int .i64 ((rd_T34 l0 x6_1).f2),.int .i64 ((rd_T34 l0 x6_1).f3),.int .i64 ((rd_T34 l0 x6_1).f4),.bool false,.bool false]) ?_ 5 _ rfl;(with_reducible repeat (first | refine blk_drewN ?_ _ | refine blk_drew ?_ | refine blk_alloc ?_ _));refine blk_put (cs:=#[.int .i64 ((rd_T34 l0 x6_1).f0),.int .i64 ((rd_T34 l0 x6_1).f1),.int .i64 ((rd_T34 l0 x6_1).f2),.int .i64 ((rd_T34 l0 x6_1).f3),.int .i64 0,.bool false,.bool false]) ?_ 4 _ rfl;(with_reducible repeat (first | refine blk_drewN ?_ _ | refine blk_drew ?_ | refine blk_alloc ?_ _));refine blk_put (cs:=#[.int .i64 ((rd_T34 l0 x6_1).f0),.int .i64 ((rd_T34 l0 x6_1).f1),.int .i64 ((rd_T34 l0 x6_1).f2),.int .i64 0,.int .i64 0,.bool false,.bool false]) ?_ 3 _ rfl;(with_reducible repeat (first | refine blk_drewN ?_ _ | refine blk_drew ?_ | refine blk_alloc ?_ _));refine blk_put (cs:=#[.int .i64 ((rd_T34 l0 x6_1).f0),.int .i64 ((rd_T34 l0 x6_1).f1),.int .i64 0,.int .i64 0,.int .i64 0,.bool false,.bool false]) ?_ 2 _ rfl;(with_reducible repeat (first | refine blk_drewN ?_ _ | refine blk_drew ?_ | refine blk_alloc ?_ _));refine blk_put (cs:=#[.int .i64 ((rd_T34 l0 x6_1).f0),.int .i64 0,.int .i64 0,.int .i64 0,.int .i64 0,.bool false,.bool false]) ?_ 1 _ rfl;(with_reducible repeat (first | refine blk_drewN ?_ _ | refine blk_drew ?_ | refine blk_alloc ?_ _));refine blk_put (cs:=#[.int .i64 0,.int .i64 0,.int .i64 0,.int .i64 0,.int .i64 0,.bool false,.bool false]) ?_ 0 _ rfl;(with_reducible repeat (first | refine blk_drewN ?_ _ | refine blk_drew ?_ | refine blk_alloc ?_ _));exact BK230.out⟩,⟨by repeat (first | (with_reducible first | exact HB.out | apply b0_ | apply b1_ | apply b2_ | refine below_set ?_ GE230.out) | exact HB.out)⟩⟩
       rw [if_pos c14] at H;have c14b0 : decide (((rd_T34 l0 x6_1).f1) < (-1)) = true:=decide_eq_true c14;clear c14;have H':=Aside0.mk H;clear H;obtain ⟨hcz15_0,hcz15_1,hcz15_2,hcz15_3,hcz15_4,hcz15_5,hcz15_6,hfz15_0,hfz15_1,hfz15_2,hfz15_3,hfz15_4,hfz15_5,hfz15_6⟩:=q7_ BK230.out;go_wp2
       repeat (go_quiet (fail);try go_wp2)
       go_meet
       case rel => exact ⟨_,(true),(by first | rfl | (simp;done) | (simp [*];done)),H',⟨by have:=HK1.out;first | omega | exact Nat.le_refl _⟩,⟨by (with_reducible repeat (first | refine blk_drewN ?_ _ | refine blk_drew ?_ | refine blk_alloc ?_ _));refine blk_put (cs:=#[.int .i64 ((rd_T34 l0 x6_1).f0),.int .i64 ((rd_T34 l0 x6_1).f1),.int .i64 ((rd_T34 l0 x6_1).f2),.int .i64 ((rd_T34 l0 x6_1).f3),.int .i64 ((rd_T34 l0 x6_1).f4),.bool ((rd_T34 l0 x6_1).f5),.bool false]) ?_ 6 _ rfl;(with_reducible repeat (first | refine blk_drewN ?_ _ | refine blk_drew ?_ | refine blk_alloc ?_ _));refine blk_put (cs:=#[.int .i64 ((rd_T34 l0 x6_1).f0),.int .i64 ((rd_T34 l0 x6_1).f1),.int .i64 ((rd_T34 l0 x6_1).f2),.int .i64 ((rd_T34 l0 x6_1).f3),.int .i64 ((rd_T34 l0 x6_1).f4),.bool false,.bool false]) ?_ 5 _ rfl;(with_reducible repeat (first | refine blk_drewN ?_ _ | refine blk_drew ?_ | refine blk_alloc ?_ _));refine blk_put (cs:=#[.int .i64 ((rd_T34 l0 x6_1).f0),.int .i64 ((rd_T34 l0 x6_1).f1),.int .i64 ((rd_T34 l0 x6_1).f2),.int .i64 ((rd_T34 l0 x6_1).f3),.int .i64 0,.bool false,.bool false]) ?_ 4 _ rfl;(with_reducible repeat (first | refine blk_drewN ?_ _ | refine blk_drew ?_ | refine blk_alloc ?_ _));refine blk_put (cs:=#[.int .i64 ((rd_T34 l0 x6_1).f0),.int .i64 ((rd_T34 l0 x6_1).f1),.int .i64 ((rd_T34 l0 x6_1).f2),.int .i64 0,.int .i64 0,.bool false,.bool false]) ?_ 3 _ rfl;(with_reducible repeat (first | refine blk_drewN ?_ _ | refine blk_drew ?_ | refine blk_alloc ?_ _));refine blk_put (cs:=#[.int .i64 ((rd_T34 l0 x6_1).f0),.int .i64 ((rd_T34 l0 x6_1).f1),.int .i64 0,.int .i64 0,.int .i64 0,.bool false,.bool false]) ?_ 2 _ rfl;(with_reducible repeat (first | refine blk_drewN ?_ _ | refine blk_drew ?_ | refine blk_alloc ?_ _));refine blk_put (cs:=#[.int .i64 ((rd_T34 l0 x6_1).f0),.int .i64 0,.int .i64 0,.int .i64 0,.int .i64 0,.bool false,.bool false]) ?_ 1 _ rfl;(with_reducible repeat (first | refine blk_drewN ?_ _ | refine blk_drew ?_ | refine blk_alloc ?_ _));refine blk_put (cs:=#[.int .i64 0,.int .i64 0,.int .i64 0,.int .i64 0,.int .i64 0,.bool false,.bool false]) ?_ 0 _ rfl;(with_reducible repeat (first | refine blk_drewN ?_ _ | refine blk_drew ?_ | refine blk_alloc ?_ _));exact BK230.out⟩,⟨by repeat (first | (with_reducible first | exact HB.out | apply b0_ | apply b1_ | apply b2_ | refine below_set ?_ GE230.out) | exact HB.out)⟩⟩
      rw [if_pos c12] at H;have c12b0 : decide (256≤((rd_T34 l0 x6_1).f0)) = true:=decide_eq_true c12;clear c12;have H':=Aside0.mk H;clear H;obtain ⟨hcz13_0,hcz13_1,hcz13_2,hcz13_3,hcz13_4,hcz13_5,hcz13_6,hfz13_0,hfz13_1,hfz13_2,hfz13_3,hfz13_4,hfz13_5,hfz13_6⟩:=q7_ BK230.out;go_wp2
      repeat (go_quiet (fail);try go_wp2)
      go_meet
      case rel => exact ⟨_,(true),(by first | rfl | (simp;done) | (simp [*];done)),H',⟨by have:=HK1.out;first | omega | exact Nat.le_refl _⟩,⟨by (with_reducible repeat (first | refine blk_drewN ?_ _ | refine blk_drew ?_ | refine blk_alloc ?_ _));refine blk_put (cs:=#[.int .i64 ((rd_T34 l0 x6_1).f0),.int .i64 ((rd_T34 l0 x6_1).f1),.int .i64 ((rd_T34 l0 x6_1).f2),.int .i64 ((rd_T34 l0 x6_1).f3),.int .i64 ((rd_T34 l0 x6_1).f4),.bool ((rd_T34 l0 x6_1).f5),.bool false]) ?_ 6 _ rfl;(with_reducible repeat (first | refine blk_drewN ?_ _ | refine blk_drew ?_ | refine blk_alloc ?_ _));refine blk_put (cs:=#[.int .i64 ((rd_T34 l0 x6_1).f0),.int .i64 ((rd_T34 l0 x6_1).f1),.int .i64 ((rd_T34 l0 x6_1).f2),.int .i64 ((rd_T34 l0 x6_1).f3),.int .i64 ((rd_T34 l0 x6_1).f4),.bool false,.bool false]) ?_ 5 _ rfl;(with_reducible repeat (first | refine blk_drewN ?_ _ | refine blk_drew ?_ | refine blk_alloc ?_ _));refine blk_put (cs:=#[.int .i64 ((rd_T34 l0 x6_1).f0),.int .i64 ((rd_T34 l0 x6_1).f1),.int .i64 ((rd_T34 l0 x6_1).f2),.int .i64 ((rd_T34 l0 x6_1).f3),.int .i64 0,.bool false,.bool false]) ?_ 4 _ rfl;(with_reducible repeat (first | refine blk_drewN ?_ _ | refine blk_drew ?_ | refine blk_alloc ?_ _));refine blk_put (cs:=#[.int .i64 ((rd_T34 l0 x6_1).f0),.int .i64 ((rd_T34 l0 x6_1).f1),.int .i64 ((rd_T34 l0 x6_1).f2),.int .i64 0,.int .i64 0,.bool false,.bool false]) ?_ 3 _ rfl;(with_reducible repeat (first | refine blk_drewN ?_ _ | refine blk_drew ?_ | refine blk_alloc ?_ _));refine blk_put (cs:=#[.int .i64 ((rd_T34 l0 x6_1).f0),.int .i64 ((rd_T34 l0 x6_1).f1),.int .i64 0,.int .i64 0,.int .i64 0,.bool false,.bool false]) ?_ 2 _ rfl;(with_reducible repeat (first | refine blk_drewN ?_ _ | refine blk_drew ?_ | refine blk_alloc ?_ _));refine blk_put (cs:=#[.int .i64 ((rd_T34 l0 x6_1).f0),.int .i64 0,.int .i64 0,.int .i64 0,.int .i64 0,.bool false,.bool false]) ?_ 1 _ rfl;(with_reducible repeat (first | refine blk_drewN ?_ _ | refine blk_drew ?_ | refine blk_alloc ?_ _));refine blk_put (cs:=#[.int .i64 0,.int .i64 0,.int .i64 0,.int .i64 0,.int .i64 0,.bool false,.bool false]) ?_ 0 _ rfl;(with_reducible repeat (first | refine blk_drewN ?_ _ | refine blk_drew ?_ | refine blk_alloc ?_ _));exact BK230.out⟩,⟨by repeat (first | (with_reducible first | exact HB.out | apply b0_ | apply b1_ | apply b2_ | refine below_set ?_ GE230.out) | exact HB.out)⟩⟩
     rw [if_pos c10] at H;have c10b0 : decide (((rd_T34 l0 x6_1).f0) < 0) = true:=decide_eq_true c10;clear c10
     (first | rw [c10b0] | (simp only [i64_w,i32_w];rw [c10b0]) | skip)
     have H':=Aside0.mk H;clear H;obtain ⟨hcz11_0,hcz11_1,hcz11_2,hcz11_3,hcz11_4,hcz11_5,hcz11_6,hfz11_0,hfz11_1,hfz11_2,hfz11_3,hfz11_4,hfz11_5,hfz11_6⟩:=q7_ BK230.out;go_wp2
     repeat (go_quiet (fail);try go_wp2)
     go_meet
     case rel => exact ⟨_,(true),(by first | rfl | (simp;done) | (simp [*];done)),H',⟨by have:=HK1.out;first | omega | exact Nat.le_refl _⟩,⟨by (with_reducible repeat (first | refine blk_drewN ?_ _ | refine blk_drew ?_ | refine blk_alloc ?_ _));refine blk_put (cs:=#[.int .i64 ((rd_T34 l0 x6_1).f0),.int .i64 ((rd_T34 l0 x6_1).f1),.int .i64 ((rd_T34 l0 x6_1).f2),.int .i64 ((rd_T34 l0 x6_1).f3),.int .i64 ((rd_T34 l0 x6_1).f4),.bool ((rd_T34 l0 x6_1).f5),.bool false]) ?_ 6 _ rfl;(with_reducible repeat (first | refine blk_drewN ?_ _ | refine blk_drew ?_ | refine blk_alloc ?_ _));refine blk_put (cs:=#[.int .i64 ((rd_T34 l0 x6_1).f0),.int .i64 ((rd_T34 l0 x6_1).f1),.int .i64 ((rd_T34 l0 x6_1).f2),.int .i64 ((rd_T34 l0 x6_1).f3),.int .i64 ((rd_T34 l0 x6_1).f4),.bool false,.bool false]) ?_ 5 _ rfl;(with_reducible repeat (first | refine blk_drewN ?_ _ | refine blk_drew ?_ | refine blk_alloc ?_ _));refine blk_put (cs:=#[.int .i64 ((rd_T34 l0 x6_1).f0),.int .i64 ((rd_T34 l0 x6_1).f1),.int .i64 ((rd_T34 l0 x6_1).f2),.int .i64 ((rd_T34 l0 x6_1).f3),.int .i64 0,.bool false,.bool false]) ?_ 4 _ rfl;(with_reducible repeat (first | refine blk_drewN ?_ _ | refine blk_drew ?_ | refine blk_alloc ?_ _));refine blk_put (cs:=#[.int .i64 ((rd_T34 l0 x6_1).f0),.int .i64 ((rd_T34 l0 x6_1).f1),.int .i64 ((rd_T34 l0 x6_1).f2),.int .i64 0,.int .i64 0,.bool false,.bool false]) ?_ 3 _ rfl;(with_reducible repeat (first | refine blk_drewN ?_ _ | refine blk_drew ?_ | refine blk_alloc ?_ _));refine blk_put (cs:=#[.int .i64 ((rd_T34 l0 x6_1).f0),.int .i64 ((rd_T34 l0 x6_1).f1),.int .i64 0,.int .i64 0,.int .i64 0,.bool false,.bool false]) ?_ 2 _ rfl;(with_reducible repeat (first | refine blk_drewN ?_ _ | refine blk_drew ?_ | refine blk_alloc ?_ _));refine blk_put (cs:=#[.int .i64 ((rd_T34 l0 x6_1).f0),.int .i64 0,.int .i64 0,.int .i64 0,.int .i64 0,.bool false,.bool false]) ?_ 1 _ rfl;(with_reducible repeat (first | refine blk_drewN ?_ _ | refine blk_drew ?_ | refine blk_alloc ?_ _));refine blk_put (cs:=#[.int .i64 0,.int .i64 0,.int .i64 0,.int .i64 0,.int .i64 0,.bool false,.bool false]) ?_ 0 _ rfl;(with_reducible repeat (first | refine blk_drewN ?_ _ | refine blk_drew ?_ | refine blk_alloc ?_ _));exact BK230.out⟩,⟨by repeat (first | (with_reducible first | exact HB.out | apply b0_ | apply b1_ | apply b2_ | refine below_set ?_ GE230.out) | exact HB.out)⟩⟩
    case rest =>
     clear HC7;obtain ⟨kq,x42_6,rfl,HA,HJ6,BK230,HB⟩:=hcut
     cases kq with
      | zero => exact absurd HA.out (by simp [estoversref39_Check.j1])
      | succ kj6 =>
       have H:=HA.out;clear HA;simp only [estoversref39_Check.j1] at H;by_cases c17 : x42_6 = true
       rotate_left
       ·
        replace c17:=Bool.eq_false_iff.mpr c17;subst c17
        have H1 : (if x6_1 > 0 then (if 0≤(wrap64 (x6_1 - 1)) then (if (wrap64 (x6_1 - 1)) < (l0.length : Int) then (estoversref39_Check.j2 kj6 l0 l1 x6_1 (decide (((rd_T34 l0 x6_1).f0)≤((rd_T34 l0 (wrap64 (x6_1 - 1))).f0))) ((rd_T34 l0 x6_1).f0) ((rd_T34 l0 x6_1).f1) ((rd_T34 l0 x6_1).f2) ((rd_T34 l0 x6_1).f3) ((rd_T34 l0 x6_1).f4) ((rd_T34 l0 x6_1).f5) ((rd_T34 l0 x6_1).f6)) else (none)) else (none)) else (estoversref39_Check.j2 kj6 l0 l1 x6_1 false ((rd_T34 l0 x6_1).f0) ((rd_T34 l0 x6_1).f1) ((rd_T34 l0 x6_1).f2) ((rd_T34 l0 x6_1).f3) ((rd_T34 l0 x6_1).f4) ((rd_T34 l0 x6_1).f5) ((rd_T34 l0 x6_1).f6))) = some r:=by rw [if_neg (show ¬ (false = true) by decide)] at H;exact H
        clear H;have H:=H1;clear H1;have HC18:=Aside0.mk H;clear H
        go_upto_region 10 with (fail)
        repeat (go_quiet (fail);go_upto_region 10 with (fail))
        go_cut [55] (fun v55 wc => ∃ (kq : Nat) (x55_17 : Bool),v55 = .bool x55_17∧Aside0 (estoversref39_Check.j2 kq l0 l1 x6_1 x55_17 ((rd_T34 l0 x6_1).f0) ((rd_T34 l0 x6_1).f1) ((rd_T34 l0 x6_1).f2) ((rd_T34 l0 x6_1).f3) ((rd_T34 l0 x6_1).f4) ((rd_T34 l0 x6_1).f5) ((rd_T34 l0 x6_1).f6) = some r)∧Aside0 (kq≤kj6)∧Aside0 (wc.heap[gb230]? = some (.cells #[.int .i64 ((rd_T34 l0 x6_1).f0),.int .i64 ((rd_T34 l0 x6_1).f1),.int .i64 ((rd_T34 l0 x6_1).f2),.int .i64 ((rd_T34 l0 x6_1).f3),.int .i64 ((rd_T34 l0 x6_1).f4),.bool ((rd_T34 l0 x6_1).f5),.bool ((rd_T34 l0 x6_1).f6)] 34 (0,0)))∧Aside0 (Below w.heap.size w wc))
        case first =>
         have H:=HC18.out;clear HC18;by_cases c19 : x6_1 > 0
         rotate_left
         ·
          rw [if_neg c19] at H;have c19b0 : decide (0 < x6_1) = false:=decide_eq_false c19;clear c19
          (first | rw [c19b0] | (simp only [i64_w,i32_w];rw [c19b0]) | skip)
          have H':=Aside0.mk H;clear H;go_wp2
          repeat (go_quiet (fail);try go_wp2)
          go_meet
          case rel => exact ⟨_,(false),(by first | rfl | (simp;done) | (simp [*];done)),H',⟨by have:=HK1.out;have:=HJ6.out;first | omega | exact Nat.le_refl _⟩,⟨by (with_reducible repeat (first | refine blk_drewN ?_ _ | refine blk_drew ?_ | refine blk_alloc ?_ _));exact BK230.out⟩,⟨by repeat (first | (with_reducible first | exact HB.out | apply b0_ | apply b1_ | apply b2_ | refine below_set ?_ GE230.out) | exact HB.out)⟩⟩
         rw [if_pos c19] at H;have c19b0 : decide (0 < x6_1) = true:=decide_eq_true c19;clear c19
         (first | rw [c19b0] | (simp only [i64_w,i32_w];rw [c19b0]) | skip)
         obtain ⟨ji20,hji20⟩ : ∃ j_ : Int,(wrap64 (x6_1 - 1)) = j_:=⟨_,rfl⟩
         replace H : (if 0≤(ji20) then (if (ji20) < (l0.length : Int) then (estoversref39_Check.j2 kj6 l0 l1 x6_1 (decide (((rd_T34 l0 x6_1).f0)≤((rd_T34 l0 (ji20)).f0))) ((rd_T34 l0 x6_1).f0) ((rd_T34 l0 x6_1).f1) ((rd_T34 l0 x6_1).f2) ((rd_T34 l0 x6_1).f3) ((rd_T34 l0 x6_1).f4) ((rd_T34 l0 x6_1).f5) ((rd_T34 l0 x6_1).f6)) else (none)) else (none)) = some r:=by first | (rw [hji20] at H;exact H) | (simp only [hji20] at H ⊢;exact H)
         have hji20w : (IntKind.i64.wrap (x6_1 - 1)) = ji20:=(i64_w _).trans hji20;by_cases c21 : 0≤(ji20)
         rotate_left
         · rw [if_neg c21] at H;exact absurd H (by simp)
         rw [if_pos c21] at H;have c21b0 : decide (0≤(ji20)) = true:=decide_eq_true c21;clear c21;by_cases c22 : (ji20) < (l0.length : Int)
         rotate_left
         · rw [if_neg c22] at H;exact absurd H (by simp)
         rw [if_pos c22] at H;have c22b0 : decide ((ji20) < (l0.length : Int)) = true:=decide_eq_true c22;clear c22;have H':=Aside0.mk H;clear H;obtain ⟨hcz23_0,hcz23_1,hcz23_2,hcz23_3,hcz23_4,hcz23_5,hcz23_6,hfz23_0,hfz23_1,hfz23_2,hfz23_3,hfz23_4,hfz23_5,hfz23_6⟩:=q7_ BK230.out;have p231 : 0≤((ji20) : Int):=of_decide_eq_true (by first | (with_reducible assumption) | assumption);have q231 : (ji20) < (l0.length : Int):=of_decide_eq_true (by first | (with_reducible assumption) | assumption)
         obtain ⟨ad231,e231,hx231_0,hx231_1,hx231_2,hx231_3,hx231_4,hx231_5,hx231_6⟩:=at_T34 HR0.out (ji20) p231 q231;obtain rfl : ad229 = ad231:=(by injection e231);replace hx231_0:=(HB.out.cell (World.block_lt_of_cell? w _ hx231_0)).trans hx231_0;replace hx231_1:=(HB.out.cell (World.block_lt_of_cell? w _ hx231_1)).trans hx231_1
         replace hx231_2:=(HB.out.cell (World.block_lt_of_cell? w _ hx231_2)).trans hx231_2;replace hx231_3:=(HB.out.cell (World.block_lt_of_cell? w _ hx231_3)).trans hx231_3;replace hx231_4:=(HB.out.cell (World.block_lt_of_cell? w _ hx231_4)).trans hx231_4;replace hx231_5:=(HB.out.cell (World.block_lt_of_cell? w _ hx231_5)).trans hx231_5
         replace hx231_6:=(HB.out.cell (World.block_lt_of_cell? w _ hx231_6)).trans hx231_6;replace p231:=eq_true p231;replace q231:=eq_true q231;go_wp2
         repeat (go_quiet (fail);try go_wp2)
         go_meet
         case rel => exact ⟨_,(decide (((rd_T34 l0 x6_1).f0)≤((rd_T34 l0 (ji20)).f0))),(by first | rfl | (simp;done) | (simp only [← hji20] <;> (first | rfl | simp)) | (simp [*];done)),H',⟨by have:=HK1.out;have:=HJ6.out;first | omega | exact Nat.le_refl _⟩,⟨by (with_reducible repeat (first | refine blk_drewN ?_ _ | refine blk_drew ?_ | refine blk_alloc ?_ _));exact BK230.out⟩,⟨by repeat (first | (with_reducible first | exact HB.out | apply b0_ | apply b1_ | apply b2_ | refine below_set ?_ GE230.out) | exact HB.out)⟩⟩
        case rest =>
         clear HC18;obtain ⟨kq,x55_17,rfl,HA,HJ17,BK230,HB⟩:=hcut
         cases kq with
          | zero => exact absurd HA.out (by simp [estoversref39_Check.j2])
          | succ kj17 =>
           have H:=HA.out;clear HA;simp only [estoversref39_Check.j2] at H;by_cases c24 : x55_17 = true
           rotate_left
           ·
            replace c24:=Bool.eq_false_iff.mpr c24;subst c24
            have H1 : (if ((rd_T34 l0 x6_1).f3) < 0 then (estoversref39_Check.j3 kj17 l0 l1 x6_1 true ((rd_T34 l0 x6_1).f0) ((rd_T34 l0 x6_1).f1) ((rd_T34 l0 x6_1).f2) ((rd_T34 l0 x6_1).f3) ((rd_T34 l0 x6_1).f4) ((rd_T34 l0 x6_1).f5) ((rd_T34 l0 x6_1).f6)) else (if ((rd_T34 l0 x6_1).f3) > 10 then (estoversref39_Check.j3 kj17 l0 l1 x6_1 true ((rd_T34 l0 x6_1).f0) ((rd_T34 l0 x6_1).f1) ((rd_T34 l0 x6_1).f2) ((rd_T34 l0 x6_1).f3) ((rd_T34 l0 x6_1).f4) ((rd_T34 l0 x6_1).f5) ((rd_T34 l0 x6_1).f6)) else (if ((rd_T34 l0 x6_1).f2) < (-1) then (estoversref39_Check.j3 kj17 l0 l1 x6_1 true ((rd_T34 l0 x6_1).f0) ((rd_T34 l0 x6_1).f1) ((rd_T34 l0 x6_1).f2) ((rd_T34 l0 x6_1).f3) ((rd_T34 l0 x6_1).f4) ((rd_T34 l0 x6_1).f5) ((rd_T34 l0 x6_1).f6)) else (estoversref39_Check.j3 kj17 l0 l1 x6_1 (decide (((rd_T34 l0 x6_1).f4) < (-1))) ((rd_T34 l0 x6_1).f0) ((rd_T34 l0 x6_1).f1) ((rd_T34 l0 x6_1).f2) ((rd_T34 l0 x6_1).f3) ((rd_T34 l0 x6_1).f4) ((rd_T34 l0 x6_1).f5) ((rd_T34 l0 x6_1).f6))))) = some r:=by rw [if_neg (show ¬ (false = true) by decide)] at H;exact H
            clear H;have H:=H1;clear H1;have HC25:=Aside0.mk H;clear H
            go_upto_region 12 with (fail)
            repeat (go_quiet (fail);go_upto_region 12 with (fail))
            go_cut [73] (fun v73 wc => ∃ (kq : Nat) (x73_24 : Bool),v73 = .bool x73_24∧Aside0 (estoversref39_Check.j3 kq l0 l1 x6_1 x73_24 ((rd_T34 l0 x6_1).f0) ((rd_T34 l0 x6_1).f1) ((rd_T34 l0 x6_1).f2) ((rd_T34 l0 x6_1).f3) ((rd_T34 l0 x6_1).f4) ((rd_T34 l0 x6_1).f5) ((rd_T34 l0 x6_1).f6) = some r)∧Aside0 (kq≤kj17)∧Aside0 (wc.heap[gb230]? = some (.cells #[.int .i64 ((rd_T34 l0 x6_1).f0),.int .i64 ((rd_T34 l0 x6_1).f1),.int .i64 ((rd_T34 l0 x6_1).f2),.int .i64 ((rd_T34 l0 x6_1).f3),.int .i64 ((rd_T34 l0 x6_1).f4),.bool ((rd_T34 l0 x6_1).f5),.bool ((rd_T34 l0 x6_1).f6)] 34 (0,0)))∧Aside0 (Below w.heap.size w wc))
            case first =>
             have H:=HC25.out;clear HC25;by_cases c26 : ((rd_T34 l0 x6_1).f3) < 0
             rotate_left
             ·
              rw [if_neg c26] at H;have c26b0 : decide (((rd_T34 l0 x6_1).f3) < 0) = false:=decide_eq_false c26;clear c26
              (first | rw [c26b0] | (simp only [i64_w,i32_w];rw [c26b0]) | skip)
              by_cases c28 : ((rd_T34 l0 x6_1).f3) > 10
              rotate_left
              ·
               rw [if_neg c28] at H;have c28b0 : decide (10 < ((rd_T34 l0 x6_1).f3)) = false:=decide_eq_false c28;clear c28;by_cases c30 : ((rd_T34 l0 x6_1).f2) < (-1)
               rotate_left
               ·
                rw [if_neg c30] at H;have c30b0 : decide (((rd_T34 l0 x6_1).f2) < (-1)) = false:=decide_eq_false c30;clear c30;have H':=Aside0.mk H;clear H;obtain ⟨hcz32_0,hcz32_1,hcz32_2,hcz32_3,hcz32_4,hcz32_5,hcz32_6,hfz32_0,hfz32_1,hfz32_2,hfz32_3,hfz32_4,hfz32_5,hfz32_6⟩:=q7_ BK230.out;go_wp2
                repeat (go_quiet (fail);try go_wp2)
                go_meet
                case rel => exact ⟨_,(decide (((rd_T34 l0 x6_1).f4) < (-1))),(by first | rfl | (simp;done) | (simp [*];done)),H',⟨by have:=HK1.out;have:=HJ6.out;have:=HJ17.out;first | omega | exact Nat.le_refl _⟩,⟨by (with_reducible repeat (first | refine blk_drewN ?_ _ | refine blk_drew ?_ | refine blk_alloc ?_ _));exact BK230.out⟩,⟨by repeat (first | (with_reducible first | exact HB.out | apply b0_ | apply b1_ | apply b2_ | refine below_set ?_ GE230.out) | exact HB.out)⟩⟩
               rw [if_pos c30] at H;have c30b0 : decide (((rd_T34 l0 x6_1).f2) < (-1)) = true:=decide_eq_true c30;clear c30;have H':=Aside0.mk H;clear H;obtain ⟨hcz31_0,hcz31_1,hcz31_2,hcz31_3,hcz31_4,hcz31_5,hcz31_6,hfz31_0,hfz31_1,hfz31_2,hfz31_3,hfz31_4,hfz31_5,hfz31_6⟩:=q7_ BK230.out;go_wp2
               repeat (go_quiet (fail);try go_wp2)
               go_meet
               case rel => exact ⟨_,(true),(by first | rfl | (simp;done) | (simp [*];done)),H',⟨by have:=HK1.out;have:=HJ6.out;have:=HJ17.out;first | omega | exact Nat.le_refl _⟩,⟨by (with_reducible repeat (first | refine blk_drewN ?_ _ | refine blk_drew ?_ | refine blk_alloc ?_ _));exact BK230.out⟩,⟨by repeat (first | (with_reducible first | exact HB.out | apply b0_ | apply b1_ | apply b2_ | refine below_set ?_ GE230.out) | exact HB.out)⟩⟩
              rw [if_pos c28] at H;have c28b0 : decide (10 < ((rd_T34 l0 x6_1).f3)) = true:=decide_eq_true c28;clear c28;have H':=Aside0.mk H;clear H;obtain ⟨hcz29_0,hcz29_1,hcz29_2,hcz29_3,hcz29_4,hcz29_5,hcz29_6,hfz29_0,hfz29_1,hfz29_2,hfz29_3,hfz29_4,hfz29_5,hfz29_6⟩:=q7_ BK230.out;go_wp2
              repeat (go_quiet (fail);try go_wp2)
              go_meet
              case rel => exact ⟨_,(true),(by first | rfl | (simp;done) | (simp [*];done)),H',⟨by have:=HK1.out;have:=HJ6.out;have:=HJ17.out;first | omega | exact Nat.le_refl _⟩,⟨by (with_reducible repeat (first | refine blk_drewN ?_ _ | refine blk_drew ?_ | refine blk_alloc ?_ _));exact BK230.out⟩,⟨by repeat (first | (with_reducible first | exact HB.out | apply b0_ | apply b1_ | apply b2_ | refine below_set ?_ GE230.out) | exact HB.out)⟩⟩
             rw [if_pos c26] at H;have c26b0 : decide (((rd_T34 l0 x6_1).f3) < 0) = true:=decide_eq_true c26;clear c26
             (first | rw [c26b0] | (simp only [i64_w,i32_w];rw [c26b0]) | skip)
             have H':=Aside0.mk H;clear H;obtain ⟨hcz27_0,hcz27_1,hcz27_2,hcz27_3,hcz27_4,hcz27_5,hcz27_6,hfz27_0,hfz27_1,hfz27_2,hfz27_3,hfz27_4,hfz27_5,hfz27_6⟩:=q7_ BK230.out;go_wp2
             repeat (go_quiet (fail);try go_wp2)
             go_meet
             case rel => exact ⟨_,(true),(by first | rfl | (simp;done) | (simp [*];done)),H',⟨by have:=HK1.out;have:=HJ6.out;have:=HJ17.out;first | omega | exact Nat.le_refl _⟩,⟨by (with_reducible repeat (first | refine blk_drewN ?_ _ | refine blk_drew ?_ | refine blk_alloc ?_ _));exact BK230.out⟩,⟨by repeat (first | (with_reducible first | exact HB.out | apply b0_ | apply b1_ | apply b2_ | refine below_set ?_ GE230.out) | exact HB.out)⟩⟩
            case rest =>
             clear HC25;obtain ⟨kq,x73_24,rfl,HA,HJ24,BK230,HB⟩:=hcut
             cases kq with
              | zero => exact absurd HA.out (by simp [estoversref39_Check.j3])
              | succ kj24 =>
               have H:=HA.out;clear HA;simp only [estoversref39_Check.j3] at H;by_cases c33 : x73_24 = true
               rotate_left
               ·
                replace c33:=Bool.eq_false_iff.mpr c33;subst c33
                have H1 : (if ((rd_T34 l0 x6_1).f3) = 0 then (if ((rd_T34 l0 x6_1).f6) = true then (estoversref39_Check.j4 kj24 l0 l1 x6_1 false) else (estoversref39_Check.j4 kj24 l0 l1 x6_1 (((rd_T34 l0 x6_1).f2) == (-1)))) else (estoversref39_Check.j4 kj24 l0 l1 x6_1 false)) = some r:=by rw [if_neg (show ¬ (false = true) by decide)] at H;exact H
                clear H;have H:=H1;clear H1;have HC34:=Aside0.mk H;clear H
                go_upto_region 14 with (fail)
                repeat (go_quiet (fail);go_upto_region 14 with (fail))
                go_cut [86] (fun v86 wc => ∃ (kq : Nat) (x86_33 : Bool),v86 = .bool x86_33∧Aside0 (estoversref39_Check.j4 kq l0 l1 x6_1 x86_33 = some r)∧Aside0 (kq≤kj24)∧Aside0 (wc.heap[gb230]? = some (.cells #[.int .i64 ((rd_T34 l0 x6_1).f0),.int .i64 ((rd_T34 l0 x6_1).f1),.int .i64 ((rd_T34 l0 x6_1).f2),.int .i64 ((rd_T34 l0 x6_1).f3),.int .i64 ((rd_T34 l0 x6_1).f4),.bool ((rd_T34 l0 x6_1).f5),.bool ((rd_T34 l0 x6_1).f6)] 34 (0,0)))∧Aside0 (Below w.heap.size w wc))
                case first =>
                 have H:=HC34.out;clear HC34;by_cases c35 : ((rd_T34 l0 x6_1).f3) = 0
                 rotate_left
                 ·
                  rw [if_neg c35] at H;have c35b0 : (((rd_T34 l0 x6_1).f3) == 0) = false:=beq_eq_false_iff_ne.mpr c35;have c35b1 : (((rd_T34 l0 x6_1).f3) != 0) = true:=bne_iff_ne.mpr c35
                  (first | rw [c35b0] | (simp only [i64_w,i32_w];rw [c35b0]) | skip)
                  have H':=Aside0.mk H;clear H;obtain ⟨hcz39_0,hcz39_1,hcz39_2,hcz39_3,hcz39_4,hcz39_5,hcz39_6,hfz39_0,hfz39_1,hfz39_2,hfz39_3,hfz39_4,hfz39_5,hfz39_6⟩:=q7_ BK230.out;go_wp2
                  repeat (go_quiet (fail);try go_wp2)
                  go_meet
                  case rel => exact ⟨_,(false),(by first | rfl | (simp;done) | (simp [*];done)),H',⟨by have:=HK1.out;have:=HJ6.out;have:=HJ17.out;have:=HJ24.out;first | omega | exact Nat.le_refl _⟩,⟨by (with_reducible repeat (first | refine blk_drewN ?_ _ | refine blk_drew ?_ | refine blk_alloc ?_ _));exact BK230.out⟩,⟨by repeat (first | (with_reducible first | exact HB.out | apply b0_ | apply b1_ | apply b2_ | refine below_set ?_ GE230.out) | exact HB.out)⟩⟩
                 rw [if_pos c35] at H;have c35b0 : (((rd_T34 l0 x6_1).f3) == 0) = true:=beq_iff_eq.mpr c35;have c35b1 : (((rd_T34 l0 x6_1).f3) != 0) = false:=bne_eq_false_iff_eq.mpr c35;clear c35
                 (first | rw [c35b0] | (simp only [i64_w,i32_w];rw [c35b0]) | skip)
                 by_cases c36 : ((rd_T34 l0 x6_1).f6) = true
                 rotate_left
                 ·
                  rw [if_neg c36] at H
                  have c36b0 : ((rd_T34 l0 x6_1).f6) = false:=by simpa using c36
                  clear c36;have H':=Aside0.mk H;clear H;obtain ⟨hcz38_0,hcz38_1,hcz38_2,hcz38_3,hcz38_4,hcz38_5,hcz38_6,hfz38_0,hfz38_1,hfz38_2,hfz38_3,hfz38_4,hfz38_5,hfz38_6⟩:=q7_ BK230.out;go_wp2
                  repeat (go_quiet (fail);try go_wp2)
                  go_meet
                  case rel => exact ⟨_,((((rd_T34 l0 x6_1).f2) == (-1))),(by first | rfl | (simp;done) | (simp [*];done)),H',⟨by have:=HK1.out;have:=HJ6.out;have:=HJ17.out;have:=HJ24.out;first | omega | exact Nat.le_refl _⟩,⟨by (with_reducible repeat (first | refine blk_drewN ?_ _ | refine blk_drew ?_ | refine blk_alloc ?_ _));exact BK230.out⟩,⟨by repeat (first | (with_reducible first | exact HB.out | apply b0_ | apply b1_ | apply b2_ | refine below_set ?_ GE230.out) | exact HB.out)⟩⟩
                 rw [if_pos c36] at H;have c36b0 : ((rd_T34 l0 x6_1).f6) = true:=c36;clear c36;have H':=Aside0.mk H;clear H;obtain ⟨hcz37_0,hcz37_1,hcz37_2,hcz37_3,hcz37_4,hcz37_5,hcz37_6,hfz37_0,hfz37_1,hfz37_2,hfz37_3,hfz37_4,hfz37_5,hfz37_6⟩:=q7_ BK230.out;go_wp2
                 repeat (go_quiet (fail);try go_wp2)
                 go_meet
                 case rel => exact ⟨_,(false),(by first | rfl | (simp;done) | (simp [*];done)),H',⟨by have:=HK1.out;have:=HJ6.out;have:=HJ17.out;have:=HJ24.out;first | omega | exact Nat.le_refl _⟩,⟨by (with_reducible repeat (first | refine blk_drewN ?_ _ | refine blk_drew ?_ | refine blk_alloc ?_ _));exact BK230.out⟩,⟨by repeat (first | (with_reducible first | exact HB.out | apply b0_ | apply b1_ | apply b2_ | refine below_set ?_ GE230.out) | exact HB.out)⟩⟩
                case rest =>
                 clear HC34;obtain ⟨kq,x86_33,rfl,HA,HJ33,BK230,HB⟩:=hcut
                 cases kq with
                  | zero => exact absurd HA.out (by simp [estoversref39_Check.j4])
                  | succ kj33 =>
                   have H:=HA.out;clear HA;simp only [estoversref39_Check.j4] at H;by_cases c40 : x86_33 = true
                   rotate_left
                   ·
                    replace c40:=Bool.eq_false_iff.mpr c40;subst c40
                    have H1 : (estoversref39_Check.l0 kj33 l0 l1 (wrap64 (x6_1 + 1))) = some r:=by rw [if_neg (show ¬ (false = true) by decide)] at H;exact H
                    clear H;have H:=H1;clear H1;have H':=Aside0.mk H;clear H;go_wp2
                    repeat (go_quiet (fail);try go_wp2)
                    go_roundg kj33
                    case measure => have:=HK1.out;have:=HJ6.out;have:=HJ17.out;have:=HJ24.out;have:=HJ33.out;omega
                    case rel => exact ⟨(wrap64 (x6_1 + 1)),(by first | rfl | (simp;done) | (simp [*];done)),H',⟨by have:=HK1.out;have:=HJ6.out;have:=HJ17.out;have:=HJ24.out;have:=HJ33.out;omega⟩,⟨by repeat (first | (with_reducible first | exact HB.out | apply b0_ | apply b1_ | apply b2_ | refine below_set ?_ GE230.out) | exact HB.out)⟩⟩
                   subst c40
                   have H1 : (some 3) = some r:=by rw [if_pos rfl] at H;exact H
                   clear H;have H:=H1;clear H1;obtain rfl:=Option.some.inj H;go_wp2
                   repeat (go_quiet (fail);try go_wp2)
                   go_ret;exact ⟨by first | rfl | (simp [errW_none,errW_some] <;> rfl) | (simp [*,errW_none,errW_some] <;> rfl),by repeat (first | (with_reducible first | exact HB.out | apply b0_ | apply b1_ | apply b2_ | refine below_set ?_ GE230.out) | exact HB.out)⟩
               subst c33
               have H1 : (some 1) = some r:=by rw [if_pos rfl] at H;exact H
               clear H;have H:=H1;clear H1;obtain rfl:=Option.some.inj H;go_wp2
               repeat (go_quiet (fail);try go_wp2)
               go_ret;exact ⟨by first | rfl | (simp [errW_none,errW_some] <;> rfl) | (simp [*,errW_none,errW_some] <;> rfl),by repeat (first | (with_reducible first | exact HB.out | apply b0_ | apply b1_ | apply b2_ | refine below_set ?_ GE230.out) | exact HB.out)⟩
           subst c24
           have H1 : (some 10) = some r:=by rw [if_pos rfl] at H;exact H
           clear H;have H:=H1;clear H1;obtain rfl:=Option.some.inj H;go_wp2
           repeat (go_quiet (fail);try go_wp2)
           go_ret;exact ⟨by first | rfl | (simp [errW_none,errW_some] <;> rfl) | (simp [*,errW_none,errW_some] <;> rfl),by repeat (first | (with_reducible first | exact HB.out | apply b0_ | apply b1_ | apply b2_ | refine below_set ?_ GE230.out) | exact HB.out)⟩
       subst c17
       have H1 : (some 2) = some r:=by rw [if_pos rfl] at H;exact H
       clear H;have H:=H1;clear H1;obtain rfl:=Option.some.inj H;go_wp2
       repeat (go_quiet (fail);try go_wp2)
       go_ret;exact ⟨by first | rfl | (simp [errW_none,errW_some] <;> rfl) | (simp [*,errW_none,errW_some] <;> rfl),by repeat (first | (with_reducible first | exact HB.out | apply b0_ | apply b1_ | apply b2_ | refine below_set ?_ GE230.out) | exact HB.out)⟩
end Go.Proofs.Ytnmenfkmndnoaaa.Pr
