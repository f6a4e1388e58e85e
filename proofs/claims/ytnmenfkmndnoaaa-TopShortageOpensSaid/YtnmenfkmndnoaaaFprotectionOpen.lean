-- Written by a program of this session (a changed copy of the kit's printer). Not trusted: Lean checks it.
import Derived.Test.YtnmenfkmndnoaaaM0
import Derived.Test.YtnmenfkmndnoaaaFaccountsOwn
import Derived.Test.YtnmenfkmndnoaaaM1
import Derived.Test.YtnmenfkmndnoaaaM2
namespace Go.Proofs.Ytnmenfkmndnoaaa.Pr
open Go.RowKit Go.Proofs.YtnmenfkmndnoaaaW.PrintWords Go.Proofs.YtnmenfkmndnoaaaW.PrintLast Go.Proofs.YtnmenfkmndnoaaaW.PrintMore
attribute [local go_sem] max2_int min2_int max_two min_two max_three min_three max_four min_four
set_option linter.unusedVariables false
set_option linter.unusedSimpArgs false
mutual
def protection_Open.l0 : Nat→List (S30)→List Int→Int→Int→Int→Option (Int)
 | 0,_,_,_,_,_ => none
 | k + 1,x0,x1,x2,x13,x14 => if x14 < x13 then ((accounts_Own.f k x0 x14).bind fun t467 => (if 0≤x14 then (if x14 < (x1.length : Int) then (if t467 > (rd x1 x14) then ((protection_Guarded.f k x0 x1 x14 x2 false).bind fun t469 => (protection_Open.j1 k x0 x1 x2 x14 x13 x14 (!t469))) else (protection_Open.j1 k x0 x1 x2 x14 x13 x14 false)) else (none)) else (none))) else (some (-1))
def protection_Open.j1 : Nat→List (S30)→List Int→Int→Int→Int→Int→Bool→Option (Int)
 | 0,_,_,_,_,_,_,_ => none
 | k + 1,x0,x1,x2,x7,x13,x14,x32 => if x32 = true then (some x7) else (protection_Open.l0 k x0 x1 x2 x13 (wrap64 (x14 + 1)))
end
def protection_Open.f (k : Nat) (l0 : List (S30)) (l1 : List Int) (a2 : Int) : Option (Int):=(protection_valid.f k l0 l1).bind fun t466 => (if t466 = true then (protection_Open.l0 k l0 l1 a2 (l0.length : Int) 0) else (some (-1)))
theorem protection_Open.mono_l : ∀ k,(∀ y0 y1 y2 y3 y4,LeO (protection_Open.l0 k y0 y1 y2 y3 y4) (protection_Open.l0 (k + 1) y0 y1 y2 y3 y4))∧(∀ y0 y1 y2 y3 y4 y5 y6,LeO (protection_Open.j1 k y0 y1 y2 y3 y4 y5 y6) (protection_Open.j1 (k + 1) y0 y1 y2 y3 y4 y5 y6))
 | 0 => ⟨fun _ _ _ _ _ r h => by simp [protection_Open.l0] at h,fun _ _ _ _ _ _ _ r h => by simp [protection_Open.j1] at h⟩
 | k + 1 => by
  obtain ⟨ih0,ih1⟩:=protection_Open.mono_l k;refine ⟨?_,?_⟩
  ·
   intro y0 y1 y2 y3 y4
   unfold protection_Open.l0
   repeat' first
    | (with_reducible exact ih0 _ _ _ _ _)
    | (with_reducible exact ih1 _ _ _ _ _ _ _)
    | (with_reducible exact accounts_Own.mono _ _ _)
    | (with_reducible exact protection_Guarded.mono _ _ _ _ _ _)
    | (with_reducible exact protection_valid.mono _ _ _)
    | (with_reducible exact LeO.refl _)
    | (with_reducible exact LeO.none _)
    | (with_reducible refine LeO.ite ?_ ?_)
    | (with_reducible refine LeO.bind ?_ (fun _ => ?_))
    | exact ih0 _ _ _ _ _
    | exact ih1 _ _ _ _ _ _ _
    | exact accounts_Own.mono _ _ _
    | exact protection_Guarded.mono _ _ _ _ _ _
    | exact protection_valid.mono _ _ _
    | exact LeO.none _
    | refine LeO.ite ?_ ?_
    | refine LeO.bind ?_ (fun _ => ?_)
  ·
   intro y0 y1 y2 y3 y4 y5 y6
   unfold protection_Open.j1
   repeat' first
    | (with_reducible exact ih0 _ _ _ _ _)
    | (with_reducible exact ih1 _ _ _ _ _ _ _)
    | (with_reducible exact accounts_Own.mono _ _ _)
    | (with_reducible exact protection_Guarded.mono _ _ _ _ _ _)
    | (with_reducible exact protection_valid.mono _ _ _)
    | (with_reducible exact LeO.refl _)
    | (with_reducible exact LeO.none _)
    | (with_reducible refine LeO.ite ?_ ?_)
    | (with_reducible refine LeO.bind ?_ (fun _ => ?_))
    | exact ih0 _ _ _ _ _
    | exact ih1 _ _ _ _ _ _ _
    | exact accounts_Own.mono _ _ _
    | exact protection_Guarded.mono _ _ _ _ _ _
    | exact protection_valid.mono _ _ _
    | exact LeO.none _
    | refine LeO.ite ?_ ?_
    | refine LeO.bind ?_ (fun _ => ?_)
theorem protection_Open.mono : ∀ a0 a1 a2 k,LeO (protection_Open.f k a0 a1 a2) (protection_Open.f (k + 1) a0 a1 a2):=by
 intro a0 a1 a2 k;obtain ⟨ih0,ih1⟩:=protection_Open.mono_l k
 unfold protection_Open.f
 repeat' first
  | (with_reducible exact ih0 _ _ _ _ _)
  | (with_reducible exact ih1 _ _ _ _ _ _ _)
  | (with_reducible exact accounts_Own.mono _ _ _)
  | (with_reducible exact protection_Guarded.mono _ _ _ _ _ _)
  | (with_reducible exact protection_valid.mono _ _ _)
  | (with_reducible exact LeO.refl _)
  | (with_reducible exact LeO.none _)
  | (with_reducible refine LeO.ite ?_ ?_)
  | (with_reducible refine LeO.bind ?_ (fun _ => ?_))
  | exact ih0 _ _ _ _ _
  | exact ih1 _ _ _ _ _ _ _
  | exact accounts_Own.mono _ _ _
  | exact protection_Guarded.mono _ _ _ _ _ _
  | exact protection_valid.mono _ _ _
  | exact LeO.none _
  | refine LeO.ite ?_ ?_
  | refine LeO.bind ?_ (fun _ => ?_)
def protection_Open.T6 : Bool × List (List Nat × List Nat):=(true,[([],[]),([],[]),([0,1],[0,1]),([],[]),([],[]),([3,4],[3,4]),([5],[5]),([2,6],[2,6]),([7,2],[7]),([8],[8]),([8],[8]),([8],[8]),([8],[8]),([9,10,11,12,8,8],[8,9,10,11,12]),([13,8],[8,13]),([8,14],[8,14])])
def protection_Open.B6 : List Nat:=[0,0,3,0,0,24,56,127,255,511,511,511,511,8191,16383,32767]
theorem protection_Open.tab6 : rtab .any (opsOf Try.f45 6) = protection_Open.T6:=by kernel_rfl
theorem protection_Open.bits6 : waitsOk protection_Open.T6.2 protection_Open.B6 = true:=by kernel_rfl
set_option maxHeartbeats 8000000 in
set_option maxRecDepth 100000 in
theorem protection_Open.calls (k : Nat) (A0 : Option Addr) (c0 : Nat) (l0 : List (S30)) (A1 : Option Addr) (c1 : Nat) (l1 : List Int) (a2 : Int) (r : Int) (w : World) (hr0 : Kd.C k30 w A0 l0.length l0) (hc0 : l0.length≤c0) (hr1 : Kd.C (Kd.int .i64) w A1 l1.length l1) (hc1 : l1.length≤c1) (h : protection_Open.f k l0 l1 a2 = some r) :
 Calls Try.prog 45 #[.slice A0 l0.length c0,.slice A1 l1.length c1,.int .i64 a2] w fun e w' => e = .returned (.int .i64 r)∧Below w.heap.size w w':=by
 have HR0:=Aside0.mk hr0;have HC0:=Aside0.mk hc0;clear hr0 hc0;have HR1:=Aside0.mk hr1;have HC1:=Aside0.mk hc1;clear hr1 hc1;have HB:=Aside0.mk (Below.refl w.heap.size w);have H : ((protection_valid.f k l0 l1).bind fun t466 => (if t466 = true then (protection_Open.l0 k l0 l1 a2 (l0.length : Int) 0) else (some (-1)))) = some r:=h;clear h;replace H:=Option.bind_eq_some_iff.mp H
 obtain ⟨t466,A40,H⟩:=H;replace H : (if t466 = true then (protection_Open.l0 k l0 l1 a2 (l0.length : Int) 0) else (some (-1))) = some r:=H;have A4:=Aside0.mk A40;clear A40;by_cases c5 : t466 = true
 rotate_left
 ·
  replace c5:=Bool.eq_false_iff.mpr c5;subst c5
  have H1 : (some (-1)) = some r:=by rw [if_neg (show ¬ (false = true) by decide)] at H;exact H
  clear H;have H:=H1;clear H1;obtain rfl:=Option.some.inj H
  go_enter Try.func45,Try.ntmps45
  go_wp2_with (first | ((with_reducible refine gate_callee (f:=72) rfl ?_);refine goesL_ (some 10) rfl rfl Try.func72 (by kernel_rfl) rfl #[.slice A0 l0.length c0,.slice A1 l1.length c1] rfl (by (try simp only [z3_,z4_,z5_]);first | done | rfl | (simp only [z6_,z7_];rfl)) ?_;(with_reducible refine (protection_valid.calls k _ _ l0 _ _ l1 false _ ?side1 ?side2 ?side3 ?side4 A4.out).mono ?_);(case side1 => repeat (first | exact HR0.out | (with_reducible refine Kd.C_alloc ?_ _) | (with_reducible refine Kd.C_drewN ?_ _) | (with_reducible refine Kd.C_drew ?_)));(case side2 => exact HC0.out);(case side3 => repeat (first | exact HR1.out | (with_reducible refine Kd.C_alloc ?_ _) | (with_reducible refine Kd.C_drewN ?_ _) | (with_reducible refine Kd.C_drew ?_)));(case side4 => exact HC1.out);rintro e w20 ⟨rfl,hb⟩;refine ⟨_,rfl,?_⟩;have n0_:=Aside0.mk (below_step (by repeat (first | (with_reducible first | exact HB.out | apply b0_ | apply b1_ | apply b2_) | exact HB.out)) hb);clear HB;have HB:=n0_;clear n0_))
  go_ret;exact ⟨by first | rfl | (simp [errW_none,errW_some] <;> rfl) | (simp [*,errW_none,errW_some] <;> rfl),by repeat (first | (with_reducible first | exact HB.out | apply b0_ | apply b1_ | apply b2_) | exact HB.out)⟩
 subst c5
 have H1 : (protection_Open.l0 k l0 l1 a2 (l0.length : Int) 0) = some r:=by rw [if_pos rfl] at H;exact H
 clear H;have H:=H1;clear H1;have H':=Aside0.mk H;clear H
 go_enter Try.func45,Try.ntmps45
 go_wp2_with (first | ((with_reducible refine gate_callee (f:=72) rfl ?_);refine goesL_ (some 10) rfl rfl Try.func72 (by kernel_rfl) rfl #[.slice A0 l0.length c0,.slice A1 l1.length c1] rfl (by (try simp only [z3_,z4_,z5_]);first | done | rfl | (simp only [z6_,z7_];rfl)) ?_;(with_reducible refine (protection_valid.calls k _ _ l0 _ _ l1 true _ ?side1 ?side2 ?side3 ?side4 A4.out).mono ?_);(case side1 => repeat (first | exact HR0.out | (with_reducible refine Kd.C_alloc ?_ _) | (with_reducible refine Kd.C_drewN ?_ _) | (with_reducible refine Kd.C_drew ?_)));(case side2 => exact HC0.out);(case side3 => repeat (first | exact HR1.out | (with_reducible refine Kd.C_alloc ?_ _) | (with_reducible refine Kd.C_drewN ?_ _) | (with_reducible refine Kd.C_drew ?_)));(case side4 => exact HC1.out);rintro e w6 ⟨rfl,hb⟩;refine ⟨_,rfl,?_⟩;have n0_:=Aside0.mk (below_step (by repeat (first | (with_reducible first | exact HB.out | apply b0_ | apply b1_ | apply b2_) | exact HB.out)) hb);clear HB;have HB:=n0_;clear n0_))
 go_loopg [14] k (fun kq v14 w' => ∃ (x14_1 : Int),v14 = .int .i64 x14_1∧Aside0 (protection_Open.l0 kq l0 l1 a2 (l0.length : Int) x14_1 = some r)∧Aside0 (kq≤k)∧Aside0 (Below w.heap.size w w'))
 case atStart => exact ⟨(0),(by first | rfl | (simp;done) | (simp [*];done)),H',⟨Nat.le_refl _⟩,⟨by repeat (first | (with_reducible first | exact HB.out | apply b0_ | apply b1_ | apply b2_) | exact HB.out)⟩⟩
 case round =>
  clear H';obtain ⟨x14_1,rfl,HA,HK1,HB⟩:=hrel
  cases gk with
   | zero => exact absurd HA.out (by simp [protection_Open.l0])
   | succ k1 =>
    have H:=HA.out;clear HA;simp only [protection_Open.l0] at H;by_cases c7 : x14_1 < (l0.length : Int)
    rotate_left
    · rw [if_neg c7] at H;have c7b0 : decide (x14_1 < (l0.length : Int)) = false:=decide_eq_false c7;clear c7;obtain rfl:=Option.some.inj H;go_wp2;go_ret;exact ⟨by first | rfl | (simp [errW_none,errW_some] <;> rfl) | (simp [*,errW_none,errW_some] <;> rfl),by repeat (first | (with_reducible first | exact HB.out | apply b0_ | apply b1_ | apply b2_) | exact HB.out)⟩
    rw [if_pos c7] at H;have c7b0 : decide (x14_1 < (l0.length : Int)) = true:=decide_eq_true c7;clear c7;have HC8:=Aside0.mk H;clear H
    go_upto_region 6 with (fail)
    go_cut [32] (fun v32 wc => ∃ (kq : Nat) (x32_7 : Bool),v32 = .bool x32_7∧Aside0 (protection_Open.j1 kq l0 l1 a2 x14_1 (l0.length : Int) x14_1 x32_7 = some r)∧Aside0 (kq≤k1)∧Aside0 (Below w.heap.size w wc))
    case first =>
     have H:=HC8.out;clear HC8;replace H:=Option.bind_eq_some_iff.mp H;obtain ⟨t467,A90,H⟩:=H
     replace H : (if 0≤x14_1 then (if x14_1 < (l1.length : Int) then (if t467 > (rd l1 x14_1) then ((protection_Guarded.f k1 l0 l1 x14_1 a2 false).bind fun t469 => (protection_Open.j1 k1 l0 l1 a2 x14_1 (l0.length : Int) x14_1 (!t469))) else (protection_Open.j1 k1 l0 l1 a2 x14_1 (l0.length : Int) x14_1 false)) else (none)) else (none)) = some r:=H;have A9:=Aside0.mk A90;clear A90
     by_cases c10 : 0≤x14_1
     rotate_left
     · rw [if_neg c10] at H;exact absurd H (by simp)
     rw [if_pos c10] at H;have c10b0 : decide (0≤x14_1) = true:=decide_eq_true c10;clear c10
     (first | rw [c10b0] | (simp only [i64_w,i32_w];rw [c10b0]) | skip)
     by_cases c11 : x14_1 < (l1.length : Int)
     rotate_left
     · rw [if_neg c11] at H;exact absurd H (by simp)
     rw [if_pos c11] at H;have c11b0 : decide (x14_1 < (l1.length : Int)) = true:=decide_eq_true c11;clear c11;by_cases c12 : t467 > (rd l1 x14_1)
     rotate_left
     ·
      rw [if_neg c12] at H;have c12b0 : decide ((rd l1 x14_1) < t467) = false:=decide_eq_false c12;clear c12;have H':=Aside0.mk H;clear H
      try go_wp2
      have n0_:=Aside0.mk (b2_ HB.out);clear HB;have HB:=n0_;clear n0_;have p468 : 0≤(x14_1 : Int):=of_decide_eq_true (by first | (with_reducible assumption) | assumption);have q468 : x14_1 < (l1.length : Int):=of_decide_eq_true (by first | (with_reducible assumption) | assumption);obtain ⟨ad468,e468,hx468_0⟩:=Kd.at_int HR1.out x14_1 p468 q468;have hw468_0:=hx468_0;cases e468
      replace hx468_0:=(HB.out.cell (World.block_lt_of_cell? w _ hx468_0)).trans hx468_0;replace p468:=eq_true p468;replace q468:=eq_true q468
      refine start_ (n:=16) (S:=fun w' => w'.cell? (ad468.add (x14_1).toNat) = some (.int .i64 (rd l1 x14_1))) (ds:=[]) #[F0,F0,F0,F0,F0,F0,F0,F0,F0,F0,F0,F0,F0,F0,F0,F0] (by kernel_rfl) rfl rfl (((HB.out.cell (World.block_lt_of_cell? w _ hw468_0)).trans hw468_0)) (fun hHeld => ?_);refine with_tabW protection_Open.tab6 protection_Open.bits6 (fun HT_ HW_ => ?_)
      generalize wr.drew = w17 at HB hx468_0 hHeld ⊢;refine pure_ (i:=0) (N:=some 17) (v:=?_) (a':=?_) #[T0,F0,F0,F0,F0,F0,F0,F0,F0,F0,F0,F0,F0,F0,F0,F0] rfl rfl (any_of HT_.out (by kernel_rfl)) (fun _ _ _ h => h) (Or.inl ⟨by rfl,?_⟩) ?_ ?_
      rotate_left
      · intro w';go_simp;with_reducible rfl
      rotate_left
      · simp only [Act.put,z0_,z1_,z2_,i64_w,i32_w];rfl
      refine pure_ (i:=1) (N:=some 18) (v:=?_) (a':=?_) #[T0,T0,F0,F0,F0,F0,F0,F0,F0,F0,F0,F0,F0,F0,F0,F0] rfl rfl (any_of HT_.out (by kernel_rfl)) (fun _ _ _ h => h) (Or.inl ⟨by rfl,?_⟩) ?_ ?_
      rotate_left
      · intro w';go_simp;with_reducible rfl
      rotate_left
      · simp only [Act.put,z0_,z1_,z2_,i64_w,i32_w];rfl
      refine pure_ (i:=3) (N:=some 20) (v:=?_) (a':=?_) #[T0,T0,F0,T0,F0,F0,F0,F0,F0,F0,F0,F0,F0,F0,F0,F0] rfl rfl (any_of HT_.out (by kernel_rfl)) (fun _ _ _ h => h) (Or.inl ⟨by rfl,?_⟩) ?_ ?_
      rotate_left
      · intro w';go_simp;with_reducible rfl
      rotate_left
      · simp only [Act.put,z0_,z1_,z2_,i64_w,i32_w];rfl
      refine pure_ (i:=4) (N:=some 21) (v:=?_) (a':=?_) #[T0,T0,F0,T0,T0,F0,F0,F0,F0,F0,F0,F0,F0,F0,F0,F0] rfl rfl (any_of HT_.out (by kernel_rfl)) (fun _ _ _ h => h) (Or.inl ⟨by rfl,?_⟩) ?_ ?_
      rotate_left
      · intro w';go_simp;with_reducible rfl
      rotate_left
      · simp only [Act.put,z0_,z1_,z2_,i64_w,i32_w];rfl
      refine pure_ (i:=5) (N:=some 22) (v:=?_) (a':=?_) #[T0,T0,F0,T0,T0,T0,F0,F0,F0,F0,F0,F0,F0,F0,F0,F0] rfl rfl (any_of HT_.out (by kernel_rfl)) (fun _ _ _ h => h) (Or.inl ⟨by rfl,?_⟩) ?_ ?_
      rotate_left
      · intro w';go_simp;with_reducible rfl
      rotate_left
      · simp only [Act.put,z0_,z1_,z2_,i64_w,i32_w];rfl
      refine take_ (i:=6) (N:=some 23) (v:=?_) (a':=?_) #[T0,T0,F0,T0,T0,T0,T0,F0,F0,F0,F0,F0,F0,F0,F0,F0] rfl rfl (take_ofW HT_.out HW_.out (by kernel_rfl)) (fun _ _ _ h => h) (Or.inl ⟨by rfl,?_⟩) hHeld ?_ ?_
      rotate_left
      · intro w' s0;go_simp;with_reducible rfl
      rotate_left
      · simp only [Act.put,z0_,z1_,z2_,i64_w,i32_w];rfl
      refine one_ (i:=2) (N:=some 19) #[T0,T0,T0,T0,T0,T0,T0,F0,F0,F0,F0,F0,F0,F0,F0,F0] rfl rfl (one_of HT_.out (by kernel_rfl)) (by decide) (fun K hK => ?_);refine goes_ Try.func73 (by kernel_rfl) rfl #[.slice A0 l0.length c0,.int .i64 x14_1] (by rfl) rfl rfl (by (try simp only [z3_,z4_,z5_]);first | done | rfl | (simp only [z6_,z7_];rfl)) ?_
      with_reducible refine (accounts_Own.calls k1 _ _ l0 x14_1 t467 _ ?side1 ?side2 A9.out).mono ?_
      (case side1 => repeat (first | exact (Kd.C_below HR0.out HB.out) | (with_reducible refine Kd.C_alloc ?_ _) | (with_reducible refine Kd.C_drewN ?_ _) | (with_reducible refine Kd.C_drew ?_)))
      (case side2 => exact HC0.out)
      rintro e w18 ⟨rfl,hb⟩
      refine ⟨_,rfl,?_⟩;have n0_:=Aside0.mk (below_step (by repeat (first | (with_reducible first | exact HB.out | apply b0_ | apply b1_ | apply b2_) | exact HB.out)) hb);clear HB;have HB:=n0_;clear n0_
      (try clear hb)
      (try clear hb2)
      (try clear hk)
      (try clear hi)
      refine hK.out _ _ (((HB.out.cell (World.block_lt_of_cell? w _ hw468_0)).trans hw468_0)) (fun hHeld => ?_);clear hK K;refine norm_ (a':=?_) ?_ ?_
      rotate_left
      ·
       show Act.put _ (some 19) _ = _
       simp only [Act.put,z0_,z1_,z2_,i64_w,i32_w];rfl
      refine pure_ (i:=7) (N:=some 24) (v:=?_) (a':=?_) #[T0,T0,T0,T0,T0,T0,T0,T0,F0,F0,F0,F0,F0,F0,F0,F0] rfl rfl (any_of HT_.out (by kernel_rfl)) (fun _ _ _ h => h) (Or.inl ⟨by rfl,?_⟩) ?_ ?_
      rotate_left
      · intro w';go_simp;with_reducible rfl
      rotate_left
      · simp only [Act.put,z0_,z1_,z2_,i64_w,i32_w];rfl
      refine pure_ (i:=8) (N:=some 25) (v:=?_) (a':=?_) #[T0,T0,T0,T0,T0,T0,T0,T0,T0,F0,F0,F0,F0,F0,F0,F0] rfl rfl (any_of HT_.out (by kernel_rfl)) (fun _ _ _ h => h) (Or.inl ⟨by rfl,?_⟩) ?_ ?_
      rotate_left
      · intro w';go_simp;with_reducible rfl
      rotate_left
      · simp only [Act.put,z0_,z1_,z2_,i64_w,i32_w];rfl
      refine pure_ (i:=9) (N:=some 26) (v:=undef) (a':=?_) #[T0,T0,T0,T0,T0,T0,T0,T0,T0,T0,F0,F0,F0,F0,F0,F0] rfl rfl (any_of HT_.out (by kernel_rfl)) (fun _ _ _ h => h) (Or.inr ⟨by rfl,rfl⟩) ?_ ?_
      rotate_left
      · simp only [Act.put,z0_,z1_,z2_,i64_w,i32_w];rfl
      refine pure_ (i:=10) (N:=some 27) (v:=undef) (a':=?_) #[T0,T0,T0,T0,T0,T0,T0,T0,T0,T0,T0,F0,F0,F0,F0,F0] rfl rfl (any_of HT_.out (by kernel_rfl)) (fun _ _ _ h => h) (Or.inr ⟨by rfl,rfl⟩) ?_ ?_
      rotate_left
      · simp only [Act.put,z0_,z1_,z2_,i64_w,i32_w];rfl
      refine pure_ (i:=11) (N:=some 28) (v:=undef) (a':=?_) #[T0,T0,T0,T0,T0,T0,T0,T0,T0,T0,T0,T0,F0,F0,F0,F0] rfl rfl (any_of HT_.out (by kernel_rfl)) (fun _ _ _ h => h) (Or.inr ⟨by rfl,rfl⟩) ?_ ?_
      rotate_left
      · simp only [Act.put,z0_,z1_,z2_,i64_w,i32_w];rfl
      refine pure_ (i:=12) (N:=some 29) (v:=undef) (a':=?_) #[T0,T0,T0,T0,T0,T0,T0,T0,T0,T0,T0,T0,T0,F0,F0,F0] rfl rfl (any_of HT_.out (by kernel_rfl)) (fun _ _ _ h => h) (Or.inr ⟨by rfl,rfl⟩) ?_ ?_
      rotate_left
      · simp only [Act.put,z0_,z1_,z2_,i64_w,i32_w];rfl
      refine pure_ (i:=13) (N:=some 30) (v:=undef) (a':=?_) #[T0,T0,T0,T0,T0,T0,T0,T0,T0,T0,T0,T0,T0,T0,F0,F0] rfl rfl (any_of HT_.out (by kernel_rfl)) (fun _ _ _ h => h) (Or.inr ⟨by rfl,rfl⟩) ?_ ?_
      rotate_left
      · simp only [Act.put,z0_,z1_,z2_,i64_w,i32_w];rfl
      refine pure_ (i:=14) (N:=some 31) (v:=undef) (a':=?_) #[T0,T0,T0,T0,T0,T0,T0,T0,T0,T0,T0,T0,T0,T0,T0,F0] rfl rfl (any_of HT_.out (by kernel_rfl)) (fun _ _ _ h => h) (Or.inr ⟨by rfl,rfl⟩) ?_ ?_
      rotate_left
      · simp only [Act.put,z0_,z1_,z2_,i64_w,i32_w];rfl
      refine pure_ (i:=15) (N:=some 32) (v:=?_) (a':=?_) #[T0,T0,T0,T0,T0,T0,T0,T0,T0,T0,T0,T0,T0,T0,T0,T0] rfl rfl (any_of HT_.out (by kernel_rfl)) (fun _ _ _ h => h) (Or.inl ⟨by rfl,?_⟩) ?_ ?_
      rotate_left
      · intro w';go_simp;with_reducible rfl
      rotate_left
      · simp only [Act.put,z0_,z1_,z2_,i64_w,i32_w];rfl
      refine done_ (done_of HT_.out (by kernel_rfl)) ?_
      try go_wp2
      go_meet
      case rel => exact ⟨_,(false),(by first | rfl | (simp;done) | (simp [*];done)),H',⟨by have:=HK1.out;first | omega | exact Nat.le_refl _⟩,⟨by repeat (first | (with_reducible first | exact HB.out | apply b0_ | apply b1_ | apply b2_) | exact HB.out)⟩⟩
     rw [if_pos c12] at H;have c12b0 : decide ((rd l1 x14_1) < t467) = true:=decide_eq_true c12;clear c12;replace H:=Option.bind_eq_some_iff.mp H;obtain ⟨t469,A130,H⟩:=H;replace H : (protection_Open.j1 k1 l0 l1 a2 x14_1 (l0.length : Int) x14_1 (!t469)) = some r:=H;have A13:=Aside0.mk A130;clear A130;have H':=Aside0.mk H;clear H
     try go_wp2
     have n0_:=Aside0.mk (b2_ HB.out);clear HB;have HB:=n0_;clear n0_;have p468 : 0≤(x14_1 : Int):=of_decide_eq_true (by first | (with_reducible assumption) | assumption);have q468 : x14_1 < (l1.length : Int):=of_decide_eq_true (by first | (with_reducible assumption) | assumption);obtain ⟨ad468,e468,hx468_0⟩:=Kd.at_int HR1.out x14_1 p468 q468;have hw468_0:=hx468_0;cases e468
     replace hx468_0:=(HB.out.cell (World.block_lt_of_cell? w _ hx468_0)).trans hx468_0;replace p468:=eq_true p468;replace q468:=eq_true q468
     refine start_ (n:=16) (S:=fun w' => w'.cell? (ad468.add (x14_1).toNat) = some (.int .i64 (rd l1 x14_1))) (ds:=[]) #[F0,F0,F0,F0,F0,F0,F0,F0,F0,F0,F0,F0,F0,F0,F0,F0] (by kernel_rfl) rfl rfl (((HB.out.cell (World.block_lt_of_cell? w _ hw468_0)).trans hw468_0)) (fun hHeld => ?_);refine with_tabW protection_Open.tab6 protection_Open.bits6 (fun HT_ HW_ => ?_)
     generalize wr.drew = w14 at HB hx468_0 hHeld ⊢;refine pure_ (i:=0) (N:=some 17) (v:=?_) (a':=?_) #[T0,F0,F0,F0,F0,F0,F0,F0,F0,F0,F0,F0,F0,F0,F0,F0] rfl rfl (any_of HT_.out (by kernel_rfl)) (fun _ _ _ h => h) (Or.inl ⟨by rfl,?_⟩) ?_ ?_
     rotate_left
     · intro w';go_simp;with_reducible rfl
     rotate_left
     · simp only [Act.put,z0_,z1_,z2_,i64_w,i32_w];rfl
     refine pure_ (i:=1) (N:=some 18) (v:=?_) (a':=?_) #[T0,T0,F0,F0,F0,F0,F0,F0,F0,F0,F0,F0,F0,F0,F0,F0] rfl rfl (any_of HT_.out (by kernel_rfl)) (fun _ _ _ h => h) (Or.inl ⟨by rfl,?_⟩) ?_ ?_
     rotate_left
     · intro w';go_simp;with_reducible rfl
     rotate_left
     · simp only [Act.put,z0_,z1_,z2_,i64_w,i32_w];rfl
     refine pure_ (i:=3) (N:=some 20) (v:=?_) (a':=?_) #[T0,T0,F0,T0,F0,F0,F0,F0,F0,F0,F0,F0,F0,F0,F0,F0] rfl rfl (any_of HT_.out (by kernel_rfl)) (fun _ _ _ h => h) (Or.inl ⟨by rfl,?_⟩) ?_ ?_
     rotate_left
     · intro w';go_simp;with_reducible rfl
     rotate_left
     · simp only [Act.put,z0_,z1_,z2_,i64_w,i32_w];rfl
     refine pure_ (i:=4) (N:=some 21) (v:=?_) (a':=?_) #[T0,T0,F0,T0,T0,F0,F0,F0,F0,F0,F0,F0,F0,F0,F0,F0] rfl rfl (any_of HT_.out (by kernel_rfl)) (fun _ _ _ h => h) (Or.inl ⟨by rfl,?_⟩) ?_ ?_
     rotate_left
     · intro w';go_simp;with_reducible rfl
     rotate_left
     · simp only [Act.put,z0_,z1_,z2_,i64_w,i32_w];rfl
     refine pure_ (i:=5) (N:=some 22) (v:=?_) (a':=?_) #[T0,T0,F0,T0,T0,T0,F0,F0,F0,F0,F0,F0,F0,F0,F0,F0] rfl rfl (any_of HT_.out (by kernel_rfl)) (fun _ _ _ h => h) (Or.inl ⟨by rfl,?_⟩) ?_ ?_
     rotate_left
     · intro w';go_simp;with_reducible rfl
     rotate_left
     · simp only [Act.put,z0_,z1_,z2_,i64_w,i32_w];rfl
     refine take_ (i:=6) (N:=some 23) (v:=?_) (a':=?_) #[T0,T0,F0,T0,T0,T0,T0,F0,F0,F0,F0,F0,F0,F0,F0,F0] rfl rfl (take_ofW HT_.out HW_.out (by kernel_rfl)) (fun _ _ _ h => h) (Or.inl ⟨by rfl,?_⟩) hHeld ?_ ?_
     rotate_left
     · intro w' s0;go_simp;with_reducible rfl
     rotate_left
     · simp only [Act.put,z0_,z1_,z2_,i64_w,i32_w];rfl
     refine one_ (i:=2) (N:=some 19) #[T0,T0,T0,T0,T0,T0,T0,F0,F0,F0,F0,F0,F0,F0,F0,F0] rfl rfl (one_of HT_.out (by kernel_rfl)) (by decide) (fun K hK => ?_);refine goes_ Try.func73 (by kernel_rfl) rfl #[.slice A0 l0.length c0,.int .i64 x14_1] (by rfl) rfl rfl (by (try simp only [z3_,z4_,z5_]);first | done | rfl | (simp only [z6_,z7_];rfl)) ?_
     with_reducible refine (accounts_Own.calls k1 _ _ l0 x14_1 t467 _ ?side1 ?side2 A9.out).mono ?_
     (case side1 => repeat (first | exact (Kd.C_below HR0.out HB.out) | (with_reducible refine Kd.C_alloc ?_ _) | (with_reducible refine Kd.C_drewN ?_ _) | (with_reducible refine Kd.C_drew ?_)))
     (case side2 => exact HC0.out)
     rintro e w15 ⟨rfl,hb⟩
     refine ⟨_,rfl,?_⟩;have n0_:=Aside0.mk (below_step (by repeat (first | (with_reducible first | exact HB.out | apply b0_ | apply b1_ | apply b2_) | exact HB.out)) hb);clear HB;have HB:=n0_;clear n0_
     (try clear hb)
     (try clear hb2)
     (try clear hk)
     (try clear hi)
     refine hK.out _ _ (((HB.out.cell (World.block_lt_of_cell? w _ hw468_0)).trans hw468_0)) (fun hHeld => ?_);clear hK K;refine norm_ (a':=?_) ?_ ?_
     rotate_left
     ·
      show Act.put _ (some 19) _ = _
      simp only [Act.put,z0_,z1_,z2_,i64_w,i32_w];rfl
     refine pure_ (i:=7) (N:=some 24) (v:=?_) (a':=?_) #[T0,T0,T0,T0,T0,T0,T0,T0,F0,F0,F0,F0,F0,F0,F0,F0] rfl rfl (any_of HT_.out (by kernel_rfl)) (fun _ _ _ h => h) (Or.inl ⟨by rfl,?_⟩) ?_ ?_
     rotate_left
     · intro w';go_simp;with_reducible rfl
     rotate_left
     · simp only [Act.put,z0_,z1_,z2_,i64_w,i32_w];rfl
     refine pure_ (i:=8) (N:=some 25) (v:=?_) (a':=?_) #[T0,T0,T0,T0,T0,T0,T0,T0,T0,F0,F0,F0,F0,F0,F0,F0] rfl rfl (any_of HT_.out (by kernel_rfl)) (fun _ _ _ h => h) (Or.inl ⟨by rfl,?_⟩) ?_ ?_
     rotate_left
     · intro w';go_simp;with_reducible rfl
     rotate_left
     · simp only [Act.put,z0_,z1_,z2_,i64_w,i32_w];rfl
     refine pure_ (i:=9) (N:=some 26) (v:=?_) (a':=?_) #[T0,T0,T0,T0,T0,T0,T0,T0,T0,T0,F0,F0,F0,F0,F0,F0] rfl rfl (any_of HT_.out (by kernel_rfl)) (fun _ _ _ h => h) (Or.inl ⟨by rfl,?_⟩) ?_ ?_
     rotate_left
     · intro w';go_simp;with_reducible rfl
     rotate_left
     · simp only [Act.put,z0_,z1_,z2_,i64_w,i32_w];rfl
     refine pure_ (i:=10) (N:=some 27) (v:=?_) (a':=?_) #[T0,T0,T0,T0,T0,T0,T0,T0,T0,T0,T0,F0,F0,F0,F0,F0] rfl rfl (any_of HT_.out (by kernel_rfl)) (fun _ _ _ h => h) (Or.inl ⟨by rfl,?_⟩) ?_ ?_
     rotate_left
     · intro w';go_simp;with_reducible rfl
     rotate_left
     · simp only [Act.put,z0_,z1_,z2_,i64_w,i32_w];rfl
     refine pure_ (i:=11) (N:=some 28) (v:=?_) (a':=?_) #[T0,T0,T0,T0,T0,T0,T0,T0,T0,T0,T0,T0,F0,F0,F0,F0] rfl rfl (any_of HT_.out (by kernel_rfl)) (fun _ _ _ h => h) (Or.inl ⟨by rfl,?_⟩) ?_ ?_
     rotate_left
     · intro w';go_simp;with_reducible rfl
     rotate_left
     · simp only [Act.put,z0_,z1_,z2_,i64_w,i32_w];rfl
     refine pure_ (i:=12) (N:=some 29) (v:=?_) (a':=?_) #[T0,T0,T0,T0,T0,T0,T0,T0,T0,T0,T0,T0,T0,F0,F0,F0] rfl rfl (any_of HT_.out (by kernel_rfl)) (fun _ _ _ h => h) (Or.inl ⟨by rfl,?_⟩) ?_ ?_
     rotate_left
     · intro w';go_simp;with_reducible rfl
     rotate_left
     · simp only [Act.put,z0_,z1_,z2_,i64_w,i32_w];rfl
     refine one_ (i:=13) (N:=some 30) #[T0,T0,T0,T0,T0,T0,T0,T0,T0,T0,T0,T0,T0,T0,F0,F0] rfl rfl (one_of HT_.out (by kernel_rfl)) (by decide) (fun K hK => ?_)
     refine goes_ Try.func74 (by kernel_rfl) rfl #[.slice A0 l0.length c0,.slice (some ad468) l1.length c1,.int .i64 x14_1,.int .i64 a2,.bool false] (by rfl) rfl rfl (by (try simp only [z3_,z4_,z5_]);first | done | rfl | (simp only [z6_,z7_];rfl)) ?_
     with_reducible refine (protection_Guarded.calls k1 _ _ l0 _ _ l1 x14_1 a2 false t469 _ ?side1 ?side2 ?side3 ?side4 A13.out).mono ?_
     (case side1 => repeat (first | exact (Kd.C_below HR0.out HB.out) | (with_reducible refine Kd.C_alloc ?_ _) | (with_reducible refine Kd.C_drewN ?_ _) | (with_reducible refine Kd.C_drew ?_)))
     (case side2 => exact HC0.out)
     (case side3 => repeat (first | exact (Kd.C_below HR1.out HB.out) | (with_reducible refine Kd.C_alloc ?_ _) | (with_reducible refine Kd.C_drewN ?_ _) | (with_reducible refine Kd.C_drew ?_)))
     (case side4 => exact HC1.out)
     rintro e w16 ⟨rfl,hb⟩
     refine ⟨_,rfl,?_⟩;have n0_:=Aside0.mk (below_step (by repeat (first | (with_reducible first | exact HB.out | apply b0_ | apply b1_ | apply b2_) | exact HB.out)) hb);clear HB;have HB:=n0_;clear n0_
     (try clear hb)
     (try clear hb2)
     (try clear hk)
     (try clear hi)
     refine hK.out _ _ (((HB.out.cell (World.block_lt_of_cell? w _ hw468_0)).trans hw468_0)) (fun hHeld => ?_);clear hK K;refine norm_ (a':=?_) ?_ ?_
     rotate_left
     ·
      show Act.put _ (some 30) _ = _
      simp only [Act.put,z0_,z1_,z2_,i64_w,i32_w];rfl
     refine pure_ (i:=14) (N:=some 31) (v:=?_) (a':=?_) #[T0,T0,T0,T0,T0,T0,T0,T0,T0,T0,T0,T0,T0,T0,T0,F0] rfl rfl (any_of HT_.out (by kernel_rfl)) (fun _ _ _ h => h) (Or.inl ⟨by rfl,?_⟩) ?_ ?_
     rotate_left
     · intro w';go_simp;with_reducible rfl
     rotate_left
     · simp only [Act.put,z0_,z1_,z2_,i64_w,i32_w];rfl
     refine pure_ (i:=15) (N:=some 32) (v:=?_) (a':=?_) #[T0,T0,T0,T0,T0,T0,T0,T0,T0,T0,T0,T0,T0,T0,T0,T0] rfl rfl (any_of HT_.out (by kernel_rfl)) (fun _ _ _ h => h) (Or.inl ⟨by rfl,?_⟩) ?_ ?_
     rotate_left
     · intro w';go_simp;with_reducible rfl
     rotate_left
     · simp only [Act.put,z0_,z1_,z2_,i64_w,i32_w];rfl
     refine done_ (done_of HT_.out (by kernel_rfl)) ?_
     try go_wp2
     go_meet
     case rel => exact ⟨_,(!t469),(by first | rfl | (simp;done) | (simp [*];done)),H',⟨by have:=HK1.out;first | omega | exact Nat.le_refl _⟩,⟨by repeat (first | (with_reducible first | exact HB.out | apply b0_ | apply b1_ | apply b2_) | exact HB.out)⟩⟩
    case rest =>
     clear HC8;obtain ⟨kq,x32_7,rfl,HA,HJ7,HB⟩:=hcut
     cases kq with
      | zero => exact absurd HA.out (by simp [protection_Open.j1])
      | succ kj7 =>
       have H:=HA.out;clear HA;simp only [protection_Open.j1] at H;by_cases c19 : x32_7 = true
       rotate_left
       ·
        replace c19:=Bool.eq_false_iff.mpr c19;subst c19
        have H1 : (protection_Open.l0 kj7 l0 l1 a2 (l0.length : Int) (wrap64 (x14_1 + 1))) = some r:=by rw [if_neg (show ¬ (false = true) by decide)] at H;exact H
        clear H;have H:=H1;clear H1;have H':=Aside0.mk H;clear H;go_wp2
        go_roundg kj7
        case measure => have:=HK1.out;have:=HJ7.out;omega
        case rel => exact ⟨(wrap64 (x14_1 + 1)),(by first | rfl | (simp;done) | (simp [*];done)),H',⟨by have:=HK1.out;have:=HJ7.out;omega⟩,⟨by repeat (first | (with_reducible first | exact HB.out | apply b0_ | apply b1_ | apply b2_) | exact HB.out)⟩⟩
       subst c19
       have H1 : (some x14_1) = some r:=by rw [if_pos rfl] at H;exact H
       clear H;have H:=H1;clear H1;obtain rfl:=Option.some.inj H;go_wp2;go_ret;exact ⟨by first | rfl | (simp [errW_none,errW_some] <;> rfl) | (simp [*,errW_none,errW_some] <;> rfl),by repeat (first | (with_reducible first | exact HB.out | apply b0_ | apply b1_ | apply b2_) | exact HB.out)⟩
end Go.Proofs.Ytnmenfkmndnoaaa.Pr
