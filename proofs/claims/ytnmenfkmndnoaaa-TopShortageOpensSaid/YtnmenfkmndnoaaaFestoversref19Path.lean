-- Written by a program of this session (a changed copy of the kit's printer). Not trusted: Lean checks it.
import Derived.Test.YtnmenfkmndnoaaaM0
import Derived.Test.YtnmenfkmndnoaaaFestoversref19has
namespace Go.Proofs.Ytnmenfkmndnoaaa.Pr
open Go.RowKit Go.Proofs.YtnmenfkmndnoaaaW.PrintWords Go.Proofs.YtnmenfkmndnoaaaW.PrintLast Go.Proofs.YtnmenfkmndnoaaaW.PrintMore
attribute [local go_sem] max2_int min2_int max_two min_two max_three min_three max_four min_four
set_option linter.unusedVariables false
set_option linter.unusedSimpArgs false
def estoversref19_Path.l0 : Nat→List (S30)→Int→List Int→Option (List Int)
 | 0,_,_,_ => none
 | k + 1,x0,x1,x5 => if x1≥0 then (if x5.length < 17592186044416 then (if 0≤x1 then (if x1 < (x0.length : Int) then (estoversref19_Path.l0 k x0 ((rd_T30 x0 x1).f0) (x5 ++ [x1])) else (none)) else (none)) else (none)) else (some x5)
def estoversref19_Path.f (k : Nat) (l0 : List (S30)) (a1 : Int) : Option (List Int):=(estoversref19_has.f k l0 a1).bind fun t241 => (if t241 = true then (estoversref19_Path.l0 k l0 a1 ([] : List Int)) else (some ([] : List Int)))
theorem estoversref19_Path.mono_l : ∀ k,(∀ y0 y1 y2,LeO (estoversref19_Path.l0 k y0 y1 y2) (estoversref19_Path.l0 (k + 1) y0 y1 y2))
 | 0 => fun _ _ _ r h => by simp [estoversref19_Path.l0] at h
 | k + 1 => by
  have ih0:=estoversref19_Path.mono_l k
  ·
   intro y0 y1 y2
   unfold estoversref19_Path.l0
   repeat' first
    | (with_reducible exact ih0 _ _ _)
    | (with_reducible exact estoversref19_has.mono _ _ _)
    | (with_reducible exact LeO.refl _)
    | (with_reducible exact LeO.none _)
    | (with_reducible refine LeO.ite ?_ ?_)
    | (with_reducible refine LeO.bind ?_ (fun _ => ?_))
    | exact ih0 _ _ _
    | exact estoversref19_has.mono _ _ _
    | exact LeO.none _
    | refine LeO.ite ?_ ?_
    | refine LeO.bind ?_ (fun _ => ?_)
theorem estoversref19_Path.mono : ∀ a0 a1 k,LeO (estoversref19_Path.f k a0 a1) (estoversref19_Path.f (k + 1) a0 a1):=by
 intro a0 a1 k;have ih0:=estoversref19_Path.mono_l k
 unfold estoversref19_Path.f
 repeat' first
  | (with_reducible exact ih0 _ _ _)
  | (with_reducible exact estoversref19_has.mono _ _ _)
  | (with_reducible exact LeO.refl _)
  | (with_reducible exact LeO.none _)
  | (with_reducible refine LeO.ite ?_ ?_)
  | (with_reducible refine LeO.bind ?_ (fun _ => ?_))
  | exact ih0 _ _ _
  | exact estoversref19_has.mono _ _ _
  | exact LeO.none _
  | refine LeO.ite ?_ ?_
  | refine LeO.bind ?_ (fun _ => ?_)
set_option maxHeartbeats 8000000 in
set_option maxRecDepth 100000 in
theorem estoversref19_Path.calls (k : Nat) (A0 : Option Addr) (c0 : Nat) (l0 : List (S30)) (a1 : Int) (r : List Int) (w : World) (hr0 : Kd.C k30 w A0 l0.length l0) (hc0 : l0.length≤c0) (h : estoversref19_Path.f k l0 a1 = some r) :
 Calls Try.prog 70 #[.slice A0 l0.length c0,.int .i64 a1] w fun e w' => ∃ v0_ : Value,e = .returned (v0_)∧Kd.R (Kd.int .i64) 3 w' w.heap.size (fun _ => True) v0_ r∧Below w.heap.size w w':=by
 have HR0:=Aside0.mk hr0;have HC0:=Aside0.mk hc0;clear hr0 hc0;have HB:=Aside0.mk (Below.refl w.heap.size w);have H : ((estoversref19_has.f k l0 a1).bind fun t241 => (if t241 = true then (estoversref19_Path.l0 k l0 a1 ([] : List Int)) else (some ([] : List Int)))) = some r:=h;clear h;replace H:=Option.bind_eq_some_iff.mp H;obtain ⟨t241,A30,H⟩:=H
 replace H : (if t241 = true then (estoversref19_Path.l0 k l0 a1 ([] : List Int)) else (some ([] : List Int))) = some r:=H;have A3:=Aside0.mk A30;clear A30;by_cases c4 : t241 = true
 rotate_left
 ·
  replace c4:=Bool.eq_false_iff.mpr c4;subst c4
  have H1 : (some ([] : List Int)) = some r:=by rw [if_neg (show ¬ (false = true) by decide)] at H;exact H
  clear H;have H:=H1;clear H1;obtain rfl:=Option.some.inj H
  go_enter Try.func70,Try.ntmps70
  go_wp2_with (first | ((with_reducible refine gate_callee (f:=69) rfl ?_);refine goesL_ (some 8) rfl rfl Try.func69 (by kernel_rfl) rfl #[.slice A0 l0.length c0,.int .i64 a1] rfl (by (try simp only [z3_,z4_,z5_]);first | done | rfl | (simp only [z6_,z7_];rfl)) ?_;(with_reducible refine (estoversref19_has.calls k _ _ l0 a1 false _ ?side1 ?side2 A3.out).mono ?_);(case side1 => repeat (first | exact HR0.out | (with_reducible refine Kd.C_alloc ?_ _) | (with_reducible refine Kd.C_drewN ?_ _) | (with_reducible refine Kd.C_drew ?_)));(case side2 => exact HC0.out);rintro e w' ⟨rfl,⟨nd,rfl⟩⟩;refine ⟨_,rfl,?_⟩))
  go_ret;exact ⟨_,by first | rfl | (simp [errW_none,errW_some] <;> rfl) | (simp [*,errW_none,errW_some] <;> rfl),by first | exact Kd.R_nil _ _ _ _ _ | exact Kd.N_nil _ _ _ _ _ | exact Kd.V_nil _ _ _ _ _ | exact Kd.Q_nil _ _ _ _ _ | exact Kd.S_nil _ _ _ _ _,by repeat (first | (with_reducible first | exact HB.out | apply b0_ | apply b1_ | apply b2_) | exact HB.out)⟩
 subst c4
 have H1 : (estoversref19_Path.l0 k l0 a1 ([] : List Int)) = some r:=by rw [if_pos rfl] at H;exact H
 clear H;have H:=H1;clear H1;have H':=Aside0.mk H;clear H
 go_enter Try.func70,Try.ntmps70
 go_wp2_with (first | ((with_reducible refine gate_callee (f:=69) rfl ?_);refine goesL_ (some 8) rfl rfl Try.func69 (by kernel_rfl) rfl #[.slice A0 l0.length c0,.int .i64 a1] rfl (by (try simp only [z3_,z4_,z5_]);first | done | rfl | (simp only [z6_,z7_];rfl)) ?_;(with_reducible refine (estoversref19_has.calls k _ _ l0 a1 true _ ?side1 ?side2 A3.out).mono ?_);(case side1 => repeat (first | exact HR0.out | (with_reducible refine Kd.C_alloc ?_ _) | (with_reducible refine Kd.C_drewN ?_ _) | (with_reducible refine Kd.C_drew ?_)));(case side2 => exact HC0.out);rintro e w' ⟨rfl,⟨nd,rfl⟩⟩;refine ⟨_,rfl,?_⟩))
 go_loopg [1,5] k (fun kq v1 v5 w' => ∃ (x1_1 : Int) (x5_1 : List Int),v1 = .int .i64 x1_1∧Aside0 (estoversref19_Path.l0 kq l0 x1_1 x5_1 = some r)∧Aside0 (kq≤k)∧Aside0 (Kd.R (Kd.int .i64) 3 w' w.heap.size (fun _ => True) v5 x5_1)∧Aside0 (Below w.heap.size w w'))
 case atStart => exact ⟨(a1),(([] : List Int)),(by first | rfl | (simp;done) | (simp [*];done)),H',⟨Nat.le_refl _⟩,⟨by first | exact Kd.R_nil _ _ _ _ _ | exact Kd.N_nil _ _ _ _ _ | exact Kd.V_nil _ _ _ _ _ | exact Kd.Q_nil _ _ _ _ _ | exact Kd.S_nil _ _ _ _ _⟩,⟨by repeat (first | (with_reducible first | exact HB.out | apply b0_ | apply b1_ | apply b2_) | exact HB.out)⟩⟩
 case round =>
  clear H';obtain ⟨x1_1,x5_1,rfl,HA,HK1,HO_5,HB⟩:=hrel
  cases gk with
   | zero => exact absurd HA.out (by simp [estoversref19_Path.l0])
   | succ k1 =>
    have H:=HA.out;clear HA;simp only [estoversref19_Path.l0] at H;by_cases c5 : x1_1≥0
    rotate_left
    ·
     rw [if_neg c5] at H;have c5b0 : decide (0≤x1_1) = false:=decide_eq_false c5;clear c5;obtain rfl:=Option.some.inj H;go_wp2;go_ret
     exact ⟨_,by first | rfl | (simp [errW_none,errW_some] <;> rfl) | (simp [*,errW_none,errW_some] <;> rfl),by (with_reducible repeat (first | apply Kd.R_alloc | apply Kd.R_drewN | apply Kd.R_drew));exact HO_5.out,by repeat (first | (with_reducible first | exact HB.out | apply b0_ | apply b1_ | apply b2_) | exact HB.out)⟩
    rw [if_pos c5] at H;have c5b0 : decide (0≤x1_1) = true:=decide_eq_true c5;clear c5;by_cases c6 : x5_1.length < 17592186044416
    rotate_left
    · rw [if_neg c6] at H;exact absurd H (by simp)
    rw [if_pos c6] at H;have LMc6:=Aside0.mk c6;clear c6;obtain ⟨y242,hy242⟩ : ∃ y_ : List Int,y_ = (x5_1 ++ [x1_1]):=⟨_,rfl⟩
    replace H : (if 0≤x1_1 then (if x1_1 < (l0.length : Int) then (estoversref19_Path.l0 k1 l0 ((rd_T30 l0 x1_1).f0) y242) else (none)) else (none)) = some r:=by first | (rw [hy242];with_reducible exact H) | (have H2_:=(Option.bind_some _ _).symm.trans H;rw [hy242];with_reducible exact H2_) | (have H2_:=(Option.bind_some _ _).symm.trans H;with_reducible exact H2_) | with_reducible exact H | (rw [hy242];exact H) | exact H
    have Ny242:=Aside0.mk hy242;clear hy242;by_cases c7 : 0≤x1_1
    rotate_left
    · rw [if_neg c7] at H;exact absurd H (by simp)
    rw [if_pos c7] at H;have c7b0 : decide (0≤x1_1) = true:=decide_eq_true c7;clear c7;by_cases c8 : x1_1 < (l0.length : Int)
    rotate_left
    · rw [if_neg c8] at H;exact absurd H (by simp)
    rw [if_pos c8] at H;have c8b0 : decide (x1_1 < (l0.length : Int)) = true:=decide_eq_true c8;clear c8;have H':=Aside0.mk H;clear H
    go_wp2_with (first | ((with_reducible refine gate_builtin (b:=.append) (xs:=#[.tmp 12,.tmp 14]) rfl ?_);at_builtin;refine Kd.R_append (Kd.int .i64) (w0:=w) w.heap.size rfl (.tmp 12) (.tmp 14) 50 3 (.int .i64 0) 8 rfl Try.underlying50 info3 rfl (by decide) (by omega) u5 x5_1 x1_1 [.int .i64 x1_1] (fun _ => True) (fun _ => False) rfl rfl ?aP (fun _ hk => hk.elim) ?aF ?aO ?aB ?aS ?aL ?_;(case aP => exact rfl);(case aB => exact (by repeat (first | (with_reducible first | exact HB.out | apply b0_ | apply b1_ | apply b2_) | exact HB.out)));(case aF => exact (fun _ _ => trivial));(case aO => exact (by (with_reducible repeat (first | apply Kd.R_alloc | apply Kd.R_drewN | apply Kd.R_drew));exact HO_5.out));(case aS => exact (below_size (by repeat (first | (with_reducible first | exact HB.out | apply b0_ | apply b1_ | apply b2_) | exact HB.out))));(case aL => have:=LMc6.out;omega);intro v243 w9 ho hb hg hat;rw [← Ny242.out] at ho;have n0_:=Aside0.mk (hb);have n1_:=Aside0.mk (ho);clear HB;clear HO_5;have HB:=n0_;have HO244:=n1_;clear n0_ n1_;clear ho hb hg hat;have p245 : 0≤(x1_1 : Int):=of_decide_eq_true (by first | (with_reducible assumption) | assumption);have q245 : x1_1 < (l0.length : Int):=of_decide_eq_true (by first | (with_reducible assumption) | assumption);obtain ⟨ad245,e245,hx245_0,hx245_1,hx245_2,hx245_3,hx245_4⟩:=at_T30 HR0.out x1_1 p245 q245;cases e245;replace hx245_0:=(HB.out.cell (World.block_lt_of_cell? w _ hx245_0)).trans hx245_0;replace hx245_1:=(HB.out.cell (World.block_lt_of_cell? w _ hx245_1)).trans hx245_1;replace hx245_2:=(HB.out.cell (World.block_lt_of_cell? w _ hx245_2)).trans hx245_2;replace hx245_3:=(HB.out.cell (World.block_lt_of_cell? w _ hx245_3)).trans hx245_3;replace hx245_4:=(HB.out.cell (World.block_lt_of_cell? w _ hx245_4)).trans hx245_4;replace p245:=eq_true p245;replace q245:=eq_true q245))
    go_roundg k1
    case measure => have:=HK1.out;omega
    case rel => exact ⟨((rd_T30 l0 x1_1).f0),(y242),(by first | rfl | (simp;done) | (simp [*];done)),H',⟨by have:=HK1.out;omega⟩,⟨by (with_reducible repeat (first | apply Kd.R_alloc | apply Kd.R_drewN | apply Kd.R_drew));exact HO244.out⟩,⟨by repeat (first | (with_reducible first | exact HB.out | apply b0_ | apply b1_ | apply b2_) | exact HB.out)⟩⟩
end Go.Proofs.Ytnmenfkmndnoaaa.Pr
