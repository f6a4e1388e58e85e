-- Written by a program of this session (a changed copy of the kit's printer). Not trusted: Lean checks it.
import Derived.Test.YtnmenfkmndnoaaaM0
import Derived.Test.YtnmenfkmndnoaaaFestoversref19Own
namespace Go.Proofs.Ytnmenfkmndnoaaa.Pr
open Go.RowKit Go.Proofs.YtnmenfkmndnoaaaW.PrintWords Go.Proofs.YtnmenfkmndnoaaaW.PrintLast Go.Proofs.YtnmenfkmndnoaaaW.PrintMore
attribute [local go_sem] max2_int min2_int max_two min_two max_three min_three max_four min_four
set_option linter.unusedVariables false
set_option linter.unusedSimpArgs false
mutual
def estoverstop_ownPages.l0 : Nat→List (S30)→List (S34)→Int→Int→Option ((List (S34)))
 | 0,_,_,_,_ => none
 | k + 1,x0,x3,x6,x7 => if x7 < x6 then ((estoversref19_Own.f k x0 x7).bind fun t450 => (estoverstop_ownPages.l1 k x0 x3 x7 x6 x7 (mx 0 (mn t450 300)) 0)) else (if (x3.length : Int) > 256 then (some ([] : List (S34))) else (some x3))
def estoverstop_ownPages.l1 : Nat→List (S30)→List (S34)→Int→Int→Int→Int→Int→Option ((List (S34)))
 | 0,_,_,_,_,_,_,_ => none
 | k + 1,x0,x3,x4,x6,x7,x14,x15 => if x15 < x14 then (if x3.length < 2932031007402 then (estoverstop_ownPages.l1 k x0 (x3 ++ [(⟨(x3.length : Int),x4,(x3.length : Int),0,(-1),true,false⟩ : S34)]) x4 x6 x7 x14 (wrap64 (x15 + 1))) else (none)) else (estoverstop_ownPages.l0 k x0 x3 x6 (wrap64 (x7 + 1)))
end
def estoverstop_ownPages.f (k : Nat) (l0 : List (S30)) : Option ((List (S34))):=estoverstop_ownPages.l0 k l0 ([] : List (S34)) (l0.length : Int) 0
theorem estoverstop_ownPages.mono_l : ∀ k,(∀ y0 y1 y2 y3,LeO (estoverstop_ownPages.l0 k y0 y1 y2 y3) (estoverstop_ownPages.l0 (k + 1) y0 y1 y2 y3))∧(∀ y0 y1 y2 y3 y4 y5 y6,LeO (estoverstop_ownPages.l1 k y0 y1 y2 y3 y4 y5 y6) (estoverstop_ownPages.l1 (k + 1) y0 y1 y2 y3 y4 y5 y6))
 | 0 => ⟨fun _ _ _ _ r h => by simp [estoverstop_ownPages.l0] at h,fun _ _ _ _ _ _ _ r h => by simp [estoverstop_ownPages.l1] at h⟩
 | k + 1 => by
  obtain ⟨ih0,ih1⟩:=estoverstop_ownPages.mono_l k;refine ⟨?_,?_⟩
  ·
   intro y0 y1 y2 y3
   unfold estoverstop_ownPages.l0
   repeat' first
    | (with_reducible exact ih0 _ _ _ _)
    | (with_reducible exact ih1 _ _ _ _ _ _ _)
    | (with_reducible exact estoversref19_Own.mono _ _ _)
    | (with_reducible exact LeO.refl _)
    | (with_reducible exact LeO.none _)
    | (with_reducible refine LeO.ite ?_ ?_)
    | (with_reducible refine LeO.bind ?_ (fun _ => ?_))
    | exact ih0 _ _ _ _
    | exact ih1 _ _ _ _ _ _ _
    | exact estoversref19_Own.mono _ _ _
    | exact LeO.none _
    | refine LeO.ite ?_ ?_
    | refine LeO.bind ?_ (fun _ => ?_)
  ·
   intro y0 y1 y2 y3 y4 y5 y6
   unfold estoverstop_ownPages.l1
   repeat' first
    | (with_reducible exact ih0 _ _ _ _)
    | (with_reducible exact ih1 _ _ _ _ _ _ _)
    | (with_reducible exact estoversref19_Own.mono _ _ _)
    | (with_reducible exact LeO.refl _)
    | (with_reducible exact LeO.none _)
    | (with_reducible refine LeO.ite ?_ ?_)
    | (with_reducible refine LeO.bind ?_ (fun _ => ?_))
    | exact ih0 _ _ _ _
    | exact ih1 _ _ _ _ _ _ _
    | exact estoversref19_Own.mono _ _ _
    | exact LeO.none _
    | refine LeO.ite ?_ ?_
    | refine LeO.bind ?_ (fun _ => ?_)
theorem estoverstop_ownPages.mono : ∀ a0 k,LeO (estoverstop_ownPages.f k a0) (estoverstop_ownPages.f (k + 1) a0):=by
 intro a0 k;obtain ⟨ih0,ih1⟩:=estoverstop_ownPages.mono_l k
 unfold estoverstop_ownPages.f
 repeat' first
  | (with_reducible exact ih0 _ _ _ _)
  | (with_reducible exact ih1 _ _ _ _ _ _ _)
  | (with_reducible exact estoversref19_Own.mono _ _ _)
  | (with_reducible exact LeO.refl _)
  | (with_reducible exact LeO.none _)
  | (with_reducible refine LeO.ite ?_ ?_)
  | (with_reducible refine LeO.bind ?_ (fun _ => ?_))
  | exact ih0 _ _ _ _
  | exact ih1 _ _ _ _ _ _ _
  | exact estoversref19_Own.mono _ _ _
  | exact LeO.none _
  | refine LeO.ite ?_ ?_
  | refine LeO.bind ?_ (fun _ => ?_)
set_option maxHeartbeats 8000000 in
set_option maxRecDepth 100000 in
theorem estoverstop_ownPages.calls (k : Nat) (A0 : Option Addr) (c0 : Nat) (l0 : List (S30)) (r : List (S34)) (w : World) (hr0 : Kd.C k30 w A0 l0.length l0) (hc0 : l0.length≤c0) (h : estoverstop_ownPages.f k l0 = some r) :
 Calls Try.prog 18 #[.slice A0 l0.length c0] w fun e w' => ∃ v0_ : Value,e = .returned (v0_)∧Kd.R k34 34 w' w.heap.size (fun _ => True) v0_ r∧Below w.heap.size w w':=by
 have hu34:=Try.underlying34;have HR0:=Aside0.mk hr0;have HC0:=Aside0.mk hc0;clear hr0 hc0;have HB:=Aside0.mk (Below.refl w.heap.size w);have H : (estoverstop_ownPages.l0 k l0 ([] : List (S34)) (l0.length : Int) 0) = some r:=h;clear h;have H':=Aside0.mk H;clear H
 go_enter Try.func18,Try.ntmps18
 go_wp2
 go_loopg [3,7] k (fun kq v3 v7 w' => ∃ (x3_1 : List (S34)) (x7_1 : Int),v7 = .int .i64 x7_1∧Aside0 (estoverstop_ownPages.l0 kq l0 x3_1 (l0.length : Int) x7_1 = some r)∧Aside0 (kq≤k)∧Aside0 (Kd.R k34 34 w' w.heap.size (fun _ => True) v3 x3_1)∧Aside0 (Below w.heap.size w w'))
 case atStart => exact ⟨(([] : List (S34))),(0),(by first | rfl | (simp;done) | (simp [*];done)),H',⟨Nat.le_refl _⟩,⟨by first | exact Kd.R_nil _ _ _ _ _ | exact Kd.N_nil _ _ _ _ _ | exact Kd.V_nil _ _ _ _ _ | exact Kd.Q_nil _ _ _ _ _ | exact Kd.S_nil _ _ _ _ _⟩,⟨by repeat (first | (with_reducible first | exact HB.out | apply b0_ | apply b1_ | apply b2_) | exact HB.out)⟩⟩
 case round =>
  clear H';obtain ⟨x3_1,x7_1,rfl,HA,HK1,HO_3,HB⟩:=hrel
  cases gk with
   | zero => exact absurd HA.out (by simp [estoverstop_ownPages.l0])
   | succ k1 =>
    have H:=HA.out;clear HA;simp only [estoverstop_ownPages.l0] at H;by_cases c2 : x7_1 < (l0.length : Int)
    rotate_left
    ·
     rw [if_neg c2] at H;have c2b0 : decide (x7_1 < (l0.length : Int)) = false:=decide_eq_false c2;clear c2;by_cases c10 : (x3_1.length : Int) > 256
     rotate_left
     ·
      rw [if_neg c10] at H;have c10b0 : decide (256 < (x3_1.length : Int)) = false:=decide_eq_false c10;have c10b1 : decide (256 < x3_1.length) = false:=decide_eq_false (by omega);clear c10;obtain rfl:=Option.some.inj H;obtain ⟨Ao12,co12,eo12⟩:=Kd.R_slice HO_3.out;subst eo12;go_wp2;go_ret
      exact ⟨_,by first | rfl | (simp [errW_none,errW_some] <;> rfl) | (simp [*,errW_none,errW_some] <;> rfl),by (with_reducible repeat (first | apply Kd.R_alloc | apply Kd.R_drewN | apply Kd.R_drew));exact HO_3.out,by repeat (first | (with_reducible first | exact HB.out | apply b0_ | apply b1_ | apply b2_) | exact HB.out)⟩
     rw [if_pos c10] at H;have c10b0 : decide (256 < (x3_1.length : Int)) = true:=decide_eq_true c10;have c10b1 : decide (256 < x3_1.length) = true:=decide_eq_true (by omega);clear c10;obtain rfl:=Option.some.inj H;obtain ⟨Ao11,co11,eo11⟩:=Kd.R_slice HO_3.out;subst eo11;go_wp2;go_ret
     exact ⟨_,by first | rfl | (simp [errW_none,errW_some] <;> rfl) | (simp [*,errW_none,errW_some] <;> rfl),by first | exact Kd.R_nil _ _ _ _ _ | exact Kd.N_nil _ _ _ _ _ | exact Kd.V_nil _ _ _ _ _ | exact Kd.Q_nil _ _ _ _ _ | exact Kd.S_nil _ _ _ _ _,by repeat (first | (with_reducible first | exact HB.out | apply b0_ | apply b1_ | apply b2_) | exact HB.out)⟩
    rw [if_pos c2] at H;have c2b0 : decide (x7_1 < (l0.length : Int)) = true:=decide_eq_true c2;clear c2;replace H:=Option.bind_eq_some_iff.mp H;obtain ⟨t450,A30,H⟩:=H;replace H : (estoverstop_ownPages.l1 k1 l0 x3_1 x7_1 (l0.length : Int) x7_1 (mx 0 (mn t450 300)) 0) = some r:=H;have A3:=Aside0.mk A30;clear A30;obtain ⟨ji4,hji4⟩ : ∃ j_ : Int,(mn t450 300) = j_:=⟨_,rfl⟩
    replace H : (estoverstop_ownPages.l1 k1 l0 x3_1 x7_1 (l0.length : Int) x7_1 (mx 0 (ji4)) 0) = some r:=by first | (rw [hji4] at H;exact H) | (simp only [hji4] at H ⊢;exact H)
    (try rw [hji4] at A3)
    (try (have hji4h : ji4≤300:=by (rw [← hji4];unfold mn;(repeat' split) <;> omega)))
    (try (have hji4g : ji4≤64:=by omega))
    have hji4_ : (if 300 < t450 then 300 else t450) = ji4:=hji4;obtain ⟨ji5,hji5⟩ : ∃ j_ : Int,(mx 0 (ji4)) = j_:=⟨_,rfl⟩
    replace H : (estoverstop_ownPages.l1 k1 l0 x3_1 x7_1 (l0.length : Int) x7_1 ji5 0) = some r:=by first | (rw [hji5] at H;exact H) | (simp only [hji5] at H ⊢;exact H)
    (try rw [hji5] at A3)
    have hji5_ : (if 0 < (ji4) then (ji4) else 0) = ji5:=hji5;have H':=Aside0.mk H;clear H
    go_wp2_with (first | ((with_reducible refine gate_callee (f:=49) rfl ?_);refine goesL_ (some 12) rfl rfl Try.func49 (by kernel_rfl) rfl #[.slice A0 l0.length c0,.int .i64 x7_1] rfl (by (try simp only [z3_,z4_,z5_]);first | done | rfl | (simp only [z6_,z7_];rfl)) ?_;(with_reducible refine (estoversref19_Own.calls k1 _ _ l0 x7_1 t450 _ ?side1 ?side2 A3.out).mono ?_);(case side1 => repeat (first | exact (Kd.C_below HR0.out HB.out) | (with_reducible refine Kd.C_alloc ?_ _) | (with_reducible refine Kd.C_drewN ?_ _) | (with_reducible refine Kd.C_drew ?_)));(case side2 => exact HC0.out);rintro e w' ⟨rfl,⟨nd,rfl⟩⟩;refine ⟨_,rfl,?_⟩))
    go_loopg [3,15] k1 (fun kq v3 v15 w' => ∃ (x3_2 : List (S34)) (x15_2 : Int),v15 = .int .i64 x15_2∧Aside0 (estoverstop_ownPages.l1 kq l0 x3_2 x7_1 (l0.length : Int) x7_1 ji5 x15_2 = some r)∧Aside0 (kq≤k1)∧Aside0 (Kd.R k34 34 w' w.heap.size (fun _ => True) v3 x3_2)∧Aside0 (Below w.heap.size w w'))
    case atStart => exact ⟨(x3_1),(0),(by first | rfl | (simp;done) | (simp [*];done)),H',⟨Nat.le_refl _⟩,⟨by (with_reducible repeat (first | apply Kd.R_alloc | apply Kd.R_drewN | apply Kd.R_drew));exact HO_3.out⟩,⟨by repeat (first | (with_reducible first | exact HB.out | apply b0_ | apply b1_ | apply b2_) | exact HB.out)⟩⟩
    case round =>
     clear H';obtain ⟨x3_2,x15_2,rfl,HA,HK2,HO_3,HB⟩:=hrel
     cases gk with
      | zero => exact absurd HA.out (by simp [estoverstop_ownPages.l1])
      | succ k2 =>
       have H:=HA.out;clear HA;simp only [estoverstop_ownPages.l1] at H;by_cases c6 : x15_2 < ji5
       rotate_left
       ·
        rw [if_neg c6] at H;have c6b0 : decide (x15_2 < ji5) = false:=decide_eq_false c6;clear c6;have H':=Aside0.mk H;clear H;go_wp2
        go_roundg k2
        case measure => have:=HK1.out;have:=HK2.out;omega
        case rel => exact ⟨(x3_2),(wrap64 (x7_1 + 1)),(by first | rfl | (simp;done) | (simp [*];done)),H',⟨by have:=HK1.out;have:=HK2.out;omega⟩,⟨by (with_reducible repeat (first | apply Kd.R_alloc | apply Kd.R_drewN | apply Kd.R_drew));exact HO_3.out⟩,⟨by repeat (first | (with_reducible first | exact HB.out | apply b0_ | apply b1_ | apply b2_) | exact HB.out)⟩⟩
       rw [if_pos c6] at H;have c6b0 : decide (x15_2 < ji5) = true:=decide_eq_true c6;clear c6;by_cases c7 : x3_2.length < 2932031007402
       rotate_left
       · rw [if_neg c7] at H;exact absurd H (by simp)
       rw [if_pos c7] at H;have LMc7:=Aside0.mk c7;clear c7;obtain ⟨y451,hy451⟩ : ∃ y_ : List (S34),y_ = (x3_2 ++ [(⟨(x3_2.length : Int),x7_1,(x3_2.length : Int),0,(-1),true,false⟩ : S34)]):=⟨_,rfl⟩
       replace H : (estoverstop_ownPages.l1 k2 l0 y451 x7_1 (l0.length : Int) x7_1 ji5 (wrap64 (x15_2 + 1))) = some r:=by first | (rw [hy451];with_reducible exact H) | (have H2_:=(Option.bind_some _ _).symm.trans H;rw [hy451];with_reducible exact H2_) | (have H2_:=(Option.bind_some _ _).symm.trans H;with_reducible exact H2_) | with_reducible exact H | (rw [hy451];exact H) | exact H
       have Ny451:=Aside0.mk hy451;clear hy451;have H':=Aside0.mk H;clear H;obtain ⟨Ao8,co8,eo8⟩:=Kd.R_slice HO_3.out;subst eo8
       go_wp2_with (first | ((with_reducible refine gate_builtin (b:=.append) (xs:=#[.tmp 17,.tmp 24]) rfl ?_);at_builtin;refine Kd.R_append k34 (w0:=w) w.heap.size rfl (.tmp 17) (.tmp 24) 27 34 (.agg #[(.int .i64 0),(.int .i64 0),(.int .i64 0),(.int .i64 0),(.int .i64 0),(.bool false),(.bool false)]) 48 rfl Try.underlying27 info34 rfl (by decide) (by omega) (.slice Ao8 x3_2.length co8) x3_2 (⟨(x3_2.length : Int),x7_1,(x3_2.length : Int),0,(-1),true,false⟩ : S34) [.int .i64 (x3_2.length : Int),.int .i64 x7_1,.int .i64 (x3_2.length : Int),.int .i64 0,.int .i64 (-1),.bool true,.bool false] (fun _ => True) (fun _ => False) rfl rfl ?aP (fun _ hk => hk.elim) ?aF ?aO ?aB ?aS ?aL ?_;(case aP => exact k34_mkM _ _ _ (⟨(x3_2.length : Int),x7_1,(x3_2.length : Int),0,(-1),true,false⟩ : S34));(case aB => exact (by repeat (first | (with_reducible first | exact HB.out | apply b0_ | apply b1_ | apply b2_) | exact HB.out)));(case aF => exact (fun _ _ => trivial));(case aO => exact (by (with_reducible repeat (first | apply Kd.R_alloc | apply Kd.R_drewN | apply Kd.R_drew));exact HO_3.out));(case aS => exact (below_size (by repeat (first | (with_reducible first | exact HB.out | apply b0_ | apply b1_ | apply b2_) | exact HB.out))));(case aL => have:=LMc7.out;omega);intro v452 w9 ho hb hg hat;rw [← Ny451.out] at ho;have n0_:=Aside0.mk (hb);have n1_:=Aside0.mk (ho);clear HB;clear HO_3;have HB:=n0_;have HO453:=n1_;clear n0_ n1_;clear ho hb hg hat))
       go_roundg k2
       case measure => have:=HK1.out;have:=HK2.out;omega
       case rel => exact ⟨(y451),(wrap64 (x15_2 + 1)),(by first | rfl | (simp;done) | (simp [*];done)),H',⟨by have:=HK1.out;have:=HK2.out;omega⟩,⟨by (with_reducible repeat (first | apply Kd.R_alloc | apply Kd.R_drewN | apply Kd.R_drew));exact HO453.out⟩,⟨by repeat (first | (with_reducible first | exact HB.out | apply b0_ | apply b1_ | apply b2_) | exact HB.out)⟩⟩
end Go.Proofs.Ytnmenfkmndnoaaa.Pr
