-- Written by a program of this session (a changed copy of the kit's printer). Not trusted: Lean checks it.
import Derived.Test.YtnmenfkmndnoaaaM0
namespace Go.Proofs.Ytnmenfkmndnoaaa.Pr
open Go.RowKit Go.Proofs.YtnmenfkmndnoaaaW.PrintWords Go.Proofs.YtnmenfkmndnoaaaW.PrintLast Go.Proofs.YtnmenfkmndnoaaaW.PrintMore
attribute [local go_sem] max2_int min2_int max_two min_two max_three min_three max_four min_four
set_option linter.unusedVariables false
set_option linter.unusedSimpArgs false
mutual
def estoversref39_Leaving.l0 : Nat→List (S34)→List Int→Int→Option (List Int)
 | 0,_,_,_ => none
 | k + 1,x0,x5,x6 => if x6 < (x0.length : Int) then (if 0≤x6 then (if (rd_T34 x0 x6).f6 = true then (estoversref39_Leaving.j1 k x0 x5 x6 (decide (((rd_T34 x0 x6).f1)≥0))) else (estoversref39_Leaving.j1 k x0 x5 x6 false)) else (none)) else (some x5)
def estoversref39_Leaving.j1 : Nat→List (S34)→List Int→Int→Bool→Option (List Int)
 | 0,_,_,_,_ => none
 | k + 1,x0,x5,x6,x28 => if x28 = true then (if 0≤x6 then (if x6 < (x0.length : Int) then (if 0≤((rd_T34 x0 x6).f1) then (if ((rd_T34 x0 x6).f1) < (x5.length : Int) then (estoversref39_Leaving.l0 k x0 (x5.set (((rd_T34 x0 x6).f1) : Int).toNat (wrap64 ((rd x5 ((rd_T34 x0 x6).f1)) + 1))) (wrap64 (x6 + 1))) else (none)) else (none)) else (none)) else (none)) else (estoversref39_Leaving.l0 k x0 x5 (wrap64 (x6 + 1)))
end
def estoversref39_Leaving.f (k : Nat) (l0 : List (S34)) (l1 : List (S30)) : Option (List Int):=if 0≤(l1.length : Int) then (if ((l1.length : Int) : Int).toNat≤35184372088832 then (estoversref39_Leaving.l0 k l0 (List.replicate ((l1.length : Int) : Int).toNat 0) 0) else (none)) else (none)
theorem estoversref39_Leaving.mono_l : ∀ k,(∀ y0 y1 y2,LeO (estoversref39_Leaving.l0 k y0 y1 y2) (estoversref39_Leaving.l0 (k + 1) y0 y1 y2))∧(∀ y0 y1 y2 y3,LeO (estoversref39_Leaving.j1 k y0 y1 y2 y3) (estoversref39_Leaving.j1 (k + 1) y0 y1 y2 y3))
 | 0 => ⟨fun _ _ _ r h => by simp [estoversref39_Leaving.l0] at h,fun _ _ _ _ r h => by simp [estoversref39_Leaving.j1] at h⟩
 | k + 1 => by
  obtain ⟨ih0,ih1⟩:=estoversref39_Leaving.mono_l k;refine ⟨?_,?_⟩
  ·
   intro y0 y1 y2
   unfold estoversref39_Leaving.l0
   repeat' first
    | (with_reducible exact ih0 _ _ _)
    | (with_reducible exact ih1 _ _ _ _)
    | (with_reducible exact LeO.refl _)
    | (with_reducible exact LeO.none _)
    | (with_reducible refine LeO.ite ?_ ?_)
    | (with_reducible refine LeO.bind ?_ (fun _ => ?_))
    | exact ih0 _ _ _
    | exact ih1 _ _ _ _
    | exact LeO.none _
    | refine LeO.ite ?_ ?_
    | refine LeO.bind ?_ (fun _ => ?_)
  ·
   intro y0 y1 y2 y3
   unfold estoversref39_Leaving.j1
   repeat' first
    | (with_reducible exact ih0 _ _ _)
    | (with_reducible exact ih1 _ _ _ _)
    | (with_reducible exact LeO.refl _)
    | (with_reducible exact LeO.none _)
    | (with_reducible refine LeO.ite ?_ ?_)
    | (with_reducible refine LeO.bind ?_ (fun _ => ?_))
    | exact ih0 _ _ _
    | exact ih1 _ _ _ _
    | exact LeO.none _
    | refine LeO.ite ?_ ?_
    | refine LeO.bind ?_ (fun _ => ?_)
theorem estoversref39_Leaving.mono : ∀ a0 a1 k,LeO (estoversref39_Leaving.f k a0 a1) (estoversref39_Leaving.f (k + 1) a0 a1):=by
 intro a0 a1 k;obtain ⟨ih0,ih1⟩:=estoversref39_Leaving.mono_l k
 unfold estoversref39_Leaving.f
 repeat' first
  | (with_reducible exact ih0 _ _ _)
  | (with_reducible exact ih1 _ _ _ _)
  | (with_reducible exact LeO.refl _)
  | (with_reducible exact LeO.none _)
  | (with_reducible refine LeO.ite ?_ ?_)
  | (with_reducible refine LeO.bind ?_ (fun _ => ?_))
  | exact ih0 _ _ _
  | exact ih1 _ _ _ _
  | exact LeO.none _
  | refine LeO.ite ?_ ?_
  | refine LeO.bind ?_ (fun _ => ?_)
set_option maxHeartbeats 8000000 in
set_option maxRecDepth 100000 in
theorem estoversref39_Leaving.calls (k : Nat) (A0 : Option Addr) (c0 : Nat) (l0 : List (S34)) (A1 : Option Addr) (c1 : Nat) (l1 : List (S30)) (r : List Int) (w : World) (hr0 : Kd.C k34 w A0 l0.length l0) (hc0 : l0.length≤c0) (hr1 : Kd.C k30 w A1 l1.length l1) (hc1 : l1.length≤c1) (h : estoversref39_Leaving.f k l0 l1 = some r) :
 Calls Try.prog 65 #[.slice A0 l0.length c0,.slice A1 l1.length c1] w fun e w' => ∃ v0_ : Value,e = .returned (v0_)∧Kd.R (Kd.int .i64) 3 w' w.heap.size (fun _ => True) v0_ r∧Below w.heap.size w w':=by
 have HR0:=Aside0.mk hr0;have HC0:=Aside0.mk hc0;clear hr0 hc0;have HR1:=Aside0.mk hr1;have HC1:=Aside0.mk hc1;clear hr1 hc1;have HB:=Aside0.mk (Below.refl w.heap.size w)
 have H : (if 0≤(l1.length : Int) then (if ((l1.length : Int) : Int).toNat≤35184372088832 then (estoversref39_Leaving.l0 k l0 (List.replicate ((l1.length : Int) : Int).toNat 0) 0) else (none)) else (none)) = some r:=h;clear h;by_cases c3 : 0≤(l1.length : Int)
 rotate_left
 · rw [if_neg c3] at H;exact absurd H (by simp)
 rw [if_pos c3] at H;have c3b0:=eq_true c3;have c3b1 : decide (0≤(l1.length : Int)) = true:=decide_eq_true c3;clear c3;by_cases c4 : ((l1.length : Int) : Int).toNat≤35184372088832
 rotate_left
 · rw [if_neg c4] at H;exact absurd H (by simp)
 rw [if_pos c4] at H;have c4b0:=eq_true c4;have c4b1 : decide (((l1.length : Int) : Int).toNat≤35184372088832) = true:=decide_eq_true c4;clear c4;obtain ⟨y278,hy278⟩ : ∃ y_ : List Int,y_ = (List.replicate ((l1.length : Int) : Int).toNat 0):=⟨_,rfl⟩
 replace H : (estoversref39_Leaving.l0 k l0 y278 0) = some r:=by first | (rw [hy278];with_reducible exact H) | (have H2_:=(Option.bind_some _ _).symm.trans H;rw [hy278];with_reducible exact H2_) | (have H2_:=(Option.bind_some _ _).symm.trans H;with_reducible exact H2_) | with_reducible exact H | (rw [hy278];exact H) | exact H
 have Ny278:=Aside0.mk hy278;clear hy278;have H':=Aside0.mk H;clear H
 go_enter Try.func65,Try.ntmps65
 go_wp2_with (first | ((with_reducible refine gate_dst (N:=9) rfl ?_);refine Kd.R_make (Kd.int .i64) _ 3 rfl (N:=9) rfl 50 _ _ rfl (l1.length : Int) rfl rfl Try.underlying50 (.int .i64 0) 8 info3 rfl (by decide) (by omega) 0 (ok:=fun _ => True) (okp:=fun _ => True) rfl (fun _ hk => hk) trivial (of_decide_eq_true (by first | (with_reducible assumption) | assumption)) (Nat.le_trans (Nat.mul_le_mul_right _ (of_decide_eq_true (by first | (with_reducible assumption) | assumption) : (l1.length : Int).toNat≤35184372088832)) (by omega)) (Below.refl _ _) (Nat.le_refl _) ?_;intro v279 w5 ho6 hb hg_ hnew_;clear hg_ hnew_;(first | rw [← Ny278.out] at ho6 | (simp only [Int.reduceToNat] at ho6;rw [← Ny278.out] at ho6));have n0_:=Aside0.mk (Kd.R_lower ho6 (below_size (by repeat (first | (with_reducible first | exact HB.out | apply b0_ | apply b1_ | apply b2_) | exact HB.out))));have n1_:=Aside0.mk (below_step (by repeat (first | (with_reducible first | exact HB.out | apply b0_ | apply b1_ | apply b2_) | exact HB.out)) hb);clear HB;have HO280:=n0_;have HB:=n1_;clear n0_ n1_;clear hb ho6))
 go_loopg [6] k (fun kq v6 w' => ∃ (x5_1 : List Int) (x6_1 : Int),v6 = .int .i64 x6_1∧Aside0 (estoversref39_Leaving.l0 kq l0 x5_1 x6_1 = some r)∧Aside0 (kq≤k)∧Aside0 (Kd.R (Kd.int .i64) 3 w' w.heap.size (fun _ => True) v279 x5_1)∧Aside0 (Below w.heap.size w w'))
 case atStart => exact ⟨(y278),(0),(by first | rfl | (simp;done) | (simp [*];done)),H',⟨Nat.le_refl _⟩,⟨by (with_reducible repeat (first | apply Kd.R_alloc | apply Kd.R_drewN | apply Kd.R_drew));exact HO280.out⟩,⟨by repeat (first | (with_reducible first | exact HB.out | apply b0_ | apply b1_ | apply b2_) | exact HB.out)⟩⟩
 case round =>
  clear H';obtain ⟨x5_1,x6_1,rfl,HA,HK1,HO_5,HB⟩:=hrel
  cases gk with
   | zero => exact absurd HA.out (by simp [estoversref39_Leaving.l0])
   | succ k1 =>
    have H:=HA.out;clear HA;simp only [estoversref39_Leaving.l0] at H;by_cases c7 : x6_1 < (l0.length : Int)
    rotate_left
    ·
     rw [if_neg c7] at H;have c7b0 : decide (x6_1 < (l0.length : Int)) = false:=decide_eq_false c7;clear c7;obtain rfl:=Option.some.inj H;go_wp2;go_ret
     exact ⟨_,by first | rfl | (simp [errW_none,errW_some] <;> rfl) | (simp [*,errW_none,errW_some] <;> rfl),by (with_reducible repeat (first | apply Kd.R_alloc | apply Kd.R_drewN | apply Kd.R_drew));exact HO_5.out,by repeat (first | (with_reducible first | exact HB.out | apply b0_ | apply b1_ | apply b2_) | exact HB.out)⟩
    rw [if_pos c7] at H;have c7b0 : decide (x6_1 < (l0.length : Int)) = true:=decide_eq_true c7;clear c7;have HC8:=Aside0.mk H;clear H
    go_upto_region 5 with (fail)
    go_cut [28] (fun v28 wc => ∃ (kq : Nat) (x28_7 : Bool),v28 = .bool x28_7∧Aside0 (estoversref39_Leaving.j1 kq l0 x5_1 x6_1 x28_7 = some r)∧Aside0 (kq≤k1)∧Aside0 (Kd.R (Kd.int .i64) 3 wc w.heap.size (fun _ => True) v279 x5_1)∧Aside0 (Below w.heap.size w wc))
    case first =>
     have H:=HC8.out;clear HC8;by_cases c9 : 0≤x6_1
     rotate_left
     · rw [if_neg c9] at H;exact absurd H (by simp)
     rw [if_pos c9] at H;have c9b0 : decide (0≤x6_1) = true:=decide_eq_true c9;clear c9
     (first | rw [c9b0] | (simp only [i64_w,i32_w];rw [c9b0]) | skip)
     obtain ⟨bq10,hbq10⟩ : ∃ b_ : Bool,b_ = ((rd_T34 l0 x6_1).f6):=⟨_,rfl⟩
     replace H : (if bq10 = true then (estoversref39_Leaving.j1 k1 l0 x5_1 x6_1 (decide (((rd_T34 l0 x6_1).f1)≥0))) else (estoversref39_Leaving.j1 k1 l0 x5_1 x6_1 false)) = some r:=by rw [← hbq10] at H;exact H
     have Nbq10:=Aside0.mk hbq10;clear hbq10;by_cases c11 : bq10 = true
     rotate_left
     ·
      replace c11:=Bool.eq_false_iff.mpr c11;subst c11
      have H1 : (estoversref39_Leaving.j1 k1 l0 x5_1 x6_1 false) = some r:=by rw [if_neg (show ¬ (false = true) by decide)] at H;exact H
      clear H;have H:=H1;clear H1;have H':=Aside0.mk H;clear H;have p281 : 0≤(x6_1 : Int):=of_decide_eq_true (by first | (with_reducible assumption) | assumption);have q281 : x6_1 < (l0.length : Int):=of_decide_eq_true (by first | (with_reducible assumption) | assumption);obtain ⟨ad281,e281,hx281_0,hx281_1,hx281_2,hx281_3,hx281_4,hx281_5,hx281_6⟩:=at_T34 HR0.out x6_1 p281 q281
      (try rw [← Nbq10.out] at hx281_5)
      (try rw [← Nbq10.out] at hx281_6)
      cases e281;replace hx281_0:=(HB.out.cell (World.block_lt_of_cell? w _ hx281_0)).trans hx281_0;replace hx281_1:=(HB.out.cell (World.block_lt_of_cell? w _ hx281_1)).trans hx281_1;replace hx281_2:=(HB.out.cell (World.block_lt_of_cell? w _ hx281_2)).trans hx281_2;replace hx281_3:=(HB.out.cell (World.block_lt_of_cell? w _ hx281_3)).trans hx281_3
      replace hx281_4:=(HB.out.cell (World.block_lt_of_cell? w _ hx281_4)).trans hx281_4;replace hx281_5:=(HB.out.cell (World.block_lt_of_cell? w _ hx281_5)).trans hx281_5;replace hx281_6:=(HB.out.cell (World.block_lt_of_cell? w _ hx281_6)).trans hx281_6;replace p281:=eq_true p281;replace q281:=eq_true q281;go_wp2
      go_meet
      case rel => exact ⟨_,(false),(by first | rfl | (simp;done) | (simp [*];done)),H',⟨by have:=HK1.out;first | omega | exact Nat.le_refl _⟩,⟨by (with_reducible repeat (first | apply Kd.R_alloc | apply Kd.R_drewN | apply Kd.R_drew));exact HO_5.out⟩,⟨by repeat (first | (with_reducible first | exact HB.out | apply b0_ | apply b1_ | apply b2_) | exact HB.out)⟩⟩
     subst c11
     have H1 : (estoversref39_Leaving.j1 k1 l0 x5_1 x6_1 (decide (((rd_T34 l0 x6_1).f1)≥0))) = some r:=by rw [if_pos rfl] at H;exact H
     clear H;have H:=H1;clear H1;have H':=Aside0.mk H;clear H;have p281 : 0≤(x6_1 : Int):=of_decide_eq_true (by first | (with_reducible assumption) | assumption);have q281 : x6_1 < (l0.length : Int):=of_decide_eq_true (by first | (with_reducible assumption) | assumption);obtain ⟨ad281,e281,hx281_0,hx281_1,hx281_2,hx281_3,hx281_4,hx281_5,hx281_6⟩:=at_T34 HR0.out x6_1 p281 q281
     (try rw [← Nbq10.out] at hx281_5)
     (try rw [← Nbq10.out] at hx281_6)
     cases e281;replace hx281_0:=(HB.out.cell (World.block_lt_of_cell? w _ hx281_0)).trans hx281_0;replace hx281_1:=(HB.out.cell (World.block_lt_of_cell? w _ hx281_1)).trans hx281_1;replace hx281_2:=(HB.out.cell (World.block_lt_of_cell? w _ hx281_2)).trans hx281_2;replace hx281_3:=(HB.out.cell (World.block_lt_of_cell? w _ hx281_3)).trans hx281_3
     replace hx281_4:=(HB.out.cell (World.block_lt_of_cell? w _ hx281_4)).trans hx281_4;replace hx281_5:=(HB.out.cell (World.block_lt_of_cell? w _ hx281_5)).trans hx281_5;replace hx281_6:=(HB.out.cell (World.block_lt_of_cell? w _ hx281_6)).trans hx281_6;replace p281:=eq_true p281;replace q281:=eq_true q281
     have p282 : 0≤(x6_1 : Int):=of_decide_eq_true (by first | (with_reducible assumption) | assumption);have q282 : x6_1 < (l0.length : Int):=of_decide_eq_true (by first | (with_reducible assumption) | assumption);obtain ⟨ad282,e282,hx282_0,hx282_1,hx282_2,hx282_3,hx282_4,hx282_5,hx282_6⟩:=at_T34 HR0.out x6_1 p282 q282
     (try rw [← Nbq10.out] at hx282_5)
     (try rw [← Nbq10.out] at hx282_6)
     obtain rfl : ad281 = ad282:=(by injection e282);replace hx282_0:=(HB.out.cell (World.block_lt_of_cell? w _ hx282_0)).trans hx282_0;replace hx282_1:=(HB.out.cell (World.block_lt_of_cell? w _ hx282_1)).trans hx282_1;replace hx282_2:=(HB.out.cell (World.block_lt_of_cell? w _ hx282_2)).trans hx282_2;replace hx282_3:=(HB.out.cell (World.block_lt_of_cell? w _ hx282_3)).trans hx282_3
     replace hx282_4:=(HB.out.cell (World.block_lt_of_cell? w _ hx282_4)).trans hx282_4;replace hx282_5:=(HB.out.cell (World.block_lt_of_cell? w _ hx282_5)).trans hx282_5;replace hx282_6:=(HB.out.cell (World.block_lt_of_cell? w _ hx282_6)).trans hx282_6;replace p282:=eq_true p282;replace q282:=eq_true q282;go_wp2
     go_meet
     case rel => exact ⟨_,(decide (((rd_T34 l0 x6_1).f1)≥0)),(by first | rfl | (simp;done) | (simp [*];done)),H',⟨by have:=HK1.out;first | omega | exact Nat.le_refl _⟩,⟨by (with_reducible repeat (first | apply Kd.R_alloc | apply Kd.R_drewN | apply Kd.R_drew));exact HO_5.out⟩,⟨by repeat (first | (with_reducible first | exact HB.out | apply b0_ | apply b1_ | apply b2_) | exact HB.out)⟩⟩
    case rest =>
     clear HC8;obtain ⟨kq,x28_7,rfl,HA,HJ7,HO_5,HB⟩:=hcut
     cases kq with
      | zero => exact absurd HA.out (by simp [estoversref39_Leaving.j1])
      | succ kj7 =>
       have H:=HA.out;clear HA;simp only [estoversref39_Leaving.j1] at H;by_cases c12 : x28_7 = true
       rotate_left
       ·
        replace c12:=Bool.eq_false_iff.mpr c12;subst c12
        have H1 : (estoversref39_Leaving.l0 kj7 l0 x5_1 (wrap64 (x6_1 + 1))) = some r:=by rw [if_neg (show ¬ (false = true) by decide)] at H;exact H
        clear H;have H:=H1;clear H1;have H':=Aside0.mk H;clear H;go_wp2
        go_roundg kj7
        case measure => have:=HK1.out;have:=HJ7.out;omega
        case rel => exact ⟨(x5_1),(wrap64 (x6_1 + 1)),(by first | rfl | (simp;done) | (simp [*];done)),H',⟨by have:=HK1.out;have:=HJ7.out;omega⟩,⟨by (with_reducible repeat (first | apply Kd.R_alloc | apply Kd.R_drewN | apply Kd.R_drew));exact HO_5.out⟩,⟨by repeat (first | (with_reducible first | exact HB.out | apply b0_ | apply b1_ | apply b2_) | exact HB.out)⟩⟩
       subst c12
       have H1 : (if 0≤x6_1 then (if x6_1 < (l0.length : Int) then (if 0≤((rd_T34 l0 x6_1).f1) then (if ((rd_T34 l0 x6_1).f1) < (x5_1.length : Int) then (estoversref39_Leaving.l0 kj7 l0 (x5_1.set (((rd_T34 l0 x6_1).f1) : Int).toNat (wrap64 ((rd x5_1 ((rd_T34 l0 x6_1).f1)) + 1))) (wrap64 (x6_1 + 1))) else (none)) else (none)) else (none)) else (none)) = some r:=by rw [if_pos rfl] at H;exact H
       clear H;have H:=H1;clear H1;by_cases c13 : 0≤x6_1
       rotate_left
       · rw [if_neg c13] at H;exact absurd H (by simp)
       rw [if_pos c13] at H;have c13b0 : decide (0≤x6_1) = true:=decide_eq_true c13;clear c13;by_cases c14 : x6_1 < (l0.length : Int)
       rotate_left
       · rw [if_neg c14] at H;exact absurd H (by simp)
       rw [if_pos c14] at H;have c14b0 : decide (x6_1 < (l0.length : Int)) = true:=decide_eq_true c14;clear c14;by_cases c15 : 0≤((rd_T34 l0 x6_1).f1)
       rotate_left
       · rw [if_neg c15] at H;exact absurd H (by simp)
       rw [if_pos c15] at H;have c15b0 : decide (0≤((rd_T34 l0 x6_1).f1)) = true:=decide_eq_true c15;clear c15;by_cases c16 : ((rd_T34 l0 x6_1).f1) < (x5_1.length : Int)
       rotate_left
       · rw [if_neg c16] at H;exact absurd H (by simp)
       rw [if_pos c16] at H;have c16b0 : decide (((rd_T34 l0 x6_1).f1) < (x5_1.length : Int)) = true:=decide_eq_true c16;clear c16;obtain ⟨y285,hy285⟩ : ∃ y_ : List Int,y_ = (x5_1.set (((rd_T34 l0 x6_1).f1) : Int).toNat (wrap64 ((rd x5_1 ((rd_T34 l0 x6_1).f1)) + 1))):=⟨_,rfl⟩
       replace H : (estoversref39_Leaving.l0 kj7 l0 y285 (wrap64 (x6_1 + 1))) = some r:=by first | (rw [hy285];with_reducible exact H) | (have H2_:=(Option.bind_some _ _).symm.trans H;rw [hy285];with_reducible exact H2_) | (have H2_:=(Option.bind_some _ _).symm.trans H;with_reducible exact H2_) | with_reducible exact H | (rw [hy285];exact H) | exact H
       have Ny285:=Aside0.mk hy285;clear hy285;have H':=Aside0.mk H;clear H;have p283 : 0≤(x6_1 : Int):=of_decide_eq_true (by first | (with_reducible assumption) | assumption);have q283 : x6_1 < (l0.length : Int):=of_decide_eq_true (by first | (with_reducible assumption) | assumption)
       obtain ⟨ad283,e283,hx283_0,hx283_1,hx283_2,hx283_3,hx283_4,hx283_5,hx283_6⟩:=at_T34 HR0.out x6_1 p283 q283;cases e283;replace hx283_0:=(HB.out.cell (World.block_lt_of_cell? w _ hx283_0)).trans hx283_0;replace hx283_1:=(HB.out.cell (World.block_lt_of_cell? w _ hx283_1)).trans hx283_1;replace hx283_2:=(HB.out.cell (World.block_lt_of_cell? w _ hx283_2)).trans hx283_2
       replace hx283_3:=(HB.out.cell (World.block_lt_of_cell? w _ hx283_3)).trans hx283_3;replace hx283_4:=(HB.out.cell (World.block_lt_of_cell? w _ hx283_4)).trans hx283_4;replace hx283_5:=(HB.out.cell (World.block_lt_of_cell? w _ hx283_5)).trans hx283_5;replace hx283_6:=(HB.out.cell (World.block_lt_of_cell? w _ hx283_6)).trans hx283_6;replace p283:=eq_true p283
       replace q283:=eq_true q283;obtain ⟨Ao18,co18,eo18⟩:=Kd.R_slice HO_5.out;subst eo18;have p284 : 0≤(((rd_T34 l0 x6_1).f1) : Int):=of_decide_eq_true (by first | (with_reducible assumption) | assumption);have q284 : ((rd_T34 l0 x6_1).f1) < (x5_1.length : Int):=of_decide_eq_true (by first | (with_reducible assumption) | assumption)
       obtain ⟨ad284,e284,hx284_0⟩:=Kd.at_int (Kd.R_reads' HO_5.out).2.2 ((rd_T34 l0 x6_1).f1) p284 q284;cases e284;replace p284:=eq_true p284;replace q284:=eq_true q284;have p17 : 0≤(((rd_T34 l0 x6_1).f1) : Int):=of_decide_eq_true (by first | (with_reducible assumption) | assumption)
       have q17 : (((rd_T34 l0 x6_1).f1) : Int) < ((x5_1.length : Int) : Int):=of_decide_eq_true (by first | (with_reducible assumption) | assumption);obtain ⟨go17,co17,eo17,gb17,gl17,cl17,HG17⟩:=Kd.R_form HO_5.out (by omega)
       (first | cases eo17 | (injection eo17 with ea_ en_ ec_;(first | subst ea_ | (injection ea_ with ea_;subst ea_));subst ec_;clear en_))
       have GB17:=Aside0.mk gb17;have GG17:=Aside0.mk HG17;clear gb17 gl17 HG17
       (first | simp only [add_plain] at hx284_0 | skip)
       obtain ⟨hx17_0,hf17_0⟩:=Kd.R_celln 0 HO_5.out (((rd_T34 l0 x6_1).f1) : Int) p17 q17;replace p17:=eq_true p17;replace q17:=eq_true q17;have HP19:=Kd.R_putg HO_5.out (((rd_T34 l0 x6_1).f1) : Int) (wrap64 ((rd x5_1 ((rd_T34 l0 x6_1).f1)) + 1))
       go_wp2_with (first | ((with_reducible refine gate_store (t:=3) (p:=38) rfl ?_);refine store_event (t:=3) (p:=38) (v:=?vo_w20) (w1:=(wc.setCell ⟨go17,(((rd_T34 l0 x6_1).f1) : Int).toNat,none⟩ (.int .i64 (wrap64 ((rd x5_1 ((rd_T34 l0 x6_1).f1)) + 1))))) ?hg ?ho ?hn ?hr ?_;(case ho => rfl);(case hg => rfl);(case hn => rfl);(case hr => first | (go_simp;done) | (go_simp;rfl));intro w20 hw;have hg : wc.grownBy w20 (some go17):=(by rw [hw];exact HP19.2);have hp_ : Kd.R (Kd.int .i64) 3 w20 w.heap.size (fun _ => True) (.slice (some ⟨go17,0,none⟩) x5_1.length co18) y285:=(by rw [hw,Ny285.out];exact HP19.1);clear HP19;have n0_:=Aside0.mk (hp_);have n1_:=Aside0.mk ((by rw [hw];exact below_set (HB.out) GB17.out : Below w.heap.size w w20));clear HO_5;clear HB;have HO_5:=n0_;have HB:=n1_;clear n0_ n1_;clear hg hw hp_))
       go_roundg kj7
       case measure => have:=HK1.out;have:=HJ7.out;omega
       case rel => exact ⟨(y285),(wrap64 (x6_1 + 1)),(by first | rfl | (simp;done) | (simp [*];done)),H',⟨by have:=HK1.out;have:=HJ7.out;omega⟩,⟨by (with_reducible repeat (first | apply Kd.R_alloc | apply Kd.R_drewN | apply Kd.R_drew));exact HO_5.out⟩,⟨by repeat (first | (with_reducible first | exact HB.out | apply b0_ | apply b1_ | apply b2_) | exact HB.out)⟩⟩
end Go.Proofs.Ytnmenfkmndnoaaa.Pr
