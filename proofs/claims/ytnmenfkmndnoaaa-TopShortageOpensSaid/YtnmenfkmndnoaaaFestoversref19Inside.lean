-- Written by a program of this session (a changed copy of the kit's printer). Not trusted: Lean checks it.
import Derived.Test.YtnmenfkmndnoaaaM0
import Derived.Test.YtnmenfkmndnoaaaFestoversref19Path
import Derived.Test.YtnmenfkmndnoaaaFestoversref19has
namespace Go.Proofs.Ytnmenfkmndnoaaa.Pr
open Go.RowKit Go.Proofs.YtnmenfkmndnoaaaW.PrintWords Go.Proofs.YtnmenfkmndnoaaaW.PrintLast Go.Proofs.YtnmenfkmndnoaaaW.PrintMore
attribute [local go_sem] max2_int min2_int max_two min_two max_three min_three max_four min_four
set_option linter.unusedVariables false
set_option linter.unusedSimpArgs false
def estoversref19_Inside.l0 : Nat→Int→List Int→Int→Option (Bool)
 | 0,_,_,_ => none
 | k + 1,x2,x7,x8 => if x8 < (x7.length : Int) then (if 0≤x8 then (if (rd x7 x8) = x2 then (some true) else (estoversref19_Inside.l0 k x2 x7 (wrap64 (x8 + 1)))) else (none)) else (some false)
def estoversref19_Inside.f (k : Nat) (l0 : List (S30)) (a1 : Int) (a2 : Int) : Option (Bool):=(estoversref19_has.f k l0 a1).bind fun t246 => (if t246 = true then (if a2 = (-1) then (some true) else ((estoversref19_Path.f k l0 a1).bind fun t247 => (estoversref19_Inside.l0 k a2 t247 0))) else (some false))
theorem estoversref19_Inside.mono_l : ∀ k,(∀ y0 y1 y2,LeO (estoversref19_Inside.l0 k y0 y1 y2) (estoversref19_Inside.l0 (k + 1) y0 y1 y2))
 | 0 => fun _ _ _ r h => by simp [estoversref19_Inside.l0] at h
 | k + 1 => by
  have ih0:=estoversref19_Inside.mono_l k
  ·
   intro y0 y1 y2
   unfold estoversref19_Inside.l0
   repeat' first
    | (with_reducible exact ih0 _ _ _)
    | (with_reducible exact estoversref19_Path.mono _ _ _)
    | (with_reducible exact estoversref19_has.mono _ _ _)
    | (with_reducible exact LeO.refl _)
    | (with_reducible exact LeO.none _)
    | (with_reducible refine LeO.ite ?_ ?_)
    | (with_reducible refine LeO.bind ?_ (fun _ => ?_))
    | exact ih0 _ _ _
    | exact estoversref19_Path.mono _ _ _
    | exact estoversref19_has.mono _ _ _
    | exact LeO.none _
    | refine LeO.ite ?_ ?_
    | refine LeO.bind ?_ (fun _ => ?_)
theorem estoversref19_Inside.mono : ∀ a0 a1 a2 k,LeO (estoversref19_Inside.f k a0 a1 a2) (estoversref19_Inside.f (k + 1) a0 a1 a2):=by
 intro a0 a1 a2 k;have ih0:=estoversref19_Inside.mono_l k
 unfold estoversref19_Inside.f
 repeat' first
  | (with_reducible exact ih0 _ _ _)
  | (with_reducible exact estoversref19_Path.mono _ _ _)
  | (with_reducible exact estoversref19_has.mono _ _ _)
  | (with_reducible exact LeO.refl _)
  | (with_reducible exact LeO.none _)
  | (with_reducible refine LeO.ite ?_ ?_)
  | (with_reducible refine LeO.bind ?_ (fun _ => ?_))
  | exact ih0 _ _ _
  | exact estoversref19_Path.mono _ _ _
  | exact estoversref19_has.mono _ _ _
  | exact LeO.none _
  | refine LeO.ite ?_ ?_
  | refine LeO.bind ?_ (fun _ => ?_)
set_option maxHeartbeats 8000000 in
set_option maxRecDepth 100000 in
theorem estoversref19_Inside.calls (k : Nat) (A0 : Option Addr) (c0 : Nat) (l0 : List (S30)) (a1 : Int) (a2 : Int) (r : Bool) (w : World) (hr0 : Kd.C k30 w A0 l0.length l0) (hc0 : l0.length≤c0) (h : estoversref19_Inside.f k l0 a1 a2 = some r) :
 Calls Try.prog 42 #[.slice A0 l0.length c0,.int .i64 a1,.int .i64 a2] w fun e w' => e = .returned (.bool r)∧Below w.heap.size w w':=by
 have HR0:=Aside0.mk hr0;have HC0:=Aside0.mk hc0;clear hr0 hc0;have HB:=Aside0.mk (Below.refl w.heap.size w);have H : ((estoversref19_has.f k l0 a1).bind fun t246 => (if t246 = true then (if a2 = (-1) then (some true) else ((estoversref19_Path.f k l0 a1).bind fun t247 => (estoversref19_Inside.l0 k a2 t247 0))) else (some false))) = some r:=h;clear h
 replace H:=Option.bind_eq_some_iff.mp H;obtain ⟨t246,A40,H⟩:=H;replace H : (if t246 = true then (if a2 = (-1) then (some true) else ((estoversref19_Path.f k l0 a1).bind fun t247 => (estoversref19_Inside.l0 k a2 t247 0))) else (some false)) = some r:=H;have A4:=Aside0.mk A40;clear A40;by_cases c5 : t246 = true
 rotate_left
 ·
  replace c5:=Bool.eq_false_iff.mpr c5;subst c5
  have H1 : (some false) = some r:=by rw [if_neg (show ¬ (false = true) by decide)] at H;exact H
  clear H;have H:=H1;clear H1;obtain rfl:=Option.some.inj H
  go_enter Try.func42,Try.ntmps42
  go_wp2_with (first | ((with_reducible refine gate_callee (f:=69) rfl ?_);refine goesL_ (some 11) rfl rfl Try.func69 (by kernel_rfl) rfl #[.slice A0 l0.length c0,.int .i64 a1] rfl (by (try simp only [z3_,z4_,z5_]);first | done | rfl | (simp only [z6_,z7_];rfl)) ?_;(with_reducible refine (estoversref19_has.calls k _ _ l0 a1 false _ ?side1 ?side2 A4.out).mono ?_);(case side1 => repeat (first | exact HR0.out | (with_reducible refine Kd.C_alloc ?_ _) | (with_reducible refine Kd.C_drewN ?_ _) | (with_reducible refine Kd.C_drew ?_)));(case side2 => exact HC0.out);rintro e w' ⟨rfl,⟨nd,rfl⟩⟩;refine ⟨_,rfl,?_⟩))
  go_ret;exact ⟨by first | rfl | (simp [errW_none,errW_some] <;> rfl) | (simp [*,errW_none,errW_some] <;> rfl),by repeat (first | (with_reducible first | exact HB.out | apply b0_ | apply b1_ | apply b2_) | exact HB.out)⟩
 subst c5
 have H1 : (if a2 = (-1) then (some true) else ((estoversref19_Path.f k l0 a1).bind fun t247 => (estoversref19_Inside.l0 k a2 t247 0))) = some r:=by rw [if_pos rfl] at H;exact H
 clear H;have H:=H1;clear H1;by_cases c6 : a2 = (-1)
 rotate_left
 ·
  rw [if_neg c6] at H;have c6b0 : (a2 == (-1)) = false:=beq_eq_false_iff_ne.mpr c6;have c6b1 : (a2 != (-1)) = true:=bne_iff_ne.mpr c6;replace H:=Option.bind_eq_some_iff.mp H;obtain ⟨t247,A70,H⟩:=H;replace H : (estoversref19_Inside.l0 k a2 t247 0) = some r:=H;have A7:=Aside0.mk A70;clear A70;have H':=Aside0.mk H;clear H
  go_enter Try.func42,Try.ntmps42
  go_wp2_with (first | ((with_reducible refine gate_callee (f:=69) rfl ?_);refine goesL_ (some 11) rfl rfl Try.func69 (by kernel_rfl) rfl #[.slice A0 l0.length c0,.int .i64 a1] rfl (by (try simp only [z3_,z4_,z5_]);first | done | rfl | (simp only [z6_,z7_];rfl)) ?_;(with_reducible refine (estoversref19_has.calls k _ _ l0 a1 true _ ?side1 ?side2 A4.out).mono ?_);(case side1 => repeat (first | exact HR0.out | (with_reducible refine Kd.C_alloc ?_ _) | (with_reducible refine Kd.C_drewN ?_ _) | (with_reducible refine Kd.C_drew ?_)));(case side2 => exact HC0.out);rintro e w' ⟨rfl,⟨nd,rfl⟩⟩;refine ⟨_,rfl,?_⟩) | ((with_reducible refine gate_callee (f:=70) rfl ?_);refine goesL_ (some 17) rfl rfl Try.func70 (by kernel_rfl) rfl #[.slice A0 l0.length c0,.int .i64 a1] rfl (by (try simp only [z3_,z4_,z5_]);first | done | rfl | (simp only [z6_,z7_];rfl)) ?_;(with_reducible refine (estoversref19_Path.calls k _ _ l0 a1 t247 _ ?side1 ?side2 A7.out).mono ?_);(case side1 => repeat (first | exact HR0.out | (with_reducible refine Kd.C_alloc ?_ _) | (with_reducible refine Kd.C_drewN ?_ _) | (with_reducible refine Kd.C_drew ?_)));(case side2 => exact HC0.out);rintro e w8 ⟨v248,rfl,ho0,hb⟩;refine ⟨_,rfl,?_⟩;have n0_:=Aside0.mk (Kd.R_lower ho0 (below_size (by repeat (first | (with_reducible first | exact HB.out | apply b0_ | apply b1_ | apply b2_) | exact HB.out))));have n1_:=Aside0.mk (below_step (by repeat (first | (with_reducible first | exact HB.out | apply b0_ | apply b1_ | apply b2_) | exact HB.out)) hb);clear HB;have HO249:=n0_;have HB:=n1_;clear n0_ n1_;(try clear ho0)))
  go_loopg [8] k (fun kq v8 w' => ∃ (x8_1 : Int),v8 = .int .i64 x8_1∧Aside0 (estoversref19_Inside.l0 kq a2 t247 x8_1 = some r)∧Aside0 (kq≤k)∧Aside0 (Kd.R (Kd.int .i64) 3 w' w.heap.size (fun _ => True) v248 t247)∧Aside0 (Below w.heap.size w w'))
  case atStart => exact ⟨(0),(by first | rfl | (simp;done) | (simp [*];done)),H',⟨Nat.le_refl _⟩,⟨by (with_reducible repeat (first | apply Kd.R_alloc | apply Kd.R_drewN | apply Kd.R_drew));exact HO249.out⟩,⟨by repeat (first | (with_reducible first | exact HB.out | apply b0_ | apply b1_ | apply b2_) | exact HB.out)⟩⟩
  case round =>
   clear H';obtain ⟨x8_1,rfl,HA,HK1,HO_7,HB⟩:=hrel
   cases gk with
    | zero => exact absurd HA.out (by simp [estoversref19_Inside.l0])
    | succ k1 =>
     have H:=HA.out;clear HA;simp only [estoversref19_Inside.l0] at H;by_cases c9 : x8_1 < (t247.length : Int)
     rotate_left
     ·
      rw [if_neg c9] at H;have c9b0 : decide (x8_1 < (t247.length : Int)) = false:=decide_eq_false c9;clear c9;obtain rfl:=Option.some.inj H;obtain ⟨Ao14,co14,eo14⟩:=Kd.R_slice HO_7.out;subst eo14;go_wp2;go_ret
      exact ⟨by first | rfl | (simp [errW_none,errW_some] <;> rfl) | (simp [*,errW_none,errW_some] <;> rfl),by repeat (first | (with_reducible first | exact HB.out | apply b0_ | apply b1_ | apply b2_) | exact HB.out)⟩
     rw [if_pos c9] at H;have c9b0 : decide (x8_1 < (t247.length : Int)) = true:=decide_eq_true c9;clear c9;by_cases c10 : 0≤x8_1
     rotate_left
     · rw [if_neg c10] at H;exact absurd H (by simp)
     rw [if_pos c10] at H;have c10b0 : decide (0≤x8_1) = true:=decide_eq_true c10;clear c10;by_cases c11 : (rd t247 x8_1) = a2
     rotate_left
     ·
      rw [if_neg c11] at H;have c11b0 : ((rd t247 x8_1) == a2) = false:=beq_eq_false_iff_ne.mpr c11;have c11b1 : ((rd t247 x8_1) != a2) = true:=bne_iff_ne.mpr c11;have H':=Aside0.mk H;clear H;obtain ⟨Ao13,co13,eo13⟩:=Kd.R_slice HO_7.out;subst eo13;have p250 : 0≤(x8_1 : Int):=of_decide_eq_true (by first | (with_reducible assumption) | assumption)
      have q250 : x8_1 < (t247.length : Int):=of_decide_eq_true (by first | (with_reducible assumption) | assumption);obtain ⟨ad250,e250,hx250_0⟩:=Kd.at_int (Kd.R_reads' HO_7.out).2.2 x8_1 p250 q250;cases e250;replace p250:=eq_true p250;replace q250:=eq_true q250;go_wp2
      go_roundg k1
      case measure => have:=HK1.out;omega
      case rel => exact ⟨(wrap64 (x8_1 + 1)),(by first | rfl | (simp;done) | (simp [*];done)),H',⟨by have:=HK1.out;omega⟩,⟨by (with_reducible repeat (first | apply Kd.R_alloc | apply Kd.R_drewN | apply Kd.R_drew));exact HO_7.out⟩,⟨by repeat (first | (with_reducible first | exact HB.out | apply b0_ | apply b1_ | apply b2_) | exact HB.out)⟩⟩
     rw [if_pos c11] at H;have c11b0 : ((rd t247 x8_1) == a2) = true:=beq_iff_eq.mpr c11;have c11b1 : ((rd t247 x8_1) != a2) = false:=bne_eq_false_iff_eq.mpr c11;clear c11;obtain rfl:=Option.some.inj H;obtain ⟨Ao12,co12,eo12⟩:=Kd.R_slice HO_7.out;subst eo12;have p250 : 0≤(x8_1 : Int):=of_decide_eq_true (by first | (with_reducible assumption) | assumption)
     have q250 : x8_1 < (t247.length : Int):=of_decide_eq_true (by first | (with_reducible assumption) | assumption);obtain ⟨ad250,e250,hx250_0⟩:=Kd.at_int (Kd.R_reads' HO_7.out).2.2 x8_1 p250 q250;cases e250;replace p250:=eq_true p250;replace q250:=eq_true q250;go_wp2;go_ret
     exact ⟨by first | rfl | (simp [errW_none,errW_some] <;> rfl) | (simp [*,errW_none,errW_some] <;> rfl),by repeat (first | (with_reducible first | exact HB.out | apply b0_ | apply b1_ | apply b2_) | exact HB.out)⟩
 rw [if_pos c6] at H;have c6b0 : (a2 == (-1)) = true:=beq_iff_eq.mpr c6;have c6b1 : (a2 != (-1)) = false:=bne_eq_false_iff_eq.mpr c6;clear c6;obtain rfl:=Option.some.inj H
 go_enter Try.func42,Try.ntmps42
 go_wp2_with (first | ((with_reducible refine gate_callee (f:=69) rfl ?_);refine goesL_ (some 11) rfl rfl Try.func69 (by kernel_rfl) rfl #[.slice A0 l0.length c0,.int .i64 a1] rfl (by (try simp only [z3_,z4_,z5_]);first | done | rfl | (simp only [z6_,z7_];rfl)) ?_;(with_reducible refine (estoversref19_has.calls k _ _ l0 a1 true _ ?side1 ?side2 A4.out).mono ?_);(case side1 => repeat (first | exact HR0.out | (with_reducible refine Kd.C_alloc ?_ _) | (with_reducible refine Kd.C_drewN ?_ _) | (with_reducible refine Kd.C_drew ?_)));(case side2 => exact HC0.out);rintro e w' ⟨rfl,⟨nd,rfl⟩⟩;refine ⟨_,rfl,?_⟩))
 go_ret;exact ⟨by first | rfl | (simp [errW_none,errW_some] <;> rfl) | (simp [*,errW_none,errW_some] <;> rfl),by repeat (first | (with_reducible first | exact HB.out | apply b0_ | apply b1_ | apply b2_) | exact HB.out)⟩
end Go.Proofs.Ytnmenfkmndnoaaa.Pr
