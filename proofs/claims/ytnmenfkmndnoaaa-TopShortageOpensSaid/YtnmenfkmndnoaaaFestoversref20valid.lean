-- Written by a program of this session (a changed copy of the kit's printer). Not trusted: Lean checks it.
import Derived.Test.YtnmenfkmndnoaaaM0
import Derived.Test.YtnmenfkmndnoaaaFestoversref19Check
namespace Go.Proofs.Ytnmenfkmndnoaaa.Pr
open Go.RowKit Go.Proofs.YtnmenfkmndnoaaaW.PrintWords Go.Proofs.YtnmenfkmndnoaaaW.PrintLast Go.Proofs.YtnmenfkmndnoaaaW.PrintMore
attribute [local go_sem] max2_int min2_int max_two min_two max_three min_three max_four min_four
set_option linter.unusedVariables false
set_option linter.unusedSimpArgs false
mutual
def estoversref20_valid.j0 : Nat→List Int→Bool→Option (Bool)
 | 0,_,_ => none
 | k + 1,x1,x15 => if x15 = true then (some false) else (estoversref20_valid.l0 k x1 0)
def estoversref20_valid.l0 : Nat→List Int→Int→Option (Bool)
 | 0,_,_ => none
 | k + 1,x1,x5 => if x5 < (x1.length : Int) then (if 0≤x5 then (if (rd x1 x5) < 0 then (estoversref20_valid.j2 k x1 x5 true) else (estoversref20_valid.j2 k x1 x5 (decide ((rd x1 x5) > 1048576)))) else (none)) else (some true)
def estoversref20_valid.j2 : Nat→List Int→Int→Bool→Option (Bool)
 | 0,_,_,_ => none
 | k + 1,x1,x5,x33 => if x33 = true then (some false) else (estoversref20_valid.l0 k x1 (wrap64 (x5 + 1)))
end
def estoversref20_valid.f (k : Nat) (l0 : List (S30)) (l1 : List Int) : Option (Bool):=(estoversref19_Check.f k l0).bind fun t251 => (if t251 = 0 then (estoversref20_valid.j0 k l1 ((l1.length : Int) != (l0.length : Int))) else (estoversref20_valid.j0 k l1 true))
theorem estoversref20_valid.mono_l : ∀ k,(∀ y0 y1,LeO (estoversref20_valid.j0 k y0 y1) (estoversref20_valid.j0 (k + 1) y0 y1))∧(∀ y0 y1,LeO (estoversref20_valid.l0 k y0 y1) (estoversref20_valid.l0 (k + 1) y0 y1))∧(∀ y0 y1 y2,LeO (estoversref20_valid.j2 k y0 y1 y2) (estoversref20_valid.j2 (k + 1) y0 y1 y2))
 | 0 => ⟨fun _ _ r h => by simp [estoversref20_valid.j0] at h,fun _ _ r h => by simp [estoversref20_valid.l0] at h,fun _ _ _ r h => by simp [estoversref20_valid.j2] at h⟩
 | k + 1 => by
  obtain ⟨ih0,ih1,ih2⟩:=estoversref20_valid.mono_l k;refine ⟨?_,?_,?_⟩
  ·
   intro y0 y1
   unfold estoversref20_valid.j0
   repeat' first
    | (with_reducible exact ih0 _ _)
    | (with_reducible exact ih1 _ _)
    | (with_reducible exact ih2 _ _ _)
    | (with_reducible exact estoversref19_Check.mono _ _)
    | (with_reducible exact LeO.refl _)
    | (with_reducible exact LeO.none _)
    | (with_reducible refine LeO.ite ?_ ?_)
    | (with_reducible refine LeO.bind ?_ (fun _ => ?_))
    | exact ih0 _ _
    | exact ih1 _ _
    | exact ih2 _ _ _
    | exact estoversref19_Check.mono _ _
    | exact LeO.none _
    | refine LeO.ite ?_ ?_
    | refine LeO.bind ?_ (fun _ => ?_)
  ·
   intro y0 y1
   unfold estoversref20_valid.l0
   repeat' first
    | (with_reducible exact ih0 _ _)
    | (with_reducible exact ih1 _ _)
    | (with_reducible exact ih2 _ _ _)
    | (with_reducible exact estoversref19_Check.mono _ _)
    | (with_reducible exact LeO.refl _)
    | (with_reducible exact LeO.none _)
    | (with_reducible refine LeO.ite ?_ ?_)
    | (with_reducible refine LeO.bind ?_ (fun _ => ?_))
    | exact ih0 _ _
    | exact ih1 _ _
    | exact ih2 _ _ _
    | exact estoversref19_Check.mono _ _
    | exact LeO.none _
    | refine LeO.ite ?_ ?_
    | refine LeO.bind ?_ (fun _ => ?_)
  ·
   intro y0 y1 y2
   unfold estoversref20_valid.j2
   repeat' first
    | (with_reducible exact ih0 _ _)
    | (with_reducible exact ih1 _ _)
    | (with_reducible exact ih2 _ _ _)
    | (with_reducible exact estoversref19_Check.mono _ _)
    | (with_reducible exact LeO.refl _)
    | (with_reducible exact LeO.none _)
    | (with_reducible refine LeO.ite ?_ ?_)
    | (with_reducible refine LeO.bind ?_ (fun _ => ?_))
    | exact ih0 _ _
    | exact ih1 _ _
    | exact ih2 _ _ _
    | exact estoversref19_Check.mono _ _
    | exact LeO.none _
    | refine LeO.ite ?_ ?_
    | refine LeO.bind ?_ (fun _ => ?_)
theorem estoversref20_valid.mono : ∀ a0 a1 k,LeO (estoversref20_valid.f k a0 a1) (estoversref20_valid.f (k + 1) a0 a1):=by
 intro a0 a1 k;obtain ⟨ih0,ih1,ih2⟩:=estoversref20_valid.mono_l k
 unfold estoversref20_valid.f
 repeat' first
  | (with_reducible exact ih0 _ _)
  | (with_reducible exact ih1 _ _)
  | (with_reducible exact ih2 _ _ _)
  | (with_reducible exact estoversref19_Check.mono _ _)
  | (with_reducible exact LeO.refl _)
  | (with_reducible exact LeO.none _)
  | (with_reducible refine LeO.ite ?_ ?_)
  | (with_reducible refine LeO.bind ?_ (fun _ => ?_))
  | exact ih0 _ _
  | exact ih1 _ _
  | exact ih2 _ _ _
  | exact estoversref19_Check.mono _ _
  | exact LeO.none _
  | refine LeO.ite ?_ ?_
  | refine LeO.bind ?_ (fun _ => ?_)
set_option maxHeartbeats 8000000 in
set_option maxRecDepth 100000 in
theorem estoversref20_valid.calls (k : Nat) (A0 : Option Addr) (c0 : Nat) (l0 : List (S30)) (A1 : Option Addr) (c1 : Nat) (l1 : List Int) (r : Bool) (w : World) (hr0 : Kd.C k30 w A0 l0.length l0) (hc0 : l0.length≤c0) (hr1 : Kd.C (Kd.int .i64) w A1 l1.length l1) (hc1 : l1.length≤c1) (h : estoversref20_valid.f k l0 l1 = some r) :
 Calls Try.prog 95 #[.slice A0 l0.length c0,.slice A1 l1.length c1] w fun e w' => e = .returned (.bool r)∧Drawn0 w w':=by
 have HR0:=Aside0.mk hr0;have HC0:=Aside0.mk hc0;clear hr0 hc0;have HR1:=Aside0.mk hr1;have HC1:=Aside0.mk hc1;clear hr1 hc1;have H : ((estoversref19_Check.f k l0).bind fun t251 => (if t251 = 0 then (estoversref20_valid.j0 k l1 ((l1.length : Int) != (l0.length : Int))) else (estoversref20_valid.j0 k l1 true))) = some r:=h;clear h;have HC3:=Aside0.mk H;clear H
 go_enter Try.func95,Try.ntmps95
 go_upto_region 1 with (fail)
 go_cut [15] (fun v15 wc => ∃ (kq : Nat) (x15_2 : Bool),v15 = .bool x15_2∧Aside0 (estoversref20_valid.j0 kq l1 x15_2 = some r)∧Aside0 (kq≤k)∧Drawn0 w wc)
 case first =>
  have H:=HC3.out;clear HC3;replace H:=Option.bind_eq_some_iff.mp H;obtain ⟨t251,A40,H⟩:=H;replace H : (if t251 = 0 then (estoversref20_valid.j0 k l1 ((l1.length : Int) != (l0.length : Int))) else (estoversref20_valid.j0 k l1 true)) = some r:=H;have A4:=Aside0.mk A40;clear A40;by_cases c5 : t251 = 0
  rotate_left
  ·
   rw [if_neg c5] at H;have c5b0 : (t251 == 0) = false:=beq_eq_false_iff_ne.mpr c5;have c5b1 : (t251 != 0) = true:=bne_iff_ne.mpr c5
   (first | rw [c5b0] | (simp only [i64_w,i32_w];rw [c5b0]) | skip)
   have H':=Aside0.mk H;clear H
   go_wp2_with (first | ((with_reducible refine gate_callee (f:=16) rfl ?_);refine goesL_ (some 7) rfl rfl Try.func16 (by kernel_rfl) rfl #[.slice A0 l0.length c0] rfl (by (try simp only [z3_,z4_,z5_]);first | done | rfl | (simp only [z6_,z7_];rfl)) ?_;(with_reducible refine (estoversref19_Check.calls k _ _ l0 t251 _ ?side1 ?side2 A4.out).mono ?_);(case side1 => repeat (first | exact HR0.out | (with_reducible refine Kd.C_alloc ?_ _) | (with_reducible refine Kd.C_drewN ?_ _) | (with_reducible refine Kd.C_drew ?_)));(case side2 => exact HC0.out);rintro e w' ⟨rfl,⟨nd,rfl⟩⟩;refine ⟨_,rfl,?_⟩))
   go_meet
   case rel => exact ⟨_,(true),(by first | rfl | (simp;done) | (simp [*];done)),H',⟨by first | omega | exact Nat.le_refl _⟩,by repeat (first | exact Drawn0.refl _ | apply Drawn0.step)⟩
  rw [if_pos c5] at H;have c5b0 : (t251 == 0) = true:=beq_iff_eq.mpr c5;have c5b1 : (t251 != 0) = false:=bne_eq_false_iff_eq.mpr c5;clear c5
  (first | rw [c5b0] | (simp only [i64_w,i32_w];rw [c5b0]) | skip)
  have H':=Aside0.mk H;clear H
  go_wp2_with (first | ((with_reducible refine gate_callee (f:=16) rfl ?_);refine goesL_ (some 7) rfl rfl Try.func16 (by kernel_rfl) rfl #[.slice A0 l0.length c0] rfl (by (try simp only [z3_,z4_,z5_]);first | done | rfl | (simp only [z6_,z7_];rfl)) ?_;(with_reducible refine (estoversref19_Check.calls k _ _ l0 t251 _ ?side1 ?side2 A4.out).mono ?_);(case side1 => repeat (first | exact HR0.out | (with_reducible refine Kd.C_alloc ?_ _) | (with_reducible refine Kd.C_drewN ?_ _) | (with_reducible refine Kd.C_drew ?_)));(case side2 => exact HC0.out);rintro e w' ⟨rfl,⟨nd,rfl⟩⟩;refine ⟨_,rfl,?_⟩))
  go_meet
  case rel => exact ⟨_,(((l1.length : Int) != (l0.length : Int))),(by first | rfl | (simp;done) | (simp [*];done)),H',⟨by first | omega | exact Nat.le_refl _⟩,by repeat (first | exact Drawn0.refl _ | apply Drawn0.step)⟩
 case rest =>
  clear HC3;obtain ⟨kq,x15_2,rfl,HA,HJ2,⟨mc2,rfl⟩⟩:=hcut
  cases kq with
   | zero => exact absurd HA.out (by simp [estoversref20_valid.j0])
   | succ kj2 =>
    have H:=HA.out;clear HA;simp only [estoversref20_valid.j0] at H;by_cases c6 : x15_2 = true
    rotate_left
    ·
     replace c6:=Bool.eq_false_iff.mpr c6;subst c6
     have H1 : (estoversref20_valid.l0 kj2 l1 0) = some r:=by rw [if_neg (show ¬ (false = true) by decide)] at H;exact H
     clear H;have H:=H1;clear H1;have H':=Aside0.mk H;clear H;go_wp2
     go_loopg [5] kj2 (fun kq v5 w' => ∃ (x5_2 : Int),v5 = .int .i64 x5_2∧Aside0 (estoversref20_valid.l0 kq l1 x5_2 = some r)∧Aside0 (kq≤kj2)∧Drawn0 w w')
     case atStart => exact ⟨(0),(by first | rfl | (simp;done) | (simp [*];done)),H',⟨Nat.le_refl _⟩,by repeat (first | exact Drawn0.refl _ | apply Drawn0.step)⟩
     case round =>
      clear H';obtain ⟨x5_2,rfl,HA,HK2,⟨m2,rfl⟩⟩:=hrel
      cases gk with
       | zero => exact absurd HA.out (by simp [estoversref20_valid.l0])
       | succ k2 =>
        have H:=HA.out;clear HA;simp only [estoversref20_valid.l0] at H;by_cases c7 : x5_2 < (l1.length : Int)
        rotate_left
        · rw [if_neg c7] at H;have c7b0 : decide (x5_2 < (l1.length : Int)) = false:=decide_eq_false c7;clear c7;obtain rfl:=Option.some.inj H;go_wp2;go_ret;exact ⟨by first | rfl | (simp;done) | (simp [*];done),by repeat (first | exact Drawn0.refl _ | apply Drawn0.step)⟩
        rw [if_pos c7] at H;have c7b0 : decide (x5_2 < (l1.length : Int)) = true:=decide_eq_true c7;clear c7;have HC8:=Aside0.mk H;clear H
        go_upto_region 6 with (fail)
        go_cut [33] (fun v33 wc => ∃ (kq : Nat) (x33_7 : Bool),v33 = .bool x33_7∧Aside0 (estoversref20_valid.j2 kq l1 x5_2 x33_7 = some r)∧Aside0 (kq≤k2)∧Drawn0 w wc)
        case first =>
         have H:=HC8.out;clear HC8;by_cases c9 : 0≤x5_2
         rotate_left
         · rw [if_neg c9] at H;exact absurd H (by simp)
         rw [if_pos c9] at H;have c9b0 : decide (0≤x5_2) = true:=decide_eq_true c9;clear c9
         (first | rw [c9b0] | (simp only [i64_w,i32_w];rw [c9b0]) | skip)
         by_cases c10 : (rd l1 x5_2) < 0
         rotate_left
         ·
          rw [if_neg c10] at H;have c10b0 : decide ((rd l1 x5_2) < 0) = false:=decide_eq_false c10;clear c10;have H':=Aside0.mk H;clear H;have p252 : 0≤(x5_2 : Int):=of_decide_eq_true (by first | (with_reducible assumption) | assumption);have q252 : x5_2 < (l1.length : Int):=of_decide_eq_true (by first | (with_reducible assumption) | assumption)
          obtain ⟨ad252,e252,hx252_0⟩:=Kd.at_int HR1.out x5_2 p252 q252;cases e252;replace p252:=eq_true p252;replace q252:=eq_true q252;have p253 : 0≤(x5_2 : Int):=of_decide_eq_true (by first | (with_reducible assumption) | assumption);have q253 : x5_2 < (l1.length : Int):=of_decide_eq_true (by first | (with_reducible assumption) | assumption)
          obtain ⟨ad253,e253,hx253_0⟩:=Kd.at_int HR1.out x5_2 p253 q253;obtain rfl : ad252 = ad253:=(by injection e253);replace p253:=eq_true p253;replace q253:=eq_true q253;go_wp2
          go_meet
          case rel => exact ⟨_,(decide ((rd l1 x5_2) > 1048576)),(by first | rfl | (simp;done) | (simp [*];done)),H',⟨by have:=HJ2.out;have:=HK2.out;first | omega | exact Nat.le_refl _⟩,by repeat (first | exact Drawn0.refl _ | apply Drawn0.step)⟩
         rw [if_pos c10] at H;have c10b0 : decide ((rd l1 x5_2) < 0) = true:=decide_eq_true c10;clear c10;have H':=Aside0.mk H;clear H;have p252 : 0≤(x5_2 : Int):=of_decide_eq_true (by first | (with_reducible assumption) | assumption);have q252 : x5_2 < (l1.length : Int):=of_decide_eq_true (by first | (with_reducible assumption) | assumption)
         obtain ⟨ad252,e252,hx252_0⟩:=Kd.at_int HR1.out x5_2 p252 q252;cases e252;replace p252:=eq_true p252;replace q252:=eq_true q252;go_wp2
         go_meet
         case rel => exact ⟨_,(true),(by first | rfl | (simp;done) | (simp [*];done)),H',⟨by have:=HJ2.out;have:=HK2.out;first | omega | exact Nat.le_refl _⟩,by repeat (first | exact Drawn0.refl _ | apply Drawn0.step)⟩
        case rest =>
         clear HC8;obtain ⟨kq,x33_7,rfl,HA,HJ7,⟨mc7,rfl⟩⟩:=hcut
         cases kq with
          | zero => exact absurd HA.out (by simp [estoversref20_valid.j2])
          | succ kj7 =>
           have H:=HA.out;clear HA;simp only [estoversref20_valid.j2] at H;by_cases c11 : x33_7 = true
           rotate_left
           ·
            replace c11:=Bool.eq_false_iff.mpr c11;subst c11
            have H1 : (estoversref20_valid.l0 kj7 l1 (wrap64 (x5_2 + 1))) = some r:=by rw [if_neg (show ¬ (false = true) by decide)] at H;exact H
            clear H;have H:=H1;clear H1;have H':=Aside0.mk H;clear H;go_wp2
            go_roundg kj7
            case measure => have:=HJ2.out;have:=HK2.out;have:=HJ7.out;omega
            case rel => exact ⟨(wrap64 (x5_2 + 1)),(by first | rfl | (simp;done) | (simp [*];done)),H',⟨by have:=HJ2.out;have:=HK2.out;have:=HJ7.out;omega⟩,by repeat (first | exact Drawn0.refl _ | apply Drawn0.step)⟩
           subst c11
           have H1 : (some false) = some r:=by rw [if_pos rfl] at H;exact H
           clear H;have H:=H1;clear H1;obtain rfl:=Option.some.inj H;go_wp2;go_ret;exact ⟨by first | rfl | (simp;done) | (simp [*];done),by repeat (first | exact Drawn0.refl _ | apply Drawn0.step)⟩
    subst c6
    have H1 : (some false) = some r:=by rw [if_pos rfl] at H;exact H
    clear H;have H:=H1;clear H1;obtain rfl:=Option.some.inj H;go_wp2;go_ret;exact ⟨by first | rfl | (simp;done) | (simp [*];done),by repeat (first | exact Drawn0.refl _ | apply Drawn0.step)⟩
end Go.Proofs.Ytnmenfkmndnoaaa.Pr
