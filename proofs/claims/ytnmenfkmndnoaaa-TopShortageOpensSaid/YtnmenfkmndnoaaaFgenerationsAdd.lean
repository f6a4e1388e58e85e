-- Written by a program of this session (a changed copy of the kit's printer). Not trusted: Lean checks it.
import Derived.Test.YtnmenfkmndnoaaaM0
import Derived.Test.YtnmenfkmndnoaaaV2
import Derived.Test.YtnmenfkmndnoaaaFgenerationsCheck
import Derived.Test.YtnmenfkmndnoaaaFgenerationsclone
import Derived.Test.YtnmenfkmndnoaaaFgenerationsisFrame
import Derived.Test.YtnmenfkmndnoaaaT4
namespace Go.Proofs.Ytnmenfkmndnoaaa.Pr
open Go.RowKit Go.Proofs.YtnmenfkmndnoaaaW.PrintWords Go.Proofs.YtnmenfkmndnoaaaW.PrintLast Go.Proofs.YtnmenfkmndnoaaaW.PrintMore
attribute [local go_sem] max2_int min2_int max_two min_two max_three min_three max_four min_four
set_option linter.unusedVariables false
set_option linter.unusedSimpArgs false
def generations_Add.j0 : Nat→List (List Int)→Int→Int→Bool→Option ((List (List Int)) × Int)
 | 0,_,_,_,_ => none
 | k + 1,x0,x1,x2,x27 => if x27 = true then (some (([] : List (List Int)),2)) else ((generations_clone.f k x0).bind fun t467 => (if 0≤x1 then (if x1 < (t467.length : Int) then (if (rd_L7 t467 x1).length < 17592186044416 then (some ((t467.set (x1 : Int).toNat ((rd_L7 t467 x1) ++ [x2])),0)) else (none)) else (none)) else (none)))
def generations_Add.g (k : Nat) (l0 : List (List Int)) (a1 : Int) (a2 : Int) : Option ((List (List Int)) × Int):=(generations_Check.f l0).bind fun t465 => (if t465 = 0 then (if a1 < 0 then (generations_Add.j0 k l0 a1 a2 true) else (if a1≥4 then (generations_Add.j0 k l0 a1 a2 true) else ((generations_isFrame.f a2).bind fun t466 => (generations_Add.j0 k l0 a1 a2 (!t466))))) else (some (([] : List (List Int)),t465)))
theorem generations_Add.mono_l : ∀ k,(∀ y0 y1 y2 y3,LeO (generations_Add.j0 k y0 y1 y2 y3) (generations_Add.j0 (k + 1) y0 y1 y2 y3))
 | 0 => fun _ _ _ _ r h => by simp [generations_Add.j0] at h
 | k + 1 => by
  have ih0:=generations_Add.mono_l k
  ·
   intro y0 y1 y2 y3
   unfold generations_Add.j0
   repeat' first
    | (with_reducible exact ih0 _ _ _ _)
    | (with_reducible exact generations_clone.mono _ _)
    | (with_reducible exact LeO.refl _)
    | (with_reducible exact LeO.none _)
    | (with_reducible refine LeO.ite ?_ ?_)
    | (with_reducible refine LeO.bind ?_ (fun _ => ?_))
    | exact ih0 _ _ _ _
    | exact generations_clone.mono _ _
    | exact LeO.none _
    | refine LeO.ite ?_ ?_
    | refine LeO.bind ?_ (fun _ => ?_)
theorem generations_Add.mono_g : ∀ a0 a1 a2 k,LeO (generations_Add.g k a0 a1 a2) (generations_Add.g (k + 1) a0 a1 a2):=by
 intro a0 a1 a2 k;have ih0:=generations_Add.mono_l k
 unfold generations_Add.g
 repeat' first
  | (with_reducible exact ih0 _ _ _ _)
  | (with_reducible exact generations_clone.mono _ _)
  | (with_reducible exact LeO.refl _)
  | (with_reducible exact LeO.none _)
  | (with_reducible refine LeO.ite ?_ ?_)
  | (with_reducible refine LeO.bind ?_ (fun _ => ?_))
  | exact ih0 _ _ _ _
  | exact generations_clone.mono _ _
  | exact LeO.none _
  | refine LeO.ite ?_ ?_
  | refine LeO.bind ?_ (fun _ => ?_)
set_option maxHeartbeats 8000000 in
set_option maxRecDepth 100000 in
theorem generations_Add.calls_g (k : Nat) (A0 : Option Addr) (c0 : Nat) (l0 : List (List Int)) (a1 : Int) (a2 : Int) (r1 : List (List Int)) (r2 : Int) (w : World) (hr0 : Kd.C (Kd.slice 3 (Kd.int .i64)) w A0 l0.length l0) (hc0 : l0.length≤c0) (hE : l0 = [[],[],[],[]]) (hA : a2 = 7) (h : generations_Add.g k l0 a1 a2 = some (r1,r2)) :
 Calls Try.prog 26 #[.slice A0 l0.length c0,.int .i64 a1,.int .i64 a2] w fun e w' => ∃ v0_ : Value,e = .returned (.tuple #[v0_,.int .i64 r2])∧Kd.S (Kd.slice 3 (Kd.int .i64)) 50 w' w.heap.size (fun _ => True) v0_ r1∧Below w.heap.size w w':=by
 have HR0:=Aside0.mk hr0;have HC0:=Aside0.mk hc0;have HE:=Aside0.mk hE;have HA2:=Aside0.mk hA;clear hr0 hc0 hE hA;have HB:=Aside0.mk (Below.refl w.heap.size w)
 have H : ((generations_Check.f l0).bind fun t465 => (if t465 = 0 then (if a1 < 0 then (generations_Add.j0 k l0 a1 a2 true) else (if a1≥4 then (generations_Add.j0 k l0 a1 a2 true) else ((generations_isFrame.f a2).bind fun t466 => (generations_Add.j0 k l0 a1 a2 (!t466))))) else (some (([] : List (List Int)),t465)))) = some (r1,r2):=h;clear h;replace H:=Option.bind_eq_some_iff.mp H
 obtain ⟨t465,A40,H⟩:=H;replace H : (if t465 = 0 then (if a1 < 0 then (generations_Add.j0 k l0 a1 a2 true) else (if a1≥4 then (generations_Add.j0 k l0 a1 a2 true) else ((generations_isFrame.f a2).bind fun t466 => (generations_Add.j0 k l0 a1 a2 (!t466))))) else (some (([] : List (List Int)),t465))) = some (r1,r2):=H;have A4:=Aside0.mk A40;clear A40;by_cases c5 : t465 = 0
 rotate_left
 ·
  rw [if_neg c5] at H;have c5b0 : (t465 == 0) = false:=beq_eq_false_iff_ne.mpr c5;have c5b1 : (t465 != 0) = true:=bne_iff_ne.mpr c5;simp only [Option.some.injEq,Prod.mk.injEq] at H;obtain ⟨rfl,rfl⟩:=H
  go_enter Try.func26,Try.ntmps26
  go_wp2_with (first | ((with_reducible refine gate_callee (f:=56) rfl ?_);refine goesL_ (some 13) rfl rfl Try.func56 (by kernel_rfl) rfl #[.slice A0 l0.length c0] rfl (by (try simp only [z3_,z4_,z5_]);first | done | rfl | (simp only [z6_,z7_];rfl)) ?_;(with_reducible refine (generations_Check.calls _ _ l0 t465 _ ?side1 ?side2 A4.out).mono ?_);(case side1 => repeat (first | exact HR0.out | (with_reducible refine Kd.C_alloc ?_ _) | (with_reducible refine Kd.C_drewN ?_ _) | (with_reducible refine Kd.C_drew ?_)));(case side2 => exact HC0.out);rintro e w24 ⟨rfl,hb⟩;refine ⟨_,rfl,?_⟩;have n0_:=Aside0.mk (below_step (by repeat (first | (with_reducible first | exact HB.out | apply b0_ | apply b1_ | apply b2_) | exact HB.out)) hb);clear HB;have HB:=n0_;clear n0_))
  go_ret2;exact ⟨_,by first | rfl | (simp [errW_none,errW_some] <;> rfl) | (simp [*,errW_none,errW_some] <;> rfl),by first | exact Kd.S_nil _ _ _ _ _ | exact Kd.N_nil _ _ _ _ _ | exact Kd.V_nil _ _ _ _ _ | exact Kd.Q_nil _ _ _ _ _ | exact Kd.R_nil _ _ _ _ _,by repeat (first | (with_reducible first | exact HB.out | apply b0_ | apply b1_ | apply b2_) | exact HB.out)⟩
 rw [if_pos c5] at H;have c5b0 : (t465 == 0) = true:=beq_iff_eq.mpr c5;have c5b1 : (t465 != 0) = false:=bne_eq_false_iff_eq.mpr c5;clear c5;have HC6:=Aside0.mk H;clear H
 go_enter Try.func26,Try.ntmps26
 go_upto_region 4 with (first | ((with_reducible refine gate_callee (f:=56) rfl ?_);refine goesL_ (some 13) rfl rfl Try.func56 (by kernel_rfl) rfl #[.slice A0 l0.length c0] rfl (by (try simp only [z3_,z4_,z5_]);first | done | rfl | (simp only [z6_,z7_];rfl)) ?_;(with_reducible refine (generations_Check.calls _ _ l0 t465 _ ?side1 ?side2 A4.out).mono ?_);(case side1 => repeat (first | exact HR0.out | (with_reducible refine Kd.C_alloc ?_ _) | (with_reducible refine Kd.C_drewN ?_ _) | (with_reducible refine Kd.C_drew ?_)));(case side2 => exact HC0.out);rintro e w7 ⟨rfl,hb⟩;refine ⟨_,rfl,?_⟩;have n0_:=Aside0.mk (below_step (by repeat (first | (with_reducible first | exact HB.out | apply b0_ | apply b1_ | apply b2_) | exact HB.out)) hb);clear HB;have HB:=n0_;clear n0_))
 (try simp only [Act.put,List.setIfInBounds_toArray,List.set_cons_zero,List.set_cons_succ])
 go_cut [27] (fun v27 wc => ∃ (kq : Nat) (x27_5 : Bool),v27 = .bool x27_5∧Aside0 (generations_Add.j0 kq l0 a1 a2 x27_5 = some (r1,r2))∧Aside0 (kq≤k)∧Aside0 (Below w.heap.size w wc))
 case first =>
  have H:=HC6.out;clear HC6;by_cases c8 : a1 < 0
  rotate_left
  ·
   rw [if_neg c8] at H;have c8b0 : decide (a1 < 0) = false:=decide_eq_false c8;clear c8
   (first | rw [c8b0] | (simp only [i64_w,i32_w];rw [c8b0]) | skip)
   by_cases c9 : a1≥4
   rotate_left
   ·
    rw [if_neg c9] at H;have c9b0 : decide (4≤a1) = false:=decide_eq_false c9;clear c9;replace H:=Option.bind_eq_some_iff.mp H;obtain ⟨t466,A100,H⟩:=H;replace H : (generations_Add.j0 k l0 a1 a2 (!t466)) = some (r1,r2):=H;have A10:=Aside0.mk A100;clear A100;have H':=Aside0.mk H;clear H
    go_wp2_with (first | (go_at_call 57;(with_reducible refine (generations_isFrame.calls a2 t466 _ A10.out).mono ?_);rintro e w' ⟨rfl,⟨nd,rfl⟩⟩))
    go_meet
    case rel => exact ⟨_,(!t466),(by first | rfl | (simp;done) | (simp [*];done)),H',⟨by first | omega | exact Nat.le_refl _⟩,⟨by repeat (first | (with_reducible first | exact HB.out | apply b0_ | apply b1_ | apply b2_) | exact HB.out)⟩⟩
   rw [if_pos c9] at H;have c9b0 : decide (4≤a1) = true:=decide_eq_true c9;clear c9;have H':=Aside0.mk H;clear H;go_wp2
   go_meet
   case rel => exact ⟨_,(true),(by first | rfl | (simp;done) | (simp [*];done)),H',⟨by first | omega | exact Nat.le_refl _⟩,⟨by repeat (first | (with_reducible first | exact HB.out | apply b0_ | apply b1_ | apply b2_) | exact HB.out)⟩⟩
  rw [if_pos c8] at H;have c8b0 : decide (a1 < 0) = true:=decide_eq_true c8;clear c8
  (first | rw [c8b0] | (simp only [i64_w,i32_w];rw [c8b0]) | skip)
  have H':=Aside0.mk H;clear H;go_wp2
  go_meet
  case rel => exact ⟨_,(true),(by first | rfl | (simp;done) | (simp [*];done)),H',⟨by first | omega | exact Nat.le_refl _⟩,⟨by repeat (first | (with_reducible first | exact HB.out | apply b0_ | apply b1_ | apply b2_) | exact HB.out)⟩⟩
 case rest =>
  clear HC6;obtain ⟨kq,x27_5,rfl,HA,HJ5,HB⟩:=hcut
  cases kq with
   | zero => exact absurd HA.out (by simp [generations_Add.j0])
   | succ kj5 =>
    have H:=HA.out;clear HA;simp only [generations_Add.j0] at H;by_cases c11 : x27_5 = true
    rotate_left
    ·
     replace c11:=Bool.eq_false_iff.mpr c11;subst c11
     have H1 : ((generations_clone.f kj5 l0).bind fun t467 => (if 0≤a1 then (if a1 < (t467.length : Int) then (if (rd_L7 t467 a1).length < 17592186044416 then (some ((t467.set (a1 : Int).toNat ((rd_L7 t467 a1) ++ [a2])),0)) else (none)) else (none)) else (none))) = some (r1,r2):=by rw [if_neg (show ¬ (false = true) by decide)] at H;exact H
     clear H;have H:=H1;clear H1;replace H:=Option.bind_eq_some_iff.mp H;obtain ⟨t467,A120,H⟩:=H;replace H : (if 0≤a1 then (if a1 < (t467.length : Int) then (if (rd_L7 t467 a1).length < 17592186044416 then (some ((t467.set (a1 : Int).toNat ((rd_L7 t467 a1) ++ [a2])),0)) else (none)) else (none)) else (none)) = some (r1,r2):=H;have A12:=Aside0.mk A120;clear A120
     by_cases c13 : 0≤a1
     rotate_left
     · rw [if_neg c13] at H;exact absurd H (by simp)
     rw [if_pos c13] at H;have c13b0 : decide (0≤a1) = true:=decide_eq_true c13;clear c13;by_cases c14 : a1 < (t467.length : Int)
     rotate_left
     · rw [if_neg c14] at H;exact absurd H (by simp)
     rw [if_pos c14] at H;have c14b0 : decide (a1 < (t467.length : Int)) = true:=decide_eq_true c14;clear c14;by_cases c15 : (rd_L7 t467 a1).length < 17592186044416
     rotate_left
     · rw [if_neg c15] at H;exact absurd H (by simp)
     rw [if_pos c15] at H;have LMc15:=Aside0.mk c15;clear c15;obtain ⟨y471,hy471⟩ : ∃ y_ : List Int,y_ = ((rd_L7 t467 a1) ++ [a2]):=⟨_,rfl⟩
     replace H : (some ((t467.set (a1 : Int).toNat y471),0)) = some (r1,r2):=by first | (rw [hy471];with_reducible exact H) | (have H2_:=(Option.bind_some _ _).symm.trans H;rw [hy471];with_reducible exact H2_) | (have H2_:=(Option.bind_some _ _).symm.trans H;with_reducible exact H2_) | with_reducible exact H | (rw [hy471];exact H) | exact H
     have Ny471:=Aside0.mk hy471;clear hy471;obtain ⟨y474,hy474⟩ : ∃ y_ : List (List Int),y_ = (t467.set (a1 : Int).toNat y471):=⟨_,rfl⟩
     replace H : (some (y474,0)) = some (r1,r2):=by first | (rw [hy474];with_reducible exact H) | (have H2_:=(Option.bind_some _ _).symm.trans H;rw [hy474];with_reducible exact H2_) | (have H2_:=(Option.bind_some _ _).symm.trans H;with_reducible exact H2_) | with_reducible exact H | (rw [hy474];exact H) | exact H
     have Ny474:=Aside0.mk hy474;clear hy474;simp only [Option.some.injEq,Prod.mk.injEq] at H;obtain ⟨rfl,rfl⟩:=H
     go_wp2_with (first | ((go_at_call 58);(with_reducible refine (Gen.ages0 _ _ l0 _ HE.out ?sideg).mono ?_);(case sideg => exact Kd.C_below HR0.out (by repeat (first | (with_reducible first | exact HB.out | apply b0_ | apply b1_ | apply b2_) | exact HB.out)));rintro e wm ⟨rfl,hown,hbm⟩;have hkm:=(show keyOf Try.prog 3 (.int .i64 a2) = some (.int .i64 7) by rw [HA2.out];exact Gen.key7);have n1_:=Aside0.mk (below_step (by repeat (first | (with_reducible first | exact HB.out | apply b0_ | apply b1_ | apply b2_) | exact HB.out)) hbm);clear HB;have HB:=n1_;clear n1_ hbm) | (at_lookup;refine wpList_lookup_own_ok_int _ rfl _ _ 80 rfl 3 3 .i64 (Maps.int_keyed Try.underlying3) Try.underlying80 Try.underlying3 (Try.zeroValue3 _) _ _ _ rfl hown _ _ rfl hkm ?_;intro cm hatm hwcm;rw [Gen.has_nil];clear hatm hwcm) | ((with_reducible refine gate_callee (f:=59) rfl ?_);refine goesL_ (some 37) rfl rfl Try.func59 (by kernel_rfl) rfl #[.slice A0 l0.length c0] rfl (by (try simp only [z3_,z4_,z5_]);first | done | rfl | (simp only [z6_,z7_];rfl)) ?_;(with_reducible refine (generations_clone.calls kj5 _ _ l0 t467 _ ?side1 ?side2 A12.out).mono ?_);(case side1 => repeat (first | exact (Kd.C_below HR0.out HB.out) | (with_reducible refine Kd.C_alloc ?_ _) | (with_reducible refine Kd.C_drewN ?_ _) | (with_reducible refine Kd.C_drew ?_)));(case side2 => exact HC0.out);rintro e w17 ⟨v468,rfl,ho0,hb⟩;refine ⟨_,rfl,?_⟩;have n0_:=Aside0.mk (Kd.S_lower ho0 (below_size (by repeat (first | (with_reducible first | exact HB.out | apply b0_ | apply b1_ | apply b2_) | exact HB.out))));have n1_:=Aside0.mk (below_step (by repeat (first | (with_reducible first | exact HB.out | apply b0_ | apply b1_ | apply b2_) | exact HB.out)) hb);clear HB;have HO469:=n0_;have HB:=n1_;clear n0_ n1_;(try clear ho0);obtain ⟨Ao18,co18,eo18⟩:=Kd.S_slice HO469.out;subst eo18;have p470 : 0≤(a1 : Int):=of_decide_eq_true (by first | (with_reducible assumption) | assumption);have q470 : a1 < (t467.length : Int):=of_decide_eq_true (by first | (with_reducible assumption) | assumption);obtain ⟨ad470,A470_0,c470_0,e470,hx470_0,hl470_0,hi470_0⟩:=at_L7 (Kd.S_reads' HO469.out).2.2 a1 p470 q470;cases e470;obtain ⟨ce470,hce470,hMe470,hcc470⟩:=Kd.S_get HO469.out [] a1 p470 (by first | exact q470 | exact of_decide_eq_true (by first | (with_reducible assumption) | assumption) | (have e_:=(Kd.S_reads' HO469.out).1;omega));obtain ⟨ve470_0,rfl,ge470_0⟩:=hMe470;have hv470_0:=hcc470 0 _ rfl;rw [Nat.add_zero,show ((Kd.slice 3 (Kd.int .i64))).sz = 1 from rfl,Nat.mul_one] at hv470_0;replace hv470_0:=Option.some.inj (hv470_0.symm.trans hx470_0);rw [hv470_0] at ge470_0;have HL470_0:=Aside0.mk (show Kd.R (Kd.int .i64) 3 _ _ _ _ (rd_L7 t467 a1) from ge470_0);clear hv470_0 ge470_0;have HX470_0:=Aside0.mk hx470_0;clear hcc470 hce470;have HR470_0:=Aside0.mk hi470_0;have HC470_0:=Aside0.mk hl470_0;clear hi470_0 hl470_0;replace p470:=eq_true p470;replace q470:=eq_true q470;obtain ⟨go19,co19,eo19,gb19,gl19,cl19,HG19⟩:=Kd.S_form HO469.out (by have h_ : (a1 : Int) < ((t467.length : Int) : Int):=of_decide_eq_true (by first | (with_reducible assumption) | assumption);have h2_ : 0≤(a1 : Int):=(of_decide_eq_true (by first | (with_reducible assumption) | assumption));omega);(first | cases eo19 | (injection eo19 with ea_ en_ ec_;(first | subst ea_ | (injection ea_ with ea_;subst ea_));subst ec_;clear en_));have GB19:=Aside0.mk gb19;have GG19:=Aside0.mk HG19;clear gb19 gl19 HG19;(first | simp only [add_plain] at hx470_0 | skip);obtain ⟨oki19,ce19,hcl19,hM19,hcc19,_,_,hH19⟩:=Kd.S_elem HO469.out [] (a1 : Int) (of_decide_eq_true (by first | (with_reducible assumption) | assumption)) (by have h_ : (a1 : Int) < ((t467.length : Int) : Int):=of_decide_eq_true (by first | (with_reducible assumption) | assumption);first | exact h_ | (have e_:=(Kd.S_reads' HO469.out).1;omega) | simpa using h_);obtain ⟨ve19_0,rfl,ge19_0⟩:=hM19;have hv19:=hcc19 0 _ rfl;have hX19:=HX470_0.out;(try simp only [add_plain] at hX19);(try simp only [Nat.add_zero] at hv19);(try rw [show ((Kd.slice 3 (Kd.int .i64))).sz = 1 from rfl,Nat.mul_one] at hv19);replace hv19:=Option.some.inj (hv19.symm.trans hX19);subst hv19;clear hX19 hcc19 hcl19;have UU19:=Aside0.mk (show Kd.R (Kd.int .i64) 3 _ w.heap.size oki19 (.slice A470_0 (rd_L7 t467 a1).length c470_0) (rd_L7 t467 a1) from ge19_0);have HH19:=Aside0.mk hH19;have HN19:=Aside0.mk (Kd.S_reads' HO469.out).1;clear hH19 ge19_0) | ((with_reducible refine gate_builtin (b:=.append) (xs:=#[.tmp 43,.tmp 45]) rfl ?_);at_builtin;refine Kd.R_append (Kd.int .i64) (w0:=w) w.heap.size rfl (.tmp 43) (.tmp 45) 50 3 (.int .i64 0) 8 rfl Try.underlying50 info3 rfl (by decide) (by omega) (.slice A470_0 (rd_L7 t467 a1).length c470_0) (rd_L7 t467 a1) a2 [.int .i64 a2] (fun k_ => oki19 k_∨((fun _ => True)) k_∧w17.heap.size≤k_) (fun _ => False) rfl rfl ?aP (fun _ hk => hk.elim) ?aF ?aO ?aB ?aS ?aL ?_;(case aP => exact rfl);(case aB => exact (by repeat (first | (with_reducible first | exact HB.out | apply b0_ | apply b1_ | apply b2_) | exact HB.out)));(case aF => exact (fun k_ hk => .inr ⟨trivial,hk⟩));(case aO => exact (by (with_reducible repeat (first | apply Kd.R_alloc | apply Kd.R_drewN | apply Kd.R_drew));exact Kd.R_mono UU19.out (fun _ hk => .inl hk)));(case aS => exact (below_size (by repeat (first | (with_reducible first | exact HB.out | apply b0_ | apply b1_ | apply b2_) | exact HB.out))));(case aL => have:=LMc15.out;omega);intro v472 w20 ho hb hg hat;rw [← Ny471.out] at ho;have n0_:=Aside0.mk (hb);have n1_:=Aside0.mk (Kd.H_grown (Kd.H_widen (by repeat (first | exact HH19.out | refine Kd.H_alloc ?_ _ | refine Kd.H_drewN ?_ _ | refine Kd.H_drew ?_))) hg (fun k_ e_ => .inl (UU19.out.1 k_ e_)));have n2_:=Aside0.mk (ho);clear HB;clear HH19;clear HO469;clear UU19;clear HL470_0;have HB:=n0_;have HH19:=n1_;have HO473:=n2_;clear n0_ n1_ n2_;clear ho hb hg hat;have p16 : 0≤(a1 : Int):=of_decide_eq_true (by first | (with_reducible assumption) | assumption);have q16 : (a1 : Int) < ((t467.length : Int) : Int):=of_decide_eq_true (by first | (with_reducible assumption) | assumption);replace p16:=eq_true p16;replace q16:=eq_true q16;obtain ⟨Ao23,co23,eo23⟩:=Kd.R_slice HO473.out;subst eo23;obtain ⟨_,_,hraw21,_,_,hcc21,_⟩:=Kd.H_raw HH19.out (of_decide_eq_true (by first | (with_reducible assumption) | assumption)) (by have h_ : (a1 : Int) < ((t467.length : Int) : Int):=of_decide_eq_true (by first | (with_reducible assumption) | assumption);first | exact h_ | (have e_:=(HN19.out);omega) | simpa using h_);obtain ⟨_,hfr21⟩:=Kd.H_at HH19.out (of_decide_eq_true (by first | (with_reducible assumption) | assumption)) (by have h_ : (a1 : Int) < ((t467.length : Int) : Int):=of_decide_eq_true (by first | (with_reducible assumption) | assumption);first | exact h_ | (have e_:=(HN19.out);omega) | simpa using h_);have hx21_0:=hcc21 0 _ rfl;have hf21_0:=hfr21 0;(try simp only [Nat.add_zero] at hx21_0 hf21_0);(try rw [show ((Kd.slice 3 (Kd.int .i64))).sz = 1 from rfl,Nat.mul_one] at hx21_0);(try rw [show ((Kd.slice 3 (Kd.int .i64))).sz = 1 from rfl,Nat.mul_one] at hf21_0);have HP21:=Kd.S_seg0 HH19.out (of_decide_eq_true (by first | (with_reducible assumption) | assumption)) (by have h_ : (a1 : Int) < ((t467.length : Int) : Int):=of_decide_eq_true (by first | (with_reducible assumption) | assumption);first | exact h_ | (have e_:=(HN19.out);omega) | simpa using h_) (seg:=[.slice Ao23 y471.length co23]) (j:=0) (show 1≤1 from by decide) (x':=y471) (Kd.M_row HO473.out) (fun _ hk => hk);(try simp only [show ((Kd.slice 3 (Kd.int .i64))).sz = 1 from rfl,Nat.mul_one,Nat.add_zero] at HP21);clear hcc21 hfr21) | ((with_reducible refine gate_store (t:=50) (p:=47) rfl ?_);refine store_event (t:=50) (p:=47) (v:=?vo_w22) (w1:=(w20.setCell ⟨go19,(a1 : Int).toNat,none⟩ (.slice Ao23 y471.length co23))) ?hg ?ho ?hn ?hr ?_;(case ho => rfl);(case hg => rfl);(case hn => rfl);(case hr => first | (go_simp;done) | (go_simp;rfl));intro w22 hw;have hg : w20.grownBy w22 (some go19):=(by rw [hw];exact HP21.2);have hp_ : Kd.S (Kd.slice 3 (Kd.int .i64)) 50 w22 w.heap.size (fun _ => True) (.slice (some ⟨go19,0,none⟩) t467.length co18) y474:=(by rw [hw,Ny474.out];exact HP21.1);clear HP21;have n0_:=Aside0.mk ((by rw [hw];exact below_set HB.out GB19.out : Below w.heap.size w w22));have n1_:=Aside0.mk (hp_);clear HB;clear HO473;clear HH19;have HB:=n0_;have HO469:=n1_;clear n0_ n1_;clear hg hw hp_ hraw21))
     go_ret2;exact ⟨_,by first | rfl | (simp [errW_none,errW_some] <;> rfl) | (simp [*,errW_none,errW_some] <;> rfl),by (with_reducible repeat (first | apply Kd.S_alloc | apply Kd.S_drewN | apply Kd.S_drew));exact HO469.out,by repeat (first | (with_reducible first | exact HB.out | apply b0_ | apply b1_ | apply b2_) | exact HB.out)⟩
    subst c11
    have H1 : (some (([] : List (List Int)),2)) = some (r1,r2):=by rw [if_pos rfl] at H;exact H
    clear H;have H:=H1;clear H1;simp only [Option.some.injEq,Prod.mk.injEq] at H;obtain ⟨rfl,rfl⟩:=H;go_wp2;go_ret2
    exact ⟨_,by first | rfl | (simp [errW_none,errW_some] <;> rfl) | (simp [*,errW_none,errW_some] <;> rfl),by first | exact Kd.S_nil _ _ _ _ _ | exact Kd.N_nil _ _ _ _ _ | exact Kd.V_nil _ _ _ _ _ | exact Kd.Q_nil _ _ _ _ _ | exact Kd.R_nil _ _ _ _ _,by repeat (first | (with_reducible first | exact HB.out | apply b0_ | apply b1_ | apply b2_) | exact HB.out)⟩
def generations_Add.f (k : Nat) (l0 : List (List Int)) (a1 : Int) (a2 : Int) : Option ((List (List Int)) × Int):=if l0 = [[],[],[],[]]∧a2 = 7 then generations_Add.g k l0 a1 a2 else none
theorem generations_Add.mono : ∀ a0 a1 a2 k,LeO (generations_Add.f k a0 a1 a2) (generations_Add.f (k + 1) a0 a1 a2):=by
 intro a0 a1 a2 k
 unfold generations_Add.f
 split
 · exact generations_Add.mono_g a0 a1 a2 k
 · exact LeO.refl _
theorem generations_Add.calls (k : Nat) (A0 : Option Addr) (c0 : Nat) (l0 : List (List Int)) (a1 : Int) (a2 : Int) (r1 : List (List Int)) (r2 : Int) (w : World) (hr0 : Kd.C (Kd.slice 3 (Kd.int .i64)) w A0 l0.length l0) (hc0 : l0.length≤c0) (h : generations_Add.f k l0 a1 a2 = some (r1,r2)) :
 Calls Try.prog 26 #[.slice A0 l0.length c0,.int .i64 a1,.int .i64 a2] w fun e w' => ∃ v0_ : Value,e = .returned (.tuple #[v0_,.int .i64 r2])∧Kd.S (Kd.slice 3 (Kd.int .i64)) 50 w' w.heap.size (fun _ => True) v0_ r1∧Below w.heap.size w w':=by
 unfold generations_Add.f at h
 by_cases c : l0 = [[],[],[],[]]∧a2 = 7
 rotate_left
 · rw [if_neg c] at h;cases h
 rw [if_pos c] at h;exact generations_Add.calls_g k A0 c0 l0 a1 a2 r1 r2 w hr0 hc0 c.1 c.2 h
end Go.Proofs.Ytnmenfkmndnoaaa.Pr
