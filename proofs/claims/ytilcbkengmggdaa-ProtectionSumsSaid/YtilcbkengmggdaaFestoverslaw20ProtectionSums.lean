-- Written by a program of this session (a changed copy of the kit's printer). Not trusted: Lean checks it.
import Derived.Test.YtilcbkengmggdaaM0
import Derived.Test.YtilcbkengmggdaaFestoversref20Inside
import Derived.Test.YtilcbkengmggdaaFestoversref20Overcommit
import Derived.Test.YtilcbkengmggdaaFestoversref20Same
import Derived.Test.YtilcbkengmggdaaM2
namespace Go.Proofs.Ytilcbkengmggdaa.Pr
open Go.RowKit Go.Proofs.YtilcbkengmggdaaW.PrintWords Go.Proofs.YtilcbkengmggdaaW.PrintLast Go.Proofs.YtilcbkengmggdaaW.PrintMore
attribute [local go_sem] max2_int min2_int max_two min_two max_three min_three max_four min_four   -- for this text's walks alone
set_option linter.unusedVariables false
set_option linter.unusedSimpArgs false
/-! ### estoverslaw20_ProtectionSums: function 5 -/
def estoverslaw20_ProtectionSums.j0 : Nat → List (S41) → List Int → Int → Bool → Option (Bool)
 | 0, _, _, _, _ => none
 | k + 1, x0, x1, x2, x18 => if x18 = true then ((estoverslaw20_awake.f k).bind fun t318 => (some t318)) else ((protection_Overcommit.f k x0 x2).bind fun bt319 => ((estoversref20_Overcommit.f k x0 x2).bind fun bt321 => (if bt319.2 = bt321.2 then (if bt319.1 = bt321.1 then ((protection_Inside.f k x0 x1).bind fun t323 => ((estoversref20_Inside.f k x0 x1).bind fun t326 => ((estoversref20_Same.f k t323 t326).bind fun t329 => (some t329)))) else (some false)) else (some false))))
def estoverslaw20_ProtectionSums.f (k : Nat) (l0 : List (S41)) (l1 : List Int) (a2 : Int) : Option (Bool) := (estoverslaw20_awake.f k).bind fun t316 => (if t316 = true then ((estoversref20_Few.f l0 l1).bind fun t317 => (estoverslaw20_ProtectionSums.j0 k l0 l1 a2 (!t317))) else (estoverslaw20_ProtectionSums.j0 k l0 l1 a2 true))
theorem estoverslaw20_ProtectionSums.mono_l : ∀ k, (∀ y0 y1 y2 y3, LeO (estoverslaw20_ProtectionSums.j0 k y0 y1 y2 y3) (estoverslaw20_ProtectionSums.j0 (k + 1) y0 y1 y2 y3))
 | 0 => fun _ _ _ _ r h => by simp [estoverslaw20_ProtectionSums.j0] at h
 | k + 1 => by
  have ih0 := estoverslaw20_ProtectionSums.mono_l k
  ·
   intro y0 y1 y2 y3
   unfold estoverslaw20_ProtectionSums.j0
   repeat' first
   | (with_reducible exact ih0 _ _ _ _)
   | (with_reducible exact estoverslaw20_awake.mono _)
   | (with_reducible exact estoversref20_Inside.mono _ _ _)
   | (with_reducible exact estoversref20_Overcommit.mono _ _ _)
   | (with_reducible exact estoversref20_Same.mono _ _ _)
   | (with_reducible exact protection_Inside.mono _ _ _)
   | (with_reducible exact protection_Overcommit.mono _ _ _)
   | (with_reducible exact LeO.refl _)
   | (with_reducible exact LeO.none _)
   | (with_reducible refine LeO.ite ?_ ?_)
   | (with_reducible refine LeO.bind ?_ (fun _ => ?_))
   | exact ih0 _ _ _ _
   | exact estoverslaw20_awake.mono _
   | exact estoversref20_Inside.mono _ _ _
   | exact estoversref20_Overcommit.mono _ _ _
   | exact estoversref20_Same.mono _ _ _
   | exact protection_Inside.mono _ _ _
   | exact protection_Overcommit.mono _ _ _
   | exact LeO.none _
   | refine LeO.ite ?_ ?_
   | refine LeO.bind ?_ (fun _ => ?_)
theorem estoverslaw20_ProtectionSums.mono : ∀ a0 a1 a2 k, LeO (estoverslaw20_ProtectionSums.f k a0 a1 a2) (estoverslaw20_ProtectionSums.f (k + 1) a0 a1 a2) := by
 intro a0 a1 a2 k
 have ih0 := estoverslaw20_ProtectionSums.mono_l k
 unfold estoverslaw20_ProtectionSums.f
 repeat' first
   | (with_reducible exact ih0 _ _ _ _)
   | (with_reducible exact estoverslaw20_awake.mono _)
   | (with_reducible exact estoversref20_Inside.mono _ _ _)
   | (with_reducible exact estoversref20_Overcommit.mono _ _ _)
   | (with_reducible exact estoversref20_Same.mono _ _ _)
   | (with_reducible exact protection_Inside.mono _ _ _)
   | (with_reducible exact protection_Overcommit.mono _ _ _)
   | (with_reducible exact LeO.refl _)
   | (with_reducible exact LeO.none _)
   | (with_reducible refine LeO.ite ?_ ?_)
   | (with_reducible refine LeO.bind ?_ (fun _ => ?_))
   | exact ih0 _ _ _ _
   | exact estoverslaw20_awake.mono _
   | exact estoversref20_Inside.mono _ _ _
   | exact estoversref20_Overcommit.mono _ _ _
   | exact estoversref20_Same.mono _ _ _
   | exact protection_Inside.mono _ _ _
   | exact protection_Overcommit.mono _ _ _
   | exact LeO.none _
   | refine LeO.ite ?_ ?_
   | refine LeO.bind ?_ (fun _ => ?_)
set_option maxHeartbeats 8000000 in
set_option maxRecDepth 100000 in
theorem estoverslaw20_ProtectionSums.calls (k : Nat) (A0 : Option Addr) (c0 : Nat) (l0 : List (S41)) (A1 : Option Addr) (c1 : Nat) (l1 : List Int) (a2 : Int) (r : Bool) (w : World) (hr0 : Kd.C k41 w A0 l0.length l0) (hc0 : l0.length ≤ c0) (hr1 : Kd.C (Kd.int .i64) w A1 l1.length l1) (hc1 : l1.length ≤ c1) (h : estoverslaw20_ProtectionSums.f k l0 l1 a2 = some r) :
  Calls Try.prog 5 #[.slice A0 l0.length c0, .slice A1 l1.length c1, .int .i64 a2] w fun e w' => e = .returned (.bool r) ∧ Below w.heap.size w w' := by
 have HR0 := Aside0.mk hr0
 have HC0 := Aside0.mk hc0
 clear hr0 hc0
 have HR1 := Aside0.mk hr1
 have HC1 := Aside0.mk hc1
 clear hr1 hc1
 have HB := Aside0.mk (Below.refl w.heap.size w)
 have H : ((estoverslaw20_awake.f k).bind fun t316 => (if t316 = true then ((estoversref20_Few.f l0 l1).bind fun t317 => (estoverslaw20_ProtectionSums.j0 k l0 l1 a2 (!t317))) else (estoverslaw20_ProtectionSums.j0 k l0 l1 a2 true))) = some r := h
 clear h
 have HC4 := Aside0.mk H
 clear H
 go_enter Try.func5, Try.ntmps5
 go_upto_region 1 with (fail)
 go_cut [18] (fun v18 wc => ∃ (kq : Nat) (x18_3 : Bool), v18 = .bool x18_3 ∧ Aside0 (estoverslaw20_ProtectionSums.j0 kq l0 l1 a2 x18_3 = some r) ∧ Aside0 (kq ≤ k) ∧ Aside0 (Below w.heap.size w wc))
 case first =>
  have H := HC4.out
  clear HC4
  replace H := Option.bind_eq_some_iff.mp H
  obtain ⟨t316, A50, H⟩ := H
  replace H : (if t316 = true then ((estoversref20_Few.f l0 l1).bind fun t317 => (estoverslaw20_ProtectionSums.j0 k l0 l1 a2 (!t317))) else (estoverslaw20_ProtectionSums.j0 k l0 l1 a2 true)) = some r := H
  have A5 := Aside0.mk A50
  clear A50
  by_cases c6 : t316 = true
  ·
   subst c6
   have H1 : ((estoversref20_Few.f l0 l1).bind fun t317 => (estoverslaw20_ProtectionSums.j0 k l0 l1 a2 (!t317))) = some r := by rw [if_pos rfl] at H; exact H
   clear H
   have H := H1
   clear H1
   replace H := Option.bind_eq_some_iff.mp H
   obtain ⟨t317, A70, H⟩ := H
   replace H : (estoverslaw20_ProtectionSums.j0 k l0 l1 a2 (!t317)) = some r := H
   have A7 := Aside0.mk A70
   clear A70
   have H' := Aside0.mk H
   clear H
   go_wp2_with (first | ((with_reducible refine gate_callee (f := 11) rfl ?_); refine goesL_ (some 11) rfl rfl Try.func11 (by kernel_rfl) rfl #[] rfl (by (try simp only [List.map_toArray, List.map_cons, List.map_nil]); first | done | rfl | (simp only [List.length_drop, List.length_take]; rfl)) ?_; (with_reducible refine (estoverslaw20_awake.calls k  true _ A5.out).mono ?_); rintro e w8 ⟨rfl, hb⟩; refine ⟨_, rfl, ?_⟩; have n0_ := Aside0.mk (below_step (by repeat (first | (with_reducible first | exact HB.out | apply below_alloc | apply pw_below_drewN | apply below_drew1) | exact HB.out)) hb); clear HB; have HB := n0_; clear n0_; (try clear hb); (try clear hb2); (try clear hk); (try clear hi)) | (go_at_call 12; (with_reducible refine (estoversref20_Few.calls _ _ l0 _ _ l1 t317 _ ?side1 ?side2 ?side3 ?side4 A7.out).mono ?_); (case side1 => repeat (first | exact (Kd.C_below HR0.out HB.out) | (with_reducible refine Kd.C_alloc ?_ _) | (with_reducible refine Kd.C_drewN ?_ _) | (with_reducible refine Kd.C_drew ?_))); (case side2 => exact HC0.out); (case side3 => repeat (first | exact (Kd.C_below HR1.out HB.out) | (with_reducible refine Kd.C_alloc ?_ _) | (with_reducible refine Kd.C_drewN ?_ _) | (with_reducible refine Kd.C_drew ?_))); (case side4 => exact HC1.out); rintro e w' ⟨rfl, ⟨nd, rfl⟩⟩))
   go_meet
   case rel => exact ⟨_, (!t317), (by first | rfl | (simp; done) | (simp [*]; done)), H', ⟨by first | omega | exact Nat.le_refl _⟩, ⟨by repeat (first | (with_reducible first | exact HB.out | apply below_alloc | apply pw_below_drewN | apply below_drew1) | exact HB.out)⟩⟩
  ·
   replace c6 := Bool.eq_false_iff.mpr c6
   subst c6
   have H1 : (estoverslaw20_ProtectionSums.j0 k l0 l1 a2 true) = some r := by rw [if_neg (show ¬ (false = true) by decide)] at H; exact H
   clear H
   have H := H1
   clear H1
   have H' := Aside0.mk H
   clear H
   go_wp2_with (first | ((with_reducible refine gate_callee (f := 11) rfl ?_); refine goesL_ (some 11) rfl rfl Try.func11 (by kernel_rfl) rfl #[] rfl (by (try simp only [List.map_toArray, List.map_cons, List.map_nil]); first | done | rfl | (simp only [List.length_drop, List.length_take]; rfl)) ?_; (with_reducible refine (estoverslaw20_awake.calls k  false _ A5.out).mono ?_); rintro e w9 ⟨rfl, hb⟩; refine ⟨_, rfl, ?_⟩; have n0_ := Aside0.mk (below_step (by repeat (first | (with_reducible first | exact HB.out | apply below_alloc | apply pw_below_drewN | apply below_drew1) | exact HB.out)) hb); clear HB; have HB := n0_; clear n0_; (try clear hb); (try clear hb2); (try clear hk); (try clear hi)))
   go_meet
   case rel => exact ⟨_, (true), (by first | rfl | (simp; done) | (simp [*]; done)), H', ⟨by first | omega | exact Nat.le_refl _⟩, ⟨by repeat (first | (with_reducible first | exact HB.out | apply below_alloc | apply pw_below_drewN | apply below_drew1) | exact HB.out)⟩⟩
 case rest =>
  clear HC4
  try clear c1
  try clear p2
  try clear c5
  try clear c6
  obtain ⟨kq, x18_3, rfl, HA, HJ3, HB⟩ := hcut
  cases kq with
  | zero => exact absurd HA.out (by simp [estoverslaw20_ProtectionSums.j0])
  | succ kj3 =>
   have H := HA.out
   clear HA
   simp only [estoverslaw20_ProtectionSums.j0] at H
   by_cases c10 : x18_3 = true
   ·
    subst c10
    have H1 : ((estoverslaw20_awake.f kj3).bind fun t318 => (some t318)) = some r := by rw [if_pos rfl] at H; exact H
    clear H
    have H := H1
    clear H1
    replace H := Option.bind_eq_some_iff.mp H
    obtain ⟨t318, A110, H⟩ := H
    replace H : (some t318) = some r := H
    have A11 := Aside0.mk A110
    clear A110
    obtain rfl := Option.some.inj H
    go_wp2_with (first | ((with_reducible refine gate_callee (f := 11) rfl ?_); refine goesL_ (some 19) rfl rfl Try.func11 (by kernel_rfl) rfl #[] rfl (by (try simp only [List.map_toArray, List.map_cons, List.map_nil]); first | done | rfl | (simp only [List.length_drop, List.length_take]; rfl)) ?_; (with_reducible refine (estoverslaw20_awake.calls kj3  t318 _ A11.out).mono ?_); rintro e w12 ⟨rfl, hb⟩; refine ⟨_, rfl, ?_⟩; have n0_ := Aside0.mk (below_step (by repeat (first | (with_reducible first | exact HB.out | apply below_alloc | apply pw_below_drewN | apply below_drew1) | exact HB.out)) hb); clear HB; have HB := n0_; clear n0_; (try clear hb); (try clear hb2); (try clear hk); (try clear hi)))
    go_ret
    exact ⟨by first | rfl | (simp [errW_none, errW_some] <;> rfl) | (simp [*, errW_none, errW_some] <;> rfl), by repeat (first | (with_reducible first | exact HB.out | apply below_alloc | apply pw_below_drewN | apply below_drew1) | exact HB.out)⟩
   ·
    replace c10 := Bool.eq_false_iff.mpr c10
    subst c10
    have H1 : ((protection_Overcommit.f kj3 l0 a2).bind fun bt319 => ((estoversref20_Overcommit.f kj3 l0 a2).bind fun bt321 => (if bt319.2 = bt321.2 then (if bt319.1 = bt321.1 then ((protection_Inside.f kj3 l0 l1).bind fun t323 => ((estoversref20_Inside.f kj3 l0 l1).bind fun t326 => ((estoversref20_Same.f kj3 t323 t326).bind fun t329 => (some t329)))) else (some false)) else (some false)))) = some r := by rw [if_neg (show ¬ (false = true) by decide)] at H; exact H
    clear H
    have H := H1
    clear H1
    replace H := Option.bind_eq_some_iff.mp H
    obtain ⟨⟨t319, t320⟩, A130, H⟩ := H
    replace H : ((estoversref20_Overcommit.f kj3 l0 a2).bind fun bt321 => (if t320 = bt321.2 then (if t319 = bt321.1 then ((protection_Inside.f kj3 l0 l1).bind fun t323 => ((estoversref20_Inside.f kj3 l0 l1).bind fun t326 => ((estoversref20_Same.f kj3 t323 t326).bind fun t329 => (some t329)))) else (some false)) else (some false))) = some r := H
    have A13 := Aside0.mk A130
    clear A130
    replace H := Option.bind_eq_some_iff.mp H
    obtain ⟨⟨t321, t322⟩, A140, H⟩ := H
    replace H : (if t320 = t322 then (if t319 = t321 then ((protection_Inside.f kj3 l0 l1).bind fun t323 => ((estoversref20_Inside.f kj3 l0 l1).bind fun t326 => ((estoversref20_Same.f kj3 t323 t326).bind fun t329 => (some t329)))) else (some false)) else (some false)) = some r := H
    have A14 := Aside0.mk A140
    clear A140
    by_cases c15 : t320 = t322
    ·
     rw [if_pos c15] at H
     have c15b0 : (t320 == t322) = true := beq_iff_eq.mpr c15
     have c15b1 : (t320 != t322) = false := bne_eq_false_iff_eq.mpr c15
     clear c15
     by_cases c16 : t319 = t321
     ·
      rw [if_pos c16] at H
      have c16b0 : (t319 == t321) = true := beq_iff_eq.mpr c16
      have c16b1 : (t319 != t321) = false := bne_eq_false_iff_eq.mpr c16
      clear c16
      replace H := Option.bind_eq_some_iff.mp H
      obtain ⟨t323, A170, H⟩ := H
      replace H : ((estoversref20_Inside.f kj3 l0 l1).bind fun t326 => ((estoversref20_Same.f kj3 t323 t326).bind fun t329 => (some t329))) = some r := H
      have A17 := Aside0.mk A170
      clear A170
      replace H := Option.bind_eq_some_iff.mp H
      obtain ⟨t326, A180, H⟩ := H
      replace H : ((estoversref20_Same.f kj3 t323 t326).bind fun t329 => (some t329)) = some r := H
      have A18 := Aside0.mk A180
      clear A180
      replace H := Option.bind_eq_some_iff.mp H
      obtain ⟨t329, A190, H⟩ := H
      replace H : (some t329) = some r := H
      have A19 := Aside0.mk A190
      clear A190
      obtain rfl := Option.some.inj H
      go_wp2_with (first | ((with_reducible refine gate_callee (f := 18) rfl ?_); refine goesL_ (some 23) rfl rfl Try.func18 (by kernel_rfl) rfl #[.slice A0 l0.length c0, .int .i64 a2] rfl (by (try simp only [List.map_toArray, List.map_cons, List.map_nil]); first | done | rfl | (simp only [List.length_drop, List.length_take]; rfl)) ?_; (with_reducible refine (protection_Overcommit.calls kj3 _ _ l0 a2 t319 t320 _ ?side1 ?side2 A13.out).mono ?_); (case side1 => repeat (first | exact (Kd.C_below HR0.out HB.out) | (with_reducible refine Kd.C_alloc ?_ _) | (with_reducible refine Kd.C_drewN ?_ _) | (with_reducible refine Kd.C_drew ?_))); (case side2 => exact HC0.out); rintro e w20 ⟨rfl, hb⟩; refine ⟨_, rfl, ?_⟩; have n0_ := Aside0.mk (below_step (by repeat (first | (with_reducible first | exact HB.out | apply below_alloc | apply pw_below_drewN | apply below_drew1) | exact HB.out)) hb); clear HB; have HB := n0_; clear n0_; (try clear hb); (try clear hb2); (try clear hk); (try clear hi)) | ((with_reducible refine gate_callee (f := 19) rfl ?_); refine goesL_ (some 29) rfl rfl Try.func19 (by kernel_rfl) rfl #[.slice A0 l0.length c0, .int .i64 a2] rfl (by (try simp only [List.map_toArray, List.map_cons, List.map_nil]); first | done | rfl | (simp only [List.length_drop, List.length_take]; rfl)) ?_; (with_reducible refine (estoversref20_Overcommit.calls kj3 _ _ l0 a2 t321 t322 _ ?side1 ?side2 A14.out).mono ?_); (case side1 => repeat (first | exact (Kd.C_below HR0.out HB.out) | (with_reducible refine Kd.C_alloc ?_ _) | (with_reducible refine Kd.C_drewN ?_ _) | (with_reducible refine Kd.C_drew ?_))); (case side2 => exact HC0.out); rintro e w' ⟨rfl, ⟨nd, rfl⟩⟩; refine ⟨_, rfl, ?_⟩) | (go_at_call 20; (with_reducible refine (protection_Inside.calls kj3 _ _ l0 _ _ l1 t323 _ ?side1 ?side2 ?side3 ?side4 A17.out).mono ?_); (case side1 => repeat (first | exact (Kd.C_below HR0.out (by repeat (first | (with_reducible first | exact HB.out | apply below_alloc | apply pw_below_drewN | apply below_drew1) | exact HB.out))) | (with_reducible refine Kd.C_alloc ?_ _) | (with_reducible refine Kd.C_drewN ?_ _) | (with_reducible refine Kd.C_drew ?_))); (case side2 => exact HC0.out); (case side3 => repeat (first | exact (Kd.C_below HR1.out (by repeat (first | (with_reducible first | exact HB.out | apply below_alloc | apply pw_below_drewN | apply below_drew1) | exact HB.out))) | (with_reducible refine Kd.C_alloc ?_ _) | (with_reducible refine Kd.C_drewN ?_ _) | (with_reducible refine Kd.C_drew ?_))); (case side4 => exact HC1.out); rintro e w21 ⟨v324, rfl, ho0, hb⟩; have n0_ := Aside0.mk (Kd.R_lower ho0 (below_size (by repeat (first | (with_reducible first | exact HB.out | apply below_alloc | apply pw_below_drewN | apply below_drew1) | exact HB.out)))); have n1_ := Aside0.mk (below_step (by repeat (first | (with_reducible first | exact HB.out | apply below_alloc | apply pw_below_drewN | apply below_drew1) | exact HB.out)) hb); clear HB; have HO325 := n0_; have HB := n1_; clear n0_ n1_; (try clear hb); (try clear hb2); (try clear hk); (try clear hi); (try clear ho0)) | (go_at_call 21; (with_reducible refine (estoversref20_Inside.calls kj3 _ _ l0 _ _ l1 t326 _ ?side1 ?side2 ?side3 ?side4 A18.out).mono ?_); (case side1 => repeat (first | exact (Kd.C_below HR0.out HB.out) | (with_reducible refine Kd.C_alloc ?_ _) | (with_reducible refine Kd.C_drewN ?_ _) | (with_reducible refine Kd.C_drew ?_))); (case side2 => exact HC0.out); (case side3 => repeat (first | exact (Kd.C_below HR1.out HB.out) | (with_reducible refine Kd.C_alloc ?_ _) | (with_reducible refine Kd.C_drewN ?_ _) | (with_reducible refine Kd.C_drew ?_))); (case side4 => exact HC1.out); rintro e w22 ⟨v327, rfl, ho0, hb⟩; have n0_ := Aside0.mk (Kd.R_elder' (by (with_reducible repeat (first | apply Kd.R_alloc | apply Kd.R_drewN | apply Kd.R_drew)); exact HO325.out) (Kd.R_base ho0) hb); have n1_ := Aside0.mk (Kd.R_lower (Kd.R_new' ho0 (Kd.R_lt (by (with_reducible repeat (first | apply Kd.R_alloc | apply Kd.R_drewN | apply Kd.R_drew)); exact HO325.out))) (below_size (by repeat (first | (with_reducible first | exact HB.out | apply below_alloc | apply pw_below_drewN | apply below_drew1) | exact HB.out)))); have n2_ := Aside0.mk (below_step (by repeat (first | (with_reducible first | exact HB.out | apply below_alloc | apply pw_below_drewN | apply below_drew1) | exact HB.out)) hb); clear HO325; clear HB; have HO325 := n0_; have HO328 := n1_; have HB := n2_; clear n0_ n1_ n2_; (try clear hb); (try clear hb2); (try clear hk); (try clear hi); (try clear ho0); obtain ⟨Ao23, co23, eo23⟩ := Kd.R_slice HO325.out; subst eo23; obtain ⟨Ao24, co24, eo24⟩ := Kd.R_slice HO328.out; subst eo24) | (go_at_call 15; (with_reducible refine (estoversref20_Same.calls kj3 _ _ t323 _ _ t326 t329 _ ?side1 ?side2 ?side3 ?side4 A19.out).mono ?_); (case side1 => repeat (first | exact (Kd.R_reads' HO325.out).2.2 | (with_reducible refine Kd.C_alloc ?_ _) | (with_reducible refine Kd.C_drewN ?_ _) | (with_reducible refine Kd.C_drew ?_))); (case side2 => exact (Kd.R_reads' HO325.out).2.1); (case side3 => repeat (first | exact (Kd.R_reads' HO328.out).2.2 | (with_reducible refine Kd.C_alloc ?_ _) | (with_reducible refine Kd.C_drewN ?_ _) | (with_reducible refine Kd.C_drew ?_))); (case side4 => exact (Kd.R_reads' HO328.out).2.1); rintro e w' ⟨rfl, ⟨nd, rfl⟩⟩))
      go_ret
      exact ⟨by first | rfl | (simp [errW_none, errW_some] <;> rfl) | (simp [*, errW_none, errW_some] <;> rfl), by repeat (first | (with_reducible first | exact HB.out | apply below_alloc | apply pw_below_drewN | apply below_drew1) | exact HB.out)⟩
     ·
      rw [if_neg c16] at H
      have c16b0 : (t319 == t321) = false := beq_eq_false_iff_ne.mpr c16
      have c16b1 : (t319 != t321) = true := bne_iff_ne.mpr c16
      obtain rfl := Option.some.inj H
      go_wp2_with (first | ((with_reducible refine gate_callee (f := 18) rfl ?_); refine goesL_ (some 23) rfl rfl Try.func18 (by kernel_rfl) rfl #[.slice A0 l0.length c0, .int .i64 a2] rfl (by (try simp only [List.map_toArray, List.map_cons, List.map_nil]); first | done | rfl | (simp only [List.length_drop, List.length_take]; rfl)) ?_; (with_reducible refine (protection_Overcommit.calls kj3 _ _ l0 a2 t319 t320 _ ?side1 ?side2 A13.out).mono ?_); (case side1 => repeat (first | exact (Kd.C_below HR0.out HB.out) | (with_reducible refine Kd.C_alloc ?_ _) | (with_reducible refine Kd.C_drewN ?_ _) | (with_reducible refine Kd.C_drew ?_))); (case side2 => exact HC0.out); rintro e w25 ⟨rfl, hb⟩; refine ⟨_, rfl, ?_⟩; have n0_ := Aside0.mk (below_step (by repeat (first | (with_reducible first | exact HB.out | apply below_alloc | apply pw_below_drewN | apply below_drew1) | exact HB.out)) hb); clear HB; have HB := n0_; clear n0_; (try clear hb); (try clear hb2); (try clear hk); (try clear hi)) | ((with_reducible refine gate_callee (f := 19) rfl ?_); refine goesL_ (some 29) rfl rfl Try.func19 (by kernel_rfl) rfl #[.slice A0 l0.length c0, .int .i64 a2] rfl (by (try simp only [List.map_toArray, List.map_cons, List.map_nil]); first | done | rfl | (simp only [List.length_drop, List.length_take]; rfl)) ?_; (with_reducible refine (estoversref20_Overcommit.calls kj3 _ _ l0 a2 t321 t322 _ ?side1 ?side2 A14.out).mono ?_); (case side1 => repeat (first | exact (Kd.C_below HR0.out HB.out) | (with_reducible refine Kd.C_alloc ?_ _) | (with_reducible refine Kd.C_drewN ?_ _) | (with_reducible refine Kd.C_drew ?_))); (case side2 => exact HC0.out); rintro e w' ⟨rfl, ⟨nd, rfl⟩⟩; refine ⟨_, rfl, ?_⟩))
      go_ret
      exact ⟨by first | rfl | (simp [errW_none, errW_some] <;> rfl) | (simp [*, errW_none, errW_some] <;> rfl), by repeat (first | (with_reducible first | exact HB.out | apply below_alloc | apply pw_below_drewN | apply below_drew1) | exact HB.out)⟩
    ·
     rw [if_neg c15] at H
     have c15b0 : (t320 == t322) = false := beq_eq_false_iff_ne.mpr c15
     have c15b1 : (t320 != t322) = true := bne_iff_ne.mpr c15
     obtain rfl := Option.some.inj H
     go_wp2_with (first | ((with_reducible refine gate_callee (f := 18) rfl ?_); refine goesL_ (some 23) rfl rfl Try.func18 (by kernel_rfl) rfl #[.slice A0 l0.length c0, .int .i64 a2] rfl (by (try simp only [List.map_toArray, List.map_cons, List.map_nil]); first | done | rfl | (simp only [List.length_drop, List.length_take]; rfl)) ?_; (with_reducible refine (protection_Overcommit.calls kj3 _ _ l0 a2 t319 t320 _ ?side1 ?side2 A13.out).mono ?_); (case side1 => repeat (first | exact (Kd.C_below HR0.out HB.out) | (with_reducible refine Kd.C_alloc ?_ _) | (with_reducible refine Kd.C_drewN ?_ _) | (with_reducible refine Kd.C_drew ?_))); (case side2 => exact HC0.out); rintro e w26 ⟨rfl, hb⟩; refine ⟨_, rfl, ?_⟩; have n0_ := Aside0.mk (below_step (by repeat (first | (with_reducible first | exact HB.out | apply below_alloc | apply pw_below_drewN | apply below_drew1) | exact HB.out)) hb); clear HB; have HB := n0_; clear n0_; (try clear hb); (try clear hb2); (try clear hk); (try clear hi)) | ((with_reducible refine gate_callee (f := 19) rfl ?_); refine goesL_ (some 29) rfl rfl Try.func19 (by kernel_rfl) rfl #[.slice A0 l0.length c0, .int .i64 a2] rfl (by (try simp only [List.map_toArray, List.map_cons, List.map_nil]); first | done | rfl | (simp only [List.length_drop, List.length_take]; rfl)) ?_; (with_reducible refine (estoversref20_Overcommit.calls kj3 _ _ l0 a2 t321 t322 _ ?side1 ?side2 A14.out).mono ?_); (case side1 => repeat (first | exact (Kd.C_below HR0.out HB.out) | (with_reducible refine Kd.C_alloc ?_ _) | (with_reducible refine Kd.C_drewN ?_ _) | (with_reducible refine Kd.C_drew ?_))); (case side2 => exact HC0.out); rintro e w' ⟨rfl, ⟨nd, rfl⟩⟩; refine ⟨_, rfl, ?_⟩))
     go_ret
     exact ⟨by first | rfl | (simp [errW_none, errW_some] <;> rfl) | (simp [*, errW_none, errW_some] <;> rfl), by repeat (first | (with_reducible first | exact HB.out | apply below_alloc | apply pw_below_drewN | apply below_drew1) | exact HB.out)⟩
end Go.Proofs.Ytilcbkengmggdaa.Pr
