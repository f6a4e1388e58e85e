-- Written by a program of this session (a changed copy of the kit's printer). Not trusted: Lean checks it.
import Derived.Test.YtnmenfkmndnoaaaM0
import Derived.Test.YtnmenfkmndnoaaaFestoversref39Check
import Derived.Test.YtnmenfkmndnoaaaM1
import Derived.Test.YtnmenfkmndnoaaaM3
namespace Go.Proofs.Ytnmenfkmndnoaaa.Pr
open Go.RowKit Go.Proofs.YtnmenfkmndnoaaaW.PrintWords Go.Proofs.YtnmenfkmndnoaaaW.PrintLast Go.Proofs.YtnmenfkmndnoaaaW.PrintMore
attribute [local go_sem] max2_int min2_int max_two min_two max_three min_three max_four min_four   -- for this text's walks alone
set_option linter.unusedVariables false
set_option linter.unusedSimpArgs false
/-! ### estoverslaw39_ReclaimplanChecks: function 6 -/
def estoverslaw39_ReclaimplanChecks.j0 : Nat → List (S34) → List (S30) → Bool → Option (Bool)
 | 0, _, _, _ => none
 | k + 1, x0, x1, x12 => if x12 = true then ((estoverslaw39_awake.f k).bind fun t234 => (some t234)) else ((reclaimplan_Check.f k x0 x1).bind fun t235 => ((estoversref39_Check.f k x0 x1).bind fun t236 => (some (t235 == t236))))
def estoverslaw39_ReclaimplanChecks.f (k : Nat) (l0 : List (S34)) (l1 : List (S30)) : Option (Bool) := (estoverslaw39_awake.f k).bind fun t232 => (if t232 = true then ((estoversref39_Few.f l0 l1).bind fun t233 => (estoverslaw39_ReclaimplanChecks.j0 k l0 l1 (!t233))) else (estoverslaw39_ReclaimplanChecks.j0 k l0 l1 true))
theorem estoverslaw39_ReclaimplanChecks.mono_l : ∀ k, (∀ y0 y1 y2, LeO (estoverslaw39_ReclaimplanChecks.j0 k y0 y1 y2) (estoverslaw39_ReclaimplanChecks.j0 (k + 1) y0 y1 y2))
 | 0 => fun _ _ _ r h => by simp [estoverslaw39_ReclaimplanChecks.j0] at h
 | k + 1 => by
  have ih0 := estoverslaw39_ReclaimplanChecks.mono_l k
  ·
   intro y0 y1 y2
   unfold estoverslaw39_ReclaimplanChecks.j0
   repeat' first
    | (with_reducible exact ih0 _ _ _)
    | (with_reducible exact estoverslaw39_awake.mono _)
    | (with_reducible exact estoversref39_Check.mono _ _ _)
    | (with_reducible exact reclaimplan_Check.mono _ _ _)
    | (with_reducible exact LeO.refl _)
    | (with_reducible exact LeO.none _)
    | (with_reducible refine LeO.ite ?_ ?_)
    | (with_reducible refine LeO.bind ?_ (fun _ => ?_))
    | exact ih0 _ _ _
    | exact estoverslaw39_awake.mono _
    | exact estoversref39_Check.mono _ _ _
    | exact reclaimplan_Check.mono _ _ _
    | exact LeO.none _
    | refine LeO.ite ?_ ?_
    | refine LeO.bind ?_ (fun _ => ?_)
theorem estoverslaw39_ReclaimplanChecks.mono : ∀ a0 a1 k, LeO (estoverslaw39_ReclaimplanChecks.f k a0 a1) (estoverslaw39_ReclaimplanChecks.f (k + 1) a0 a1) := by
 intro a0 a1 k; have ih0 := estoverslaw39_ReclaimplanChecks.mono_l k
 unfold estoverslaw39_ReclaimplanChecks.f
 repeat' first
  | (with_reducible exact ih0 _ _ _)
  | (with_reducible exact estoverslaw39_awake.mono _)
  | (with_reducible exact estoversref39_Check.mono _ _ _)
  | (with_reducible exact reclaimplan_Check.mono _ _ _)
  | (with_reducible exact LeO.refl _)
  | (with_reducible exact LeO.none _)
  | (with_reducible refine LeO.ite ?_ ?_)
  | (with_reducible refine LeO.bind ?_ (fun _ => ?_))
  | exact ih0 _ _ _
  | exact estoverslaw39_awake.mono _
  | exact estoversref39_Check.mono _ _ _
  | exact reclaimplan_Check.mono _ _ _
  | exact LeO.none _
  | refine LeO.ite ?_ ?_
  | refine LeO.bind ?_ (fun _ => ?_)
set_option maxHeartbeats 8000000 in
set_option maxRecDepth 100000 in
theorem estoverslaw39_ReclaimplanChecks.calls (k : Nat) (A0 : Option Addr) (c0 : Nat) (l0 : List (S34)) (A1 : Option Addr) (c1 : Nat) (l1 : List (S30)) (r : Bool) (w : World) (hr0 : Kd.C k34 w A0 l0.length l0) (hc0 : l0.length ≤ c0) (hr1 : Kd.C k30 w A1 l1.length l1) (hc1 : l1.length ≤ c1) (h : estoverslaw39_ReclaimplanChecks.f k l0 l1 = some r) :
 Calls Try.prog 6 #[.slice A0 l0.length c0, .slice A1 l1.length c1] w fun e w' => e = .returned (.bool r) ∧ Below w.heap.size w w' := by
 have HR0 := Aside0.mk hr0; have HC0 := Aside0.mk hc0; clear hr0 hc0; have HR1 := Aside0.mk hr1; have HC1 := Aside0.mk hc1; clear hr1 hc1; have HB := Aside0.mk (Below.refl w.heap.size w)
 have H : ((estoverslaw39_awake.f k).bind fun t232 => (if t232 = true then ((estoversref39_Few.f l0 l1).bind fun t233 => (estoverslaw39_ReclaimplanChecks.j0 k l0 l1 (!t233))) else (estoverslaw39_ReclaimplanChecks.j0 k l0 l1 true))) = some r := h; clear h; have HC3 := Aside0.mk H; clear H
 go_enter Try.func6, Try.ntmps6
 go_upto_region 1 with (fail)
 go_cut [12] (fun v12 wc => ∃ (kq : Nat) (x12_2 : Bool), v12 = .bool x12_2 ∧ Aside0 (estoverslaw39_ReclaimplanChecks.j0 kq l0 l1 x12_2 = some r) ∧ Aside0 (kq ≤ k) ∧ Aside0 (Below w.heap.size w wc))
 case first =>
  have H := HC3.out; clear HC3; replace H := Option.bind_eq_some_iff.mp H; obtain ⟨t232, A40, H⟩ := H; replace H : (if t232 = true then ((estoversref39_Few.f l0 l1).bind fun t233 => (estoverslaw39_ReclaimplanChecks.j0 k l0 l1 (!t233))) else (estoverslaw39_ReclaimplanChecks.j0 k l0 l1 true)) = some r := H; have A4 := Aside0.mk A40; clear A40; by_cases c5 : t232 = true
  rotate_left
  ·
   replace c5 := Bool.eq_false_iff.mpr c5; subst c5
   have H1 : (estoverslaw39_ReclaimplanChecks.j0 k l0 l1 true) = some r := by rw [if_neg (show ¬ (false = true) by decide)] at H; exact H
   clear H; have H := H1; clear H1; have H' := Aside0.mk H; clear H
   go_wp2_with (first | ((with_reducible refine gate_callee (f := 29) rfl ?_); refine goesL_ (some 5) rfl rfl Try.func29 (by kernel_rfl) rfl #[] rfl (by (try simp only [z3_, z4_, z5_]); first | done | rfl | (simp only [z6_, z7_]; rfl)) ?_; (with_reducible refine (estoverslaw39_awake.calls k  false _ A4.out).mono ?_); rintro e w8 ⟨rfl, hb⟩; refine ⟨_, rfl, ?_⟩; have n0_ := Aside0.mk (below_step (by repeat (first | (with_reducible first | exact HB.out | apply b0_ | apply b1_ | apply b2_) | exact HB.out)) hb); clear HB; have HB := n0_; clear n0_))
   go_meet
   case rel => exact ⟨_, (true), (by first | rfl | (simp; done) | (simp [*]; done)), H', ⟨by first | omega | exact Nat.le_refl _⟩, ⟨by repeat (first | (with_reducible first | exact HB.out | apply b0_ | apply b1_ | apply b2_) | exact HB.out)⟩⟩
  subst c5
  have H1 : ((estoversref39_Few.f l0 l1).bind fun t233 => (estoverslaw39_ReclaimplanChecks.j0 k l0 l1 (!t233))) = some r := by rw [if_pos rfl] at H; exact H
  clear H; have H := H1; clear H1; replace H := Option.bind_eq_some_iff.mp H; obtain ⟨t233, A60, H⟩ := H; replace H : (estoverslaw39_ReclaimplanChecks.j0 k l0 l1 (!t233)) = some r := H; have A6 := Aside0.mk A60; clear A60; have H' := Aside0.mk H; clear H
  go_wp2_with (first | ((with_reducible refine gate_callee (f := 29) rfl ?_); refine goesL_ (some 5) rfl rfl Try.func29 (by kernel_rfl) rfl #[] rfl (by (try simp only [z3_, z4_, z5_]); first | done | rfl | (simp only [z6_, z7_]; rfl)) ?_; (with_reducible refine (estoverslaw39_awake.calls k  true _ A4.out).mono ?_); rintro e w7 ⟨rfl, hb⟩; refine ⟨_, rfl, ?_⟩; have n0_ := Aside0.mk (below_step (by repeat (first | (with_reducible first | exact HB.out | apply b0_ | apply b1_ | apply b2_) | exact HB.out)) hb); clear HB; have HB := n0_; clear n0_) | (go_at_call 30; (with_reducible refine (estoversref39_Few.calls _ _ l0 _ _ l1 t233 _ ?side1 ?side2 ?side3 ?side4 A6.out).mono ?_); (case side1 => repeat (first | exact (Kd.C_below HR0.out HB.out) | (with_reducible refine Kd.C_alloc ?_ _) | (with_reducible refine Kd.C_drewN ?_ _) | (with_reducible refine Kd.C_drew ?_))); (case side2 => exact HC0.out); (case side3 => repeat (first | exact (Kd.C_below HR1.out HB.out) | (with_reducible refine Kd.C_alloc ?_ _) | (with_reducible refine Kd.C_drewN ?_ _) | (with_reducible refine Kd.C_drew ?_))); (case side4 => exact HC1.out); rintro e w' ⟨rfl, ⟨nd, rfl⟩⟩))
  go_meet
  case rel => exact ⟨_, (!t233), (by first | rfl | (simp; done) | (simp [*]; done)), H', ⟨by first | omega | exact Nat.le_refl _⟩, ⟨by repeat (first | (with_reducible first | exact HB.out | apply b0_ | apply b1_ | apply b2_) | exact HB.out)⟩⟩
 case rest =>
  clear HC3; obtain ⟨kq, x12_2, rfl, HA, HJ2, HB⟩ := hcut
  cases kq with
   | zero => exact absurd HA.out (by simp [estoverslaw39_ReclaimplanChecks.j0])
   | succ kj2 =>
    have H := HA.out; clear HA; simp only [estoverslaw39_ReclaimplanChecks.j0] at H; by_cases c9 : x12_2 = true
    rotate_left
    ·
     replace c9 := Bool.eq_false_iff.mpr c9; subst c9
     have H1 : ((reclaimplan_Check.f kj2 l0 l1).bind fun t235 => ((estoversref39_Check.f kj2 l0 l1).bind fun t236 => (some (t235 == t236)))) = some r := by rw [if_neg (show ¬ (false = true) by decide)] at H; exact H
     clear H; have H := H1; clear H1; replace H := Option.bind_eq_some_iff.mp H; obtain ⟨t235, A120, H⟩ := H; replace H : ((estoversref39_Check.f kj2 l0 l1).bind fun t236 => (some (t235 == t236))) = some r := H; have A12 := Aside0.mk A120; clear A120; replace H := Option.bind_eq_some_iff.mp H; obtain ⟨t236, A130, H⟩ := H; replace H : (some (t235 == t236)) = some r := H; have A13 := Aside0.mk A130
     clear A130; obtain rfl := Option.some.inj H
     go_wp2_with (first | ((with_reducible refine gate_callee (f := 31) rfl ?_); refine goesL_ (some 16) rfl rfl Try.func31 (by kernel_rfl) rfl #[.slice A0 l0.length c0, .slice A1 l1.length c1] rfl (by (try simp only [z3_, z4_, z5_]); first | done | rfl | (simp only [z6_, z7_]; rfl)) ?_; (with_reducible refine (reclaimplan_Check.calls kj2 _ _ l0 _ _ l1 t235 _ ?side1 ?side2 ?side3 ?side4 A12.out).mono ?_); (case side1 => repeat (first | exact (Kd.C_below HR0.out HB.out) | (with_reducible refine Kd.C_alloc ?_ _) | (with_reducible refine Kd.C_drewN ?_ _) | (with_reducible refine Kd.C_drew ?_))); (case side2 => exact HC0.out); (case side3 => repeat (first | exact (Kd.C_below HR1.out HB.out) | (with_reducible refine Kd.C_alloc ?_ _) | (with_reducible refine Kd.C_drewN ?_ _) | (with_reducible refine Kd.C_drew ?_))); (case side4 => exact HC1.out); rintro e w14 ⟨rfl, hb⟩; refine ⟨_, rfl, ?_⟩; have n0_ := Aside0.mk (below_step (by repeat (first | (with_reducible first | exact HB.out | apply b0_ | apply b1_ | apply b2_) | exact HB.out)) hb); clear HB; have HB := n0_; clear n0_) | ((with_reducible refine gate_callee (f := 32) rfl ?_); refine goesL_ (some 19) rfl rfl Try.func32 (by kernel_rfl) rfl #[.slice A0 l0.length c0, .slice A1 l1.length c1] rfl (by (try simp only [z3_, z4_, z5_]); first | done | rfl | (simp only [z6_, z7_]; rfl)) ?_; (with_reducible refine (estoversref39_Check.calls kj2 _ _ l0 _ _ l1 t236 _ ?side1 ?side2 ?side3 ?side4 A13.out).mono ?_); (case side1 => repeat (first | exact (Kd.C_below HR0.out HB.out) | (with_reducible refine Kd.C_alloc ?_ _) | (with_reducible refine Kd.C_drewN ?_ _) | (with_reducible refine Kd.C_drew ?_))); (case side2 => exact HC0.out); (case side3 => repeat (first | exact (Kd.C_below HR1.out HB.out) | (with_reducible refine Kd.C_alloc ?_ _) | (with_reducible refine Kd.C_drewN ?_ _) | (with_reducible refine Kd.C_drew ?_))); (case side4 => exact HC1.out); rintro e w15 ⟨rfl, hb⟩; refine ⟨_, rfl, ?_⟩; have n0_ := Aside0.mk (below_step (by repeat (first | (with_reducible first | exact HB.out | apply b0_ | apply b1_ | apply b2_) | exact HB.out)) hb); clear HB; have HB := n0_; clear n0_))
     go_ret; exact ⟨by first | rfl | (simp [errW_none, errW_some] <;> rfl) | (simp [*, errW_none, errW_some] <;> rfl), by repeat (first | (with_reducible first | exact HB.out | apply b0_ | apply b1_ | apply b2_) | exact HB.out)⟩
    subst c9
    have H1 : ((estoverslaw39_awake.f kj2).bind fun t234 => (some t234)) = some r := by rw [if_pos rfl] at H; exact H
    clear H; have H := H1; clear H1; replace H := Option.bind_eq_some_iff.mp H; obtain ⟨t234, A100, H⟩ := H; replace H : (some t234) = some r := H; have A10 := Aside0.mk A100; clear A100; obtain rfl := Option.some.inj H
    go_wp2_with (first | ((with_reducible refine gate_callee (f := 29) rfl ?_); refine goesL_ (some 13) rfl rfl Try.func29 (by kernel_rfl) rfl #[] rfl (by (try simp only [z3_, z4_, z5_]); first | done | rfl | (simp only [z6_, z7_]; rfl)) ?_; (with_reducible refine (estoverslaw39_awake.calls kj2  t234 _ A10.out).mono ?_); rintro e w11 ⟨rfl, hb⟩; refine ⟨_, rfl, ?_⟩; have n0_ := Aside0.mk (below_step (by repeat (first | (with_reducible first | exact HB.out | apply b0_ | apply b1_ | apply b2_) | exact HB.out)) hb); clear HB; have HB := n0_; clear n0_))
    go_ret; exact ⟨by first | rfl | (simp [errW_none, errW_some] <;> rfl) | (simp [*, errW_none, errW_some] <;> rfl), by repeat (first | (with_reducible first | exact HB.out | apply b0_ | apply b1_ | apply b2_) | exact HB.out)⟩
end Go.Proofs.Ytnmenfkmndnoaaa.Pr
