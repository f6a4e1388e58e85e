-- Written by a program of this session (a changed copy of the kit's printer). Not trusted: Lean checks it.
import Derived.Test.YtilcbkengmggdaaM0
import Derived.Test.YtilcbkengmggdaaM2
import Derived.Test.YtilcbkengmggdaaM3
namespace Go.Proofs.Ytilcbkengmggdaa.Pr
open Go.RowKit Go.Proofs.YtilcbkengmggdaaW.PrintWords Go.Proofs.YtilcbkengmggdaaW.PrintLast Go.Proofs.YtilcbkengmggdaaW.PrintMore
attribute [local go_sem] max2_int min2_int max_two min_two max_three min_three max_four min_four   -- for this text's walks alone
set_option linter.unusedVariables false
set_option linter.unusedSimpArgs false
/-! ### estoverslaw20_ProtectionWider: function 9 -/
mutual
def estoverslaw20_ProtectionWider.j0 : Nat → List (S41) → List Int → Int → Bool → Option (Bool)
 | 0, _, _, _, _ => none
 | k + 1, x0, x1, x2, x34 => if x34 = true then ((estoverslaw20_awake.f k).bind fun t387 => (some t387)) else (estoverslaw20_ProtectionWider.l0 k x0 x1 x2 (x0.length : Int) 0)
def estoverslaw20_ProtectionWider.l0 : Nat → List (S41) → List Int → Int → Int → Int → Option (Bool)
 | 0, _, _, _, _, _ => none
 | k + 1, x0, x1, x2, x37, x38 => if x38 < x37 then (if 0 ≤ x38 then (if x38 < (x0.length : Int) then (if ((rd_T41 x0 x38).f3) < ((rd_T41 x0 x38).f2) then (estoverslaw20_ProtectionWider.j2 k x0 x1 x2 x37 x38 true) else (if x38 < (x1.length : Int) then (if (rd x1 x38) < 0 then (estoverslaw20_ProtectionWider.j2 k x0 x1 x2 x37 x38 true) else (estoverslaw20_ProtectionWider.j2 k x0 x1 x2 x37 x38 (decide ((rd x1 x38) > ((rd_T41 x0 x38).f1))))) else (none))) else (none)) else (none)) else (estoverslaw20_ProtectionWider.l1 k x0 x1 x2 false x2)
def estoverslaw20_ProtectionWider.j2 : Nat → List (S41) → List Int → Int → Int → Int → Bool → Option (Bool)
 | 0, _, _, _, _, _, _ => none
 | k + 1, x0, x1, x2, x37, x38, x70 => if x70 = true then (some true) else (estoverslaw20_ProtectionWider.l0 k x0 x1 x2 x37 (wrap64 (x38 + 1)))
def estoverslaw20_ProtectionWider.l1 : Nat → List (S41) → List Int → Int → Bool → Int → Option (Bool)
 | 0, _, _, _, _, _ => none
 | k + 1, x0, x1, x2, x8, x9 => if x9 ≥ (-1) then ((protection_Guarded.f k x0 x1 x2 x9 false).bind fun t393 => (if x8 = true then (if t393 = true then ((protection_Guarded.f k x0 x1 x2 x9 true).bind fun t394 => (estoverslaw20_ProtectionWider.j4 k x0 x1 x2 x9 t393 (!t394))) else (estoverslaw20_ProtectionWider.j4 k x0 x1 x2 x9 t393 true)) else (if t393 = true then ((protection_Guarded.f k x0 x1 x2 x9 true).bind fun t395 => (estoverslaw20_ProtectionWider.j4 k x0 x1 x2 x9 t393 (!t395))) else (estoverslaw20_ProtectionWider.j4 k x0 x1 x2 x9 t393 false)))) else (some true)
def estoverslaw20_ProtectionWider.j4 : Nat → List (S41) → List Int → Int → Int → Bool → Bool → Option (Bool)
 | 0, _, _, _, _, _, _ => none
 | k + 1, x0, x1, x2, x9, x10, x95 => if x95 = true then (some false) else (if x9 = (-1) then (some true) else (if 0 ≤ x9 then (if x9 < (x0.length : Int) then (estoverslaw20_ProtectionWider.l1 k x0 x1 x2 x10 ((rd_T41 x0 x9).f0)) else (none)) else (none)))
end
def estoverslaw20_ProtectionWider.f (k : Nat) (l0 : List (S41)) (l1 : List Int) (a2 : Int) : Option (Bool) := (estoverslaw20_awake.f k).bind fun t385 => (if t385 = true then ((estoversref19_Check.f k l0).bind fun t386 => (if t386 = 0 then (if (l1.length : Int) = (l0.length : Int) then (if a2 < 0 then (estoverslaw20_ProtectionWider.j0 k l0 l1 a2 true) else (estoverslaw20_ProtectionWider.j0 k l0 l1 a2 (decide (a2 ≥ (l0.length : Int))))) else (estoverslaw20_ProtectionWider.j0 k l0 l1 a2 true)) else (estoverslaw20_ProtectionWider.j0 k l0 l1 a2 true))) else (estoverslaw20_ProtectionWider.j0 k l0 l1 a2 true))
theorem estoverslaw20_ProtectionWider.mono_l : ∀ k, (∀ y0 y1 y2 y3, LeO (estoverslaw20_ProtectionWider.j0 k y0 y1 y2 y3) (estoverslaw20_ProtectionWider.j0 (k + 1) y0 y1 y2 y3)) ∧ (∀ y0 y1 y2 y3 y4, LeO (estoverslaw20_ProtectionWider.l0 k y0 y1 y2 y3 y4) (estoverslaw20_ProtectionWider.l0 (k + 1) y0 y1 y2 y3 y4)) ∧ (∀ y0 y1 y2 y3 y4 y5, LeO (estoverslaw20_ProtectionWider.j2 k y0 y1 y2 y3 y4 y5) (estoverslaw20_ProtectionWider.j2 (k + 1) y0 y1 y2 y3 y4 y5)) ∧ (∀ y0 y1 y2 y3 y4, LeO (estoverslaw20_ProtectionWider.l1 k y0 y1 y2 y3 y4) (estoverslaw20_ProtectionWider.l1 (k + 1) y0 y1 y2 y3 y4)) ∧ (∀ y0 y1 y2 y3 y4 y5, LeO (estoverslaw20_ProtectionWider.j4 k y0 y1 y2 y3 y4 y5) (estoverslaw20_ProtectionWider.j4 (k + 1) y0 y1 y2 y3 y4 y5))
 | 0 => ⟨fun _ _ _ _ r h => by simp [estoverslaw20_ProtectionWider.j0] at h, fun _ _ _ _ _ r h => by simp [estoverslaw20_ProtectionWider.l0] at h, fun _ _ _ _ _ _ r h => by simp [estoverslaw20_ProtectionWider.j2] at h, fun _ _ _ _ _ r h => by simp [estoverslaw20_ProtectionWider.l1] at h, fun _ _ _ _ _ _ r h => by simp [estoverslaw20_ProtectionWider.j4] at h⟩
 | k + 1 => by
  obtain ⟨ih0, ih1, ih2, ih3, ih4⟩ := estoverslaw20_ProtectionWider.mono_l k
  refine ⟨?_, ?_, ?_, ?_, ?_⟩
  ·
   intro y0 y1 y2 y3
   unfold estoverslaw20_ProtectionWider.j0
   repeat' first
   | (with_reducible exact ih0 _ _ _ _)
   | (with_reducible exact ih1 _ _ _ _ _)
   | (with_reducible exact ih2 _ _ _ _ _ _)
   | (with_reducible exact ih3 _ _ _ _ _)
   | (with_reducible exact ih4 _ _ _ _ _ _)
   | (with_reducible exact estoverslaw20_awake.mono _)
   | (with_reducible exact estoversref19_Check.mono _ _)
   | (with_reducible exact protection_Guarded.mono _ _ _ _ _ _)
   | (with_reducible exact LeO.refl _)
   | (with_reducible exact LeO.none _)
   | (with_reducible refine LeO.ite ?_ ?_)
   | (with_reducible refine LeO.bind ?_ (fun _ => ?_))
   | exact ih0 _ _ _ _
   | exact ih1 _ _ _ _ _
   | exact ih2 _ _ _ _ _ _
   | exact ih3 _ _ _ _ _
   | exact ih4 _ _ _ _ _ _
   | exact estoverslaw20_awake.mono _
   | exact estoversref19_Check.mono _ _
   | exact protection_Guarded.mono _ _ _ _ _ _
   | exact LeO.none _
   | refine LeO.ite ?_ ?_
   | refine LeO.bind ?_ (fun _ => ?_)
  ·
   intro y0 y1 y2 y3 y4
   unfold estoverslaw20_ProtectionWider.l0
   repeat' first
   | (with_reducible exact ih0 _ _ _ _)
   | (with_reducible exact ih1 _ _ _ _ _)
   | (with_reducible exact ih2 _ _ _ _ _ _)
   | (with_reducible exact ih3 _ _ _ _ _)
   | (with_reducible exact ih4 _ _ _ _ _ _)
   | (with_reducible exact estoverslaw20_awake.mono _)
   | (with_reducible exact estoversref19_Check.mono _ _)
   | (with_reducible exact protection_Guarded.mono _ _ _ _ _ _)
   | (with_reducible exact LeO.refl _)
   | (with_reducible exact LeO.none _)
   | (with_reducible refine LeO.ite ?_ ?_)
   | (with_reducible refine LeO.bind ?_ (fun _ => ?_))
   | exact ih0 _ _ _ _
   | exact ih1 _ _ _ _ _
   | exact ih2 _ _ _ _ _ _
   | exact ih3 _ _ _ _ _
   | exact ih4 _ _ _ _ _ _
   | exact estoverslaw20_awake.mono _
   | exact estoversref19_Check.mono _ _
   | exact protection_Guarded.mono _ _ _ _ _ _
   | exact LeO.none _
   | refine LeO.ite ?_ ?_
   | refine LeO.bind ?_ (fun _ => ?_)
  ·
   intro y0 y1 y2 y3 y4 y5
   unfold estoverslaw20_ProtectionWider.j2
   repeat' first
   | (with_reducible exact ih0 _ _ _ _)
   | (with_reducible exact ih1 _ _ _ _ _)
   | (with_reducible exact ih2 _ _ _ _ _ _)
   | (with_reducible exact ih3 _ _ _ _ _)
   | (with_reducible exact ih4 _ _ _ _ _ _)
   | (with_reducible exact estoverslaw20_awake.mono _)
   | (with_reducible exact estoversref19_Check.mono _ _)
   | (with_reducible exact protection_Guarded.mono _ _ _ _ _ _)
   | (with_reducible exact LeO.refl _)
   | (with_reducible exact LeO.none _)
   | (with_reducible refine LeO.ite ?_ ?_)
   | (with_reducible refine LeO.bind ?_ (fun _ => ?_))
   | exact ih0 _ _ _ _
   | exact ih1 _ _ _ _ _
   | exact ih2 _ _ _ _ _ _
   | exact ih3 _ _ _ _ _
   | exact ih4 _ _ _ _ _ _
   | exact estoverslaw20_awake.mono _
   | exact estoversref19_Check.mono _ _
   | exact protection_Guarded.mono _ _ _ _ _ _
   | exact LeO.none _
   | refine LeO.ite ?_ ?_
   | refine LeO.bind ?_ (fun _ => ?_)
  ·
   intro y0 y1 y2 y3 y4
   unfold estoverslaw20_ProtectionWider.l1
   repeat' first
   | (with_reducible exact ih0 _ _ _ _)
   | (with_reducible exact ih1 _ _ _ _ _)
   | (with_reducible exact ih2 _ _ _ _ _ _)
   | (with_reducible exact ih3 _ _ _ _ _)
   | (with_reducible exact ih4 _ _ _ _ _ _)
   | (with_reducible exact estoverslaw20_awake.mono _)
   | (with_reducible exact estoversref19_Check.mono _ _)
   | (with_reducible exact protection_Guarded.mono _ _ _ _ _ _)
   | (with_reducible exact LeO.refl _)
   | (with_reducible exact LeO.none _)
   | (with_reducible refine LeO.ite ?_ ?_)
   | (with_reducible refine LeO.bind ?_ (fun _ => ?_))
   | exact ih0 _ _ _ _
   | exact ih1 _ _ _ _ _
   | exact ih2 _ _ _ _ _ _
   | exact ih3 _ _ _ _ _
   | exact ih4 _ _ _ _ _ _
   | exact estoverslaw20_awake.mono _
   | exact estoversref19_Check.mono _ _
   | exact protection_Guarded.mono _ _ _ _ _ _
   | exact LeO.none _
   | refine LeO.ite ?_ ?_
   | refine LeO.bind ?_ (fun _ => ?_)
  ·
   intro y0 y1 y2 y3 y4 y5
   unfold estoverslaw20_ProtectionWider.j4
   repeat' first
   | (with_reducible exact ih0 _ _ _ _)
   | (with_reducible exact ih1 _ _ _ _ _)
   | (with_reducible exact ih2 _ _ _ _ _ _)
   | (with_reducible exact ih3 _ _ _ _ _)
   | (with_reducible exact ih4 _ _ _ _ _ _)
   | (with_reducible exact estoverslaw20_awake.mono _)
   | (with_reducible exact estoversref19_Check.mono _ _)
   | (with_reducible exact protection_Guarded.mono _ _ _ _ _ _)
   | (with_reducible exact LeO.refl _)
   | (with_reducible exact LeO.none _)
   | (with_reducible refine LeO.ite ?_ ?_)
   | (with_reducible refine LeO.bind ?_ (fun _ => ?_))
   | exact ih0 _ _ _ _
   | exact ih1 _ _ _ _ _
   | exact ih2 _ _ _ _ _ _
   | exact ih3 _ _ _ _ _
   | exact ih4 _ _ _ _ _ _
   | exact estoverslaw20_awake.mono _
   | exact estoversref19_Check.mono _ _
   | exact protection_Guarded.mono _ _ _ _ _ _
   | exact LeO.none _
   | refine LeO.ite ?_ ?_
   | refine LeO.bind ?_ (fun _ => ?_)
theorem estoverslaw20_ProtectionWider.mono : ∀ a0 a1 a2 k, LeO (estoverslaw20_ProtectionWider.f k a0 a1 a2) (estoverslaw20_ProtectionWider.f (k + 1) a0 a1 a2) := by
 intro a0 a1 a2 k
 obtain ⟨ih0, ih1, ih2, ih3, ih4⟩ := estoverslaw20_ProtectionWider.mono_l k
 unfold estoverslaw20_ProtectionWider.f
 repeat' first
   | (with_reducible exact ih0 _ _ _ _)
   | (with_reducible exact ih1 _ _ _ _ _)
   | (with_reducible exact ih2 _ _ _ _ _ _)
   | (with_reducible exact ih3 _ _ _ _ _)
   | (with_reducible exact ih4 _ _ _ _ _ _)
   | (with_reducible exact estoverslaw20_awake.mono _)
   | (with_reducible exact estoversref19_Check.mono _ _)
   | (with_reducible exact protection_Guarded.mono _ _ _ _ _ _)
   | (with_reducible exact LeO.refl _)
   | (with_reducible exact LeO.none _)
   | (with_reducible refine LeO.ite ?_ ?_)
   | (with_reducible refine LeO.bind ?_ (fun _ => ?_))
   | exact ih0 _ _ _ _
   | exact ih1 _ _ _ _ _
   | exact ih2 _ _ _ _ _ _
   | exact ih3 _ _ _ _ _
   | exact ih4 _ _ _ _ _ _
   | exact estoverslaw20_awake.mono _
   | exact estoversref19_Check.mono _ _
   | exact protection_Guarded.mono _ _ _ _ _ _
   | exact LeO.none _
   | refine LeO.ite ?_ ?_
   | refine LeO.bind ?_ (fun _ => ?_)
set_option maxHeartbeats 8000000 in
set_option maxRecDepth 100000 in
theorem estoverslaw20_ProtectionWider.calls (k : Nat) (A0 : Option Addr) (c0 : Nat) (l0 : List (S41)) (A1 : Option Addr) (c1 : Nat) (l1 : List Int) (a2 : Int) (r : Bool) (w : World) (hr0 : Kd.C k41 w A0 l0.length l0) (hc0 : l0.length ≤ c0) (hr1 : Kd.C (Kd.int .i64) w A1 l1.length l1) (hc1 : l1.length ≤ c1) (h : estoverslaw20_ProtectionWider.f k l0 l1 a2 = some r) :
  Calls Try.prog 9 #[.slice A0 l0.length c0, .slice A1 l1.length c1, .int .i64 a2] w fun e w' => e = .returned (.bool r) ∧ Below w.heap.size w w' := by
 have HR0 := Aside0.mk hr0
 have HC0 := Aside0.mk hc0
 clear hr0 hc0
 have HR1 := Aside0.mk hr1
 have HC1 := Aside0.mk hc1
 clear hr1 hc1
 have HB := Aside0.mk (Below.refl w.heap.size w)
 have H : ((estoverslaw20_awake.f k).bind fun t385 => (if t385 = true then ((estoversref19_Check.f k l0).bind fun t386 => (if t386 = 0 then (if (l1.length : Int) = (l0.length : Int) then (if a2 < 0 then (estoverslaw20_ProtectionWider.j0 k l0 l1 a2 true) else (estoverslaw20_ProtectionWider.j0 k l0 l1 a2 (decide (a2 ≥ (l0.length : Int))))) else (estoverslaw20_ProtectionWider.j0 k l0 l1 a2 true)) else (estoverslaw20_ProtectionWider.j0 k l0 l1 a2 true))) else (estoverslaw20_ProtectionWider.j0 k l0 l1 a2 true))) = some r := h
 clear h
 have HC4 := Aside0.mk H
 clear H
 go_enter Try.func9, Try.ntmps9
 go_upto_region 1 with (fail)
 repeat (go_quiet (fail); go_upto_region 1 with (fail))
 go_cut [34] (fun v34 wc => ∃ (kq : Nat) (x34_3 : Bool), v34 = .bool x34_3 ∧ Aside0 (estoverslaw20_ProtectionWider.j0 kq l0 l1 a2 x34_3 = some r) ∧ Aside0 (kq ≤ k) ∧ Aside0 (Below w.heap.size w wc))
 case first =>
  have H := HC4.out
  clear HC4
  replace H := Option.bind_eq_some_iff.mp H
  obtain ⟨t385, A50, H⟩ := H
  replace H : (if t385 = true then ((estoversref19_Check.f k l0).bind fun t386 => (if t386 = 0 then (if (l1.length : Int) = (l0.length : Int) then (if a2 < 0 then (estoverslaw20_ProtectionWider.j0 k l0 l1 a2 true) else (estoverslaw20_ProtectionWider.j0 k l0 l1 a2 (decide (a2 ≥ (l0.length : Int))))) else (estoverslaw20_ProtectionWider.j0 k l0 l1 a2 true)) else (estoverslaw20_ProtectionWider.j0 k l0 l1 a2 true))) else (estoverslaw20_ProtectionWider.j0 k l0 l1 a2 true)) = some r := H
  have A5 := Aside0.mk A50
  clear A50
  by_cases c6 : t385 = true
  ·
   subst c6
   have H1 : ((estoversref19_Check.f k l0).bind fun t386 => (if t386 = 0 then (if (l1.length : Int) = (l0.length : Int) then (if a2 < 0 then (estoverslaw20_ProtectionWider.j0 k l0 l1 a2 true) else (estoverslaw20_ProtectionWider.j0 k l0 l1 a2 (decide (a2 ≥ (l0.length : Int))))) else (estoverslaw20_ProtectionWider.j0 k l0 l1 a2 true)) else (estoverslaw20_ProtectionWider.j0 k l0 l1 a2 true))) = some r := by rw [if_pos rfl] at H; exact H
   clear H
   have H := H1
   clear H1
   replace H := Option.bind_eq_some_iff.mp H
   obtain ⟨t386, A70, H⟩ := H
   replace H : (if t386 = 0 then (if (l1.length : Int) = (l0.length : Int) then (if a2 < 0 then (estoverslaw20_ProtectionWider.j0 k l0 l1 a2 true) else (estoverslaw20_ProtectionWider.j0 k l0 l1 a2 (decide (a2 ≥ (l0.length : Int))))) else (estoverslaw20_ProtectionWider.j0 k l0 l1 a2 true)) else (estoverslaw20_ProtectionWider.j0 k l0 l1 a2 true)) = some r := H
   have A7 := Aside0.mk A70
   clear A70
   by_cases c8 : t386 = 0
   ·
    rw [if_pos c8] at H
    have c8b0 : (t386 == 0) = true := beq_iff_eq.mpr c8
    have c8b1 : (t386 != 0) = false := bne_eq_false_iff_eq.mpr c8
    clear c8
    (first | rw [c8b0] | (simp only [i64_w, i32_w]; rw [c8b0]) | skip)
    by_cases c9 : (l1.length : Int) = (l0.length : Int)
    ·
     rw [if_pos c9] at H
     have c9b0 : ((l1.length : Int) == (l0.length : Int)) = true := beq_iff_eq.mpr c9
     have c9b1 : ((l1.length : Int) != (l0.length : Int)) = false := bne_eq_false_iff_eq.mpr c9
     have c9b2 : (l1.length == l0.length) = true := by first | simpa using c9 | (simp at c9 ⊢; omega)
     clear c9
     by_cases c10 : a2 < 0
     ·
      rw [if_pos c10] at H
      have c10b0 : decide (a2 < 0) = true := decide_eq_true c10
      clear c10
      have H' := Aside0.mk H
      clear H
      go_wp2_with (first | (go_at_call 11; (with_reducible refine (estoverslaw20_awake.calls k  true _ A5.out).mono ?_); rintro e w11 ⟨rfl, hb⟩; have n0_ := Aside0.mk (below_step (by repeat (first | (with_reducible first | exact HB.out | apply below_alloc | apply pw_below_drewN | apply below_drew1) | exact HB.out)) hb); clear HB; have HB := n0_; clear n0_; (try clear hb); (try clear hb2); (try clear hk); (try clear hi)) | (go_at_call 24; (with_reducible refine (estoversref19_Check.calls k _ _ l0 t386 _ ?side1 ?side2 A7.out).mono ?_); (case side1 => repeat (first | exact (Kd.C_below HR0.out HB.out) | (with_reducible refine Kd.C_alloc ?_ _) | (with_reducible refine Kd.C_drewN ?_ _) | (with_reducible refine Kd.C_drew ?_))); (case side2 => exact HC0.out); rintro e w' ⟨rfl, ⟨nd, rfl⟩⟩; (try first | exact ⟨rfl, _, World.drewN_drewN _ _ _⟩ | exact ⟨rfl, _, Eq.trans (World.drewN_drewN _ _ _) (congrArg (World.drewN _) (Nat.add_assoc _ _ _))⟩)))
      repeat (go_quiet (first | (go_at_call 11; (with_reducible refine (estoverslaw20_awake.calls k  true _ A5.out).mono ?_); rintro e w11 ⟨rfl, hb⟩; have n0_ := Aside0.mk (below_step (by repeat (first | (with_reducible first | exact HB.out | apply below_alloc | apply pw_below_drewN | apply below_drew1) | exact HB.out)) hb); clear HB; have HB := n0_; clear n0_; (try clear hb); (try clear hb2); (try clear hk); (try clear hi)) | (go_at_call 24; (with_reducible refine (estoversref19_Check.calls k _ _ l0 t386 _ ?side1 ?side2 A7.out).mono ?_); (case side1 => repeat (first | exact (Kd.C_below HR0.out HB.out) | (with_reducible refine Kd.C_alloc ?_ _) | (with_reducible refine Kd.C_drewN ?_ _) | (with_reducible refine Kd.C_drew ?_))); (case side2 => exact HC0.out); rintro e w' ⟨rfl, ⟨nd, rfl⟩⟩; (try first | exact ⟨rfl, _, World.drewN_drewN _ _ _⟩ | exact ⟨rfl, _, Eq.trans (World.drewN_drewN _ _ _) (congrArg (World.drewN _) (Nat.add_assoc _ _ _))⟩))); try go_wp2_with (first | (go_at_call 11; (with_reducible refine (estoverslaw20_awake.calls k  true _ A5.out).mono ?_); rintro e w11 ⟨rfl, hb⟩; have n0_ := Aside0.mk (below_step (by repeat (first | (with_reducible first | exact HB.out | apply below_alloc | apply pw_below_drewN | apply below_drew1) | exact HB.out)) hb); clear HB; have HB := n0_; clear n0_; (try clear hb); (try clear hb2); (try clear hk); (try clear hi)) | (go_at_call 24; (with_reducible refine (estoversref19_Check.calls k _ _ l0 t386 _ ?side1 ?side2 A7.out).mono ?_); (case side1 => repeat (first | exact (Kd.C_below HR0.out HB.out) | (with_reducible refine Kd.C_alloc ?_ _) | (with_reducible refine Kd.C_drewN ?_ _) | (with_reducible refine Kd.C_drew ?_))); (case side2 => exact HC0.out); rintro e w' ⟨rfl, ⟨nd, rfl⟩⟩; (try first | exact ⟨rfl, _, World.drewN_drewN _ _ _⟩ | exact ⟨rfl, _, Eq.trans (World.drewN_drewN _ _ _) (congrArg (World.drewN _) (Nat.add_assoc _ _ _))⟩))))
      go_meet
      case rel => exact ⟨_, (true), (by first | rfl | (simp; done) | (simp [*]; done)), H', ⟨by first | omega | exact Nat.le_refl _⟩, ⟨by repeat (first | (with_reducible first | exact HB.out | apply below_alloc | apply pw_below_drewN | apply below_drew1) | exact HB.out)⟩⟩
     ·
      rw [if_neg c10] at H
      have c10b0 : decide (a2 < 0) = false := decide_eq_false c10
      clear c10
      have H' := Aside0.mk H
      clear H
      go_wp2_with (first | (go_at_call 11; (with_reducible refine (estoverslaw20_awake.calls k  true _ A5.out).mono ?_); rintro e w12 ⟨rfl, hb⟩; have n0_ := Aside0.mk (below_step (by repeat (first | (with_reducible first | exact HB.out | apply below_alloc | apply pw_below_drewN | apply below_drew1) | exact HB.out)) hb); clear HB; have HB := n0_; clear n0_; (try clear hb); (try clear hb2); (try clear hk); (try clear hi)) | (go_at_call 24; (with_reducible refine (estoversref19_Check.calls k _ _ l0 t386 _ ?side1 ?side2 A7.out).mono ?_); (case side1 => repeat (first | exact (Kd.C_below HR0.out HB.out) | (with_reducible refine Kd.C_alloc ?_ _) | (with_reducible refine Kd.C_drewN ?_ _) | (with_reducible refine Kd.C_drew ?_))); (case side2 => exact HC0.out); rintro e w' ⟨rfl, ⟨nd, rfl⟩⟩; (try first | exact ⟨rfl, _, World.drewN_drewN _ _ _⟩ | exact ⟨rfl, _, Eq.trans (World.drewN_drewN _ _ _) (congrArg (World.drewN _) (Nat.add_assoc _ _ _))⟩)))
      repeat (go_quiet (first | (go_at_call 11; (with_reducible refine (estoverslaw20_awake.calls k  true _ A5.out).mono ?_); rintro e w12 ⟨rfl, hb⟩; have n0_ := Aside0.mk (below_step (by repeat (first | (with_reducible first | exact HB.out | apply below_alloc | apply pw_below_drewN | apply below_drew1) | exact HB.out)) hb); clear HB; have HB := n0_; clear n0_; (try clear hb); (try clear hb2); (try clear hk); (try clear hi)) | (go_at_call 24; (with_reducible refine (estoversref19_Check.calls k _ _ l0 t386 _ ?side1 ?side2 A7.out).mono ?_); (case side1 => repeat (first | exact (Kd.C_below HR0.out HB.out) | (with_reducible refine Kd.C_alloc ?_ _) | (with_reducible refine Kd.C_drewN ?_ _) | (with_reducible refine Kd.C_drew ?_))); (case side2 => exact HC0.out); rintro e w' ⟨rfl, ⟨nd, rfl⟩⟩; (try first | exact ⟨rfl, _, World.drewN_drewN _ _ _⟩ | exact ⟨rfl, _, Eq.trans (World.drewN_drewN _ _ _) (congrArg (World.drewN _) (Nat.add_assoc _ _ _))⟩))); try go_wp2_with (first | (go_at_call 11; (with_reducible refine (estoverslaw20_awake.calls k  true _ A5.out).mono ?_); rintro e w12 ⟨rfl, hb⟩; have n0_ := Aside0.mk (below_step (by repeat (first | (with_reducible first | exact HB.out | apply below_alloc | apply pw_below_drewN | apply below_drew1) | exact HB.out)) hb); clear HB; have HB := n0_; clear n0_; (try clear hb); (try clear hb2); (try clear hk); (try clear hi)) | (go_at_call 24; (with_reducible refine (estoversref19_Check.calls k _ _ l0 t386 _ ?side1 ?side2 A7.out).mono ?_); (case side1 => repeat (first | exact (Kd.C_below HR0.out HB.out) | (with_reducible refine Kd.C_alloc ?_ _) | (with_reducible refine Kd.C_drewN ?_ _) | (with_reducible refine Kd.C_drew ?_))); (case side2 => exact HC0.out); rintro e w' ⟨rfl, ⟨nd, rfl⟩⟩; (try first | exact ⟨rfl, _, World.drewN_drewN _ _ _⟩ | exact ⟨rfl, _, Eq.trans (World.drewN_drewN _ _ _) (congrArg (World.drewN _) (Nat.add_assoc _ _ _))⟩))))
      go_meet
      case rel => exact ⟨_, (decide (a2 ≥ (l0.length : Int))), (by first | rfl | (simp; done) | (simp [*]; done)), H', ⟨by first | omega | exact Nat.le_refl _⟩, ⟨by repeat (first | (with_reducible first | exact HB.out | apply below_alloc | apply pw_below_drewN | apply below_drew1) | exact HB.out)⟩⟩
    ·
     rw [if_neg c9] at H
     have c9b0 : ((l1.length : Int) == (l0.length : Int)) = false := beq_eq_false_iff_ne.mpr c9
     have c9b1 : ((l1.length : Int) != (l0.length : Int)) = true := bne_iff_ne.mpr c9
     have c9b2 : (l1.length == l0.length) = false := by first | simpa using c9 | (simp at c9 ⊢; omega)
     have H' := Aside0.mk H
     clear H
     go_wp2_with (first | (go_at_call 11; (with_reducible refine (estoverslaw20_awake.calls k  true _ A5.out).mono ?_); rintro e w13 ⟨rfl, hb⟩; have n0_ := Aside0.mk (below_step (by repeat (first | (with_reducible first | exact HB.out | apply below_alloc | apply pw_below_drewN | apply below_drew1) | exact HB.out)) hb); clear HB; have HB := n0_; clear n0_; (try clear hb); (try clear hb2); (try clear hk); (try clear hi)) | (go_at_call 24; (with_reducible refine (estoversref19_Check.calls k _ _ l0 t386 _ ?side1 ?side2 A7.out).mono ?_); (case side1 => repeat (first | exact (Kd.C_below HR0.out HB.out) | (with_reducible refine Kd.C_alloc ?_ _) | (with_reducible refine Kd.C_drewN ?_ _) | (with_reducible refine Kd.C_drew ?_))); (case side2 => exact HC0.out); rintro e w' ⟨rfl, ⟨nd, rfl⟩⟩; (try first | exact ⟨rfl, _, World.drewN_drewN _ _ _⟩ | exact ⟨rfl, _, Eq.trans (World.drewN_drewN _ _ _) (congrArg (World.drewN _) (Nat.add_assoc _ _ _))⟩)))
     repeat (go_quiet (first | (go_at_call 11; (with_reducible refine (estoverslaw20_awake.calls k  true _ A5.out).mono ?_); rintro e w13 ⟨rfl, hb⟩; have n0_ := Aside0.mk (below_step (by repeat (first | (with_reducible first | exact HB.out | apply below_alloc | apply pw_below_drewN | apply below_drew1) | exact HB.out)) hb); clear HB; have HB := n0_; clear n0_; (try clear hb); (try clear hb2); (try clear hk); (try clear hi)) | (go_at_call 24; (with_reducible refine (estoversref19_Check.calls k _ _ l0 t386 _ ?side1 ?side2 A7.out).mono ?_); (case side1 => repeat (first | exact (Kd.C_below HR0.out HB.out) | (with_reducible refine Kd.C_alloc ?_ _) | (with_reducible refine Kd.C_drewN ?_ _) | (with_reducible refine Kd.C_drew ?_))); (case side2 => exact HC0.out); rintro e w' ⟨rfl, ⟨nd, rfl⟩⟩; (try first | exact ⟨rfl, _, World.drewN_drewN _ _ _⟩ | exact ⟨rfl, _, Eq.trans (World.drewN_drewN _ _ _) (congrArg (World.drewN _) (Nat.add_assoc _ _ _))⟩))); try go_wp2_with (first | (go_at_call 11; (with_reducible refine (estoverslaw20_awake.calls k  true _ A5.out).mono ?_); rintro e w13 ⟨rfl, hb⟩; have n0_ := Aside0.mk (below_step (by repeat (first | (with_reducible first | exact HB.out | apply below_alloc | apply pw_below_drewN | apply below_drew1) | exact HB.out)) hb); clear HB; have HB := n0_; clear n0_; (try clear hb); (try clear hb2); (try clear hk); (try clear hi)) | (go_at_call 24; (with_reducible refine (estoversref19_Check.calls k _ _ l0 t386 _ ?side1 ?side2 A7.out).mono ?_); (case side1 => repeat (first | exact (Kd.C_below HR0.out HB.out) | (with_reducible refine Kd.C_alloc ?_ _) | (with_reducible refine Kd.C_drewN ?_ _) | (with_reducible refine Kd.C_drew ?_))); (case side2 => exact HC0.out); rintro e w' ⟨rfl, ⟨nd, rfl⟩⟩; (try first | exact ⟨rfl, _, World.drewN_drewN _ _ _⟩ | exact ⟨rfl, _, Eq.trans (World.drewN_drewN _ _ _) (congrArg (World.drewN _) (Nat.add_assoc _ _ _))⟩))))
     go_meet
     case rel => exact ⟨_, (true), (by first | rfl | (simp; done) | (simp [*]; done)), H', ⟨by first | omega | exact Nat.le_refl _⟩, ⟨by repeat (first | (with_reducible first | exact HB.out | apply below_alloc | apply pw_below_drewN | apply below_drew1) | exact HB.out)⟩⟩
   ·
    rw [if_neg c8] at H
    have c8b0 : (t386 == 0) = false := beq_eq_false_iff_ne.mpr c8
    have c8b1 : (t386 != 0) = true := bne_iff_ne.mpr c8
    (first | rw [c8b0] | (simp only [i64_w, i32_w]; rw [c8b0]) | skip)
    have H' := Aside0.mk H
    clear H
    go_wp2_with (first | (go_at_call 11; (with_reducible refine (estoverslaw20_awake.calls k  true _ A5.out).mono ?_); rintro e w14 ⟨rfl, hb⟩; have n0_ := Aside0.mk (below_step (by repeat (first | (with_reducible first | exact HB.out | apply below_alloc | apply pw_below_drewN | apply below_drew1) | exact HB.out)) hb); clear HB; have HB := n0_; clear n0_; (try clear hb); (try clear hb2); (try clear hk); (try clear hi)) | (go_at_call 24; (with_reducible refine (estoversref19_Check.calls k _ _ l0 t386 _ ?side1 ?side2 A7.out).mono ?_); (case side1 => repeat (first | exact (Kd.C_below HR0.out HB.out) | (with_reducible refine Kd.C_alloc ?_ _) | (with_reducible refine Kd.C_drewN ?_ _) | (with_reducible refine Kd.C_drew ?_))); (case side2 => exact HC0.out); rintro e w' ⟨rfl, ⟨nd, rfl⟩⟩; (try first | exact ⟨rfl, _, World.drewN_drewN _ _ _⟩ | exact ⟨rfl, _, Eq.trans (World.drewN_drewN _ _ _) (congrArg (World.drewN _) (Nat.add_assoc _ _ _))⟩)))
    repeat (go_quiet (first | (go_at_call 11; (with_reducible refine (estoverslaw20_awake.calls k  true _ A5.out).mono ?_); rintro e w14 ⟨rfl, hb⟩; have n0_ := Aside0.mk (below_step (by repeat (first | (with_reducible first | exact HB.out | apply below_alloc | apply pw_below_drewN | apply below_drew1) | exact HB.out)) hb); clear HB; have HB := n0_; clear n0_; (try clear hb); (try clear hb2); (try clear hk); (try clear hi)) | (go_at_call 24; (with_reducible refine (estoversref19_Check.calls k _ _ l0 t386 _ ?side1 ?side2 A7.out).mono ?_); (case side1 => repeat (first | exact (Kd.C_below HR0.out HB.out) | (with_reducible refine Kd.C_alloc ?_ _) | (with_reducible refine Kd.C_drewN ?_ _) | (with_reducible refine Kd.C_drew ?_))); (case side2 => exact HC0.out); rintro e w' ⟨rfl, ⟨nd, rfl⟩⟩; (try first | exact ⟨rfl, _, World.drewN_drewN _ _ _⟩ | exact ⟨rfl, _, Eq.trans (World.drewN_drewN _ _ _) (congrArg (World.drewN _) (Nat.add_assoc _ _ _))⟩))); try go_wp2_with (first | (go_at_call 11; (with_reducible refine (estoverslaw20_awake.calls k  true _ A5.out).mono ?_); rintro e w14 ⟨rfl, hb⟩; have n0_ := Aside0.mk (below_step (by repeat (first | (with_reducible first | exact HB.out | apply below_alloc | apply pw_below_drewN | apply below_drew1) | exact HB.out)) hb); clear HB; have HB := n0_; clear n0_; (try clear hb); (try clear hb2); (try clear hk); (try clear hi)) | (go_at_call 24; (with_reducible refine (estoversref19_Check.calls k _ _ l0 t386 _ ?side1 ?side2 A7.out).mono ?_); (case side1 => repeat (first | exact (Kd.C_below HR0.out HB.out) | (with_reducible refine Kd.C_alloc ?_ _) | (with_reducible refine Kd.C_drewN ?_ _) | (with_reducible refine Kd.C_drew ?_))); (case side2 => exact HC0.out); rintro e w' ⟨rfl, ⟨nd, rfl⟩⟩; (try first | exact ⟨rfl, _, World.drewN_drewN _ _ _⟩ | exact ⟨rfl, _, Eq.trans (World.drewN_drewN _ _ _) (congrArg (World.drewN _) (Nat.add_assoc _ _ _))⟩))))
    go_meet
    case rel => exact ⟨_, (true), (by first | rfl | (simp; done) | (simp [*]; done)), H', ⟨by first | omega | exact Nat.le_refl _⟩, ⟨by repeat (first | (with_reducible first | exact HB.out | apply below_alloc | apply pw_below_drewN | apply below_drew1) | exact HB.out)⟩⟩
  ·
   replace c6 := Bool.eq_false_iff.mpr c6
   subst c6
   have H1 : (estoverslaw20_ProtectionWider.j0 k l0 l1 a2 true) = some r := by rw [if_neg (show ¬ (false = true) by decide)] at H; exact H
   clear H
   have H := H1
   clear H1
   have H' := Aside0.mk H
   clear H
   go_wp2_with (first | (go_at_call 11; (with_reducible refine (estoverslaw20_awake.calls k  false _ A5.out).mono ?_); rintro e w15 ⟨rfl, hb⟩; have n0_ := Aside0.mk (below_step (by repeat (first | (with_reducible first | exact HB.out | apply below_alloc | apply pw_below_drewN | apply below_drew1) | exact HB.out)) hb); clear HB; have HB := n0_; clear n0_; (try clear hb); (try clear hb2); (try clear hk); (try clear hi)))
   repeat (go_quiet (first | (go_at_call 11; (with_reducible refine (estoverslaw20_awake.calls k  false _ A5.out).mono ?_); rintro e w15 ⟨rfl, hb⟩; have n0_ := Aside0.mk (below_step (by repeat (first | (with_reducible first | exact HB.out | apply below_alloc | apply pw_below_drewN | apply below_drew1) | exact HB.out)) hb); clear HB; have HB := n0_; clear n0_; (try clear hb); (try clear hb2); (try clear hk); (try clear hi))); try go_wp2_with (first | (go_at_call 11; (with_reducible refine (estoverslaw20_awake.calls k  false _ A5.out).mono ?_); rintro e w15 ⟨rfl, hb⟩; have n0_ := Aside0.mk (below_step (by repeat (first | (with_reducible first | exact HB.out | apply below_alloc | apply pw_below_drewN | apply below_drew1) | exact HB.out)) hb); clear HB; have HB := n0_; clear n0_; (try clear hb); (try clear hb2); (try clear hk); (try clear hi))))
   go_meet
   case rel => exact ⟨_, (true), (by first | rfl | (simp; done) | (simp [*]; done)), H', ⟨by first | omega | exact Nat.le_refl _⟩, ⟨by repeat (first | (with_reducible first | exact HB.out | apply below_alloc | apply pw_below_drewN | apply below_drew1) | exact HB.out)⟩⟩
 case rest =>
  clear HC4
  try clear c1
  try clear p2
  try clear c6
  try clear c8
  try clear c8b0
  try clear c8b1
  try clear c9
  try clear c9b0
  try clear c9b1
  try clear c9b2
  try clear c10
  try clear c10b0
  obtain ⟨kq, x34_3, rfl, HA, HJ3, HB⟩ := hcut
  cases kq with
  | zero => exact absurd HA.out (by simp [estoverslaw20_ProtectionWider.j0])
  | succ kj3 =>
   have H := HA.out
   clear HA
   simp only [estoverslaw20_ProtectionWider.j0] at H
   by_cases c16 : x34_3 = true
   ·
    subst c16
    have H1 : ((estoverslaw20_awake.f kj3).bind fun t387 => (some t387)) = some r := by rw [if_pos rfl] at H; exact H
    clear H
    have H := H1
    clear H1
    replace H := Option.bind_eq_some_iff.mp H
    obtain ⟨t387, A170, H⟩ := H
    replace H : (some t387) = some r := H
    have A17 := Aside0.mk A170
    clear A170
    obtain rfl := Option.some.inj H
    go_wp2_with (first | (go_at_call 11; (with_reducible refine (estoverslaw20_awake.calls kj3  t387 _ A17.out).mono ?_); rintro e w18 ⟨rfl, hb⟩; have n0_ := Aside0.mk (below_step (by repeat (first | (with_reducible first | exact HB.out | apply below_alloc | apply pw_below_drewN | apply below_drew1) | exact HB.out)) hb); clear HB; have HB := n0_; clear n0_; (try clear hb); (try clear hb2); (try clear hk); (try clear hi)))
    repeat (go_quiet (first | (go_at_call 11; (with_reducible refine (estoverslaw20_awake.calls kj3  t387 _ A17.out).mono ?_); rintro e w18 ⟨rfl, hb⟩; have n0_ := Aside0.mk (below_step (by repeat (first | (with_reducible first | exact HB.out | apply below_alloc | apply pw_below_drewN | apply below_drew1) | exact HB.out)) hb); clear HB; have HB := n0_; clear n0_; (try clear hb); (try clear hb2); (try clear hk); (try clear hi))); try go_wp2_with (first | (go_at_call 11; (with_reducible refine (estoverslaw20_awake.calls kj3  t387 _ A17.out).mono ?_); rintro e w18 ⟨rfl, hb⟩; have n0_ := Aside0.mk (below_step (by repeat (first | (with_reducible first | exact HB.out | apply below_alloc | apply pw_below_drewN | apply below_drew1) | exact HB.out)) hb); clear HB; have HB := n0_; clear n0_; (try clear hb); (try clear hb2); (try clear hk); (try clear hi))))
    go_ret
    exact ⟨by first | rfl | (simp [errW_none, errW_some] <;> rfl) | (simp [*, errW_none, errW_some] <;> rfl), by repeat (first | (with_reducible first | exact HB.out | apply below_alloc | apply pw_below_drewN | apply below_drew1) | exact HB.out)⟩
   ·
    replace c16 := Bool.eq_false_iff.mpr c16
    subst c16
    have H1 : (estoverslaw20_ProtectionWider.l0 kj3 l0 l1 a2 (l0.length : Int) 0) = some r := by rw [if_neg (show ¬ (false = true) by decide)] at H; exact H
    clear H
    have H := H1
    clear H1
    have H' := Aside0.mk H
    clear H
    go_wp2
    repeat (go_quiet (fail); try go_wp2)
    go_loopg [38] kj3 (fun kq v38 w' => ∃ (x38_2 : Int), v38 = .int .i64 x38_2 ∧ Aside0 (estoverslaw20_ProtectionWider.l0 kq l0 l1 a2 (l0.length : Int) x38_2 = some r) ∧ Aside0 (kq ≤ kj3) ∧ Aside0 (Below w.heap.size w w'))
    case atStart => exact ⟨(0), (by first | rfl | (simp; done) | (simp [*]; done)), H', ⟨Nat.le_refl _⟩, ⟨by repeat (first | (with_reducible first | exact HB.out | apply below_alloc | apply pw_below_drewN | apply below_drew1) | exact HB.out)⟩⟩
    case round =>
     clear H'
     try clear c1
     try clear p2
     try clear c6
     try clear c8
     try clear c8b0
     try clear c8b1
     try clear c9
     try clear c9b0
     try clear c9b1
     try clear c9b2
     try clear c10
     try clear c10b0
     try clear c16
     try clear p2
     obtain ⟨x38_2, rfl, HA, HK2, HB⟩ := hrel
     cases gk with
     | zero => exact absurd HA.out (by simp [estoverslaw20_ProtectionWider.l0])
     | succ k2 =>
      have H := HA.out
      clear HA
      simp only [estoverslaw20_ProtectionWider.l0] at H
      by_cases c19 : x38_2 < (l0.length : Int)
      ·
       rw [if_pos c19] at H
       have c19b0 : decide (x38_2 < (l0.length : Int)) = true := decide_eq_true c19
       clear c19
       have HC20 := Aside0.mk H
       clear H
       go_upto_region 6 with (fail)
       repeat (go_quiet (fail); go_upto_region 6 with (fail))
       go_cut [70] (fun v70 wc => ∃ (kq : Nat) (x70_19 : Bool), v70 = .bool x70_19 ∧ Aside0 (estoverslaw20_ProtectionWider.j2 kq l0 l1 a2 (l0.length : Int) x38_2 x70_19 = some r) ∧ Aside0 (kq ≤ k2) ∧ Aside0 (Below w.heap.size w wc))
       case first =>
        have H := HC20.out
        clear HC20
        by_cases c21 : 0 ≤ x38_2
        ·
         rw [if_pos c21] at H
         have c21b0 : decide (0 ≤ x38_2) = true := decide_eq_true c21
         clear c21
         (first | rw [c21b0] | (simp only [i64_w, i32_w]; rw [c21b0]) | skip)
         by_cases c22 : x38_2 < (l0.length : Int)
         ·
          rw [if_pos c22] at H
          have c22b0 : decide (x38_2 < (l0.length : Int)) = true := decide_eq_true c22
          clear c22
          by_cases c23 : ((rd_T41 l0 x38_2).f3) < ((rd_T41 l0 x38_2).f2)
          ·
           rw [if_pos c23] at H
           have c23b0 : decide (((rd_T41 l0 x38_2).f3) < ((rd_T41 l0 x38_2).f2)) = true := decide_eq_true c23
           clear c23
           have H' := Aside0.mk H
           clear H
           have p388 : 0 ≤ (x38_2 : Int) := of_decide_eq_true (by first | (with_reducible assumption) | assumption)
           have q388 : x38_2 < (l0.length : Int) := of_decide_eq_true (by first | (with_reducible assumption) | assumption)
           obtain ⟨ad388, e388, hx388_0, hx388_1, hx388_2, hx388_3, hx388_4⟩ := at_T41 HR0.out x38_2 p388 q388
           cases e388
           replace hx388_0 := (HB.out.cell (World.block_lt_of_cell? w _ hx388_0)).trans hx388_0
           replace hx388_1 := (HB.out.cell (World.block_lt_of_cell? w _ hx388_1)).trans hx388_1
           replace hx388_2 := (HB.out.cell (World.block_lt_of_cell? w _ hx388_2)).trans hx388_2
           replace hx388_3 := (HB.out.cell (World.block_lt_of_cell? w _ hx388_3)).trans hx388_3
           replace hx388_4 := (HB.out.cell (World.block_lt_of_cell? w _ hx388_4)).trans hx388_4
           replace p388 := eq_true p388
           replace q388 := eq_true q388
           have p389 : 0 ≤ (x38_2 : Int) := of_decide_eq_true (by first | (with_reducible assumption) | assumption)
           have q389 : x38_2 < (l0.length : Int) := of_decide_eq_true (by first | (with_reducible assumption) | assumption)
           obtain ⟨ad389, e389, hx389_0, hx389_1, hx389_2, hx389_3, hx389_4⟩ := at_T41 HR0.out x38_2 p389 q389
           obtain rfl : ad388 = ad389 := (by injection e389)
           replace hx389_0 := (HB.out.cell (World.block_lt_of_cell? w _ hx389_0)).trans hx389_0
           replace hx389_1 := (HB.out.cell (World.block_lt_of_cell? w _ hx389_1)).trans hx389_1
           replace hx389_2 := (HB.out.cell (World.block_lt_of_cell? w _ hx389_2)).trans hx389_2
           replace hx389_3 := (HB.out.cell (World.block_lt_of_cell? w _ hx389_3)).trans hx389_3
           replace hx389_4 := (HB.out.cell (World.block_lt_of_cell? w _ hx389_4)).trans hx389_4
           replace p389 := eq_true p389
           replace q389 := eq_true q389
           go_wp2
           repeat (go_quiet (fail); try go_wp2)
           go_meet
           case rel => exact ⟨_, (true), (by first | rfl | (simp; done) | (simp [*]; done)), H', ⟨by have := HJ3.out; have := HK2.out; first | omega | exact Nat.le_refl _⟩, ⟨by repeat (first | (with_reducible first | exact HB.out | apply below_alloc | apply pw_below_drewN | apply below_drew1) | exact HB.out)⟩⟩
          ·
           rw [if_neg c23] at H
           have c23b0 : decide (((rd_T41 l0 x38_2).f3) < ((rd_T41 l0 x38_2).f2)) = false := decide_eq_false c23
           clear c23
           by_cases c24 : x38_2 < (l1.length : Int)
           ·
            rw [if_pos c24] at H
            have c24b0 : decide (x38_2 < (l1.length : Int)) = true := decide_eq_true c24
            clear c24
            by_cases c25 : (rd l1 x38_2) < 0
            ·
             rw [if_pos c25] at H
             have c25b0 : decide ((rd l1 x38_2) < 0) = true := decide_eq_true c25
             clear c25
             have H' := Aside0.mk H
             clear H
             have p388 : 0 ≤ (x38_2 : Int) := of_decide_eq_true (by first | (with_reducible assumption) | assumption)
             have q388 : x38_2 < (l0.length : Int) := of_decide_eq_true (by first | (with_reducible assumption) | assumption)
             obtain ⟨ad388, e388, hx388_0, hx388_1, hx388_2, hx388_3, hx388_4⟩ := at_T41 HR0.out x38_2 p388 q388
             cases e388
             replace hx388_0 := (HB.out.cell (World.block_lt_of_cell? w _ hx388_0)).trans hx388_0
             replace hx388_1 := (HB.out.cell (World.block_lt_of_cell? w _ hx388_1)).trans hx388_1
             replace hx388_2 := (HB.out.cell (World.block_lt_of_cell? w _ hx388_2)).trans hx388_2
             replace hx388_3 := (HB.out.cell (World.block_lt_of_cell? w _ hx388_3)).trans hx388_3
             replace hx388_4 := (HB.out.cell (World.block_lt_of_cell? w _ hx388_4)).trans hx388_4
             replace p388 := eq_true p388
             replace q388 := eq_true q388
             have p389 : 0 ≤ (x38_2 : Int) := of_decide_eq_true (by first | (with_reducible assumption) | assumption)
             have q389 : x38_2 < (l0.length : Int) := of_decide_eq_true (by first | (with_reducible assumption) | assumption)
             obtain ⟨ad389, e389, hx389_0, hx389_1, hx389_2, hx389_3, hx389_4⟩ := at_T41 HR0.out x38_2 p389 q389
             obtain rfl : ad388 = ad389 := (by injection e389)
             replace hx389_0 := (HB.out.cell (World.block_lt_of_cell? w _ hx389_0)).trans hx389_0
             replace hx389_1 := (HB.out.cell (World.block_lt_of_cell? w _ hx389_1)).trans hx389_1
             replace hx389_2 := (HB.out.cell (World.block_lt_of_cell? w _ hx389_2)).trans hx389_2
             replace hx389_3 := (HB.out.cell (World.block_lt_of_cell? w _ hx389_3)).trans hx389_3
             replace hx389_4 := (HB.out.cell (World.block_lt_of_cell? w _ hx389_4)).trans hx389_4
             replace p389 := eq_true p389
             replace q389 := eq_true q389
             have p390 : 0 ≤ (x38_2 : Int) := of_decide_eq_true (by first | (with_reducible assumption) | assumption)
             have q390 : x38_2 < (l1.length : Int) := of_decide_eq_true (by first | (with_reducible assumption) | assumption)
             obtain ⟨ad390, e390, hx390_0⟩ := Kd.at_int HR1.out x38_2 p390 q390
             cases e390
             replace hx390_0 := (HB.out.cell (World.block_lt_of_cell? w _ hx390_0)).trans hx390_0
             replace p390 := eq_true p390
             replace q390 := eq_true q390
             go_wp2
             repeat (go_quiet (fail); try go_wp2)
             go_meet
             case rel => exact ⟨_, (true), (by first | rfl | (simp; done) | (simp [*]; done)), H', ⟨by have := HJ3.out; have := HK2.out; first | omega | exact Nat.le_refl _⟩, ⟨by repeat (first | (with_reducible first | exact HB.out | apply below_alloc | apply pw_below_drewN | apply below_drew1) | exact HB.out)⟩⟩
            ·
             rw [if_neg c25] at H
             have c25b0 : decide ((rd l1 x38_2) < 0) = false := decide_eq_false c25
             clear c25
             have H' := Aside0.mk H
             clear H
             have p388 : 0 ≤ (x38_2 : Int) := of_decide_eq_true (by first | (with_reducible assumption) | assumption)
             have q388 : x38_2 < (l0.length : Int) := of_decide_eq_true (by first | (with_reducible assumption) | assumption)
             obtain ⟨ad388, e388, hx388_0, hx388_1, hx388_2, hx388_3, hx388_4⟩ := at_T41 HR0.out x38_2 p388 q388
             cases e388
             replace hx388_0 := (HB.out.cell (World.block_lt_of_cell? w _ hx388_0)).trans hx388_0
             replace hx388_1 := (HB.out.cell (World.block_lt_of_cell? w _ hx388_1)).trans hx388_1
             replace hx388_2 := (HB.out.cell (World.block_lt_of_cell? w _ hx388_2)).trans hx388_2
             replace hx388_3 := (HB.out.cell (World.block_lt_of_cell? w _ hx388_3)).trans hx388_3
             replace hx388_4 := (HB.out.cell (World.block_lt_of_cell? w _ hx388_4)).trans hx388_4
             replace p388 := eq_true p388
             replace q388 := eq_true q388
             have p389 : 0 ≤ (x38_2 : Int) := of_decide_eq_true (by first | (with_reducible assumption) | assumption)
             have q389 : x38_2 < (l0.length : Int) := of_decide_eq_true (by first | (with_reducible assumption) | assumption)
             obtain ⟨ad389, e389, hx389_0, hx389_1, hx389_2, hx389_3, hx389_4⟩ := at_T41 HR0.out x38_2 p389 q389
             obtain rfl : ad388 = ad389 := (by injection e389)
             replace hx389_0 := (HB.out.cell (World.block_lt_of_cell? w _ hx389_0)).trans hx389_0
             replace hx389_1 := (HB.out.cell (World.block_lt_of_cell? w _ hx389_1)).trans hx389_1
             replace hx389_2 := (HB.out.cell (World.block_lt_of_cell? w _ hx389_2)).trans hx389_2
             replace hx389_3 := (HB.out.cell (World.block_lt_of_cell? w _ hx389_3)).trans hx389_3
             replace hx389_4 := (HB.out.cell (World.block_lt_of_cell? w _ hx389_4)).trans hx389_4
             replace p389 := eq_true p389
             replace q389 := eq_true q389
             have p390 : 0 ≤ (x38_2 : Int) := of_decide_eq_true (by first | (with_reducible assumption) | assumption)
             have q390 : x38_2 < (l1.length : Int) := of_decide_eq_true (by first | (with_reducible assumption) | assumption)
             obtain ⟨ad390, e390, hx390_0⟩ := Kd.at_int HR1.out x38_2 p390 q390
             cases e390
             replace hx390_0 := (HB.out.cell (World.block_lt_of_cell? w _ hx390_0)).trans hx390_0
             replace p390 := eq_true p390
             replace q390 := eq_true q390
             have p391 : 0 ≤ (x38_2 : Int) := of_decide_eq_true (by first | (with_reducible assumption) | assumption)
             have q391 : x38_2 < (l1.length : Int) := of_decide_eq_true (by first | (with_reducible assumption) | assumption)
             obtain ⟨ad391, e391, hx391_0⟩ := Kd.at_int HR1.out x38_2 p391 q391
             obtain rfl : ad390 = ad391 := (by injection e391)
             replace hx391_0 := (HB.out.cell (World.block_lt_of_cell? w _ hx391_0)).trans hx391_0
             replace p391 := eq_true p391
             replace q391 := eq_true q391
             have p392 : 0 ≤ (x38_2 : Int) := of_decide_eq_true (by first | (with_reducible assumption) | assumption)
             have q392 : x38_2 < (l0.length : Int) := of_decide_eq_true (by first | (with_reducible assumption) | assumption)
             obtain ⟨ad392, e392, hx392_0, hx392_1, hx392_2, hx392_3, hx392_4⟩ := at_T41 HR0.out x38_2 p392 q392
             obtain rfl : ad388 = ad392 := (by injection e392)
             replace hx392_0 := (HB.out.cell (World.block_lt_of_cell? w _ hx392_0)).trans hx392_0
             replace hx392_1 := (HB.out.cell (World.block_lt_of_cell? w _ hx392_1)).trans hx392_1
             replace hx392_2 := (HB.out.cell (World.block_lt_of_cell? w _ hx392_2)).trans hx392_2
             replace hx392_3 := (HB.out.cell (World.block_lt_of_cell? w _ hx392_3)).trans hx392_3
             replace hx392_4 := (HB.out.cell (World.block_lt_of_cell? w _ hx392_4)).trans hx392_4
             replace p392 := eq_true p392
             replace q392 := eq_true q392
             go_wp2
             repeat (go_quiet (fail); try go_wp2)
             go_meet
             case rel => exact ⟨_, (decide ((rd l1 x38_2) > ((rd_T41 l0 x38_2).f1))), (by first | rfl | (simp; done) | (simp [*]; done)), H', ⟨by have := HJ3.out; have := HK2.out; first | omega | exact Nat.le_refl _⟩, ⟨by repeat (first | (with_reducible first | exact HB.out | apply below_alloc | apply pw_below_drewN | apply below_drew1) | exact HB.out)⟩⟩
           ·
            rw [if_neg c24] at H
            exact absurd H (by simp)
         ·
          rw [if_neg c22] at H
          exact absurd H (by simp)
        ·
         rw [if_neg c21] at H
         exact absurd H (by simp)
       case rest =>
        clear HC20
        try clear c1
        try clear c2
        try clear p2
        try clear p3
        try clear q3
        try clear hx3
        try clear c6
        try clear c8
        try clear c8b0
        try clear c8b1
        try clear c9
        try clear c9b0
        try clear c9b1
        try clear c9b2
        try clear c10
        try clear c10b0
        try clear c16
        try clear c19
        try clear c19b0
        try clear c21
        try clear c21b0
        try clear c22
        try clear c22b0
        try clear c23
        try clear c23b0
        try clear c24
        try clear c24b0
        try clear c25
        try clear c25b0
        try clear hx388_0
        try clear hx388_1
        try clear hx388_2
        try clear hx388_3
        try clear hx388_4
        try clear hx389_0
        try clear hx389_1
        try clear hx389_2
        try clear hx389_3
        try clear hx389_4
        try clear hx390_0
        try clear hx391_0
        try clear hx392_0
        try clear hx392_1
        try clear hx392_2
        try clear hx392_3
        try clear hx392_4
        try clear p2
        try clear p388
        try clear p389
        try clear p390
        try clear p391
        try clear p392
        try clear q388
        try clear q389
        try clear q390
        try clear q391
        try clear q392
        obtain ⟨kq, x70_19, rfl, HA, HJ19, HB⟩ := hcut
        cases kq with
        | zero => exact absurd HA.out (by simp [estoverslaw20_ProtectionWider.j2])
        | succ kj19 =>
         have H := HA.out
         clear HA
         simp only [estoverslaw20_ProtectionWider.j2] at H
         by_cases c26 : x70_19 = true
         ·
          subst c26
          have H1 : (some true) = some r := by rw [if_pos rfl] at H; exact H
          clear H
          have H := H1
          clear H1
          obtain rfl := Option.some.inj H
          go_wp2
          repeat (go_quiet (fail); try go_wp2)
          go_ret
          exact ⟨by first | rfl | (simp [errW_none, errW_some] <;> rfl) | (simp [*, errW_none, errW_some] <;> rfl), by repeat (first | (with_reducible first | exact HB.out | apply below_alloc | apply pw_below_drewN | apply below_drew1) | exact HB.out)⟩
         ·
          replace c26 := Bool.eq_false_iff.mpr c26
          subst c26
          have H1 : (estoverslaw20_ProtectionWider.l0 kj19 l0 l1 a2 (l0.length : Int) (wrap64 (x38_2 + 1))) = some r := by rw [if_neg (show ¬ (false = true) by decide)] at H; exact H
          clear H
          have H := H1
          clear H1
          have H' := Aside0.mk H
          clear H
          go_wp2
          repeat (go_quiet (fail); try go_wp2)
          go_roundg kj19
          case measure => have := HJ3.out; have := HK2.out; have := HJ19.out; omega
          case rel => exact ⟨(wrap64 (x38_2 + 1)), (by first | rfl | (simp; done) | (simp [*]; done)), H', ⟨by have := HJ3.out; have := HK2.out; have := HJ19.out; omega⟩, ⟨by repeat (first | (with_reducible first | exact HB.out | apply below_alloc | apply pw_below_drewN | apply below_drew1) | exact HB.out)⟩⟩
      ·
       rw [if_neg c19] at H
       have c19b0 : decide (x38_2 < (l0.length : Int)) = false := decide_eq_false c19
       clear c19
       have H' := Aside0.mk H
       clear H
       go_wp2
       repeat (go_quiet (fail); try go_wp2)
       go_loopg [8, 9] k2 (fun kq v8 v9 w' => ∃ (x8_3 : Bool) (x9_3 : Int), v8 = .bool x8_3 ∧ v9 = .int .i64 x9_3 ∧ Aside0 (estoverslaw20_ProtectionWider.l1 kq l0 l1 a2 x8_3 x9_3 = some r) ∧ Aside0 (kq ≤ k2) ∧ Aside0 (Below w.heap.size w w'))
       case atStart => exact ⟨(false), (a2), (by first | rfl | (simp; done) | (simp [*]; done)), (by first | rfl | (simp; done) | (simp [*]; done)), H', ⟨Nat.le_refl _⟩, ⟨by repeat (first | (with_reducible first | exact HB.out | apply below_alloc | apply pw_below_drewN | apply below_drew1) | exact HB.out)⟩⟩
       case round =>
        clear H'
        try clear c1
        try clear c2
        try clear p2
        try clear p3
        try clear q3
        try clear hx3
        try clear c6
        try clear p6
        try clear c8
        try clear c8b0
        try clear c8b1
        try clear c9
        try clear c9b0
        try clear c9b1
        try clear c9b2
        try clear c10
        try clear c10b0
        try clear c16
        try clear c19
        try clear c19b0
        try clear c21
        try clear c21b0
        try clear c22
        try clear c22b0
        try clear c23
        try clear c23b0
        try clear c24
        try clear c24b0
        try clear c25
        try clear c25b0
        try clear c26
        try clear hx388_0
        try clear hx388_1
        try clear hx388_2
        try clear hx388_3
        try clear hx388_4
        try clear hx389_0
        try clear hx389_1
        try clear hx389_2
        try clear hx389_3
        try clear hx389_4
        try clear hx390_0
        try clear hx391_0
        try clear hx392_0
        try clear hx392_1
        try clear hx392_2
        try clear hx392_3
        try clear hx392_4
        try clear p2
        try clear p3
        try clear p388
        try clear p389
        try clear p390
        try clear p391
        try clear p392
        try clear q3
        try clear q388
        try clear q389
        try clear q390
        try clear q391
        try clear q392
        obtain ⟨x8_3, x9_3, rfl, rfl, HA, HK3, HB⟩ := hrel
        cases gk with
        | zero => exact absurd HA.out (by simp [estoverslaw20_ProtectionWider.l1])
        | succ k3 =>
         have H := HA.out
         clear HA
         simp only [estoverslaw20_ProtectionWider.l1] at H
         by_cases c27 : x9_3 ≥ (-1)
         ·
          rw [if_pos c27] at H
          have c27b0 : decide ((-1) ≤ x9_3) = true := decide_eq_true c27
          clear c27
          replace H := Option.bind_eq_some_iff.mp H
          obtain ⟨t393, A280, H⟩ := H
          replace H : (if x8_3 = true then (if t393 = true then ((protection_Guarded.f k3 l0 l1 a2 x9_3 true).bind fun t394 => (estoverslaw20_ProtectionWider.j4 k3 l0 l1 a2 x9_3 t393 (!t394))) else (estoverslaw20_ProtectionWider.j4 k3 l0 l1 a2 x9_3 t393 true)) else (if t393 = true then ((protection_Guarded.f k3 l0 l1 a2 x9_3 true).bind fun t395 => (estoverslaw20_ProtectionWider.j4 k3 l0 l1 a2 x9_3 t393 (!t395))) else (estoverslaw20_ProtectionWider.j4 k3 l0 l1 a2 x9_3 t393 false))) = some r := H
          have A28 := Aside0.mk A280
          clear A280
          have HC29 := Aside0.mk H
          clear H
          go_upto_region 13 with (first | (go_at_call 16; (with_reducible refine (protection_Guarded.calls k3 _ _ l0 _ _ l1 a2 x9_3 false t393 _ ?side1 ?side2 ?side3 ?side4 A28.out).mono ?_); (case side1 => repeat (first | exact (Kd.C_below HR0.out HB.out) | (with_reducible refine Kd.C_alloc ?_ _) | (with_reducible refine Kd.C_drewN ?_ _) | (with_reducible refine Kd.C_drew ?_))); (case side2 => exact HC0.out); (case side3 => repeat (first | exact (Kd.C_below HR1.out HB.out) | (with_reducible refine Kd.C_alloc ?_ _) | (with_reducible refine Kd.C_drewN ?_ _) | (with_reducible refine Kd.C_drew ?_))); (case side4 => exact HC1.out); rintro e w30 ⟨rfl, hb⟩; have n0_ := Aside0.mk (below_step (by repeat (first | (with_reducible first | exact HB.out | apply below_alloc | apply pw_below_drewN | apply below_drew1) | exact HB.out)) hb); clear HB; have HB := n0_; clear n0_; (try clear hb); (try clear hb2); (try clear hk); (try clear hi)))
          repeat (go_quiet (first | (go_at_call 16; (with_reducible refine (protection_Guarded.calls k3 _ _ l0 _ _ l1 a2 x9_3 false t393 _ ?side1 ?side2 ?side3 ?side4 A28.out).mono ?_); (case side1 => repeat (first | exact (Kd.C_below HR0.out HB.out) | (with_reducible refine Kd.C_alloc ?_ _) | (with_reducible refine Kd.C_drewN ?_ _) | (with_reducible refine Kd.C_drew ?_))); (case side2 => exact HC0.out); (case side3 => repeat (first | exact (Kd.C_below HR1.out HB.out) | (with_reducible refine Kd.C_alloc ?_ _) | (with_reducible refine Kd.C_drewN ?_ _) | (with_reducible refine Kd.C_drew ?_))); (case side4 => exact HC1.out); rintro e w30 ⟨rfl, hb⟩; have n0_ := Aside0.mk (below_step (by repeat (first | (with_reducible first | exact HB.out | apply below_alloc | apply pw_below_drewN | apply below_drew1) | exact HB.out)) hb); clear HB; have HB := n0_; clear n0_; (try clear hb); (try clear hb2); (try clear hk); (try clear hi))); go_upto_region 13 with (first | (go_at_call 16; (with_reducible refine (protection_Guarded.calls k3 _ _ l0 _ _ l1 a2 x9_3 false t393 _ ?side1 ?side2 ?side3 ?side4 A28.out).mono ?_); (case side1 => repeat (first | exact (Kd.C_below HR0.out HB.out) | (with_reducible refine Kd.C_alloc ?_ _) | (with_reducible refine Kd.C_drewN ?_ _) | (with_reducible refine Kd.C_drew ?_))); (case side2 => exact HC0.out); (case side3 => repeat (first | exact (Kd.C_below HR1.out HB.out) | (with_reducible refine Kd.C_alloc ?_ _) | (with_reducible refine Kd.C_drewN ?_ _) | (with_reducible refine Kd.C_drew ?_))); (case side4 => exact HC1.out); rintro e w30 ⟨rfl, hb⟩; have n0_ := Aside0.mk (below_step (by repeat (first | (with_reducible first | exact HB.out | apply below_alloc | apply pw_below_drewN | apply below_drew1) | exact HB.out)) hb); clear HB; have HB := n0_; clear n0_; (try clear hb); (try clear hb2); (try clear hk); (try clear hi))))
          (try simp only [Act.put, List.setIfInBounds_toArray, List.set_cons_zero, List.set_cons_succ])
          go_cut [95] (fun v95 wc => ∃ (kq : Nat) (x95_28 : Bool), v95 = .bool x95_28 ∧ Aside0 (estoverslaw20_ProtectionWider.j4 kq l0 l1 a2 x9_3 t393 x95_28 = some r) ∧ Aside0 (kq ≤ k3) ∧ Aside0 (Below w.heap.size w wc))
          case first =>
           have H := HC29.out
           clear HC29
           by_cases c31 : x8_3 = true
           ·
            subst c31
            have H1 : (if t393 = true then ((protection_Guarded.f k3 l0 l1 a2 x9_3 true).bind fun t394 => (estoverslaw20_ProtectionWider.j4 k3 l0 l1 a2 x9_3 t393 (!t394))) else (estoverslaw20_ProtectionWider.j4 k3 l0 l1 a2 x9_3 t393 true)) = some r := by rw [if_pos rfl] at H; exact H
            clear H
            have H := H1
            clear H1
            by_cases c32 : t393 = true
            ·
             subst c32
             have H1 : ((protection_Guarded.f k3 l0 l1 a2 x9_3 true).bind fun t394 => (estoverslaw20_ProtectionWider.j4 k3 l0 l1 a2 x9_3 true (!t394))) = some r := by rw [if_pos rfl] at H; exact H
             clear H
             have H := H1
             clear H1
             replace H := Option.bind_eq_some_iff.mp H
             obtain ⟨t394, A330, H⟩ := H
             replace H : (estoverslaw20_ProtectionWider.j4 k3 l0 l1 a2 x9_3 true (!t394)) = some r := H
             have A33 := Aside0.mk A330
             clear A330
             have H' := Aside0.mk H
             clear H
             go_wp2_with (first | (go_at_call 16; (with_reducible refine (protection_Guarded.calls k3 _ _ l0 _ _ l1 a2 x9_3 true t394 _ ?side1 ?side2 ?side3 ?side4 A33.out).mono ?_); (case side1 => repeat (first | exact (Kd.C_below HR0.out HB.out) | (with_reducible refine Kd.C_alloc ?_ _) | (with_reducible refine Kd.C_drewN ?_ _) | (with_reducible refine Kd.C_drew ?_))); (case side2 => exact HC0.out); (case side3 => repeat (first | exact (Kd.C_below HR1.out HB.out) | (with_reducible refine Kd.C_alloc ?_ _) | (with_reducible refine Kd.C_drewN ?_ _) | (with_reducible refine Kd.C_drew ?_))); (case side4 => exact HC1.out); rintro e w34 ⟨rfl, hb⟩; have n0_ := Aside0.mk (below_step (by repeat (first | (with_reducible first | exact HB.out | apply below_alloc | apply pw_below_drewN | apply below_drew1) | exact HB.out)) hb); clear HB; have HB := n0_; clear n0_; (try clear hb); (try clear hb2); (try clear hk); (try clear hi)))
             repeat (go_quiet (first | (go_at_call 16; (with_reducible refine (protection_Guarded.calls k3 _ _ l0 _ _ l1 a2 x9_3 true t394 _ ?side1 ?side2 ?side3 ?side4 A33.out).mono ?_); (case side1 => repeat (first | exact (Kd.C_below HR0.out HB.out) | (with_reducible refine Kd.C_alloc ?_ _) | (with_reducible refine Kd.C_drewN ?_ _) | (with_reducible refine Kd.C_drew ?_))); (case side2 => exact HC0.out); (case side3 => repeat (first | exact (Kd.C_below HR1.out HB.out) | (with_reducible refine Kd.C_alloc ?_ _) | (with_reducible refine Kd.C_drewN ?_ _) | (with_reducible refine Kd.C_drew ?_))); (case side4 => exact HC1.out); rintro e w34 ⟨rfl, hb⟩; have n0_ := Aside0.mk (below_step (by repeat (first | (with_reducible first | exact HB.out | apply below_alloc | apply pw_below_drewN | apply below_drew1) | exact HB.out)) hb); clear HB; have HB := n0_; clear n0_; (try clear hb); (try clear hb2); (try clear hk); (try clear hi))); try go_wp2_with (first | (go_at_call 16; (with_reducible refine (protection_Guarded.calls k3 _ _ l0 _ _ l1 a2 x9_3 true t394 _ ?side1 ?side2 ?side3 ?side4 A33.out).mono ?_); (case side1 => repeat (first | exact (Kd.C_below HR0.out HB.out) | (with_reducible refine Kd.C_alloc ?_ _) | (with_reducible refine Kd.C_drewN ?_ _) | (with_reducible refine Kd.C_drew ?_))); (case side2 => exact HC0.out); (case side3 => repeat (first | exact (Kd.C_below HR1.out HB.out) | (with_reducible refine Kd.C_alloc ?_ _) | (with_reducible refine Kd.C_drewN ?_ _) | (with_reducible refine Kd.C_drew ?_))); (case side4 => exact HC1.out); rintro e w34 ⟨rfl, hb⟩; have n0_ := Aside0.mk (below_step (by repeat (first | (with_reducible first | exact HB.out | apply below_alloc | apply pw_below_drewN | apply below_drew1) | exact HB.out)) hb); clear HB; have HB := n0_; clear n0_; (try clear hb); (try clear hb2); (try clear hk); (try clear hi))))
             go_meet
             case rel => exact ⟨_, (!t394), (by first | rfl | (simp; done) | (simp [*]; done)), H', ⟨by have := HJ3.out; have := HK2.out; have := HK3.out; first | omega | exact Nat.le_refl _⟩, ⟨by repeat (first | (with_reducible first | exact HB.out | apply below_alloc | apply pw_below_drewN | apply below_drew1) | exact HB.out)⟩⟩
            ·
             replace c32 := Bool.eq_false_iff.mpr c32
             subst c32
             have H1 : (estoverslaw20_ProtectionWider.j4 k3 l0 l1 a2 x9_3 false true) = some r := by rw [if_neg (show ¬ (false = true) by decide)] at H; exact H
             clear H
             have H := H1
             clear H1
             have H' := Aside0.mk H
             clear H
             go_wp2
             repeat (go_quiet (fail); try go_wp2)
             go_meet
             case rel => exact ⟨_, (true), (by first | rfl | (simp; done) | (simp [*]; done)), H', ⟨by have := HJ3.out; have := HK2.out; have := HK3.out; first | omega | exact Nat.le_refl _⟩, ⟨by repeat (first | (with_reducible first | exact HB.out | apply below_alloc | apply pw_below_drewN | apply below_drew1) | exact HB.out)⟩⟩
           ·
            replace c31 := Bool.eq_false_iff.mpr c31
            subst c31
            have H1 : (if t393 = true then ((protection_Guarded.f k3 l0 l1 a2 x9_3 true).bind fun t395 => (estoverslaw20_ProtectionWider.j4 k3 l0 l1 a2 x9_3 t393 (!t395))) else (estoverslaw20_ProtectionWider.j4 k3 l0 l1 a2 x9_3 t393 false)) = some r := by rw [if_neg (show ¬ (false = true) by decide)] at H; exact H
            clear H
            have H := H1
            clear H1
            by_cases c35 : t393 = true
            ·
             subst c35
             have H1 : ((protection_Guarded.f k3 l0 l1 a2 x9_3 true).bind fun t395 => (estoverslaw20_ProtectionWider.j4 k3 l0 l1 a2 x9_3 true (!t395))) = some r := by rw [if_pos rfl] at H; exact H
             clear H
             have H := H1
             clear H1
             replace H := Option.bind_eq_some_iff.mp H
             obtain ⟨t395, A360, H⟩ := H
             replace H : (estoverslaw20_ProtectionWider.j4 k3 l0 l1 a2 x9_3 true (!t395)) = some r := H
             have A36 := Aside0.mk A360
             clear A360
             have H' := Aside0.mk H
             clear H
             go_wp2_with (first | (go_at_call 16; (with_reducible refine (protection_Guarded.calls k3 _ _ l0 _ _ l1 a2 x9_3 true t395 _ ?side1 ?side2 ?side3 ?side4 A36.out).mono ?_); (case side1 => repeat (first | exact (Kd.C_below HR0.out HB.out) | (with_reducible refine Kd.C_alloc ?_ _) | (with_reducible refine Kd.C_drewN ?_ _) | (with_reducible refine Kd.C_drew ?_))); (case side2 => exact HC0.out); (case side3 => repeat (first | exact (Kd.C_below HR1.out HB.out) | (with_reducible refine Kd.C_alloc ?_ _) | (with_reducible refine Kd.C_drewN ?_ _) | (with_reducible refine Kd.C_drew ?_))); (case side4 => exact HC1.out); rintro e w37 ⟨rfl, hb⟩; have n0_ := Aside0.mk (below_step (by repeat (first | (with_reducible first | exact HB.out | apply below_alloc | apply pw_below_drewN | apply below_drew1) | exact HB.out)) hb); clear HB; have HB := n0_; clear n0_; (try clear hb); (try clear hb2); (try clear hk); (try clear hi)))
             repeat (go_quiet (first | (go_at_call 16; (with_reducible refine (protection_Guarded.calls k3 _ _ l0 _ _ l1 a2 x9_3 true t395 _ ?side1 ?side2 ?side3 ?side4 A36.out).mono ?_); (case side1 => repeat (first | exact (Kd.C_below HR0.out HB.out) | (with_reducible refine Kd.C_alloc ?_ _) | (with_reducible refine Kd.C_drewN ?_ _) | (with_reducible refine Kd.C_drew ?_))); (case side2 => exact HC0.out); (case side3 => repeat (first | exact (Kd.C_below HR1.out HB.out) | (with_reducible refine Kd.C_alloc ?_ _) | (with_reducible refine Kd.C_drewN ?_ _) | (with_reducible refine Kd.C_drew ?_))); (case side4 => exact HC1.out); rintro e w37 ⟨rfl, hb⟩; have n0_ := Aside0.mk (below_step (by repeat (first | (with_reducible first | exact HB.out | apply below_alloc | apply pw_below_drewN | apply below_drew1) | exact HB.out)) hb); clear HB; have HB := n0_; clear n0_; (try clear hb); (try clear hb2); (try clear hk); (try clear hi))); try go_wp2_with (first | (go_at_call 16; (with_reducible refine (protection_Guarded.calls k3 _ _ l0 _ _ l1 a2 x9_3 true t395 _ ?side1 ?side2 ?side3 ?side4 A36.out).mono ?_); (case side1 => repeat (first | exact (Kd.C_below HR0.out HB.out) | (with_reducible refine Kd.C_alloc ?_ _) | (with_reducible refine Kd.C_drewN ?_ _) | (with_reducible refine Kd.C_drew ?_))); (case side2 => exact HC0.out); (case side3 => repeat (first | exact (Kd.C_below HR1.out HB.out) | (with_reducible refine Kd.C_alloc ?_ _) | (with_reducible refine Kd.C_drewN ?_ _) | (with_reducible refine Kd.C_drew ?_))); (case side4 => exact HC1.out); rintro e w37 ⟨rfl, hb⟩; have n0_ := Aside0.mk (below_step (by repeat (first | (with_reducible first | exact HB.out | apply below_alloc | apply pw_below_drewN | apply below_drew1) | exact HB.out)) hb); clear HB; have HB := n0_; clear n0_; (try clear hb); (try clear hb2); (try clear hk); (try clear hi))))
             go_meet
             case rel => exact ⟨_, (!t395), (by first | rfl | (simp; done) | (simp [*]; done)), H', ⟨by have := HJ3.out; have := HK2.out; have := HK3.out; first | omega | exact Nat.le_refl _⟩, ⟨by repeat (first | (with_reducible first | exact HB.out | apply below_alloc | apply pw_below_drewN | apply below_drew1) | exact HB.out)⟩⟩
            ·
             replace c35 := Bool.eq_false_iff.mpr c35
             subst c35
             have H1 : (estoverslaw20_ProtectionWider.j4 k3 l0 l1 a2 x9_3 false false) = some r := by rw [if_neg (show ¬ (false = true) by decide)] at H; exact H
             clear H
             have H := H1
             clear H1
             have H' := Aside0.mk H
             clear H
             go_wp2
             repeat (go_quiet (fail); try go_wp2)
             go_meet
             case rel => exact ⟨_, (false), (by first | rfl | (simp; done) | (simp [*]; done)), H', ⟨by have := HJ3.out; have := HK2.out; have := HK3.out; first | omega | exact Nat.le_refl _⟩, ⟨by repeat (first | (with_reducible first | exact HB.out | apply below_alloc | apply pw_below_drewN | apply below_drew1) | exact HB.out)⟩⟩
          case rest =>
           clear HC29
           try clear c1
           try clear c2
           try clear p2
           try clear c3
           try clear p3
           try clear q3
           try clear hx3
           try clear c6
           try clear p6
           try clear c8
           try clear c8b0
           try clear c8b1
           try clear c9
           try clear c9b0
           try clear c9b1
           try clear c9b2
           try clear c10
           try clear c10b0
           try clear c16
           try clear c19
           try clear c19b0
           try clear c21
           try clear c21b0
           try clear c22
           try clear c22b0
           try clear c23
           try clear c23b0
           try clear c24
           try clear c24b0
           try clear c25
           try clear c25b0
           try clear c26
           try clear c27
           try clear c27b0
           try clear c31
           try clear c32
           try clear c35
           try clear hx388_0
           try clear hx388_1
           try clear hx388_2
           try clear hx388_3
           try clear hx388_4
           try clear hx389_0
           try clear hx389_1
           try clear hx389_2
           try clear hx389_3
           try clear hx389_4
           try clear hx390_0
           try clear hx391_0
           try clear hx392_0
           try clear hx392_1
           try clear hx392_2
           try clear hx392_3
           try clear hx392_4
           try clear p2
           try clear p3
           try clear p388
           try clear p389
           try clear p390
           try clear p391
           try clear p392
           try clear p6
           try clear q3
           try clear q388
           try clear q389
           try clear q390
           try clear q391
           try clear q392
           obtain ⟨kq, x95_28, rfl, HA, HJ28, HB⟩ := hcut
           cases kq with
           | zero => exact absurd HA.out (by simp [estoverslaw20_ProtectionWider.j4])
           | succ kj28 =>
            have H := HA.out
            clear HA
            simp only [estoverslaw20_ProtectionWider.j4] at H
            by_cases c38 : x95_28 = true
            ·
             subst c38
             have H1 : (some false) = some r := by rw [if_pos rfl] at H; exact H
             clear H
             have H := H1
             clear H1
             obtain rfl := Option.some.inj H
             go_wp2
             repeat (go_quiet (fail); try go_wp2)
             go_ret
             exact ⟨by first | rfl | (simp [errW_none, errW_some] <;> rfl) | (simp [*, errW_none, errW_some] <;> rfl), by repeat (first | (with_reducible first | exact HB.out | apply below_alloc | apply pw_below_drewN | apply below_drew1) | exact HB.out)⟩
            ·
             replace c38 := Bool.eq_false_iff.mpr c38
             subst c38
             have H1 : (if x9_3 = (-1) then (some true) else (if 0 ≤ x9_3 then (if x9_3 < (l0.length : Int) then (estoverslaw20_ProtectionWider.l1 kj28 l0 l1 a2 t393 ((rd_T41 l0 x9_3).f0)) else (none)) else (none))) = some r := by rw [if_neg (show ¬ (false = true) by decide)] at H; exact H
             clear H
             have H := H1
             clear H1
             by_cases c39 : x9_3 = (-1)
             ·
              rw [if_pos c39] at H
              have c39b0 : (x9_3 == (-1)) = true := beq_iff_eq.mpr c39
              have c39b1 : (x9_3 != (-1)) = false := bne_eq_false_iff_eq.mpr c39
              clear c39
              obtain rfl := Option.some.inj H
              go_wp2
              repeat (go_quiet (fail); try go_wp2)
              go_ret
              exact ⟨by first | rfl | (simp [errW_none, errW_some] <;> rfl) | (simp [*, errW_none, errW_some] <;> rfl), by repeat (first | (with_reducible first | exact HB.out | apply below_alloc | apply pw_below_drewN | apply below_drew1) | exact HB.out)⟩
             ·
              rw [if_neg c39] at H
              have c39b0 : (x9_3 == (-1)) = false := beq_eq_false_iff_ne.mpr c39
              have c39b1 : (x9_3 != (-1)) = true := bne_iff_ne.mpr c39
              by_cases c40 : 0 ≤ x9_3
              ·
               rw [if_pos c40] at H
               have c40b0 : decide (0 ≤ x9_3) = true := decide_eq_true c40
               clear c40
               by_cases c41 : x9_3 < (l0.length : Int)
               ·
                rw [if_pos c41] at H
                have c41b0 : decide (x9_3 < (l0.length : Int)) = true := decide_eq_true c41
                clear c41
                have H' := Aside0.mk H
                clear H
                have p396 : 0 ≤ (x9_3 : Int) := of_decide_eq_true (by first | (with_reducible assumption) | assumption)
                have q396 : x9_3 < (l0.length : Int) := of_decide_eq_true (by first | (with_reducible assumption) | assumption)
                obtain ⟨ad396, e396, hx396_0, hx396_1, hx396_2, hx396_3, hx396_4⟩ := at_T41 HR0.out x9_3 p396 q396
                cases e396
                replace hx396_0 := (HB.out.cell (World.block_lt_of_cell? w _ hx396_0)).trans hx396_0
                replace hx396_1 := (HB.out.cell (World.block_lt_of_cell? w _ hx396_1)).trans hx396_1
                replace hx396_2 := (HB.out.cell (World.block_lt_of_cell? w _ hx396_2)).trans hx396_2
                replace hx396_3 := (HB.out.cell (World.block_lt_of_cell? w _ hx396_3)).trans hx396_3
                replace hx396_4 := (HB.out.cell (World.block_lt_of_cell? w _ hx396_4)).trans hx396_4
                replace p396 := eq_true p396
                replace q396 := eq_true q396
                go_wp2
                repeat (go_quiet (fail); try go_wp2)
                go_roundg kj28
                case measure => have := HJ3.out; have := HK2.out; have := HK3.out; have := HJ28.out; omega
                case rel => exact ⟨(t393), ((rd_T41 l0 x9_3).f0), (by first | rfl | (simp; done) | (simp [*]; done)), (by first | rfl | (simp; done) | (simp [*]; done)), H', ⟨by have := HJ3.out; have := HK2.out; have := HK3.out; have := HJ28.out; omega⟩, ⟨by repeat (first | (with_reducible first | exact HB.out | apply below_alloc | apply pw_below_drewN | apply below_drew1) | exact HB.out)⟩⟩
               ·
                rw [if_neg c41] at H
                exact absurd H (by simp)
              ·
               rw [if_neg c40] at H
               exact absurd H (by simp)
         ·
          rw [if_neg c27] at H
          have c27b0 : decide ((-1) ≤ x9_3) = false := decide_eq_false c27
          clear c27
          obtain rfl := Option.some.inj H
          go_wp2
          repeat (go_quiet (fail); try go_wp2)
          go_ret
          exact ⟨by first | rfl | (simp [errW_none, errW_some] <;> rfl) | (simp [*, errW_none, errW_some] <;> rfl), by repeat (first | (with_reducible first | exact HB.out | apply below_alloc | apply pw_below_drewN | apply below_drew1) | exact HB.out)⟩
end Go.Proofs.Ytilcbkengmggdaa.Pr
