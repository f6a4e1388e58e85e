-- Written by a program of this session (a changed copy of the kit's printer).
import Derived.Test.YtilcbkengmggdaaM0
import Derived.Test.YtilcbkengmggdaaFestoversref19Inside
import Derived.Test.YtilcbkengmggdaaFestoversref19Own
import Derived.Test.YtilcbkengmggdaaM2
import Derived.Test.YtilcbkengmggdaaM3
namespace Go.Proofs.Ytilcbkengmggdaa.Pr
open Go.RowKit Go.Proofs.YtilcbkengmggdaaW.PrintWords Go.Proofs.YtilcbkengmggdaaW.PrintLast Go.Proofs.YtilcbkengmggdaaW.PrintMore
attribute [local go_sem] max2_int min2_int max_two min_two max_three min_three max_four min_four   -- for this text's walks alone
set_option linter.unusedVariables false
set_option linter.unusedSimpArgs false
abbrev T0 := true
abbrev F0 := false
theorem z0_ {α : Type} (l : List α) (i : Nat) (a : α) : l.toArray.setIfInBounds i a = (l.set i a).toArray := List.setIfInBounds_toArray ..
theorem z1_ {α : Type} {a b : α} {l : List α} : (a :: l).set 0 b = b :: l := rfl
theorem z2_ {α : Type} {a b : α} {l : List α} {n : Nat} : (a :: l).set (n + 1) b = a :: l.set n b := rfl
/-! ### estoverslaw20_ProtectionOpens: function 8 -/
mutual
def estoverslaw20_ProtectionOpens.j0 : Nat → List (S41) → List Int → Int → Bool → Option (Bool)
 | 0, _, _, _, _ => none
 | k + 1, x0, x1, x2, x27 => if x27 = true then ((estoverslaw20_awake.f k).bind fun t368 => (some t368)) else (estoverslaw20_ProtectionOpens.l0 k x0 x1 x2 (x1.length : Int) 0)
def estoverslaw20_ProtectionOpens.l0 : Nat → List (S41) → List Int → Int → Int → Int → Option (Bool)
 | 0, _, _, _, _, _ => none
 | k + 1, x0, x1, x2, x30, x31 => if x31 < x30 then (if 0 ≤ x31 then (if x31 < (x1.length : Int) then (if (rd x1 x31) < 0 then (estoverslaw20_ProtectionOpens.j2 k x0 x1 x2 x30 x31 true) else ((estoversref19_Own.f k x0 x31).bind fun t371 => (estoverslaw20_ProtectionOpens.j2 k x0 x1 x2 x30 x31 (decide ((rd x1 x31) > t371))))) else (none)) else (none)) else ((protection_Overcommit.f k x0 x2).bind fun bt372 => (if bt372.2 = 0 then (estoverslaw20_ProtectionOpens.j3 k x0 x1 x2 (bt372.1 != (-1))) else (estoverslaw20_ProtectionOpens.j3 k x0 x1 x2 true)))
def estoverslaw20_ProtectionOpens.j2 : Nat → List (S41) → List Int → Int → Int → Int → Bool → Option (Bool)
 | 0, _, _, _, _, _, _ => none
 | k + 1, x0, x1, x2, x30, x31, x48 => if x48 = true then (some true) else (estoverslaw20_ProtectionOpens.l0 k x0 x1 x2 x30 (wrap64 (x31 + 1)))
def estoverslaw20_ProtectionOpens.j3 : Nat → List (S41) → List Int → Int → Bool → Option (Bool)
 | 0, _, _, _, _ => none
 | k + 1, x0, x1, x2, x61 => if x61 = true then (some true) else ((protection_Inside.f k x0 x1).bind fun t374 => (if (t374.length : Int) = (x0.length : Int) then (estoverslaw20_ProtectionOpens.l1 k x0 x1 x2 t374 (x0.length : Int) 0) else (some false)))
def estoverslaw20_ProtectionOpens.l1 : Nat → List (S41) → List Int → Int → List Int → Int → Int → Option (Bool)
 | 0, _, _, _, _, _, _ => none
 | k + 1, x0, x1, x2, x10, x71, x72 => if x72 < x71 then (if 0 ≤ x72 then (if x72 < (x0.length : Int) then (if x72 = 0 then (estoverslaw20_ProtectionOpens.j5 k x0 x1 x2 x10 x72 x2 x71 x72) else (estoverslaw20_ProtectionOpens.j5 k x0 x1 x2 x10 x72 ((rd_T41 x0 x72).f2) x71 x72)) else (none)) else (none)) else (some true)
def estoverslaw20_ProtectionOpens.j5 : Nat → List (S41) → List Int → Int → List Int → Int → Int → Int → Int → Option (Bool)
 | 0, _, _, _, _, _, _, _, _ => none
 | k + 1, x0, x1, x2, x10, x11, x12, x71, x72 => if 0 ≤ x11 then (if x11 < (x0.length : Int) then (if x11 < (x10.length : Int) then (if (wrap64 (((rd_T41 x0 x11).f1) - (rd x10 x11))) ≤ x12 then (estoverslaw20_ProtectionOpens.l1 k x0 x1 x2 x10 x71 (wrap64 (x72 + 1))) else ((protection_Open.f k x0 x1 x11).bind fun t380 => (if t380 < 0 then (estoverslaw20_ProtectionOpens.j6 k x0 x1 x2 x10 x71 x72 true) else (if t380 ≥ (x0.length : Int) then (estoverslaw20_ProtectionOpens.j6 k x0 x1 x2 x10 x71 x72 true) else ((estoversref19_Inside.f k x0 t380 x11).bind fun t381 => (if t381 = true then ((estoversref19_Own.f k x0 t380).bind fun t382 => (if 0 ≤ t380 then (if t380 < (x1.length : Int) then (if t382 ≤ (rd x1 t380) then (estoverslaw20_ProtectionOpens.j6 k x0 x1 x2 x10 x71 x72 true) else ((protection_Guarded.f k x0 x1 t380 x11 false).bind fun t384 => (estoverslaw20_ProtectionOpens.j6 k x0 x1 x2 x10 x71 x72 t384))) else (none)) else (none))) else (estoverslaw20_ProtectionOpens.j6 k x0 x1 x2 x10 x71 x72 true))))))) else (none)) else (none)) else (none)
def estoverslaw20_ProtectionOpens.j6 : Nat → List (S41) → List Int → Int → List Int → Int → Int → Bool → Option (Bool)
 | 0, _, _, _, _, _, _, _ => none
 | k + 1, x0, x1, x2, x10, x71, x72, x130 => if x130 = true then (some false) else (estoverslaw20_ProtectionOpens.l1 k x0 x1 x2 x10 x71 (wrap64 (x72 + 1)))
end
def estoverslaw20_ProtectionOpens.f (k : Nat) (l0 : List (S41)) (l1 : List Int) (a2 : Int) : Option (Bool) := (estoverslaw20_awake.f k).bind fun t366 => (if t366 = true then ((estoversref19_Check.f k l0).bind fun t367 => (if t367 = 0 then (estoverslaw20_ProtectionOpens.j0 k l0 l1 a2 ((l1.length : Int) != (l0.length : Int))) else (estoverslaw20_ProtectionOpens.j0 k l0 l1 a2 true))) else (estoverslaw20_ProtectionOpens.j0 k l0 l1 a2 true))
theorem estoverslaw20_ProtectionOpens.mono_l : ∀ k, (∀ y0 y1 y2 y3, LeO (estoverslaw20_ProtectionOpens.j0 k y0 y1 y2 y3) (estoverslaw20_ProtectionOpens.j0 (k + 1) y0 y1 y2 y3)) ∧ (∀ y0 y1 y2 y3 y4, LeO (estoverslaw20_ProtectionOpens.l0 k y0 y1 y2 y3 y4) (estoverslaw20_ProtectionOpens.l0 (k + 1) y0 y1 y2 y3 y4)) ∧ (∀ y0 y1 y2 y3 y4 y5, LeO (estoverslaw20_ProtectionOpens.j2 k y0 y1 y2 y3 y4 y5) (estoverslaw20_ProtectionOpens.j2 (k + 1) y0 y1 y2 y3 y4 y5)) ∧ (∀ y0 y1 y2 y3, LeO (estoverslaw20_ProtectionOpens.j3 k y0 y1 y2 y3) (estoverslaw20_ProtectionOpens.j3 (k + 1) y0 y1 y2 y3)) ∧ (∀ y0 y1 y2 y3 y4 y5, LeO (estoverslaw20_ProtectionOpens.l1 k y0 y1 y2 y3 y4 y5) (estoverslaw20_ProtectionOpens.l1 (k + 1) y0 y1 y2 y3 y4 y5)) ∧ (∀ y0 y1 y2 y3 y4 y5 y6 y7, LeO (estoverslaw20_ProtectionOpens.j5 k y0 y1 y2 y3 y4 y5 y6 y7) (estoverslaw20_ProtectionOpens.j5 (k + 1) y0 y1 y2 y3 y4 y5 y6 y7)) ∧ (∀ y0 y1 y2 y3 y4 y5 y6, LeO (estoverslaw20_ProtectionOpens.j6 k y0 y1 y2 y3 y4 y5 y6) (estoverslaw20_ProtectionOpens.j6 (k + 1) y0 y1 y2 y3 y4 y5 y6))
 | 0 => ⟨fun _ _ _ _ r h => by simp [estoverslaw20_ProtectionOpens.j0] at h, fun _ _ _ _ _ r h => by simp [estoverslaw20_ProtectionOpens.l0] at h, fun _ _ _ _ _ _ r h => by simp [estoverslaw20_ProtectionOpens.j2] at h, fun _ _ _ _ r h => by simp [estoverslaw20_ProtectionOpens.j3] at h, fun _ _ _ _ _ _ r h => by simp [estoverslaw20_ProtectionOpens.l1] at h, fun _ _ _ _ _ _ _ _ r h => by simp [estoverslaw20_ProtectionOpens.j5] at h, fun _ _ _ _ _ _ _ r h => by simp [estoverslaw20_ProtectionOpens.j6] at h⟩
 | k + 1 => by
  obtain ⟨ih0, ih1, ih2, ih3, ih4, ih5, ih6⟩ := estoverslaw20_ProtectionOpens.mono_l k; refine ⟨?_, ?_, ?_, ?_, ?_, ?_, ?_⟩
  ·
   intro y0 y1 y2 y3
   unfold estoverslaw20_ProtectionOpens.j0
   repeat' first
   | (with_reducible exact ih0 _ _ _ _)
   | (with_reducible exact ih1 _ _ _ _ _)
   | (with_reducible exact ih2 _ _ _ _ _ _)
   | (with_reducible exact ih3 _ _ _ _)
   | (with_reducible exact ih4 _ _ _ _ _ _)
   | (with_reducible exact ih5 _ _ _ _ _ _ _ _)
   | (with_reducible exact ih6 _ _ _ _ _ _ _)
   | (with_reducible exact estoverslaw20_awake.mono _)
   | (with_reducible exact estoversref19_Check.mono _ _)
   | (with_reducible exact estoversref19_Inside.mono _ _ _ _)
   | (with_reducible exact estoversref19_Own.mono _ _ _)
   | (with_reducible exact protection_Guarded.mono _ _ _ _ _ _)
   | (with_reducible exact protection_Inside.mono _ _ _)
   | (with_reducible exact protection_Open.mono _ _ _ _)
   | (with_reducible exact protection_Overcommit.mono _ _ _)
   | (with_reducible exact LeO.refl _)
   | (with_reducible exact LeO.none _)
   | (with_reducible refine LeO.ite ?_ ?_)
   | (with_reducible refine LeO.bind ?_ (fun _ => ?_))
   | exact ih0 _ _ _ _
   | exact ih1 _ _ _ _ _
   | exact ih2 _ _ _ _ _ _
   | exact ih3 _ _ _ _
   | exact ih4 _ _ _ _ _ _
   | exact ih5 _ _ _ _ _ _ _ _
   | exact ih6 _ _ _ _ _ _ _
   | exact estoverslaw20_awake.mono _
   | exact estoversref19_Check.mono _ _
   | exact estoversref19_Inside.mono _ _ _ _
   | exact estoversref19_Own.mono _ _ _
   | exact protection_Guarded.mono _ _ _ _ _ _
   | exact protection_Inside.mono _ _ _
   | exact protection_Open.mono _ _ _ _
   | exact protection_Overcommit.mono _ _ _
   | refine LeO.ite ?_ ?_
   | refine LeO.bind ?_ (fun _ => ?_)
  ·
   intro y0 y1 y2 y3 y4
   unfold estoverslaw20_ProtectionOpens.l0
   repeat' first
   | (with_reducible exact ih0 _ _ _ _)
   | (with_reducible exact ih1 _ _ _ _ _)
   | (with_reducible exact ih2 _ _ _ _ _ _)
   | (with_reducible exact ih3 _ _ _ _)
   | (with_reducible exact ih4 _ _ _ _ _ _)
   | (with_reducible exact ih5 _ _ _ _ _ _ _ _)
   | (with_reducible exact ih6 _ _ _ _ _ _ _)
   | (with_reducible exact estoverslaw20_awake.mono _)
   | (with_reducible exact estoversref19_Check.mono _ _)
   | (with_reducible exact estoversref19_Inside.mono _ _ _ _)
   | (with_reducible exact estoversref19_Own.mono _ _ _)
   | (with_reducible exact protection_Guarded.mono _ _ _ _ _ _)
   | (with_reducible exact protection_Inside.mono _ _ _)
   | (with_reducible exact protection_Open.mono _ _ _ _)
   | (with_reducible exact protection_Overcommit.mono _ _ _)
   | (with_reducible exact LeO.refl _)
   | (with_reducible exact LeO.none _)
   | (with_reducible refine LeO.ite ?_ ?_)
   | (with_reducible refine LeO.bind ?_ (fun _ => ?_))
   | exact ih0 _ _ _ _
   | exact ih1 _ _ _ _ _
   | exact ih2 _ _ _ _ _ _
   | exact ih3 _ _ _ _
   | exact ih4 _ _ _ _ _ _
   | exact ih5 _ _ _ _ _ _ _ _
   | exact ih6 _ _ _ _ _ _ _
   | exact estoverslaw20_awake.mono _
   | exact estoversref19_Check.mono _ _
   | exact estoversref19_Inside.mono _ _ _ _
   | exact estoversref19_Own.mono _ _ _
   | exact protection_Guarded.mono _ _ _ _ _ _
   | exact protection_Inside.mono _ _ _
   | exact protection_Open.mono _ _ _ _
   | exact protection_Overcommit.mono _ _ _
   | refine LeO.ite ?_ ?_
   | refine LeO.bind ?_ (fun _ => ?_)
  ·
   intro y0 y1 y2 y3 y4 y5
   unfold estoverslaw20_ProtectionOpens.j2
   repeat' first
   | (with_reducible exact ih0 _ _ _ _)
   | (with_reducible exact ih1 _ _ _ _ _)
   | (with_reducible exact ih2 _ _ _ _ _ _)
   | (with_reducible exact ih3 _ _ _ _)
   | (with_reducible exact ih4 _ _ _ _ _ _)
   | (with_reducible exact ih5 _ _ _ _ _ _ _ _)
   | (with_reducible exact ih6 _ _ _ _ _ _ _)
   | (with_reducible exact estoverslaw20_awake.mono _)
   | (with_reducible exact estoversref19_Check.mono _ _)
   | (with_reducible exact estoversref19_Inside.mono _ _ _ _)
   | (with_reducible exact estoversref19_Own.mono _ _ _)
   | (with_reducible exact protection_Guarded.mono _ _ _ _ _ _)
   | (with_reducible exact protection_Inside.mono _ _ _)
   | (with_reducible exact protection_Open.mono _ _ _ _)
   | (with_reducible exact protection_Overcommit.mono _ _ _)
   | (with_reducible exact LeO.refl _)
   | (with_reducible exact LeO.none _)
   | (with_reducible refine LeO.ite ?_ ?_)
   | (with_reducible refine LeO.bind ?_ (fun _ => ?_))
   | exact ih0 _ _ _ _
   | exact ih1 _ _ _ _ _
   | exact ih2 _ _ _ _ _ _
   | exact ih3 _ _ _ _
   | exact ih4 _ _ _ _ _ _
   | exact ih5 _ _ _ _ _ _ _ _
   | exact ih6 _ _ _ _ _ _ _
   | exact estoverslaw20_awake.mono _
   | exact estoversref19_Check.mono _ _
   | exact estoversref19_Inside.mono _ _ _ _
   | exact estoversref19_Own.mono _ _ _
   | exact protection_Guarded.mono _ _ _ _ _ _
   | exact protection_Inside.mono _ _ _
   | exact protection_Open.mono _ _ _ _
   | exact protection_Overcommit.mono _ _ _
   | refine LeO.ite ?_ ?_
   | refine LeO.bind ?_ (fun _ => ?_)
  ·
   intro y0 y1 y2 y3
   unfold estoverslaw20_ProtectionOpens.j3
   repeat' first
   | (with_reducible exact ih0 _ _ _ _)
   | (with_reducible exact ih1 _ _ _ _ _)
   | (with_reducible exact ih2 _ _ _ _ _ _)
   | (with_reducible exact ih3 _ _ _ _)
   | (with_reducible exact ih4 _ _ _ _ _ _)
   | (with_reducible exact ih5 _ _ _ _ _ _ _ _)
   | (with_reducible exact ih6 _ _ _ _ _ _ _)
   | (with_reducible exact estoverslaw20_awake.mono _)
   | (with_reducible exact estoversref19_Check.mono _ _)
   | (with_reducible exact estoversref19_Inside.mono _ _ _ _)
   | (with_reducible exact estoversref19_Own.mono _ _ _)
   | (with_reducible exact protection_Guarded.mono _ _ _ _ _ _)
   | (with_reducible exact protection_Inside.mono _ _ _)
   | (with_reducible exact protection_Open.mono _ _ _ _)
   | (with_reducible exact protection_Overcommit.mono _ _ _)
   | (with_reducible exact LeO.refl _)
   | (with_reducible exact LeO.none _)
   | (with_reducible refine LeO.ite ?_ ?_)
   | (with_reducible refine LeO.bind ?_ (fun _ => ?_))
   | exact ih0 _ _ _ _
   | exact ih1 _ _ _ _ _
   | exact ih2 _ _ _ _ _ _
   | exact ih3 _ _ _ _
   | exact ih4 _ _ _ _ _ _
   | exact ih5 _ _ _ _ _ _ _ _
   | exact ih6 _ _ _ _ _ _ _
   | exact estoverslaw20_awake.mono _
   | exact estoversref19_Check.mono _ _
   | exact estoversref19_Inside.mono _ _ _ _
   | exact estoversref19_Own.mono _ _ _
   | exact protection_Guarded.mono _ _ _ _ _ _
   | exact protection_Inside.mono _ _ _
   | exact protection_Open.mono _ _ _ _
   | exact protection_Overcommit.mono _ _ _
   | refine LeO.ite ?_ ?_
   | refine LeO.bind ?_ (fun _ => ?_)
  ·
   intro y0 y1 y2 y3 y4 y5
   unfold estoverslaw20_ProtectionOpens.l1
   repeat' first
   | (with_reducible exact ih0 _ _ _ _)
   | (with_reducible exact ih1 _ _ _ _ _)
   | (with_reducible exact ih2 _ _ _ _ _ _)
   | (with_reducible exact ih3 _ _ _ _)
   | (with_reducible exact ih4 _ _ _ _ _ _)
   | (with_reducible exact ih5 _ _ _ _ _ _ _ _)
   | (with_reducible exact ih6 _ _ _ _ _ _ _)
   | (with_reducible exact estoverslaw20_awake.mono _)
   | (with_reducible exact estoversref19_Check.mono _ _)
   | (with_reducible exact estoversref19_Inside.mono _ _ _ _)
   | (with_reducible exact estoversref19_Own.mono _ _ _)
   | (with_reducible exact protection_Guarded.mono _ _ _ _ _ _)
   | (with_reducible exact protection_Inside.mono _ _ _)
   | (with_reducible exact protection_Open.mono _ _ _ _)
   | (with_reducible exact protection_Overcommit.mono _ _ _)
   | (with_reducible exact LeO.refl _)
   | (with_reducible exact LeO.none _)
   | (with_reducible refine LeO.ite ?_ ?_)
   | (with_reducible refine LeO.bind ?_ (fun _ => ?_))
   | exact ih0 _ _ _ _
   | exact ih1 _ _ _ _ _
   | exact ih2 _ _ _ _ _ _
   | exact ih3 _ _ _ _
   | exact ih4 _ _ _ _ _ _
   | exact ih5 _ _ _ _ _ _ _ _
   | exact ih6 _ _ _ _ _ _ _
   | exact estoverslaw20_awake.mono _
   | exact estoversref19_Check.mono _ _
   | exact estoversref19_Inside.mono _ _ _ _
   | exact estoversref19_Own.mono _ _ _
   | exact protection_Guarded.mono _ _ _ _ _ _
   | exact protection_Inside.mono _ _ _
   | exact protection_Open.mono _ _ _ _
   | exact protection_Overcommit.mono _ _ _
   | refine LeO.ite ?_ ?_
   | refine LeO.bind ?_ (fun _ => ?_)
  ·
   intro y0 y1 y2 y3 y4 y5 y6 y7
   unfold estoverslaw20_ProtectionOpens.j5
   repeat' first
   | (with_reducible exact ih0 _ _ _ _)
   | (with_reducible exact ih1 _ _ _ _ _)
   | (with_reducible exact ih2 _ _ _ _ _ _)
   | (with_reducible exact ih3 _ _ _ _)
   | (with_reducible exact ih4 _ _ _ _ _ _)
   | (with_reducible exact ih5 _ _ _ _ _ _ _ _)
   | (with_reducible exact ih6 _ _ _ _ _ _ _)
   | (with_reducible exact estoverslaw20_awake.mono _)
   | (with_reducible exact estoversref19_Check.mono _ _)
   | (with_reducible exact estoversref19_Inside.mono _ _ _ _)
   | (with_reducible exact estoversref19_Own.mono _ _ _)
   | (with_reducible exact protection_Guarded.mono _ _ _ _ _ _)
   | (with_reducible exact protection_Inside.mono _ _ _)
   | (with_reducible exact protection_Open.mono _ _ _ _)
   | (with_reducible exact protection_Overcommit.mono _ _ _)
   | (with_reducible exact LeO.refl _)
   | (with_reducible exact LeO.none _)
   | (with_reducible refine LeO.ite ?_ ?_)
   | (with_reducible refine LeO.bind ?_ (fun _ => ?_))
   | exact ih0 _ _ _ _
   | exact ih1 _ _ _ _ _
   | exact ih2 _ _ _ _ _ _
   | exact ih3 _ _ _ _
   | exact ih4 _ _ _ _ _ _
   | exact ih5 _ _ _ _ _ _ _ _
   | exact ih6 _ _ _ _ _ _ _
   | exact estoverslaw20_awake.mono _
   | exact estoversref19_Check.mono _ _
   | exact estoversref19_Inside.mono _ _ _ _
   | exact estoversref19_Own.mono _ _ _
   | exact protection_Guarded.mono _ _ _ _ _ _
   | exact protection_Inside.mono _ _ _
   | exact protection_Open.mono _ _ _ _
   | exact protection_Overcommit.mono _ _ _
   | refine LeO.ite ?_ ?_
   | refine LeO.bind ?_ (fun _ => ?_)
  ·
   intro y0 y1 y2 y3 y4 y5 y6
   unfold estoverslaw20_ProtectionOpens.j6
   repeat' first
   | (with_reducible exact ih0 _ _ _ _)
   | (with_reducible exact ih1 _ _ _ _ _)
   | (with_reducible exact ih2 _ _ _ _ _ _)
   | (with_reducible exact ih3 _ _ _ _)
   | (with_reducible exact ih4 _ _ _ _ _ _)
   | (with_reducible exact ih5 _ _ _ _ _ _ _ _)
   | (with_reducible exact ih6 _ _ _ _ _ _ _)
   | (with_reducible exact estoverslaw20_awake.mono _)
   | (with_reducible exact estoversref19_Check.mono _ _)
   | (with_reducible exact estoversref19_Inside.mono _ _ _ _)
   | (with_reducible exact estoversref19_Own.mono _ _ _)
   | (with_reducible exact protection_Guarded.mono _ _ _ _ _ _)
   | (with_reducible exact protection_Inside.mono _ _ _)
   | (with_reducible exact protection_Open.mono _ _ _ _)
   | (with_reducible exact protection_Overcommit.mono _ _ _)
   | (with_reducible exact LeO.refl _)
   | (with_reducible exact LeO.none _)
   | (with_reducible refine LeO.ite ?_ ?_)
   | (with_reducible refine LeO.bind ?_ (fun _ => ?_))
   | exact ih0 _ _ _ _
   | exact ih1 _ _ _ _ _
   | exact ih2 _ _ _ _ _ _
   | exact ih3 _ _ _ _
   | exact ih4 _ _ _ _ _ _
   | exact ih5 _ _ _ _ _ _ _ _
   | exact ih6 _ _ _ _ _ _ _
   | exact estoverslaw20_awake.mono _
   | exact estoversref19_Check.mono _ _
   | exact estoversref19_Inside.mono _ _ _ _
   | exact estoversref19_Own.mono _ _ _
   | exact protection_Guarded.mono _ _ _ _ _ _
   | exact protection_Inside.mono _ _ _
   | exact protection_Open.mono _ _ _ _
   | exact protection_Overcommit.mono _ _ _
   | refine LeO.ite ?_ ?_
   | refine LeO.bind ?_ (fun _ => ?_)
theorem estoverslaw20_ProtectionOpens.mono : ∀ a0 a1 a2 k, LeO (estoverslaw20_ProtectionOpens.f k a0 a1 a2) (estoverslaw20_ProtectionOpens.f (k + 1) a0 a1 a2) := by
 intro a0 a1 a2 k; obtain ⟨ih0, ih1, ih2, ih3, ih4, ih5, ih6⟩ := estoverslaw20_ProtectionOpens.mono_l k
 unfold estoverslaw20_ProtectionOpens.f
 repeat' first
  | (with_reducible exact ih0 _ _ _ _)
  | (with_reducible exact ih1 _ _ _ _ _)
  | (with_reducible exact ih2 _ _ _ _ _ _)
  | (with_reducible exact ih3 _ _ _ _)
  | (with_reducible exact ih4 _ _ _ _ _ _)
  | (with_reducible exact ih5 _ _ _ _ _ _ _ _)
  | (with_reducible exact ih6 _ _ _ _ _ _ _)
  | (with_reducible exact estoverslaw20_awake.mono _)
  | (with_reducible exact estoversref19_Check.mono _ _)
  | (with_reducible exact estoversref19_Inside.mono _ _ _ _)
  | (with_reducible exact estoversref19_Own.mono _ _ _)
  | (with_reducible exact protection_Guarded.mono _ _ _ _ _ _)
  | (with_reducible exact protection_Inside.mono _ _ _)
  | (with_reducible exact protection_Open.mono _ _ _ _)
  | (with_reducible exact protection_Overcommit.mono _ _ _)
  | (with_reducible exact LeO.refl _)
  | (with_reducible exact LeO.none _)
  | (with_reducible refine LeO.ite ?_ ?_)
  | (with_reducible refine LeO.bind ?_ (fun _ => ?_))
  | exact ih0 _ _ _ _
  | exact ih1 _ _ _ _ _
  | exact ih2 _ _ _ _ _ _
  | exact ih3 _ _ _ _
  | exact ih4 _ _ _ _ _ _
  | exact ih5 _ _ _ _ _ _ _ _
  | exact ih6 _ _ _ _ _ _ _
  | exact estoverslaw20_awake.mono _
  | exact estoversref19_Check.mono _ _
  | exact estoversref19_Inside.mono _ _ _ _
  | exact estoversref19_Own.mono _ _ _
  | exact protection_Guarded.mono _ _ _ _ _ _
  | exact protection_Inside.mono _ _ _
  | exact protection_Open.mono _ _ _ _
  | exact protection_Overcommit.mono _ _ _
  | exact LeO.none _
  | refine LeO.ite ?_ ?_
  | refine LeO.bind ?_ (fun _ => ?_)
def estoverslaw20_ProtectionOpens.T6 : Bool × List (List Nat × List Nat) := (true, [([], []), ([], []), ([0, 1], [0, 1]), ([2], [2]), ([3], [3]), ([4], [4]), ([5], [5]), ([5], [5]), ([6, 7, 5], [5, 6, 7]), ([8, 5], [5, 8]), ([5], [5]), ([5], [5]), ([10, 11, 5, 5], [5, 10, 11]), ([9, 12, 5], [5, 9, 12]), ([5, 13], [5, 13])])
def estoverslaw20_ProtectionOpens.B6 : List Nat := [0, 0, 3, 7, 15, 31, 63, 63, 255, 511, 63, 63, 3135, 8191, 16383]
theorem estoverslaw20_ProtectionOpens.tab6 : rtab .any (opsOf Try.f8 6) = estoverslaw20_ProtectionOpens.T6 := by kernel_rfl
theorem estoverslaw20_ProtectionOpens.bits6 : waitsOk estoverslaw20_ProtectionOpens.T6.2 estoverslaw20_ProtectionOpens.B6 = true := by kernel_rfl
def estoverslaw20_ProtectionOpens.T21 : Bool × List (List Nat × List Nat) := (true, [([], []), ([], []), ([0, 1], [0, 1]), ([2], [2]), ([3], [3]), ([], []), ([], []), ([5, 6], [5, 6]), ([7], [7]), ([4, 8], [4, 8]), ([], []), ([9, 10], [9, 10])])
def estoverslaw20_ProtectionOpens.B21 : List Nat := [0, 0, 3, 7, 15, 0, 0, 96, 224, 511, 0, 2047]
theorem estoverslaw20_ProtectionOpens.tab21 : rtab .any (opsOf Try.f8 21) = estoverslaw20_ProtectionOpens.T21 := by kernel_rfl
theorem estoverslaw20_ProtectionOpens.bits21 : waitsOk estoverslaw20_ProtectionOpens.T21.2 estoverslaw20_ProtectionOpens.B21 = true := by kernel_rfl
def estoverslaw20_ProtectionOpens.T23 : Bool × List (List Nat × List Nat) := (true, [([], []), ([0], [0]), ([1], [1]), ([2], [2]), ([2], [2]), ([4, 2], [2, 4]), ([3, 5, 2], [2, 3, 5]), ([2, 6], [2, 6]), ([7, 2], [7]), ([8], [8]), ([8], [8]), ([8], [8]), ([9, 10, 11, 8, 8], [8, 9, 10, 11]), ([12, 8], [8, 12]), ([8, 13], [8, 13]), ([14, 12], [14]), ([15], [15]), ([15], [15]), ([16, 17, 15, 15], [15, 16, 17]), ([15], [15]), ([15], [15]), ([19, 20, 15], [15, 19, 20]), ([21, 15], [15, 21]), ([18, 22, 15], [15, 18, 22]), ([15, 23], [15, 23]), ([24, 18], [24]), ([25], [25]), ([25], [25]), ([25], [25]), ([25], [25]), ([26, 27, 28, 29, 25, 25], [25, 26, 27, 28, 29]), ([25, 30], [25, 30])])
def estoverslaw20_ProtectionOpens.B23 : List Nat := [0, 1, 3, 7, 7, 23, 63, 127, 255, 511, 511, 511, 4095, 8191, 16383, 32767, 65535, 65535, 262143, 65535, 65535, 1638399, 3735551, 8388607, 16777215, 33554431, 67108863, 67108863, 67108863, 67108863, 1073741823, 2147483647]
theorem estoverslaw20_ProtectionOpens.tab23 : rtab .any (opsOf Try.f8 23) = estoverslaw20_ProtectionOpens.T23 := by kernel_rfl
theorem estoverslaw20_ProtectionOpens.bits23 : waitsOk estoverslaw20_ProtectionOpens.T23.2 estoverslaw20_ProtectionOpens.B23 = true := by kernel_rfl
set_option maxHeartbeats 8000000 in
set_option maxRecDepth 100000 in
theorem estoverslaw20_ProtectionOpens.calls (k : Nat) (A0 : Option Addr) (c0 : Nat) (l0 : List (S41)) (A1 : Option Addr) (c1 : Nat) (l1 : List Int) (a2 : Int) (r : Bool) (w : World) (hr0 : Kd.C k41 w A0 l0.length l0) (hc0 : l0.length ≤ c0) (hr1 : Kd.C (Kd.int .i64) w A1 l1.length l1) (hc1 : l1.length ≤ c1) (h : estoverslaw20_ProtectionOpens.f k l0 l1 a2 = some r) :
 Calls Try.prog 8 #[.slice A0 l0.length c0, .slice A1 l1.length c1, .int .i64 a2] w fun e w' => e = .returned (.bool r) ∧ Below w.heap.size w w' := by
 have HR0 := Aside0.mk hr0; have HC0 := Aside0.mk hc0; clear hr0 hc0; have HR1 := Aside0.mk hr1; have HC1 := Aside0.mk hc1; clear hr1 hc1; have HB := Aside0.mk (Below.refl w.heap.size w)
 have H : ((estoverslaw20_awake.f k).bind fun t366 => (if t366 = true then ((estoversref19_Check.f k l0).bind fun t367 => (if t367 = 0 then (estoverslaw20_ProtectionOpens.j0 k l0 l1 a2 ((l1.length : Int) != (l0.length : Int))) else (estoverslaw20_ProtectionOpens.j0 k l0 l1 a2 true))) else (estoverslaw20_ProtectionOpens.j0 k l0 l1 a2 true))) = some r := h; clear h; have HC4 := Aside0.mk H; clear H
 go_enter Try.func8, Try.ntmps8
 go_upto_region 1 with (fail)
 go_cut [27] (fun v27 wc => ∃ (kq : Nat) (x27_3 : Bool), v27 = .bool x27_3 ∧ Aside0 (estoverslaw20_ProtectionOpens.j0 kq l0 l1 a2 x27_3 = some r) ∧ Aside0 (kq ≤ k) ∧ Aside0 (Below w.heap.size w wc))
 case first =>
  have H := HC4.out; clear HC4; replace H := Option.bind_eq_some_iff.mp H; obtain ⟨t366, A50, H⟩ := H
  replace H : (if t366 = true then ((estoversref19_Check.f k l0).bind fun t367 => (if t367 = 0 then (estoverslaw20_ProtectionOpens.j0 k l0 l1 a2 ((l1.length : Int) != (l0.length : Int))) else (estoverslaw20_ProtectionOpens.j0 k l0 l1 a2 true))) else (estoverslaw20_ProtectionOpens.j0 k l0 l1 a2 true)) = some r := H; have A5 := Aside0.mk A50; clear A50; by_cases c6 : t366 = true
  rotate_left
  ·
   replace c6 := Bool.eq_false_iff.mpr c6; subst c6
   have H1 : (estoverslaw20_ProtectionOpens.j0 k l0 l1 a2 true) = some r := by rw [if_neg (show ¬ (false = true) by decide)] at H; exact H
   clear H; have H := H1; clear H1; have H' := Aside0.mk H; clear H
   go_wp2_with (first | ((with_reducible refine gate_callee (f := 11) rfl ?_); refine goesL_ (some 14) rfl rfl Try.func11 (by kernel_rfl) rfl #[] rfl (by (try simp only [List.map_toArray, List.map_cons, List.map_nil]); first | done | rfl | (simp only [List.length_drop, List.length_take]; rfl)) ?_; (with_reducible refine (estoverslaw20_awake.calls k  false _ A5.out).mono ?_); rintro e w11 ⟨rfl, hb⟩; refine ⟨_, rfl, ?_⟩; have n0_ := Aside0.mk (below_step (by repeat (first | (with_reducible first | exact HB.out | apply below_alloc | apply pw_below_drewN | apply below_drew1) | exact HB.out)) hb); clear HB; have HB := n0_; clear n0_; (try clear hb); (try clear hb2); (try clear hk); (try clear hi)))
   go_meet
   case rel => exact ⟨_, (true), (by first | rfl | (simp; done) | (simp [*]; done)), H', ⟨by first | omega | exact Nat.le_refl _⟩, ⟨by repeat (first | (with_reducible first | exact HB.out | apply below_alloc | apply pw_below_drewN | apply below_drew1) | exact HB.out)⟩⟩
  subst c6
  have H1 : ((estoversref19_Check.f k l0).bind fun t367 => (if t367 = 0 then (estoverslaw20_ProtectionOpens.j0 k l0 l1 a2 ((l1.length : Int) != (l0.length : Int))) else (estoverslaw20_ProtectionOpens.j0 k l0 l1 a2 true))) = some r := by rw [if_pos rfl] at H; exact H
  clear H; have H := H1; clear H1; replace H := Option.bind_eq_some_iff.mp H; obtain ⟨t367, A70, H⟩ := H; replace H : (if t367 = 0 then (estoverslaw20_ProtectionOpens.j0 k l0 l1 a2 ((l1.length : Int) != (l0.length : Int))) else (estoverslaw20_ProtectionOpens.j0 k l0 l1 a2 true)) = some r := H; have A7 := Aside0.mk A70; clear A70; by_cases c8 : t367 = 0
  rotate_left
  ·
   rw [if_neg c8] at H; have c8b0 : (t367 == 0) = false := beq_eq_false_iff_ne.mpr c8; have c8b1 : (t367 != 0) = true := bne_iff_ne.mpr c8
   (first | rw [c8b0] | (simp only [i64_w, i32_w]; rw [c8b0]) | skip)
   have H' := Aside0.mk H; clear H
   go_wp2_with (first | ((with_reducible refine gate_callee (f := 11) rfl ?_); refine goesL_ (some 14) rfl rfl Try.func11 (by kernel_rfl) rfl #[] rfl (by (try simp only [List.map_toArray, List.map_cons, List.map_nil]); first | done | rfl | (simp only [List.length_drop, List.length_take]; rfl)) ?_; (with_reducible refine (estoverslaw20_awake.calls k  true _ A5.out).mono ?_); rintro e w10 ⟨rfl, hb⟩; refine ⟨_, rfl, ?_⟩; have n0_ := Aside0.mk (below_step (by repeat (first | (with_reducible first | exact HB.out | apply below_alloc | apply pw_below_drewN | apply below_drew1) | exact HB.out)) hb); clear HB; have HB := n0_; clear n0_; (try clear hb); (try clear hb2); (try clear hk); (try clear hi)) | (go_at_call 24; (with_reducible refine (estoversref19_Check.calls k _ _ l0 t367 _ ?side1 ?side2 A7.out).mono ?_); (case side1 => repeat (first | exact (Kd.C_below HR0.out HB.out) | (with_reducible refine Kd.C_alloc ?_ _) | (with_reducible refine Kd.C_drewN ?_ _) | (with_reducible refine Kd.C_drew ?_))); (case side2 => exact HC0.out); rintro e w' ⟨rfl, ⟨nd, rfl⟩⟩))
   go_meet
   case rel => exact ⟨_, (true), (by first | rfl | (simp; done) | (simp [*]; done)), H', ⟨by first | omega | exact Nat.le_refl _⟩, ⟨by repeat (first | (with_reducible first | exact HB.out | apply below_alloc | apply pw_below_drewN | apply below_drew1) | exact HB.out)⟩⟩
  rw [if_pos c8] at H; have c8b0 : (t367 == 0) = true := beq_iff_eq.mpr c8; have c8b1 : (t367 != 0) = false := bne_eq_false_iff_eq.mpr c8; clear c8
  (first | rw [c8b0] | (simp only [i64_w, i32_w]; rw [c8b0]) | skip)
  have H' := Aside0.mk H; clear H
  go_wp2_with (first | ((with_reducible refine gate_callee (f := 11) rfl ?_); refine goesL_ (some 14) rfl rfl Try.func11 (by kernel_rfl) rfl #[] rfl (by (try simp only [List.map_toArray, List.map_cons, List.map_nil]); first | done | rfl | (simp only [List.length_drop, List.length_take]; rfl)) ?_; (with_reducible refine (estoverslaw20_awake.calls k  true _ A5.out).mono ?_); rintro e w9 ⟨rfl, hb⟩; refine ⟨_, rfl, ?_⟩; have n0_ := Aside0.mk (below_step (by repeat (first | (with_reducible first | exact HB.out | apply below_alloc | apply pw_below_drewN | apply below_drew1) | exact HB.out)) hb); clear HB; have HB := n0_; clear n0_; (try clear hb); (try clear hb2); (try clear hk); (try clear hi)) | (go_at_call 24; (with_reducible refine (estoversref19_Check.calls k _ _ l0 t367 _ ?side1 ?side2 A7.out).mono ?_); (case side1 => repeat (first | exact (Kd.C_below HR0.out HB.out) | (with_reducible refine Kd.C_alloc ?_ _) | (with_reducible refine Kd.C_drewN ?_ _) | (with_reducible refine Kd.C_drew ?_))); (case side2 => exact HC0.out); rintro e w' ⟨rfl, ⟨nd, rfl⟩⟩))
  go_meet
  case rel => exact ⟨_, (((l1.length : Int) != (l0.length : Int))), (by first | rfl | (simp; done) | (simp [*]; done)), H', ⟨by first | omega | exact Nat.le_refl _⟩, ⟨by repeat (first | (with_reducible first | exact HB.out | apply below_alloc | apply pw_below_drewN | apply below_drew1) | exact HB.out)⟩⟩
 case rest =>
  clear HC4
  try clear c1
  try clear p2
  try clear c6
  try clear c8
  try clear c8b0
  try clear c8b1
  try clear c11
  obtain ⟨kq, x27_3, rfl, HA, HJ3, HB⟩ := hcut
  cases kq with
  | zero => exact absurd HA.out (by simp [estoverslaw20_ProtectionOpens.j0])
  | succ kj3 =>
   have H := HA.out; clear HA; simp only [estoverslaw20_ProtectionOpens.j0] at H; by_cases c12 : x27_3 = true
   rotate_left
   ·
    replace c12 := Bool.eq_false_iff.mpr c12; subst c12
    have H1 : (estoverslaw20_ProtectionOpens.l0 kj3 l0 l1 a2 (l1.length : Int) 0) = some r := by rw [if_neg (show ¬ (false = true) by decide)] at H; exact H
    clear H; have H := H1; clear H1; have H' := Aside0.mk H; clear H; go_wp2
    go_loopg [31] kj3 (fun kq v31 w' => ∃ (x31_2 : Int), v31 = .int .i64 x31_2 ∧ Aside0 (estoverslaw20_ProtectionOpens.l0 kq l0 l1 a2 (l1.length : Int) x31_2 = some r) ∧ Aside0 (kq ≤ kj3) ∧ Aside0 (Below w.heap.size w w'))
    case atStart => exact ⟨(0), (by first | rfl | (simp; done) | (simp [*]; done)), H', ⟨Nat.le_refl _⟩, ⟨by repeat (first | (with_reducible first | exact HB.out | apply below_alloc | apply pw_below_drewN | apply below_drew1) | exact HB.out)⟩⟩
    case round =>
     clear H'
     try clear c1
     try clear p2
     try clear c6
     try clear c8
     try clear c8b0
     try clear c8b1
     try clear c11
     try clear c12
     try clear p2
     obtain ⟨x31_2, rfl, HA, HK2, HB⟩ := hrel
     cases gk with
     | zero => exact absurd HA.out (by simp [estoverslaw20_ProtectionOpens.l0])
     | succ k2 =>
      have H := HA.out; clear HA; simp only [estoverslaw20_ProtectionOpens.l0] at H; by_cases c15 : x31_2 < (l1.length : Int)
      rotate_left
      ·
       rw [if_neg c15] at H; have c15b0 : decide (x31_2 < (l1.length : Int)) = false := decide_eq_false c15; clear c15; replace H := Option.bind_eq_some_iff.mp H; obtain ⟨⟨t372, t373⟩, A240, H⟩ := H; replace H : (if t373 = 0 then (estoverslaw20_ProtectionOpens.j3 k2 l0 l1 a2 (t372 != (-1))) else (estoverslaw20_ProtectionOpens.j3 k2 l0 l1 a2 true)) = some r := H; have A24 := Aside0.mk A240; clear A240
       have HC25 := Aside0.mk H; clear H
       go_upto_region 10 with (first | ((with_reducible refine gate_callee (f := 18) rfl ?_); refine goesL_ (some 53) rfl rfl Try.func18 (by kernel_rfl) rfl #[.slice A0 l0.length c0, .int .i64 a2] rfl (by (try simp only [List.map_toArray, List.map_cons, List.map_nil]); first | done | rfl | (simp only [List.length_drop, List.length_take]; rfl)) ?_; (with_reducible refine (protection_Overcommit.calls k2 _ _ l0 a2 t372 t373 _ ?side1 ?side2 A24.out).mono ?_); (case side1 => repeat (first | exact (Kd.C_below HR0.out HB.out) | (with_reducible refine Kd.C_alloc ?_ _) | (with_reducible refine Kd.C_drewN ?_ _) | (with_reducible refine Kd.C_drew ?_))); (case side2 => exact HC0.out); rintro e w26 ⟨rfl, hb⟩; refine ⟨_, rfl, ?_⟩; have n0_ := Aside0.mk (below_step (by repeat (first | (with_reducible first | exact HB.out | apply below_alloc | apply pw_below_drewN | apply below_drew1) | exact HB.out)) hb); clear HB; have HB := n0_; clear n0_; (try clear hb); (try clear hb2); (try clear hk); (try clear hi)))
       (try simp only [Act.put, List.setIfInBounds_toArray, List.set_cons_zero, List.set_cons_succ])
       go_cut [61] (fun v61 wc => ∃ (kq : Nat) (x61_24 : Bool), v61 = .bool x61_24 ∧ Aside0 (estoverslaw20_ProtectionOpens.j3 kq l0 l1 a2 x61_24 = some r) ∧ Aside0 (kq ≤ k2) ∧ Aside0 (Below w.heap.size w wc))
       case first =>
        have H := HC25.out; clear HC25; by_cases c27 : t373 = 0
        rotate_left
        ·
         rw [if_neg c27] at H; have c27b0 : (t373 == 0) = false := beq_eq_false_iff_ne.mpr c27; have c27b1 : (t373 != 0) = true := bne_iff_ne.mpr c27
         (first | rw [c27b0] | (simp only [i64_w, i32_w]; rw [c27b0]) | skip)
         have H' := Aside0.mk H; clear H; go_wp2
         go_meet
         case rel => exact ⟨_, (true), (by first | rfl | (simp; done) | (simp [*]; done)), H', ⟨by have := HJ3.out; have := HK2.out; first | omega | exact Nat.le_refl _⟩, ⟨by repeat (first | (with_reducible first | exact HB.out | apply below_alloc | apply pw_below_drewN | apply below_drew1) | exact HB.out)⟩⟩
        rw [if_pos c27] at H; have c27b0 : (t373 == 0) = true := beq_iff_eq.mpr c27; have c27b1 : (t373 != 0) = false := bne_eq_false_iff_eq.mpr c27; clear c27
        (first | rw [c27b0] | (simp only [i64_w, i32_w]; rw [c27b0]) | skip)
        have H' := Aside0.mk H; clear H; go_wp2
        go_meet
        case rel => exact ⟨_, ((t372 != (-1))), (by first | rfl | (simp; done) | (simp [*]; done)), H', ⟨by have := HJ3.out; have := HK2.out; first | omega | exact Nat.le_refl _⟩, ⟨by repeat (first | (with_reducible first | exact HB.out | apply below_alloc | apply pw_below_drewN | apply below_drew1) | exact HB.out)⟩⟩
       case rest =>
        clear HC25
        try clear c1
        try clear c2
        try clear p2
        try clear p3
        try clear q3
        try clear hx3
        try clear c6
        try clear p6
        try clear c8
        try clear c8b0
        try clear c8b1
        try clear c11
        try clear c12
        try clear c15
        try clear c15b0
        try clear c17
        try clear c17b0
        try clear c18
        try clear c18b0
        try clear c19
        try clear c19b0
        try clear c23
        try clear c25
        try clear c27
        try clear c27b0
        try clear c27b1
        try clear hx369_0
        try clear hx370_0
        try clear p2
        try clear p3
        try clear p369
        try clear p370
        try clear q3
        try clear q369
        try clear q370
        obtain ⟨kq, x61_24, rfl, HA, HJ24, HB⟩ := hcut
        cases kq with
        | zero => exact absurd HA.out (by simp [estoverslaw20_ProtectionOpens.j3])
        | succ kj24 =>
         have H := HA.out; clear HA; simp only [estoverslaw20_ProtectionOpens.j3] at H; by_cases c28 : x61_24 = true
         rotate_left
         ·
          replace c28 := Bool.eq_false_iff.mpr c28; subst c28
          have H1 : ((protection_Inside.f kj24 l0 l1).bind fun t374 => (if (t374.length : Int) = (l0.length : Int) then (estoverslaw20_ProtectionOpens.l1 kj24 l0 l1 a2 t374 (l0.length : Int) 0) else (some false))) = some r := by rw [if_neg (show ¬ (false = true) by decide)] at H; exact H
          clear H; have H := H1; clear H1; replace H := Option.bind_eq_some_iff.mp H; obtain ⟨t374, A290, H⟩ := H; replace H : (if (t374.length : Int) = (l0.length : Int) then (estoverslaw20_ProtectionOpens.l1 kj24 l0 l1 a2 t374 (l0.length : Int) 0) else (some false)) = some r := H; have A29 := Aside0.mk A290; clear A290; by_cases c30 : (t374.length : Int) = (l0.length : Int)
          rotate_left
          ·
           rw [if_neg c30] at H; have c30b0 : ((t374.length : Int) == (l0.length : Int)) = false := beq_eq_false_iff_ne.mpr c30; have c30b1 : ((t374.length : Int) != (l0.length : Int)) = true := bne_iff_ne.mpr c30
           have c30b2 : (t374.length == l0.length) = false := by first | simpa using c30 | (simp at c30 ⊢; omega)
           obtain rfl := Option.some.inj H
           go_wp2_with (first | ((with_reducible refine gate_callee (f := 20) rfl ?_); refine goesL_ (some 64) rfl rfl Try.func20 (by kernel_rfl) rfl #[.slice A0 l0.length c0, .slice A1 l1.length c1] rfl (by (try simp only [List.map_toArray, List.map_cons, List.map_nil]); first | done | rfl | (simp only [List.length_drop, List.length_take]; rfl)) ?_; (with_reducible refine (protection_Inside.calls kj24 _ _ l0 _ _ l1 t374 _ ?side1 ?side2 ?side3 ?side4 A29.out).mono ?_); (case side1 => repeat (first | exact (Kd.C_below HR0.out HB.out) | (with_reducible refine Kd.C_alloc ?_ _) | (with_reducible refine Kd.C_drewN ?_ _) | (with_reducible refine Kd.C_drew ?_))); (case side2 => exact HC0.out); (case side3 => repeat (first | exact (Kd.C_below HR1.out HB.out) | (with_reducible refine Kd.C_alloc ?_ _) | (with_reducible refine Kd.C_drewN ?_ _) | (with_reducible refine Kd.C_drew ?_))); (case side4 => exact HC1.out); rintro e w66 ⟨v375, rfl, ho0, hb⟩; refine ⟨_, rfl, ?_⟩; have n0_ := Aside0.mk (Kd.R_lower ho0 (below_size (by repeat (first | (with_reducible first | exact HB.out | apply below_alloc | apply pw_below_drewN | apply below_drew1) | exact HB.out)))); have n1_ := Aside0.mk (below_step (by repeat (first | (with_reducible first | exact HB.out | apply below_alloc | apply pw_below_drewN | apply below_drew1) | exact HB.out)) hb); clear HB; have HO376 := n0_; have HB := n1_; clear n0_ n1_; (try clear hb); (try clear hb2); (try clear hk); (try clear hi); (try clear ho0); obtain ⟨Ao67, co67, eo67⟩ := Kd.R_slice HO376.out; subst eo67))
           go_ret; exact ⟨by first | rfl | (simp [errW_none, errW_some] <;> rfl) | (simp [*, errW_none, errW_some] <;> rfl), by repeat (first | (with_reducible first | exact HB.out | apply below_alloc | apply pw_below_drewN | apply below_drew1) | exact HB.out)⟩
          rw [if_pos c30] at H; have c30b0 : ((t374.length : Int) == (l0.length : Int)) = true := beq_iff_eq.mpr c30; have c30b1 : ((t374.length : Int) != (l0.length : Int)) = false := bne_eq_false_iff_eq.mpr c30
          have c30b2 : (t374.length == l0.length) = true := by first | simpa using c30 | (simp at c30 ⊢; omega)
          clear c30; have H' := Aside0.mk H; clear H
          go_wp2_with (first | ((with_reducible refine gate_callee (f := 20) rfl ?_); refine goesL_ (some 64) rfl rfl Try.func20 (by kernel_rfl) rfl #[.slice A0 l0.length c0, .slice A1 l1.length c1] rfl (by (try simp only [List.map_toArray, List.map_cons, List.map_nil]); first | done | rfl | (simp only [List.length_drop, List.length_take]; rfl)) ?_; (with_reducible refine (protection_Inside.calls kj24 _ _ l0 _ _ l1 t374 _ ?side1 ?side2 ?side3 ?side4 A29.out).mono ?_); (case side1 => repeat (first | exact (Kd.C_below HR0.out HB.out) | (with_reducible refine Kd.C_alloc ?_ _) | (with_reducible refine Kd.C_drewN ?_ _) | (with_reducible refine Kd.C_drew ?_))); (case side2 => exact HC0.out); (case side3 => repeat (first | exact (Kd.C_below HR1.out HB.out) | (with_reducible refine Kd.C_alloc ?_ _) | (with_reducible refine Kd.C_drewN ?_ _) | (with_reducible refine Kd.C_drew ?_))); (case side4 => exact HC1.out); rintro e w31 ⟨v375, rfl, ho0, hb⟩; refine ⟨_, rfl, ?_⟩; have n0_ := Aside0.mk (Kd.R_lower ho0 (below_size (by repeat (first | (with_reducible first | exact HB.out | apply below_alloc | apply pw_below_drewN | apply below_drew1) | exact HB.out)))); have n1_ := Aside0.mk (below_step (by repeat (first | (with_reducible first | exact HB.out | apply below_alloc | apply pw_below_drewN | apply below_drew1) | exact HB.out)) hb); clear HB; have HO376 := n0_; have HB := n1_; clear n0_ n1_; (try clear hb); (try clear hb2); (try clear hk); (try clear hi); (try clear ho0); obtain ⟨Ao32, co32, eo32⟩ := Kd.R_slice HO376.out; subst eo32))
          go_loopg [72] kj24 (fun kq v72 w' => ∃ (x72_4 : Int), v72 = .int .i64 x72_4 ∧ Aside0 (estoverslaw20_ProtectionOpens.l1 kq l0 l1 a2 t374 (l0.length : Int) x72_4 = some r) ∧ Aside0 (kq ≤ kj24) ∧ Aside0 (Kd.R (Kd.int .i64) 3 w' w.heap.size (fun _ => True) (.slice Ao32 t374.length co32) t374) ∧ Aside0 (Below w.heap.size w w'))
          case atStart => exact ⟨(0), (by first | rfl | (simp; done) | (simp [*]; done)), H', ⟨Nat.le_refl _⟩, ⟨by (with_reducible repeat (first | apply Kd.R_alloc | apply Kd.R_drewN | apply Kd.R_drew)); exact HO376.out⟩, ⟨by repeat (first | (with_reducible first | exact HB.out | apply below_alloc | apply pw_below_drewN | apply below_drew1) | exact HB.out)⟩⟩
          case round =>
           clear H'
           try clear c1
           try clear c2
           try clear p2
           try clear c3
           try clear p3
           try clear q3
           try clear hx3
           try clear c6
           try clear p6
           try clear c8
           try clear c8b0
           try clear c8b1
           try clear c11
           try clear c12
           try clear c15
           try clear c15b0
           try clear c17
           try clear c17b0
           try clear c18
           try clear c18b0
           try clear c19
           try clear c19b0
           try clear c20
           try clear c23
           try clear c25
           try clear c27
           try clear c27b0
           try clear c27b1
           try clear c28
           try clear c30
           try clear c30b0
           try clear c30b1
           try clear c30b2
           try clear hx369_0
           try clear hx370_0
           try clear p2
           try clear p3
           try clear p369
           try clear p370
           try clear p6
           try clear q3
           try clear q369
           try clear q370
           obtain ⟨x72_4, rfl, HA, HK4, HO_10, HB⟩ := hrel
           cases gk with
           | zero => exact absurd HA.out (by simp [estoverslaw20_ProtectionOpens.l1])
           | succ k4 =>
            have H := HA.out; clear HA; simp only [estoverslaw20_ProtectionOpens.l1] at H; by_cases c33 : x72_4 < (l0.length : Int)
            rotate_left
            ·
             rw [if_neg c33] at H; have c33b0 : decide (x72_4 < (l0.length : Int)) = false := decide_eq_false c33; clear c33; obtain rfl := Option.some.inj H; go_wp2; go_ret
             exact ⟨by first | rfl | (simp [errW_none, errW_some] <;> rfl) | (simp [*, errW_none, errW_some] <;> rfl), by repeat (first | (with_reducible first | exact HB.out | apply below_alloc | apply pw_below_drewN | apply below_drew1) | exact HB.out)⟩
            rw [if_pos c33] at H; have c33b0 : decide (x72_4 < (l0.length : Int)) = true := decide_eq_true c33; clear c33; by_cases c34 : 0 ≤ x72_4
            rotate_left
            · rw [if_neg c34] at H; exact absurd H (by simp)
            rw [if_pos c34] at H; have c34b0 : decide (0 ≤ x72_4) = true := decide_eq_true c34; clear c34; by_cases c35 : x72_4 < (l0.length : Int)
            rotate_left
            · rw [if_neg c35] at H; exact absurd H (by simp)
            rw [if_pos c35] at H; have c35b0 : decide (x72_4 < (l0.length : Int)) = true := decide_eq_true c35; clear c35; have HC36 := Aside0.mk H; clear H; have p377 : 0 ≤ (x72_4 : Int) := of_decide_eq_true (by first | (with_reducible assumption) | assumption); have q377 : x72_4 < (l0.length : Int) := of_decide_eq_true (by first | (with_reducible assumption) | assumption)
            obtain ⟨ad377, e377, hx377_0, hx377_1, hx377_2, hx377_3, hx377_4⟩ := at_T41 HR0.out x72_4 p377 q377; cases e377; replace hx377_0 := (HB.out.cell (World.block_lt_of_cell? w _ hx377_0)).trans hx377_0; replace hx377_1 := (HB.out.cell (World.block_lt_of_cell? w _ hx377_1)).trans hx377_1; replace hx377_2 := (HB.out.cell (World.block_lt_of_cell? w _ hx377_2)).trans hx377_2
            replace hx377_3 := (HB.out.cell (World.block_lt_of_cell? w _ hx377_3)).trans hx377_3; replace hx377_4 := (HB.out.cell (World.block_lt_of_cell? w _ hx377_4)).trans hx377_4; replace p377 := eq_true p377; replace q377 := eq_true q377
            go_upto_if 81 with (fail)
            go_cut [12] (fun v12 wc => ∃ (kq : Nat) (x12_35 : Int), v12 = .int .i64 x12_35 ∧ Aside0 (estoverslaw20_ProtectionOpens.j5 kq l0 l1 a2 t374 x72_4 x12_35 (l0.length : Int) x72_4 = some r) ∧ Aside0 (kq ≤ k4) ∧ Aside0 (Kd.R (Kd.int .i64) 3 wc w.heap.size (fun _ => True) (.slice Ao32 t374.length co32) t374) ∧ Aside0 (Below w.heap.size w wc))
            case first =>
             have H := HC36.out; clear HC36; by_cases c37 : x72_4 = 0
             rotate_left
             ·
              rw [if_neg c37] at H; have c37b0 : (x72_4 == 0) = false := beq_eq_false_iff_ne.mpr c37; have c37b1 : (x72_4 != 0) = true := bne_iff_ne.mpr c37
              (first | rw [c37b0] | (simp only [i64_w, i32_w]; rw [c37b0]) | skip)
              have H' := Aside0.mk H; clear H; go_wp2
              go_meet
              case rel => exact ⟨_, ((rd_T41 l0 x72_4).f2), (by first | rfl | (simp; done) | (simp [*]; done)), H', ⟨by have := HJ3.out; have := HK2.out; have := HJ24.out; have := HK4.out; first | omega | exact Nat.le_refl _⟩, ⟨by (with_reducible repeat (first | apply Kd.R_alloc | apply Kd.R_drewN | apply Kd.R_drew)); exact HO_10.out⟩, ⟨by repeat (first | (with_reducible first | exact HB.out | apply below_alloc | apply pw_below_drewN | apply below_drew1) | exact HB.out)⟩⟩
             rw [if_pos c37] at H; have c37b0 : (x72_4 == 0) = true := beq_iff_eq.mpr c37; have c37b1 : (x72_4 != 0) = false := bne_eq_false_iff_eq.mpr c37; clear c37
             (first | rw [c37b0] | (simp only [i64_w, i32_w]; rw [c37b0]) | skip)
             have H' := Aside0.mk H; clear H; go_wp2
             go_meet
             case rel => exact ⟨_, (a2), (by first | rfl | (simp; done) | (simp [*]; done)), H', ⟨by have := HJ3.out; have := HK2.out; have := HJ24.out; have := HK4.out; first | omega | exact Nat.le_refl _⟩, ⟨by (with_reducible repeat (first | apply Kd.R_alloc | apply Kd.R_drewN | apply Kd.R_drew)); exact HO_10.out⟩, ⟨by repeat (first | (with_reducible first | exact HB.out | apply below_alloc | apply pw_below_drewN | apply below_drew1) | exact HB.out)⟩⟩
            case rest =>
             clear HC36
             try clear c1
             try clear c2
             try clear p2
             try clear c3
             try clear p3
             try clear q3
             try clear hx3
             try clear c6
             try clear p6
             try clear c8
             try clear c8b0
             try clear c8b1
             try clear c11
             try clear c12
             try clear c15
             try clear c15b0
             try clear c17
             try clear c17b0
             try clear c18
             try clear c18b0
             try clear c19
             try clear c19b0
             try clear c20
             try clear c23
             try clear c25
             try clear c27
             try clear c27b0
             try clear c27b1
             try clear c28
             try clear c30
             try clear c30b0
             try clear c30b1
             try clear c30b2
             try clear c33
             try clear c33b0
             try clear c34
             try clear c34b0
             try clear c35
             try clear c35b0
             try clear p36
             try clear q36
             try clear hx36
             try clear c37
             try clear c37b0
             try clear c37b1
             try clear p37
             try clear q37
             try clear hx37
             try clear hx369_0
             try clear hx370_0
             try clear hx377_0
             try clear hx377_1
             try clear hx377_2
             try clear hx377_3
             try clear hx377_4
             try clear p2
             try clear p3
             try clear p369
             try clear p370
             try clear p377
             try clear p6
             try clear q3
             try clear q369
             try clear q370
             try clear q377
             obtain ⟨kq, x12_35, rfl, HA, HJ35, HO_10, HB⟩ := hcut
             cases kq with
             | zero => exact absurd HA.out (by simp [estoverslaw20_ProtectionOpens.j5])
             | succ kj35 =>
              have H := HA.out; clear HA; simp only [estoverslaw20_ProtectionOpens.j5] at H; by_cases c38 : 0 ≤ x72_4
              rotate_left
              · rw [if_neg c38] at H; exact absurd H (by simp)
              rw [if_pos c38] at H; have c38b0 : decide (0 ≤ x72_4) = true := decide_eq_true c38; clear c38; by_cases c39 : x72_4 < (l0.length : Int)
              rotate_left
              · rw [if_neg c39] at H; exact absurd H (by simp)
              rw [if_pos c39] at H; have c39b0 : decide (x72_4 < (l0.length : Int)) = true := decide_eq_true c39; clear c39; by_cases c40 : x72_4 < (t374.length : Int)
              rotate_left
              · rw [if_neg c40] at H; exact absurd H (by simp)
              rw [if_pos c40] at H; have c40b0 : decide (x72_4 < (t374.length : Int)) = true := decide_eq_true c40; clear c40; by_cases c41 : (wrap64 (((rd_T41 l0 x72_4).f1) - (rd t374 x72_4))) ≤ x12_35
              rotate_left
              ·
               rw [if_neg c41] at H; have c41b0 : decide ((wrap64 (((rd_T41 l0 x72_4).f1) - (rd t374 x72_4))) ≤ x12_35) = false := decide_eq_false c41; clear c41; replace H := Option.bind_eq_some_iff.mp H; obtain ⟨t380, A430, H⟩ := H
               replace H : (if t380 < 0 then (estoverslaw20_ProtectionOpens.j6 kj35 l0 l1 a2 t374 (l0.length : Int) x72_4 true) else (if t380 ≥ (l0.length : Int) then (estoverslaw20_ProtectionOpens.j6 kj35 l0 l1 a2 t374 (l0.length : Int) x72_4 true) else ((estoversref19_Inside.f kj35 l0 t380 x72_4).bind fun t381 => (if t381 = true then ((estoversref19_Own.f kj35 l0 t380).bind fun t382 => (if 0 ≤ t380 then (if t380 < (l1.length : Int) then (if t382 ≤ (rd l1 t380) then (estoverslaw20_ProtectionOpens.j6 kj35 l0 l1 a2 t374 (l0.length : Int) x72_4 true) else ((protection_Guarded.f kj35 l0 l1 t380 x72_4 false).bind fun t384 => (estoverslaw20_ProtectionOpens.j6 kj35 l0 l1 a2 t374 (l0.length : Int) x72_4 t384))) else (none)) else (none))) else (estoverslaw20_ProtectionOpens.j6 kj35 l0 l1 a2 t374 (l0.length : Int) x72_4 true))))) = some r := H
               have A43 := Aside0.mk A430; clear A430; have HC44 := Aside0.mk H; clear H
               try go_wp2
               have n0_ := Aside0.mk (Kd.R_drew HO_10.out); have n1_ := Aside0.mk (below_drew1 HB.out); clear HO_10; clear HB; have HO_10 := n0_; have HB := n1_; clear n0_ n1_; have p378 : 0 ≤ (x72_4 : Int) := of_decide_eq_true (by first | (with_reducible assumption) | assumption); have q378 : x72_4 < (l0.length : Int) := of_decide_eq_true (by first | (with_reducible assumption) | assumption)
               obtain ⟨ad378, e378, hx378_0, hx378_1, hx378_2, hx378_3, hx378_4⟩ := at_T41 HR0.out x72_4 p378 q378; have hw378_4 := hx378_4; have hw378_3 := hx378_3; have hw378_2 := hx378_2; have hw378_1 := hx378_1; have hw378_0 := hx378_0; obtain rfl : ad377 = ad378 := (by injection e378); replace hx378_0 := (HB.out.cell (World.block_lt_of_cell? w _ hx378_0)).trans hx378_0
               replace hx378_1 := (HB.out.cell (World.block_lt_of_cell? w _ hx378_1)).trans hx378_1; replace hx378_2 := (HB.out.cell (World.block_lt_of_cell? w _ hx378_2)).trans hx378_2; replace hx378_3 := (HB.out.cell (World.block_lt_of_cell? w _ hx378_3)).trans hx378_3; replace hx378_4 := (HB.out.cell (World.block_lt_of_cell? w _ hx378_4)).trans hx378_4; replace p378 := eq_true p378
               replace q378 := eq_true q378; have p379 : 0 ≤ (x72_4 : Int) := of_decide_eq_true (by first | (with_reducible assumption) | assumption); have q379 : x72_4 < (t374.length : Int) := of_decide_eq_true (by first | (with_reducible assumption) | assumption); obtain ⟨ad379, e379, hx379_0⟩ := Kd.at_int (Kd.R_reads' HO_10.out).2.2 x72_4 p379 q379; cases e379; replace p379 := eq_true p379
               replace q379 := eq_true q379
               refine start_ (n := 12) (S := fun w' => w'.cell? (ad377.add ((x72_4).toNat * 5)) = some (.int .i64 ((rd_T41 l0 x72_4).f0)) ∧ w'.cell? ⟨(ad377.add ((x72_4).toNat * 5)).block, (ad377.add ((x72_4).toNat * 5)).off + 1, none⟩ = some (.int .i64 ((rd_T41 l0 x72_4).f1)) ∧ w'.cell? ⟨(ad377.add ((x72_4).toNat * 5)).block, (ad377.add ((x72_4).toNat * 5)).off + 2, none⟩ = some (.int .i64 ((rd_T41 l0 x72_4).f2)) ∧ w'.cell? ⟨(ad377.add ((x72_4).toNat * 5)).block, (ad377.add ((x72_4).toNat * 5)).off + 3, none⟩ = some (.int .i64 ((rd_T41 l0 x72_4).f3)) ∧ w'.cell? ⟨(ad377.add ((x72_4).toNat * 5)).block, (ad377.add ((x72_4).toNat * 5)).off + 4, none⟩ = some (.int .i64 ((rd_T41 l0 x72_4).f4)) ∧ w'.cell? (ad379.add (x72_4).toNat) = some (.int .i64 (rd t374 x72_4))) (ds := []) #[F0,F0,F0,F0,F0,F0,F0,F0,F0,F0,F0,F0] (by kernel_rfl) rfl rfl ⟨((HB.out.cell (World.block_lt_of_cell? w _ hw378_0)).trans hw378_0), ((HB.out.cell (World.block_lt_of_cell? w _ hw378_1)).trans hw378_1), ((HB.out.cell (World.block_lt_of_cell? w _ hw378_2)).trans hw378_2), ((HB.out.cell (World.block_lt_of_cell? w _ hw378_3)).trans hw378_3), ((HB.out.cell (World.block_lt_of_cell? w _ hw378_4)).trans hw378_4), hx379_0⟩ (fun hHeld => ?_); refine with_tabW estoverslaw20_ProtectionOpens.tab21 estoverslaw20_ProtectionOpens.bits21 (fun HT_ HW_ => ?_)
               generalize wc.drew = w45 at HO_10 HB hx378_0 hx378_1 hx378_2 hx378_3 hx378_4 hx379_0 hHeld ⊢; refine pure_ (i := 0) (N := some 83) (v := ?_) (a' := ?_) #[T0,F0,F0,F0,F0,F0,F0,F0,F0,F0,F0,F0] rfl rfl (any_of HT_.out (by kernel_rfl)) (fun _ _ _ h => h) (Or.inl ⟨by rfl, ?_⟩) ?_ ?_
               rotate_left
               · intro w'; go_simp; with_reducible rfl
               rotate_left
               · simp only [Act.put, z0_, z1_, z2_, i64_w, i32_w]; rfl
               refine pure_ (i := 1) (N := some 84) (v := ?_) (a' := ?_) #[T0,T0,F0,F0,F0,F0,F0,F0,F0,F0,F0,F0] rfl rfl (any_of HT_.out (by kernel_rfl)) (fun _ _ _ h => h) (Or.inl ⟨by rfl, ?_⟩) ?_ ?_
               rotate_left
               · intro w'; go_simp; with_reducible rfl
               rotate_left
               · simp only [Act.put, z0_, z1_, z2_, i64_w, i32_w]; rfl
               refine pure_ (i := 2) (N := some 85) (v := ?_) (a' := ?_) #[T0,T0,T0,F0,F0,F0,F0,F0,F0,F0,F0,F0] rfl rfl (any_of HT_.out (by kernel_rfl)) (fun _ _ _ h => h) (Or.inl ⟨by rfl, ?_⟩) ?_ ?_
               rotate_left
               · intro w'; go_simp; with_reducible rfl
               rotate_left
               · simp only [Act.put, z0_, z1_, z2_, i64_w, i32_w]; rfl
               refine pure_ (i := 3) (N := some 86) (v := ?_) (a' := ?_) #[T0,T0,T0,T0,F0,F0,F0,F0,F0,F0,F0,F0] rfl rfl (any_of HT_.out (by kernel_rfl)) (fun _ _ _ h => h) (Or.inl ⟨by rfl, ?_⟩) ?_ ?_
               rotate_left
               · intro w'; go_simp; with_reducible rfl
               rotate_left
               · simp only [Act.put, z0_, z1_, z2_, i64_w, i32_w]; rfl
               refine pure_ (i := 5) (N := some 88) (v := ?_) (a' := ?_) #[T0,T0,T0,T0,F0,T0,F0,F0,F0,F0,F0,F0] rfl rfl (any_of HT_.out (by kernel_rfl)) (fun _ _ _ h => h) (Or.inl ⟨by rfl, ?_⟩) ?_ ?_
               rotate_left
               · intro w'; go_simp; with_reducible rfl
               rotate_left
               · simp only [Act.put, z0_, z1_, z2_, i64_w, i32_w]; rfl
               refine pure_ (i := 6) (N := some 89) (v := ?_) (a' := ?_) #[T0,T0,T0,T0,F0,T0,T0,F0,F0,F0,F0,F0] rfl rfl (any_of HT_.out (by kernel_rfl)) (fun _ _ _ h => h) (Or.inl ⟨by rfl, ?_⟩) ?_ ?_
               rotate_left
               · intro w'; go_simp; with_reducible rfl
               rotate_left
               · simp only [Act.put, z0_, z1_, z2_, i64_w, i32_w]; rfl
               refine pure_ (i := 7) (N := some 90) (v := ?_) (a' := ?_) #[T0,T0,T0,T0,F0,T0,T0,T0,F0,F0,F0,F0] rfl rfl (any_of HT_.out (by kernel_rfl)) (fun _ _ _ h => h) (Or.inl ⟨by rfl, ?_⟩) ?_ ?_
               rotate_left
               · intro w'; go_simp; with_reducible rfl
               rotate_left
               · simp only [Act.put, z0_, z1_, z2_, i64_w, i32_w]; rfl
               refine pure_ (i := 10) (N := some 93) (v := ?_) (a' := ?_) #[T0,T0,T0,T0,F0,T0,T0,T0,F0,F0,T0,F0] rfl rfl (any_of HT_.out (by kernel_rfl)) (fun _ _ _ h => h) (Or.inl ⟨by rfl, ?_⟩) ?_ ?_
               rotate_left
               · intro w'; go_simp; with_reducible rfl
               rotate_left
               · simp only [Act.put, z0_, z1_, z2_, i64_w, i32_w]; rfl
               refine take_ (i := 4) (N := some 87) (v := ?_) (a' := ?_) #[T0,T0,T0,T0,T0,T0,T0,T0,F0,F0,T0,F0] rfl rfl (take_ofW HT_.out HW_.out (by kernel_rfl)) (fun _ _ _ h => h) (Or.inl ⟨by rfl, ?_⟩) hHeld ?_ ?_
               rotate_left
               ·
                rintro w' ⟨s0, s1, s2, s3, s4, s5⟩
                go_simp; with_reducible rfl
               rotate_left
               · simp only [Act.put, z0_, z1_, z2_, i64_w, i32_w]; rfl
               refine take_ (i := 8) (N := some 91) (v := ?_) (a' := ?_) #[T0,T0,T0,T0,T0,T0,T0,T0,T0,F0,T0,F0] rfl rfl (take_ofW HT_.out HW_.out (by kernel_rfl)) (fun _ _ _ h => h) (Or.inl ⟨by rfl, ?_⟩) hHeld ?_ ?_
               rotate_left
               ·
                rintro w' ⟨s0, s1, s2, s3, s4, s5⟩
                go_simp; with_reducible rfl
               rotate_left
               · simp only [Act.put, z0_, z1_, z2_, i64_w, i32_w]; rfl
               refine pure_ (i := 9) (N := some 92) (v := ?_) (a' := ?_) #[T0,T0,T0,T0,T0,T0,T0,T0,T0,T0,T0,F0] rfl rfl (any_of HT_.out (by kernel_rfl)) (fun _ _ _ h => h) (Or.inl ⟨by rfl, ?_⟩) ?_ ?_
               rotate_left
               · intro w'; go_simp; with_reducible rfl
               rotate_left
               · simp only [Act.put, z0_, z1_, z2_, i64_w, i32_w]; rfl
               refine pure_ (i := 11) (N := some 94) (v := ?_) (a' := ?_) #[T0,T0,T0,T0,T0,T0,T0,T0,T0,T0,T0,T0] rfl rfl (any_of HT_.out (by kernel_rfl)) (fun _ _ _ h => h) (Or.inl ⟨by rfl, ?_⟩) ?_ ?_
               rotate_left
               · intro w'; go_simp; with_reducible rfl
               rotate_left
               · simp only [Act.put, z0_, z1_, z2_, i64_w, i32_w]; rfl
               refine done_ (done_of HT_.out (by kernel_rfl)) ?_
               go_upto_region 23 with (first | ((with_reducible refine gate_callee (f := 22) rfl ?_); refine goesL_ (some 98) rfl rfl Try.func22 (by kernel_rfl) rfl #[.slice (some ad377) l0.length c0, .slice A1 l1.length c1, .int .i64 x72_4] rfl (by (try simp only [List.map_toArray, List.map_cons, List.map_nil]); first | done | rfl | (simp only [List.length_drop, List.length_take]; rfl)) ?_; (with_reducible refine (protection_Open.calls kj35 _ _ l0 _ _ l1 x72_4 t380 _ ?side1 ?side2 ?side3 ?side4 A43.out).mono ?_); (case side1 => repeat (first | exact (Kd.C_below HR0.out HB.out) | (with_reducible refine Kd.C_alloc ?_ _) | (with_reducible refine Kd.C_drewN ?_ _) | (with_reducible refine Kd.C_drew ?_))); (case side2 => exact HC0.out); (case side3 => repeat (first | exact (Kd.C_below HR1.out HB.out) | (with_reducible refine Kd.C_alloc ?_ _) | (with_reducible refine Kd.C_drewN ?_ _) | (with_reducible refine Kd.C_drew ?_))); (case side4 => exact HC1.out); rintro e w46 ⟨rfl, hb⟩; refine ⟨_, rfl, ?_⟩; have n0_ := Aside0.mk (Kd.R_below (by (with_reducible repeat (first | apply Kd.R_alloc | apply Kd.R_drewN | apply Kd.R_drew)); exact HO_10.out) hb); have n1_ := Aside0.mk (below_step (by repeat (first | (with_reducible first | exact HB.out | apply below_alloc | apply pw_below_drewN | apply below_drew1) | exact HB.out)) hb); clear HO_10; clear HB; have HO_10 := n0_; have HB := n1_; clear n0_ n1_; (try clear hb); (try clear hb2); (try clear hk); (try clear hi)))
               (try simp only [Act.put, List.setIfInBounds_toArray, List.set_cons_zero, List.set_cons_succ])
               go_cut [130] (fun v130 wc => ∃ (kq : Nat) (x130_43 : Bool), v130 = .bool x130_43 ∧ Aside0 (estoverslaw20_ProtectionOpens.j6 kq l0 l1 a2 t374 (l0.length : Int) x72_4 x130_43 = some r) ∧ Aside0 (kq ≤ kj35) ∧ Aside0 (Kd.R (Kd.int .i64) 3 wc w.heap.size (fun _ => True) (.slice (some ad379) t374.length co32) t374) ∧ Aside0 (Below w.heap.size w wc))
               case first =>
                have H := HC44.out; clear HC44; by_cases c47 : t380 < 0
                rotate_left
                ·
                 rw [if_neg c47] at H; have c47b0 : decide (t380 < 0) = false := decide_eq_false c47; clear c47
                 (first | rw [c47b0] | (simp only [i64_w, i32_w]; rw [c47b0]) | skip)
                 by_cases c49 : t380 ≥ (l0.length : Int)
                 rotate_left
                 ·
                  rw [if_neg c49] at H; have c49b0 : decide ((l0.length : Int) ≤ t380) = false := decide_eq_false c49; clear c49; replace H := Option.bind_eq_some_iff.mp H; obtain ⟨t381, A510, H⟩ := H
                  replace H : (if t381 = true then ((estoversref19_Own.f kj35 l0 t380).bind fun t382 => (if 0 ≤ t380 then (if t380 < (l1.length : Int) then (if t382 ≤ (rd l1 t380) then (estoverslaw20_ProtectionOpens.j6 kj35 l0 l1 a2 t374 (l0.length : Int) x72_4 true) else ((protection_Guarded.f kj35 l0 l1 t380 x72_4 false).bind fun t384 => (estoverslaw20_ProtectionOpens.j6 kj35 l0 l1 a2 t374 (l0.length : Int) x72_4 t384))) else (none)) else (none))) else (estoverslaw20_ProtectionOpens.j6 kj35 l0 l1 a2 t374 (l0.length : Int) x72_4 true)) = some r := H
                  have A51 := Aside0.mk A510; clear A510; by_cases c52 : t381 = true
                  rotate_left
                  ·
                   replace c52 := Bool.eq_false_iff.mpr c52; subst c52
                   have H1 : (estoverslaw20_ProtectionOpens.j6 kj35 l0 l1 a2 t374 (l0.length : Int) x72_4 true) = some r := by rw [if_neg (show ¬ (false = true) by decide)] at H; exact H
                   clear H; have H := H1; clear H1; have H' := Aside0.mk H; clear H
                   try go_wp2
                   have n0_ := Aside0.mk (Kd.R_drew HO_10.out); have n1_ := Aside0.mk (below_drew1 HB.out); clear HO_10; clear HB; have HO_10 := n0_; have HB := n1_; clear n0_ n1_
                   refine start_ (n := 32) (S := fun w' => True) (ds := []) #[F0,F0,F0,F0,F0,F0,F0,F0,F0,F0,F0,F0,F0,F0,F0,F0,F0,F0,F0,F0,F0,F0,F0,F0,F0,F0,F0,F0,F0,F0,F0,F0] (by kernel_rfl) rfl rfl trivial (fun hHeld => ?_); refine with_tabW estoverslaw20_ProtectionOpens.tab23 estoverslaw20_ProtectionOpens.bits23 (fun HT_ HW_ => ?_); generalize w46.drew = w63 at HO_10 HB hHeld ⊢
                   refine pure_ (i := 0) (N := some 99) (v := ?_) (a' := ?_) #[T0,F0,F0,F0,F0,F0,F0,F0,F0,F0,F0,F0,F0,F0,F0,F0,F0,F0,F0,F0,F0,F0,F0,F0,F0,F0,F0,F0,F0,F0,F0,F0] rfl rfl (any_of HT_.out (by kernel_rfl)) (fun _ _ _ h => h) (Or.inl ⟨by rfl, ?_⟩) ?_ ?_
                   rotate_left
                   · intro w'; go_simp; with_reducible rfl
                   rotate_left
                   · simp only [Act.put, z0_, z1_, z2_, i64_w, i32_w]; rfl
                   refine pure_ (i := 1) (N := some 100) (v := ?_) (a' := ?_) #[T0,T0,F0,F0,F0,F0,F0,F0,F0,F0,F0,F0,F0,F0,F0,F0,F0,F0,F0,F0,F0,F0,F0,F0,F0,F0,F0,F0,F0,F0,F0,F0] rfl rfl (any_of HT_.out (by kernel_rfl)) (fun _ _ _ h => h) (Or.inl ⟨by rfl, ?_⟩) ?_ ?_
                   rotate_left
                   · intro w'; go_simp; with_reducible rfl
                   rotate_left
                   · simp only [Act.put, z0_, z1_, z2_, i64_w, i32_w]; rfl
                   refine pure_ (i := 2) (N := some 101) (v := ?_) (a' := ?_) #[T0,T0,T0,F0,F0,F0,F0,F0,F0,F0,F0,F0,F0,F0,F0,F0,F0,F0,F0,F0,F0,F0,F0,F0,F0,F0,F0,F0,F0,F0,F0,F0] rfl rfl (any_of HT_.out (by kernel_rfl)) (fun _ _ _ h => h) (Or.inl ⟨by rfl, ?_⟩) ?_ ?_
                   rotate_left
                   · intro w'; go_simp; with_reducible rfl
                   rotate_left
                   · simp only [Act.put, z0_, z1_, z2_, i64_w, i32_w]; rfl
                   refine pure_ (i := 3) (N := some 102) (v := ?_) (a' := ?_) #[T0,T0,T0,T0,F0,F0,F0,F0,F0,F0,F0,F0,F0,F0,F0,F0,F0,F0,F0,F0,F0,F0,F0,F0,F0,F0,F0,F0,F0,F0,F0,F0] rfl rfl (any_of HT_.out (by kernel_rfl)) (fun _ _ _ h => h) (Or.inl ⟨by rfl, ?_⟩) ?_ ?_
                   rotate_left
                   · intro w'; go_simp; with_reducible rfl
                   rotate_left
                   · simp only [Act.put, z0_, z1_, z2_, i64_w, i32_w]; rfl
                   refine pure_ (i := 4) (N := some 103) (v := ?_) (a' := ?_) #[T0,T0,T0,T0,T0,F0,F0,F0,F0,F0,F0,F0,F0,F0,F0,F0,F0,F0,F0,F0,F0,F0,F0,F0,F0,F0,F0,F0,F0,F0,F0,F0] rfl rfl (any_of HT_.out (by kernel_rfl)) (fun _ _ _ h => h) (Or.inl ⟨by rfl, ?_⟩) ?_ ?_
                   rotate_left
                   · intro w'; go_simp; with_reducible rfl
                   rotate_left
                   · simp only [Act.put, z0_, z1_, z2_, i64_w, i32_w]; rfl
                   refine pure_ (i := 5) (N := some 104) (v := ?_) (a' := ?_) #[T0,T0,T0,T0,T0,T0,F0,F0,F0,F0,F0,F0,F0,F0,F0,F0,F0,F0,F0,F0,F0,F0,F0,F0,F0,F0,F0,F0,F0,F0,F0,F0] rfl rfl (any_of HT_.out (by kernel_rfl)) (fun _ _ _ h => h) (Or.inl ⟨by rfl, ?_⟩) ?_ ?_
                   rotate_left
                   · intro w'; go_simp; with_reducible rfl
                   rotate_left
                   · simp only [Act.put, z0_, z1_, z2_, i64_w, i32_w]; rfl
                   refine pure_ (i := 6) (N := some 105) (v := ?_) (a' := ?_) #[T0,T0,T0,T0,T0,T0,T0,F0,F0,F0,F0,F0,F0,F0,F0,F0,F0,F0,F0,F0,F0,F0,F0,F0,F0,F0,F0,F0,F0,F0,F0,F0] rfl rfl (any_of HT_.out (by kernel_rfl)) (fun _ _ _ h => h) (Or.inl ⟨by rfl, ?_⟩) ?_ ?_
                   rotate_left
                   · intro w'; go_simp; with_reducible rfl
                   rotate_left
                   · simp only [Act.put, z0_, z1_, z2_, i64_w, i32_w]; rfl
                   refine pure_ (i := 7) (N := some 106) (v := ?_) (a' := ?_) #[T0,T0,T0,T0,T0,T0,T0,T0,F0,F0,F0,F0,F0,F0,F0,F0,F0,F0,F0,F0,F0,F0,F0,F0,F0,F0,F0,F0,F0,F0,F0,F0] rfl rfl (any_of HT_.out (by kernel_rfl)) (fun _ _ _ h => h) (Or.inl ⟨by rfl, ?_⟩) ?_ ?_
                   rotate_left
                   · intro w'; go_simp; with_reducible rfl
                   rotate_left
                   · simp only [Act.put, z0_, z1_, z2_, i64_w, i32_w]; rfl
                   refine pure_ (i := 8) (N := some 107) (v := ?_) (a' := ?_) #[T0,T0,T0,T0,T0,T0,T0,T0,T0,F0,F0,F0,F0,F0,F0,F0,F0,F0,F0,F0,F0,F0,F0,F0,F0,F0,F0,F0,F0,F0,F0,F0] rfl rfl (any_of HT_.out (by kernel_rfl)) (fun _ _ _ h => h) (Or.inl ⟨by rfl, ?_⟩) ?_ ?_
                   rotate_left
                   · intro w'; go_simp; with_reducible rfl
                   rotate_left
                   · simp only [Act.put, z0_, z1_, z2_, i64_w, i32_w]; rfl
                   refine pure_ (i := 9) (N := some 108) (v := ?_) (a' := ?_) #[T0,T0,T0,T0,T0,T0,T0,T0,T0,T0,F0,F0,F0,F0,F0,F0,F0,F0,F0,F0,F0,F0,F0,F0,F0,F0,F0,F0,F0,F0,F0,F0] rfl rfl (any_of HT_.out (by kernel_rfl)) (fun _ _ _ h => h) (Or.inl ⟨by rfl, ?_⟩) ?_ ?_
                   rotate_left
                   · intro w'; go_simp; with_reducible rfl
                   rotate_left
                   · simp only [Act.put, z0_, z1_, z2_, i64_w, i32_w]; rfl
                   refine pure_ (i := 10) (N := some 109) (v := ?_) (a' := ?_) #[T0,T0,T0,T0,T0,T0,T0,T0,T0,T0,T0,F0,F0,F0,F0,F0,F0,F0,F0,F0,F0,F0,F0,F0,F0,F0,F0,F0,F0,F0,F0,F0] rfl rfl (any_of HT_.out (by kernel_rfl)) (fun _ _ _ h => h) (Or.inl ⟨by rfl, ?_⟩) ?_ ?_
                   rotate_left
                   · intro w'; go_simp; with_reducible rfl
                   rotate_left
                   · simp only [Act.put, z0_, z1_, z2_, i64_w, i32_w]; rfl
                   refine pure_ (i := 11) (N := some 110) (v := ?_) (a' := ?_) #[T0,T0,T0,T0,T0,T0,T0,T0,T0,T0,T0,T0,F0,F0,F0,F0,F0,F0,F0,F0,F0,F0,F0,F0,F0,F0,F0,F0,F0,F0,F0,F0] rfl rfl (any_of HT_.out (by kernel_rfl)) (fun _ _ _ h => h) (Or.inl ⟨by rfl, ?_⟩) ?_ ?_
                   rotate_left
                   · intro w'; go_simp; with_reducible rfl
                   rotate_left
                   · simp only [Act.put, z0_, z1_, z2_, i64_w, i32_w]; rfl
                   refine one_ (i := 12) (N := some 111) #[T0,T0,T0,T0,T0,T0,T0,T0,T0,T0,T0,T0,T0,F0,F0,F0,F0,F0,F0,F0,F0,F0,F0,F0,F0,F0,F0,F0,F0,F0,F0,F0] rfl rfl (one_of HT_.out (by kernel_rfl)) (by decide) (fun K hK => ?_)
                   refine goes_ Try.func26 (by kernel_rfl) rfl #[.slice (some ad377) l0.length c0, .int .i64 t380, .int .i64 x72_4] (by rfl) rfl rfl (by (try simp only [List.map_toArray, List.map_cons, List.map_nil]); first | done | rfl | (simp only [List.length_drop, List.length_take]; rfl)) ?_
                   with_reducible refine (estoversref19_Inside.calls kj35 _ _ l0 t380 x72_4 false _ ?side1 ?side2 A51.out).mono ?_
                   (case side1 => repeat (first | exact (Kd.C_below HR0.out HB.out) | (with_reducible refine Kd.C_alloc ?_ _) | (with_reducible refine Kd.C_drewN ?_ _) | (with_reducible refine Kd.C_drew ?_)))
                   (case side2 => exact HC0.out)
                   rintro e w64 ⟨rfl, hb⟩
                   refine ⟨_, rfl, ?_⟩; have n0_ := Aside0.mk (Kd.R_below (by (with_reducible repeat (first | apply Kd.R_alloc | apply Kd.R_drewN | apply Kd.R_drew)); exact HO_10.out) hb); have n1_ := Aside0.mk (below_step (by repeat (first | (with_reducible first | exact HB.out | apply below_alloc | apply pw_below_drewN | apply below_drew1) | exact HB.out)) hb); clear HO_10; clear HB; have HO_10 := n0_
                   have HB := n1_; clear n0_ n1_
                   (try clear hb)
                   (try clear hb2)
                   (try clear hk)
                   (try clear hi)
                   refine hK.out _ _ trivial (fun hHeld => ?_); clear hK K; refine norm_ (a' := ?_) ?_ ?_
                   rotate_left
                   ·
                    show Act.put _ (some 111) _ = _
                    simp only [Act.put, z0_, z1_, z2_, i64_w, i32_w]; rfl
                   refine pure_ (i := 13) (N := some 112) (v := ?_) (a' := ?_) #[T0,T0,T0,T0,T0,T0,T0,T0,T0,T0,T0,T0,T0,T0,F0,F0,F0,F0,F0,F0,F0,F0,F0,F0,F0,F0,F0,F0,F0,F0,F0,F0] rfl rfl (any_of HT_.out (by kernel_rfl)) (fun _ _ _ h => h) (Or.inl ⟨by rfl, ?_⟩) ?_ ?_
                   rotate_left
                   · intro w'; go_simp; with_reducible rfl
                   rotate_left
                   · simp only [Act.put, z0_, z1_, z2_, i64_w, i32_w]; rfl
                   refine pure_ (i := 14) (N := some 113) (v := ?_) (a' := ?_) #[T0,T0,T0,T0,T0,T0,T0,T0,T0,T0,T0,T0,T0,T0,T0,F0,F0,F0,F0,F0,F0,F0,F0,F0,F0,F0,F0,F0,F0,F0,F0,F0] rfl rfl (any_of HT_.out (by kernel_rfl)) (fun _ _ _ h => h) (Or.inl ⟨by rfl, ?_⟩) ?_ ?_
                   rotate_left
                   · intro w'; go_simp; with_reducible rfl
                   rotate_left
                   · simp only [Act.put, z0_, z1_, z2_, i64_w, i32_w]; rfl
                   refine pure_ (i := 15) (N := some 114) (v := ?_) (a' := ?_) #[T0,T0,T0,T0,T0,T0,T0,T0,T0,T0,T0,T0,T0,T0,T0,T0,F0,F0,F0,F0,F0,F0,F0,F0,F0,F0,F0,F0,F0,F0,F0,F0] rfl rfl (any_of HT_.out (by kernel_rfl)) (fun _ _ _ h => h) (Or.inl ⟨by rfl, ?_⟩) ?_ ?_
                   rotate_left
                   · intro w'; go_simp; with_reducible rfl
                   rotate_left
                   · simp only [Act.put, z0_, z1_, z2_, i64_w, i32_w]; rfl
                   refine pure_ (i := 16) (N := some 115) (v := undef) (a' := ?_) #[T0,T0,T0,T0,T0,T0,T0,T0,T0,T0,T0,T0,T0,T0,T0,T0,T0,F0,F0,F0,F0,F0,F0,F0,F0,F0,F0,F0,F0,F0,F0,F0] rfl rfl (any_of HT_.out (by kernel_rfl)) (fun _ _ _ h => h) (Or.inr ⟨by rfl, rfl⟩) ?_ ?_
                   rotate_left
                   · simp only [Act.put, z0_, z1_, z2_, i64_w, i32_w]; rfl
                   refine pure_ (i := 17) (N := some 116) (v := undef) (a' := ?_) #[T0,T0,T0,T0,T0,T0,T0,T0,T0,T0,T0,T0,T0,T0,T0,T0,T0,T0,F0,F0,F0,F0,F0,F0,F0,F0,F0,F0,F0,F0,F0,F0] rfl rfl (any_of HT_.out (by kernel_rfl)) (fun _ _ _ h => h) (Or.inr ⟨by rfl, rfl⟩) ?_ ?_
                   rotate_left
                   · simp only [Act.put, z0_, z1_, z2_, i64_w, i32_w]; rfl
                   refine pure_ (i := 18) (N := some 117) (v := undef) (a' := ?_) #[T0,T0,T0,T0,T0,T0,T0,T0,T0,T0,T0,T0,T0,T0,T0,T0,T0,T0,T0,F0,F0,F0,F0,F0,F0,F0,F0,F0,F0,F0,F0,F0] rfl rfl (any_of HT_.out (by kernel_rfl)) (fun _ _ _ h => h) (Or.inr ⟨by rfl, rfl⟩) ?_ ?_
                   rotate_left
                   · simp only [Act.put, z0_, z1_, z2_, i64_w, i32_w]; rfl
                   refine pure_ (i := 19) (N := some 118) (v := undef) (a' := ?_) #[T0,T0,T0,T0,T0,T0,T0,T0,T0,T0,T0,T0,T0,T0,T0,T0,T0,T0,T0,T0,F0,F0,F0,F0,F0,F0,F0,F0,F0,F0,F0,F0] rfl rfl (any_of HT_.out (by kernel_rfl)) (fun _ _ _ h => h) (Or.inr ⟨by rfl, rfl⟩) ?_ ?_
                   rotate_left
                   · simp only [Act.put, z0_, z1_, z2_, i64_w, i32_w]; rfl
                   refine pure_ (i := 20) (N := some 119) (v := undef) (a' := ?_) #[T0,T0,T0,T0,T0,T0,T0,T0,T0,T0,T0,T0,T0,T0,T0,T0,T0,T0,T0,T0,T0,F0,F0,F0,F0,F0,F0,F0,F0,F0,F0,F0] rfl rfl (any_of HT_.out (by kernel_rfl)) (fun _ _ _ h => h) (Or.inr ⟨by rfl, rfl⟩) ?_ ?_
                   rotate_left
                   · simp only [Act.put, z0_, z1_, z2_, i64_w, i32_w]; rfl
                   refine pure_ (i := 21) (N := some 120) (v := undef) (a' := ?_) #[T0,T0,T0,T0,T0,T0,T0,T0,T0,T0,T0,T0,T0,T0,T0,T0,T0,T0,T0,T0,T0,T0,F0,F0,F0,F0,F0,F0,F0,F0,F0,F0] rfl rfl (any_of HT_.out (by kernel_rfl)) (fun _ _ _ h => h) (Or.inr ⟨by rfl, rfl⟩) ?_ ?_
                   rotate_left
                   · simp only [Act.put, z0_, z1_, z2_, i64_w, i32_w]; rfl
                   refine pure_ (i := 22) (N := some 121) (v := undef) (a' := ?_) #[T0,T0,T0,T0,T0,T0,T0,T0,T0,T0,T0,T0,T0,T0,T0,T0,T0,T0,T0,T0,T0,T0,T0,F0,F0,F0,F0,F0,F0,F0,F0,F0] rfl rfl (any_of HT_.out (by kernel_rfl)) (fun _ _ _ h => h) (Or.inr ⟨by rfl, rfl⟩) ?_ ?_
                   rotate_left
                   · simp only [Act.put, z0_, z1_, z2_, i64_w, i32_w]; rfl
                   refine pure_ (i := 23) (N := some 122) (v := undef) (a' := ?_) #[T0,T0,T0,T0,T0,T0,T0,T0,T0,T0,T0,T0,T0,T0,T0,T0,T0,T0,T0,T0,T0,T0,T0,T0,F0,F0,F0,F0,F0,F0,F0,F0] rfl rfl (any_of HT_.out (by kernel_rfl)) (fun _ _ _ h => h) (Or.inr ⟨by rfl, rfl⟩) ?_ ?_
                   rotate_left
                   · simp only [Act.put, z0_, z1_, z2_, i64_w, i32_w]; rfl
                   refine pure_ (i := 24) (N := some 123) (v := ?_) (a' := ?_) #[T0,T0,T0,T0,T0,T0,T0,T0,T0,T0,T0,T0,T0,T0,T0,T0,T0,T0,T0,T0,T0,T0,T0,T0,T0,F0,F0,F0,F0,F0,F0,F0] rfl rfl (any_of HT_.out (by kernel_rfl)) (fun _ _ _ h => h) (Or.inl ⟨by rfl, ?_⟩) ?_ ?_
                   rotate_left
                   · intro w'; go_simp; with_reducible rfl
                   rotate_left
                   · simp only [Act.put, z0_, z1_, z2_, i64_w, i32_w]; rfl
                   refine pure_ (i := 25) (N := some 124) (v := ?_) (a' := ?_) #[T0,T0,T0,T0,T0,T0,T0,T0,T0,T0,T0,T0,T0,T0,T0,T0,T0,T0,T0,T0,T0,T0,T0,T0,T0,T0,F0,F0,F0,F0,F0,F0] rfl rfl (any_of HT_.out (by kernel_rfl)) (fun _ _ _ h => h) (Or.inl ⟨by rfl, ?_⟩) ?_ ?_
                   rotate_left
                   · intro w'; go_simp; with_reducible rfl
                   rotate_left
                   · simp only [Act.put, z0_, z1_, z2_, i64_w, i32_w]; rfl
                   refine pure_ (i := 26) (N := some 125) (v := undef) (a' := ?_) #[T0,T0,T0,T0,T0,T0,T0,T0,T0,T0,T0,T0,T0,T0,T0,T0,T0,T0,T0,T0,T0,T0,T0,T0,T0,T0,T0,F0,F0,F0,F0,F0] rfl rfl (any_of HT_.out (by kernel_rfl)) (fun _ _ _ h => h) (Or.inr ⟨by rfl, rfl⟩) ?_ ?_
                   rotate_left
                   · simp only [Act.put, z0_, z1_, z2_, i64_w, i32_w]; rfl
                   refine pure_ (i := 27) (N := some 126) (v := undef) (a' := ?_) #[T0,T0,T0,T0,T0,T0,T0,T0,T0,T0,T0,T0,T0,T0,T0,T0,T0,T0,T0,T0,T0,T0,T0,T0,T0,T0,T0,T0,F0,F0,F0,F0] rfl rfl (any_of HT_.out (by kernel_rfl)) (fun _ _ _ h => h) (Or.inr ⟨by rfl, rfl⟩) ?_ ?_
                   rotate_left
                   · simp only [Act.put, z0_, z1_, z2_, i64_w, i32_w]; rfl
                   refine pure_ (i := 28) (N := some 127) (v := undef) (a' := ?_) #[T0,T0,T0,T0,T0,T0,T0,T0,T0,T0,T0,T0,T0,T0,T0,T0,T0,T0,T0,T0,T0,T0,T0,T0,T0,T0,T0,T0,T0,F0,F0,F0] rfl rfl (any_of HT_.out (by kernel_rfl)) (fun _ _ _ h => h) (Or.inr ⟨by rfl, rfl⟩) ?_ ?_
                   rotate_left
                   · simp only [Act.put, z0_, z1_, z2_, i64_w, i32_w]; rfl
                   refine pure_ (i := 29) (N := some 128) (v := undef) (a' := ?_) #[T0,T0,T0,T0,T0,T0,T0,T0,T0,T0,T0,T0,T0,T0,T0,T0,T0,T0,T0,T0,T0,T0,T0,T0,T0,T0,T0,T0,T0,T0,F0,F0] rfl rfl (any_of HT_.out (by kernel_rfl)) (fun _ _ _ h => h) (Or.inr ⟨by rfl, rfl⟩) ?_ ?_
                   rotate_left
                   · simp only [Act.put, z0_, z1_, z2_, i64_w, i32_w]; rfl
                   refine pure_ (i := 30) (N := some 129) (v := undef) (a' := ?_) #[T0,T0,T0,T0,T0,T0,T0,T0,T0,T0,T0,T0,T0,T0,T0,T0,T0,T0,T0,T0,T0,T0,T0,T0,T0,T0,T0,T0,T0,T0,T0,F0] rfl rfl (any_of HT_.out (by kernel_rfl)) (fun _ _ _ h => h) (Or.inr ⟨by rfl, rfl⟩) ?_ ?_
                   rotate_left
                   · simp only [Act.put, z0_, z1_, z2_, i64_w, i32_w]; rfl
                   refine pure_ (i := 31) (N := some 130) (v := ?_) (a' := ?_) #[T0,T0,T0,T0,T0,T0,T0,T0,T0,T0,T0,T0,T0,T0,T0,T0,T0,T0,T0,T0,T0,T0,T0,T0,T0,T0,T0,T0,T0,T0,T0,T0] rfl rfl (any_of HT_.out (by kernel_rfl)) (fun _ _ _ h => h) (Or.inl ⟨by rfl, ?_⟩) ?_ ?_
                   rotate_left
                   · intro w'; go_simp; with_reducible rfl
                   rotate_left
                   · simp only [Act.put, z0_, z1_, z2_, i64_w, i32_w]; rfl
                   refine done_ (done_of HT_.out (by kernel_rfl)) ?_
                   try go_wp2
                   go_meet
                   case rel => exact ⟨_, (true), (by first | rfl | (simp; done) | (simp [*]; done)), H', ⟨by have := HJ3.out; have := HK2.out; have := HJ24.out; have := HK4.out; have := HJ35.out; first | omega | exact Nat.le_refl _⟩, ⟨by (with_reducible repeat (first | apply Kd.R_alloc | apply Kd.R_drewN | apply Kd.R_drew)); exact HO_10.out⟩, ⟨by repeat (first | (with_reducible first | exact HB.out | apply below_alloc | apply pw_below_drewN | apply below_drew1) | exact HB.out)⟩⟩
                  subst c52
                  have H1 : ((estoversref19_Own.f kj35 l0 t380).bind fun t382 => (if 0 ≤ t380 then (if t380 < (l1.length : Int) then (if t382 ≤ (rd l1 t380) then (estoverslaw20_ProtectionOpens.j6 kj35 l0 l1 a2 t374 (l0.length : Int) x72_4 true) else ((protection_Guarded.f kj35 l0 l1 t380 x72_4 false).bind fun t384 => (estoverslaw20_ProtectionOpens.j6 kj35 l0 l1 a2 t374 (l0.length : Int) x72_4 t384))) else (none)) else (none))) = some r := by rw [if_pos rfl] at H; exact H
                  clear H; have H := H1; clear H1; replace H := Option.bind_eq_some_iff.mp H; obtain ⟨t382, A530, H⟩ := H
                  replace H : (if 0 ≤ t380 then (if t380 < (l1.length : Int) then (if t382 ≤ (rd l1 t380) then (estoverslaw20_ProtectionOpens.j6 kj35 l0 l1 a2 t374 (l0.length : Int) x72_4 true) else ((protection_Guarded.f kj35 l0 l1 t380 x72_4 false).bind fun t384 => (estoverslaw20_ProtectionOpens.j6 kj35 l0 l1 a2 t374 (l0.length : Int) x72_4 t384))) else (none)) else (none)) = some r := H
                  have A53 := Aside0.mk A530; clear A530; by_cases c54 : 0 ≤ t380
                  rotate_left
                  · rw [if_neg c54] at H; exact absurd H (by simp)
                  rw [if_pos c54] at H; have c54b0 : decide (0 ≤ t380) = true := decide_eq_true c54; clear c54; by_cases c55 : t380 < (l1.length : Int)
                  rotate_left
                  · rw [if_neg c55] at H; exact absurd H (by simp)
                  rw [if_pos c55] at H; have c55b0 : decide (t380 < (l1.length : Int)) = true := decide_eq_true c55; clear c55; by_cases c56 : t382 ≤ (rd l1 t380)
                  rotate_left
                  ·
                   rw [if_neg c56] at H; have c56b0 : decide (t382 ≤ (rd l1 t380)) = false := decide_eq_false c56; clear c56; replace H := Option.bind_eq_some_iff.mp H; obtain ⟨t384, A590, H⟩ := H; replace H : (estoverslaw20_ProtectionOpens.j6 kj35 l0 l1 a2 t374 (l0.length : Int) x72_4 t384) = some r := H; have A59 := Aside0.mk A590; clear A590; have H' := Aside0.mk H; clear H
                   try go_wp2
                   have n0_ := Aside0.mk (Kd.R_drew HO_10.out); have n1_ := Aside0.mk (below_drew1 HB.out); clear HO_10; clear HB; have HO_10 := n0_; have HB := n1_; clear n0_ n1_; have p383 : 0 ≤ (t380 : Int) := of_decide_eq_true (by first | (with_reducible assumption) | assumption); have q383 : t380 < (l1.length : Int) := of_decide_eq_true (by first | (with_reducible assumption) | assumption)
                   obtain ⟨ad383, e383, hx383_0⟩ := Kd.at_int HR1.out t380 p383 q383; have hw383_0 := hx383_0; cases e383; replace hx383_0 := (HB.out.cell (World.block_lt_of_cell? w _ hx383_0)).trans hx383_0; replace p383 := eq_true p383; replace q383 := eq_true q383
                   refine start_ (n := 32) (S := fun w' => w'.cell? (ad383.add (t380).toNat) = some (.int .i64 (rd l1 t380))) (ds := []) #[F0,F0,F0,F0,F0,F0,F0,F0,F0,F0,F0,F0,F0,F0,F0,F0,F0,F0,F0,F0,F0,F0,F0,F0,F0,F0,F0,F0,F0,F0,F0,F0] (by kernel_rfl) rfl rfl (((HB.out.cell (World.block_lt_of_cell? w _ hw383_0)).trans hw383_0)) (fun hHeld => ?_); refine with_tabW estoverslaw20_ProtectionOpens.tab23 estoverslaw20_ProtectionOpens.bits23 (fun HT_ HW_ => ?_)
                   generalize w46.drew = w60 at HO_10 HB hx383_0 hHeld ⊢; refine pure_ (i := 0) (N := some 99) (v := ?_) (a' := ?_) #[T0,F0,F0,F0,F0,F0,F0,F0,F0,F0,F0,F0,F0,F0,F0,F0,F0,F0,F0,F0,F0,F0,F0,F0,F0,F0,F0,F0,F0,F0,F0,F0] rfl rfl (any_of HT_.out (by kernel_rfl)) (fun _ _ _ h => h) (Or.inl ⟨by rfl, ?_⟩) ?_ ?_
                   rotate_left
                   · intro w'; go_simp; with_reducible rfl
                   rotate_left
                   · simp only [Act.put, z0_, z1_, z2_, i64_w, i32_w]; rfl
                   refine pure_ (i := 1) (N := some 100) (v := ?_) (a' := ?_) #[T0,T0,F0,F0,F0,F0,F0,F0,F0,F0,F0,F0,F0,F0,F0,F0,F0,F0,F0,F0,F0,F0,F0,F0,F0,F0,F0,F0,F0,F0,F0,F0] rfl rfl (any_of HT_.out (by kernel_rfl)) (fun _ _ _ h => h) (Or.inl ⟨by rfl, ?_⟩) ?_ ?_
                   rotate_left
                   · intro w'; go_simp; with_reducible rfl
                   rotate_left
                   · simp only [Act.put, z0_, z1_, z2_, i64_w, i32_w]; rfl
                   refine pure_ (i := 2) (N := some 101) (v := ?_) (a' := ?_) #[T0,T0,T0,F0,F0,F0,F0,F0,F0,F0,F0,F0,F0,F0,F0,F0,F0,F0,F0,F0,F0,F0,F0,F0,F0,F0,F0,F0,F0,F0,F0,F0] rfl rfl (any_of HT_.out (by kernel_rfl)) (fun _ _ _ h => h) (Or.inl ⟨by rfl, ?_⟩) ?_ ?_
                   rotate_left
                   · intro w'; go_simp; with_reducible rfl
                   rotate_left
                   · simp only [Act.put, z0_, z1_, z2_, i64_w, i32_w]; rfl
                   refine pure_ (i := 3) (N := some 102) (v := ?_) (a' := ?_) #[T0,T0,T0,T0,F0,F0,F0,F0,F0,F0,F0,F0,F0,F0,F0,F0,F0,F0,F0,F0,F0,F0,F0,F0,F0,F0,F0,F0,F0,F0,F0,F0] rfl rfl (any_of HT_.out (by kernel_rfl)) (fun _ _ _ h => h) (Or.inl ⟨by rfl, ?_⟩) ?_ ?_
                   rotate_left
                   · intro w'; go_simp; with_reducible rfl
                   rotate_left
                   · simp only [Act.put, z0_, z1_, z2_, i64_w, i32_w]; rfl
                   refine pure_ (i := 4) (N := some 103) (v := ?_) (a' := ?_) #[T0,T0,T0,T0,T0,F0,F0,F0,F0,F0,F0,F0,F0,F0,F0,F0,F0,F0,F0,F0,F0,F0,F0,F0,F0,F0,F0,F0,F0,F0,F0,F0] rfl rfl (any_of HT_.out (by kernel_rfl)) (fun _ _ _ h => h) (Or.inl ⟨by rfl, ?_⟩) ?_ ?_
                   rotate_left
                   · intro w'; go_simp; with_reducible rfl
                   rotate_left
                   · simp only [Act.put, z0_, z1_, z2_, i64_w, i32_w]; rfl
                   refine pure_ (i := 5) (N := some 104) (v := ?_) (a' := ?_) #[T0,T0,T0,T0,T0,T0,F0,F0,F0,F0,F0,F0,F0,F0,F0,F0,F0,F0,F0,F0,F0,F0,F0,F0,F0,F0,F0,F0,F0,F0,F0,F0] rfl rfl (any_of HT_.out (by kernel_rfl)) (fun _ _ _ h => h) (Or.inl ⟨by rfl, ?_⟩) ?_ ?_
                   rotate_left
                   · intro w'; go_simp; with_reducible rfl
                   rotate_left
                   · simp only [Act.put, z0_, z1_, z2_, i64_w, i32_w]; rfl
                   refine pure_ (i := 6) (N := some 105) (v := ?_) (a' := ?_) #[T0,T0,T0,T0,T0,T0,T0,F0,F0,F0,F0,F0,F0,F0,F0,F0,F0,F0,F0,F0,F0,F0,F0,F0,F0,F0,F0,F0,F0,F0,F0,F0] rfl rfl (any_of HT_.out (by kernel_rfl)) (fun _ _ _ h => h) (Or.inl ⟨by rfl, ?_⟩) ?_ ?_
                   rotate_left
                   · intro w'; go_simp; with_reducible rfl
                   rotate_left
                   · simp only [Act.put, z0_, z1_, z2_, i64_w, i32_w]; rfl
                   refine pure_ (i := 7) (N := some 106) (v := ?_) (a' := ?_) #[T0,T0,T0,T0,T0,T0,T0,T0,F0,F0,F0,F0,F0,F0,F0,F0,F0,F0,F0,F0,F0,F0,F0,F0,F0,F0,F0,F0,F0,F0,F0,F0] rfl rfl (any_of HT_.out (by kernel_rfl)) (fun _ _ _ h => h) (Or.inl ⟨by rfl, ?_⟩) ?_ ?_
                   rotate_left
                   · intro w'; go_simp; with_reducible rfl
                   rotate_left
                   · simp only [Act.put, z0_, z1_, z2_, i64_w, i32_w]; rfl
                   refine pure_ (i := 8) (N := some 107) (v := ?_) (a' := ?_) #[T0,T0,T0,T0,T0,T0,T0,T0,T0,F0,F0,F0,F0,F0,F0,F0,F0,F0,F0,F0,F0,F0,F0,F0,F0,F0,F0,F0,F0,F0,F0,F0] rfl rfl (any_of HT_.out (by kernel_rfl)) (fun _ _ _ h => h) (Or.inl ⟨by rfl, ?_⟩) ?_ ?_
                   rotate_left
                   · intro w'; go_simp; with_reducible rfl
                   rotate_left
                   · simp only [Act.put, z0_, z1_, z2_, i64_w, i32_w]; rfl
                   refine pure_ (i := 9) (N := some 108) (v := ?_) (a' := ?_) #[T0,T0,T0,T0,T0,T0,T0,T0,T0,T0,F0,F0,F0,F0,F0,F0,F0,F0,F0,F0,F0,F0,F0,F0,F0,F0,F0,F0,F0,F0,F0,F0] rfl rfl (any_of HT_.out (by kernel_rfl)) (fun _ _ _ h => h) (Or.inl ⟨by rfl, ?_⟩) ?_ ?_
                   rotate_left
                   · intro w'; go_simp; with_reducible rfl
                   rotate_left
                   · simp only [Act.put, z0_, z1_, z2_, i64_w, i32_w]; rfl
                   refine pure_ (i := 10) (N := some 109) (v := ?_) (a' := ?_) #[T0,T0,T0,T0,T0,T0,T0,T0,T0,T0,T0,F0,F0,F0,F0,F0,F0,F0,F0,F0,F0,F0,F0,F0,F0,F0,F0,F0,F0,F0,F0,F0] rfl rfl (any_of HT_.out (by kernel_rfl)) (fun _ _ _ h => h) (Or.inl ⟨by rfl, ?_⟩) ?_ ?_
                   rotate_left
                   · intro w'; go_simp; with_reducible rfl
                   rotate_left
                   · simp only [Act.put, z0_, z1_, z2_, i64_w, i32_w]; rfl
                   refine pure_ (i := 11) (N := some 110) (v := ?_) (a' := ?_) #[T0,T0,T0,T0,T0,T0,T0,T0,T0,T0,T0,T0,F0,F0,F0,F0,F0,F0,F0,F0,F0,F0,F0,F0,F0,F0,F0,F0,F0,F0,F0,F0] rfl rfl (any_of HT_.out (by kernel_rfl)) (fun _ _ _ h => h) (Or.inl ⟨by rfl, ?_⟩) ?_ ?_
                   rotate_left
                   · intro w'; go_simp; with_reducible rfl
                   rotate_left
                   · simp only [Act.put, z0_, z1_, z2_, i64_w, i32_w]; rfl
                   refine one_ (i := 12) (N := some 111) #[T0,T0,T0,T0,T0,T0,T0,T0,T0,T0,T0,T0,T0,F0,F0,F0,F0,F0,F0,F0,F0,F0,F0,F0,F0,F0,F0,F0,F0,F0,F0,F0] rfl rfl (one_of HT_.out (by kernel_rfl)) (by decide) (fun K hK => ?_)
                   refine goes_ Try.func26 (by kernel_rfl) rfl #[.slice (some ad377) l0.length c0, .int .i64 t380, .int .i64 x72_4] (by rfl) rfl rfl (by (try simp only [List.map_toArray, List.map_cons, List.map_nil]); first | done | rfl | (simp only [List.length_drop, List.length_take]; rfl)) ?_
                   with_reducible refine (estoversref19_Inside.calls kj35 _ _ l0 t380 x72_4 true _ ?side1 ?side2 A51.out).mono ?_
                   (case side1 => repeat (first | exact (Kd.C_below HR0.out HB.out) | (with_reducible refine Kd.C_alloc ?_ _) | (with_reducible refine Kd.C_drewN ?_ _) | (with_reducible refine Kd.C_drew ?_)))
                   (case side2 => exact HC0.out)
                   rintro e w61 ⟨rfl, hb⟩
                   refine ⟨_, rfl, ?_⟩; have n0_ := Aside0.mk (Kd.R_below (by (with_reducible repeat (first | apply Kd.R_alloc | apply Kd.R_drewN | apply Kd.R_drew)); exact HO_10.out) hb); have n1_ := Aside0.mk (below_step (by repeat (first | (with_reducible first | exact HB.out | apply below_alloc | apply pw_below_drewN | apply below_drew1) | exact HB.out)) hb); clear HO_10; clear HB; have HO_10 := n0_
                   have HB := n1_; clear n0_ n1_
                   (try clear hb)
                   (try clear hb2)
                   (try clear hk)
                   (try clear hi)
                   refine hK.out _ _ (((HB.out.cell (World.block_lt_of_cell? w _ hw383_0)).trans hw383_0)) (fun hHeld => ?_); clear hK K; refine norm_ (a' := ?_) ?_ ?_
                   rotate_left
                   ·
                    show Act.put _ (some 111) _ = _
                    simp only [Act.put, z0_, z1_, z2_, i64_w, i32_w]; rfl
                   refine pure_ (i := 13) (N := some 112) (v := ?_) (a' := ?_) #[T0,T0,T0,T0,T0,T0,T0,T0,T0,T0,T0,T0,T0,T0,F0,F0,F0,F0,F0,F0,F0,F0,F0,F0,F0,F0,F0,F0,F0,F0,F0,F0] rfl rfl (any_of HT_.out (by kernel_rfl)) (fun _ _ _ h => h) (Or.inl ⟨by rfl, ?_⟩) ?_ ?_
                   rotate_left
                   · intro w'; go_simp; with_reducible rfl
                   rotate_left
                   · simp only [Act.put, z0_, z1_, z2_, i64_w, i32_w]; rfl
                   refine pure_ (i := 14) (N := some 113) (v := ?_) (a' := ?_) #[T0,T0,T0,T0,T0,T0,T0,T0,T0,T0,T0,T0,T0,T0,T0,F0,F0,F0,F0,F0,F0,F0,F0,F0,F0,F0,F0,F0,F0,F0,F0,F0] rfl rfl (any_of HT_.out (by kernel_rfl)) (fun _ _ _ h => h) (Or.inl ⟨by rfl, ?_⟩) ?_ ?_
                   rotate_left
                   · intro w'; go_simp; with_reducible rfl
                   rotate_left
                   · simp only [Act.put, z0_, z1_, z2_, i64_w, i32_w]; rfl
                   refine pure_ (i := 15) (N := some 114) (v := ?_) (a' := ?_) #[T0,T0,T0,T0,T0,T0,T0,T0,T0,T0,T0,T0,T0,T0,T0,T0,F0,F0,F0,F0,F0,F0,F0,F0,F0,F0,F0,F0,F0,F0,F0,F0] rfl rfl (any_of HT_.out (by kernel_rfl)) (fun _ _ _ h => h) (Or.inl ⟨by rfl, ?_⟩) ?_ ?_
                   rotate_left
                   · intro w'; go_simp; with_reducible rfl
                   rotate_left
                   · simp only [Act.put, z0_, z1_, z2_, i64_w, i32_w]; rfl
                   refine pure_ (i := 16) (N := some 115) (v := ?_) (a' := ?_) #[T0,T0,T0,T0,T0,T0,T0,T0,T0,T0,T0,T0,T0,T0,T0,T0,T0,F0,F0,F0,F0,F0,F0,F0,F0,F0,F0,F0,F0,F0,F0,F0] rfl rfl (any_of HT_.out (by kernel_rfl)) (fun _ _ _ h => h) (Or.inl ⟨by rfl, ?_⟩) ?_ ?_
                   rotate_left
                   · intro w'; go_simp; with_reducible rfl
                   rotate_left
                   · simp only [Act.put, z0_, z1_, z2_, i64_w, i32_w]; rfl
                   refine pure_ (i := 17) (N := some 116) (v := ?_) (a' := ?_) #[T0,T0,T0,T0,T0,T0,T0,T0,T0,T0,T0,T0,T0,T0,T0,T0,T0,T0,F0,F0,F0,F0,F0,F0,F0,F0,F0,F0,F0,F0,F0,F0] rfl rfl (any_of HT_.out (by kernel_rfl)) (fun _ _ _ h => h) (Or.inl ⟨by rfl, ?_⟩) ?_ ?_
                   rotate_left
                   · intro w'; go_simp; with_reducible rfl
                   rotate_left
                   · simp only [Act.put, z0_, z1_, z2_, i64_w, i32_w]; rfl
                   refine pure_ (i := 19) (N := some 118) (v := ?_) (a' := ?_) #[T0,T0,T0,T0,T0,T0,T0,T0,T0,T0,T0,T0,T0,T0,T0,T0,T0,T0,F0,T0,F0,F0,F0,F0,F0,F0,F0,F0,F0,F0,F0,F0] rfl rfl (any_of HT_.out (by kernel_rfl)) (fun _ _ _ h => h) (Or.inl ⟨by rfl, ?_⟩) ?_ ?_
                   rotate_left
                   · intro w'; go_simp; with_reducible rfl
                   rotate_left
                   · simp only [Act.put, z0_, z1_, z2_, i64_w, i32_w]; rfl
                   refine pure_ (i := 20) (N := some 119) (v := ?_) (a' := ?_) #[T0,T0,T0,T0,T0,T0,T0,T0,T0,T0,T0,T0,T0,T0,T0,T0,T0,T0,F0,T0,T0,F0,F0,F0,F0,F0,F0,F0,F0,F0,F0,F0] rfl rfl (any_of HT_.out (by kernel_rfl)) (fun _ _ _ h => h) (Or.inl ⟨by rfl, ?_⟩) ?_ ?_
                   rotate_left
                   · intro w'; go_simp; with_reducible rfl
                   rotate_left
                   · simp only [Act.put, z0_, z1_, z2_, i64_w, i32_w]; rfl
                   refine pure_ (i := 21) (N := some 120) (v := ?_) (a' := ?_) #[T0,T0,T0,T0,T0,T0,T0,T0,T0,T0,T0,T0,T0,T0,T0,T0,T0,T0,F0,T0,T0,T0,F0,F0,F0,F0,F0,F0,F0,F0,F0,F0] rfl rfl (any_of HT_.out (by kernel_rfl)) (fun _ _ _ h => h) (Or.inl ⟨by rfl, ?_⟩) ?_ ?_
                   rotate_left
                   · intro w'; go_simp; with_reducible rfl
                   rotate_left
                   · simp only [Act.put, z0_, z1_, z2_, i64_w, i32_w]; rfl
                   refine take_ (i := 22) (N := some 121) (v := ?_) (a' := ?_) #[T0,T0,T0,T0,T0,T0,T0,T0,T0,T0,T0,T0,T0,T0,T0,T0,T0,T0,F0,T0,T0,T0,T0,F0,F0,F0,F0,F0,F0,F0,F0,F0] rfl rfl (take_ofW HT_.out HW_.out (by kernel_rfl)) (fun _ _ _ h => h) (Or.inl ⟨by rfl, ?_⟩) hHeld ?_ ?_
                   rotate_left
                   · intro w' s0; go_simp; with_reducible rfl
                   rotate_left
                   · simp only [Act.put, z0_, z1_, z2_, i64_w, i32_w]; rfl
                   refine one_ (i := 18) (N := some 117) #[T0,T0,T0,T0,T0,T0,T0,T0,T0,T0,T0,T0,T0,T0,T0,T0,T0,T0,T0,T0,T0,T0,T0,F0,F0,F0,F0,F0,F0,F0,F0,F0] rfl rfl (one_of HT_.out (by kernel_rfl)) (by decide) (fun K hK => ?_)
                   refine goes_ Try.func25 (by kernel_rfl) rfl #[.slice (some ad377) l0.length c0, .int .i64 t380] (by rfl) rfl rfl (by (try simp only [List.map_toArray, List.map_cons, List.map_nil]); first | done | rfl | (simp only [List.length_drop, List.length_take]; rfl)) ?_
                   with_reducible refine (estoversref19_Own.calls kj35 _ _ l0 t380 t382 _ ?side1 ?side2 A53.out).mono ?_
                   (case side1 => repeat (first | exact (Kd.C_below HR0.out HB.out) | (with_reducible refine Kd.C_alloc ?_ _) | (with_reducible refine Kd.C_drewN ?_ _) | (with_reducible refine Kd.C_drew ?_)))
                   (case side2 => exact HC0.out)
                   rintro e w' ⟨rfl, ⟨nd, rfl⟩⟩
                   refine ⟨_, rfl, ?_⟩; refine hK.out _ _ (((HB.out.cell (World.block_lt_of_cell? w _ hw383_0)).trans hw383_0)) (fun hHeld => ?_); clear hK K; refine norm_ (a' := ?_) ?_ ?_
                   rotate_left
                   ·
                    show Act.put _ (some 117) _ = _
                    simp only [Act.put, z0_, z1_, z2_, i64_w, i32_w]; rfl
                   refine pure_ (i := 23) (N := some 122) (v := ?_) (a' := ?_) #[T0,T0,T0,T0,T0,T0,T0,T0,T0,T0,T0,T0,T0,T0,T0,T0,T0,T0,T0,T0,T0,T0,T0,T0,F0,F0,F0,F0,F0,F0,F0,F0] rfl rfl (any_of HT_.out (by kernel_rfl)) (fun _ _ _ h => h) (Or.inl ⟨by rfl, ?_⟩) ?_ ?_
                   rotate_left
                   · intro w'; go_simp; with_reducible rfl
                   rotate_left
                   · simp only [Act.put, z0_, z1_, z2_, i64_w, i32_w]; rfl
                   refine pure_ (i := 24) (N := some 123) (v := ?_) (a' := ?_) #[T0,T0,T0,T0,T0,T0,T0,T0,T0,T0,T0,T0,T0,T0,T0,T0,T0,T0,T0,T0,T0,T0,T0,T0,T0,F0,F0,F0,F0,F0,F0,F0] rfl rfl (any_of HT_.out (by kernel_rfl)) (fun _ _ _ h => h) (Or.inl ⟨by rfl, ?_⟩) ?_ ?_
                   rotate_left
                   · intro w'; go_simp; with_reducible rfl
                   rotate_left
                   · simp only [Act.put, z0_, z1_, z2_, i64_w, i32_w]; rfl
                   refine pure_ (i := 25) (N := some 124) (v := ?_) (a' := ?_) #[T0,T0,T0,T0,T0,T0,T0,T0,T0,T0,T0,T0,T0,T0,T0,T0,T0,T0,T0,T0,T0,T0,T0,T0,T0,T0,F0,F0,F0,F0,F0,F0] rfl rfl (any_of HT_.out (by kernel_rfl)) (fun _ _ _ h => h) (Or.inl ⟨by rfl, ?_⟩) ?_ ?_
                   rotate_left
                   · intro w'; go_simp; with_reducible rfl
                   rotate_left
                   · simp only [Act.put, z0_, z1_, z2_, i64_w, i32_w]; rfl
                   refine pure_ (i := 26) (N := some 125) (v := ?_) (a' := ?_) #[T0,T0,T0,T0,T0,T0,T0,T0,T0,T0,T0,T0,T0,T0,T0,T0,T0,T0,T0,T0,T0,T0,T0,T0,T0,T0,T0,F0,F0,F0,F0,F0] rfl rfl (any_of HT_.out (by kernel_rfl)) (fun _ _ _ h => h) (Or.inl ⟨by rfl, ?_⟩) ?_ ?_
                   rotate_left
                   · intro w'; go_simp; with_reducible rfl
                   rotate_left
                   · simp only [Act.put, z0_, z1_, z2_, i64_w, i32_w]; rfl
                   refine pure_ (i := 27) (N := some 126) (v := ?_) (a' := ?_) #[T0,T0,T0,T0,T0,T0,T0,T0,T0,T0,T0,T0,T0,T0,T0,T0,T0,T0,T0,T0,T0,T0,T0,T0,T0,T0,T0,T0,F0,F0,F0,F0] rfl rfl (any_of HT_.out (by kernel_rfl)) (fun _ _ _ h => h) (Or.inl ⟨by rfl, ?_⟩) ?_ ?_
                   rotate_left
                   · intro w'; go_simp; with_reducible rfl
                   rotate_left
                   · simp only [Act.put, z0_, z1_, z2_, i64_w, i32_w]; rfl
                   refine pure_ (i := 28) (N := some 127) (v := ?_) (a' := ?_) #[T0,T0,T0,T0,T0,T0,T0,T0,T0,T0,T0,T0,T0,T0,T0,T0,T0,T0,T0,T0,T0,T0,T0,T0,T0,T0,T0,T0,T0,F0,F0,F0] rfl rfl (any_of HT_.out (by kernel_rfl)) (fun _ _ _ h => h) (Or.inl ⟨by rfl, ?_⟩) ?_ ?_
                   rotate_left
                   · intro w'; go_simp; with_reducible rfl
                   rotate_left
                   · simp only [Act.put, z0_, z1_, z2_, i64_w, i32_w]; rfl
                   refine pure_ (i := 29) (N := some 128) (v := ?_) (a' := ?_) #[T0,T0,T0,T0,T0,T0,T0,T0,T0,T0,T0,T0,T0,T0,T0,T0,T0,T0,T0,T0,T0,T0,T0,T0,T0,T0,T0,T0,T0,T0,F0,F0] rfl rfl (any_of HT_.out (by kernel_rfl)) (fun _ _ _ h => h) (Or.inl ⟨by rfl, ?_⟩) ?_ ?_
                   rotate_left
                   · intro w'; go_simp; with_reducible rfl
                   rotate_left
                   · simp only [Act.put, z0_, z1_, z2_, i64_w, i32_w]; rfl
                   refine one_ (i := 30) (N := some 129) #[T0,T0,T0,T0,T0,T0,T0,T0,T0,T0,T0,T0,T0,T0,T0,T0,T0,T0,T0,T0,T0,T0,T0,T0,T0,T0,T0,T0,T0,T0,T0,F0] rfl rfl (one_of HT_.out (by kernel_rfl)) (by decide) (fun K hK => ?_)
                   refine goes_ Try.func16 (by kernel_rfl) rfl #[.slice (some ad377) l0.length c0, .slice (some ad383) l1.length c1, .int .i64 t380, .int .i64 x72_4, .bool false] (by rfl) rfl rfl (by (try simp only [List.map_toArray, List.map_cons, List.map_nil]); first | done | rfl | (simp only [List.length_drop, List.length_take]; rfl)) ?_
                   with_reducible refine (protection_Guarded.calls kj35 _ _ l0 _ _ l1 t380 x72_4 false t384 _ ?side1 ?side2 ?side3 ?side4 A59.out).mono ?_
                   (case side1 => repeat (first | exact (Kd.C_below HR0.out (by repeat (first | (with_reducible first | exact HB.out | apply below_alloc | apply pw_below_drewN | apply below_drew1) | exact HB.out))) | (with_reducible refine Kd.C_alloc ?_ _) | (with_reducible refine Kd.C_drewN ?_ _) | (with_reducible refine Kd.C_drew ?_)))
                   (case side2 => exact HC0.out)
                   (case side3 => repeat (first | exact (Kd.C_below HR1.out (by repeat (first | (with_reducible first | exact HB.out | apply below_alloc | apply pw_below_drewN | apply below_drew1) | exact HB.out))) | (with_reducible refine Kd.C_alloc ?_ _) | (with_reducible refine Kd.C_drewN ?_ _) | (with_reducible refine Kd.C_drew ?_)))
                   (case side4 => exact HC1.out)
                   rintro e w62 ⟨rfl, hb⟩
                   refine ⟨_, rfl, ?_⟩; have n0_ := Aside0.mk (Kd.R_below (by (with_reducible repeat (first | apply Kd.R_alloc | apply Kd.R_drewN | apply Kd.R_drew)); exact HO_10.out) hb); have n1_ := Aside0.mk (below_step (by repeat (first | (with_reducible first | exact HB.out | apply below_alloc | apply pw_below_drewN | apply below_drew1) | exact HB.out)) hb); clear HO_10; clear HB; have HO_10 := n0_
                   have HB := n1_; clear n0_ n1_
                   (try clear hb)
                   (try clear hb2)
                   (try clear hk)
                   (try clear hi)
                   refine hK.out _ _ (((HB.out.cell (World.block_lt_of_cell? w _ hw383_0)).trans hw383_0)) (fun hHeld => ?_); clear hK K; refine norm_ (a' := ?_) ?_ ?_
                   rotate_left
                   ·
                    show Act.put _ (some 129) _ = _
                    simp only [Act.put, z0_, z1_, z2_, i64_w, i32_w]; rfl
                   refine pure_ (i := 31) (N := some 130) (v := ?_) (a' := ?_) #[T0,T0,T0,T0,T0,T0,T0,T0,T0,T0,T0,T0,T0,T0,T0,T0,T0,T0,T0,T0,T0,T0,T0,T0,T0,T0,T0,T0,T0,T0,T0,T0] rfl rfl (any_of HT_.out (by kernel_rfl)) (fun _ _ _ h => h) (Or.inl ⟨by rfl, ?_⟩) ?_ ?_
                   rotate_left
                   · intro w'; go_simp; with_reducible rfl
                   rotate_left
                   · simp only [Act.put, z0_, z1_, z2_, i64_w, i32_w]; rfl
                   refine done_ (done_of HT_.out (by kernel_rfl)) ?_
                   try go_wp2
                   go_meet
                   case rel => exact ⟨_, (t384), (by first | rfl | (simp; done) | (simp [*]; done)), H', ⟨by have := HJ3.out; have := HK2.out; have := HJ24.out; have := HK4.out; have := HJ35.out; first | omega | exact Nat.le_refl _⟩, ⟨by (with_reducible repeat (first | apply Kd.R_alloc | apply Kd.R_drewN | apply Kd.R_drew)); exact HO_10.out⟩, ⟨by repeat (first | (with_reducible first | exact HB.out | apply below_alloc | apply pw_below_drewN | apply below_drew1) | exact HB.out)⟩⟩
                  rw [if_pos c56] at H; have c56b0 : decide (t382 ≤ (rd l1 t380)) = true := decide_eq_true c56; clear c56; have H' := Aside0.mk H; clear H
                  try go_wp2
                  have n0_ := Aside0.mk (Kd.R_drew HO_10.out); have n1_ := Aside0.mk (below_drew1 HB.out); clear HO_10; clear HB; have HO_10 := n0_; have HB := n1_; clear n0_ n1_; have p383 : 0 ≤ (t380 : Int) := of_decide_eq_true (by first | (with_reducible assumption) | assumption); have q383 : t380 < (l1.length : Int) := of_decide_eq_true (by first | (with_reducible assumption) | assumption)
                  obtain ⟨ad383, e383, hx383_0⟩ := Kd.at_int HR1.out t380 p383 q383; have hw383_0 := hx383_0; cases e383; replace hx383_0 := (HB.out.cell (World.block_lt_of_cell? w _ hx383_0)).trans hx383_0; replace p383 := eq_true p383; replace q383 := eq_true q383
                  refine start_ (n := 32) (S := fun w' => w'.cell? (ad383.add (t380).toNat) = some (.int .i64 (rd l1 t380))) (ds := []) #[F0,F0,F0,F0,F0,F0,F0,F0,F0,F0,F0,F0,F0,F0,F0,F0,F0,F0,F0,F0,F0,F0,F0,F0,F0,F0,F0,F0,F0,F0,F0,F0] (by kernel_rfl) rfl rfl (((HB.out.cell (World.block_lt_of_cell? w _ hw383_0)).trans hw383_0)) (fun hHeld => ?_); refine with_tabW estoverslaw20_ProtectionOpens.tab23 estoverslaw20_ProtectionOpens.bits23 (fun HT_ HW_ => ?_)
                  generalize w46.drew = w57 at HO_10 HB hx383_0 hHeld ⊢; refine pure_ (i := 0) (N := some 99) (v := ?_) (a' := ?_) #[T0,F0,F0,F0,F0,F0,F0,F0,F0,F0,F0,F0,F0,F0,F0,F0,F0,F0,F0,F0,F0,F0,F0,F0,F0,F0,F0,F0,F0,F0,F0,F0] rfl rfl (any_of HT_.out (by kernel_rfl)) (fun _ _ _ h => h) (Or.inl ⟨by rfl, ?_⟩) ?_ ?_
                  rotate_left
                  · intro w'; go_simp; with_reducible rfl
                  rotate_left
                  · simp only [Act.put, z0_, z1_, z2_, i64_w, i32_w]; rfl
                  refine pure_ (i := 1) (N := some 100) (v := ?_) (a' := ?_) #[T0,T0,F0,F0,F0,F0,F0,F0,F0,F0,F0,F0,F0,F0,F0,F0,F0,F0,F0,F0,F0,F0,F0,F0,F0,F0,F0,F0,F0,F0,F0,F0] rfl rfl (any_of HT_.out (by kernel_rfl)) (fun _ _ _ h => h) (Or.inl ⟨by rfl, ?_⟩) ?_ ?_
                  rotate_left
                  · intro w'; go_simp; with_reducible rfl
                  rotate_left
                  · simp only [Act.put, z0_, z1_, z2_, i64_w, i32_w]; rfl
                  refine pure_ (i := 2) (N := some 101) (v := ?_) (a' := ?_) #[T0,T0,T0,F0,F0,F0,F0,F0,F0,F0,F0,F0,F0,F0,F0,F0,F0,F0,F0,F0,F0,F0,F0,F0,F0,F0,F0,F0,F0,F0,F0,F0] rfl rfl (any_of HT_.out (by kernel_rfl)) (fun _ _ _ h => h) (Or.inl ⟨by rfl, ?_⟩) ?_ ?_
                  rotate_left
                  · intro w'; go_simp; with_reducible rfl
                  rotate_left
                  · simp only [Act.put, z0_, z1_, z2_, i64_w, i32_w]; rfl
                  refine pure_ (i := 3) (N := some 102) (v := ?_) (a' := ?_) #[T0,T0,T0,T0,F0,F0,F0,F0,F0,F0,F0,F0,F0,F0,F0,F0,F0,F0,F0,F0,F0,F0,F0,F0,F0,F0,F0,F0,F0,F0,F0,F0] rfl rfl (any_of HT_.out (by kernel_rfl)) (fun _ _ _ h => h) (Or.inl ⟨by rfl, ?_⟩) ?_ ?_
                  rotate_left
                  · intro w'; go_simp; with_reducible rfl
                  rotate_left
                  · simp only [Act.put, z0_, z1_, z2_, i64_w, i32_w]; rfl
                  refine pure_ (i := 4) (N := some 103) (v := ?_) (a' := ?_) #[T0,T0,T0,T0,T0,F0,F0,F0,F0,F0,F0,F0,F0,F0,F0,F0,F0,F0,F0,F0,F0,F0,F0,F0,F0,F0,F0,F0,F0,F0,F0,F0] rfl rfl (any_of HT_.out (by kernel_rfl)) (fun _ _ _ h => h) (Or.inl ⟨by rfl, ?_⟩) ?_ ?_
                  rotate_left
                  · intro w'; go_simp; with_reducible rfl
                  rotate_left
                  · simp only [Act.put, z0_, z1_, z2_, i64_w, i32_w]; rfl
                  refine pure_ (i := 5) (N := some 104) (v := ?_) (a' := ?_) #[T0,T0,T0,T0,T0,T0,F0,F0,F0,F0,F0,F0,F0,F0,F0,F0,F0,F0,F0,F0,F0,F0,F0,F0,F0,F0,F0,F0,F0,F0,F0,F0] rfl rfl (any_of HT_.out (by kernel_rfl)) (fun _ _ _ h => h) (Or.inl ⟨by rfl, ?_⟩) ?_ ?_
                  rotate_left
                  · intro w'; go_simp; with_reducible rfl
                  rotate_left
                  · simp only [Act.put, z0_, z1_, z2_, i64_w, i32_w]; rfl
                  refine pure_ (i := 6) (N := some 105) (v := ?_) (a' := ?_) #[T0,T0,T0,T0,T0,T0,T0,F0,F0,F0,F0,F0,F0,F0,F0,F0,F0,F0,F0,F0,F0,F0,F0,F0,F0,F0,F0,F0,F0,F0,F0,F0] rfl rfl (any_of HT_.out (by kernel_rfl)) (fun _ _ _ h => h) (Or.inl ⟨by rfl, ?_⟩) ?_ ?_
                  rotate_left
                  · intro w'; go_simp; with_reducible rfl
                  rotate_left
                  · simp only [Act.put, z0_, z1_, z2_, i64_w, i32_w]; rfl
                  refine pure_ (i := 7) (N := some 106) (v := ?_) (a' := ?_) #[T0,T0,T0,T0,T0,T0,T0,T0,F0,F0,F0,F0,F0,F0,F0,F0,F0,F0,F0,F0,F0,F0,F0,F0,F0,F0,F0,F0,F0,F0,F0,F0] rfl rfl (any_of HT_.out (by kernel_rfl)) (fun _ _ _ h => h) (Or.inl ⟨by rfl, ?_⟩) ?_ ?_
                  rotate_left
                  · intro w'; go_simp; with_reducible rfl
                  rotate_left
                  · simp only [Act.put, z0_, z1_, z2_, i64_w, i32_w]; rfl
                  refine pure_ (i := 8) (N := some 107) (v := ?_) (a' := ?_) #[T0,T0,T0,T0,T0,T0,T0,T0,T0,F0,F0,F0,F0,F0,F0,F0,F0,F0,F0,F0,F0,F0,F0,F0,F0,F0,F0,F0,F0,F0,F0,F0] rfl rfl (any_of HT_.out (by kernel_rfl)) (fun _ _ _ h => h) (Or.inl ⟨by rfl, ?_⟩) ?_ ?_
                  rotate_left
                  · intro w'; go_simp; with_reducible rfl
                  rotate_left
                  · simp only [Act.put, z0_, z1_, z2_, i64_w, i32_w]; rfl
                  refine pure_ (i := 9) (N := some 108) (v := ?_) (a' := ?_) #[T0,T0,T0,T0,T0,T0,T0,T0,T0,T0,F0,F0,F0,F0,F0,F0,F0,F0,F0,F0,F0,F0,F0,F0,F0,F0,F0,F0,F0,F0,F0,F0] rfl rfl (any_of HT_.out (by kernel_rfl)) (fun _ _ _ h => h) (Or.inl ⟨by rfl, ?_⟩) ?_ ?_
                  rotate_left
                  · intro w'; go_simp; with_reducible rfl
                  rotate_left
                  · simp only [Act.put, z0_, z1_, z2_, i64_w, i32_w]; rfl
                  refine pure_ (i := 10) (N := some 109) (v := ?_) (a' := ?_) #[T0,T0,T0,T0,T0,T0,T0,T0,T0,T0,T0,F0,F0,F0,F0,F0,F0,F0,F0,F0,F0,F0,F0,F0,F0,F0,F0,F0,F0,F0,F0,F0] rfl rfl (any_of HT_.out (by kernel_rfl)) (fun _ _ _ h => h) (Or.inl ⟨by rfl, ?_⟩) ?_ ?_
                  rotate_left
                  · intro w'; go_simp; with_reducible rfl
                  rotate_left
                  · simp only [Act.put, z0_, z1_, z2_, i64_w, i32_w]; rfl
                  refine pure_ (i := 11) (N := some 110) (v := ?_) (a' := ?_) #[T0,T0,T0,T0,T0,T0,T0,T0,T0,T0,T0,T0,F0,F0,F0,F0,F0,F0,F0,F0,F0,F0,F0,F0,F0,F0,F0,F0,F0,F0,F0,F0] rfl rfl (any_of HT_.out (by kernel_rfl)) (fun _ _ _ h => h) (Or.inl ⟨by rfl, ?_⟩) ?_ ?_
                  rotate_left
                  · intro w'; go_simp; with_reducible rfl
                  rotate_left
                  · simp only [Act.put, z0_, z1_, z2_, i64_w, i32_w]; rfl
                  refine one_ (i := 12) (N := some 111) #[T0,T0,T0,T0,T0,T0,T0,T0,T0,T0,T0,T0,T0,F0,F0,F0,F0,F0,F0,F0,F0,F0,F0,F0,F0,F0,F0,F0,F0,F0,F0,F0] rfl rfl (one_of HT_.out (by kernel_rfl)) (by decide) (fun K hK => ?_)
                  refine goes_ Try.func26 (by kernel_rfl) rfl #[.slice (some ad377) l0.length c0, .int .i64 t380, .int .i64 x72_4] (by rfl) rfl rfl (by (try simp only [List.map_toArray, List.map_cons, List.map_nil]); first | done | rfl | (simp only [List.length_drop, List.length_take]; rfl)) ?_
                  with_reducible refine (estoversref19_Inside.calls kj35 _ _ l0 t380 x72_4 true _ ?side1 ?side2 A51.out).mono ?_
                  (case side1 => repeat (first | exact (Kd.C_below HR0.out HB.out) | (with_reducible refine Kd.C_alloc ?_ _) | (with_reducible refine Kd.C_drewN ?_ _) | (with_reducible refine Kd.C_drew ?_)))
                  (case side2 => exact HC0.out)
                  rintro e w58 ⟨rfl, hb⟩
                  refine ⟨_, rfl, ?_⟩; have n0_ := Aside0.mk (Kd.R_below (by (with_reducible repeat (first | apply Kd.R_alloc | apply Kd.R_drewN | apply Kd.R_drew)); exact HO_10.out) hb); have n1_ := Aside0.mk (below_step (by repeat (first | (with_reducible first | exact HB.out | apply below_alloc | apply pw_below_drewN | apply below_drew1) | exact HB.out)) hb); clear HO_10; clear HB; have HO_10 := n0_
                  have HB := n1_; clear n0_ n1_
                  (try clear hb)
                  (try clear hb2)
                  (try clear hk)
                  (try clear hi)
                  refine hK.out _ _ (((HB.out.cell (World.block_lt_of_cell? w _ hw383_0)).trans hw383_0)) (fun hHeld => ?_); clear hK K; refine norm_ (a' := ?_) ?_ ?_
                  rotate_left
                  ·
                   show Act.put _ (some 111) _ = _
                   simp only [Act.put, z0_, z1_, z2_, i64_w, i32_w]; rfl
                  refine pure_ (i := 13) (N := some 112) (v := ?_) (a' := ?_) #[T0,T0,T0,T0,T0,T0,T0,T0,T0,T0,T0,T0,T0,T0,F0,F0,F0,F0,F0,F0,F0,F0,F0,F0,F0,F0,F0,F0,F0,F0,F0,F0] rfl rfl (any_of HT_.out (by kernel_rfl)) (fun _ _ _ h => h) (Or.inl ⟨by rfl, ?_⟩) ?_ ?_
                  rotate_left
                  · intro w'; go_simp; with_reducible rfl
                  rotate_left
                  · simp only [Act.put, z0_, z1_, z2_, i64_w, i32_w]; rfl
                  refine pure_ (i := 14) (N := some 113) (v := ?_) (a' := ?_) #[T0,T0,T0,T0,T0,T0,T0,T0,T0,T0,T0,T0,T0,T0,T0,F0,F0,F0,F0,F0,F0,F0,F0,F0,F0,F0,F0,F0,F0,F0,F0,F0] rfl rfl (any_of HT_.out (by kernel_rfl)) (fun _ _ _ h => h) (Or.inl ⟨by rfl, ?_⟩) ?_ ?_
                  rotate_left
                  · intro w'; go_simp; with_reducible rfl
                  rotate_left
                  · simp only [Act.put, z0_, z1_, z2_, i64_w, i32_w]; rfl
                  refine pure_ (i := 15) (N := some 114) (v := ?_) (a' := ?_) #[T0,T0,T0,T0,T0,T0,T0,T0,T0,T0,T0,T0,T0,T0,T0,T0,F0,F0,F0,F0,F0,F0,F0,F0,F0,F0,F0,F0,F0,F0,F0,F0] rfl rfl (any_of HT_.out (by kernel_rfl)) (fun _ _ _ h => h) (Or.inl ⟨by rfl, ?_⟩) ?_ ?_
                  rotate_left
                  · intro w'; go_simp; with_reducible rfl
                  rotate_left
                  · simp only [Act.put, z0_, z1_, z2_, i64_w, i32_w]; rfl
                  refine pure_ (i := 16) (N := some 115) (v := ?_) (a' := ?_) #[T0,T0,T0,T0,T0,T0,T0,T0,T0,T0,T0,T0,T0,T0,T0,T0,T0,F0,F0,F0,F0,F0,F0,F0,F0,F0,F0,F0,F0,F0,F0,F0] rfl rfl (any_of HT_.out (by kernel_rfl)) (fun _ _ _ h => h) (Or.inl ⟨by rfl, ?_⟩) ?_ ?_
                  rotate_left
                  · intro w'; go_simp; with_reducible rfl
                  rotate_left
                  · simp only [Act.put, z0_, z1_, z2_, i64_w, i32_w]; rfl
                  refine pure_ (i := 17) (N := some 116) (v := ?_) (a' := ?_) #[T0,T0,T0,T0,T0,T0,T0,T0,T0,T0,T0,T0,T0,T0,T0,T0,T0,T0,F0,F0,F0,F0,F0,F0,F0,F0,F0,F0,F0,F0,F0,F0] rfl rfl (any_of HT_.out (by kernel_rfl)) (fun _ _ _ h => h) (Or.inl ⟨by rfl, ?_⟩) ?_ ?_
                  rotate_left
                  · intro w'; go_simp; with_reducible rfl
                  rotate_left
                  · simp only [Act.put, z0_, z1_, z2_, i64_w, i32_w]; rfl
                  refine pure_ (i := 19) (N := some 118) (v := ?_) (a' := ?_) #[T0,T0,T0,T0,T0,T0,T0,T0,T0,T0,T0,T0,T0,T0,T0,T0,T0,T0,F0,T0,F0,F0,F0,F0,F0,F0,F0,F0,F0,F0,F0,F0] rfl rfl (any_of HT_.out (by kernel_rfl)) (fun _ _ _ h => h) (Or.inl ⟨by rfl, ?_⟩) ?_ ?_
                  rotate_left
                  · intro w'; go_simp; with_reducible rfl
                  rotate_left
                  · simp only [Act.put, z0_, z1_, z2_, i64_w, i32_w]; rfl
                  refine pure_ (i := 20) (N := some 119) (v := ?_) (a' := ?_) #[T0,T0,T0,T0,T0,T0,T0,T0,T0,T0,T0,T0,T0,T0,T0,T0,T0,T0,F0,T0,T0,F0,F0,F0,F0,F0,F0,F0,F0,F0,F0,F0] rfl rfl (any_of HT_.out (by kernel_rfl)) (fun _ _ _ h => h) (Or.inl ⟨by rfl, ?_⟩) ?_ ?_
                  rotate_left
                  · intro w'; go_simp; with_reducible rfl
                  rotate_left
                  · simp only [Act.put, z0_, z1_, z2_, i64_w, i32_w]; rfl
                  refine pure_ (i := 21) (N := some 120) (v := ?_) (a' := ?_) #[T0,T0,T0,T0,T0,T0,T0,T0,T0,T0,T0,T0,T0,T0,T0,T0,T0,T0,F0,T0,T0,T0,F0,F0,F0,F0,F0,F0,F0,F0,F0,F0] rfl rfl (any_of HT_.out (by kernel_rfl)) (fun _ _ _ h => h) (Or.inl ⟨by rfl, ?_⟩) ?_ ?_
                  rotate_left
                  · intro w'; go_simp; with_reducible rfl
                  rotate_left
                  · simp only [Act.put, z0_, z1_, z2_, i64_w, i32_w]; rfl
                  refine take_ (i := 22) (N := some 121) (v := ?_) (a' := ?_) #[T0,T0,T0,T0,T0,T0,T0,T0,T0,T0,T0,T0,T0,T0,T0,T0,T0,T0,F0,T0,T0,T0,T0,F0,F0,F0,F0,F0,F0,F0,F0,F0] rfl rfl (take_ofW HT_.out HW_.out (by kernel_rfl)) (fun _ _ _ h => h) (Or.inl ⟨by rfl, ?_⟩) hHeld ?_ ?_
                  rotate_left
                  · intro w' s0; go_simp; with_reducible rfl
                  rotate_left
                  · simp only [Act.put, z0_, z1_, z2_, i64_w, i32_w]; rfl
                  refine one_ (i := 18) (N := some 117) #[T0,T0,T0,T0,T0,T0,T0,T0,T0,T0,T0,T0,T0,T0,T0,T0,T0,T0,T0,T0,T0,T0,T0,F0,F0,F0,F0,F0,F0,F0,F0,F0] rfl rfl (one_of HT_.out (by kernel_rfl)) (by decide) (fun K hK => ?_)
                  refine goes_ Try.func25 (by kernel_rfl) rfl #[.slice (some ad377) l0.length c0, .int .i64 t380] (by rfl) rfl rfl (by (try simp only [List.map_toArray, List.map_cons, List.map_nil]); first | done | rfl | (simp only [List.length_drop, List.length_take]; rfl)) ?_
                  with_reducible refine (estoversref19_Own.calls kj35 _ _ l0 t380 t382 _ ?side1 ?side2 A53.out).mono ?_
                  (case side1 => repeat (first | exact (Kd.C_below HR0.out HB.out) | (with_reducible refine Kd.C_alloc ?_ _) | (with_reducible refine Kd.C_drewN ?_ _) | (with_reducible refine Kd.C_drew ?_)))
                  (case side2 => exact HC0.out)
                  rintro e w' ⟨rfl, ⟨nd, rfl⟩⟩
                  refine ⟨_, rfl, ?_⟩; refine hK.out _ _ (((HB.out.cell (World.block_lt_of_cell? w _ hw383_0)).trans hw383_0)) (fun hHeld => ?_); clear hK K; refine norm_ (a' := ?_) ?_ ?_
                  rotate_left
                  ·
                   show Act.put _ (some 117) _ = _
                   simp only [Act.put, z0_, z1_, z2_, i64_w, i32_w]; rfl
                  refine pure_ (i := 23) (N := some 122) (v := ?_) (a' := ?_) #[T0,T0,T0,T0,T0,T0,T0,T0,T0,T0,T0,T0,T0,T0,T0,T0,T0,T0,T0,T0,T0,T0,T0,T0,F0,F0,F0,F0,F0,F0,F0,F0] rfl rfl (any_of HT_.out (by kernel_rfl)) (fun _ _ _ h => h) (Or.inl ⟨by rfl, ?_⟩) ?_ ?_
                  rotate_left
                  · intro w'; go_simp; with_reducible rfl
                  rotate_left
                  · simp only [Act.put, z0_, z1_, z2_, i64_w, i32_w]; rfl
                  refine pure_ (i := 24) (N := some 123) (v := ?_) (a' := ?_) #[T0,T0,T0,T0,T0,T0,T0,T0,T0,T0,T0,T0,T0,T0,T0,T0,T0,T0,T0,T0,T0,T0,T0,T0,T0,F0,F0,F0,F0,F0,F0,F0] rfl rfl (any_of HT_.out (by kernel_rfl)) (fun _ _ _ h => h) (Or.inl ⟨by rfl, ?_⟩) ?_ ?_
                  rotate_left
                  · intro w'; go_simp; with_reducible rfl
                  rotate_left
                  · simp only [Act.put, z0_, z1_, z2_, i64_w, i32_w]; rfl
                  refine pure_ (i := 25) (N := some 124) (v := ?_) (a' := ?_) #[T0,T0,T0,T0,T0,T0,T0,T0,T0,T0,T0,T0,T0,T0,T0,T0,T0,T0,T0,T0,T0,T0,T0,T0,T0,T0,F0,F0,F0,F0,F0,F0] rfl rfl (any_of HT_.out (by kernel_rfl)) (fun _ _ _ h => h) (Or.inl ⟨by rfl, ?_⟩) ?_ ?_
                  rotate_left
                  · intro w'; go_simp; with_reducible rfl
                  rotate_left
                  · simp only [Act.put, z0_, z1_, z2_, i64_w, i32_w]; rfl
                  refine pure_ (i := 26) (N := some 125) (v := undef) (a' := ?_) #[T0,T0,T0,T0,T0,T0,T0,T0,T0,T0,T0,T0,T0,T0,T0,T0,T0,T0,T0,T0,T0,T0,T0,T0,T0,T0,T0,F0,F0,F0,F0,F0] rfl rfl (any_of HT_.out (by kernel_rfl)) (fun _ _ _ h => h) (Or.inr ⟨by rfl, rfl⟩) ?_ ?_
                  rotate_left
                  · simp only [Act.put, z0_, z1_, z2_, i64_w, i32_w]; rfl
                  refine pure_ (i := 27) (N := some 126) (v := undef) (a' := ?_) #[T0,T0,T0,T0,T0,T0,T0,T0,T0,T0,T0,T0,T0,T0,T0,T0,T0,T0,T0,T0,T0,T0,T0,T0,T0,T0,T0,T0,F0,F0,F0,F0] rfl rfl (any_of HT_.out (by kernel_rfl)) (fun _ _ _ h => h) (Or.inr ⟨by rfl, rfl⟩) ?_ ?_
                  rotate_left
                  · simp only [Act.put, z0_, z1_, z2_, i64_w, i32_w]; rfl
                  refine pure_ (i := 28) (N := some 127) (v := undef) (a' := ?_) #[T0,T0,T0,T0,T0,T0,T0,T0,T0,T0,T0,T0,T0,T0,T0,T0,T0,T0,T0,T0,T0,T0,T0,T0,T0,T0,T0,T0,T0,F0,F0,F0] rfl rfl (any_of HT_.out (by kernel_rfl)) (fun _ _ _ h => h) (Or.inr ⟨by rfl, rfl⟩) ?_ ?_
                  rotate_left
                  · simp only [Act.put, z0_, z1_, z2_, i64_w, i32_w]; rfl
                  refine pure_ (i := 29) (N := some 128) (v := undef) (a' := ?_) #[T0,T0,T0,T0,T0,T0,T0,T0,T0,T0,T0,T0,T0,T0,T0,T0,T0,T0,T0,T0,T0,T0,T0,T0,T0,T0,T0,T0,T0,T0,F0,F0] rfl rfl (any_of HT_.out (by kernel_rfl)) (fun _ _ _ h => h) (Or.inr ⟨by rfl, rfl⟩) ?_ ?_
                  rotate_left
                  · simp only [Act.put, z0_, z1_, z2_, i64_w, i32_w]; rfl
                  refine pure_ (i := 30) (N := some 129) (v := undef) (a' := ?_) #[T0,T0,T0,T0,T0,T0,T0,T0,T0,T0,T0,T0,T0,T0,T0,T0,T0,T0,T0,T0,T0,T0,T0,T0,T0,T0,T0,T0,T0,T0,T0,F0] rfl rfl (any_of HT_.out (by kernel_rfl)) (fun _ _ _ h => h) (Or.inr ⟨by rfl, rfl⟩) ?_ ?_
                  rotate_left
                  · simp only [Act.put, z0_, z1_, z2_, i64_w, i32_w]; rfl
                  refine pure_ (i := 31) (N := some 130) (v := ?_) (a' := ?_) #[T0,T0,T0,T0,T0,T0,T0,T0,T0,T0,T0,T0,T0,T0,T0,T0,T0,T0,T0,T0,T0,T0,T0,T0,T0,T0,T0,T0,T0,T0,T0,T0] rfl rfl (any_of HT_.out (by kernel_rfl)) (fun _ _ _ h => h) (Or.inl ⟨by rfl, ?_⟩) ?_ ?_
                  rotate_left
                  · intro w'; go_simp; with_reducible rfl
                  rotate_left
                  · simp only [Act.put, z0_, z1_, z2_, i64_w, i32_w]; rfl
                  refine done_ (done_of HT_.out (by kernel_rfl)) ?_
                  try go_wp2
                  go_meet
                  case rel => exact ⟨_, (true), (by first | rfl | (simp; done) | (simp [*]; done)), H', ⟨by have := HJ3.out; have := HK2.out; have := HJ24.out; have := HK4.out; have := HJ35.out; first | omega | exact Nat.le_refl _⟩, ⟨by (with_reducible repeat (first | apply Kd.R_alloc | apply Kd.R_drewN | apply Kd.R_drew)); exact HO_10.out⟩, ⟨by repeat (first | (with_reducible first | exact HB.out | apply below_alloc | apply pw_below_drewN | apply below_drew1) | exact HB.out)⟩⟩
                 rw [if_pos c49] at H; have c49b0 : decide ((l0.length : Int) ≤ t380) = true := decide_eq_true c49; clear c49; have H' := Aside0.mk H; clear H
                 try go_wp2
                 have n0_ := Aside0.mk (Kd.R_drew HO_10.out); have n1_ := Aside0.mk (below_drew1 HB.out); clear HO_10; clear HB; have HO_10 := n0_; have HB := n1_; clear n0_ n1_
                 refine start_ (n := 32) (S := fun w' => True) (ds := []) #[F0,F0,F0,F0,F0,F0,F0,F0,F0,F0,F0,F0,F0,F0,F0,F0,F0,F0,F0,F0,F0,F0,F0,F0,F0,F0,F0,F0,F0,F0,F0,F0] (by kernel_rfl) rfl rfl trivial (fun hHeld => ?_); refine with_tabW estoverslaw20_ProtectionOpens.tab23 estoverslaw20_ProtectionOpens.bits23 (fun HT_ HW_ => ?_); generalize w46.drew = w50 at HO_10 HB hHeld ⊢
                 refine pure_ (i := 0) (N := some 99) (v := ?_) (a' := ?_) #[T0,F0,F0,F0,F0,F0,F0,F0,F0,F0,F0,F0,F0,F0,F0,F0,F0,F0,F0,F0,F0,F0,F0,F0,F0,F0,F0,F0,F0,F0,F0,F0] rfl rfl (any_of HT_.out (by kernel_rfl)) (fun _ _ _ h => h) (Or.inl ⟨by rfl, ?_⟩) ?_ ?_
                 rotate_left
                 · intro w'; go_simp; with_reducible rfl
                 rotate_left
                 · simp only [Act.put, z0_, z1_, z2_, i64_w, i32_w]; rfl
                 refine pure_ (i := 1) (N := some 100) (v := ?_) (a' := ?_) #[T0,T0,F0,F0,F0,F0,F0,F0,F0,F0,F0,F0,F0,F0,F0,F0,F0,F0,F0,F0,F0,F0,F0,F0,F0,F0,F0,F0,F0,F0,F0,F0] rfl rfl (any_of HT_.out (by kernel_rfl)) (fun _ _ _ h => h) (Or.inl ⟨by rfl, ?_⟩) ?_ ?_
                 rotate_left
                 · intro w'; go_simp; with_reducible rfl
                 rotate_left
                 · simp only [Act.put, z0_, z1_, z2_, i64_w, i32_w]; rfl
                 refine pure_ (i := 2) (N := some 101) (v := ?_) (a' := ?_) #[T0,T0,T0,F0,F0,F0,F0,F0,F0,F0,F0,F0,F0,F0,F0,F0,F0,F0,F0,F0,F0,F0,F0,F0,F0,F0,F0,F0,F0,F0,F0,F0] rfl rfl (any_of HT_.out (by kernel_rfl)) (fun _ _ _ h => h) (Or.inl ⟨by rfl, ?_⟩) ?_ ?_
                 rotate_left
                 · intro w'; go_simp; with_reducible rfl
                 rotate_left
                 · simp only [Act.put, z0_, z1_, z2_, i64_w, i32_w]; rfl
                 refine pure_ (i := 3) (N := some 102) (v := ?_) (a' := ?_) #[T0,T0,T0,T0,F0,F0,F0,F0,F0,F0,F0,F0,F0,F0,F0,F0,F0,F0,F0,F0,F0,F0,F0,F0,F0,F0,F0,F0,F0,F0,F0,F0] rfl rfl (any_of HT_.out (by kernel_rfl)) (fun _ _ _ h => h) (Or.inl ⟨by rfl, ?_⟩) ?_ ?_
                 rotate_left
                 · intro w'; go_simp; with_reducible rfl
                 rotate_left
                 · simp only [Act.put, z0_, z1_, z2_, i64_w, i32_w]; rfl
                 refine pure_ (i := 4) (N := some 103) (v := ?_) (a' := ?_) #[T0,T0,T0,T0,T0,F0,F0,F0,F0,F0,F0,F0,F0,F0,F0,F0,F0,F0,F0,F0,F0,F0,F0,F0,F0,F0,F0,F0,F0,F0,F0,F0] rfl rfl (any_of HT_.out (by kernel_rfl)) (fun _ _ _ h => h) (Or.inl ⟨by rfl, ?_⟩) ?_ ?_
                 rotate_left
                 · intro w'; go_simp; with_reducible rfl
                 rotate_left
                 · simp only [Act.put, z0_, z1_, z2_, i64_w, i32_w]; rfl
                 refine pure_ (i := 5) (N := some 104) (v := ?_) (a' := ?_) #[T0,T0,T0,T0,T0,T0,F0,F0,F0,F0,F0,F0,F0,F0,F0,F0,F0,F0,F0,F0,F0,F0,F0,F0,F0,F0,F0,F0,F0,F0,F0,F0] rfl rfl (any_of HT_.out (by kernel_rfl)) (fun _ _ _ h => h) (Or.inl ⟨by rfl, ?_⟩) ?_ ?_
                 rotate_left
                 · intro w'; go_simp; with_reducible rfl
                 rotate_left
                 · simp only [Act.put, z0_, z1_, z2_, i64_w, i32_w]; rfl
                 refine pure_ (i := 6) (N := some 105) (v := ?_) (a' := ?_) #[T0,T0,T0,T0,T0,T0,T0,F0,F0,F0,F0,F0,F0,F0,F0,F0,F0,F0,F0,F0,F0,F0,F0,F0,F0,F0,F0,F0,F0,F0,F0,F0] rfl rfl (any_of HT_.out (by kernel_rfl)) (fun _ _ _ h => h) (Or.inl ⟨by rfl, ?_⟩) ?_ ?_
                 rotate_left
                 · intro w'; go_simp; with_reducible rfl
                 rotate_left
                 · simp only [Act.put, z0_, z1_, z2_, i64_w, i32_w]; rfl
                 refine pure_ (i := 7) (N := some 106) (v := ?_) (a' := ?_) #[T0,T0,T0,T0,T0,T0,T0,T0,F0,F0,F0,F0,F0,F0,F0,F0,F0,F0,F0,F0,F0,F0,F0,F0,F0,F0,F0,F0,F0,F0,F0,F0] rfl rfl (any_of HT_.out (by kernel_rfl)) (fun _ _ _ h => h) (Or.inl ⟨by rfl, ?_⟩) ?_ ?_
                 rotate_left
                 · intro w'; go_simp; with_reducible rfl
                 rotate_left
                 · simp only [Act.put, z0_, z1_, z2_, i64_w, i32_w]; rfl
                 refine pure_ (i := 8) (N := some 107) (v := ?_) (a' := ?_) #[T0,T0,T0,T0,T0,T0,T0,T0,T0,F0,F0,F0,F0,F0,F0,F0,F0,F0,F0,F0,F0,F0,F0,F0,F0,F0,F0,F0,F0,F0,F0,F0] rfl rfl (any_of HT_.out (by kernel_rfl)) (fun _ _ _ h => h) (Or.inl ⟨by rfl, ?_⟩) ?_ ?_
                 rotate_left
                 · intro w'; go_simp; with_reducible rfl
                 rotate_left
                 · simp only [Act.put, z0_, z1_, z2_, i64_w, i32_w]; rfl
                 refine pure_ (i := 9) (N := some 108) (v := undef) (a' := ?_) #[T0,T0,T0,T0,T0,T0,T0,T0,T0,T0,F0,F0,F0,F0,F0,F0,F0,F0,F0,F0,F0,F0,F0,F0,F0,F0,F0,F0,F0,F0,F0,F0] rfl rfl (any_of HT_.out (by kernel_rfl)) (fun _ _ _ h => h) (Or.inr ⟨by rfl, rfl⟩) ?_ ?_
                 rotate_left
                 · simp only [Act.put, z0_, z1_, z2_, i64_w, i32_w]; rfl
                 refine pure_ (i := 10) (N := some 109) (v := undef) (a' := ?_) #[T0,T0,T0,T0,T0,T0,T0,T0,T0,T0,T0,F0,F0,F0,F0,F0,F0,F0,F0,F0,F0,F0,F0,F0,F0,F0,F0,F0,F0,F0,F0,F0] rfl rfl (any_of HT_.out (by kernel_rfl)) (fun _ _ _ h => h) (Or.inr ⟨by rfl, rfl⟩) ?_ ?_
                 rotate_left
                 · simp only [Act.put, z0_, z1_, z2_, i64_w, i32_w]; rfl
                 refine pure_ (i := 11) (N := some 110) (v := undef) (a' := ?_) #[T0,T0,T0,T0,T0,T0,T0,T0,T0,T0,T0,T0,F0,F0,F0,F0,F0,F0,F0,F0,F0,F0,F0,F0,F0,F0,F0,F0,F0,F0,F0,F0] rfl rfl (any_of HT_.out (by kernel_rfl)) (fun _ _ _ h => h) (Or.inr ⟨by rfl, rfl⟩) ?_ ?_
                 rotate_left
                 · simp only [Act.put, z0_, z1_, z2_, i64_w, i32_w]; rfl
                 refine pure_ (i := 12) (N := some 111) (v := undef) (a' := ?_) #[T0,T0,T0,T0,T0,T0,T0,T0,T0,T0,T0,T0,T0,F0,F0,F0,F0,F0,F0,F0,F0,F0,F0,F0,F0,F0,F0,F0,F0,F0,F0,F0] rfl rfl (any_of HT_.out (by kernel_rfl)) (fun _ _ _ h => h) (Or.inr ⟨by rfl, rfl⟩) ?_ ?_
                 rotate_left
                 · simp only [Act.put, z0_, z1_, z2_, i64_w, i32_w]; rfl
                 refine pure_ (i := 13) (N := some 112) (v := undef) (a' := ?_) #[T0,T0,T0,T0,T0,T0,T0,T0,T0,T0,T0,T0,T0,T0,F0,F0,F0,F0,F0,F0,F0,F0,F0,F0,F0,F0,F0,F0,F0,F0,F0,F0] rfl rfl (any_of HT_.out (by kernel_rfl)) (fun _ _ _ h => h) (Or.inr ⟨by rfl, rfl⟩) ?_ ?_
                 rotate_left
                 · simp only [Act.put, z0_, z1_, z2_, i64_w, i32_w]; rfl
                 refine pure_ (i := 14) (N := some 113) (v := ?_) (a' := ?_) #[T0,T0,T0,T0,T0,T0,T0,T0,T0,T0,T0,T0,T0,T0,T0,F0,F0,F0,F0,F0,F0,F0,F0,F0,F0,F0,F0,F0,F0,F0,F0,F0] rfl rfl (any_of HT_.out (by kernel_rfl)) (fun _ _ _ h => h) (Or.inl ⟨by rfl, ?_⟩) ?_ ?_
                 rotate_left
                 · intro w'; go_simp; with_reducible rfl
                 rotate_left
                 · simp only [Act.put, z0_, z1_, z2_, i64_w, i32_w]; rfl
                 refine pure_ (i := 15) (N := some 114) (v := ?_) (a' := ?_) #[T0,T0,T0,T0,T0,T0,T0,T0,T0,T0,T0,T0,T0,T0,T0,T0,F0,F0,F0,F0,F0,F0,F0,F0,F0,F0,F0,F0,F0,F0,F0,F0] rfl rfl (any_of HT_.out (by kernel_rfl)) (fun _ _ _ h => h) (Or.inl ⟨by rfl, ?_⟩) ?_ ?_
                 rotate_left
                 · intro w'; go_simp; with_reducible rfl
                 rotate_left
                 · simp only [Act.put, z0_, z1_, z2_, i64_w, i32_w]; rfl
                 refine pure_ (i := 16) (N := some 115) (v := undef) (a' := ?_) #[T0,T0,T0,T0,T0,T0,T0,T0,T0,T0,T0,T0,T0,T0,T0,T0,T0,F0,F0,F0,F0,F0,F0,F0,F0,F0,F0,F0,F0,F0,F0,F0] rfl rfl (any_of HT_.out (by kernel_rfl)) (fun _ _ _ h => h) (Or.inr ⟨by rfl, rfl⟩) ?_ ?_
                 rotate_left
                 · simp only [Act.put, z0_, z1_, z2_, i64_w, i32_w]; rfl
                 refine pure_ (i := 17) (N := some 116) (v := undef) (a' := ?_) #[T0,T0,T0,T0,T0,T0,T0,T0,T0,T0,T0,T0,T0,T0,T0,T0,T0,T0,F0,F0,F0,F0,F0,F0,F0,F0,F0,F0,F0,F0,F0,F0] rfl rfl (any_of HT_.out (by kernel_rfl)) (fun _ _ _ h => h) (Or.inr ⟨by rfl, rfl⟩) ?_ ?_
                 rotate_left
                 · simp only [Act.put, z0_, z1_, z2_, i64_w, i32_w]; rfl
                 refine pure_ (i := 18) (N := some 117) (v := undef) (a' := ?_) #[T0,T0,T0,T0,T0,T0,T0,T0,T0,T0,T0,T0,T0,T0,T0,T0,T0,T0,T0,F0,F0,F0,F0,F0,F0,F0,F0,F0,F0,F0,F0,F0] rfl rfl (any_of HT_.out (by kernel_rfl)) (fun _ _ _ h => h) (Or.inr ⟨by rfl, rfl⟩) ?_ ?_
                 rotate_left
                 · simp only [Act.put, z0_, z1_, z2_, i64_w, i32_w]; rfl
                 refine pure_ (i := 19) (N := some 118) (v := undef) (a' := ?_) #[T0,T0,T0,T0,T0,T0,T0,T0,T0,T0,T0,T0,T0,T0,T0,T0,T0,T0,T0,T0,F0,F0,F0,F0,F0,F0,F0,F0,F0,F0,F0,F0] rfl rfl (any_of HT_.out (by kernel_rfl)) (fun _ _ _ h => h) (Or.inr ⟨by rfl, rfl⟩) ?_ ?_
                 rotate_left
                 · simp only [Act.put, z0_, z1_, z2_, i64_w, i32_w]; rfl
                 refine pure_ (i := 20) (N := some 119) (v := undef) (a' := ?_) #[T0,T0,T0,T0,T0,T0,T0,T0,T0,T0,T0,T0,T0,T0,T0,T0,T0,T0,T0,T0,T0,F0,F0,F0,F0,F0,F0,F0,F0,F0,F0,F0] rfl rfl (any_of HT_.out (by kernel_rfl)) (fun _ _ _ h => h) (Or.inr ⟨by rfl, rfl⟩) ?_ ?_
                 rotate_left
                 · simp only [Act.put, z0_, z1_, z2_, i64_w, i32_w]; rfl
                 refine pure_ (i := 21) (N := some 120) (v := undef) (a' := ?_) #[T0,T0,T0,T0,T0,T0,T0,T0,T0,T0,T0,T0,T0,T0,T0,T0,T0,T0,T0,T0,T0,T0,F0,F0,F0,F0,F0,F0,F0,F0,F0,F0] rfl rfl (any_of HT_.out (by kernel_rfl)) (fun _ _ _ h => h) (Or.inr ⟨by rfl, rfl⟩) ?_ ?_
                 rotate_left
                 · simp only [Act.put, z0_, z1_, z2_, i64_w, i32_w]; rfl
                 refine pure_ (i := 22) (N := some 121) (v := undef) (a' := ?_) #[T0,T0,T0,T0,T0,T0,T0,T0,T0,T0,T0,T0,T0,T0,T0,T0,T0,T0,T0,T0,T0,T0,T0,F0,F0,F0,F0,F0,F0,F0,F0,F0] rfl rfl (any_of HT_.out (by kernel_rfl)) (fun _ _ _ h => h) (Or.inr ⟨by rfl, rfl⟩) ?_ ?_
                 rotate_left
                 · simp only [Act.put, z0_, z1_, z2_, i64_w, i32_w]; rfl
                 refine pure_ (i := 23) (N := some 122) (v := undef) (a' := ?_) #[T0,T0,T0,T0,T0,T0,T0,T0,T0,T0,T0,T0,T0,T0,T0,T0,T0,T0,T0,T0,T0,T0,T0,T0,F0,F0,F0,F0,F0,F0,F0,F0] rfl rfl (any_of HT_.out (by kernel_rfl)) (fun _ _ _ h => h) (Or.inr ⟨by rfl, rfl⟩) ?_ ?_
                 rotate_left
                 · simp only [Act.put, z0_, z1_, z2_, i64_w, i32_w]; rfl
                 refine pure_ (i := 24) (N := some 123) (v := ?_) (a' := ?_) #[T0,T0,T0,T0,T0,T0,T0,T0,T0,T0,T0,T0,T0,T0,T0,T0,T0,T0,T0,T0,T0,T0,T0,T0,T0,F0,F0,F0,F0,F0,F0,F0] rfl rfl (any_of HT_.out (by kernel_rfl)) (fun _ _ _ h => h) (Or.inl ⟨by rfl, ?_⟩) ?_ ?_
                 rotate_left
                 · intro w'; go_simp; with_reducible rfl
                 rotate_left
                 · simp only [Act.put, z0_, z1_, z2_, i64_w, i32_w]; rfl
                 refine pure_ (i := 25) (N := some 124) (v := ?_) (a' := ?_) #[T0,T0,T0,T0,T0,T0,T0,T0,T0,T0,T0,T0,T0,T0,T0,T0,T0,T0,T0,T0,T0,T0,T0,T0,T0,T0,F0,F0,F0,F0,F0,F0] rfl rfl (any_of HT_.out (by kernel_rfl)) (fun _ _ _ h => h) (Or.inl ⟨by rfl, ?_⟩) ?_ ?_
                 rotate_left
                 · intro w'; go_simp; with_reducible rfl
                 rotate_left
                 · simp only [Act.put, z0_, z1_, z2_, i64_w, i32_w]; rfl
                 refine pure_ (i := 26) (N := some 125) (v := undef) (a' := ?_) #[T0,T0,T0,T0,T0,T0,T0,T0,T0,T0,T0,T0,T0,T0,T0,T0,T0,T0,T0,T0,T0,T0,T0,T0,T0,T0,T0,F0,F0,F0,F0,F0] rfl rfl (any_of HT_.out (by kernel_rfl)) (fun _ _ _ h => h) (Or.inr ⟨by rfl, rfl⟩) ?_ ?_
                 rotate_left
                 · simp only [Act.put, z0_, z1_, z2_, i64_w, i32_w]; rfl
                 refine pure_ (i := 27) (N := some 126) (v := undef) (a' := ?_) #[T0,T0,T0,T0,T0,T0,T0,T0,T0,T0,T0,T0,T0,T0,T0,T0,T0,T0,T0,T0,T0,T0,T0,T0,T0,T0,T0,T0,F0,F0,F0,F0] rfl rfl (any_of HT_.out (by kernel_rfl)) (fun _ _ _ h => h) (Or.inr ⟨by rfl, rfl⟩) ?_ ?_
                 rotate_left
                 · simp only [Act.put, z0_, z1_, z2_, i64_w, i32_w]; rfl
                 refine pure_ (i := 28) (N := some 127) (v := undef) (a' := ?_) #[T0,T0,T0,T0,T0,T0,T0,T0,T0,T0,T0,T0,T0,T0,T0,T0,T0,T0,T0,T0,T0,T0,T0,T0,T0,T0,T0,T0,T0,F0,F0,F0] rfl rfl (any_of HT_.out (by kernel_rfl)) (fun _ _ _ h => h) (Or.inr ⟨by rfl, rfl⟩) ?_ ?_
                 rotate_left
                 · simp only [Act.put, z0_, z1_, z2_, i64_w, i32_w]; rfl
                 refine pure_ (i := 29) (N := some 128) (v := undef) (a' := ?_) #[T0,T0,T0,T0,T0,T0,T0,T0,T0,T0,T0,T0,T0,T0,T0,T0,T0,T0,T0,T0,T0,T0,T0,T0,T0,T0,T0,T0,T0,T0,F0,F0] rfl rfl (any_of HT_.out (by kernel_rfl)) (fun _ _ _ h => h) (Or.inr ⟨by rfl, rfl⟩) ?_ ?_
                 rotate_left
                 · simp only [Act.put, z0_, z1_, z2_, i64_w, i32_w]; rfl
                 refine pure_ (i := 30) (N := some 129) (v := undef) (a' := ?_) #[T0,T0,T0,T0,T0,T0,T0,T0,T0,T0,T0,T0,T0,T0,T0,T0,T0,T0,T0,T0,T0,T0,T0,T0,T0,T0,T0,T0,T0,T0,T0,F0] rfl rfl (any_of HT_.out (by kernel_rfl)) (fun _ _ _ h => h) (Or.inr ⟨by rfl, rfl⟩) ?_ ?_
                 rotate_left
                 · simp only [Act.put, z0_, z1_, z2_, i64_w, i32_w]; rfl
                 refine pure_ (i := 31) (N := some 130) (v := ?_) (a' := ?_) #[T0,T0,T0,T0,T0,T0,T0,T0,T0,T0,T0,T0,T0,T0,T0,T0,T0,T0,T0,T0,T0,T0,T0,T0,T0,T0,T0,T0,T0,T0,T0,T0] rfl rfl (any_of HT_.out (by kernel_rfl)) (fun _ _ _ h => h) (Or.inl ⟨by rfl, ?_⟩) ?_ ?_
                 rotate_left
                 · intro w'; go_simp; with_reducible rfl
                 rotate_left
                 · simp only [Act.put, z0_, z1_, z2_, i64_w, i32_w]; rfl
                 refine done_ (done_of HT_.out (by kernel_rfl)) ?_
                 try go_wp2
                 go_meet
                 case rel => exact ⟨_, (true), (by first | rfl | (simp; done) | (simp [*]; done)), H', ⟨by have := HJ3.out; have := HK2.out; have := HJ24.out; have := HK4.out; have := HJ35.out; first | omega | exact Nat.le_refl _⟩, ⟨by (with_reducible repeat (first | apply Kd.R_alloc | apply Kd.R_drewN | apply Kd.R_drew)); exact HO_10.out⟩, ⟨by repeat (first | (with_reducible first | exact HB.out | apply below_alloc | apply pw_below_drewN | apply below_drew1) | exact HB.out)⟩⟩
                rw [if_pos c47] at H; have c47b0 : decide (t380 < 0) = true := decide_eq_true c47; clear c47
                (first | rw [c47b0] | (simp only [i64_w, i32_w]; rw [c47b0]) | skip)
                have H' := Aside0.mk H; clear H
                try go_wp2
                have n0_ := Aside0.mk (Kd.R_drew HO_10.out); have n1_ := Aside0.mk (below_drew1 HB.out); clear HO_10; clear HB; have HO_10 := n0_; have HB := n1_; clear n0_ n1_
                refine start_ (n := 32) (S := fun w' => True) (ds := []) #[F0,F0,F0,F0,F0,F0,F0,F0,F0,F0,F0,F0,F0,F0,F0,F0,F0,F0,F0,F0,F0,F0,F0,F0,F0,F0,F0,F0,F0,F0,F0,F0] (by kernel_rfl) rfl rfl trivial (fun hHeld => ?_); refine with_tabW estoverslaw20_ProtectionOpens.tab23 estoverslaw20_ProtectionOpens.bits23 (fun HT_ HW_ => ?_); generalize w46.drew = w48 at HO_10 HB hHeld ⊢
                refine pure_ (i := 0) (N := some 99) (v := ?_) (a' := ?_) #[T0,F0,F0,F0,F0,F0,F0,F0,F0,F0,F0,F0,F0,F0,F0,F0,F0,F0,F0,F0,F0,F0,F0,F0,F0,F0,F0,F0,F0,F0,F0,F0] rfl rfl (any_of HT_.out (by kernel_rfl)) (fun _ _ _ h => h) (Or.inl ⟨by rfl, ?_⟩) ?_ ?_
                rotate_left
                · intro w'; go_simp; with_reducible rfl
                rotate_left
                · simp only [Act.put, z0_, z1_, z2_, i64_w, i32_w]; rfl
                refine pure_ (i := 1) (N := some 100) (v := ?_) (a' := ?_) #[T0,T0,F0,F0,F0,F0,F0,F0,F0,F0,F0,F0,F0,F0,F0,F0,F0,F0,F0,F0,F0,F0,F0,F0,F0,F0,F0,F0,F0,F0,F0,F0] rfl rfl (any_of HT_.out (by kernel_rfl)) (fun _ _ _ h => h) (Or.inl ⟨by rfl, ?_⟩) ?_ ?_
                rotate_left
                · intro w'; go_simp; with_reducible rfl
                rotate_left
                · simp only [Act.put, z0_, z1_, z2_, i64_w, i32_w]; rfl
                refine pure_ (i := 2) (N := some 101) (v := ?_) (a' := ?_) #[T0,T0,T0,F0,F0,F0,F0,F0,F0,F0,F0,F0,F0,F0,F0,F0,F0,F0,F0,F0,F0,F0,F0,F0,F0,F0,F0,F0,F0,F0,F0,F0] rfl rfl (any_of HT_.out (by kernel_rfl)) (fun _ _ _ h => h) (Or.inl ⟨by rfl, ?_⟩) ?_ ?_
                rotate_left
                · intro w'; go_simp; with_reducible rfl
                rotate_left
                · simp only [Act.put, z0_, z1_, z2_, i64_w, i32_w]; rfl
                refine pure_ (i := 3) (N := some 102) (v := undef) (a' := ?_) #[T0,T0,T0,T0,F0,F0,F0,F0,F0,F0,F0,F0,F0,F0,F0,F0,F0,F0,F0,F0,F0,F0,F0,F0,F0,F0,F0,F0,F0,F0,F0,F0] rfl rfl (any_of HT_.out (by kernel_rfl)) (fun _ _ _ h => h) (Or.inr ⟨by rfl, rfl⟩) ?_ ?_
                rotate_left
                · simp only [Act.put, z0_, z1_, z2_, i64_w, i32_w]; rfl
                refine pure_ (i := 4) (N := some 103) (v := undef) (a' := ?_) #[T0,T0,T0,T0,T0,F0,F0,F0,F0,F0,F0,F0,F0,F0,F0,F0,F0,F0,F0,F0,F0,F0,F0,F0,F0,F0,F0,F0,F0,F0,F0,F0] rfl rfl (any_of HT_.out (by kernel_rfl)) (fun _ _ _ h => h) (Or.inr ⟨by rfl, rfl⟩) ?_ ?_
                rotate_left
                · simp only [Act.put, z0_, z1_, z2_, i64_w, i32_w]; rfl
                refine pure_ (i := 5) (N := some 104) (v := undef) (a' := ?_) #[T0,T0,T0,T0,T0,T0,F0,F0,F0,F0,F0,F0,F0,F0,F0,F0,F0,F0,F0,F0,F0,F0,F0,F0,F0,F0,F0,F0,F0,F0,F0,F0] rfl rfl (any_of HT_.out (by kernel_rfl)) (fun _ _ _ h => h) (Or.inr ⟨by rfl, rfl⟩) ?_ ?_
                rotate_left
                · simp only [Act.put, z0_, z1_, z2_, i64_w, i32_w]; rfl
                refine pure_ (i := 6) (N := some 105) (v := undef) (a' := ?_) #[T0,T0,T0,T0,T0,T0,T0,F0,F0,F0,F0,F0,F0,F0,F0,F0,F0,F0,F0,F0,F0,F0,F0,F0,F0,F0,F0,F0,F0,F0,F0,F0] rfl rfl (any_of HT_.out (by kernel_rfl)) (fun _ _ _ h => h) (Or.inr ⟨by rfl, rfl⟩) ?_ ?_
                rotate_left
                · simp only [Act.put, z0_, z1_, z2_, i64_w, i32_w]; rfl
                refine pure_ (i := 7) (N := some 106) (v := ?_) (a' := ?_) #[T0,T0,T0,T0,T0,T0,T0,T0,F0,F0,F0,F0,F0,F0,F0,F0,F0,F0,F0,F0,F0,F0,F0,F0,F0,F0,F0,F0,F0,F0,F0,F0] rfl rfl (any_of HT_.out (by kernel_rfl)) (fun _ _ _ h => h) (Or.inl ⟨by rfl, ?_⟩) ?_ ?_
                rotate_left
                · intro w'; go_simp; with_reducible rfl
                rotate_left
                · simp only [Act.put, z0_, z1_, z2_, i64_w, i32_w]; rfl
                refine pure_ (i := 8) (N := some 107) (v := ?_) (a' := ?_) #[T0,T0,T0,T0,T0,T0,T0,T0,T0,F0,F0,F0,F0,F0,F0,F0,F0,F0,F0,F0,F0,F0,F0,F0,F0,F0,F0,F0,F0,F0,F0,F0] rfl rfl (any_of HT_.out (by kernel_rfl)) (fun _ _ _ h => h) (Or.inl ⟨by rfl, ?_⟩) ?_ ?_
                rotate_left
                · intro w'; go_simp; with_reducible rfl
                rotate_left
                · simp only [Act.put, z0_, z1_, z2_, i64_w, i32_w]; rfl
                refine pure_ (i := 9) (N := some 108) (v := undef) (a' := ?_) #[T0,T0,T0,T0,T0,T0,T0,T0,T0,T0,F0,F0,F0,F0,F0,F0,F0,F0,F0,F0,F0,F0,F0,F0,F0,F0,F0,F0,F0,F0,F0,F0] rfl rfl (any_of HT_.out (by kernel_rfl)) (fun _ _ _ h => h) (Or.inr ⟨by rfl, rfl⟩) ?_ ?_
                rotate_left
                · simp only [Act.put, z0_, z1_, z2_, i64_w, i32_w]; rfl
                refine pure_ (i := 10) (N := some 109) (v := undef) (a' := ?_) #[T0,T0,T0,T0,T0,T0,T0,T0,T0,T0,T0,F0,F0,F0,F0,F0,F0,F0,F0,F0,F0,F0,F0,F0,F0,F0,F0,F0,F0,F0,F0,F0] rfl rfl (any_of HT_.out (by kernel_rfl)) (fun _ _ _ h => h) (Or.inr ⟨by rfl, rfl⟩) ?_ ?_
                rotate_left
                · simp only [Act.put, z0_, z1_, z2_, i64_w, i32_w]; rfl
                refine pure_ (i := 11) (N := some 110) (v := undef) (a' := ?_) #[T0,T0,T0,T0,T0,T0,T0,T0,T0,T0,T0,T0,F0,F0,F0,F0,F0,F0,F0,F0,F0,F0,F0,F0,F0,F0,F0,F0,F0,F0,F0,F0] rfl rfl (any_of HT_.out (by kernel_rfl)) (fun _ _ _ h => h) (Or.inr ⟨by rfl, rfl⟩) ?_ ?_
                rotate_left
                · simp only [Act.put, z0_, z1_, z2_, i64_w, i32_w]; rfl
                refine pure_ (i := 12) (N := some 111) (v := undef) (a' := ?_) #[T0,T0,T0,T0,T0,T0,T0,T0,T0,T0,T0,T0,T0,F0,F0,F0,F0,F0,F0,F0,F0,F0,F0,F0,F0,F0,F0,F0,F0,F0,F0,F0] rfl rfl (any_of HT_.out (by kernel_rfl)) (fun _ _ _ h => h) (Or.inr ⟨by rfl, rfl⟩) ?_ ?_
                rotate_left
                · simp only [Act.put, z0_, z1_, z2_, i64_w, i32_w]; rfl
                refine pure_ (i := 13) (N := some 112) (v := undef) (a' := ?_) #[T0,T0,T0,T0,T0,T0,T0,T0,T0,T0,T0,T0,T0,T0,F0,F0,F0,F0,F0,F0,F0,F0,F0,F0,F0,F0,F0,F0,F0,F0,F0,F0] rfl rfl (any_of HT_.out (by kernel_rfl)) (fun _ _ _ h => h) (Or.inr ⟨by rfl, rfl⟩) ?_ ?_
                rotate_left
                · simp only [Act.put, z0_, z1_, z2_, i64_w, i32_w]; rfl
                refine pure_ (i := 14) (N := some 113) (v := ?_) (a' := ?_) #[T0,T0,T0,T0,T0,T0,T0,T0,T0,T0,T0,T0,T0,T0,T0,F0,F0,F0,F0,F0,F0,F0,F0,F0,F0,F0,F0,F0,F0,F0,F0,F0] rfl rfl (any_of HT_.out (by kernel_rfl)) (fun _ _ _ h => h) (Or.inl ⟨by rfl, ?_⟩) ?_ ?_
                rotate_left
                · intro w'; go_simp; with_reducible rfl
                rotate_left
                · simp only [Act.put, z0_, z1_, z2_, i64_w, i32_w]; rfl
                refine pure_ (i := 15) (N := some 114) (v := ?_) (a' := ?_) #[T0,T0,T0,T0,T0,T0,T0,T0,T0,T0,T0,T0,T0,T0,T0,T0,F0,F0,F0,F0,F0,F0,F0,F0,F0,F0,F0,F0,F0,F0,F0,F0] rfl rfl (any_of HT_.out (by kernel_rfl)) (fun _ _ _ h => h) (Or.inl ⟨by rfl, ?_⟩) ?_ ?_
                rotate_left
                · intro w'; go_simp; with_reducible rfl
                rotate_left
                · simp only [Act.put, z0_, z1_, z2_, i64_w, i32_w]; rfl
                refine pure_ (i := 16) (N := some 115) (v := undef) (a' := ?_) #[T0,T0,T0,T0,T0,T0,T0,T0,T0,T0,T0,T0,T0,T0,T0,T0,T0,F0,F0,F0,F0,F0,F0,F0,F0,F0,F0,F0,F0,F0,F0,F0] rfl rfl (any_of HT_.out (by kernel_rfl)) (fun _ _ _ h => h) (Or.inr ⟨by rfl, rfl⟩) ?_ ?_
                rotate_left
                · simp only [Act.put, z0_, z1_, z2_, i64_w, i32_w]; rfl
                refine pure_ (i := 17) (N := some 116) (v := undef) (a' := ?_) #[T0,T0,T0,T0,T0,T0,T0,T0,T0,T0,T0,T0,T0,T0,T0,T0,T0,T0,F0,F0,F0,F0,F0,F0,F0,F0,F0,F0,F0,F0,F0,F0] rfl rfl (any_of HT_.out (by kernel_rfl)) (fun _ _ _ h => h) (Or.inr ⟨by rfl, rfl⟩) ?_ ?_
                rotate_left
                · simp only [Act.put, z0_, z1_, z2_, i64_w, i32_w]; rfl
                refine pure_ (i := 18) (N := some 117) (v := undef) (a' := ?_) #[T0,T0,T0,T0,T0,T0,T0,T0,T0,T0,T0,T0,T0,T0,T0,T0,T0,T0,T0,F0,F0,F0,F0,F0,F0,F0,F0,F0,F0,F0,F0,F0] rfl rfl (any_of HT_.out (by kernel_rfl)) (fun _ _ _ h => h) (Or.inr ⟨by rfl, rfl⟩) ?_ ?_
                rotate_left
                · simp only [Act.put, z0_, z1_, z2_, i64_w, i32_w]; rfl
                refine pure_ (i := 19) (N := some 118) (v := undef) (a' := ?_) #[T0,T0,T0,T0,T0,T0,T0,T0,T0,T0,T0,T0,T0,T0,T0,T0,T0,T0,T0,T0,F0,F0,F0,F0,F0,F0,F0,F0,F0,F0,F0,F0] rfl rfl (any_of HT_.out (by kernel_rfl)) (fun _ _ _ h => h) (Or.inr ⟨by rfl, rfl⟩) ?_ ?_
                rotate_left
                · simp only [Act.put, z0_, z1_, z2_, i64_w, i32_w]; rfl
                refine pure_ (i := 20) (N := some 119) (v := undef) (a' := ?_) #[T0,T0,T0,T0,T0,T0,T0,T0,T0,T0,T0,T0,T0,T0,T0,T0,T0,T0,T0,T0,T0,F0,F0,F0,F0,F0,F0,F0,F0,F0,F0,F0] rfl rfl (any_of HT_.out (by kernel_rfl)) (fun _ _ _ h => h) (Or.inr ⟨by rfl, rfl⟩) ?_ ?_
                rotate_left
                · simp only [Act.put, z0_, z1_, z2_, i64_w, i32_w]; rfl
                refine pure_ (i := 21) (N := some 120) (v := undef) (a' := ?_) #[T0,T0,T0,T0,T0,T0,T0,T0,T0,T0,T0,T0,T0,T0,T0,T0,T0,T0,T0,T0,T0,T0,F0,F0,F0,F0,F0,F0,F0,F0,F0,F0] rfl rfl (any_of HT_.out (by kernel_rfl)) (fun _ _ _ h => h) (Or.inr ⟨by rfl, rfl⟩) ?_ ?_
                rotate_left
                · simp only [Act.put, z0_, z1_, z2_, i64_w, i32_w]; rfl
                refine pure_ (i := 22) (N := some 121) (v := undef) (a' := ?_) #[T0,T0,T0,T0,T0,T0,T0,T0,T0,T0,T0,T0,T0,T0,T0,T0,T0,T0,T0,T0,T0,T0,T0,F0,F0,F0,F0,F0,F0,F0,F0,F0] rfl rfl (any_of HT_.out (by kernel_rfl)) (fun _ _ _ h => h) (Or.inr ⟨by rfl, rfl⟩) ?_ ?_
                rotate_left
                · simp only [Act.put, z0_, z1_, z2_, i64_w, i32_w]; rfl
                refine pure_ (i := 23) (N := some 122) (v := undef) (a' := ?_) #[T0,T0,T0,T0,T0,T0,T0,T0,T0,T0,T0,T0,T0,T0,T0,T0,T0,T0,T0,T0,T0,T0,T0,T0,F0,F0,F0,F0,F0,F0,F0,F0] rfl rfl (any_of HT_.out (by kernel_rfl)) (fun _ _ _ h => h) (Or.inr ⟨by rfl, rfl⟩) ?_ ?_
                rotate_left
                · simp only [Act.put, z0_, z1_, z2_, i64_w, i32_w]; rfl
                refine pure_ (i := 24) (N := some 123) (v := ?_) (a' := ?_) #[T0,T0,T0,T0,T0,T0,T0,T0,T0,T0,T0,T0,T0,T0,T0,T0,T0,T0,T0,T0,T0,T0,T0,T0,T0,F0,F0,F0,F0,F0,F0,F0] rfl rfl (any_of HT_.out (by kernel_rfl)) (fun _ _ _ h => h) (Or.inl ⟨by rfl, ?_⟩) ?_ ?_
                rotate_left
                · intro w'; go_simp; with_reducible rfl
                rotate_left
                · simp only [Act.put, z0_, z1_, z2_, i64_w, i32_w]; rfl
                refine pure_ (i := 25) (N := some 124) (v := ?_) (a' := ?_) #[T0,T0,T0,T0,T0,T0,T0,T0,T0,T0,T0,T0,T0,T0,T0,T0,T0,T0,T0,T0,T0,T0,T0,T0,T0,T0,F0,F0,F0,F0,F0,F0] rfl rfl (any_of HT_.out (by kernel_rfl)) (fun _ _ _ h => h) (Or.inl ⟨by rfl, ?_⟩) ?_ ?_
                rotate_left
                · intro w'; go_simp; with_reducible rfl
                rotate_left
                · simp only [Act.put, z0_, z1_, z2_, i64_w, i32_w]; rfl
                refine pure_ (i := 26) (N := some 125) (v := undef) (a' := ?_) #[T0,T0,T0,T0,T0,T0,T0,T0,T0,T0,T0,T0,T0,T0,T0,T0,T0,T0,T0,T0,T0,T0,T0,T0,T0,T0,T0,F0,F0,F0,F0,F0] rfl rfl (any_of HT_.out (by kernel_rfl)) (fun _ _ _ h => h) (Or.inr ⟨by rfl, rfl⟩) ?_ ?_
                rotate_left
                · simp only [Act.put, z0_, z1_, z2_, i64_w, i32_w]; rfl
                refine pure_ (i := 27) (N := some 126) (v := undef) (a' := ?_) #[T0,T0,T0,T0,T0,T0,T0,T0,T0,T0,T0,T0,T0,T0,T0,T0,T0,T0,T0,T0,T0,T0,T0,T0,T0,T0,T0,T0,F0,F0,F0,F0] rfl rfl (any_of HT_.out (by kernel_rfl)) (fun _ _ _ h => h) (Or.inr ⟨by rfl, rfl⟩) ?_ ?_
                rotate_left
                · simp only [Act.put, z0_, z1_, z2_, i64_w, i32_w]; rfl
                refine pure_ (i := 28) (N := some 127) (v := undef) (a' := ?_) #[T0,T0,T0,T0,T0,T0,T0,T0,T0,T0,T0,T0,T0,T0,T0,T0,T0,T0,T0,T0,T0,T0,T0,T0,T0,T0,T0,T0,T0,F0,F0,F0] rfl rfl (any_of HT_.out (by kernel_rfl)) (fun _ _ _ h => h) (Or.inr ⟨by rfl, rfl⟩) ?_ ?_
                rotate_left
                · simp only [Act.put, z0_, z1_, z2_, i64_w, i32_w]; rfl
                refine pure_ (i := 29) (N := some 128) (v := undef) (a' := ?_) #[T0,T0,T0,T0,T0,T0,T0,T0,T0,T0,T0,T0,T0,T0,T0,T0,T0,T0,T0,T0,T0,T0,T0,T0,T0,T0,T0,T0,T0,T0,F0,F0] rfl rfl (any_of HT_.out (by kernel_rfl)) (fun _ _ _ h => h) (Or.inr ⟨by rfl, rfl⟩) ?_ ?_
                rotate_left
                · simp only [Act.put, z0_, z1_, z2_, i64_w, i32_w]; rfl
                refine pure_ (i := 30) (N := some 129) (v := undef) (a' := ?_) #[T0,T0,T0,T0,T0,T0,T0,T0,T0,T0,T0,T0,T0,T0,T0,T0,T0,T0,T0,T0,T0,T0,T0,T0,T0,T0,T0,T0,T0,T0,T0,F0] rfl rfl (any_of HT_.out (by kernel_rfl)) (fun _ _ _ h => h) (Or.inr ⟨by rfl, rfl⟩) ?_ ?_
                rotate_left
                · simp only [Act.put, z0_, z1_, z2_, i64_w, i32_w]; rfl
                refine pure_ (i := 31) (N := some 130) (v := ?_) (a' := ?_) #[T0,T0,T0,T0,T0,T0,T0,T0,T0,T0,T0,T0,T0,T0,T0,T0,T0,T0,T0,T0,T0,T0,T0,T0,T0,T0,T0,T0,T0,T0,T0,T0] rfl rfl (any_of HT_.out (by kernel_rfl)) (fun _ _ _ h => h) (Or.inl ⟨by rfl, ?_⟩) ?_ ?_
                rotate_left
                · intro w'; go_simp; with_reducible rfl
                rotate_left
                · simp only [Act.put, z0_, z1_, z2_, i64_w, i32_w]; rfl
                refine done_ (done_of HT_.out (by kernel_rfl)) ?_
                try go_wp2
                go_meet
                case rel => exact ⟨_, (true), (by first | rfl | (simp; done) | (simp [*]; done)), H', ⟨by have := HJ3.out; have := HK2.out; have := HJ24.out; have := HK4.out; have := HJ35.out; first | omega | exact Nat.le_refl _⟩, ⟨by (with_reducible repeat (first | apply Kd.R_alloc | apply Kd.R_drewN | apply Kd.R_drew)); exact HO_10.out⟩, ⟨by repeat (first | (with_reducible first | exact HB.out | apply below_alloc | apply pw_below_drewN | apply below_drew1) | exact HB.out)⟩⟩
               case rest =>
                clear HC44
                try clear c1
                try clear c2
                try clear p2
                try clear p3
                try clear q3
                try clear hx3
                try clear c5
                try clear c16
                try clear c25
                try clear c26
                try clear p38
                try clear q38
                try clear hx38
                try clear c52
                try clear c54
                try clear c55
                try clear c56
                try clear c56b0
                try clear hx383_0
                try clear p383
                try clear q383
                obtain ⟨kq, x130_43, rfl, HA, HJ43, HO_10, HB⟩ := hcut
                cases kq with
                | zero => exact absurd HA.out (by simp [estoverslaw20_ProtectionOpens.j6])
                | succ kj43 =>
                 have H := HA.out; clear HA; simp only [estoverslaw20_ProtectionOpens.j6] at H; by_cases c65 : x130_43 = true
                 rotate_left
                 ·
                  replace c65 := Bool.eq_false_iff.mpr c65; subst c65
                  have H1 : (estoverslaw20_ProtectionOpens.l1 kj43 l0 l1 a2 t374 (l0.length : Int) (wrap64 (x72_4 + 1))) = some r := by rw [if_neg (show ¬ (false = true) by decide)] at H; exact H
                  clear H; have H := H1; clear H1; have H' := Aside0.mk H; clear H; go_wp2
                  go_roundg kj43
                  case measure => have := HJ3.out; have := HK2.out; have := HJ24.out; have := HK4.out; have := HJ35.out; have := HJ43.out; omega
                  case rel => exact ⟨(wrap64 (x72_4 + 1)), (by first | rfl | (simp; done) | (simp [*]; done)), H', ⟨by have := HJ3.out; have := HK2.out; have := HJ24.out; have := HK4.out; have := HJ35.out; have := HJ43.out; omega⟩, ⟨by (with_reducible repeat (first | apply Kd.R_alloc | apply Kd.R_drewN | apply Kd.R_drew)); exact HO_10.out⟩, ⟨by repeat (first | (with_reducible first | exact HB.out | apply below_alloc | apply pw_below_drewN | apply below_drew1) | exact HB.out)⟩⟩
                 subst c65
                 have H1 : (some false) = some r := by rw [if_pos rfl] at H; exact H
                 clear H; have H := H1; clear H1; obtain rfl := Option.some.inj H; go_wp2; go_ret; exact ⟨by first | rfl | (simp [errW_none, errW_some] <;> rfl) | (simp [*, errW_none, errW_some] <;> rfl), by repeat (first | (with_reducible first | exact HB.out | apply below_alloc | apply pw_below_drewN | apply below_drew1) | exact HB.out)⟩
              rw [if_pos c41] at H; have c41b0 : decide ((wrap64 (((rd_T41 l0 x72_4).f1) - (rd t374 x72_4))) ≤ x12_35) = true := decide_eq_true c41; clear c41; have H' := Aside0.mk H; clear H
              try go_wp2
              have n0_ := Aside0.mk (Kd.R_drew HO_10.out); have n1_ := Aside0.mk (below_drew1 HB.out); clear HO_10; clear HB; have HO_10 := n0_; have HB := n1_; clear n0_ n1_; have p378 : 0 ≤ (x72_4 : Int) := of_decide_eq_true (by first | (with_reducible assumption) | assumption); have q378 : x72_4 < (l0.length : Int) := of_decide_eq_true (by first | (with_reducible assumption) | assumption)
              obtain ⟨ad378, e378, hx378_0, hx378_1, hx378_2, hx378_3, hx378_4⟩ := at_T41 HR0.out x72_4 p378 q378; have hw378_4 := hx378_4; have hw378_3 := hx378_3; have hw378_2 := hx378_2; have hw378_1 := hx378_1; have hw378_0 := hx378_0; obtain rfl : ad377 = ad378 := (by injection e378); replace hx378_0 := (HB.out.cell (World.block_lt_of_cell? w _ hx378_0)).trans hx378_0
              replace hx378_1 := (HB.out.cell (World.block_lt_of_cell? w _ hx378_1)).trans hx378_1; replace hx378_2 := (HB.out.cell (World.block_lt_of_cell? w _ hx378_2)).trans hx378_2; replace hx378_3 := (HB.out.cell (World.block_lt_of_cell? w _ hx378_3)).trans hx378_3; replace hx378_4 := (HB.out.cell (World.block_lt_of_cell? w _ hx378_4)).trans hx378_4; replace p378 := eq_true p378
              replace q378 := eq_true q378; have p379 : 0 ≤ (x72_4 : Int) := of_decide_eq_true (by first | (with_reducible assumption) | assumption); have q379 : x72_4 < (t374.length : Int) := of_decide_eq_true (by first | (with_reducible assumption) | assumption); obtain ⟨ad379, e379, hx379_0⟩ := Kd.at_int (Kd.R_reads' HO_10.out).2.2 x72_4 p379 q379; cases e379; replace p379 := eq_true p379
              replace q379 := eq_true q379
              refine start_ (n := 12) (S := fun w' => w'.cell? (ad377.add ((x72_4).toNat * 5)) = some (.int .i64 ((rd_T41 l0 x72_4).f0)) ∧ w'.cell? ⟨(ad377.add ((x72_4).toNat * 5)).block, (ad377.add ((x72_4).toNat * 5)).off + 1, none⟩ = some (.int .i64 ((rd_T41 l0 x72_4).f1)) ∧ w'.cell? ⟨(ad377.add ((x72_4).toNat * 5)).block, (ad377.add ((x72_4).toNat * 5)).off + 2, none⟩ = some (.int .i64 ((rd_T41 l0 x72_4).f2)) ∧ w'.cell? ⟨(ad377.add ((x72_4).toNat * 5)).block, (ad377.add ((x72_4).toNat * 5)).off + 3, none⟩ = some (.int .i64 ((rd_T41 l0 x72_4).f3)) ∧ w'.cell? ⟨(ad377.add ((x72_4).toNat * 5)).block, (ad377.add ((x72_4).toNat * 5)).off + 4, none⟩ = some (.int .i64 ((rd_T41 l0 x72_4).f4)) ∧ w'.cell? (ad379.add (x72_4).toNat) = some (.int .i64 (rd t374 x72_4))) (ds := []) #[F0,F0,F0,F0,F0,F0,F0,F0,F0,F0,F0,F0] (by kernel_rfl) rfl rfl ⟨((HB.out.cell (World.block_lt_of_cell? w _ hw378_0)).trans hw378_0), ((HB.out.cell (World.block_lt_of_cell? w _ hw378_1)).trans hw378_1), ((HB.out.cell (World.block_lt_of_cell? w _ hw378_2)).trans hw378_2), ((HB.out.cell (World.block_lt_of_cell? w _ hw378_3)).trans hw378_3), ((HB.out.cell (World.block_lt_of_cell? w _ hw378_4)).trans hw378_4), hx379_0⟩ (fun hHeld => ?_); refine with_tabW estoverslaw20_ProtectionOpens.tab21 estoverslaw20_ProtectionOpens.bits21 (fun HT_ HW_ => ?_)
              generalize wc.drew = w42 at HO_10 HB hx378_0 hx378_1 hx378_2 hx378_3 hx378_4 hx379_0 hHeld ⊢; refine pure_ (i := 0) (N := some 83) (v := ?_) (a' := ?_) #[T0,F0,F0,F0,F0,F0,F0,F0,F0,F0,F0,F0] rfl rfl (any_of HT_.out (by kernel_rfl)) (fun _ _ _ h => h) (Or.inl ⟨by rfl, ?_⟩) ?_ ?_
              rotate_left
              · intro w'; go_simp; with_reducible rfl
              rotate_left
              · simp only [Act.put, z0_, z1_, z2_, i64_w, i32_w]; rfl
              refine pure_ (i := 1) (N := some 84) (v := ?_) (a' := ?_) #[T0,T0,F0,F0,F0,F0,F0,F0,F0,F0,F0,F0] rfl rfl (any_of HT_.out (by kernel_rfl)) (fun _ _ _ h => h) (Or.inl ⟨by rfl, ?_⟩) ?_ ?_
              rotate_left
              · intro w'; go_simp; with_reducible rfl
              rotate_left
              · simp only [Act.put, z0_, z1_, z2_, i64_w, i32_w]; rfl
              refine pure_ (i := 2) (N := some 85) (v := ?_) (a' := ?_) #[T0,T0,T0,F0,F0,F0,F0,F0,F0,F0,F0,F0] rfl rfl (any_of HT_.out (by kernel_rfl)) (fun _ _ _ h => h) (Or.inl ⟨by rfl, ?_⟩) ?_ ?_
              rotate_left
              · intro w'; go_simp; with_reducible rfl
              rotate_left
              · simp only [Act.put, z0_, z1_, z2_, i64_w, i32_w]; rfl
              refine pure_ (i := 3) (N := some 86) (v := ?_) (a' := ?_) #[T0,T0,T0,T0,F0,F0,F0,F0,F0,F0,F0,F0] rfl rfl (any_of HT_.out (by kernel_rfl)) (fun _ _ _ h => h) (Or.inl ⟨by rfl, ?_⟩) ?_ ?_
              rotate_left
              · intro w'; go_simp; with_reducible rfl
              rotate_left
              · simp only [Act.put, z0_, z1_, z2_, i64_w, i32_w]; rfl
              refine pure_ (i := 5) (N := some 88) (v := ?_) (a' := ?_) #[T0,T0,T0,T0,F0,T0,F0,F0,F0,F0,F0,F0] rfl rfl (any_of HT_.out (by kernel_rfl)) (fun _ _ _ h => h) (Or.inl ⟨by rfl, ?_⟩) ?_ ?_
              rotate_left
              · intro w'; go_simp; with_reducible rfl
              rotate_left
              · simp only [Act.put, z0_, z1_, z2_, i64_w, i32_w]; rfl
              refine pure_ (i := 6) (N := some 89) (v := ?_) (a' := ?_) #[T0,T0,T0,T0,F0,T0,T0,F0,F0,F0,F0,F0] rfl rfl (any_of HT_.out (by kernel_rfl)) (fun _ _ _ h => h) (Or.inl ⟨by rfl, ?_⟩) ?_ ?_
              rotate_left
              · intro w'; go_simp; with_reducible rfl
              rotate_left
              · simp only [Act.put, z0_, z1_, z2_, i64_w, i32_w]; rfl
              refine pure_ (i := 7) (N := some 90) (v := ?_) (a' := ?_) #[T0,T0,T0,T0,F0,T0,T0,T0,F0,F0,F0,F0] rfl rfl (any_of HT_.out (by kernel_rfl)) (fun _ _ _ h => h) (Or.inl ⟨by rfl, ?_⟩) ?_ ?_
              rotate_left
              · intro w'; go_simp; with_reducible rfl
              rotate_left
              · simp only [Act.put, z0_, z1_, z2_, i64_w, i32_w]; rfl
              refine pure_ (i := 10) (N := some 93) (v := ?_) (a' := ?_) #[T0,T0,T0,T0,F0,T0,T0,T0,F0,F0,T0,F0] rfl rfl (any_of HT_.out (by kernel_rfl)) (fun _ _ _ h => h) (Or.inl ⟨by rfl, ?_⟩) ?_ ?_
              rotate_left
              · intro w'; go_simp; with_reducible rfl
              rotate_left
              · simp only [Act.put, z0_, z1_, z2_, i64_w, i32_w]; rfl
              refine take_ (i := 4) (N := some 87) (v := ?_) (a' := ?_) #[T0,T0,T0,T0,T0,T0,T0,T0,F0,F0,T0,F0] rfl rfl (take_ofW HT_.out HW_.out (by kernel_rfl)) (fun _ _ _ h => h) (Or.inl ⟨by rfl, ?_⟩) hHeld ?_ ?_
              rotate_left
              ·
               rintro w' ⟨s0, s1, s2, s3, s4, s5⟩
               go_simp; with_reducible rfl
              rotate_left
              · simp only [Act.put, z0_, z1_, z2_, i64_w, i32_w]; rfl
              refine take_ (i := 8) (N := some 91) (v := ?_) (a' := ?_) #[T0,T0,T0,T0,T0,T0,T0,T0,T0,F0,T0,F0] rfl rfl (take_ofW HT_.out HW_.out (by kernel_rfl)) (fun _ _ _ h => h) (Or.inl ⟨by rfl, ?_⟩) hHeld ?_ ?_
              rotate_left
              ·
               rintro w' ⟨s0, s1, s2, s3, s4, s5⟩
               go_simp; with_reducible rfl
              rotate_left
              · simp only [Act.put, z0_, z1_, z2_, i64_w, i32_w]; rfl
              refine pure_ (i := 9) (N := some 92) (v := ?_) (a' := ?_) #[T0,T0,T0,T0,T0,T0,T0,T0,T0,T0,T0,F0] rfl rfl (any_of HT_.out (by kernel_rfl)) (fun _ _ _ h => h) (Or.inl ⟨by rfl, ?_⟩) ?_ ?_
              rotate_left
              · intro w'; go_simp; with_reducible rfl
              rotate_left
              · simp only [Act.put, z0_, z1_, z2_, i64_w, i32_w]; rfl
              refine pure_ (i := 11) (N := some 94) (v := ?_) (a' := ?_) #[T0,T0,T0,T0,T0,T0,T0,T0,T0,T0,T0,T0] rfl rfl (any_of HT_.out (by kernel_rfl)) (fun _ _ _ h => h) (Or.inl ⟨by rfl, ?_⟩) ?_ ?_
              rotate_left
              · intro w'; go_simp; with_reducible rfl
              rotate_left
              · simp only [Act.put, z0_, z1_, z2_, i64_w, i32_w]; rfl
              refine done_ (done_of HT_.out (by kernel_rfl)) ?_
              try go_wp2
              go_roundg kj35
              case measure => have := HJ3.out; have := HK2.out; have := HJ24.out; have := HK4.out; have := HJ35.out; omega
              case rel => exact ⟨(wrap64 (x72_4 + 1)), (by first | rfl | (simp; done) | (simp [*]; done)), H', ⟨by have := HJ3.out; have := HK2.out; have := HJ24.out; have := HK4.out; have := HJ35.out; omega⟩, ⟨by (with_reducible repeat (first | apply Kd.R_alloc | apply Kd.R_drewN | apply Kd.R_drew)); exact HO_10.out⟩, ⟨by repeat (first | (with_reducible first | exact HB.out | apply below_alloc | apply pw_below_drewN | apply below_drew1) | exact HB.out)⟩⟩
         subst c28
         have H1 : (some true) = some r := by rw [if_pos rfl] at H; exact H
         clear H; have H := H1; clear H1; obtain rfl := Option.some.inj H; go_wp2; go_ret; exact ⟨by first | rfl | (simp [errW_none, errW_some] <;> rfl) | (simp [*, errW_none, errW_some] <;> rfl), by repeat (first | (with_reducible first | exact HB.out | apply below_alloc | apply pw_below_drewN | apply below_drew1) | exact HB.out)⟩
      rw [if_pos c15] at H; have c15b0 : decide (x31_2 < (l1.length : Int)) = true := decide_eq_true c15; clear c15; have HC16 := Aside0.mk H; clear H
      go_upto_region 6 with (fail)
      go_cut [48] (fun v48 wc => ∃ (kq : Nat) (x48_15 : Bool), v48 = .bool x48_15 ∧ Aside0 (estoverslaw20_ProtectionOpens.j2 kq l0 l1 a2 (l1.length : Int) x31_2 x48_15 = some r) ∧ Aside0 (kq ≤ k2) ∧ Aside0 (Below w.heap.size w wc))
      case first =>
       have H := HC16.out; clear HC16; by_cases c17 : 0 ≤ x31_2
       rotate_left
       · rw [if_neg c17] at H; exact absurd H (by simp)
       rw [if_pos c17] at H; have c17b0 : decide (0 ≤ x31_2) = true := decide_eq_true c17; clear c17
       (first | rw [c17b0] | (simp only [i64_w, i32_w]; rw [c17b0]) | skip)
       by_cases c18 : x31_2 < (l1.length : Int)
       rotate_left
       · rw [if_neg c18] at H; exact absurd H (by simp)
       rw [if_pos c18] at H; have c18b0 : decide (x31_2 < (l1.length : Int)) = true := decide_eq_true c18; clear c18; by_cases c19 : (rd l1 x31_2) < 0
       rotate_left
       ·
        rw [if_neg c19] at H; have c19b0 : decide ((rd l1 x31_2) < 0) = false := decide_eq_false c19; clear c19; replace H := Option.bind_eq_some_iff.mp H; obtain ⟨t371, A210, H⟩ := H; replace H : (estoverslaw20_ProtectionOpens.j2 k2 l0 l1 a2 (l1.length : Int) x31_2 (decide ((rd l1 x31_2) > t371))) = some r := H; have A21 := Aside0.mk A210; clear A210; have H' := Aside0.mk H; clear H
        try go_wp2
        have n0_ := Aside0.mk (below_drew1 HB.out); clear HB; have HB := n0_; clear n0_; have p369 : 0 ≤ (x31_2 : Int) := of_decide_eq_true (by first | (with_reducible assumption) | assumption); have q369 : x31_2 < (l1.length : Int) := of_decide_eq_true (by first | (with_reducible assumption) | assumption); obtain ⟨ad369, e369, hx369_0⟩ := Kd.at_int HR1.out x31_2 p369 q369; have hw369_0 := hx369_0
        cases e369; replace hx369_0 := (HB.out.cell (World.block_lt_of_cell? w _ hx369_0)).trans hx369_0; replace p369 := eq_true p369; replace q369 := eq_true q369; have p370 : 0 ≤ (x31_2 : Int) := of_decide_eq_true (by first | (with_reducible assumption) | assumption); have q370 : x31_2 < (l1.length : Int) := of_decide_eq_true (by first | (with_reducible assumption) | assumption)
        obtain ⟨ad370, e370, hx370_0⟩ := Kd.at_int HR1.out x31_2 p370 q370; have hw370_0 := hx370_0; obtain rfl : ad369 = ad370 := (by injection e370); replace hx370_0 := (HB.out.cell (World.block_lt_of_cell? w _ hx370_0)).trans hx370_0; replace p370 := eq_true p370; replace q370 := eq_true q370
        refine start_ (n := 15) (S := fun w' => w'.cell? (ad369.add (x31_2).toNat) = some (.int .i64 (rd l1 x31_2)) ∧ w'.cell? (ad369.add (x31_2).toNat) = some (.int .i64 (rd l1 x31_2))) (ds := []) #[F0,F0,F0,F0,F0,F0,F0,F0,F0,F0,F0,F0,F0,F0,F0] (by kernel_rfl) rfl rfl ⟨((HB.out.cell (World.block_lt_of_cell? w _ hw369_0)).trans hw369_0), ((HB.out.cell (World.block_lt_of_cell? w _ hw370_0)).trans hw370_0)⟩ (fun hHeld => ?_); refine with_tabW estoverslaw20_ProtectionOpens.tab6 estoverslaw20_ProtectionOpens.bits6 (fun HT_ HW_ => ?_)
        generalize wr.drew = w22 at HB hx369_0 hx370_0 hHeld ⊢; refine pure_ (i := 0) (N := some 34) (v := ?_) (a' := ?_) #[T0,F0,F0,F0,F0,F0,F0,F0,F0,F0,F0,F0,F0,F0,F0] rfl rfl (any_of HT_.out (by kernel_rfl)) (fun _ _ _ h => h) (Or.inl ⟨by rfl, ?_⟩) ?_ ?_
        rotate_left
        · intro w'; go_simp; with_reducible rfl
        rotate_left
        · simp only [Act.put, z0_, z1_, z2_, i64_w, i32_w]; rfl
        refine pure_ (i := 1) (N := some 35) (v := ?_) (a' := ?_) #[T0,T0,F0,F0,F0,F0,F0,F0,F0,F0,F0,F0,F0,F0,F0] rfl rfl (any_of HT_.out (by kernel_rfl)) (fun _ _ _ h => h) (Or.inl ⟨by rfl, ?_⟩) ?_ ?_
        rotate_left
        · intro w'; go_simp; with_reducible rfl
        rotate_left
        · simp only [Act.put, z0_, z1_, z2_, i64_w, i32_w]; rfl
        refine pure_ (i := 2) (N := some 36) (v := ?_) (a' := ?_) #[T0,T0,T0,F0,F0,F0,F0,F0,F0,F0,F0,F0,F0,F0,F0] rfl rfl (any_of HT_.out (by kernel_rfl)) (fun _ _ _ h => h) (Or.inl ⟨by rfl, ?_⟩) ?_ ?_
        rotate_left
        · intro w'; go_simp; with_reducible rfl
        rotate_left
        · simp only [Act.put, z0_, z1_, z2_, i64_w, i32_w]; rfl
        refine take_ (i := 3) (N := some 37) (v := ?_) (a' := ?_) #[T0,T0,T0,T0,F0,F0,F0,F0,F0,F0,F0,F0,F0,F0,F0] rfl rfl (take_ofW HT_.out HW_.out (by kernel_rfl)) (fun _ _ _ h => h) (Or.inl ⟨by rfl, ?_⟩) hHeld ?_ ?_
        rotate_left
        ·
         rintro w' ⟨s0, s1⟩
         go_simp; with_reducible rfl
        rotate_left
        · simp only [Act.put, z0_, z1_, z2_, i64_w, i32_w]; rfl
        refine pure_ (i := 4) (N := some 38) (v := ?_) (a' := ?_) #[T0,T0,T0,T0,T0,F0,F0,F0,F0,F0,F0,F0,F0,F0,F0] rfl rfl (any_of HT_.out (by kernel_rfl)) (fun _ _ _ h => h) (Or.inl ⟨by rfl, ?_⟩) ?_ ?_
        rotate_left
        · intro w'; go_simp; with_reducible rfl
        rotate_left
        · simp only [Act.put, z0_, z1_, z2_, i64_w, i32_w]; rfl
        refine pure_ (i := 5) (N := some 39) (v := ?_) (a' := ?_) #[T0,T0,T0,T0,T0,T0,F0,F0,F0,F0,F0,F0,F0,F0,F0] rfl rfl (any_of HT_.out (by kernel_rfl)) (fun _ _ _ h => h) (Or.inl ⟨by rfl, ?_⟩) ?_ ?_
        rotate_left
        · intro w'; go_simp; with_reducible rfl
        rotate_left
        · simp only [Act.put, z0_, z1_, z2_, i64_w, i32_w]; rfl
        refine pure_ (i := 6) (N := some 40) (v := ?_) (a' := ?_) #[T0,T0,T0,T0,T0,T0,T0,F0,F0,F0,F0,F0,F0,F0,F0] rfl rfl (any_of HT_.out (by kernel_rfl)) (fun _ _ _ h => h) (Or.inl ⟨by rfl, ?_⟩) ?_ ?_
        rotate_left
        · intro w'; go_simp; with_reducible rfl
        rotate_left
        · simp only [Act.put, z0_, z1_, z2_, i64_w, i32_w]; rfl
        refine pure_ (i := 7) (N := some 41) (v := ?_) (a' := ?_) #[T0,T0,T0,T0,T0,T0,T0,T0,F0,F0,F0,F0,F0,F0,F0] rfl rfl (any_of HT_.out (by kernel_rfl)) (fun _ _ _ h => h) (Or.inl ⟨by rfl, ?_⟩) ?_ ?_
        rotate_left
        · intro w'; go_simp; with_reducible rfl
        rotate_left
        · simp only [Act.put, z0_, z1_, z2_, i64_w, i32_w]; rfl
        refine pure_ (i := 8) (N := some 42) (v := ?_) (a' := ?_) #[T0,T0,T0,T0,T0,T0,T0,T0,T0,F0,F0,F0,F0,F0,F0] rfl rfl (any_of HT_.out (by kernel_rfl)) (fun _ _ _ h => h) (Or.inl ⟨by rfl, ?_⟩) ?_ ?_
        rotate_left
        · intro w'; go_simp; with_reducible rfl
        rotate_left
        · simp only [Act.put, z0_, z1_, z2_, i64_w, i32_w]; rfl
        refine pure_ (i := 10) (N := some 44) (v := ?_) (a' := ?_) #[T0,T0,T0,T0,T0,T0,T0,T0,T0,F0,T0,F0,F0,F0,F0] rfl rfl (any_of HT_.out (by kernel_rfl)) (fun _ _ _ h => h) (Or.inl ⟨by rfl, ?_⟩) ?_ ?_
        rotate_left
        · intro w'; go_simp; with_reducible rfl
        rotate_left
        · simp only [Act.put, z0_, z1_, z2_, i64_w, i32_w]; rfl
        refine pure_ (i := 11) (N := some 45) (v := ?_) (a' := ?_) #[T0,T0,T0,T0,T0,T0,T0,T0,T0,F0,T0,T0,F0,F0,F0] rfl rfl (any_of HT_.out (by kernel_rfl)) (fun _ _ _ h => h) (Or.inl ⟨by rfl, ?_⟩) ?_ ?_
        rotate_left
        · intro w'; go_simp; with_reducible rfl
        rotate_left
        · simp only [Act.put, z0_, z1_, z2_, i64_w, i32_w]; rfl
        refine take_ (i := 9) (N := some 43) (v := ?_) (a' := ?_) #[T0,T0,T0,T0,T0,T0,T0,T0,T0,T0,T0,T0,F0,F0,F0] rfl rfl (take_ofW HT_.out HW_.out (by kernel_rfl)) (fun _ _ _ h => h) (Or.inl ⟨by rfl, ?_⟩) hHeld ?_ ?_
        rotate_left
        ·
         rintro w' ⟨s0, s1⟩
         go_simp; with_reducible rfl
        rotate_left
        · simp only [Act.put, z0_, z1_, z2_, i64_w, i32_w]; rfl
        refine one_ (i := 12) (N := some 46) #[T0,T0,T0,T0,T0,T0,T0,T0,T0,T0,T0,T0,T0,F0,F0] rfl rfl (one_of HT_.out (by kernel_rfl)) (by decide) (fun K hK => ?_)
        refine goes_ Try.func25 (by kernel_rfl) rfl #[.slice A0 l0.length c0, .int .i64 x31_2] (by rfl) rfl rfl (by (try simp only [List.map_toArray, List.map_cons, List.map_nil]); first | done | rfl | (simp only [List.length_drop, List.length_take]; rfl)) ?_
        with_reducible refine (estoversref19_Own.calls k2 _ _ l0 x31_2 t371 _ ?side1 ?side2 A21.out).mono ?_
        (case side1 => repeat (first | exact (Kd.C_below HR0.out HB.out) | (with_reducible refine Kd.C_alloc ?_ _) | (with_reducible refine Kd.C_drewN ?_ _) | (with_reducible refine Kd.C_drew ?_)))
        (case side2 => exact HC0.out)
        rintro e w' ⟨rfl, ⟨nd, rfl⟩⟩
        refine ⟨_, rfl, ?_⟩; refine hK.out _ _ ⟨((HB.out.cell (World.block_lt_of_cell? w _ hw369_0)).trans hw369_0), ((HB.out.cell (World.block_lt_of_cell? w _ hw370_0)).trans hw370_0)⟩ (fun hHeld => ?_); clear hK K; refine norm_ (a' := ?_) ?_ ?_
        rotate_left
        ·
         show Act.put _ (some 46) _ = _
         simp only [Act.put, z0_, z1_, z2_, i64_w, i32_w]; rfl
        refine pure_ (i := 13) (N := some 47) (v := ?_) (a' := ?_) #[T0,T0,T0,T0,T0,T0,T0,T0,T0,T0,T0,T0,T0,T0,F0] rfl rfl (any_of HT_.out (by kernel_rfl)) (fun _ _ _ h => h) (Or.inl ⟨by rfl, ?_⟩) ?_ ?_
        rotate_left
        · intro w'; go_simp; with_reducible rfl
        rotate_left
        · simp only [Act.put, z0_, z1_, z2_, i64_w, i32_w]; rfl
        refine pure_ (i := 14) (N := some 48) (v := ?_) (a' := ?_) #[T0,T0,T0,T0,T0,T0,T0,T0,T0,T0,T0,T0,T0,T0,T0] rfl rfl (any_of HT_.out (by kernel_rfl)) (fun _ _ _ h => h) (Or.inl ⟨by rfl, ?_⟩) ?_ ?_
        rotate_left
        · intro w'; go_simp; with_reducible rfl
        rotate_left
        · simp only [Act.put, z0_, z1_, z2_, i64_w, i32_w]; rfl
        refine done_ (done_of HT_.out (by kernel_rfl)) ?_
        try go_wp2
        go_meet
        case rel => exact ⟨_, (decide ((rd l1 x31_2) > t371)), (by first | rfl | (simp; done) | (simp [*]; done)), H', ⟨by have := HJ3.out; have := HK2.out; first | omega | exact Nat.le_refl _⟩, ⟨by repeat (first | (with_reducible first | exact HB.out | apply below_alloc | apply pw_below_drewN | apply below_drew1) | exact HB.out)⟩⟩
       rw [if_pos c19] at H; have c19b0 : decide ((rd l1 x31_2) < 0) = true := decide_eq_true c19; clear c19; have H' := Aside0.mk H; clear H
       try go_wp2
       have n0_ := Aside0.mk (below_drew1 HB.out); clear HB; have HB := n0_; clear n0_; have p369 : 0 ≤ (x31_2 : Int) := of_decide_eq_true (by first | (with_reducible assumption) | assumption); have q369 : x31_2 < (l1.length : Int) := of_decide_eq_true (by first | (with_reducible assumption) | assumption); obtain ⟨ad369, e369, hx369_0⟩ := Kd.at_int HR1.out x31_2 p369 q369; have hw369_0 := hx369_0
       cases e369; replace hx369_0 := (HB.out.cell (World.block_lt_of_cell? w _ hx369_0)).trans hx369_0; replace p369 := eq_true p369; replace q369 := eq_true q369
       refine start_ (n := 15) (S := fun w' => w'.cell? (ad369.add (x31_2).toNat) = some (.int .i64 (rd l1 x31_2))) (ds := []) #[F0,F0,F0,F0,F0,F0,F0,F0,F0,F0,F0,F0,F0,F0,F0] (by kernel_rfl) rfl rfl (((HB.out.cell (World.block_lt_of_cell? w _ hw369_0)).trans hw369_0)) (fun hHeld => ?_); refine with_tabW estoverslaw20_ProtectionOpens.tab6 estoverslaw20_ProtectionOpens.bits6 (fun HT_ HW_ => ?_)
       generalize wr.drew = w20 at HB hx369_0 hHeld ⊢; refine pure_ (i := 0) (N := some 34) (v := ?_) (a' := ?_) #[T0,F0,F0,F0,F0,F0,F0,F0,F0,F0,F0,F0,F0,F0,F0] rfl rfl (any_of HT_.out (by kernel_rfl)) (fun _ _ _ h => h) (Or.inl ⟨by rfl, ?_⟩) ?_ ?_
       rotate_left
       · intro w'; go_simp; with_reducible rfl
       rotate_left
       · simp only [Act.put, z0_, z1_, z2_, i64_w, i32_w]; rfl
       refine pure_ (i := 1) (N := some 35) (v := ?_) (a' := ?_) #[T0,T0,F0,F0,F0,F0,F0,F0,F0,F0,F0,F0,F0,F0,F0] rfl rfl (any_of HT_.out (by kernel_rfl)) (fun _ _ _ h => h) (Or.inl ⟨by rfl, ?_⟩) ?_ ?_
       rotate_left
       · intro w'; go_simp; with_reducible rfl
       rotate_left
       · simp only [Act.put, z0_, z1_, z2_, i64_w, i32_w]; rfl
       refine pure_ (i := 2) (N := some 36) (v := ?_) (a' := ?_) #[T0,T0,T0,F0,F0,F0,F0,F0,F0,F0,F0,F0,F0,F0,F0] rfl rfl (any_of HT_.out (by kernel_rfl)) (fun _ _ _ h => h) (Or.inl ⟨by rfl, ?_⟩) ?_ ?_
       rotate_left
       · intro w'; go_simp; with_reducible rfl
       rotate_left
       · simp only [Act.put, z0_, z1_, z2_, i64_w, i32_w]; rfl
       refine take_ (i := 3) (N := some 37) (v := ?_) (a' := ?_) #[T0,T0,T0,T0,F0,F0,F0,F0,F0,F0,F0,F0,F0,F0,F0] rfl rfl (take_ofW HT_.out HW_.out (by kernel_rfl)) (fun _ _ _ h => h) (Or.inl ⟨by rfl, ?_⟩) hHeld ?_ ?_
       rotate_left
       · intro w' s0; go_simp; with_reducible rfl
       rotate_left
       · simp only [Act.put, z0_, z1_, z2_, i64_w, i32_w]; rfl
       refine pure_ (i := 4) (N := some 38) (v := ?_) (a' := ?_) #[T0,T0,T0,T0,T0,F0,F0,F0,F0,F0,F0,F0,F0,F0,F0] rfl rfl (any_of HT_.out (by kernel_rfl)) (fun _ _ _ h => h) (Or.inl ⟨by rfl, ?_⟩) ?_ ?_
       rotate_left
       · intro w'; go_simp; with_reducible rfl
       rotate_left
       · simp only [Act.put, z0_, z1_, z2_, i64_w, i32_w]; rfl
       refine pure_ (i := 5) (N := some 39) (v := ?_) (a' := ?_) #[T0,T0,T0,T0,T0,T0,F0,F0,F0,F0,F0,F0,F0,F0,F0] rfl rfl (any_of HT_.out (by kernel_rfl)) (fun _ _ _ h => h) (Or.inl ⟨by rfl, ?_⟩) ?_ ?_
       rotate_left
       · intro w'; go_simp; with_reducible rfl
       rotate_left
       · simp only [Act.put, z0_, z1_, z2_, i64_w, i32_w]; rfl
       refine pure_ (i := 6) (N := some 40) (v := undef) (a' := ?_) #[T0,T0,T0,T0,T0,T0,T0,F0,F0,F0,F0,F0,F0,F0,F0] rfl rfl (any_of HT_.out (by kernel_rfl)) (fun _ _ _ h => h) (Or.inr ⟨by rfl, rfl⟩) ?_ ?_
       rotate_left
       · simp only [Act.put, z0_, z1_, z2_, i64_w, i32_w]; rfl
       refine pure_ (i := 7) (N := some 41) (v := undef) (a' := ?_) #[T0,T0,T0,T0,T0,T0,T0,T0,F0,F0,F0,F0,F0,F0,F0] rfl rfl (any_of HT_.out (by kernel_rfl)) (fun _ _ _ h => h) (Or.inr ⟨by rfl, rfl⟩) ?_ ?_
       rotate_left
       · simp only [Act.put, z0_, z1_, z2_, i64_w, i32_w]; rfl
       refine pure_ (i := 8) (N := some 42) (v := undef) (a' := ?_) #[T0,T0,T0,T0,T0,T0,T0,T0,T0,F0,F0,F0,F0,F0,F0] rfl rfl (any_of HT_.out (by kernel_rfl)) (fun _ _ _ h => h) (Or.inr ⟨by rfl, rfl⟩) ?_ ?_
       rotate_left
       · simp only [Act.put, z0_, z1_, z2_, i64_w, i32_w]; rfl
       refine pure_ (i := 9) (N := some 43) (v := undef) (a' := ?_) #[T0,T0,T0,T0,T0,T0,T0,T0,T0,T0,F0,F0,F0,F0,F0] rfl rfl (any_of HT_.out (by kernel_rfl)) (fun _ _ _ h => h) (Or.inr ⟨by rfl, rfl⟩) ?_ ?_
       rotate_left
       · simp only [Act.put, z0_, z1_, z2_, i64_w, i32_w]; rfl
       refine pure_ (i := 10) (N := some 44) (v := undef) (a' := ?_) #[T0,T0,T0,T0,T0,T0,T0,T0,T0,T0,T0,F0,F0,F0,F0] rfl rfl (any_of HT_.out (by kernel_rfl)) (fun _ _ _ h => h) (Or.inr ⟨by rfl, rfl⟩) ?_ ?_
       rotate_left
       · simp only [Act.put, z0_, z1_, z2_, i64_w, i32_w]; rfl
       refine pure_ (i := 11) (N := some 45) (v := undef) (a' := ?_) #[T0,T0,T0,T0,T0,T0,T0,T0,T0,T0,T0,T0,F0,F0,F0] rfl rfl (any_of HT_.out (by kernel_rfl)) (fun _ _ _ h => h) (Or.inr ⟨by rfl, rfl⟩) ?_ ?_
       rotate_left
       · simp only [Act.put, z0_, z1_, z2_, i64_w, i32_w]; rfl
       refine pure_ (i := 12) (N := some 46) (v := undef) (a' := ?_) #[T0,T0,T0,T0,T0,T0,T0,T0,T0,T0,T0,T0,T0,F0,F0] rfl rfl (any_of HT_.out (by kernel_rfl)) (fun _ _ _ h => h) (Or.inr ⟨by rfl, rfl⟩) ?_ ?_
       rotate_left
       · simp only [Act.put, z0_, z1_, z2_, i64_w, i32_w]; rfl
       refine pure_ (i := 13) (N := some 47) (v := undef) (a' := ?_) #[T0,T0,T0,T0,T0,T0,T0,T0,T0,T0,T0,T0,T0,T0,F0] rfl rfl (any_of HT_.out (by kernel_rfl)) (fun _ _ _ h => h) (Or.inr ⟨by rfl, rfl⟩) ?_ ?_
       rotate_left
       · simp only [Act.put, z0_, z1_, z2_, i64_w, i32_w]; rfl
       refine pure_ (i := 14) (N := some 48) (v := ?_) (a' := ?_) #[T0,T0,T0,T0,T0,T0,T0,T0,T0,T0,T0,T0,T0,T0,T0] rfl rfl (any_of HT_.out (by kernel_rfl)) (fun _ _ _ h => h) (Or.inl ⟨by rfl, ?_⟩) ?_ ?_
       rotate_left
       · intro w'; go_simp; with_reducible rfl
       rotate_left
       · simp only [Act.put, z0_, z1_, z2_, i64_w, i32_w]; rfl
       refine done_ (done_of HT_.out (by kernel_rfl)) ?_
       try go_wp2
       go_meet
       case rel => exact ⟨_, (true), (by first | rfl | (simp; done) | (simp [*]; done)), H', ⟨by have := HJ3.out; have := HK2.out; first | omega | exact Nat.le_refl _⟩, ⟨by repeat (first | (with_reducible first | exact HB.out | apply below_alloc | apply pw_below_drewN | apply below_drew1) | exact HB.out)⟩⟩
      case rest =>
       clear HC16
       try clear c1
       try clear c2
       try clear p2
       try clear p3
       try clear q3
       try clear hx3
       try clear c6
       try clear c8
       try clear c8b0
       try clear c8b1
       try clear c11
       try clear c12
       try clear c15
       try clear c15b0
       try clear c17
       try clear c17b0
       try clear c18
       try clear c18b0
       try clear c19
       try clear c19b0
       try clear hx369_0
       try clear hx370_0
       try clear p2
       try clear p369
       try clear p370
       try clear q369
       try clear q370
       obtain ⟨kq, x48_15, rfl, HA, HJ15, HB⟩ := hcut
       cases kq with
       | zero => exact absurd HA.out (by simp [estoverslaw20_ProtectionOpens.j2])
       | succ kj15 =>
        have H := HA.out; clear HA; simp only [estoverslaw20_ProtectionOpens.j2] at H; by_cases c23 : x48_15 = true
        rotate_left
        ·
         replace c23 := Bool.eq_false_iff.mpr c23; subst c23
         have H1 : (estoverslaw20_ProtectionOpens.l0 kj15 l0 l1 a2 (l1.length : Int) (wrap64 (x31_2 + 1))) = some r := by rw [if_neg (show ¬ (false = true) by decide)] at H; exact H
         clear H; have H := H1; clear H1; have H' := Aside0.mk H; clear H; go_wp2
         go_roundg kj15
         case measure => have := HJ3.out; have := HK2.out; have := HJ15.out; omega
         case rel => exact ⟨(wrap64 (x31_2 + 1)), (by first | rfl | (simp; done) | (simp [*]; done)), H', ⟨by have := HJ3.out; have := HK2.out; have := HJ15.out; omega⟩, ⟨by repeat (first | (with_reducible first | exact HB.out | apply below_alloc | apply pw_below_drewN | apply below_drew1) | exact HB.out)⟩⟩
        subst c23
        have H1 : (some true) = some r := by rw [if_pos rfl] at H; exact H
        clear H; have H := H1; clear H1; obtain rfl := Option.some.inj H; go_wp2; go_ret; exact ⟨by first | rfl | (simp [errW_none, errW_some] <;> rfl) | (simp [*, errW_none, errW_some] <;> rfl), by repeat (first | (with_reducible first | exact HB.out | apply below_alloc | apply pw_below_drewN | apply below_drew1) | exact HB.out)⟩
   subst c12
   have H1 : ((estoverslaw20_awake.f kj3).bind fun t368 => (some t368)) = some r := by rw [if_pos rfl] at H; exact H
   clear H; have H := H1; clear H1; replace H := Option.bind_eq_some_iff.mp H; obtain ⟨t368, A130, H⟩ := H; replace H : (some t368) = some r := H; have A13 := Aside0.mk A130; clear A130; obtain rfl := Option.some.inj H
   go_wp2_with (first | ((with_reducible refine gate_callee (f := 11) rfl ?_); refine goesL_ (some 28) rfl rfl Try.func11 (by kernel_rfl) rfl #[] rfl (by (try simp only [List.map_toArray, List.map_cons, List.map_nil]); first | done | rfl | (simp only [List.length_drop, List.length_take]; rfl)) ?_; (with_reducible refine (estoverslaw20_awake.calls kj3  t368 _ A13.out).mono ?_); rintro e w14 ⟨rfl, hb⟩; refine ⟨_, rfl, ?_⟩; have n0_ := Aside0.mk (below_step (by repeat (first | (with_reducible first | exact HB.out | apply below_alloc | apply pw_below_drewN | apply below_drew1) | exact HB.out)) hb); clear HB; have HB := n0_; clear n0_; (try clear hb); (try clear hb2); (try clear hk); (try clear hi)))
   go_ret; exact ⟨by first | rfl | (simp [errW_none, errW_some] <;> rfl) | (simp [*, errW_none, errW_some] <;> rfl), by repeat (first | (with_reducible first | exact HB.out | apply below_alloc | apply pw_below_drewN | apply below_drew1) | exact HB.out)⟩
end Go.Proofs.Ytilcbkengmggdaa.Pr
