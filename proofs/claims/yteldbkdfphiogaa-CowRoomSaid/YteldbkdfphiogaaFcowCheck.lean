-- Written by a program of this session (a changed copy of the kit's printer). Not trusted: Lean checks it.
import Derived.Test.YteldbkdfphiogaaM0
import Derived.Test.YteldbkdfphiogaaFcowforms
import Derived.Test.YteldbkdfphiogaaM1
namespace Go.Proofs.Yteldbkdfphiogaa.Pr
open Go.RowKit Go.Proofs.YteldbkdfphiogaaW.PrintWords Go.Proofs.YteldbkdfphiogaaW.PrintLast Go.Proofs.YteldbkdfphiogaaW.PrintMore
attribute [local go_sem] max2_int min2_int max_two min_two max_three min_three max_four min_four   -- for this text's walks alone
set_option linter.unusedVariables false
set_option linter.unusedSimpArgs false
/-! ### cow_Check: function 23 -/
mutual
def cow_Check.j0 : Nat → Bool → Int → List (S62) → List (S57) → Int → Option (Int)
 | 0, _, _, _, _, _ => none
 | k + 1, x44, x120000, x120001, x120002, x120003 => if x44 = true then (some 2) else ((cow_forms.f k x120000 x120001 x120002 x120003).bind fun t123 => (if t123 = true then (if 0 ≤ (x120002.length : Int) then (if ((x120002.length : Int) : Int).toNat ≤ 35184372088832 then (if ((x120002.length : Int) : Int).toNat ≤ 281474976710656 then (cow_Check.l0 k (List.replicate ((x120002.length : Int) : Int).toNat 0) (List.replicate ((x120002.length : Int) : Int).toNat false) x120001 (x120001.length : Int) 0 x120000 x120001 x120002 x120003) else (none)) else (none)) else (none)) else (some 3)))
def cow_Check.l0 : Nat → List Int → List Bool → List (S62) → Int → Int → Int → List (S62) → List (S57) → Int → Option (Int)
 | 0, _, _, _, _, _, _, _, _, _ => none
 | k + 1, x4, x5, x57, x58, x59, x120000, x120001, x120002, x120003 => if x59 < x58 then (if 0 ≤ x59 then (if x59 < (x57.length : Int) then (cow_Check.l1 k x4 x5 x57 x58 x59 ((rd_T62 x57 x59).f1) (((rd_T62 x57 x59).f1).length : Int) 0 x120000 x120001 x120002 x120003) else (none)) else (none)) else (cow_Check.l2 k x4 x5 x120002 (x120002.length : Int) 0)
def cow_Check.l1 : Nat → List Int → List Bool → List (S62) → Int → Int → List (S64) → Int → Int → Int → List (S62) → List (S57) → Int → Option (Int)
 | 0, _, _, _, _, _, _, _, _, _, _, _, _ => none
 | k + 1, x4, x5, x57, x58, x59, x64, x65, x66, x120000, x120001, x120002, x120003 => if x66 < x65 then (if 0 ≤ x66 then (if x66 < (x64.length : Int) then (if ((rd_T64 x64 x66).f0) ≥ 0 then (if 0 ≤ ((rd_T64 x64 x66).f0) then (if ((rd_T64 x64 x66).f0) < (x4.length : Int) then ((some (x4.set (((rd_T64 x64 x66).f0) : Int).toNat (wrap64 ((rd x4 ((rd_T64 x64 x66).f0)) + 1)) : List Int)).bind fun y135 => (if ((rd_T64 x64 x66).f0) < (x5.length : Int) then (if rdOf false x5 ((rd_T64 x64 x66).f0) = true then (cow_Check.l1 k y135 (x5.set (((rd_T64 x64 x66).f0) : Int).toNat true) x57 x58 x59 x64 x65 (wrap64 (x66 + 1)) x120000 x120001 x120002 x120003) else (cow_Check.l1 k y135 (x5.set (((rd_T64 x64 x66).f0) : Int).toNat ((rd_T64 x64 x66).f1)) x57 x58 x59 x64 x65 (wrap64 (x66 + 1)) x120000 x120001 x120002 x120003)) else (none))) else (none)) else (none)) else (cow_Check.l1 k x4 x5 x57 x58 x59 x64 x65 (wrap64 (x66 + 1)) x120000 x120001 x120002 x120003)) else (none)) else (none)) else (cow_Check.l0 k x4 x5 x57 x58 (wrap64 (x59 + 1)) x120000 x120001 x120002 x120003)
def cow_Check.l2 : Nat → List Int → List Bool → List (S57) → Int → Int → Option (Int)
 | 0, _, _, _, _, _ => none
 | k + 1, x4, x5, x96, x97, x98 => if x98 < x97 then (if 0 ≤ x98 then (if x98 < (x96.length : Int) then (if x98 < (x4.length : Int) then (if ((rd_T57 x96 x98).f0) = (rd x4 x98) then (if ((rd_T57 x96 x98).f0) = 0 then (cow_Check.j4 k x4 x5 x96 x97 x98 (((rd_T57 x96 x98).f1) != 0)) else (cow_Check.j4 k x4 x5 x96 x97 x98 false)) else (cow_Check.j4 k x4 x5 x96 x97 x98 true)) else (none)) else (none)) else (none)) else (cow_Check.l3 k x4 x5 (x5.length : Int) 0)
def cow_Check.j4 : Nat → List Int → List Bool → List (S57) → Int → Int → Bool → Option (Int)
 | 0, _, _, _, _, _, _ => none
 | k + 1, x4, x5, x96, x97, x98, x119 => if x119 = true then (some 11) else (cow_Check.l2 k x4 x5 x96 x97 (wrap64 (x98 + 1)))
def cow_Check.l3 : Nat → List Int → List Bool → Int → Int → Option (Int)
 | 0, _, _, _, _ => none
 | k + 1, x4, x121, x122, x123 => if x123 < x122 then (if 0 ≤ x123 then (if x123 < (x121.length : Int) then (if rdOf false x121 x123 = true then (if x123 < (x4.length : Int) then (cow_Check.j6 k x4 x121 x122 x123 ((rd x4 x123) != 1)) else (none)) else (cow_Check.j6 k x4 x121 x122 x123 false)) else (none)) else (none)) else (some 0)
def cow_Check.j6 : Nat → List Int → List Bool → Int → Int → Bool → Option (Int)
 | 0, _, _, _, _, _ => none
 | k + 1, x4, x121, x122, x123, x135 => if x135 = true then (some 12) else (cow_Check.l3 k x4 x121 x122 (wrap64 (x123 + 1)))
end
def cow_Check.f (k : Nat) (a0_0 : Int) (l0_1 : List (S62)) (l0_2 : List (S57)) (a0_3 : Int) : Option (Int) := (cow_Check_1.f a0_0 512).bind fun t120 => (if t120 = true then ((cow_Check_1.f (l0_1.length : Int) 8).bind fun t121 => (if t121 = true then ((cow_Check_1.f (l0_2.length : Int) 256).bind fun t122 => (if t122 = true then (if a0_3 < 0 then (cow_Check.j0 k true a0_0 l0_1 l0_2 a0_3) else (cow_Check.j0 k (decide (a0_3 > 1048576)) a0_0 l0_1 l0_2 a0_3)) else (cow_Check.j0 k true a0_0 l0_1 l0_2 a0_3))) else (cow_Check.j0 k true a0_0 l0_1 l0_2 a0_3))) else (cow_Check.j0 k true a0_0 l0_1 l0_2 a0_3))
theorem cow_Check.mono_l : ∀ k, (∀ y0 y1 y2 y3 y4, LeO (cow_Check.j0 k y0 y1 y2 y3 y4) (cow_Check.j0 (k + 1) y0 y1 y2 y3 y4)) ∧ (∀ y0 y1 y2 y3 y4 y5 y6 y7 y8, LeO (cow_Check.l0 k y0 y1 y2 y3 y4 y5 y6 y7 y8) (cow_Check.l0 (k + 1) y0 y1 y2 y3 y4 y5 y6 y7 y8)) ∧ (∀ y0 y1 y2 y3 y4 y5 y6 y7 y8 y9 y10 y11, LeO (cow_Check.l1 k y0 y1 y2 y3 y4 y5 y6 y7 y8 y9 y10 y11) (cow_Check.l1 (k + 1) y0 y1 y2 y3 y4 y5 y6 y7 y8 y9 y10 y11)) ∧ (∀ y0 y1 y2 y3 y4, LeO (cow_Check.l2 k y0 y1 y2 y3 y4) (cow_Check.l2 (k + 1) y0 y1 y2 y3 y4)) ∧ (∀ y0 y1 y2 y3 y4 y5, LeO (cow_Check.j4 k y0 y1 y2 y3 y4 y5) (cow_Check.j4 (k + 1) y0 y1 y2 y3 y4 y5)) ∧ (∀ y0 y1 y2 y3, LeO (cow_Check.l3 k y0 y1 y2 y3) (cow_Check.l3 (k + 1) y0 y1 y2 y3)) ∧ (∀ y0 y1 y2 y3 y4, LeO (cow_Check.j6 k y0 y1 y2 y3 y4) (cow_Check.j6 (k + 1) y0 y1 y2 y3 y4))
 | 0 => ⟨fun _ _ _ _ _ r h => by simp [cow_Check.j0] at h, fun _ _ _ _ _ _ _ _ _ r h => by simp [cow_Check.l0] at h, fun _ _ _ _ _ _ _ _ _ _ _ _ r h => by simp [cow_Check.l1] at h, fun _ _ _ _ _ r h => by simp [cow_Check.l2] at h, fun _ _ _ _ _ _ r h => by simp [cow_Check.j4] at h, fun _ _ _ _ r h => by simp [cow_Check.l3] at h, fun _ _ _ _ _ r h => by simp [cow_Check.j6] at h⟩
 | k + 1 => by
  obtain ⟨ih0, ih1, ih2, ih3, ih4, ih5, ih6⟩ := cow_Check.mono_l k; refine ⟨?_, ?_, ?_, ?_, ?_, ?_, ?_⟩
  ·
   intro y0 y1 y2 y3 y4
   unfold cow_Check.j0
   repeat' first
    | (with_reducible exact ih0 _ _ _ _ _)
    | (with_reducible exact ih1 _ _ _ _ _ _ _ _ _)
    | (with_reducible exact ih2 _ _ _ _ _ _ _ _ _ _ _ _)
    | (with_reducible exact ih3 _ _ _ _ _)
    | (with_reducible exact ih4 _ _ _ _ _ _)
    | (with_reducible exact ih5 _ _ _ _)
    | (with_reducible exact ih6 _ _ _ _ _)
    | (with_reducible exact cow_forms.mono _ _ _ _ _)
    | (with_reducible exact LeO.refl _)
    | (with_reducible exact LeO.none _)
    | (with_reducible refine LeO.ite ?_ ?_)
    | (with_reducible refine LeO.bind ?_ (fun _ => ?_))
    | exact ih0 _ _ _ _ _
    | exact ih1 _ _ _ _ _ _ _ _ _
    | exact ih2 _ _ _ _ _ _ _ _ _ _ _ _
    | exact ih3 _ _ _ _ _
    | exact ih4 _ _ _ _ _ _
    | exact ih5 _ _ _ _
    | exact ih6 _ _ _ _ _
    | exact cow_forms.mono _ _ _ _ _
    | exact LeO.none _
    | refine LeO.ite ?_ ?_
    | refine LeO.bind ?_ (fun _ => ?_)
  ·
   intro y0 y1 y2 y3 y4 y5 y6 y7 y8
   unfold cow_Check.l0
   repeat' first
    | (with_reducible exact ih0 _ _ _ _ _)
    | (with_reducible exact ih1 _ _ _ _ _ _ _ _ _)
    | (with_reducible exact ih2 _ _ _ _ _ _ _ _ _ _ _ _)
    | (with_reducible exact ih3 _ _ _ _ _)
    | (with_reducible exact ih4 _ _ _ _ _ _)
    | (with_reducible exact ih5 _ _ _ _)
    | (with_reducible exact ih6 _ _ _ _ _)
    | (with_reducible exact cow_forms.mono _ _ _ _ _)
    | (with_reducible exact LeO.refl _)
    | (with_reducible exact LeO.none _)
    | (with_reducible refine LeO.ite ?_ ?_)
    | (with_reducible refine LeO.bind ?_ (fun _ => ?_))
    | exact ih0 _ _ _ _ _
    | exact ih1 _ _ _ _ _ _ _ _ _
    | exact ih2 _ _ _ _ _ _ _ _ _ _ _ _
    | exact ih3 _ _ _ _ _
    | exact ih4 _ _ _ _ _ _
    | exact ih5 _ _ _ _
    | exact ih6 _ _ _ _ _
    | exact cow_forms.mono _ _ _ _ _
    | exact LeO.none _
    | refine LeO.ite ?_ ?_
    | refine LeO.bind ?_ (fun _ => ?_)
  ·
   intro y0 y1 y2 y3 y4 y5 y6 y7 y8 y9 y10 y11
   unfold cow_Check.l1
   repeat' first
    | (with_reducible exact ih0 _ _ _ _ _)
    | (with_reducible exact ih1 _ _ _ _ _ _ _ _ _)
    | (with_reducible exact ih2 _ _ _ _ _ _ _ _ _ _ _ _)
    | (with_reducible exact ih3 _ _ _ _ _)
    | (with_reducible exact ih4 _ _ _ _ _ _)
    | (with_reducible exact ih5 _ _ _ _)
    | (with_reducible exact ih6 _ _ _ _ _)
    | (with_reducible exact cow_forms.mono _ _ _ _ _)
    | (with_reducible exact LeO.refl _)
    | (with_reducible exact LeO.none _)
    | (with_reducible refine LeO.ite ?_ ?_)
    | (with_reducible refine LeO.bind ?_ (fun _ => ?_))
    | exact ih0 _ _ _ _ _
    | exact ih1 _ _ _ _ _ _ _ _ _
    | exact ih2 _ _ _ _ _ _ _ _ _ _ _ _
    | exact ih3 _ _ _ _ _
    | exact ih4 _ _ _ _ _ _
    | exact ih5 _ _ _ _
    | exact ih6 _ _ _ _ _
    | exact cow_forms.mono _ _ _ _ _
    | exact LeO.none _
    | refine LeO.ite ?_ ?_
    | refine LeO.bind ?_ (fun _ => ?_)
  ·
   intro y0 y1 y2 y3 y4
   unfold cow_Check.l2
   repeat' first
    | (with_reducible exact ih0 _ _ _ _ _)
    | (with_reducible exact ih1 _ _ _ _ _ _ _ _ _)
    | (with_reducible exact ih2 _ _ _ _ _ _ _ _ _ _ _ _)
    | (with_reducible exact ih3 _ _ _ _ _)
    | (with_reducible exact ih4 _ _ _ _ _ _)
    | (with_reducible exact ih5 _ _ _ _)
    | (with_reducible exact ih6 _ _ _ _ _)
    | (with_reducible exact cow_forms.mono _ _ _ _ _)
    | (with_reducible exact LeO.refl _)
    | (with_reducible exact LeO.none _)
    | (with_reducible refine LeO.ite ?_ ?_)
    | (with_reducible refine LeO.bind ?_ (fun _ => ?_))
    | exact ih0 _ _ _ _ _
    | exact ih1 _ _ _ _ _ _ _ _ _
    | exact ih2 _ _ _ _ _ _ _ _ _ _ _ _
    | exact ih3 _ _ _ _ _
    | exact ih4 _ _ _ _ _ _
    | exact ih5 _ _ _ _
    | exact ih6 _ _ _ _ _
    | exact cow_forms.mono _ _ _ _ _
    | exact LeO.none _
    | refine LeO.ite ?_ ?_
    | refine LeO.bind ?_ (fun _ => ?_)
  ·
   intro y0 y1 y2 y3 y4 y5
   unfold cow_Check.j4
   repeat' first
    | (with_reducible exact ih0 _ _ _ _ _)
    | (with_reducible exact ih1 _ _ _ _ _ _ _ _ _)
    | (with_reducible exact ih2 _ _ _ _ _ _ _ _ _ _ _ _)
    | (with_reducible exact ih3 _ _ _ _ _)
    | (with_reducible exact ih4 _ _ _ _ _ _)
    | (with_reducible exact ih5 _ _ _ _)
    | (with_reducible exact ih6 _ _ _ _ _)
    | (with_reducible exact cow_forms.mono _ _ _ _ _)
    | (with_reducible exact LeO.refl _)
    | (with_reducible exact LeO.none _)
    | (with_reducible refine LeO.ite ?_ ?_)
    | (with_reducible refine LeO.bind ?_ (fun _ => ?_))
    | exact ih0 _ _ _ _ _
    | exact ih1 _ _ _ _ _ _ _ _ _
    | exact ih2 _ _ _ _ _ _ _ _ _ _ _ _
    | exact ih3 _ _ _ _ _
    | exact ih4 _ _ _ _ _ _
    | exact ih5 _ _ _ _
    | exact ih6 _ _ _ _ _
    | exact cow_forms.mono _ _ _ _ _
    | exact LeO.none _
    | refine LeO.ite ?_ ?_
    | refine LeO.bind ?_ (fun _ => ?_)
  ·
   intro y0 y1 y2 y3
   unfold cow_Check.l3
   repeat' first
    | (with_reducible exact ih0 _ _ _ _ _)
    | (with_reducible exact ih1 _ _ _ _ _ _ _ _ _)
    | (with_reducible exact ih2 _ _ _ _ _ _ _ _ _ _ _ _)
    | (with_reducible exact ih3 _ _ _ _ _)
    | (with_reducible exact ih4 _ _ _ _ _ _)
    | (with_reducible exact ih5 _ _ _ _)
    | (with_reducible exact ih6 _ _ _ _ _)
    | (with_reducible exact cow_forms.mono _ _ _ _ _)
    | (with_reducible exact LeO.refl _)
    | (with_reducible exact LeO.none _)
    | (with_reducible refine LeO.ite ?_ ?_)
    | (with_reducible refine LeO.bind ?_ (fun _ => ?_))
    | exact ih0 _ _ _ _ _
    | exact ih1 _ _ _ _ _ _ _ _ _
    | exact ih2 _ _ _ _ _ _ _ _ _ _ _ _
    | exact ih3 _ _ _ _ _
    | exact ih4 _ _ _ _ _ _
    | exact ih5 _ _ _ _
    | exact ih6 _ _ _ _ _
    | exact cow_forms.mono _ _ _ _ _
    | exact LeO.none _
    | refine LeO.ite ?_ ?_
    | refine LeO.bind ?_ (fun _ => ?_)
  ·
   intro y0 y1 y2 y3 y4
   unfold cow_Check.j6
   repeat' first
    | (with_reducible exact ih0 _ _ _ _ _)
    | (with_reducible exact ih1 _ _ _ _ _ _ _ _ _)
    | (with_reducible exact ih2 _ _ _ _ _ _ _ _ _ _ _ _)
    | (with_reducible exact ih3 _ _ _ _ _)
    | (with_reducible exact ih4 _ _ _ _ _ _)
    | (with_reducible exact ih5 _ _ _ _)
    | (with_reducible exact ih6 _ _ _ _ _)
    | (with_reducible exact cow_forms.mono _ _ _ _ _)
    | (with_reducible exact LeO.refl _)
    | (with_reducible exact LeO.none _)
    | (with_reducible refine LeO.ite ?_ ?_)
    | (with_reducible refine LeO.bind ?_ (fun _ => ?_))
    | exact ih0 _ _ _ _ _
    | exact ih1 _ _ _ _ _ _ _ _ _
    | exact ih2 _ _ _ _ _ _ _ _ _ _ _ _
    | exact ih3 _ _ _ _ _
    | exact ih4 _ _ _ _ _ _
    | exact ih5 _ _ _ _
    | exact ih6 _ _ _ _ _
    | exact cow_forms.mono _ _ _ _ _
    | exact LeO.none _
    | refine LeO.ite ?_ ?_
    | refine LeO.bind ?_ (fun _ => ?_)
theorem cow_Check.mono : ∀ a0 a1 a2 a3 k, LeO (cow_Check.f k a0 a1 a2 a3) (cow_Check.f (k + 1) a0 a1 a2 a3) := by
 intro a0 a1 a2 a3 k; obtain ⟨ih0, ih1, ih2, ih3, ih4, ih5, ih6⟩ := cow_Check.mono_l k
 unfold cow_Check.f
 repeat' first
  | (with_reducible exact ih0 _ _ _ _ _)
  | (with_reducible exact ih1 _ _ _ _ _ _ _ _ _)
  | (with_reducible exact ih2 _ _ _ _ _ _ _ _ _ _ _ _)
  | (with_reducible exact ih3 _ _ _ _ _)
  | (with_reducible exact ih4 _ _ _ _ _ _)
  | (with_reducible exact ih5 _ _ _ _)
  | (with_reducible exact ih6 _ _ _ _ _)
  | (with_reducible exact cow_forms.mono _ _ _ _ _)
  | (with_reducible exact LeO.refl _)
  | (with_reducible exact LeO.none _)
  | (with_reducible refine LeO.ite ?_ ?_)
  | (with_reducible refine LeO.bind ?_ (fun _ => ?_))
  | exact ih0 _ _ _ _ _
  | exact ih1 _ _ _ _ _ _ _ _ _
  | exact ih2 _ _ _ _ _ _ _ _ _ _ _ _
  | exact ih3 _ _ _ _ _
  | exact ih4 _ _ _ _ _ _
  | exact ih5 _ _ _ _
  | exact ih6 _ _ _ _ _
  | exact cow_forms.mono _ _ _ _ _
  | exact LeO.none _
  | refine LeO.ite ?_ ?_
  | refine LeO.bind ?_ (fun _ => ?_)
def cow_Check.T16 : Bool × List (List Nat × List Nat) := (true, [([], []), ([], []), ([1], [1]), ([], []), ([], []), ([4], [4]), ([3, 5], [3, 5]), ([6], [6]), ([7], [7]), ([8], [8]), ([9, 8], [8, 9]), ([8, 10], [8, 10]), ([0, 2, 0, 1, 2, 3, 4, 5, 6, 7, 8, 9, 10, 11], [0, 2]), ([12, 11, 8, 0, 1, 2, 3, 4, 5, 6, 7, 8, 9, 10, 11], [11, 12])])
def cow_Check.B16 : List Nat := [0, 0, 2, 0, 0, 16, 56, 120, 248, 504, 1016, 2040, 4095, 8191]
theorem cow_Check.tab16 : rtab .any (opsOf Try.f23 16) = cow_Check.T16 := by kernel_rfl
theorem cow_Check.bits16 : waitsOk cow_Check.T16.2 cow_Check.B16 = true := by kernel_rfl
def cow_Check.T22 : Bool × List (List Nat × List Nat) := (true, [([], []), ([0], [0]), ([], []), ([], []), ([2, 3], [2, 3]), ([4], [4]), ([1, 5], [1, 5]), ([6], [6]), ([7], [7]), ([8, 7], [7, 8]), ([9, 7], [7, 9]), ([10, 7, 7], [7, 10]), ([11], [11]), ([12, 11], [11, 12]), ([13, 11], [11, 13]), ([11, 14, 7], [7, 11, 14]), ([7, 15], [7, 15])])
def cow_Check.B22 : List Nat := [0, 1, 0, 0, 12, 28, 63, 127, 255, 511, 1023, 2047, 4095, 8191, 16383, 32767, 65535]
theorem cow_Check.tab22 : rtab .any (opsOf Try.f23 22) = cow_Check.T22 := by kernel_rfl
theorem cow_Check.bits22 : waitsOk cow_Check.T22.2 cow_Check.B22 = true := by kernel_rfl
set_option maxHeartbeats 8000000 in
set_option maxRecDepth 100000 in
theorem cow_Check.calls (k : Nat) (a0_0 : Int) (A0_1 : Option Addr) (c0_1 : Nat) (l0_1 : List (S62)) (A0_2 : Option Addr) (c0_2 : Nat) (l0_2 : List (S57)) (a0_3 : Int) (r : Int) (w : World) (hr0_1 : Kd.C k62 w A0_1 l0_1.length l0_1) (hc0_1 : l0_1.length ≤ c0_1) (hr0_2 : Kd.C k57 w A0_2 l0_2.length l0_2) (hc0_2 : l0_2.length ≤ c0_2) (h : cow_Check.f k a0_0 l0_1 l0_2 a0_3 = some r) :
 Calls Try.prog 23 #[.agg #[.int .i64 a0_0, .slice A0_1 l0_1.length c0_1, .slice A0_2 l0_2.length c0_2, .int .i64 a0_3]] w fun e w' => e = .returned (.int .i64 r) ∧ Below w.heap.size w w' := by
 have hu27 := Try.underlying27; have hu62 := Try.underlying62; have hu64 := Try.underlying64; have hu57 := Try.underlying57; have HR0_1 := Aside0.mk hr0_1; have HC0_1 := Aside0.mk hc0_1; clear hr0_1 hc0_1; have HR0_2 := Aside0.mk hr0_2; have HC0_2 := Aside0.mk hc0_2; clear hr0_2 hc0_2; have HB := Aside0.mk (Below.refl w.heap.size w)
 have H : ((cow_Check_1.f a0_0 512).bind fun t120 => (if t120 = true then ((cow_Check_1.f (l0_1.length : Int) 8).bind fun t121 => (if t121 = true then ((cow_Check_1.f (l0_2.length : Int) 256).bind fun t122 => (if t122 = true then (if a0_3 < 0 then (cow_Check.j0 k true a0_0 l0_1 l0_2 a0_3) else (cow_Check.j0 k (decide (a0_3 > 1048576)) a0_0 l0_1 l0_2 a0_3)) else (cow_Check.j0 k true a0_0 l0_1 l0_2 a0_3))) else (cow_Check.j0 k true a0_0 l0_1 l0_2 a0_3))) else (cow_Check.j0 k true a0_0 l0_1 l0_2 a0_3))) = some r := h
 clear h; have HC2 := Aside0.mk H; clear H
 go_enter Try.func23, Try.ntmps23
 go_upto_region 2 with (first | ((with_reducible refine gate_dst (N := 1) rfl ?_); (try (refine gate_guard (by rfl) ?_; dsimp only)); refine box_event ?hg (N := 1) ?hd (cs := #[.int .i64 a0_0, .slice A0_1 l0_1.length c0_1, .slice A0_2 l0_2.length c0_2, .int .i64 a0_3]) (t := 27) ?hr ?_; (case hd => rfl); (case hg => rfl); (case hr => first | (go_simp; done) | (go_simp; rfl)); intro gb119 hg w3 hbox hb; have n0_ := Aside0.mk (below_step (by repeat (first | (with_reducible first | exact HB.out | apply b0_ | apply b1_ | apply b2_) | exact HB.out)) hb); have n1_ := Aside0.mk (hbox); have n2_ := Aside0.mk ((by rw [hg]; exact (below_size (by repeat (first | (with_reducible first | exact HB.out | apply b0_ | apply b1_ | apply b2_) | exact HB.out))) : w.heap.size ≤ gb119)); have n3_ := Aside0.mk ((by rw [hg]; exact (below_size (by repeat (first | (with_reducible first | exact HB.out | apply b0_ | apply b1_ | apply b2_) | exact HB.out))) : w.heap.size ≤ gb119)); clear HB; have HB := n0_; have BK119 := n1_; have GW119 := n2_; have GE119 := n3_; clear n0_ n1_ n2_ n3_; clear hb hbox hg))
 (try simp only [Act.put, List.setIfInBounds_toArray, List.set_cons_zero, List.set_cons_succ])
 go_cut [44] (fun v44 wc => ∃ (kq : Nat) (x44_1 : Bool), v44 = .bool x44_1 ∧ Aside0 (cow_Check.j0 kq x44_1 a0_0 l0_1 l0_2 a0_3 = some r) ∧ Aside0 (kq ≤ k) ∧ Aside0 (wc.heap[gb119]? = some (.cells #[.int .i64 a0_0, (.slice A0_1 l0_1.length c0_1), (.slice A0_2 l0_2.length c0_2), .int .i64 a0_3] 27 (0, 0))) ∧ Aside0 (Below w.heap.size w wc))
 case first =>
  have H := HC2.out; clear HC2; replace H := Option.bind_eq_some_iff.mp H; obtain ⟨t120, A40, H⟩ := H
  replace H : (if t120 = true then ((cow_Check_1.f (l0_1.length : Int) 8).bind fun t121 => (if t121 = true then ((cow_Check_1.f (l0_2.length : Int) 256).bind fun t122 => (if t122 = true then (if a0_3 < 0 then (cow_Check.j0 k true a0_0 l0_1 l0_2 a0_3) else (cow_Check.j0 k (decide (a0_3 > 1048576)) a0_0 l0_1 l0_2 a0_3)) else (cow_Check.j0 k true a0_0 l0_1 l0_2 a0_3))) else (cow_Check.j0 k true a0_0 l0_1 l0_2 a0_3))) else (cow_Check.j0 k true a0_0 l0_1 l0_2 a0_3)) = some r := H
  have A4 := Aside0.mk A40; clear A40; by_cases c5 : t120 = true
  rotate_left
  ·
   replace c5 := Bool.eq_false_iff.mpr c5; subst c5
   have H1 : (cow_Check.j0 k true a0_0 l0_1 l0_2 a0_3) = some r := by rw [if_neg (show ¬ (false = true) by decide)] at H; exact H
   clear H; have H := H1; clear H1; have H' := Aside0.mk H; clear H; have hcz15_0 : w3.cell? ⟨gb119, 0, none⟩ = some (.int .i64 a0_0) := (blk_cell BK119.out 0).trans rfl; have hcz15_1 : w3.cell? ⟨gb119, 1, none⟩ = some (.slice A0_1 l0_1.length c0_1) := (blk_cell BK119.out 1).trans rfl; have hcz15_2 : w3.cell? ⟨gb119, 2, none⟩ = some (.slice A0_2 l0_2.length c0_2) := (blk_cell BK119.out 2).trans rfl
   have hcz15_3 : w3.cell? ⟨gb119, 3, none⟩ = some (.int .i64 a0_3) := (blk_cell BK119.out 3).trans rfl; have hfz15_0 := blk_frozen BK119.out 0; have hfz15_1 := blk_frozen BK119.out 1; have hfz15_2 := blk_frozen BK119.out 2; have hfz15_3 := blk_frozen BK119.out 3
   go_wp2_with (first | (go_at_call 46; (with_reducible refine (cow_Check_1.calls a0_0 512 false _ A4.out).mono ?_); rintro e w' ⟨rfl, ⟨nd, rfl⟩⟩))
   go_meet
   case rel => exact ⟨_, (true), (by first | rfl | (simp; done) | (simp [*]; done)), H', ⟨by first | omega | exact Nat.le_refl _⟩, ⟨by (with_reducible repeat (first | refine blk_drewN ?_ _ | refine blk_drew ?_ | refine blk_alloc ?_ _)); exact BK119.out⟩, ⟨by repeat (first | (with_reducible first | exact HB.out | apply b0_ | apply b1_ | apply b2_ | refine below_set ?_ GE119.out) | exact HB.out)⟩⟩
  subst c5
  have H1 : ((cow_Check_1.f (l0_1.length : Int) 8).bind fun t121 => (if t121 = true then ((cow_Check_1.f (l0_2.length : Int) 256).bind fun t122 => (if t122 = true then (if a0_3 < 0 then (cow_Check.j0 k true a0_0 l0_1 l0_2 a0_3) else (cow_Check.j0 k (decide (a0_3 > 1048576)) a0_0 l0_1 l0_2 a0_3)) else (cow_Check.j0 k true a0_0 l0_1 l0_2 a0_3))) else (cow_Check.j0 k true a0_0 l0_1 l0_2 a0_3))) = some r := by rw [if_pos rfl] at H; exact H
  clear H; have H := H1; clear H1; replace H := Option.bind_eq_some_iff.mp H; obtain ⟨t121, A60, H⟩ := H
  replace H : (if t121 = true then ((cow_Check_1.f (l0_2.length : Int) 256).bind fun t122 => (if t122 = true then (if a0_3 < 0 then (cow_Check.j0 k true a0_0 l0_1 l0_2 a0_3) else (cow_Check.j0 k (decide (a0_3 > 1048576)) a0_0 l0_1 l0_2 a0_3)) else (cow_Check.j0 k true a0_0 l0_1 l0_2 a0_3))) else (cow_Check.j0 k true a0_0 l0_1 l0_2 a0_3)) = some r := H; have A6 := Aside0.mk A60; clear A60
  by_cases c7 : t121 = true
  rotate_left
  ·
   replace c7 := Bool.eq_false_iff.mpr c7; subst c7
   have H1 : (cow_Check.j0 k true a0_0 l0_1 l0_2 a0_3) = some r := by rw [if_neg (show ¬ (false = true) by decide)] at H; exact H
   clear H; have H := H1; clear H1; have H' := Aside0.mk H; clear H; have hcz14_0 : w3.cell? ⟨gb119, 0, none⟩ = some (.int .i64 a0_0) := (blk_cell BK119.out 0).trans rfl; have hcz14_1 : w3.cell? ⟨gb119, 1, none⟩ = some (.slice A0_1 l0_1.length c0_1) := (blk_cell BK119.out 1).trans rfl; have hcz14_2 : w3.cell? ⟨gb119, 2, none⟩ = some (.slice A0_2 l0_2.length c0_2) := (blk_cell BK119.out 2).trans rfl
   have hcz14_3 : w3.cell? ⟨gb119, 3, none⟩ = some (.int .i64 a0_3) := (blk_cell BK119.out 3).trans rfl; have hfz14_0 := blk_frozen BK119.out 0; have hfz14_1 := blk_frozen BK119.out 1; have hfz14_2 := blk_frozen BK119.out 2; have hfz14_3 := blk_frozen BK119.out 3
   go_wp2_with (first | (go_at_call 46; (with_reducible refine (cow_Check_1.calls a0_0 512 true _ A4.out).mono ?_); rintro e w' ⟨rfl, ⟨nd, rfl⟩⟩) | (go_at_call 46; (with_reducible refine (cow_Check_1.calls (l0_1.length : Int) 8 false _ A6.out).mono ?_); rintro e w' ⟨rfl, ⟨nd, rfl⟩⟩))
   go_meet
   case rel => exact ⟨_, (true), (by first | rfl | (simp; done) | (simp [*]; done)), H', ⟨by first | omega | exact Nat.le_refl _⟩, ⟨by (with_reducible repeat (first | refine blk_drewN ?_ _ | refine blk_drew ?_ | refine blk_alloc ?_ _)); exact BK119.out⟩, ⟨by repeat (first | (with_reducible first | exact HB.out | apply b0_ | apply b1_ | apply b2_ | refine below_set ?_ GE119.out) | exact HB.out)⟩⟩
  subst c7
  have H1 : ((cow_Check_1.f (l0_2.length : Int) 256).bind fun t122 => (if t122 = true then (if a0_3 < 0 then (cow_Check.j0 k true a0_0 l0_1 l0_2 a0_3) else (cow_Check.j0 k (decide (a0_3 > 1048576)) a0_0 l0_1 l0_2 a0_3)) else (cow_Check.j0 k true a0_0 l0_1 l0_2 a0_3))) = some r := by rw [if_pos rfl] at H; exact H
  clear H; have H := H1; clear H1; replace H := Option.bind_eq_some_iff.mp H; obtain ⟨t122, A80, H⟩ := H; replace H : (if t122 = true then (if a0_3 < 0 then (cow_Check.j0 k true a0_0 l0_1 l0_2 a0_3) else (cow_Check.j0 k (decide (a0_3 > 1048576)) a0_0 l0_1 l0_2 a0_3)) else (cow_Check.j0 k true a0_0 l0_1 l0_2 a0_3)) = some r := H; have A8 := Aside0.mk A80; clear A80; by_cases c9 : t122 = true
  rotate_left
  ·
   replace c9 := Bool.eq_false_iff.mpr c9; subst c9
   have H1 : (cow_Check.j0 k true a0_0 l0_1 l0_2 a0_3) = some r := by rw [if_neg (show ¬ (false = true) by decide)] at H; exact H
   clear H; have H := H1; clear H1; have H' := Aside0.mk H; clear H; have hcz13_0 : w3.cell? ⟨gb119, 0, none⟩ = some (.int .i64 a0_0) := (blk_cell BK119.out 0).trans rfl; have hcz13_1 : w3.cell? ⟨gb119, 1, none⟩ = some (.slice A0_1 l0_1.length c0_1) := (blk_cell BK119.out 1).trans rfl; have hcz13_2 : w3.cell? ⟨gb119, 2, none⟩ = some (.slice A0_2 l0_2.length c0_2) := (blk_cell BK119.out 2).trans rfl
   have hcz13_3 : w3.cell? ⟨gb119, 3, none⟩ = some (.int .i64 a0_3) := (blk_cell BK119.out 3).trans rfl; have hfz13_0 := blk_frozen BK119.out 0; have hfz13_1 := blk_frozen BK119.out 1; have hfz13_2 := blk_frozen BK119.out 2; have hfz13_3 := blk_frozen BK119.out 3
   go_wp2_with (first | (go_at_call 46; (with_reducible refine (cow_Check_1.calls a0_0 512 true _ A4.out).mono ?_); rintro e w' ⟨rfl, ⟨nd, rfl⟩⟩) | (go_at_call 46; (with_reducible refine (cow_Check_1.calls (l0_1.length : Int) 8 true _ A6.out).mono ?_); rintro e w' ⟨rfl, ⟨nd, rfl⟩⟩) | (go_at_call 46; (with_reducible refine (cow_Check_1.calls (l0_2.length : Int) 256 false _ A8.out).mono ?_); rintro e w' ⟨rfl, ⟨nd, rfl⟩⟩))
   go_meet
   case rel => exact ⟨_, (true), (by first | rfl | (simp; done) | (simp [*]; done)), H', ⟨by first | omega | exact Nat.le_refl _⟩, ⟨by (with_reducible repeat (first | refine blk_drewN ?_ _ | refine blk_drew ?_ | refine blk_alloc ?_ _)); exact BK119.out⟩, ⟨by repeat (first | (with_reducible first | exact HB.out | apply b0_ | apply b1_ | apply b2_ | refine below_set ?_ GE119.out) | exact HB.out)⟩⟩
  subst c9
  have H1 : (if a0_3 < 0 then (cow_Check.j0 k true a0_0 l0_1 l0_2 a0_3) else (cow_Check.j0 k (decide (a0_3 > 1048576)) a0_0 l0_1 l0_2 a0_3)) = some r := by rw [if_pos rfl] at H; exact H
  clear H; have H := H1; clear H1; by_cases c10 : a0_3 < 0
  rotate_left
  ·
   rw [if_neg c10] at H; have c10b0 : decide (a0_3 < 0) = false := decide_eq_false c10; clear c10
   (first | rw [c10b0] | (simp only [i64_w, i32_w]; rw [c10b0]) | skip)
   have H' := Aside0.mk H; clear H; have hcz12_0 : w3.cell? ⟨gb119, 0, none⟩ = some (.int .i64 a0_0) := (blk_cell BK119.out 0).trans rfl; have hcz12_1 : w3.cell? ⟨gb119, 1, none⟩ = some (.slice A0_1 l0_1.length c0_1) := (blk_cell BK119.out 1).trans rfl; have hcz12_2 : w3.cell? ⟨gb119, 2, none⟩ = some (.slice A0_2 l0_2.length c0_2) := (blk_cell BK119.out 2).trans rfl
   have hcz12_3 : w3.cell? ⟨gb119, 3, none⟩ = some (.int .i64 a0_3) := (blk_cell BK119.out 3).trans rfl; have hfz12_0 := blk_frozen BK119.out 0; have hfz12_1 := blk_frozen BK119.out 1; have hfz12_2 := blk_frozen BK119.out 2; have hfz12_3 := blk_frozen BK119.out 3
   go_wp2_with (first | (go_at_call 46; (with_reducible refine (cow_Check_1.calls a0_0 512 true _ A4.out).mono ?_); rintro e w' ⟨rfl, ⟨nd, rfl⟩⟩) | (go_at_call 46; (with_reducible refine (cow_Check_1.calls (l0_1.length : Int) 8 true _ A6.out).mono ?_); rintro e w' ⟨rfl, ⟨nd, rfl⟩⟩) | (go_at_call 46; (with_reducible refine (cow_Check_1.calls (l0_2.length : Int) 256 true _ A8.out).mono ?_); rintro e w' ⟨rfl, ⟨nd, rfl⟩⟩))
   go_meet
   case rel => exact ⟨_, (decide (a0_3 > 1048576)), (by first | rfl | (simp; done) | (simp [*]; done)), H', ⟨by first | omega | exact Nat.le_refl _⟩, ⟨by (with_reducible repeat (first | refine blk_drewN ?_ _ | refine blk_drew ?_ | refine blk_alloc ?_ _)); exact BK119.out⟩, ⟨by repeat (first | (with_reducible first | exact HB.out | apply b0_ | apply b1_ | apply b2_ | refine below_set ?_ GE119.out) | exact HB.out)⟩⟩
  rw [if_pos c10] at H; have c10b0 : decide (a0_3 < 0) = true := decide_eq_true c10; clear c10
  (first | rw [c10b0] | (simp only [i64_w, i32_w]; rw [c10b0]) | skip)
  have H' := Aside0.mk H; clear H; have hcz11_0 : w3.cell? ⟨gb119, 0, none⟩ = some (.int .i64 a0_0) := (blk_cell BK119.out 0).trans rfl; have hcz11_1 : w3.cell? ⟨gb119, 1, none⟩ = some (.slice A0_1 l0_1.length c0_1) := (blk_cell BK119.out 1).trans rfl; have hcz11_2 : w3.cell? ⟨gb119, 2, none⟩ = some (.slice A0_2 l0_2.length c0_2) := (blk_cell BK119.out 2).trans rfl
  have hcz11_3 : w3.cell? ⟨gb119, 3, none⟩ = some (.int .i64 a0_3) := (blk_cell BK119.out 3).trans rfl; have hfz11_0 := blk_frozen BK119.out 0; have hfz11_1 := blk_frozen BK119.out 1; have hfz11_2 := blk_frozen BK119.out 2; have hfz11_3 := blk_frozen BK119.out 3
  go_wp2_with (first | (go_at_call 46; (with_reducible refine (cow_Check_1.calls a0_0 512 true _ A4.out).mono ?_); rintro e w' ⟨rfl, ⟨nd, rfl⟩⟩) | (go_at_call 46; (with_reducible refine (cow_Check_1.calls (l0_1.length : Int) 8 true _ A6.out).mono ?_); rintro e w' ⟨rfl, ⟨nd, rfl⟩⟩) | (go_at_call 46; (with_reducible refine (cow_Check_1.calls (l0_2.length : Int) 256 true _ A8.out).mono ?_); rintro e w' ⟨rfl, ⟨nd, rfl⟩⟩))
  go_meet
  case rel => exact ⟨_, (true), (by first | rfl | (simp; done) | (simp [*]; done)), H', ⟨by first | omega | exact Nat.le_refl _⟩, ⟨by (with_reducible repeat (first | refine blk_drewN ?_ _ | refine blk_drew ?_ | refine blk_alloc ?_ _)); exact BK119.out⟩, ⟨by repeat (first | (with_reducible first | exact HB.out | apply b0_ | apply b1_ | apply b2_ | refine below_set ?_ GE119.out) | exact HB.out)⟩⟩
 case rest =>
  clear HC2; obtain ⟨kq, x44_1, rfl, HA, HJ1, BK119, HB⟩ := hcut
  cases kq with
   | zero => exact absurd HA.out (by simp [cow_Check.j0])
   | succ kj1 =>
    have H := HA.out; clear HA; simp only [cow_Check.j0] at H; by_cases c16 : x44_1 = true
    rotate_left
    ·
     replace c16 := Bool.eq_false_iff.mpr c16; subst c16
     have H1 : ((cow_forms.f kj1 a0_0 l0_1 l0_2 a0_3).bind fun t123 => (if t123 = true then (if 0 ≤ (l0_2.length : Int) then (if ((l0_2.length : Int) : Int).toNat ≤ 35184372088832 then (if ((l0_2.length : Int) : Int).toNat ≤ 281474976710656 then (cow_Check.l0 kj1 (List.replicate ((l0_2.length : Int) : Int).toNat 0) (List.replicate ((l0_2.length : Int) : Int).toNat false) l0_1 (l0_1.length : Int) 0 a0_0 l0_1 l0_2 a0_3) else (none)) else (none)) else (none)) else (some 3))) = some r := by rw [if_neg (show ¬ (false = true) by decide)] at H; exact H
     clear H; have H := H1; clear H1; replace H := Option.bind_eq_some_iff.mp H; obtain ⟨t123, A170, H⟩ := H
     replace H : (if t123 = true then (if 0 ≤ (l0_2.length : Int) then (if ((l0_2.length : Int) : Int).toNat ≤ 35184372088832 then (if ((l0_2.length : Int) : Int).toNat ≤ 281474976710656 then (cow_Check.l0 kj1 (List.replicate ((l0_2.length : Int) : Int).toNat 0) (List.replicate ((l0_2.length : Int) : Int).toNat false) l0_1 (l0_1.length : Int) 0 a0_0 l0_1 l0_2 a0_3) else (none)) else (none)) else (none)) else (some 3)) = some r := H
     have A17 := Aside0.mk A170; clear A170; by_cases c18 : t123 = true
     rotate_left
     ·
      replace c18 := Bool.eq_false_iff.mpr c18; subst c18
      have H1 : (some 3) = some r := by rw [if_neg (show ¬ (false = true) by decide)] at H; exact H
      clear H; have H := H1; clear H1; obtain rfl := Option.some.inj H; have hcz108_0 : wc.cell? ⟨gb119, 0, none⟩ = some (.int .i64 a0_0) := (blk_cell BK119.out 0).trans rfl; have hcz108_1 : wc.cell? ⟨gb119, 1, none⟩ = some (.slice A0_1 l0_1.length c0_1) := (blk_cell BK119.out 1).trans rfl; have hcz108_2 : wc.cell? ⟨gb119, 2, none⟩ = some (.slice A0_2 l0_2.length c0_2) := (blk_cell BK119.out 2).trans rfl
      have hcz108_3 : wc.cell? ⟨gb119, 3, none⟩ = some (.int .i64 a0_3) := (blk_cell BK119.out 3).trans rfl; have hfz108_0 := blk_frozen BK119.out 0; have hfz108_1 := blk_frozen BK119.out 1; have hfz108_2 := blk_frozen BK119.out 2; have hfz108_3 := blk_frozen BK119.out 3
      go_wp2_with (first | ((with_reducible refine gate_callee (f := 47) rfl ?_); refine goesL_ (some 46) rfl rfl Try.func47 (by kernel_rfl) rfl #[.agg #[.int .i64 a0_0, .slice A0_1 l0_1.length c0_1, .slice A0_2 l0_2.length c0_2, .int .i64 a0_3]] rfl (by (try simp only [z3_, z4_, z5_]); first | done | rfl | (simp only [z6_, z7_]; rfl)) ?_; (with_reducible refine (cow_forms.calls kj1 a0_0 _ _ l0_1 _ _ l0_2 a0_3 false _ ?side1 ?side2 ?side3 ?side4 A17.out).mono ?_); (case side1 => repeat (first | exact (Kd.C_below HR0_1.out HB.out) | (with_reducible refine Kd.C_alloc ?_ _) | (with_reducible refine Kd.C_drewN ?_ _) | (with_reducible refine Kd.C_drew ?_))); (case side2 => exact HC0_1.out); (case side3 => repeat (first | exact (Kd.C_below HR0_2.out HB.out) | (with_reducible refine Kd.C_alloc ?_ _) | (with_reducible refine Kd.C_drewN ?_ _) | (with_reducible refine Kd.C_drew ?_))); (case side4 => exact HC0_2.out); rintro e w109 ⟨rfl, hb⟩; refine ⟨_, rfl, ?_⟩; have n0_ := Aside0.mk (blk_below (g := gb119) (o := .cells #[.int .i64 a0_0, .slice A0_1 l0_1.length c0_1, .slice A0_2 l0_2.length c0_2, .int .i64 a0_3] 27 (0, 0)) (by (with_reducible repeat (first | refine blk_drewN ?_ _ | refine blk_drew ?_ | refine blk_alloc ?_ _)); exact BK119.out) hb); have n1_ := Aside0.mk (below_step (by repeat (first | (with_reducible first | exact HB.out | apply b0_ | apply b1_ | apply b2_ | refine below_set ?_ GE119.out) | exact HB.out)) hb); clear BK119; clear HB; have BK119 := n0_; have HB := n1_; clear n0_ n1_))
      go_ret; exact ⟨by first | rfl | (simp [errW_none, errW_some] <;> rfl) | (simp [*, errW_none, errW_some] <;> rfl), by repeat (first | (with_reducible first | exact HB.out | apply b0_ | apply b1_ | apply b2_ | refine below_set ?_ GE119.out) | exact HB.out)⟩
     subst c18
     have H1 : (if 0 ≤ (l0_2.length : Int) then (if ((l0_2.length : Int) : Int).toNat ≤ 35184372088832 then (if ((l0_2.length : Int) : Int).toNat ≤ 281474976710656 then (cow_Check.l0 kj1 (List.replicate ((l0_2.length : Int) : Int).toNat 0) (List.replicate ((l0_2.length : Int) : Int).toNat false) l0_1 (l0_1.length : Int) 0 a0_0 l0_1 l0_2 a0_3) else (none)) else (none)) else (none)) = some r := by rw [if_pos rfl] at H; exact H
     clear H; have H := H1; clear H1; by_cases c19 : 0 ≤ (l0_2.length : Int)
     rotate_left
     · rw [if_neg c19] at H; exact absurd H (by simp)
     rw [if_pos c19] at H; have c19b0 := eq_true c19; have c19b1 : decide (0 ≤ (l0_2.length : Int)) = true := decide_eq_true c19; clear c19; by_cases c20 : ((l0_2.length : Int) : Int).toNat ≤ 35184372088832
     rotate_left
     · rw [if_neg c20] at H; exact absurd H (by simp)
     rw [if_pos c20] at H; have c20b0 := eq_true c20; have c20b1 : decide (((l0_2.length : Int) : Int).toNat ≤ 35184372088832) = true := decide_eq_true c20; clear c20; obtain ⟨y124, hy124⟩ : ∃ y_ : List Int, y_ = (List.replicate ((l0_2.length : Int) : Int).toNat 0) := ⟨_, rfl⟩
     replace H : (if ((l0_2.length : Int) : Int).toNat ≤ 281474976710656 then (cow_Check.l0 kj1 y124 (List.replicate ((l0_2.length : Int) : Int).toNat false) l0_1 (l0_1.length : Int) 0 a0_0 l0_1 l0_2 a0_3) else (none)) = some r := by first | (rw [hy124]; with_reducible exact H) | (have H2_ := (Option.bind_some _ _).symm.trans H; rw [hy124]; with_reducible exact H2_) | (have H2_ := (Option.bind_some _ _).symm.trans H; with_reducible exact H2_) | with_reducible exact H | (rw [hy124]; exact H) | exact H
     have Ny124 := Aside0.mk hy124; clear hy124; by_cases c21 : ((l0_2.length : Int) : Int).toNat ≤ 281474976710656
     rotate_left
     · rw [if_neg c21] at H; exact absurd H (by simp)
     rw [if_pos c21] at H; have c21b0 := eq_true c21; have c21b1 : decide (((l0_2.length : Int) : Int).toNat ≤ 281474976710656) = true := decide_eq_true c21; clear c21; obtain ⟨y127, hy127⟩ : ∃ y_ : List Bool, y_ = (List.replicate ((l0_2.length : Int) : Int).toNat false) := ⟨_, rfl⟩
     replace H : (cow_Check.l0 kj1 y124 y127 l0_1 (l0_1.length : Int) 0 a0_0 l0_1 l0_2 a0_3) = some r := by first | (rw [hy127]; with_reducible exact H) | (have H2_ := (Option.bind_some _ _).symm.trans H; rw [hy127]; with_reducible exact H2_) | (have H2_ := (Option.bind_some _ _).symm.trans H; with_reducible exact H2_) | with_reducible exact H | (rw [hy127]; exact H) | exact H
     have Ny127 := Aside0.mk hy127; clear hy127; have H' := Aside0.mk H; clear H; have hcz22_0 : wc.cell? ⟨gb119, 0, none⟩ = some (.int .i64 a0_0) := (blk_cell BK119.out 0).trans rfl; have hcz22_1 : wc.cell? ⟨gb119, 1, none⟩ = some (.slice A0_1 l0_1.length c0_1) := (blk_cell BK119.out 1).trans rfl
     have hcz22_2 : wc.cell? ⟨gb119, 2, none⟩ = some (.slice A0_2 l0_2.length c0_2) := (blk_cell BK119.out 2).trans rfl; have hcz22_3 : wc.cell? ⟨gb119, 3, none⟩ = some (.int .i64 a0_3) := (blk_cell BK119.out 3).trans rfl; have hfz22_0 := blk_frozen BK119.out 0; have hfz22_1 := blk_frozen BK119.out 1; have hfz22_2 := blk_frozen BK119.out 2; have hfz22_3 := blk_frozen BK119.out 3
     go_wp2_with (first | ((with_reducible refine gate_callee (f := 47) rfl ?_); refine goesL_ (some 46) rfl rfl Try.func47 (by kernel_rfl) rfl #[.agg #[.int .i64 a0_0, .slice A0_1 l0_1.length c0_1, .slice A0_2 l0_2.length c0_2, .int .i64 a0_3]] rfl (by (try simp only [z3_, z4_, z5_]); first | done | rfl | (simp only [z6_, z7_]; rfl)) ?_; (with_reducible refine (cow_forms.calls kj1 a0_0 _ _ l0_1 _ _ l0_2 a0_3 true _ ?side1 ?side2 ?side3 ?side4 A17.out).mono ?_); (case side1 => repeat (first | exact (Kd.C_below HR0_1.out HB.out) | (with_reducible refine Kd.C_alloc ?_ _) | (with_reducible refine Kd.C_drewN ?_ _) | (with_reducible refine Kd.C_drew ?_))); (case side2 => exact HC0_1.out); (case side3 => repeat (first | exact (Kd.C_below HR0_2.out HB.out) | (with_reducible refine Kd.C_alloc ?_ _) | (with_reducible refine Kd.C_drewN ?_ _) | (with_reducible refine Kd.C_drew ?_))); (case side4 => exact HC0_2.out); rintro e w23 ⟨rfl, hb⟩; refine ⟨_, rfl, ?_⟩; have n0_ := Aside0.mk (blk_below (g := gb119) (o := .cells #[.int .i64 a0_0, .slice A0_1 l0_1.length c0_1, .slice A0_2 l0_2.length c0_2, .int .i64 a0_3] 27 (0, 0)) (by (with_reducible repeat (first | refine blk_drewN ?_ _ | refine blk_drew ?_ | refine blk_alloc ?_ _)); exact BK119.out) hb); have n1_ := Aside0.mk (below_step (by repeat (first | (with_reducible first | exact HB.out | apply b0_ | apply b1_ | apply b2_ | refine below_set ?_ GE119.out) | exact HB.out)) hb); clear BK119; clear HB; have BK119 := n0_; have HB := n1_; clear n0_ n1_; have hcz24_0 : w23.cell? ⟨gb119, 0, none⟩ = some (.int .i64 a0_0) := (blk_cell BK119.out 0).trans rfl; have hcz24_1 : w23.cell? ⟨gb119, 1, none⟩ = some (.slice A0_1 l0_1.length c0_1) := (blk_cell BK119.out 1).trans rfl; have hcz24_2 : w23.cell? ⟨gb119, 2, none⟩ = some (.slice A0_2 l0_2.length c0_2) := (blk_cell BK119.out 2).trans rfl; have hcz24_3 : w23.cell? ⟨gb119, 3, none⟩ = some (.int .i64 a0_3) := (blk_cell BK119.out 3).trans rfl; have hfz24_0 := blk_frozen BK119.out 0; have hfz24_1 := blk_frozen BK119.out 1; have hfz24_2 := blk_frozen BK119.out 2; have hfz24_3 := blk_frozen BK119.out 3) | ((with_reducible refine gate_dst (N := 51) rfl ?_); (try (refine gate_guard (by rfl) ?_; dsimp only)); refine Kd.R_make (Kd.int .i64) _ 3 rfl (N := 51) rfl 22 _ _ rfl (l0_2.length : Int) rfl rfl Try.underlying22 (.int .i64 0) 8 info3 rfl (by decide) (by omega) 0 (ok := fun _ => True) (okp := fun _ => True) rfl (fun _ hk => hk) trivial (of_decide_eq_true (by first | (with_reducible assumption) | assumption)) (Nat.le_trans (Nat.mul_le_mul_right _ (of_decide_eq_true (by first | (with_reducible assumption) | assumption) : (l0_2.length : Int).toNat ≤ 35184372088832)) (by omega)) (Below.refl _ _) (Nat.le_refl _) ?_; intro v125 w25 ho26 hb hg_ hnew_; clear hg_ hnew_; (first | rw [← Ny124.out] at ho26 | (simp only [Int.reduceToNat] at ho26; rw [← Ny124.out] at ho26)); have n0_ := Aside0.mk (Kd.R_lower ho26 (below_size (by repeat (first | (with_reducible first | exact HB.out | apply b0_ | apply b1_ | apply b2_ | refine below_set ?_ GE119.out) | exact HB.out)))); have n1_ := Aside0.mk (blk_below (g := gb119) (o := .cells #[.int .i64 a0_0, .slice A0_1 l0_1.length c0_1, .slice A0_2 l0_2.length c0_2, .int .i64 a0_3] 27 (0, 0)) (by (with_reducible repeat (first | refine blk_drewN ?_ _ | refine blk_drew ?_ | refine blk_alloc ?_ _)); exact BK119.out) hb); have n2_ := Aside0.mk (below_step (by repeat (first | (with_reducible first | exact HB.out | apply b0_ | apply b1_ | apply b2_ | refine below_set ?_ GE119.out) | exact HB.out)) hb); clear BK119; clear HB; have HO126 := n0_; have BK119 := n1_; have HB := n2_; clear n0_ n1_ n2_; clear hb ho26; have hcz27_0 : w25.cell? ⟨gb119, 0, none⟩ = some (.int .i64 a0_0) := (blk_cell BK119.out 0).trans rfl; have hcz27_1 : w25.cell? ⟨gb119, 1, none⟩ = some (.slice A0_1 l0_1.length c0_1) := (blk_cell BK119.out 1).trans rfl; have hcz27_2 : w25.cell? ⟨gb119, 2, none⟩ = some (.slice A0_2 l0_2.length c0_2) := (blk_cell BK119.out 2).trans rfl; have hcz27_3 : w25.cell? ⟨gb119, 3, none⟩ = some (.int .i64 a0_3) := (blk_cell BK119.out 3).trans rfl; have hfz27_0 := blk_frozen BK119.out 0; have hfz27_1 := blk_frozen BK119.out 1; have hfz27_2 := blk_frozen BK119.out 2; have hfz27_3 := blk_frozen BK119.out 3) | ((with_reducible refine gate_dst (N := 55) rfl ?_); (try (refine gate_guard (by rfl) ?_; dsimp only)); refine Kd.R_make Kd.bool _ 4 rfl (N := 55) rfl 48 _ _ rfl (l0_2.length : Int) rfl rfl Try.underlying48 (.bool false) 1 info4 rfl (by decide) (by omega) false (ok := fun _ => True) (okp := fun _ => True) rfl (fun _ hk => hk) trivial (of_decide_eq_true (by first | (with_reducible assumption) | assumption)) (Nat.le_trans (Nat.mul_le_mul_right _ (of_decide_eq_true (by first | (with_reducible assumption) | assumption) : (l0_2.length : Int).toNat ≤ 281474976710656)) (by omega)) (Below.refl _ _) (Nat.le_refl _) ?_; intro v128 w28 ho29 hb hg_ hnew_; clear hg_ hnew_; (first | rw [← Ny127.out] at ho29 | (simp only [Int.reduceToNat] at ho29; rw [← Ny127.out] at ho29)); have n0_ := Aside0.mk (Kd.R_below (by (with_reducible repeat (first | apply Kd.R_alloc | apply Kd.R_drewN | apply Kd.R_drew)); exact HO126.out) hb); have n1_ := Aside0.mk (Kd.R_lower ho29 (below_size (by repeat (first | (with_reducible first | exact HB.out | apply b0_ | apply b1_ | apply b2_ | refine below_set ?_ GE119.out) | exact HB.out)))); have n2_ := Aside0.mk (blk_below (g := gb119) (o := .cells #[.int .i64 a0_0, .slice A0_1 l0_1.length c0_1, .slice A0_2 l0_2.length c0_2, .int .i64 a0_3] 27 (0, 0)) (by (with_reducible repeat (first | refine blk_drewN ?_ _ | refine blk_drew ?_ | refine blk_alloc ?_ _)); exact BK119.out) hb); have n3_ := Aside0.mk (below_step (by repeat (first | (with_reducible first | exact HB.out | apply b0_ | apply b1_ | apply b2_ | refine below_set ?_ GE119.out) | exact HB.out)) hb); clear HO126; clear BK119; clear HB; have HO126 := n0_; have HO129 := n1_; have BK119 := n2_; have HB := n3_; clear n0_ n1_ n2_ n3_; clear hb ho29; have hcz30_0 : w28.cell? ⟨gb119, 0, none⟩ = some (.int .i64 a0_0) := (blk_cell BK119.out 0).trans rfl; have hcz30_1 : w28.cell? ⟨gb119, 1, none⟩ = some (.slice A0_1 l0_1.length c0_1) := (blk_cell BK119.out 1).trans rfl; have hcz30_2 : w28.cell? ⟨gb119, 2, none⟩ = some (.slice A0_2 l0_2.length c0_2) := (blk_cell BK119.out 2).trans rfl; have hcz30_3 : w28.cell? ⟨gb119, 3, none⟩ = some (.int .i64 a0_3) := (blk_cell BK119.out 3).trans rfl; have hfz30_0 := blk_frozen BK119.out 0; have hfz30_1 := blk_frozen BK119.out 1; have hfz30_2 := blk_frozen BK119.out 2; have hfz30_3 := blk_frozen BK119.out 3))
     go_loopg [59] kj1 (fun kq v59 w' => ∃ (x4_2 : List Int) (x5_2 : List Bool) (x59_2 : Int), v59 = .int .i64 x59_2 ∧ Aside0 (cow_Check.l0 kq x4_2 x5_2 l0_1 (l0_1.length : Int) x59_2 a0_0 l0_1 l0_2 a0_3 = some r) ∧ Aside0 (kq ≤ kj1) ∧ Aside0 (Kd.R (Kd.int .i64) 3 w' w.heap.size (fun _ => True) v125 x4_2) ∧ Aside0 (Kd.R Kd.bool 4 w' w.heap.size (fun _ => True) v128 x5_2) ∧ Aside0 (w'.heap[gb119]? = some (.cells #[.int .i64 a0_0, (.slice A0_1 l0_1.length c0_1), (.slice A0_2 l0_2.length c0_2), .int .i64 a0_3] 27 (0, 0))) ∧ Aside0 (Below w.heap.size w w'))
     case atStart => exact ⟨(y124), (y127), (0), (by first | rfl | (simp; done) | (simp [*]; done)), H', ⟨Nat.le_refl _⟩, ⟨by (with_reducible repeat (first | apply Kd.R_alloc | apply Kd.R_drewN | apply Kd.R_drew)); exact HO126.out⟩, ⟨by (with_reducible repeat (first | apply Kd.R_alloc | apply Kd.R_drewN | apply Kd.R_drew)); exact HO129.out⟩, ⟨by (with_reducible repeat (first | refine blk_drewN ?_ _ | refine blk_drew ?_ | refine blk_alloc ?_ _)); exact BK119.out⟩, ⟨by repeat (first | (with_reducible first | exact HB.out | apply b0_ | apply b1_ | apply b2_ | refine below_set ?_ GE119.out) | exact HB.out)⟩⟩
     case round =>
      clear H'; obtain ⟨x4_2, x5_2, x59_2, rfl, HA, HK2, HO_4, HO_5, BK119, HB⟩ := hrel
      cases gk with
       | zero => exact absurd HA.out (by simp [cow_Check.l0])
       | succ k2 =>
        have H := HA.out; clear HA; simp only [cow_Check.l0] at H; by_cases c31 : x59_2 < (l0_1.length : Int)
        rotate_left
        ·
         rw [if_neg c31] at H; have c31b0 : decide (x59_2 < (l0_1.length : Int)) = false := decide_eq_false c31; clear c31; have H' := Aside0.mk H; clear H; have hcz77_0 : wr.cell? ⟨gb119, 0, none⟩ = some (.int .i64 a0_0) := (blk_cell BK119.out 0).trans rfl; have hcz77_1 : wr.cell? ⟨gb119, 1, none⟩ = some (.slice A0_1 l0_1.length c0_1) := (blk_cell BK119.out 1).trans rfl
         have hcz77_2 : wr.cell? ⟨gb119, 2, none⟩ = some (.slice A0_2 l0_2.length c0_2) := (blk_cell BK119.out 2).trans rfl; have hcz77_3 : wr.cell? ⟨gb119, 3, none⟩ = some (.int .i64 a0_3) := (blk_cell BK119.out 3).trans rfl; have hfz77_0 := blk_frozen BK119.out 0; have hfz77_1 := blk_frozen BK119.out 1; have hfz77_2 := blk_frozen BK119.out 2; have hfz77_3 := blk_frozen BK119.out 3; go_wp2
         go_loopg [98] k2 (fun kq v98 w' => ∃ (x98_3 : Int), v98 = .int .i64 x98_3 ∧ Aside0 (cow_Check.l2 kq x4_2 x5_2 l0_2 (l0_2.length : Int) x98_3 = some r) ∧ Aside0 (kq ≤ k2) ∧ Aside0 (Kd.R (Kd.int .i64) 3 w' w.heap.size (fun _ => True) v125 x4_2) ∧ Aside0 (Kd.R Kd.bool 4 w' w.heap.size (fun _ => True) v128 x5_2) ∧ Aside0 (w'.heap[gb119]? = some (.cells #[.int .i64 a0_0, (.slice A0_1 l0_1.length c0_1), (.slice A0_2 l0_2.length c0_2), .int .i64 a0_3] 27 (0, 0))) ∧ Aside0 (Below w.heap.size w w'))
         case atStart => exact ⟨(0), (by first | rfl | (simp; done) | (simp [*]; done)), H', ⟨Nat.le_refl _⟩, ⟨by (with_reducible repeat (first | apply Kd.R_alloc | apply Kd.R_drewN | apply Kd.R_drew)); exact HO_4.out⟩, ⟨by (with_reducible repeat (first | apply Kd.R_alloc | apply Kd.R_drewN | apply Kd.R_drew)); exact HO_5.out⟩, ⟨by (with_reducible repeat (first | refine blk_drewN ?_ _ | refine blk_drew ?_ | refine blk_alloc ?_ _)); exact BK119.out⟩, ⟨by repeat (first | (with_reducible first | exact HB.out | apply b0_ | apply b1_ | apply b2_ | refine below_set ?_ GE119.out) | exact HB.out)⟩⟩
         case round =>
          clear H'; obtain ⟨x98_3, rfl, HA, HK3, HO_4, HO_5, BK119, HB⟩ := hrel
          cases gk with
           | zero => exact absurd HA.out (by simp [cow_Check.l2])
           | succ k3 =>
            have H := HA.out; clear HA; simp only [cow_Check.l2] at H; by_cases c78 : x98_3 < (l0_2.length : Int)
            rotate_left
            ·
             rw [if_neg c78] at H; have c78b0 : decide (x98_3 < (l0_2.length : Int)) = false := decide_eq_false c78; clear c78; have H' := Aside0.mk H; clear H; obtain ⟨Ao98, co98, eo98⟩ := Kd.R_slice HO_5.out; subst eo98; go_wp2
             go_loopg [123] k3 (fun kq v123 w' => ∃ (x123_4 : Int), v123 = .int .i64 x123_4 ∧ Aside0 (cow_Check.l3 kq x4_2 x5_2 (x5_2.length : Int) x123_4 = some r) ∧ Aside0 (kq ≤ k3) ∧ Aside0 (Kd.R (Kd.int .i64) 3 w' w.heap.size (fun _ => True) v125 x4_2) ∧ Aside0 (Kd.R Kd.bool 4 w' w.heap.size (fun _ => True) (.slice Ao98 x5_2.length co98) x5_2) ∧ Aside0 (w'.heap[gb119]? = some (.cells #[.int .i64 a0_0, (.slice A0_1 l0_1.length c0_1), (.slice A0_2 l0_2.length c0_2), .int .i64 a0_3] 27 (0, 0))) ∧ Aside0 (Below w.heap.size w w'))
             case atStart => exact ⟨(0), (by first | rfl | (simp; done) | (simp [*]; done)), H', ⟨Nat.le_refl _⟩, ⟨by (with_reducible repeat (first | apply Kd.R_alloc | apply Kd.R_drewN | apply Kd.R_drew)); exact HO_4.out⟩, ⟨by (with_reducible repeat (first | apply Kd.R_alloc | apply Kd.R_drewN | apply Kd.R_drew)); exact HO_5.out⟩, ⟨by (with_reducible repeat (first | refine blk_drewN ?_ _ | refine blk_drew ?_ | refine blk_alloc ?_ _)); exact BK119.out⟩, ⟨by repeat (first | (with_reducible first | exact HB.out | apply b0_ | apply b1_ | apply b2_ | refine below_set ?_ GE119.out) | exact HB.out)⟩⟩
             case round =>
              clear H'; obtain ⟨x123_4, rfl, HA, HK4, HO_4, HO_121, BK119, HB⟩ := hrel
              cases gk with
               | zero => exact absurd HA.out (by simp [cow_Check.l3])
               | succ k4 =>
                have H := HA.out; clear HA; simp only [cow_Check.l3] at H; by_cases c99 : x123_4 < (x5_2.length : Int)
                rotate_left
                ·
                 rw [if_neg c99] at H; have c99b0 : decide (x123_4 < (x5_2.length : Int)) = false := decide_eq_false c99; clear c99; obtain rfl := Option.some.inj H; go_wp2; go_ret
                 exact ⟨by first | rfl | (simp [errW_none, errW_some] <;> rfl) | (simp [*, errW_none, errW_some] <;> rfl), by repeat (first | (with_reducible first | exact HB.out | apply b0_ | apply b1_ | apply b2_ | refine below_set ?_ GE119.out) | exact HB.out)⟩
                rw [if_pos c99] at H; have c99b0 : decide (x123_4 < (x5_2.length : Int)) = true := decide_eq_true c99; clear c99; by_cases c100 : 0 ≤ x123_4
                rotate_left
                · rw [if_neg c100] at H; exact absurd H (by simp)
                rw [if_pos c100] at H; have c100b0 : decide (0 ≤ x123_4) = true := decide_eq_true c100; clear c100; by_cases c101 : x123_4 < (x5_2.length : Int)
                rotate_left
                · rw [if_neg c101] at H; exact absurd H (by simp)
                rw [if_pos c101] at H; have c101b0 : decide (x123_4 < (x5_2.length : Int)) = true := decide_eq_true c101; clear c101; have HC102 := Aside0.mk H; clear H; have p142 : 0 ≤ (x123_4 : Int) := of_decide_eq_true (by first | (with_reducible assumption) | assumption); have q142 : x123_4 < (x5_2.length : Int) := of_decide_eq_true (by first | (with_reducible assumption) | assumption)
                obtain ⟨ad142, e142, hx142_0⟩ := Kd.at_bool (Kd.R_reads' HO_121.out).2.2 x123_4 p142 q142; cases e142; replace p142 := eq_true p142; replace q142 := eq_true q142
                go_upto_region 28 with (fail)
                go_cut [135] (fun v135 wc => ∃ (kq : Nat) (x135_101 : Bool), v135 = .bool x135_101 ∧ Aside0 (cow_Check.j6 kq x4_2 x5_2 (x5_2.length : Int) x123_4 x135_101 = some r) ∧ Aside0 (kq ≤ k4) ∧ Aside0 (Kd.R (Kd.int .i64) 3 wc w.heap.size (fun _ => True) v125 x4_2) ∧ Aside0 (Kd.R Kd.bool 4 wc w.heap.size (fun _ => True) (.slice (some ad142) x5_2.length co98) x5_2) ∧ Aside0 (wc.heap[gb119]? = some (.cells #[.int .i64 a0_0, (.slice A0_1 l0_1.length c0_1), (.slice A0_2 l0_2.length c0_2), .int .i64 a0_3] 27 (0, 0))) ∧ Aside0 (Below w.heap.size w wc))
                case first =>
                 have H := HC102.out; clear HC102; obtain ⟨bq103, hbq103⟩ : ∃ b_ : Bool, b_ = (rdOf false x5_2 x123_4) := ⟨_, rfl⟩
                 replace H : (if bq103 = true then (if x123_4 < (x4_2.length : Int) then (cow_Check.j6 k4 x4_2 x5_2 (x5_2.length : Int) x123_4 ((rd x4_2 x123_4) != 1)) else (none)) else (cow_Check.j6 k4 x4_2 x5_2 (x5_2.length : Int) x123_4 false)) = some r := by rw [← hbq103] at H; exact H
                 have Nbq103 := Aside0.mk hbq103; clear hbq103
                 (try rw [← Nbq103.out])
                 by_cases c104 : bq103 = true
                 rotate_left
                 ·
                  replace c104 := Bool.eq_false_iff.mpr c104; subst c104
                  have H1 : (cow_Check.j6 k4 x4_2 x5_2 (x5_2.length : Int) x123_4 false) = some r := by rw [if_neg (show ¬ (false = true) by decide)] at H; exact H
                  clear H; have H := H1; clear H1; have H' := Aside0.mk H; clear H; go_wp2
                  (first | go_meet | (refine Met.intro ?_; go_step; (repeat apply Exists.intro); refine ⟨?rel, by rw [← Nbq103.out]⟩))
                  case rel => (try rw [← Nbq103.out]); exact ⟨_, (false), (by first | rfl | (simp; done) | (simp [*]; done)), H', ⟨by have := HJ1.out; have := HK2.out; have := HK3.out; have := HK4.out; first | omega | exact Nat.le_refl _⟩, ⟨by (with_reducible repeat (first | apply Kd.R_alloc | apply Kd.R_drewN | apply Kd.R_drew)); exact HO_4.out⟩, ⟨by (with_reducible repeat (first | apply Kd.R_alloc | apply Kd.R_drewN | apply Kd.R_drew)); exact HO_121.out⟩, ⟨by (with_reducible repeat (first | refine blk_drewN ?_ _ | refine blk_drew ?_ | refine blk_alloc ?_ _)); exact BK119.out⟩, ⟨by repeat (first | (with_reducible first | exact HB.out | apply b0_ | apply b1_ | apply b2_ | refine below_set ?_ GE119.out) | exact HB.out)⟩⟩
                 subst c104
                 have H1 : (if x123_4 < (x4_2.length : Int) then (cow_Check.j6 k4 x4_2 x5_2 (x5_2.length : Int) x123_4 ((rd x4_2 x123_4) != 1)) else (none)) = some r := by rw [if_pos rfl] at H; exact H
                 clear H; have H := H1; clear H1; by_cases c105 : x123_4 < (x4_2.length : Int)
                 rotate_left
                 · rw [if_neg c105] at H; exact absurd H (by simp)
                 rw [if_pos c105] at H; have c105b0 : decide (x123_4 < (x4_2.length : Int)) = true := decide_eq_true c105; clear c105; have H' := Aside0.mk H; clear H; obtain ⟨Ao106, co106, eo106⟩ := Kd.R_slice HO_4.out; subst eo106; have p143 : 0 ≤ (x123_4 : Int) := of_decide_eq_true (by first | (with_reducible assumption) | assumption)
                 have q143 : x123_4 < (x4_2.length : Int) := of_decide_eq_true (by first | (with_reducible assumption) | assumption); obtain ⟨ad143, e143, hx143_0⟩ := Kd.at_int (Kd.R_reads' HO_4.out).2.2 x123_4 p143 q143; cases e143; replace p143 := eq_true p143; replace q143 := eq_true q143; go_wp2
                 (first | go_meet | (refine Met.intro ?_; go_step; (repeat apply Exists.intro); refine ⟨?rel, by rw [← Nbq103.out]⟩))
                 case rel => (try rw [← Nbq103.out]); exact ⟨_, (((rd x4_2 x123_4) != 1)), (by first | rfl | (simp; done) | (simp [*]; done)), H', ⟨by have := HJ1.out; have := HK2.out; have := HK3.out; have := HK4.out; first | omega | exact Nat.le_refl _⟩, ⟨by (with_reducible repeat (first | apply Kd.R_alloc | apply Kd.R_drewN | apply Kd.R_drew)); exact HO_4.out⟩, ⟨by (with_reducible repeat (first | apply Kd.R_alloc | apply Kd.R_drewN | apply Kd.R_drew)); exact HO_121.out⟩, ⟨by (with_reducible repeat (first | refine blk_drewN ?_ _ | refine blk_drew ?_ | refine blk_alloc ?_ _)); exact BK119.out⟩, ⟨by repeat (first | (with_reducible first | exact HB.out | apply b0_ | apply b1_ | apply b2_ | refine below_set ?_ GE119.out) | exact HB.out)⟩⟩
                case rest =>
                 clear HC102; obtain ⟨kq, x135_101, rfl, HA, HJ101, HO_4, HO_121, BK119, HB⟩ := hcut
                 cases kq with
                  | zero => exact absurd HA.out (by simp [cow_Check.j6])
                  | succ kj101 =>
                   have H := HA.out; clear HA; simp only [cow_Check.j6] at H; by_cases c107 : x135_101 = true
                   rotate_left
                   ·
                    replace c107 := Bool.eq_false_iff.mpr c107; subst c107
                    have H1 : (cow_Check.l3 kj101 x4_2 x5_2 (x5_2.length : Int) (wrap64 (x123_4 + 1))) = some r := by rw [if_neg (show ¬ (false = true) by decide)] at H; exact H
                    clear H; have H := H1; clear H1; have H' := Aside0.mk H; clear H; go_wp2
                    go_roundg kj101
                    case measure => have := HJ1.out; have := HK2.out; have := HK3.out; have := HK4.out; have := HJ101.out; omega
                    case rel => exact ⟨(wrap64 (x123_4 + 1)), (by first | rfl | (simp; done) | (simp [*]; done)), H', ⟨by have := HJ1.out; have := HK2.out; have := HK3.out; have := HK4.out; have := HJ101.out; omega⟩, ⟨by (with_reducible repeat (first | apply Kd.R_alloc | apply Kd.R_drewN | apply Kd.R_drew)); exact HO_4.out⟩, ⟨by (with_reducible repeat (first | apply Kd.R_alloc | apply Kd.R_drewN | apply Kd.R_drew)); exact HO_121.out⟩, ⟨by (with_reducible repeat (first | refine blk_drewN ?_ _ | refine blk_drew ?_ | refine blk_alloc ?_ _)); exact BK119.out⟩, ⟨by repeat (first | (with_reducible first | exact HB.out | apply b0_ | apply b1_ | apply b2_ | refine below_set ?_ GE119.out) | exact HB.out)⟩⟩
                   subst c107
                   have H1 : (some 12) = some r := by rw [if_pos rfl] at H; exact H
                   clear H; have H := H1; clear H1; obtain rfl := Option.some.inj H; go_wp2; go_ret; exact ⟨by first | rfl | (simp [errW_none, errW_some] <;> rfl) | (simp [*, errW_none, errW_some] <;> rfl), by repeat (first | (with_reducible first | exact HB.out | apply b0_ | apply b1_ | apply b2_ | refine below_set ?_ GE119.out) | exact HB.out)⟩
            rw [if_pos c78] at H; have c78b0 : decide (x98_3 < (l0_2.length : Int)) = true := decide_eq_true c78; clear c78; by_cases c79 : 0 ≤ x98_3
            rotate_left
            · rw [if_neg c79] at H; exact absurd H (by simp)
            rw [if_pos c79] at H; have c79b0 : decide (0 ≤ x98_3) = true := decide_eq_true c79; clear c79; by_cases c80 : x98_3 < (l0_2.length : Int)
            rotate_left
            · rw [if_neg c80] at H; exact absurd H (by simp)
            rw [if_pos c80] at H; have c80b0 : decide (x98_3 < (l0_2.length : Int)) = true := decide_eq_true c80; clear c80; have HC81 := Aside0.mk H; clear H; have p139 : 0 ≤ (x98_3 : Int) := of_decide_eq_true (by first | (with_reducible assumption) | assumption); have q139 : x98_3 < (l0_2.length : Int) := of_decide_eq_true (by first | (with_reducible assumption) | assumption)
            obtain ⟨ad139, e139, hx139_0, hx139_1⟩ := at_T57 HR0_2.out x98_3 p139 q139; cases e139; replace hx139_0 := (HB.out.cell (World.block_lt_of_cell? w _ hx139_0)).trans hx139_0; replace hx139_1 := (HB.out.cell (World.block_lt_of_cell? w _ hx139_1)).trans hx139_1; replace p139 := eq_true p139; replace q139 := eq_true q139
            go_upto_region 22 with (first | ((with_reducible refine gate_dst (N := 11) rfl ?_); (try (refine gate_guard (by rfl) ?_; dsimp only)); refine box_event ?hg (N := 11) ?hd (cs := #[.int .i64 0, .int .i64 0]) (t := 57) ?hr ?_; (case hd => rfl); (case hg => rfl); (case hr => first | (go_simp; done) | (go_simp; rfl)); intro gb140 hg w82 hbox hb; have n0_ := Aside0.mk (Kd.R_below (by (with_reducible repeat (first | apply Kd.R_alloc | apply Kd.R_drewN | apply Kd.R_drew)); exact HO_4.out) hb); have n1_ := Aside0.mk (Kd.R_below (by (with_reducible repeat (first | apply Kd.R_alloc | apply Kd.R_drewN | apply Kd.R_drew)); exact HO_5.out) hb); have n2_ := Aside0.mk (blk_below (g := gb119) (o := .cells #[.int .i64 a0_0, .slice A0_1 l0_1.length c0_1, .slice (some ad139) l0_2.length c0_2, .int .i64 a0_3] 27 (0, 0)) (by (with_reducible repeat (first | refine blk_drewN ?_ _ | refine blk_drew ?_ | refine blk_alloc ?_ _)); exact BK119.out) hb); have n3_ := Aside0.mk (below_step (by repeat (first | (with_reducible first | exact HB.out | apply b0_ | apply b1_ | apply b2_ | refine below_set ?_ GE119.out) | exact HB.out)) hb); have n4_ := Aside0.mk (hbox); have n5_ := Aside0.mk ((by rw [hg]; exact (below_size (by repeat (first | (with_reducible first | exact HB.out | apply b0_ | apply b1_ | apply b2_ | refine below_set ?_ GE119.out) | exact HB.out))) : w.heap.size ≤ gb140)); have n6_ := Aside0.mk ((by rw [hg]; exact (below_size (by repeat (first | (with_reducible first | exact HB.out | apply b0_ | apply b1_ | apply b2_ | refine below_set ?_ GE119.out) | exact HB.out))) : w.heap.size ≤ gb140)); have n7_ := Aside0.mk ((by rw [hg]; exact Nat.ne_of_lt (blk_lt (g := gb119) (o := .cells #[.int .i64 a0_0, .slice A0_1 l0_1.length c0_1, .slice (some ad139) l0_2.length c0_2, .int .i64 a0_3] 27 (0, 0)) (by (with_reducible repeat (first | refine blk_drewN ?_ _ | refine blk_drew ?_ | refine blk_alloc ?_ _)); exact BK119.out)) : gb119 ≠ gb140)); have n8_ := Aside0.mk ((by rw [hg]; exact Nat.ne_of_gt (blk_lt (g := gb119) (o := .cells #[.int .i64 a0_0, .slice A0_1 l0_1.length c0_1, .slice (some ad139) l0_2.length c0_2, .int .i64 a0_3] 27 (0, 0)) (by (with_reducible repeat (first | refine blk_drewN ?_ _ | refine blk_drew ?_ | refine blk_alloc ?_ _)); exact BK119.out)) : gb140 ≠ gb119)); clear HO_4; clear HO_5; clear BK119; clear HB; have HO_4 := n0_; have HO_5 := n1_; have BK119 := n2_; have HB := n3_; have BK140 := n4_; have GW140 := n5_; have GE140 := n6_; have NB119_140 := n7_; have NB140_119 := n8_; clear n0_ n1_ n2_ n3_ n4_ n5_ n6_ n7_ n8_; clear hb hbox hg; have hnb83 := NB140_119.out; have hnc83 := NB119_140.out; have hcz84_0 : w82.cell? ⟨gb140, 0, none⟩ = some (.int .i64 0) := (blk_cell BK140.out 0).trans rfl; have hcz84_1 : w82.cell? ⟨gb140, 1, none⟩ = some (.int .i64 0) := (blk_cell BK140.out 1).trans rfl; have hfz84_0 := blk_frozen BK140.out 0; have hfz84_1 := blk_frozen BK140.out 1))
            (try simp only [Act.put, List.setIfInBounds_toArray, List.set_cons_zero, List.set_cons_succ])
            go_cut [119] (fun v119 wc => ∃ (kq : Nat) (x119_80 : Bool), v119 = .bool x119_80 ∧ Aside0 (cow_Check.j4 kq x4_2 x5_2 l0_2 (l0_2.length : Int) x98_3 x119_80 = some r) ∧ Aside0 (kq ≤ k3) ∧ Aside0 (Kd.R (Kd.int .i64) 3 wc w.heap.size (fun _ => True) v125 x4_2) ∧ Aside0 (Kd.R Kd.bool 4 wc w.heap.size (fun _ => True) v128 x5_2) ∧ Aside0 (wc.heap[gb119]? = some (.cells #[.int .i64 a0_0, (.slice A0_1 l0_1.length c0_1), (.slice (some ad139) l0_2.length c0_2), .int .i64 a0_3] 27 (0, 0))) ∧ Aside0 (wc.heap[gb140]? = some (.cells #[.int .i64 ((rd_T57 l0_2 x98_3).f0), .int .i64 ((rd_T57 l0_2 x98_3).f1)] 57 (0, 0))) ∧ Aside0 (Below w.heap.size w wc))
            case first =>
             have H := HC81.out; clear HC81; by_cases c85 : x98_3 < (x4_2.length : Int)
             rotate_left
             · rw [if_neg c85] at H; exact absurd H (by simp)
             rw [if_pos c85] at H; have c85b0 : decide (x98_3 < (x4_2.length : Int)) = true := decide_eq_true c85; clear c85
             (first | rw [c85b0] | (simp only [i64_w, i32_w]; rw [c85b0]) | skip)
             by_cases c86 : ((rd_T57 l0_2 x98_3).f0) = (rd x4_2 x98_3)
             rotate_left
             ·
              rw [if_neg c86] at H; have c86b0 : (((rd_T57 l0_2 x98_3).f0) == (rd x4_2 x98_3)) = false := beq_eq_false_iff_ne.mpr c86; have c86b1 : (((rd_T57 l0_2 x98_3).f0) != (rd x4_2 x98_3)) = true := bne_iff_ne.mpr c86; have H' := Aside0.mk H; clear H
              try go_wp2
              have n0_ : Aside0 (Kd.R (Kd.int .i64) 3 ((w82.setCell ⟨gb140, 0, none⟩ (.int .i64 ((rd_T57 l0_2 x98_3).f0))).setCell ⟨gb140, 1, none⟩ (.int .i64 ((rd_T57 l0_2 x98_3).f1))) w.heap.size (fun _ => True) v125 x4_2) := ⟨by (with_reducible repeat (first | apply Kd.R_alloc | apply Kd.R_drewN | apply Kd.R_drew)); exact Kd.R_mono (Kd.R_far (p := ⟨gb140, 1, none⟩) (Kd.R_far (p := ⟨gb140, 0, none⟩) (Kd.R_types HO_4.out BK140.out (by decide)) (fun _ hk => hk.2) (.int .i64 ((rd_T57 l0_2 x98_3).f0))) (fun _ hk => hk.2) (.int .i64 ((rd_T57 l0_2 x98_3).f1))) (fun _ hk => trivial)⟩
              have n1_ : Aside0 (Kd.R Kd.bool 4 ((w82.setCell ⟨gb140, 0, none⟩ (.int .i64 ((rd_T57 l0_2 x98_3).f0))).setCell ⟨gb140, 1, none⟩ (.int .i64 ((rd_T57 l0_2 x98_3).f1))) w.heap.size (fun _ => True) v128 x5_2) := ⟨by (with_reducible repeat (first | apply Kd.R_alloc | apply Kd.R_drewN | apply Kd.R_drew)); exact Kd.R_mono (Kd.R_far (p := ⟨gb140, 1, none⟩) (Kd.R_far (p := ⟨gb140, 0, none⟩) (Kd.R_types HO_5.out BK140.out (by decide)) (fun _ hk => hk.2) (.int .i64 ((rd_T57 l0_2 x98_3).f0))) (fun _ hk => hk.2) (.int .i64 ((rd_T57 l0_2 x98_3).f1))) (fun _ hk => trivial)⟩
              have n2_ : Aside0 (((w82.setCell ⟨gb140, 0, none⟩ (.int .i64 ((rd_T57 l0_2 x98_3).f0))).setCell ⟨gb140, 1, none⟩ (.int .i64 ((rd_T57 l0_2 x98_3).f1))).heap[gb119]? = some (.cells #[.int .i64 a0_0, .slice A0_1 l0_1.length c0_1, .slice (some ad139) l0_2.length c0_2, .int .i64 a0_3] 27 (0, 0))) := ⟨by (with_reducible repeat (first | refine blk_drewN ?_ _ | refine blk_drew ?_ | refine blk_alloc ?_ _)); refine blk_far ?_ NB119_140.out _; (with_reducible repeat (first | refine blk_drewN ?_ _ | refine blk_drew ?_ | refine blk_alloc ?_ _)); refine blk_far ?_ NB119_140.out _; (with_reducible repeat (first | refine blk_drewN ?_ _ | refine blk_drew ?_ | refine blk_alloc ?_ _)); exact BK119.out⟩
              have n3_ : Aside0 (((w82.setCell ⟨gb140, 0, none⟩ (.int .i64 ((rd_T57 l0_2 x98_3).f0))).setCell ⟨gb140, 1, none⟩ (.int .i64 ((rd_T57 l0_2 x98_3).f1))).heap[gb140]? = some (.cells #[.int .i64 ((rd_T57 l0_2 x98_3).f0), .int .i64 ((rd_T57 l0_2 x98_3).f1)] 57 (0, 0))) := ⟨by (with_reducible repeat (first | refine blk_drewN ?_ _ | refine blk_drew ?_ | refine blk_alloc ?_ _)); refine blk_put (cs := #[.int .i64 ((rd_T57 l0_2 x98_3).f0), .int .i64 0]) ?_ 1 _ rfl; (with_reducible repeat (first | refine blk_drewN ?_ _ | refine blk_drew ?_ | refine blk_alloc ?_ _)); refine blk_put (cs := #[.int .i64 0, .int .i64 0]) ?_ 0 _ rfl; (with_reducible repeat (first | refine blk_drewN ?_ _ | refine blk_drew ?_ | refine blk_alloc ?_ _)); exact BK140.out⟩
              have n4_ : Aside0 (Below w.heap.size w ((w82.setCell ⟨gb140, 0, none⟩ (.int .i64 ((rd_T57 l0_2 x98_3).f0))).setCell ⟨gb140, 1, none⟩ (.int .i64 ((rd_T57 l0_2 x98_3).f1)))) := ⟨by repeat (first | (with_reducible first | exact HB.out | apply b0_ | apply b1_ | apply b2_ | refine below_set ?_ GE119.out | refine below_set ?_ GE140.out) | exact HB.out)⟩
              (try clear HO_4)
              (try clear HO_5)
              (try clear BK119)
              (try clear BK140)
              (try clear HB)
              generalize ((w82.setCell ⟨gb140, 0, none⟩ (.int .i64 ((rd_T57 l0_2 x98_3).f0))).setCell ⟨gb140, 1, none⟩ (.int .i64 ((rd_T57 l0_2 x98_3).f1))) = w94 at n0_ n1_ n2_ n3_ n4_ ⊢; have HO_4 := n0_; have HO_5 := n1_; have BK119 := n2_; have BK140 := n3_; have HB := n4_; clear n0_ n1_ n2_ n3_ n4_; have n0_ := Aside0.mk (Kd.R_drew HO_4.out); have n1_ := Aside0.mk (Kd.R_drew HO_5.out)
              have n2_ := Aside0.mk (blk_drew BK119.out); have n3_ := Aside0.mk (blk_drew BK140.out); have n4_ := Aside0.mk (b2_ HB.out); clear HO_4; clear HO_5; clear BK119; clear BK140; clear HB; have HO_4 := n0_; have HO_5 := n1_; have BK119 := n2_; have BK140 := n3_; have HB := n4_; clear n0_ n1_ n2_ n3_ n4_; obtain ⟨Ao96, co96, eo96⟩ := Kd.R_slice HO_4.out
              (first | subst eo96 | (injection eo96 with f1_ f2_ f3_; have f4_ := f1_.symm; have f5_ := f3_.symm; clear f1_ f2_ f3_; subst f4_; subst f5_))
              have p141 : 0 ≤ (x98_3 : Int) := of_decide_eq_true (by first | (with_reducible assumption) | assumption); have q141 : x98_3 < (x4_2.length : Int) := of_decide_eq_true (by first | (with_reducible assumption) | assumption); obtain ⟨ad141, e141, hx141_0⟩ := Kd.at_int (Kd.R_reads' HO_4.out).2.2 x98_3 p141 q141; cases e141; replace p141 := eq_true p141; replace q141 := eq_true q141
              refine start_ (n := 17) (S := fun w' => w'.cell? ⟨gb140, 0, none⟩ = some (.int .i64 ((rd_T57 l0_2 x98_3).f0)) ∧ w'.cell? ⟨gb140, 1, none⟩ = some (.int .i64 ((rd_T57 l0_2 x98_3).f1)) ∧ w'.cell? (ad141.add (x98_3).toNat) = some (.int .i64 (rd x4_2 x98_3))) (ds := []) #[F0,F0,F0,F0,F0,F0,F0,F0,F0,F0,F0,F0,F0,F0,F0,F0,F0] (by kernel_rfl) rfl rfl ⟨(blk_cell BK140.out 0).trans rfl, (blk_cell BK140.out 1).trans rfl, hx141_0⟩ (fun hHeld => ?_); refine with_tabW cow_Check.tab22 cow_Check.bits22 (fun HT_ HW_ => ?_)
              generalize w94.drew = w95 at HO_4 HO_5 BK119 BK140 HB hx141_0 hHeld ⊢; refine pure_ (i := 0) (N := some 103) (v := ?_) (a' := ?_) #[T0,F0,F0,F0,F0,F0,F0,F0,F0,F0,F0,F0,F0,F0,F0,F0,F0] rfl rfl (any_of HT_.out (by kernel_rfl)) (fun _ _ _ h => h) (Or.inl ⟨by rfl, ?_⟩) ?_ ?_
              rotate_left
              · intro w'; go_simp; with_reducible rfl
              rotate_left
              · simp only [Act.put, z0_, z1_, z2_, i64_w, i32_w]; rfl
              refine pure_ (i := 2) (N := some 105) (v := ?_) (a' := ?_) #[T0,F0,T0,F0,F0,F0,F0,F0,F0,F0,F0,F0,F0,F0,F0,F0,F0] rfl rfl (any_of HT_.out (by kernel_rfl)) (fun _ _ _ h => h) (Or.inl ⟨by rfl, ?_⟩) ?_ ?_
              rotate_left
              · intro w'; go_simp; with_reducible rfl
              rotate_left
              · simp only [Act.put, z0_, z1_, z2_, i64_w, i32_w]; rfl
              refine pure_ (i := 3) (N := some 106) (v := ?_) (a' := ?_) #[T0,F0,T0,T0,F0,F0,F0,F0,F0,F0,F0,F0,F0,F0,F0,F0,F0] rfl rfl (any_of HT_.out (by kernel_rfl)) (fun _ _ _ h => h) (Or.inl ⟨by rfl, ?_⟩) ?_ ?_
              rotate_left
              · intro w'; go_simp; with_reducible rfl
              rotate_left
              · simp only [Act.put, z0_, z1_, z2_, i64_w, i32_w]; rfl
              refine pure_ (i := 4) (N := some 107) (v := ?_) (a' := ?_) #[T0,F0,T0,T0,T0,F0,F0,F0,F0,F0,F0,F0,F0,F0,F0,F0,F0] rfl rfl (any_of HT_.out (by kernel_rfl)) (fun _ _ _ h => h) (Or.inl ⟨by rfl, ?_⟩) ?_ ?_
              rotate_left
              · intro w'; go_simp; with_reducible rfl
              rotate_left
              · simp only [Act.put, z0_, z1_, z2_, i64_w, i32_w]; rfl
              refine take_ (i := 1) (N := some 104) (v := ?_) (a' := ?_) #[T0,T0,T0,T0,T0,F0,F0,F0,F0,F0,F0,F0,F0,F0,F0,F0,F0] rfl rfl (take_ofW HT_.out HW_.out (by kernel_rfl)) (fun _ _ _ h => h) (Or.inl ⟨by rfl, ?_⟩) hHeld ?_ ?_
              rotate_left
              ·
               rintro w' ⟨s0, s1, s2⟩
               go_simp; with_reducible rfl
              rotate_left
              · simp only [Act.put, z0_, z1_, z2_, i64_w, i32_w]; rfl
              refine take_ (i := 5) (N := some 108) (v := ?_) (a' := ?_) #[T0,T0,T0,T0,T0,T0,F0,F0,F0,F0,F0,F0,F0,F0,F0,F0,F0] rfl rfl (take_ofW HT_.out HW_.out (by kernel_rfl)) (fun _ _ _ h => h) (Or.inl ⟨by rfl, ?_⟩) hHeld ?_ ?_
              rotate_left
              ·
               rintro w' ⟨s0, s1, s2⟩
               go_simp; with_reducible rfl
              rotate_left
              · simp only [Act.put, z0_, z1_, z2_, i64_w, i32_w]; rfl
              refine pure_ (i := 6) (N := some 109) (v := ?_) (a' := ?_) #[T0,T0,T0,T0,T0,T0,T0,F0,F0,F0,F0,F0,F0,F0,F0,F0,F0] rfl rfl (any_of HT_.out (by kernel_rfl)) (fun _ _ _ h => h) (Or.inl ⟨by rfl, ?_⟩) ?_ ?_
              rotate_left
              · intro w'; go_simp; with_reducible rfl
              rotate_left
              · simp only [Act.put, z0_, z1_, z2_, i64_w, i32_w]; rfl
              refine pure_ (i := 7) (N := some 110) (v := ?_) (a' := ?_) #[T0,T0,T0,T0,T0,T0,T0,T0,F0,F0,F0,F0,F0,F0,F0,F0,F0] rfl rfl (any_of HT_.out (by kernel_rfl)) (fun _ _ _ h => h) (Or.inl ⟨by rfl, ?_⟩) ?_ ?_
              rotate_left
              · intro w'; go_simp; with_reducible rfl
              rotate_left
              · simp only [Act.put, z0_, z1_, z2_, i64_w, i32_w]; rfl
              refine pure_ (i := 8) (N := some 111) (v := undef) (a' := ?_) #[T0,T0,T0,T0,T0,T0,T0,T0,T0,F0,F0,F0,F0,F0,F0,F0,F0] rfl rfl (any_of HT_.out (by kernel_rfl)) (fun _ _ _ h => h) (Or.inr ⟨by rfl, rfl⟩) ?_ ?_
              rotate_left
              · simp only [Act.put, z0_, z1_, z2_, i64_w, i32_w]; rfl
              refine pure_ (i := 9) (N := some 112) (v := undef) (a' := ?_) #[T0,T0,T0,T0,T0,T0,T0,T0,T0,T0,F0,F0,F0,F0,F0,F0,F0] rfl rfl (any_of HT_.out (by kernel_rfl)) (fun _ _ _ h => h) (Or.inr ⟨by rfl, rfl⟩) ?_ ?_
              rotate_left
              · simp only [Act.put, z0_, z1_, z2_, i64_w, i32_w]; rfl
              refine pure_ (i := 10) (N := some 113) (v := undef) (a' := ?_) #[T0,T0,T0,T0,T0,T0,T0,T0,T0,T0,T0,F0,F0,F0,F0,F0,F0] rfl rfl (any_of HT_.out (by kernel_rfl)) (fun _ _ _ h => h) (Or.inr ⟨by rfl, rfl⟩) ?_ ?_
              rotate_left
              · simp only [Act.put, z0_, z1_, z2_, i64_w, i32_w]; rfl
              refine pure_ (i := 11) (N := some 114) (v := undef) (a' := ?_) #[T0,T0,T0,T0,T0,T0,T0,T0,T0,T0,T0,T0,F0,F0,F0,F0,F0] rfl rfl (any_of HT_.out (by kernel_rfl)) (fun _ _ _ h => h) (Or.inr ⟨by rfl, rfl⟩) ?_ ?_
              rotate_left
              · simp only [Act.put, z0_, z1_, z2_, i64_w, i32_w]; rfl
              refine pure_ (i := 12) (N := some 115) (v := undef) (a' := ?_) #[T0,T0,T0,T0,T0,T0,T0,T0,T0,T0,T0,T0,T0,F0,F0,F0,F0] rfl rfl (any_of HT_.out (by kernel_rfl)) (fun _ _ _ h => h) (Or.inr ⟨by rfl, rfl⟩) ?_ ?_
              rotate_left
              · simp only [Act.put, z0_, z1_, z2_, i64_w, i32_w]; rfl
              refine pure_ (i := 13) (N := some 116) (v := undef) (a' := ?_) #[T0,T0,T0,T0,T0,T0,T0,T0,T0,T0,T0,T0,T0,T0,F0,F0,F0] rfl rfl (any_of HT_.out (by kernel_rfl)) (fun _ _ _ h => h) (Or.inr ⟨by rfl, rfl⟩) ?_ ?_
              rotate_left
              · simp only [Act.put, z0_, z1_, z2_, i64_w, i32_w]; rfl
              refine pure_ (i := 14) (N := some 117) (v := undef) (a' := ?_) #[T0,T0,T0,T0,T0,T0,T0,T0,T0,T0,T0,T0,T0,T0,T0,F0,F0] rfl rfl (any_of HT_.out (by kernel_rfl)) (fun _ _ _ h => h) (Or.inr ⟨by rfl, rfl⟩) ?_ ?_
              rotate_left
              · simp only [Act.put, z0_, z1_, z2_, i64_w, i32_w]; rfl
              refine pure_ (i := 15) (N := some 118) (v := undef) (a' := ?_) #[T0,T0,T0,T0,T0,T0,T0,T0,T0,T0,T0,T0,T0,T0,T0,T0,F0] rfl rfl (any_of HT_.out (by kernel_rfl)) (fun _ _ _ h => h) (Or.inr ⟨by rfl, rfl⟩) ?_ ?_
              rotate_left
              · simp only [Act.put, z0_, z1_, z2_, i64_w, i32_w]; rfl
              refine pure_ (i := 16) (N := some 119) (v := ?_) (a' := ?_) #[T0,T0,T0,T0,T0,T0,T0,T0,T0,T0,T0,T0,T0,T0,T0,T0,T0] rfl rfl (any_of HT_.out (by kernel_rfl)) (fun _ _ _ h => h) (Or.inl ⟨by rfl, ?_⟩) ?_ ?_
              rotate_left
              · intro w'; go_simp; with_reducible rfl
              rotate_left
              · simp only [Act.put, z0_, z1_, z2_, i64_w, i32_w]; rfl
              refine done_ (done_of HT_.out (by kernel_rfl)) ?_
              try go_wp2
              go_meet
              case rel => exact ⟨_, (true), (by first | rfl | (simp; done) | (simp [*]; done)), H', ⟨by have := HJ1.out; have := HK2.out; have := HK3.out; first | omega | exact Nat.le_refl _⟩, ⟨by (with_reducible repeat (first | apply Kd.R_alloc | apply Kd.R_drewN | apply Kd.R_drew)); exact HO_4.out⟩, ⟨by (with_reducible repeat (first | apply Kd.R_alloc | apply Kd.R_drewN | apply Kd.R_drew)); exact HO_5.out⟩, ⟨by (with_reducible repeat (first | refine blk_drewN ?_ _ | refine blk_drew ?_ | refine blk_alloc ?_ _)); exact BK119.out⟩, ⟨by (with_reducible repeat (first | refine blk_drewN ?_ _ | refine blk_drew ?_ | refine blk_alloc ?_ _)); exact BK140.out⟩, ⟨by repeat (first | (with_reducible first | exact HB.out | apply b0_ | apply b1_ | apply b2_ | refine below_set ?_ GE119.out | refine below_set ?_ GE140.out) | exact HB.out)⟩⟩
             rw [if_pos c86] at H; have c86b0 : (((rd_T57 l0_2 x98_3).f0) == (rd x4_2 x98_3)) = true := beq_iff_eq.mpr c86; have c86b1 : (((rd_T57 l0_2 x98_3).f0) != (rd x4_2 x98_3)) = false := bne_eq_false_iff_eq.mpr c86; clear c86; by_cases c87 : ((rd_T57 l0_2 x98_3).f0) = 0
             rotate_left
             ·
              rw [if_neg c87] at H; have c87b0 : (((rd_T57 l0_2 x98_3).f0) == 0) = false := beq_eq_false_iff_ne.mpr c87; have c87b1 : (((rd_T57 l0_2 x98_3).f0) != 0) = true := bne_iff_ne.mpr c87; have H' := Aside0.mk H; clear H
              try go_wp2
              have n0_ : Aside0 (Kd.R (Kd.int .i64) 3 ((w82.setCell ⟨gb140, 0, none⟩ (.int .i64 ((rd_T57 l0_2 x98_3).f0))).setCell ⟨gb140, 1, none⟩ (.int .i64 ((rd_T57 l0_2 x98_3).f1))) w.heap.size (fun _ => True) v125 x4_2) := ⟨by (with_reducible repeat (first | apply Kd.R_alloc | apply Kd.R_drewN | apply Kd.R_drew)); exact Kd.R_mono (Kd.R_far (p := ⟨gb140, 1, none⟩) (Kd.R_far (p := ⟨gb140, 0, none⟩) (Kd.R_types HO_4.out BK140.out (by decide)) (fun _ hk => hk.2) (.int .i64 ((rd_T57 l0_2 x98_3).f0))) (fun _ hk => hk.2) (.int .i64 ((rd_T57 l0_2 x98_3).f1))) (fun _ hk => trivial)⟩
              have n1_ : Aside0 (Kd.R Kd.bool 4 ((w82.setCell ⟨gb140, 0, none⟩ (.int .i64 ((rd_T57 l0_2 x98_3).f0))).setCell ⟨gb140, 1, none⟩ (.int .i64 ((rd_T57 l0_2 x98_3).f1))) w.heap.size (fun _ => True) v128 x5_2) := ⟨by (with_reducible repeat (first | apply Kd.R_alloc | apply Kd.R_drewN | apply Kd.R_drew)); exact Kd.R_mono (Kd.R_far (p := ⟨gb140, 1, none⟩) (Kd.R_far (p := ⟨gb140, 0, none⟩) (Kd.R_types HO_5.out BK140.out (by decide)) (fun _ hk => hk.2) (.int .i64 ((rd_T57 l0_2 x98_3).f0))) (fun _ hk => hk.2) (.int .i64 ((rd_T57 l0_2 x98_3).f1))) (fun _ hk => trivial)⟩
              have n2_ : Aside0 (((w82.setCell ⟨gb140, 0, none⟩ (.int .i64 ((rd_T57 l0_2 x98_3).f0))).setCell ⟨gb140, 1, none⟩ (.int .i64 ((rd_T57 l0_2 x98_3).f1))).heap[gb119]? = some (.cells #[.int .i64 a0_0, .slice A0_1 l0_1.length c0_1, .slice (some ad139) l0_2.length c0_2, .int .i64 a0_3] 27 (0, 0))) := ⟨by (with_reducible repeat (first | refine blk_drewN ?_ _ | refine blk_drew ?_ | refine blk_alloc ?_ _)); refine blk_far ?_ NB119_140.out _; (with_reducible repeat (first | refine blk_drewN ?_ _ | refine blk_drew ?_ | refine blk_alloc ?_ _)); refine blk_far ?_ NB119_140.out _; (with_reducible repeat (first | refine blk_drewN ?_ _ | refine blk_drew ?_ | refine blk_alloc ?_ _)); exact BK119.out⟩
              have n3_ : Aside0 (((w82.setCell ⟨gb140, 0, none⟩ (.int .i64 ((rd_T57 l0_2 x98_3).f0))).setCell ⟨gb140, 1, none⟩ (.int .i64 ((rd_T57 l0_2 x98_3).f1))).heap[gb140]? = some (.cells #[.int .i64 ((rd_T57 l0_2 x98_3).f0), .int .i64 ((rd_T57 l0_2 x98_3).f1)] 57 (0, 0))) := ⟨by (with_reducible repeat (first | refine blk_drewN ?_ _ | refine blk_drew ?_ | refine blk_alloc ?_ _)); refine blk_put (cs := #[.int .i64 ((rd_T57 l0_2 x98_3).f0), .int .i64 0]) ?_ 1 _ rfl; (with_reducible repeat (first | refine blk_drewN ?_ _ | refine blk_drew ?_ | refine blk_alloc ?_ _)); refine blk_put (cs := #[.int .i64 0, .int .i64 0]) ?_ 0 _ rfl; (with_reducible repeat (first | refine blk_drewN ?_ _ | refine blk_drew ?_ | refine blk_alloc ?_ _)); exact BK140.out⟩
              have n4_ : Aside0 (Below w.heap.size w ((w82.setCell ⟨gb140, 0, none⟩ (.int .i64 ((rd_T57 l0_2 x98_3).f0))).setCell ⟨gb140, 1, none⟩ (.int .i64 ((rd_T57 l0_2 x98_3).f1)))) := ⟨by repeat (first | (with_reducible first | exact HB.out | apply b0_ | apply b1_ | apply b2_ | refine below_set ?_ GE119.out | refine below_set ?_ GE140.out) | exact HB.out)⟩
              (try clear HO_4)
              (try clear HO_5)
              (try clear BK119)
              (try clear BK140)
              (try clear HB)
              generalize ((w82.setCell ⟨gb140, 0, none⟩ (.int .i64 ((rd_T57 l0_2 x98_3).f0))).setCell ⟨gb140, 1, none⟩ (.int .i64 ((rd_T57 l0_2 x98_3).f1))) = w91 at n0_ n1_ n2_ n3_ n4_ ⊢; have HO_4 := n0_; have HO_5 := n1_; have BK119 := n2_; have BK140 := n3_; have HB := n4_; clear n0_ n1_ n2_ n3_ n4_; have n0_ := Aside0.mk (Kd.R_drew HO_4.out); have n1_ := Aside0.mk (Kd.R_drew HO_5.out)
              have n2_ := Aside0.mk (blk_drew BK119.out); have n3_ := Aside0.mk (blk_drew BK140.out); have n4_ := Aside0.mk (b2_ HB.out); clear HO_4; clear HO_5; clear BK119; clear BK140; clear HB; have HO_4 := n0_; have HO_5 := n1_; have BK119 := n2_; have BK140 := n3_; have HB := n4_; clear n0_ n1_ n2_ n3_ n4_; obtain ⟨Ao93, co93, eo93⟩ := Kd.R_slice HO_4.out
              (first | subst eo93 | (injection eo93 with f1_ f2_ f3_; have f4_ := f1_.symm; have f5_ := f3_.symm; clear f1_ f2_ f3_; subst f4_; subst f5_))
              have p141 : 0 ≤ (x98_3 : Int) := of_decide_eq_true (by first | (with_reducible assumption) | assumption); have q141 : x98_3 < (x4_2.length : Int) := of_decide_eq_true (by first | (with_reducible assumption) | assumption); obtain ⟨ad141, e141, hx141_0⟩ := Kd.at_int (Kd.R_reads' HO_4.out).2.2 x98_3 p141 q141; cases e141; replace p141 := eq_true p141; replace q141 := eq_true q141
              refine start_ (n := 17) (S := fun w' => w'.cell? ⟨gb140, 0, none⟩ = some (.int .i64 ((rd_T57 l0_2 x98_3).f0)) ∧ w'.cell? ⟨gb140, 1, none⟩ = some (.int .i64 ((rd_T57 l0_2 x98_3).f1)) ∧ w'.cell? (ad141.add (x98_3).toNat) = some (.int .i64 (rd x4_2 x98_3))) (ds := []) #[F0,F0,F0,F0,F0,F0,F0,F0,F0,F0,F0,F0,F0,F0,F0,F0,F0] (by kernel_rfl) rfl rfl ⟨(blk_cell BK140.out 0).trans rfl, (blk_cell BK140.out 1).trans rfl, hx141_0⟩ (fun hHeld => ?_); refine with_tabW cow_Check.tab22 cow_Check.bits22 (fun HT_ HW_ => ?_)
              generalize w91.drew = w92 at HO_4 HO_5 BK119 BK140 HB hx141_0 hHeld ⊢; refine pure_ (i := 0) (N := some 103) (v := ?_) (a' := ?_) #[T0,F0,F0,F0,F0,F0,F0,F0,F0,F0,F0,F0,F0,F0,F0,F0,F0] rfl rfl (any_of HT_.out (by kernel_rfl)) (fun _ _ _ h => h) (Or.inl ⟨by rfl, ?_⟩) ?_ ?_
              rotate_left
              · intro w'; go_simp; with_reducible rfl
              rotate_left
              · simp only [Act.put, z0_, z1_, z2_, i64_w, i32_w]; rfl
              refine pure_ (i := 2) (N := some 105) (v := ?_) (a' := ?_) #[T0,F0,T0,F0,F0,F0,F0,F0,F0,F0,F0,F0,F0,F0,F0,F0,F0] rfl rfl (any_of HT_.out (by kernel_rfl)) (fun _ _ _ h => h) (Or.inl ⟨by rfl, ?_⟩) ?_ ?_
              rotate_left
              · intro w'; go_simp; with_reducible rfl
              rotate_left
              · simp only [Act.put, z0_, z1_, z2_, i64_w, i32_w]; rfl
              refine pure_ (i := 3) (N := some 106) (v := ?_) (a' := ?_) #[T0,F0,T0,T0,F0,F0,F0,F0,F0,F0,F0,F0,F0,F0,F0,F0,F0] rfl rfl (any_of HT_.out (by kernel_rfl)) (fun _ _ _ h => h) (Or.inl ⟨by rfl, ?_⟩) ?_ ?_
              rotate_left
              · intro w'; go_simp; with_reducible rfl
              rotate_left
              · simp only [Act.put, z0_, z1_, z2_, i64_w, i32_w]; rfl
              refine pure_ (i := 4) (N := some 107) (v := ?_) (a' := ?_) #[T0,F0,T0,T0,T0,F0,F0,F0,F0,F0,F0,F0,F0,F0,F0,F0,F0] rfl rfl (any_of HT_.out (by kernel_rfl)) (fun _ _ _ h => h) (Or.inl ⟨by rfl, ?_⟩) ?_ ?_
              rotate_left
              · intro w'; go_simp; with_reducible rfl
              rotate_left
              · simp only [Act.put, z0_, z1_, z2_, i64_w, i32_w]; rfl
              refine take_ (i := 1) (N := some 104) (v := ?_) (a' := ?_) #[T0,T0,T0,T0,T0,F0,F0,F0,F0,F0,F0,F0,F0,F0,F0,F0,F0] rfl rfl (take_ofW HT_.out HW_.out (by kernel_rfl)) (fun _ _ _ h => h) (Or.inl ⟨by rfl, ?_⟩) hHeld ?_ ?_
              rotate_left
              ·
               rintro w' ⟨s0, s1, s2⟩
               go_simp; with_reducible rfl
              rotate_left
              · simp only [Act.put, z0_, z1_, z2_, i64_w, i32_w]; rfl
              refine take_ (i := 5) (N := some 108) (v := ?_) (a' := ?_) #[T0,T0,T0,T0,T0,T0,F0,F0,F0,F0,F0,F0,F0,F0,F0,F0,F0] rfl rfl (take_ofW HT_.out HW_.out (by kernel_rfl)) (fun _ _ _ h => h) (Or.inl ⟨by rfl, ?_⟩) hHeld ?_ ?_
              rotate_left
              ·
               rintro w' ⟨s0, s1, s2⟩
               go_simp; with_reducible rfl
              rotate_left
              · simp only [Act.put, z0_, z1_, z2_, i64_w, i32_w]; rfl
              refine pure_ (i := 6) (N := some 109) (v := ?_) (a' := ?_) #[T0,T0,T0,T0,T0,T0,T0,F0,F0,F0,F0,F0,F0,F0,F0,F0,F0] rfl rfl (any_of HT_.out (by kernel_rfl)) (fun _ _ _ h => h) (Or.inl ⟨by rfl, ?_⟩) ?_ ?_
              rotate_left
              · intro w'; go_simp; with_reducible rfl
              rotate_left
              · simp only [Act.put, z0_, z1_, z2_, i64_w, i32_w]; rfl
              refine pure_ (i := 7) (N := some 110) (v := ?_) (a' := ?_) #[T0,T0,T0,T0,T0,T0,T0,T0,F0,F0,F0,F0,F0,F0,F0,F0,F0] rfl rfl (any_of HT_.out (by kernel_rfl)) (fun _ _ _ h => h) (Or.inl ⟨by rfl, ?_⟩) ?_ ?_
              rotate_left
              · intro w'; go_simp; with_reducible rfl
              rotate_left
              · simp only [Act.put, z0_, z1_, z2_, i64_w, i32_w]; rfl
              refine pure_ (i := 8) (N := some 111) (v := ?_) (a' := ?_) #[T0,T0,T0,T0,T0,T0,T0,T0,T0,F0,F0,F0,F0,F0,F0,F0,F0] rfl rfl (any_of HT_.out (by kernel_rfl)) (fun _ _ _ h => h) (Or.inl ⟨by rfl, ?_⟩) ?_ ?_
              rotate_left
              · intro w'; go_simp; with_reducible rfl
              rotate_left
              · simp only [Act.put, z0_, z1_, z2_, i64_w, i32_w]; rfl
              refine take_ (i := 9) (N := some 112) (v := ?_) (a' := ?_) #[T0,T0,T0,T0,T0,T0,T0,T0,T0,T0,F0,F0,F0,F0,F0,F0,F0] rfl rfl (take_ofW HT_.out HW_.out (by kernel_rfl)) (fun _ _ _ h => h) (Or.inl ⟨by rfl, ?_⟩) hHeld ?_ ?_
              rotate_left
              ·
               rintro w' ⟨s0, s1, s2⟩
               go_simp; with_reducible rfl
              rotate_left
              · simp only [Act.put, z0_, z1_, z2_, i64_w, i32_w]; rfl
              refine pure_ (i := 10) (N := some 113) (v := ?_) (a' := ?_) #[T0,T0,T0,T0,T0,T0,T0,T0,T0,T0,T0,F0,F0,F0,F0,F0,F0] rfl rfl (any_of HT_.out (by kernel_rfl)) (fun _ _ _ h => h) (Or.inl ⟨by rfl, ?_⟩) ?_ ?_
              rotate_left
              · intro w'; go_simp; with_reducible rfl
              rotate_left
              · simp only [Act.put, z0_, z1_, z2_, i64_w, i32_w]; rfl
              refine pure_ (i := 11) (N := some 114) (v := ?_) (a' := ?_) #[T0,T0,T0,T0,T0,T0,T0,T0,T0,T0,T0,T0,F0,F0,F0,F0,F0] rfl rfl (any_of HT_.out (by kernel_rfl)) (fun _ _ _ h => h) (Or.inl ⟨by rfl, ?_⟩) ?_ ?_
              rotate_left
              · intro w'; go_simp; with_reducible rfl
              rotate_left
              · simp only [Act.put, z0_, z1_, z2_, i64_w, i32_w]; rfl
              refine pure_ (i := 12) (N := some 115) (v := undef) (a' := ?_) #[T0,T0,T0,T0,T0,T0,T0,T0,T0,T0,T0,T0,T0,F0,F0,F0,F0] rfl rfl (any_of HT_.out (by kernel_rfl)) (fun _ _ _ h => h) (Or.inr ⟨by rfl, rfl⟩) ?_ ?_
              rotate_left
              · simp only [Act.put, z0_, z1_, z2_, i64_w, i32_w]; rfl
              refine pure_ (i := 13) (N := some 116) (v := undef) (a' := ?_) #[T0,T0,T0,T0,T0,T0,T0,T0,T0,T0,T0,T0,T0,T0,F0,F0,F0] rfl rfl (any_of HT_.out (by kernel_rfl)) (fun _ _ _ h => h) (Or.inr ⟨by rfl, rfl⟩) ?_ ?_
              rotate_left
              · simp only [Act.put, z0_, z1_, z2_, i64_w, i32_w]; rfl
              refine pure_ (i := 14) (N := some 117) (v := undef) (a' := ?_) #[T0,T0,T0,T0,T0,T0,T0,T0,T0,T0,T0,T0,T0,T0,T0,F0,F0] rfl rfl (any_of HT_.out (by kernel_rfl)) (fun _ _ _ h => h) (Or.inr ⟨by rfl, rfl⟩) ?_ ?_
              rotate_left
              · simp only [Act.put, z0_, z1_, z2_, i64_w, i32_w]; rfl
              refine pure_ (i := 15) (N := some 118) (v := ?_) (a' := ?_) #[T0,T0,T0,T0,T0,T0,T0,T0,T0,T0,T0,T0,T0,T0,T0,T0,F0] rfl rfl (any_of HT_.out (by kernel_rfl)) (fun _ _ _ h => h) (Or.inl ⟨by rfl, ?_⟩) ?_ ?_
              rotate_left
              · intro w'; go_simp; with_reducible rfl
              rotate_left
              · simp only [Act.put, z0_, z1_, z2_, i64_w, i32_w]; rfl
              refine pure_ (i := 16) (N := some 119) (v := ?_) (a' := ?_) #[T0,T0,T0,T0,T0,T0,T0,T0,T0,T0,T0,T0,T0,T0,T0,T0,T0] rfl rfl (any_of HT_.out (by kernel_rfl)) (fun _ _ _ h => h) (Or.inl ⟨by rfl, ?_⟩) ?_ ?_
              rotate_left
              · intro w'; go_simp; with_reducible rfl
              rotate_left
              · simp only [Act.put, z0_, z1_, z2_, i64_w, i32_w]; rfl
              refine done_ (done_of HT_.out (by kernel_rfl)) ?_
              try go_wp2
              go_meet
              case rel => exact ⟨_, (false), (by first | rfl | (simp; done) | (simp [*]; done)), H', ⟨by have := HJ1.out; have := HK2.out; have := HK3.out; first | omega | exact Nat.le_refl _⟩, ⟨by (with_reducible repeat (first | apply Kd.R_alloc | apply Kd.R_drewN | apply Kd.R_drew)); exact HO_4.out⟩, ⟨by (with_reducible repeat (first | apply Kd.R_alloc | apply Kd.R_drewN | apply Kd.R_drew)); exact HO_5.out⟩, ⟨by (with_reducible repeat (first | refine blk_drewN ?_ _ | refine blk_drew ?_ | refine blk_alloc ?_ _)); exact BK119.out⟩, ⟨by (with_reducible repeat (first | refine blk_drewN ?_ _ | refine blk_drew ?_ | refine blk_alloc ?_ _)); exact BK140.out⟩, ⟨by repeat (first | (with_reducible first | exact HB.out | apply b0_ | apply b1_ | apply b2_ | refine below_set ?_ GE119.out | refine below_set ?_ GE140.out) | exact HB.out)⟩⟩
             rw [if_pos c87] at H; have c87b0 : (((rd_T57 l0_2 x98_3).f0) == 0) = true := beq_iff_eq.mpr c87; have c87b1 : (((rd_T57 l0_2 x98_3).f0) != 0) = false := bne_eq_false_iff_eq.mpr c87; clear c87; have H' := Aside0.mk H; clear H
             try go_wp2
             have n0_ : Aside0 (Kd.R (Kd.int .i64) 3 ((w82.setCell ⟨gb140, 0, none⟩ (.int .i64 ((rd_T57 l0_2 x98_3).f0))).setCell ⟨gb140, 1, none⟩ (.int .i64 ((rd_T57 l0_2 x98_3).f1))) w.heap.size (fun _ => True) v125 x4_2) := ⟨by (with_reducible repeat (first | apply Kd.R_alloc | apply Kd.R_drewN | apply Kd.R_drew)); exact Kd.R_mono (Kd.R_far (p := ⟨gb140, 1, none⟩) (Kd.R_far (p := ⟨gb140, 0, none⟩) (Kd.R_types HO_4.out BK140.out (by decide)) (fun _ hk => hk.2) (.int .i64 ((rd_T57 l0_2 x98_3).f0))) (fun _ hk => hk.2) (.int .i64 ((rd_T57 l0_2 x98_3).f1))) (fun _ hk => trivial)⟩
             have n1_ : Aside0 (Kd.R Kd.bool 4 ((w82.setCell ⟨gb140, 0, none⟩ (.int .i64 ((rd_T57 l0_2 x98_3).f0))).setCell ⟨gb140, 1, none⟩ (.int .i64 ((rd_T57 l0_2 x98_3).f1))) w.heap.size (fun _ => True) v128 x5_2) := ⟨by (with_reducible repeat (first | apply Kd.R_alloc | apply Kd.R_drewN | apply Kd.R_drew)); exact Kd.R_mono (Kd.R_far (p := ⟨gb140, 1, none⟩) (Kd.R_far (p := ⟨gb140, 0, none⟩) (Kd.R_types HO_5.out BK140.out (by decide)) (fun _ hk => hk.2) (.int .i64 ((rd_T57 l0_2 x98_3).f0))) (fun _ hk => hk.2) (.int .i64 ((rd_T57 l0_2 x98_3).f1))) (fun _ hk => trivial)⟩
             have n2_ : Aside0 (((w82.setCell ⟨gb140, 0, none⟩ (.int .i64 ((rd_T57 l0_2 x98_3).f0))).setCell ⟨gb140, 1, none⟩ (.int .i64 ((rd_T57 l0_2 x98_3).f1))).heap[gb119]? = some (.cells #[.int .i64 a0_0, .slice A0_1 l0_1.length c0_1, .slice (some ad139) l0_2.length c0_2, .int .i64 a0_3] 27 (0, 0))) := ⟨by (with_reducible repeat (first | refine blk_drewN ?_ _ | refine blk_drew ?_ | refine blk_alloc ?_ _)); refine blk_far ?_ NB119_140.out _; (with_reducible repeat (first | refine blk_drewN ?_ _ | refine blk_drew ?_ | refine blk_alloc ?_ _)); refine blk_far ?_ NB119_140.out _; (with_reducible repeat (first | refine blk_drewN ?_ _ | refine blk_drew ?_ | refine blk_alloc ?_ _)); exact BK119.out⟩
             have n3_ : Aside0 (((w82.setCell ⟨gb140, 0, none⟩ (.int .i64 ((rd_T57 l0_2 x98_3).f0))).setCell ⟨gb140, 1, none⟩ (.int .i64 ((rd_T57 l0_2 x98_3).f1))).heap[gb140]? = some (.cells #[.int .i64 ((rd_T57 l0_2 x98_3).f0), .int .i64 ((rd_T57 l0_2 x98_3).f1)] 57 (0, 0))) := ⟨by (with_reducible repeat (first | refine blk_drewN ?_ _ | refine blk_drew ?_ | refine blk_alloc ?_ _)); refine blk_put (cs := #[.int .i64 ((rd_T57 l0_2 x98_3).f0), .int .i64 0]) ?_ 1 _ rfl; (with_reducible repeat (first | refine blk_drewN ?_ _ | refine blk_drew ?_ | refine blk_alloc ?_ _)); refine blk_put (cs := #[.int .i64 0, .int .i64 0]) ?_ 0 _ rfl; (with_reducible repeat (first | refine blk_drewN ?_ _ | refine blk_drew ?_ | refine blk_alloc ?_ _)); exact BK140.out⟩
             have n4_ : Aside0 (Below w.heap.size w ((w82.setCell ⟨gb140, 0, none⟩ (.int .i64 ((rd_T57 l0_2 x98_3).f0))).setCell ⟨gb140, 1, none⟩ (.int .i64 ((rd_T57 l0_2 x98_3).f1)))) := ⟨by repeat (first | (with_reducible first | exact HB.out | apply b0_ | apply b1_ | apply b2_ | refine below_set ?_ GE119.out | refine below_set ?_ GE140.out) | exact HB.out)⟩
             (try clear HO_4)
             (try clear HO_5)
             (try clear BK119)
             (try clear BK140)
             (try clear HB)
             generalize ((w82.setCell ⟨gb140, 0, none⟩ (.int .i64 ((rd_T57 l0_2 x98_3).f0))).setCell ⟨gb140, 1, none⟩ (.int .i64 ((rd_T57 l0_2 x98_3).f1))) = w88 at n0_ n1_ n2_ n3_ n4_ ⊢; have HO_4 := n0_; have HO_5 := n1_; have BK119 := n2_; have BK140 := n3_; have HB := n4_; clear n0_ n1_ n2_ n3_ n4_; have n0_ := Aside0.mk (Kd.R_drew HO_4.out); have n1_ := Aside0.mk (Kd.R_drew HO_5.out)
             have n2_ := Aside0.mk (blk_drew BK119.out); have n3_ := Aside0.mk (blk_drew BK140.out); have n4_ := Aside0.mk (b2_ HB.out); clear HO_4; clear HO_5; clear BK119; clear BK140; clear HB; have HO_4 := n0_; have HO_5 := n1_; have BK119 := n2_; have BK140 := n3_; have HB := n4_; clear n0_ n1_ n2_ n3_ n4_; obtain ⟨Ao90, co90, eo90⟩ := Kd.R_slice HO_4.out
             (first | subst eo90 | (injection eo90 with f1_ f2_ f3_; have f4_ := f1_.symm; have f5_ := f3_.symm; clear f1_ f2_ f3_; subst f4_; subst f5_))
             have p141 : 0 ≤ (x98_3 : Int) := of_decide_eq_true (by first | (with_reducible assumption) | assumption); have q141 : x98_3 < (x4_2.length : Int) := of_decide_eq_true (by first | (with_reducible assumption) | assumption); obtain ⟨ad141, e141, hx141_0⟩ := Kd.at_int (Kd.R_reads' HO_4.out).2.2 x98_3 p141 q141; cases e141; replace p141 := eq_true p141; replace q141 := eq_true q141
             refine start_ (n := 17) (S := fun w' => w'.cell? ⟨gb140, 0, none⟩ = some (.int .i64 ((rd_T57 l0_2 x98_3).f0)) ∧ w'.cell? ⟨gb140, 1, none⟩ = some (.int .i64 ((rd_T57 l0_2 x98_3).f1)) ∧ w'.cell? (ad141.add (x98_3).toNat) = some (.int .i64 (rd x4_2 x98_3))) (ds := []) #[F0,F0,F0,F0,F0,F0,F0,F0,F0,F0,F0,F0,F0,F0,F0,F0,F0] (by kernel_rfl) rfl rfl ⟨(blk_cell BK140.out 0).trans rfl, (blk_cell BK140.out 1).trans rfl, hx141_0⟩ (fun hHeld => ?_); refine with_tabW cow_Check.tab22 cow_Check.bits22 (fun HT_ HW_ => ?_)
             generalize w88.drew = w89 at HO_4 HO_5 BK119 BK140 HB hx141_0 hHeld ⊢; refine pure_ (i := 0) (N := some 103) (v := ?_) (a' := ?_) #[T0,F0,F0,F0,F0,F0,F0,F0,F0,F0,F0,F0,F0,F0,F0,F0,F0] rfl rfl (any_of HT_.out (by kernel_rfl)) (fun _ _ _ h => h) (Or.inl ⟨by rfl, ?_⟩) ?_ ?_
             rotate_left
             · intro w'; go_simp; with_reducible rfl
             rotate_left
             · simp only [Act.put, z0_, z1_, z2_, i64_w, i32_w]; rfl
             refine pure_ (i := 2) (N := some 105) (v := ?_) (a' := ?_) #[T0,F0,T0,F0,F0,F0,F0,F0,F0,F0,F0,F0,F0,F0,F0,F0,F0] rfl rfl (any_of HT_.out (by kernel_rfl)) (fun _ _ _ h => h) (Or.inl ⟨by rfl, ?_⟩) ?_ ?_
             rotate_left
             · intro w'; go_simp; with_reducible rfl
             rotate_left
             · simp only [Act.put, z0_, z1_, z2_, i64_w, i32_w]; rfl
             refine pure_ (i := 3) (N := some 106) (v := ?_) (a' := ?_) #[T0,F0,T0,T0,F0,F0,F0,F0,F0,F0,F0,F0,F0,F0,F0,F0,F0] rfl rfl (any_of HT_.out (by kernel_rfl)) (fun _ _ _ h => h) (Or.inl ⟨by rfl, ?_⟩) ?_ ?_
             rotate_left
             · intro w'; go_simp; with_reducible rfl
             rotate_left
             · simp only [Act.put, z0_, z1_, z2_, i64_w, i32_w]; rfl
             refine pure_ (i := 4) (N := some 107) (v := ?_) (a' := ?_) #[T0,F0,T0,T0,T0,F0,F0,F0,F0,F0,F0,F0,F0,F0,F0,F0,F0] rfl rfl (any_of HT_.out (by kernel_rfl)) (fun _ _ _ h => h) (Or.inl ⟨by rfl, ?_⟩) ?_ ?_
             rotate_left
             · intro w'; go_simp; with_reducible rfl
             rotate_left
             · simp only [Act.put, z0_, z1_, z2_, i64_w, i32_w]; rfl
             refine take_ (i := 1) (N := some 104) (v := ?_) (a' := ?_) #[T0,T0,T0,T0,T0,F0,F0,F0,F0,F0,F0,F0,F0,F0,F0,F0,F0] rfl rfl (take_ofW HT_.out HW_.out (by kernel_rfl)) (fun _ _ _ h => h) (Or.inl ⟨by rfl, ?_⟩) hHeld ?_ ?_
             rotate_left
             ·
              rintro w' ⟨s0, s1, s2⟩
              go_simp; with_reducible rfl
             rotate_left
             · simp only [Act.put, z0_, z1_, z2_, i64_w, i32_w]; rfl
             refine take_ (i := 5) (N := some 108) (v := ?_) (a' := ?_) #[T0,T0,T0,T0,T0,T0,F0,F0,F0,F0,F0,F0,F0,F0,F0,F0,F0] rfl rfl (take_ofW HT_.out HW_.out (by kernel_rfl)) (fun _ _ _ h => h) (Or.inl ⟨by rfl, ?_⟩) hHeld ?_ ?_
             rotate_left
             ·
              rintro w' ⟨s0, s1, s2⟩
              go_simp; with_reducible rfl
             rotate_left
             · simp only [Act.put, z0_, z1_, z2_, i64_w, i32_w]; rfl
             refine pure_ (i := 6) (N := some 109) (v := ?_) (a' := ?_) #[T0,T0,T0,T0,T0,T0,T0,F0,F0,F0,F0,F0,F0,F0,F0,F0,F0] rfl rfl (any_of HT_.out (by kernel_rfl)) (fun _ _ _ h => h) (Or.inl ⟨by rfl, ?_⟩) ?_ ?_
             rotate_left
             · intro w'; go_simp; with_reducible rfl
             rotate_left
             · simp only [Act.put, z0_, z1_, z2_, i64_w, i32_w]; rfl
             refine pure_ (i := 7) (N := some 110) (v := ?_) (a' := ?_) #[T0,T0,T0,T0,T0,T0,T0,T0,F0,F0,F0,F0,F0,F0,F0,F0,F0] rfl rfl (any_of HT_.out (by kernel_rfl)) (fun _ _ _ h => h) (Or.inl ⟨by rfl, ?_⟩) ?_ ?_
             rotate_left
             · intro w'; go_simp; with_reducible rfl
             rotate_left
             · simp only [Act.put, z0_, z1_, z2_, i64_w, i32_w]; rfl
             refine pure_ (i := 8) (N := some 111) (v := ?_) (a' := ?_) #[T0,T0,T0,T0,T0,T0,T0,T0,T0,F0,F0,F0,F0,F0,F0,F0,F0] rfl rfl (any_of HT_.out (by kernel_rfl)) (fun _ _ _ h => h) (Or.inl ⟨by rfl, ?_⟩) ?_ ?_
             rotate_left
             · intro w'; go_simp; with_reducible rfl
             rotate_left
             · simp only [Act.put, z0_, z1_, z2_, i64_w, i32_w]; rfl
             refine take_ (i := 9) (N := some 112) (v := ?_) (a' := ?_) #[T0,T0,T0,T0,T0,T0,T0,T0,T0,T0,F0,F0,F0,F0,F0,F0,F0] rfl rfl (take_ofW HT_.out HW_.out (by kernel_rfl)) (fun _ _ _ h => h) (Or.inl ⟨by rfl, ?_⟩) hHeld ?_ ?_
             rotate_left
             ·
              rintro w' ⟨s0, s1, s2⟩
              go_simp; with_reducible rfl
             rotate_left
             · simp only [Act.put, z0_, z1_, z2_, i64_w, i32_w]; rfl
             refine pure_ (i := 10) (N := some 113) (v := ?_) (a' := ?_) #[T0,T0,T0,T0,T0,T0,T0,T0,T0,T0,T0,F0,F0,F0,F0,F0,F0] rfl rfl (any_of HT_.out (by kernel_rfl)) (fun _ _ _ h => h) (Or.inl ⟨by rfl, ?_⟩) ?_ ?_
             rotate_left
             · intro w'; go_simp; with_reducible rfl
             rotate_left
             · simp only [Act.put, z0_, z1_, z2_, i64_w, i32_w]; rfl
             refine pure_ (i := 11) (N := some 114) (v := ?_) (a' := ?_) #[T0,T0,T0,T0,T0,T0,T0,T0,T0,T0,T0,T0,F0,F0,F0,F0,F0] rfl rfl (any_of HT_.out (by kernel_rfl)) (fun _ _ _ h => h) (Or.inl ⟨by rfl, ?_⟩) ?_ ?_
             rotate_left
             · intro w'; go_simp; with_reducible rfl
             rotate_left
             · simp only [Act.put, z0_, z1_, z2_, i64_w, i32_w]; rfl
             refine pure_ (i := 12) (N := some 115) (v := ?_) (a' := ?_) #[T0,T0,T0,T0,T0,T0,T0,T0,T0,T0,T0,T0,T0,F0,F0,F0,F0] rfl rfl (any_of HT_.out (by kernel_rfl)) (fun _ _ _ h => h) (Or.inl ⟨by rfl, ?_⟩) ?_ ?_
             rotate_left
             · intro w'; go_simp; with_reducible rfl
             rotate_left
             · simp only [Act.put, z0_, z1_, z2_, i64_w, i32_w]; rfl
             refine take_ (i := 13) (N := some 116) (v := ?_) (a' := ?_) #[T0,T0,T0,T0,T0,T0,T0,T0,T0,T0,T0,T0,T0,T0,F0,F0,F0] rfl rfl (take_ofW HT_.out HW_.out (by kernel_rfl)) (fun _ _ _ h => h) (Or.inl ⟨by rfl, ?_⟩) hHeld ?_ ?_
             rotate_left
             ·
              rintro w' ⟨s0, s1, s2⟩
              go_simp; with_reducible rfl
             rotate_left
             · simp only [Act.put, z0_, z1_, z2_, i64_w, i32_w]; rfl
             refine pure_ (i := 14) (N := some 117) (v := ?_) (a' := ?_) #[T0,T0,T0,T0,T0,T0,T0,T0,T0,T0,T0,T0,T0,T0,T0,F0,F0] rfl rfl (any_of HT_.out (by kernel_rfl)) (fun _ _ _ h => h) (Or.inl ⟨by rfl, ?_⟩) ?_ ?_
             rotate_left
             · intro w'; go_simp; with_reducible rfl
             rotate_left
             · simp only [Act.put, z0_, z1_, z2_, i64_w, i32_w]; rfl
             refine pure_ (i := 15) (N := some 118) (v := ?_) (a' := ?_) #[T0,T0,T0,T0,T0,T0,T0,T0,T0,T0,T0,T0,T0,T0,T0,T0,F0] rfl rfl (any_of HT_.out (by kernel_rfl)) (fun _ _ _ h => h) (Or.inl ⟨by rfl, ?_⟩) ?_ ?_
             rotate_left
             · intro w'; go_simp; with_reducible rfl
             rotate_left
             · simp only [Act.put, z0_, z1_, z2_, i64_w, i32_w]; rfl
             refine pure_ (i := 16) (N := some 119) (v := ?_) (a' := ?_) #[T0,T0,T0,T0,T0,T0,T0,T0,T0,T0,T0,T0,T0,T0,T0,T0,T0] rfl rfl (any_of HT_.out (by kernel_rfl)) (fun _ _ _ h => h) (Or.inl ⟨by rfl, ?_⟩) ?_ ?_
             rotate_left
             · intro w'; go_simp; with_reducible rfl
             rotate_left
             · simp only [Act.put, z0_, z1_, z2_, i64_w, i32_w]; rfl
             refine done_ (done_of HT_.out (by kernel_rfl)) ?_
             try go_wp2
             go_meet
             case rel => exact ⟨_, ((((rd_T57 l0_2 x98_3).f1) != 0)), (by first | rfl | (simp; done) | (simp [*]; done)), H', ⟨by have := HJ1.out; have := HK2.out; have := HK3.out; first | omega | exact Nat.le_refl _⟩, ⟨by (with_reducible repeat (first | apply Kd.R_alloc | apply Kd.R_drewN | apply Kd.R_drew)); exact HO_4.out⟩, ⟨by (with_reducible repeat (first | apply Kd.R_alloc | apply Kd.R_drewN | apply Kd.R_drew)); exact HO_5.out⟩, ⟨by (with_reducible repeat (first | refine blk_drewN ?_ _ | refine blk_drew ?_ | refine blk_alloc ?_ _)); exact BK119.out⟩, ⟨by (with_reducible repeat (first | refine blk_drewN ?_ _ | refine blk_drew ?_ | refine blk_alloc ?_ _)); exact BK140.out⟩, ⟨by repeat (first | (with_reducible first | exact HB.out | apply b0_ | apply b1_ | apply b2_ | refine below_set ?_ GE119.out | refine below_set ?_ GE140.out) | exact HB.out)⟩⟩
            case rest =>
             clear HC81; obtain ⟨kq, x119_80, rfl, HA, HJ80, HO_4, HO_5, BK119, BK140, HB⟩ := hcut
             cases kq with
              | zero => exact absurd HA.out (by simp [cow_Check.j4])
              | succ kj80 =>
               have H := HA.out; clear HA; simp only [cow_Check.j4] at H; by_cases c97 : x119_80 = true
               rotate_left
               ·
                replace c97 := Bool.eq_false_iff.mpr c97; subst c97
                have H1 : (cow_Check.l2 kj80 x4_2 x5_2 l0_2 (l0_2.length : Int) (wrap64 (x98_3 + 1))) = some r := by rw [if_neg (show ¬ (false = true) by decide)] at H; exact H
                clear H; have H := H1; clear H1; have H' := Aside0.mk H; clear H; go_wp2
                go_roundg kj80
                case measure => have := HJ1.out; have := HK2.out; have := HK3.out; have := HJ80.out; omega
                case rel => exact ⟨(wrap64 (x98_3 + 1)), (by first | rfl | (simp; done) | (simp [*]; done)), H', ⟨by have := HJ1.out; have := HK2.out; have := HK3.out; have := HJ80.out; omega⟩, ⟨by (with_reducible repeat (first | apply Kd.R_alloc | apply Kd.R_drewN | apply Kd.R_drew)); exact HO_4.out⟩, ⟨by (with_reducible repeat (first | apply Kd.R_alloc | apply Kd.R_drewN | apply Kd.R_drew)); exact HO_5.out⟩, ⟨by (with_reducible repeat (first | refine blk_drewN ?_ _ | refine blk_drew ?_ | refine blk_alloc ?_ _)); exact BK119.out⟩, ⟨by repeat (first | (with_reducible first | exact HB.out | apply b0_ | apply b1_ | apply b2_ | refine below_set ?_ GE119.out | refine below_set ?_ GE140.out) | exact HB.out)⟩⟩
               subst c97
               have H1 : (some 11) = some r := by rw [if_pos rfl] at H; exact H
               clear H; have H := H1; clear H1; obtain rfl := Option.some.inj H; go_wp2; go_ret; exact ⟨by first | rfl | (simp [errW_none, errW_some] <;> rfl) | (simp [*, errW_none, errW_some] <;> rfl), by repeat (first | (with_reducible first | exact HB.out | apply b0_ | apply b1_ | apply b2_ | refine below_set ?_ GE119.out | refine below_set ?_ GE140.out) | exact HB.out)⟩
        rw [if_pos c31] at H; have c31b0 : decide (x59_2 < (l0_1.length : Int)) = true := decide_eq_true c31; clear c31; by_cases c32 : 0 ≤ x59_2
        rotate_left
        · rw [if_neg c32] at H; exact absurd H (by simp)
        rw [if_pos c32] at H; have c32b0 : decide (0 ≤ x59_2) = true := decide_eq_true c32; clear c32; by_cases c33 : x59_2 < (l0_1.length : Int)
        rotate_left
        · rw [if_neg c33] at H; exact absurd H (by simp)
        rw [if_pos c33] at H; have c33b0 : decide (x59_2 < (l0_1.length : Int)) = true := decide_eq_true c33; clear c33; have H' := Aside0.mk H; clear H; have p130 : 0 ≤ (x59_2 : Int) := of_decide_eq_true (by first | (with_reducible assumption) | assumption); have q130 : x59_2 < (l0_1.length : Int) := of_decide_eq_true (by first | (with_reducible assumption) | assumption)
        obtain ⟨ad130, A130_1, c130_1, e130, hx130_0, hx130_1, hl130_1, hi130_1⟩ := at_T62 HR0_1.out x59_2 p130 q130; cases e130; replace hx130_0 := (HB.out.cell (World.block_lt_of_cell? w _ hx130_0)).trans hx130_0; replace hx130_1 := (HB.out.cell (World.block_lt_of_cell? w _ hx130_1)).trans hx130_1; have HR130_1 := Aside0.mk hi130_1; have HC130_1 := Aside0.mk hl130_1; clear hi130_1 hl130_1
        replace p130 := eq_true p130; replace q130 := eq_true q130
        go_wp2_with (first | ((with_reducible refine gate_dst (N := 7) rfl ?_); (try (refine gate_guard (by rfl) ?_; dsimp only)); refine box_event ?hg (N := 7) ?hd (cs := #[.bool false, .slice none 0 0]) (t := 62) ?hr ?_; (case hd => rfl); (case hg => rfl); (case hr => first | (go_simp; done) | (go_simp; rfl)); intro gb131 hg w34 hbox hb; have n0_ := Aside0.mk (Kd.R_below (by (with_reducible repeat (first | apply Kd.R_alloc | apply Kd.R_drewN | apply Kd.R_drew)); exact HO_4.out) hb); have n1_ := Aside0.mk (Kd.R_below (by (with_reducible repeat (first | apply Kd.R_alloc | apply Kd.R_drewN | apply Kd.R_drew)); exact HO_5.out) hb); have n2_ := Aside0.mk (blk_below (g := gb119) (o := .cells #[.int .i64 a0_0, .slice (some ad130) l0_1.length c0_1, .slice A0_2 l0_2.length c0_2, .int .i64 a0_3] 27 (0, 0)) (by (with_reducible repeat (first | refine blk_drewN ?_ _ | refine blk_drew ?_ | refine blk_alloc ?_ _)); exact BK119.out) hb); have n3_ := Aside0.mk (below_step (by repeat (first | (with_reducible first | exact HB.out | apply b0_ | apply b1_ | apply b2_ | refine below_set ?_ GE119.out) | exact HB.out)) hb); have n4_ := Aside0.mk (hbox); have n5_ := Aside0.mk ((by rw [hg]; exact (below_size (by repeat (first | (with_reducible first | exact HB.out | apply b0_ | apply b1_ | apply b2_ | refine below_set ?_ GE119.out) | exact HB.out))) : w.heap.size ≤ gb131)); have n6_ := Aside0.mk ((by rw [hg]; exact (below_size (by repeat (first | (with_reducible first | exact HB.out | apply b0_ | apply b1_ | apply b2_ | refine below_set ?_ GE119.out) | exact HB.out))) : w.heap.size ≤ gb131)); have n7_ := Aside0.mk ((by rw [hg]; exact Nat.ne_of_lt (blk_lt (g := gb119) (o := .cells #[.int .i64 a0_0, .slice (some ad130) l0_1.length c0_1, .slice A0_2 l0_2.length c0_2, .int .i64 a0_3] 27 (0, 0)) (by (with_reducible repeat (first | refine blk_drewN ?_ _ | refine blk_drew ?_ | refine blk_alloc ?_ _)); exact BK119.out)) : gb119 ≠ gb131)); have n8_ := Aside0.mk ((by rw [hg]; exact Nat.ne_of_gt (blk_lt (g := gb119) (o := .cells #[.int .i64 a0_0, .slice (some ad130) l0_1.length c0_1, .slice A0_2 l0_2.length c0_2, .int .i64 a0_3] 27 (0, 0)) (by (with_reducible repeat (first | refine blk_drewN ?_ _ | refine blk_drew ?_ | refine blk_alloc ?_ _)); exact BK119.out)) : gb131 ≠ gb119)); clear HO_4; clear HO_5; clear BK119; clear HB; have HO_4 := n0_; have HO_5 := n1_; have BK119 := n2_; have HB := n3_; have BK131 := n4_; have GW131 := n5_; have GE131 := n6_; have NB119_131 := n7_; have NB131_119 := n8_; clear n0_ n1_ n2_ n3_ n4_ n5_ n6_ n7_ n8_; clear hb hbox hg; have hnb35 := NB131_119.out; have hnc35 := NB119_131.out; have hcz36_0 : w34.cell? ⟨gb131, 0, none⟩ = some (.bool false) := (blk_cell BK131.out 0).trans rfl; have hcz36_1 : w34.cell? ⟨gb131, 1, none⟩ = some (.slice none 0 0) := (blk_cell BK131.out 1).trans rfl; have hfz36_0 := blk_frozen BK131.out 0; have hfz36_1 := blk_frozen BK131.out 1))
        go_loopg [66] k2 (fun kq v66 w' => ∃ (x4_3 : List Int) (x5_3 : List Bool) (x66_3 : Int), v66 = .int .i64 x66_3 ∧ Aside0 (cow_Check.l1 kq x4_3 x5_3 l0_1 (l0_1.length : Int) x59_2 ((rd_T62 l0_1 x59_2).f1) (((rd_T62 l0_1 x59_2).f1).length : Int) x66_3 a0_0 l0_1 l0_2 a0_3 = some r) ∧ Aside0 (kq ≤ k2) ∧ Aside0 (Kd.R (Kd.int .i64) 3 w' w.heap.size (fun _ => True) v125 x4_3) ∧ Aside0 (Kd.R Kd.bool 4 w' w.heap.size (fun _ => True) v128 x5_3) ∧ Aside0 (w'.heap[gb119]? = some (.cells #[.int .i64 a0_0, (.slice (some ad130) l0_1.length c0_1), (.slice A0_2 l0_2.length c0_2), .int .i64 a0_3] 27 (0, 0))) ∧ Aside0 (w'.heap[gb131]? = some (.cells #[.bool ((rd_T62 l0_1 x59_2).f0), (.slice A130_1 ((rd_T62 l0_1 x59_2).f1).length c130_1)] 62 (0, 0))) ∧ Aside0 (Below w.heap.size w w'))
        case atStart => exact ⟨(x4_2), (x5_2), (0), (by first | rfl | (simp; done) | (simp [*]; done)), H', ⟨Nat.le_refl _⟩, ⟨by (with_reducible repeat (first | apply Kd.R_alloc | apply Kd.R_drewN | apply Kd.R_drew)); exact Kd.R_mono (Kd.R_far (p := ⟨gb131, 1, none⟩) (Kd.R_far (p := ⟨gb131, 0, none⟩) (Kd.R_types HO_4.out BK131.out (by decide)) (fun _ hk => hk.2) (.bool ((rd_T62 l0_1 x59_2).f0))) (fun _ hk => hk.2) (.slice A130_1 ((rd_T62 l0_1 x59_2).f1).length c130_1)) (fun _ hk => trivial)⟩, ⟨by (with_reducible repeat (first | apply Kd.R_alloc | apply Kd.R_drewN | apply Kd.R_drew)); exact Kd.R_mono (Kd.R_far (p := ⟨gb131, 1, none⟩) (Kd.R_far (p := ⟨gb131, 0, none⟩) (Kd.R_types HO_5.out BK131.out (by decide)) (fun _ hk => hk.2) (.bool ((rd_T62 l0_1 x59_2).f0))) (fun _ hk => hk.2) (.slice A130_1 ((rd_T62 l0_1 x59_2).f1).length c130_1)) (fun _ hk => trivial)⟩, ⟨by (with_reducible repeat (first | refine blk_drewN ?_ _ | refine blk_drew ?_ | refine blk_alloc ?_ _)); refine blk_far ?_ NB119_131.out _; (with_reducible repeat (first | refine blk_drewN ?_ _ | refine blk_drew ?_ | refine blk_alloc ?_ _)); refine blk_far ?_ NB119_131.out _; (with_reducible repeat (first | refine blk_drewN ?_ _ | refine blk_drew ?_ | refine blk_alloc ?_ _)); exact BK119.out⟩, ⟨by (with_reducible repeat (first | refine blk_drewN ?_ _ | refine blk_drew ?_ | refine blk_alloc ?_ _)); refine blk_put (cs := #[.bool ((rd_T62 l0_1 x59_2).f0), .slice none 0 0]) ?_ 1 _ rfl; (with_reducible repeat (first | refine blk_drewN ?_ _ | refine blk_drew ?_ | refine blk_alloc ?_ _)); refine blk_put (cs := #[.bool false, .slice none 0 0]) ?_ 0 _ rfl; (with_reducible repeat (first | refine blk_drewN ?_ _ | refine blk_drew ?_ | refine blk_alloc ?_ _)); exact BK131.out⟩, ⟨by repeat (first | (with_reducible first | exact HB.out | apply b0_ | apply b1_ | apply b2_ | refine below_set ?_ GE119.out | refine below_set ?_ GE131.out) | exact HB.out)⟩⟩
        case round =>
         clear H'; obtain ⟨x4_3, x5_3, x66_3, rfl, HA, HK3, HO_4, HO_5, BK119, BK131, HB⟩ := hrel
         cases gk with
          | zero => exact absurd HA.out (by simp [cow_Check.l1])
          | succ k3 =>
           have H := HA.out; clear HA; simp only [cow_Check.l1] at H; by_cases c37 : x66_3 < (((rd_T62 l0_1 x59_2).f1).length : Int)
           rotate_left
           ·
            rw [if_neg c37] at H; have c37b0 : decide (x66_3 < (((rd_T62 l0_1 x59_2).f1).length : Int)) = false := decide_eq_false c37; clear c37; have H' := Aside0.mk H; clear H; go_wp2
            go_roundg k3
            case measure => have := HJ1.out; have := HK2.out; have := HK3.out; omega
            case rel => exact ⟨(x4_3), (x5_3), (wrap64 (x59_2 + 1)), (by first | rfl | (simp; done) | (simp [*]; done)), H', ⟨by have := HJ1.out; have := HK2.out; have := HK3.out; omega⟩, ⟨by (with_reducible repeat (first | apply Kd.R_alloc | apply Kd.R_drewN | apply Kd.R_drew)); exact HO_4.out⟩, ⟨by (with_reducible repeat (first | apply Kd.R_alloc | apply Kd.R_drewN | apply Kd.R_drew)); exact HO_5.out⟩, ⟨by (with_reducible repeat (first | refine blk_drewN ?_ _ | refine blk_drew ?_ | refine blk_alloc ?_ _)); exact BK119.out⟩, ⟨by repeat (first | (with_reducible first | exact HB.out | apply b0_ | apply b1_ | apply b2_ | refine below_set ?_ GE119.out | refine below_set ?_ GE131.out) | exact HB.out)⟩⟩
           rw [if_pos c37] at H; have c37b0 : decide (x66_3 < (((rd_T62 l0_1 x59_2).f1).length : Int)) = true := decide_eq_true c37; clear c37; by_cases c38 : 0 ≤ x66_3
           rotate_left
           · rw [if_neg c38] at H; exact absurd H (by simp)
           rw [if_pos c38] at H; have c38b0 : decide (0 ≤ x66_3) = true := decide_eq_true c38; clear c38; by_cases c39 : x66_3 < (((rd_T62 l0_1 x59_2).f1).length : Int)
           rotate_left
           · rw [if_neg c39] at H; exact absurd H (by simp)
           rw [if_pos c39] at H; have c39b0 : decide (x66_3 < (((rd_T62 l0_1 x59_2).f1).length : Int)) = true := decide_eq_true c39; clear c39; by_cases c40 : ((rd_T64 ((rd_T62 l0_1 x59_2).f1) x66_3).f0) ≥ 0
           rotate_left
           ·
            rw [if_neg c40] at H; have c40b0 : decide (0 ≤ ((rd_T64 ((rd_T62 l0_1 x59_2).f1) x66_3).f0)) = false := decide_eq_false c40; clear c40; have H' := Aside0.mk H; clear H; have p132 : 0 ≤ (x66_3 : Int) := of_decide_eq_true (by first | (with_reducible assumption) | assumption)
            have q132 : x66_3 < (((rd_T62 l0_1 x59_2).f1).length : Int) := of_decide_eq_true (by first | (with_reducible assumption) | assumption); obtain ⟨ad132, e132, hx132_0, hx132_1⟩ := at_T64 HR130_1.out x66_3 p132 q132; cases e132; replace hx132_0 := (HB.out.cell (World.block_lt_of_cell? w _ hx132_0)).trans hx132_0; replace hx132_1 := (HB.out.cell (World.block_lt_of_cell? w _ hx132_1)).trans hx132_1
            replace p132 := eq_true p132; replace q132 := eq_true q132
            go_wp2_with (first | ((with_reducible refine gate_dst (N := 9) rfl ?_); (try (refine gate_guard (by rfl) ?_; dsimp only)); refine box_event ?hg (N := 9) ?hd (cs := #[.int .i64 0, .bool false]) (t := 64) ?hr ?_; (case hd => rfl); (case hg => rfl); (case hr => first | (go_simp; done) | (go_simp; rfl)); intro gb133 hg w73 hbox hb; have n0_ := Aside0.mk (Kd.R_below (by (with_reducible repeat (first | apply Kd.R_alloc | apply Kd.R_drewN | apply Kd.R_drew)); exact HO_4.out) hb); have n1_ := Aside0.mk (Kd.R_below (by (with_reducible repeat (first | apply Kd.R_alloc | apply Kd.R_drewN | apply Kd.R_drew)); exact HO_5.out) hb); have n2_ := Aside0.mk (blk_below (g := gb119) (o := .cells #[.int .i64 a0_0, .slice (some ad130) l0_1.length c0_1, .slice A0_2 l0_2.length c0_2, .int .i64 a0_3] 27 (0, 0)) (by (with_reducible repeat (first | refine blk_drewN ?_ _ | refine blk_drew ?_ | refine blk_alloc ?_ _)); exact BK119.out) hb); have n3_ := Aside0.mk (blk_below (g := gb131) (o := .cells #[.bool ((rd_T62 l0_1 x59_2).f0), .slice (some ad132) ((rd_T62 l0_1 x59_2).f1).length c130_1] 62 (0, 0)) (by (with_reducible repeat (first | refine blk_drewN ?_ _ | refine blk_drew ?_ | refine blk_alloc ?_ _)); exact BK131.out) hb); have n4_ := Aside0.mk (below_step (by repeat (first | (with_reducible first | exact HB.out | apply b0_ | apply b1_ | apply b2_ | refine below_set ?_ GE119.out | refine below_set ?_ GE131.out) | exact HB.out)) hb); have n5_ := Aside0.mk (hbox); have n6_ := Aside0.mk ((by rw [hg]; exact (below_size (by repeat (first | (with_reducible first | exact HB.out | apply b0_ | apply b1_ | apply b2_ | refine below_set ?_ GE119.out | refine below_set ?_ GE131.out) | exact HB.out))) : w.heap.size ≤ gb133)); have n7_ := Aside0.mk ((by rw [hg]; exact (below_size (by repeat (first | (with_reducible first | exact HB.out | apply b0_ | apply b1_ | apply b2_ | refine below_set ?_ GE119.out | refine below_set ?_ GE131.out) | exact HB.out))) : w.heap.size ≤ gb133)); have n8_ := Aside0.mk ((by rw [hg]; exact Nat.ne_of_lt (blk_lt (g := gb119) (o := .cells #[.int .i64 a0_0, .slice (some ad130) l0_1.length c0_1, .slice A0_2 l0_2.length c0_2, .int .i64 a0_3] 27 (0, 0)) (by (with_reducible repeat (first | refine blk_drewN ?_ _ | refine blk_drew ?_ | refine blk_alloc ?_ _)); exact BK119.out)) : gb119 ≠ gb133)); have n9_ := Aside0.mk ((by rw [hg]; exact Nat.ne_of_gt (blk_lt (g := gb119) (o := .cells #[.int .i64 a0_0, .slice (some ad130) l0_1.length c0_1, .slice A0_2 l0_2.length c0_2, .int .i64 a0_3] 27 (0, 0)) (by (with_reducible repeat (first | refine blk_drewN ?_ _ | refine blk_drew ?_ | refine blk_alloc ?_ _)); exact BK119.out)) : gb133 ≠ gb119)); have n10_ := Aside0.mk ((by rw [hg]; exact Nat.ne_of_lt (blk_lt (g := gb131) (o := .cells #[.bool ((rd_T62 l0_1 x59_2).f0), .slice (some ad132) ((rd_T62 l0_1 x59_2).f1).length c130_1] 62 (0, 0)) (by (with_reducible repeat (first | refine blk_drewN ?_ _ | refine blk_drew ?_ | refine blk_alloc ?_ _)); exact BK131.out)) : gb131 ≠ gb133)); have n11_ := Aside0.mk ((by rw [hg]; exact Nat.ne_of_gt (blk_lt (g := gb131) (o := .cells #[.bool ((rd_T62 l0_1 x59_2).f0), .slice (some ad132) ((rd_T62 l0_1 x59_2).f1).length c130_1] 62 (0, 0)) (by (with_reducible repeat (first | refine blk_drewN ?_ _ | refine blk_drew ?_ | refine blk_alloc ?_ _)); exact BK131.out)) : gb133 ≠ gb131)); clear HO_4; clear HO_5; clear BK119; clear BK131; clear HB; have HO_4 := n0_; have HO_5 := n1_; have BK119 := n2_; have BK131 := n3_; have HB := n4_; have BK133 := n5_; have GW133 := n6_; have GE133 := n7_; have NB119_133 := n8_; have NB133_119 := n9_; have NB131_133 := n10_; have NB133_131 := n11_; clear n0_ n1_ n2_ n3_ n4_ n5_ n6_ n7_ n8_ n9_ n10_ n11_; clear hb hbox hg; have hnb74 := NB133_119.out; have hnc74 := NB119_133.out; have hnb75 := NB133_131.out; have hnc75 := NB131_133.out; have hcz76_0 : w73.cell? ⟨gb133, 0, none⟩ = some (.int .i64 0) := (blk_cell BK133.out 0).trans rfl; have hcz76_1 : w73.cell? ⟨gb133, 1, none⟩ = some (.bool false) := (blk_cell BK133.out 1).trans rfl; have hfz76_0 := blk_frozen BK133.out 0; have hfz76_1 := blk_frozen BK133.out 1))
            go_roundg k3
            case measure => have := HJ1.out; have := HK2.out; have := HK3.out; omega
            case rel => exact ⟨(x4_3), (x5_3), (wrap64 (x66_3 + 1)), (by first | rfl | (simp; done) | (simp [*]; done)), H', ⟨by have := HJ1.out; have := HK2.out; have := HK3.out; omega⟩, ⟨by (with_reducible repeat (first | apply Kd.R_alloc | apply Kd.R_drewN | apply Kd.R_drew)); exact Kd.R_mono (Kd.R_far (p := ⟨gb133, 1, none⟩) (Kd.R_far (p := ⟨gb133, 0, none⟩) (Kd.R_types HO_4.out BK133.out (by decide)) (fun _ hk => hk.2) (.int .i64 ((rd_T64 ((rd_T62 l0_1 x59_2).f1) x66_3).f0))) (fun _ hk => hk.2) (.bool ((rd_T64 ((rd_T62 l0_1 x59_2).f1) x66_3).f1))) (fun _ hk => trivial)⟩, ⟨by (with_reducible repeat (first | apply Kd.R_alloc | apply Kd.R_drewN | apply Kd.R_drew)); exact Kd.R_mono (Kd.R_far (p := ⟨gb133, 1, none⟩) (Kd.R_far (p := ⟨gb133, 0, none⟩) (Kd.R_types HO_5.out BK133.out (by decide)) (fun _ hk => hk.2) (.int .i64 ((rd_T64 ((rd_T62 l0_1 x59_2).f1) x66_3).f0))) (fun _ hk => hk.2) (.bool ((rd_T64 ((rd_T62 l0_1 x59_2).f1) x66_3).f1))) (fun _ hk => trivial)⟩, ⟨by (with_reducible repeat (first | refine blk_drewN ?_ _ | refine blk_drew ?_ | refine blk_alloc ?_ _)); refine blk_far ?_ NB119_133.out _; (with_reducible repeat (first | refine blk_drewN ?_ _ | refine blk_drew ?_ | refine blk_alloc ?_ _)); refine blk_far ?_ NB119_133.out _; (with_reducible repeat (first | refine blk_drewN ?_ _ | refine blk_drew ?_ | refine blk_alloc ?_ _)); exact BK119.out⟩, ⟨by (with_reducible repeat (first | refine blk_drewN ?_ _ | refine blk_drew ?_ | refine blk_alloc ?_ _)); refine blk_far ?_ NB131_133.out _; (with_reducible repeat (first | refine blk_drewN ?_ _ | refine blk_drew ?_ | refine blk_alloc ?_ _)); refine blk_far ?_ NB131_133.out _; (with_reducible repeat (first | refine blk_drewN ?_ _ | refine blk_drew ?_ | refine blk_alloc ?_ _)); exact BK131.out⟩, ⟨by repeat (first | (with_reducible first | exact HB.out | apply b0_ | apply b1_ | apply b2_ | refine below_set ?_ GE119.out | refine below_set ?_ GE131.out | refine below_set ?_ GE133.out) | exact HB.out)⟩⟩
           rw [if_pos c40] at H; have c40b0 : decide (0 ≤ ((rd_T64 ((rd_T62 l0_1 x59_2).f1) x66_3).f0)) = true := decide_eq_true c40; clear c40; by_cases c41 : 0 ≤ ((rd_T64 ((rd_T62 l0_1 x59_2).f1) x66_3).f0)
           rotate_left
           · rw [if_neg c41] at H; exact absurd H (by simp)
           rw [if_pos c41] at H; have c41b0 : decide (0 ≤ ((rd_T64 ((rd_T62 l0_1 x59_2).f1) x66_3).f0)) = true := decide_eq_true c41; clear c41; by_cases c42 : ((rd_T64 ((rd_T62 l0_1 x59_2).f1) x66_3).f0) < (x4_3.length : Int)
           rotate_left
           · rw [if_neg c42] at H; exact absurd H (by simp)
           rw [if_pos c42] at H; have c42b0 : decide (((rd_T64 ((rd_T62 l0_1 x59_2).f1) x66_3).f0) < (x4_3.length : Int)) = true := decide_eq_true c42; clear c42; obtain ⟨y135, hy135⟩ : ∃ y_ : List Int, y_ = (x4_3.set (((rd_T64 ((rd_T62 l0_1 x59_2).f1) x66_3).f0) : Int).toNat (wrap64 ((rd x4_3 ((rd_T64 ((rd_T62 l0_1 x59_2).f1) x66_3).f0)) + 1))) := ⟨_, rfl⟩
           replace H : (if ((rd_T64 ((rd_T62 l0_1 x59_2).f1) x66_3).f0) < (x5_3.length : Int) then (if rdOf false x5_3 ((rd_T64 ((rd_T62 l0_1 x59_2).f1) x66_3).f0) = true then (cow_Check.l1 k3 y135 (x5_3.set (((rd_T64 ((rd_T62 l0_1 x59_2).f1) x66_3).f0) : Int).toNat true) l0_1 (l0_1.length : Int) x59_2 ((rd_T62 l0_1 x59_2).f1) (((rd_T62 l0_1 x59_2).f1).length : Int) (wrap64 (x66_3 + 1)) a0_0 l0_1 l0_2 a0_3) else (cow_Check.l1 k3 y135 (x5_3.set (((rd_T64 ((rd_T62 l0_1 x59_2).f1) x66_3).f0) : Int).toNat ((rd_T64 ((rd_T62 l0_1 x59_2).f1) x66_3).f1)) l0_1 (l0_1.length : Int) x59_2 ((rd_T62 l0_1 x59_2).f1) (((rd_T62 l0_1 x59_2).f1).length : Int) (wrap64 (x66_3 + 1)) a0_0 l0_1 l0_2 a0_3)) else (none)) = some r := by first | (rw [hy135]; with_reducible exact H) | (have H2_ := (Option.bind_some _ _).symm.trans H; rw [hy135]; with_reducible exact H2_) | (have H2_ := (Option.bind_some _ _).symm.trans H; with_reducible exact H2_) | with_reducible exact H | (rw [hy135]; exact H) | exact H
           have Ny135 := Aside0.mk hy135; clear hy135; by_cases c44 : ((rd_T64 ((rd_T62 l0_1 x59_2).f1) x66_3).f0) < (x5_3.length : Int)
           rotate_left
           · rw [if_neg c44] at H; exact absurd H (by simp)
           rw [if_pos c44] at H; have c44b0 : decide (((rd_T64 ((rd_T62 l0_1 x59_2).f1) x66_3).f0) < (x5_3.length : Int)) = true := decide_eq_true c44; clear c44; obtain ⟨bq45, hbq45⟩ : ∃ b_ : Bool, b_ = (rdOf false x5_3 ((rd_T64 ((rd_T62 l0_1 x59_2).f1) x66_3).f0)) := ⟨_, rfl⟩
           replace H : (if bq45 = true then (cow_Check.l1 k3 y135 (x5_3.set (((rd_T64 ((rd_T62 l0_1 x59_2).f1) x66_3).f0) : Int).toNat true) l0_1 (l0_1.length : Int) x59_2 ((rd_T62 l0_1 x59_2).f1) (((rd_T62 l0_1 x59_2).f1).length : Int) (wrap64 (x66_3 + 1)) a0_0 l0_1 l0_2 a0_3) else (cow_Check.l1 k3 y135 (x5_3.set (((rd_T64 ((rd_T62 l0_1 x59_2).f1) x66_3).f0) : Int).toNat ((rd_T64 ((rd_T62 l0_1 x59_2).f1) x66_3).f1)) l0_1 (l0_1.length : Int) x59_2 ((rd_T62 l0_1 x59_2).f1) (((rd_T62 l0_1 x59_2).f1).length : Int) (wrap64 (x66_3 + 1)) a0_0 l0_1 l0_2 a0_3)) = some r := by rw [← hbq45] at H; exact H
           have Nbq45 := Aside0.mk hbq45; clear hbq45; by_cases c46 : bq45 = true
           rotate_left
           ·
            replace c46 := Bool.eq_false_iff.mpr c46; subst c46
            have H1 : (cow_Check.l1 k3 y135 (x5_3.set (((rd_T64 ((rd_T62 l0_1 x59_2).f1) x66_3).f0) : Int).toNat ((rd_T64 ((rd_T62 l0_1 x59_2).f1) x66_3).f1)) l0_1 (l0_1.length : Int) x59_2 ((rd_T62 l0_1 x59_2).f1) (((rd_T62 l0_1 x59_2).f1).length : Int) (wrap64 (x66_3 + 1)) a0_0 l0_1 l0_2 a0_3) = some r := by rw [if_neg (show ¬ (false = true) by decide)] at H; exact H
            clear H; have H := H1; clear H1; obtain ⟨y138, hy138⟩ : ∃ y_ : List Bool, y_ = (x5_3.set (((rd_T64 ((rd_T62 l0_1 x59_2).f1) x66_3).f0) : Int).toNat ((rd_T64 ((rd_T62 l0_1 x59_2).f1) x66_3).f1)) := ⟨_, rfl⟩
            replace H : (cow_Check.l1 k3 y135 y138 l0_1 (l0_1.length : Int) x59_2 ((rd_T62 l0_1 x59_2).f1) (((rd_T62 l0_1 x59_2).f1).length : Int) (wrap64 (x66_3 + 1)) a0_0 l0_1 l0_2 a0_3) = some r := by first | (rw [hy138]; with_reducible exact H) | (have H2_ := (Option.bind_some _ _).symm.trans H; rw [hy138]; with_reducible exact H2_) | (have H2_ := (Option.bind_some _ _).symm.trans H; with_reducible exact H2_) | with_reducible exact H | (rw [hy138]; exact H) | exact H
            have Ny138 := Aside0.mk hy138; clear hy138; have H' := Aside0.mk H; clear H; have p132 : 0 ≤ (x66_3 : Int) := of_decide_eq_true (by first | (with_reducible assumption) | assumption); have q132 : x66_3 < (((rd_T62 l0_1 x59_2).f1).length : Int) := of_decide_eq_true (by first | (with_reducible assumption) | assumption); obtain ⟨ad132, e132, hx132_0, hx132_1⟩ := at_T64 HR130_1.out x66_3 p132 q132
            (try rw [← Nbq45.out] at hx132_1)
            cases e132; replace hx132_0 := (HB.out.cell (World.block_lt_of_cell? w _ hx132_0)).trans hx132_0; replace hx132_1 := (HB.out.cell (World.block_lt_of_cell? w _ hx132_1)).trans hx132_1; replace p132 := eq_true p132; replace q132 := eq_true q132
            try go_wp2_with (first | ((with_reducible refine gate_dst (N := 9) rfl ?_); (try (refine gate_guard (by rfl) ?_; dsimp only)); refine box_event ?hg (N := 9) ?hd (cs := #[.int .i64 0, .bool false]) (t := 64) ?hr ?_; (case hd => rfl); (case hg => rfl); (case hr => first | (go_simp; done) | (go_simp; rfl)); intro gb133 hg w61 hbox hb; have n0_ := Aside0.mk (Kd.R_below (by (with_reducible repeat (first | apply Kd.R_alloc | apply Kd.R_drewN | apply Kd.R_drew)); exact HO_4.out) hb); have n1_ := Aside0.mk (Kd.R_below (by (with_reducible repeat (first | apply Kd.R_alloc | apply Kd.R_drewN | apply Kd.R_drew)); exact HO_5.out) hb); have n2_ := Aside0.mk (blk_below (g := gb119) (o := .cells #[.int .i64 a0_0, .slice (some ad130) l0_1.length c0_1, .slice A0_2 l0_2.length c0_2, .int .i64 a0_3] 27 (0, 0)) (by (with_reducible repeat (first | refine blk_drewN ?_ _ | refine blk_drew ?_ | refine blk_alloc ?_ _)); exact BK119.out) hb); have n3_ := Aside0.mk (blk_below (g := gb131) (o := .cells #[.bool ((rd_T62 l0_1 x59_2).f0), .slice (some ad132) ((rd_T62 l0_1 x59_2).f1).length c130_1] 62 (0, 0)) (by (with_reducible repeat (first | refine blk_drewN ?_ _ | refine blk_drew ?_ | refine blk_alloc ?_ _)); exact BK131.out) hb); have n4_ := Aside0.mk (below_step (by repeat (first | (with_reducible first | exact HB.out | apply b0_ | apply b1_ | apply b2_ | refine below_set ?_ GE119.out | refine below_set ?_ GE131.out) | exact HB.out)) hb); have n5_ := Aside0.mk (hbox); have n6_ := Aside0.mk ((by rw [hg]; exact (below_size (by repeat (first | (with_reducible first | exact HB.out | apply b0_ | apply b1_ | apply b2_ | refine below_set ?_ GE119.out | refine below_set ?_ GE131.out) | exact HB.out))) : w.heap.size ≤ gb133)); have n7_ := Aside0.mk ((by rw [hg]; exact (below_size (by repeat (first | (with_reducible first | exact HB.out | apply b0_ | apply b1_ | apply b2_ | refine below_set ?_ GE119.out | refine below_set ?_ GE131.out) | exact HB.out))) : w.heap.size ≤ gb133)); have n8_ := Aside0.mk ((by rw [hg]; exact Nat.ne_of_lt (blk_lt (g := gb119) (o := .cells #[.int .i64 a0_0, .slice (some ad130) l0_1.length c0_1, .slice A0_2 l0_2.length c0_2, .int .i64 a0_3] 27 (0, 0)) (by (with_reducible repeat (first | refine blk_drewN ?_ _ | refine blk_drew ?_ | refine blk_alloc ?_ _)); exact BK119.out)) : gb119 ≠ gb133)); have n9_ := Aside0.mk ((by rw [hg]; exact Nat.ne_of_gt (blk_lt (g := gb119) (o := .cells #[.int .i64 a0_0, .slice (some ad130) l0_1.length c0_1, .slice A0_2 l0_2.length c0_2, .int .i64 a0_3] 27 (0, 0)) (by (with_reducible repeat (first | refine blk_drewN ?_ _ | refine blk_drew ?_ | refine blk_alloc ?_ _)); exact BK119.out)) : gb133 ≠ gb119)); have n10_ := Aside0.mk ((by rw [hg]; exact Nat.ne_of_lt (blk_lt (g := gb131) (o := .cells #[.bool ((rd_T62 l0_1 x59_2).f0), .slice (some ad132) ((rd_T62 l0_1 x59_2).f1).length c130_1] 62 (0, 0)) (by (with_reducible repeat (first | refine blk_drewN ?_ _ | refine blk_drew ?_ | refine blk_alloc ?_ _)); exact BK131.out)) : gb131 ≠ gb133)); have n11_ := Aside0.mk ((by rw [hg]; exact Nat.ne_of_gt (blk_lt (g := gb131) (o := .cells #[.bool ((rd_T62 l0_1 x59_2).f0), .slice (some ad132) ((rd_T62 l0_1 x59_2).f1).length c130_1] 62 (0, 0)) (by (with_reducible repeat (first | refine blk_drewN ?_ _ | refine blk_drew ?_ | refine blk_alloc ?_ _)); exact BK131.out)) : gb133 ≠ gb131)); clear HO_4; clear HO_5; clear BK119; clear BK131; clear HB; have HO_4 := n0_; have HO_5 := n1_; have BK119 := n2_; have BK131 := n3_; have HB := n4_; have BK133 := n5_; have GW133 := n6_; have GE133 := n7_; have NB119_133 := n8_; have NB133_119 := n9_; have NB131_133 := n10_; have NB133_131 := n11_; clear n0_ n1_ n2_ n3_ n4_ n5_ n6_ n7_ n8_ n9_ n10_ n11_; clear hb hbox hg; have hnb62 := NB133_119.out; have hnc62 := NB119_133.out; have hnb63 := NB133_131.out; have hnc63 := NB131_133.out; have hcz64_0 : w61.cell? ⟨gb133, 0, none⟩ = some (.int .i64 0) := (blk_cell BK133.out 0).trans rfl; have hcz64_1 : w61.cell? ⟨gb133, 1, none⟩ = some (.bool false) := (blk_cell BK133.out 1).trans rfl; have hfz64_0 := blk_frozen BK133.out 0; have hfz64_1 := blk_frozen BK133.out 1) | ((with_reducible refine gate_store (t := 64) (p := 9) rfl ?_); refine store_event (t := 64) (p := 9) (v := ?vo_w65) (w1 := ((w61.setCell ⟨gb133, 0, none⟩ (.int .i64 ((rd_T64 ((rd_T62 l0_1 x59_2).f1) x66_3).f0))).setCell ⟨gb133, 1, none⟩ (.bool ((rd_T64 ((rd_T62 l0_1 x59_2).f1) x66_3).f1)))) ?hg ?ho ?hn ?hr ?_; (case ho => rfl); (case hg => rfl); (case hn => rfl); (case hr => first | (go_simp; done) | (go_simp; rfl)); intro w65 hw; have n0_ : Aside0 (Kd.R (Kd.int .i64) 3 w65 w.heap.size (fun _ => True) v125 x4_3) := ⟨(by rw [hw]; exact (by (with_reducible repeat (first | apply Kd.R_alloc | apply Kd.R_drewN | apply Kd.R_drew)); exact Kd.R_mono (Kd.R_far (p := ⟨gb133, 1, none⟩) (Kd.R_far (p := ⟨gb133, 0, none⟩) (Kd.R_types HO_4.out BK133.out (by decide)) (fun _ hk => hk.2) (.int .i64 ((rd_T64 ((rd_T62 l0_1 x59_2).f1) x66_3).f0))) (fun _ hk => hk.2) (.bool ((rd_T64 ((rd_T62 l0_1 x59_2).f1) x66_3).f1))) (fun _ hk => trivial)))⟩; have n1_ : Aside0 (Kd.R Kd.bool 4 w65 w.heap.size (fun _ => True) v128 x5_3) := ⟨(by rw [hw]; exact (by (with_reducible repeat (first | apply Kd.R_alloc | apply Kd.R_drewN | apply Kd.R_drew)); exact Kd.R_mono (Kd.R_far (p := ⟨gb133, 1, none⟩) (Kd.R_far (p := ⟨gb133, 0, none⟩) (Kd.R_types HO_5.out BK133.out (by decide)) (fun _ hk => hk.2) (.int .i64 ((rd_T64 ((rd_T62 l0_1 x59_2).f1) x66_3).f0))) (fun _ hk => hk.2) (.bool ((rd_T64 ((rd_T62 l0_1 x59_2).f1) x66_3).f1))) (fun _ hk => trivial)))⟩; have n2_ : Aside0 (w65.heap[gb119]? = some (.cells #[.int .i64 a0_0, .slice (some ad130) l0_1.length c0_1, .slice A0_2 l0_2.length c0_2, .int .i64 a0_3] 27 (0, 0))) := ⟨(by rw [hw]; exact (by (with_reducible repeat (first | refine blk_drewN ?_ _ | refine blk_drew ?_ | refine blk_alloc ?_ _)); refine blk_far ?_ NB119_133.out _; (with_reducible repeat (first | refine blk_drewN ?_ _ | refine blk_drew ?_ | refine blk_alloc ?_ _)); refine blk_far ?_ NB119_133.out _; (with_reducible repeat (first | refine blk_drewN ?_ _ | refine blk_drew ?_ | refine blk_alloc ?_ _)); exact BK119.out))⟩; have n3_ : Aside0 (w65.heap[gb131]? = some (.cells #[.bool ((rd_T62 l0_1 x59_2).f0), .slice (some ad132) ((rd_T62 l0_1 x59_2).f1).length c130_1] 62 (0, 0))) := ⟨(by rw [hw]; exact (by (with_reducible repeat (first | refine blk_drewN ?_ _ | refine blk_drew ?_ | refine blk_alloc ?_ _)); refine blk_far ?_ NB131_133.out _; (with_reducible repeat (first | refine blk_drewN ?_ _ | refine blk_drew ?_ | refine blk_alloc ?_ _)); refine blk_far ?_ NB131_133.out _; (with_reducible repeat (first | refine blk_drewN ?_ _ | refine blk_drew ?_ | refine blk_alloc ?_ _)); exact BK131.out))⟩; have n4_ : Aside0 (w65.heap[gb133]? = some (.cells #[.int .i64 ((rd_T64 ((rd_T62 l0_1 x59_2).f1) x66_3).f0), .bool ((rd_T64 ((rd_T62 l0_1 x59_2).f1) x66_3).f1)] 64 (0, 0))) := ⟨(by rw [hw]; exact (by (with_reducible repeat (first | refine blk_drewN ?_ _ | refine blk_drew ?_ | refine blk_alloc ?_ _)); refine blk_put (cs := #[.int .i64 ((rd_T64 ((rd_T62 l0_1 x59_2).f1) x66_3).f0), .bool false]) ?_ 1 _ rfl; (with_reducible repeat (first | refine blk_drewN ?_ _ | refine blk_drew ?_ | refine blk_alloc ?_ _)); refine blk_put (cs := #[.int .i64 0, .bool false]) ?_ 0 _ rfl; (with_reducible repeat (first | refine blk_drewN ?_ _ | refine blk_drew ?_ | refine blk_alloc ?_ _)); exact BK133.out))⟩; have n5_ : Aside0 (Below w.heap.size w w65) := ⟨(by rw [hw]; exact (by repeat (first | (with_reducible first | exact HB.out | apply b0_ | apply b1_ | apply b2_ | refine below_set ?_ GE119.out | refine below_set ?_ GE131.out | refine below_set ?_ GE133.out) | exact HB.out)))⟩; clear hw; clear HO_4; clear HO_5; clear BK119; clear BK131; clear BK133; clear HB; have HO_4 := n0_; have HO_5 := n1_; have BK119 := n2_; have BK131 := n3_; have BK133 := n4_; have HB := n5_; clear n0_ n1_ n2_ n3_ n4_ n5_; have hcz66_0 : w65.cell? ⟨gb133, 0, none⟩ = some (.int .i64 ((rd_T64 ((rd_T62 l0_1 x59_2).f1) x66_3).f0)) := (blk_cell BK133.out 0).trans rfl; have hcz66_1 : w65.cell? ⟨gb133, 1, none⟩ = some (.bool ((rd_T64 ((rd_T62 l0_1 x59_2).f1) x66_3).f1)) := (blk_cell BK133.out 1).trans rfl; have hfz66_0 := blk_frozen BK133.out 0; have hfz66_1 := blk_frozen BK133.out 1; obtain ⟨Ao67, co67, eo67⟩ := Kd.R_slice HO_4.out; subst eo67; have p134 : 0 ≤ (((rd_T64 ((rd_T62 l0_1 x59_2).f1) x66_3).f0) : Int) := of_decide_eq_true (by first | (with_reducible assumption) | assumption); have q134 : ((rd_T64 ((rd_T62 l0_1 x59_2).f1) x66_3).f0) < (x4_3.length : Int) := of_decide_eq_true (by first | (with_reducible assumption) | assumption); obtain ⟨ad134, e134, hx134_0⟩ := Kd.at_int (Kd.R_reads' HO_4.out).2.2 ((rd_T64 ((rd_T62 l0_1 x59_2).f1) x66_3).f0) p134 q134; cases e134; replace p134 := eq_true p134; replace q134 := eq_true q134; have p43 : 0 ≤ (((rd_T64 ((rd_T62 l0_1 x59_2).f1) x66_3).f0) : Int) := of_decide_eq_true (by first | (with_reducible assumption) | assumption); have q43 : (((rd_T64 ((rd_T62 l0_1 x59_2).f1) x66_3).f0) : Int) < ((x4_3.length : Int) : Int) := of_decide_eq_true (by first | (with_reducible assumption) | assumption); obtain ⟨go43, co43, eo43, gb43, gl43, cl43, HG43⟩ := Kd.R_form HO_4.out (by omega); (first | cases eo43 | (injection eo43 with ea_ en_ ec_; (first | subst ea_ | (injection ea_ with ea_; subst ea_)); subst ec_; clear en_)); have GB43 := Aside0.mk gb43; have GG43 := Aside0.mk HG43; clear gb43 gl43 HG43; (first | simp only [add_plain] at hx134_0 | skip); obtain ⟨hx43_0, hf43_0⟩ := Kd.R_celln 0 HO_4.out (((rd_T64 ((rd_T62 l0_1 x59_2).f1) x66_3).f0) : Int) p43 q43; replace p43 := eq_true p43; replace q43 := eq_true q43; obtain ⟨hy68_, hz68_⟩ := Kd.R_celln 0 HO_4.out (((rd_T64 ((rd_T62 l0_1 x59_2).f1) x66_3).f0) : Int) (of_decide_eq_true (by first | (with_reducible assumption) | assumption)) (of_decide_eq_true (by first | (with_reducible assumption) | assumption)); have HP68 := Kd.R_putg HO_4.out (((rd_T64 ((rd_T62 l0_1 x59_2).f1) x66_3).f0) : Int) (wrap64 ((rd x4_3 ((rd_T64 ((rd_T62 l0_1 x59_2).f1) x66_3).f0)) + 1))) | ((with_reducible refine gate_store (t := 3) (p := 79) rfl ?_); refine store_event (t := 3) (p := 79) (v := ?vo_w69) (w1 := (w65.setCell ⟨go43, (((rd_T64 ((rd_T62 l0_1 x59_2).f1) x66_3).f0) : Int).toNat, none⟩ (.int .i64 (wrap64 ((rd x4_3 ((rd_T64 ((rd_T62 l0_1 x59_2).f1) x66_3).f0)) + 1))))) ?hg ?ho ?hn ?hr ?_; (case ho => rfl); (case hg => rfl); (case hn => rfl); (case hr => first | (go_simp; done) | (go_simp; rfl)); intro w69 hw; have hg : w65.grownBy w69 (some go43) := (by rw [hw]; exact HP68.2); have hp_ : Kd.R (Kd.int .i64) 3 w69 w.heap.size (fun _ => True) (.slice (some ⟨go43, 0, none⟩) x4_3.length co67) y135 := (by rw [hw, Ny135.out]; exact HP68.1); clear HP68; have n0_ := Aside0.mk (hp_); have n1_ := Aside0.mk (Kd.R_over' (v := (.slice (some ⟨go43, 0, none⟩) x4_3.length co67)) (by (with_reducible repeat (first | apply Kd.R_alloc | apply Kd.R_drewN | apply Kd.R_drew)); exact HO_5.out) (Kd.R_typed HO_4.out) (by decide) hg); have n2_ := Aside0.mk (blk_grown (g := gb119) (o := .cells #[.int .i64 a0_0, .slice (some ad130) l0_1.length c0_1, .slice A0_2 l0_2.length c0_2, .int .i64 a0_3] 27 (0, 0)) (by (with_reducible repeat (first | refine blk_drewN ?_ _ | refine blk_drew ?_ | refine blk_alloc ?_ _)); exact BK119.out) hg (Kd.R_ne HO_4.out BK119.out (by decide))); have n3_ := Aside0.mk (blk_grown (g := gb131) (o := .cells #[.bool ((rd_T62 l0_1 x59_2).f0), .slice (some ad132) ((rd_T62 l0_1 x59_2).f1).length c130_1] 62 (0, 0)) (by (with_reducible repeat (first | refine blk_drewN ?_ _ | refine blk_drew ?_ | refine blk_alloc ?_ _)); exact BK131.out) hg (Kd.R_ne HO_4.out BK131.out (by decide))); have n4_ := Aside0.mk (blk_grown (g := gb133) (o := .cells #[.int .i64 ((rd_T64 ((rd_T62 l0_1 x59_2).f1) x66_3).f0), .bool ((rd_T64 ((rd_T62 l0_1 x59_2).f1) x66_3).f1)] 64 (0, 0)) (by (with_reducible repeat (first | refine blk_drewN ?_ _ | refine blk_drew ?_ | refine blk_alloc ?_ _)); exact BK133.out) hg (Kd.R_ne HO_4.out BK133.out (by decide))); have n5_ := Aside0.mk ((by rw [hw]; exact below_set (HB.out) GB43.out : Below w.heap.size w w69)); clear HO_4; clear HO_5; clear BK119; clear BK131; clear BK133; clear HB; have HO_4 := n0_; have HO_5 := n1_; have BK119 := n2_; have BK131 := n3_; have BK133 := n4_; have HB := n5_; clear n0_ n1_ n2_ n3_ n4_ n5_; clear hg hw hp_))
            have n0_ := Aside0.mk (Kd.R_drew HO_4.out); have n1_ := Aside0.mk (Kd.R_drew HO_5.out); have n2_ := Aside0.mk (blk_drew BK119.out); have n3_ := Aside0.mk (blk_drew BK131.out); have n4_ := Aside0.mk (blk_drew BK133.out); have n5_ := Aside0.mk (b2_ HB.out); clear HO_4; clear HO_5; clear BK119; clear BK131; clear BK133; clear HB; have HO_4 := n0_; have HO_5 := n1_; have BK119 := n2_; have BK131 := n3_
            have BK133 := n4_; have HB := n5_; clear n0_ n1_ n2_ n3_ n4_ n5_; obtain ⟨Ao71, co71, eo71⟩ := Kd.R_slice HO_5.out
            (first | subst eo71 | (injection eo71 with f1_ f2_ f3_; have f4_ := f1_.symm; have f5_ := f3_.symm; clear f1_ f2_ f3_; subst f4_; subst f5_))
            have p136 : 0 ≤ (((rd_T64 ((rd_T62 l0_1 x59_2).f1) x66_3).f0) : Int) := of_decide_eq_true (by first | (with_reducible assumption) | assumption); have q136 : ((rd_T64 ((rd_T62 l0_1 x59_2).f1) x66_3).f0) < (x5_3.length : Int) := of_decide_eq_true (by first | (with_reducible assumption) | assumption)
            obtain ⟨ad136, e136, hx136_0⟩ := Kd.at_bool (Kd.R_reads' HO_5.out).2.2 ((rd_T64 ((rd_T62 l0_1 x59_2).f1) x66_3).f0) p136 q136
            (try rw [← Nbq45.out] at hx136_0)
            cases e136; replace p136 := eq_true p136; replace q136 := eq_true q136; have p60 : 0 ≤ (((rd_T64 ((rd_T62 l0_1 x59_2).f1) x66_3).f0) : Int) := of_decide_eq_true (by first | (with_reducible assumption) | assumption); have q60 : (((rd_T64 ((rd_T62 l0_1 x59_2).f1) x66_3).f0) : Int) < ((x5_3.length : Int) : Int) := of_decide_eq_true (by first | (with_reducible assumption) | assumption)
            obtain ⟨go60, co60, eo60, gb60, gl60, cl60, HG60⟩ := Kd.R_form HO_5.out (by omega)
            (first | cases eo60 | (injection eo60 with ea_ en_ ec_; (first | subst ea_ | (injection ea_ with ea_; subst ea_)); subst ec_; clear en_))
            have GB60 := Aside0.mk gb60; have GG60 := Aside0.mk HG60; clear gb60 gl60 HG60
            (first | simp only [add_plain] at hx136_0 | skip)
            obtain ⟨hx60_0, hf60_0⟩ := Kd.R_celln false HO_5.out (((rd_T64 ((rd_T62 l0_1 x59_2).f1) x66_3).f0) : Int) p60 q60; replace p60 := eq_true p60; replace q60 := eq_true q60; have HP72 := Kd.R_putn HO_5.out (((rd_T64 ((rd_T62 l0_1 x59_2).f1) x66_3).f0) : Int) ((rd_T64 ((rd_T62 l0_1 x59_2).f1) x66_3).f1); rw [← Ny138.out] at HP72; have HQ72 := Aside0.mk HP72; clear HP72
            refine start_ (n := 14) (S := fun w' => w'.cell? ⟨gb133, 0, none⟩ = some (.int .i64 ((rd_T64 ((rd_T62 l0_1 x59_2).f1) x66_3).f0)) ∧ w'.cell? ⟨gb133, 1, none⟩ = some (.bool ((rd_T64 ((rd_T62 l0_1 x59_2).f1) x66_3).f1)) ∧ w'.cell? ⟨go60, (((rd_T64 ((rd_T62 l0_1 x59_2).f1) x66_3).f0)).toNat, none⟩ = some (.bool false)) (ds := [13]) #[F0,F0,F0,F0,F0,F0,F0,F0,F0,F0,F0,F0,F0,F0] (by kernel_rfl) rfl rfl ⟨(blk_cell BK133.out 0).trans rfl, (blk_cell BK133.out 1).trans rfl, hx136_0⟩ (fun hHeld => ?_); refine with_tabW cow_Check.tab16 cow_Check.bits16 (fun HT_ HW_ => ?_)
            generalize w69.drew = w70 at HO_4 HO_5 BK119 BK131 BK133 HB GG60 HQ72 hf60_0 hx136_0 hx60_0 hHeld ⊢; refine pure_ (i := 0) (N := some 80) (v := ?_) (a' := ?_) #[T0,F0,F0,F0,F0,F0,F0,F0,F0,F0,F0,F0,F0,F0] rfl rfl (any_of HT_.out (by kernel_rfl)) (fun _ _ _ h => h) (Or.inl ⟨by rfl, ?_⟩) ?_ ?_
            rotate_left
            · intro w'; go_simp; with_reducible rfl
            rotate_left
            · simp only [Act.put, z0_, z1_, z2_, i64_w, i32_w]; rfl
            refine pure_ (i := 1) (N := some 81) (v := ?_) (a' := ?_) #[T0,T0,F0,F0,F0,F0,F0,F0,F0,F0,F0,F0,F0,F0] rfl rfl (any_of HT_.out (by kernel_rfl)) (fun _ _ _ h => h) (Or.inl ⟨by rfl, ?_⟩) ?_ ?_
            rotate_left
            · intro w'; go_simp; with_reducible rfl
            rotate_left
            · simp only [Act.put, z0_, z1_, z2_, i64_w, i32_w]; rfl
            refine pure_ (i := 3) (N := some 83) (v := ?_) (a' := ?_) #[T0,T0,F0,T0,F0,F0,F0,F0,F0,F0,F0,F0,F0,F0] rfl rfl (any_of HT_.out (by kernel_rfl)) (fun _ _ _ h => h) (Or.inl ⟨by rfl, ?_⟩) ?_ ?_
            rotate_left
            · intro w'; go_simp; with_reducible rfl
            rotate_left
            · simp only [Act.put, z0_, z1_, z2_, i64_w, i32_w]; rfl
            refine pure_ (i := 4) (N := some 84) (v := ?_) (a' := ?_) #[T0,T0,F0,T0,T0,F0,F0,F0,F0,F0,F0,F0,F0,F0] rfl rfl (any_of HT_.out (by kernel_rfl)) (fun _ _ _ h => h) (Or.inl ⟨by rfl, ?_⟩) ?_ ?_
            rotate_left
            · intro w'; go_simp; with_reducible rfl
            rotate_left
            · simp only [Act.put, z0_, z1_, z2_, i64_w, i32_w]; rfl
            refine take_ (i := 2) (N := some 82) (v := ?_) (a' := ?_) #[T0,T0,T0,T0,T0,F0,F0,F0,F0,F0,F0,F0,F0,F0] rfl rfl (take_ofW HT_.out HW_.out (by kernel_rfl)) (fun _ _ _ h => h) (Or.inl ⟨by rfl, ?_⟩) hHeld ?_ ?_
            rotate_left
            ·
             rintro w' ⟨s0, s1, s2⟩
             go_simp; with_reducible rfl
            rotate_left
            · simp only [Act.put, z0_, z1_, z2_, i64_w, i32_w]; rfl
            refine take_ (i := 5) (N := some 85) (v := ?_) (a' := ?_) #[T0,T0,T0,T0,T0,T0,F0,F0,F0,F0,F0,F0,F0,F0] rfl rfl (take_ofW HT_.out HW_.out (by kernel_rfl)) (fun _ _ _ h => h) (Or.inl ⟨by rfl, ?_⟩) hHeld ?_ ?_
            rotate_left
            ·
             rintro w' ⟨s0, s1, s2⟩
             go_simp; with_reducible rfl
            rotate_left
            · simp only [Act.put, z0_, z1_, z2_, i64_w, i32_w]; rfl
            refine pure_ (i := 6) (N := some 86) (v := ?_) (a' := ?_) #[T0,T0,T0,T0,T0,T0,T0,F0,F0,F0,F0,F0,F0,F0] rfl rfl (any_of HT_.out (by kernel_rfl)) (fun _ _ _ h => h) (Or.inl ⟨by rfl, ?_⟩) ?_ ?_
            rotate_left
            · intro w'; go_simp; with_reducible rfl
            rotate_left
            · simp only [Act.put, z0_, z1_, z2_, i64_w, i32_w]; rfl
            refine take_ (i := 7) (N := some 87) (v := ?_) (a' := ?_) #[T0,T0,T0,T0,T0,T0,T0,T0,F0,F0,F0,F0,F0,F0] rfl rfl (take_ofW HT_.out HW_.out (by kernel_rfl)) (fun _ _ _ h => h) (Or.inl ⟨by rfl, ?_⟩) hHeld ?_ ?_
            rotate_left
            ·
             rintro w' ⟨s0, s1, s2⟩
             go_simp; with_reducible rfl
            rotate_left
            · simp only [Act.put, z0_, z1_, z2_, i64_w, i32_w]; rfl
            refine pure_ (i := 8) (N := some 88) (v := ?_) (a' := ?_) #[T0,T0,T0,T0,T0,T0,T0,T0,T0,F0,F0,F0,F0,F0] rfl rfl (any_of HT_.out (by kernel_rfl)) (fun _ _ _ h => h) (Or.inl ⟨by rfl, ?_⟩) ?_ ?_
            rotate_left
            · intro w'; go_simp; with_reducible rfl
            rotate_left
            · simp only [Act.put, z0_, z1_, z2_, i64_w, i32_w]; rfl
            refine pure_ (i := 9) (N := some 89) (v := ?_) (a' := ?_) #[T0,T0,T0,T0,T0,T0,T0,T0,T0,T0,F0,F0,F0,F0] rfl rfl (any_of HT_.out (by kernel_rfl)) (fun _ _ _ h => h) (Or.inl ⟨by rfl, ?_⟩) ?_ ?_
            rotate_left
            · intro w'; go_simp; with_reducible rfl
            rotate_left
            · simp only [Act.put, z0_, z1_, z2_, i64_w, i32_w]; rfl
            refine take_ (i := 10) (N := some 90) (v := ?_) (a' := ?_) #[T0,T0,T0,T0,T0,T0,T0,T0,T0,T0,T0,F0,F0,F0] rfl rfl (take_ofW HT_.out HW_.out (by kernel_rfl)) (fun _ _ _ h => h) (Or.inl ⟨by rfl, ?_⟩) hHeld ?_ ?_
            rotate_left
            ·
             rintro w' ⟨s0, s1, s2⟩
             go_simp; with_reducible rfl
            rotate_left
            · simp only [Act.put, z0_, z1_, z2_, i64_w, i32_w]; rfl
            refine pure_ (i := 11) (N := some 91) (v := ?_) (a' := ?_) #[T0,T0,T0,T0,T0,T0,T0,T0,T0,T0,T0,T0,F0,F0] rfl rfl (any_of HT_.out (by kernel_rfl)) (fun _ _ _ h => h) (Or.inl ⟨by rfl, ?_⟩) ?_ ?_
            rotate_left
            · intro w'; go_simp; with_reducible rfl
            rotate_left
            · simp only [Act.put, z0_, z1_, z2_, i64_w, i32_w]; rfl
            refine pure_ (i := 12) (N := some 92) (v := ?_) (a' := ?_) #[T0,T0,T0,T0,T0,T0,T0,T0,T0,T0,T0,T0,T0,F0] rfl rfl (any_of HT_.out (by kernel_rfl)) (fun _ _ _ h => h) (Or.inl ⟨by rfl, ?_⟩) ?_ ?_
            rotate_left
            · intro w'; go_simp; with_reducible rfl
            rotate_left
            · simp only [Act.put, z0_, z1_, z2_, i64_w, i32_w]; rfl
            refine last_ (i := 13) (N := none) #[T0,T0,T0,T0,T0,T0,T0,T0,T0,T0,T0,T0,T0,T0] rfl rfl (one_of HT_.out (by kernel_rfl)) (by decide) (fun K hK => ?_); refine skip_ (w1 := ?_) (by rfl) rfl ?_ ?_
            rotate_left
            · go_simp; rfl
            refine hK.out _ _ ?_; clear hK K; refine done_ (done_of HT_.out (by kernel_rfl)) ?_
            try go_wp2
            go_roundg k3
            case measure => have := HJ1.out; have := HK2.out; have := HK3.out; omega
            case rel => (try rw [← Nbq45.out]); exact ⟨(y135), (y138), (wrap64 (x66_3 + 1)), (by first | rfl | (simp; done) | (simp [*]; done)), H', ⟨by have := HJ1.out; have := HK2.out; have := HK3.out; omega⟩, ⟨by (with_reducible repeat (first | apply Kd.R_alloc | apply Kd.R_drewN | apply Kd.R_drew)); exact Kd.R_mono (Kd.R_far (p := ⟨go60, (((rd_T64 ((rd_T62 l0_1 x59_2).f1) x66_3).f0) : Int).toNat, none⟩) (Kd.R_types HO_4.out GG60.out (by decide)) (fun _ hk => hk.2) (.bool ((rd_T64 ((rd_T62 l0_1 x59_2).f1) x66_3).f1))) (fun _ hk => trivial)⟩, ⟨by (with_reducible repeat (first | apply Kd.R_alloc | apply Kd.R_drewN | apply Kd.R_drew)); exact HQ72.out⟩, ⟨by (with_reducible repeat (first | refine blk_drewN ?_ _ | refine blk_drew ?_ | refine blk_alloc ?_ _)); refine blk_far ?_ (by have h_ := Kd.R_ne HO_5.out BK119.out (by decide); intro e_; exact h_ (by rw [e_]; rfl)) _; (with_reducible repeat (first | refine blk_drewN ?_ _ | refine blk_drew ?_ | refine blk_alloc ?_ _)); exact BK119.out⟩, ⟨by (with_reducible repeat (first | refine blk_drewN ?_ _ | refine blk_drew ?_ | refine blk_alloc ?_ _)); refine blk_far ?_ (by have h_ := Kd.R_ne HO_5.out BK131.out (by decide); intro e_; exact h_ (by rw [e_]; rfl)) _; (with_reducible repeat (first | refine blk_drewN ?_ _ | refine blk_drew ?_ | refine blk_alloc ?_ _)); exact BK131.out⟩, ⟨by repeat (first | (with_reducible first | exact HB.out | apply b0_ | apply b1_ | apply b2_ | refine below_set ?_ GB60.out | refine below_set ?_ GE119.out | refine below_set ?_ GE131.out | refine below_set ?_ GE133.out) | exact HB.out)⟩⟩
           subst c46
           have H1 : (cow_Check.l1 k3 y135 (x5_3.set (((rd_T64 ((rd_T62 l0_1 x59_2).f1) x66_3).f0) : Int).toNat true) l0_1 (l0_1.length : Int) x59_2 ((rd_T62 l0_1 x59_2).f1) (((rd_T62 l0_1 x59_2).f1).length : Int) (wrap64 (x66_3 + 1)) a0_0 l0_1 l0_2 a0_3) = some r := by rw [if_pos rfl] at H; exact H
           clear H; have H := H1; clear H1; obtain ⟨y137, hy137⟩ : ∃ y_ : List Bool, y_ = (x5_3.set (((rd_T64 ((rd_T62 l0_1 x59_2).f1) x66_3).f0) : Int).toNat true) := ⟨_, rfl⟩
           replace H : (cow_Check.l1 k3 y135 y137 l0_1 (l0_1.length : Int) x59_2 ((rd_T62 l0_1 x59_2).f1) (((rd_T62 l0_1 x59_2).f1).length : Int) (wrap64 (x66_3 + 1)) a0_0 l0_1 l0_2 a0_3) = some r := by first | (rw [hy137]; with_reducible exact H) | (have H2_ := (Option.bind_some _ _).symm.trans H; rw [hy137]; with_reducible exact H2_) | (have H2_ := (Option.bind_some _ _).symm.trans H; with_reducible exact H2_) | with_reducible exact H | (rw [hy137]; exact H) | exact H
           have Ny137 := Aside0.mk hy137; clear hy137; have H' := Aside0.mk H; clear H; have p132 : 0 ≤ (x66_3 : Int) := of_decide_eq_true (by first | (with_reducible assumption) | assumption); have q132 : x66_3 < (((rd_T62 l0_1 x59_2).f1).length : Int) := of_decide_eq_true (by first | (with_reducible assumption) | assumption); obtain ⟨ad132, e132, hx132_0, hx132_1⟩ := at_T64 HR130_1.out x66_3 p132 q132
           (try rw [← Nbq45.out] at hx132_1)
           cases e132; replace hx132_0 := (HB.out.cell (World.block_lt_of_cell? w _ hx132_0)).trans hx132_0; replace hx132_1 := (HB.out.cell (World.block_lt_of_cell? w _ hx132_1)).trans hx132_1; replace p132 := eq_true p132; replace q132 := eq_true q132
           try go_wp2_with (first | ((with_reducible refine gate_dst (N := 9) rfl ?_); (try (refine gate_guard (by rfl) ?_; dsimp only)); refine box_event ?hg (N := 9) ?hd (cs := #[.int .i64 0, .bool false]) (t := 64) ?hr ?_; (case hd => rfl); (case hg => rfl); (case hr => first | (go_simp; done) | (go_simp; rfl)); intro gb133 hg w48 hbox hb; have n0_ := Aside0.mk (Kd.R_below (by (with_reducible repeat (first | apply Kd.R_alloc | apply Kd.R_drewN | apply Kd.R_drew)); exact HO_4.out) hb); have n1_ := Aside0.mk (Kd.R_below (by (with_reducible repeat (first | apply Kd.R_alloc | apply Kd.R_drewN | apply Kd.R_drew)); exact HO_5.out) hb); have n2_ := Aside0.mk (blk_below (g := gb119) (o := .cells #[.int .i64 a0_0, .slice (some ad130) l0_1.length c0_1, .slice A0_2 l0_2.length c0_2, .int .i64 a0_3] 27 (0, 0)) (by (with_reducible repeat (first | refine blk_drewN ?_ _ | refine blk_drew ?_ | refine blk_alloc ?_ _)); exact BK119.out) hb); have n3_ := Aside0.mk (blk_below (g := gb131) (o := .cells #[.bool ((rd_T62 l0_1 x59_2).f0), .slice (some ad132) ((rd_T62 l0_1 x59_2).f1).length c130_1] 62 (0, 0)) (by (with_reducible repeat (first | refine blk_drewN ?_ _ | refine blk_drew ?_ | refine blk_alloc ?_ _)); exact BK131.out) hb); have n4_ := Aside0.mk (below_step (by repeat (first | (with_reducible first | exact HB.out | apply b0_ | apply b1_ | apply b2_ | refine below_set ?_ GE119.out | refine below_set ?_ GE131.out) | exact HB.out)) hb); have n5_ := Aside0.mk (hbox); have n6_ := Aside0.mk ((by rw [hg]; exact (below_size (by repeat (first | (with_reducible first | exact HB.out | apply b0_ | apply b1_ | apply b2_ | refine below_set ?_ GE119.out | refine below_set ?_ GE131.out) | exact HB.out))) : w.heap.size ≤ gb133)); have n7_ := Aside0.mk ((by rw [hg]; exact (below_size (by repeat (first | (with_reducible first | exact HB.out | apply b0_ | apply b1_ | apply b2_ | refine below_set ?_ GE119.out | refine below_set ?_ GE131.out) | exact HB.out))) : w.heap.size ≤ gb133)); have n8_ := Aside0.mk ((by rw [hg]; exact Nat.ne_of_lt (blk_lt (g := gb119) (o := .cells #[.int .i64 a0_0, .slice (some ad130) l0_1.length c0_1, .slice A0_2 l0_2.length c0_2, .int .i64 a0_3] 27 (0, 0)) (by (with_reducible repeat (first | refine blk_drewN ?_ _ | refine blk_drew ?_ | refine blk_alloc ?_ _)); exact BK119.out)) : gb119 ≠ gb133)); have n9_ := Aside0.mk ((by rw [hg]; exact Nat.ne_of_gt (blk_lt (g := gb119) (o := .cells #[.int .i64 a0_0, .slice (some ad130) l0_1.length c0_1, .slice A0_2 l0_2.length c0_2, .int .i64 a0_3] 27 (0, 0)) (by (with_reducible repeat (first | refine blk_drewN ?_ _ | refine blk_drew ?_ | refine blk_alloc ?_ _)); exact BK119.out)) : gb133 ≠ gb119)); have n10_ := Aside0.mk ((by rw [hg]; exact Nat.ne_of_lt (blk_lt (g := gb131) (o := .cells #[.bool ((rd_T62 l0_1 x59_2).f0), .slice (some ad132) ((rd_T62 l0_1 x59_2).f1).length c130_1] 62 (0, 0)) (by (with_reducible repeat (first | refine blk_drewN ?_ _ | refine blk_drew ?_ | refine blk_alloc ?_ _)); exact BK131.out)) : gb131 ≠ gb133)); have n11_ := Aside0.mk ((by rw [hg]; exact Nat.ne_of_gt (blk_lt (g := gb131) (o := .cells #[.bool ((rd_T62 l0_1 x59_2).f0), .slice (some ad132) ((rd_T62 l0_1 x59_2).f1).length c130_1] 62 (0, 0)) (by (with_reducible repeat (first | refine blk_drewN ?_ _ | refine blk_drew ?_ | refine blk_alloc ?_ _)); exact BK131.out)) : gb133 ≠ gb131)); clear HO_4; clear HO_5; clear BK119; clear BK131; clear HB; have HO_4 := n0_; have HO_5 := n1_; have BK119 := n2_; have BK131 := n3_; have HB := n4_; have BK133 := n5_; have GW133 := n6_; have GE133 := n7_; have NB119_133 := n8_; have NB133_119 := n9_; have NB131_133 := n10_; have NB133_131 := n11_; clear n0_ n1_ n2_ n3_ n4_ n5_ n6_ n7_ n8_ n9_ n10_ n11_; clear hb hbox hg; have hnb49 := NB133_119.out; have hnc49 := NB119_133.out; have hnb50 := NB133_131.out; have hnc50 := NB131_133.out; have hcz51_0 : w48.cell? ⟨gb133, 0, none⟩ = some (.int .i64 0) := (blk_cell BK133.out 0).trans rfl; have hcz51_1 : w48.cell? ⟨gb133, 1, none⟩ = some (.bool false) := (blk_cell BK133.out 1).trans rfl; have hfz51_0 := blk_frozen BK133.out 0; have hfz51_1 := blk_frozen BK133.out 1) | ((with_reducible refine gate_store (t := 64) (p := 9) rfl ?_); refine store_event (t := 64) (p := 9) (v := ?vo_w52) (w1 := ((w48.setCell ⟨gb133, 0, none⟩ (.int .i64 ((rd_T64 ((rd_T62 l0_1 x59_2).f1) x66_3).f0))).setCell ⟨gb133, 1, none⟩ (.bool ((rd_T64 ((rd_T62 l0_1 x59_2).f1) x66_3).f1)))) ?hg ?ho ?hn ?hr ?_; (case ho => rfl); (case hg => rfl); (case hn => rfl); (case hr => first | (go_simp; done) | (go_simp; rfl)); intro w52 hw; have n0_ : Aside0 (Kd.R (Kd.int .i64) 3 w52 w.heap.size (fun _ => True) v125 x4_3) := ⟨(by rw [hw]; exact (by (with_reducible repeat (first | apply Kd.R_alloc | apply Kd.R_drewN | apply Kd.R_drew)); exact Kd.R_mono (Kd.R_far (p := ⟨gb133, 1, none⟩) (Kd.R_far (p := ⟨gb133, 0, none⟩) (Kd.R_types HO_4.out BK133.out (by decide)) (fun _ hk => hk.2) (.int .i64 ((rd_T64 ((rd_T62 l0_1 x59_2).f1) x66_3).f0))) (fun _ hk => hk.2) (.bool ((rd_T64 ((rd_T62 l0_1 x59_2).f1) x66_3).f1))) (fun _ hk => trivial)))⟩; have n1_ : Aside0 (Kd.R Kd.bool 4 w52 w.heap.size (fun _ => True) v128 x5_3) := ⟨(by rw [hw]; exact (by (with_reducible repeat (first | apply Kd.R_alloc | apply Kd.R_drewN | apply Kd.R_drew)); exact Kd.R_mono (Kd.R_far (p := ⟨gb133, 1, none⟩) (Kd.R_far (p := ⟨gb133, 0, none⟩) (Kd.R_types HO_5.out BK133.out (by decide)) (fun _ hk => hk.2) (.int .i64 ((rd_T64 ((rd_T62 l0_1 x59_2).f1) x66_3).f0))) (fun _ hk => hk.2) (.bool ((rd_T64 ((rd_T62 l0_1 x59_2).f1) x66_3).f1))) (fun _ hk => trivial)))⟩; have n2_ : Aside0 (w52.heap[gb119]? = some (.cells #[.int .i64 a0_0, .slice (some ad130) l0_1.length c0_1, .slice A0_2 l0_2.length c0_2, .int .i64 a0_3] 27 (0, 0))) := ⟨(by rw [hw]; exact (by (with_reducible repeat (first | refine blk_drewN ?_ _ | refine blk_drew ?_ | refine blk_alloc ?_ _)); refine blk_far ?_ NB119_133.out _; (with_reducible repeat (first | refine blk_drewN ?_ _ | refine blk_drew ?_ | refine blk_alloc ?_ _)); refine blk_far ?_ NB119_133.out _; (with_reducible repeat (first | refine blk_drewN ?_ _ | refine blk_drew ?_ | refine blk_alloc ?_ _)); exact BK119.out))⟩; have n3_ : Aside0 (w52.heap[gb131]? = some (.cells #[.bool ((rd_T62 l0_1 x59_2).f0), .slice (some ad132) ((rd_T62 l0_1 x59_2).f1).length c130_1] 62 (0, 0))) := ⟨(by rw [hw]; exact (by (with_reducible repeat (first | refine blk_drewN ?_ _ | refine blk_drew ?_ | refine blk_alloc ?_ _)); refine blk_far ?_ NB131_133.out _; (with_reducible repeat (first | refine blk_drewN ?_ _ | refine blk_drew ?_ | refine blk_alloc ?_ _)); refine blk_far ?_ NB131_133.out _; (with_reducible repeat (first | refine blk_drewN ?_ _ | refine blk_drew ?_ | refine blk_alloc ?_ _)); exact BK131.out))⟩; have n4_ : Aside0 (w52.heap[gb133]? = some (.cells #[.int .i64 ((rd_T64 ((rd_T62 l0_1 x59_2).f1) x66_3).f0), .bool ((rd_T64 ((rd_T62 l0_1 x59_2).f1) x66_3).f1)] 64 (0, 0))) := ⟨(by rw [hw]; exact (by (with_reducible repeat (first | refine blk_drewN ?_ _ | refine blk_drew ?_ | refine blk_alloc ?_ _)); refine blk_put (cs := #[.int .i64 ((rd_T64 ((rd_T62 l0_1 x59_2).f1) x66_3).f0), .bool false]) ?_ 1 _ rfl; (with_reducible repeat (first | refine blk_drewN ?_ _ | refine blk_drew ?_ | refine blk_alloc ?_ _)); refine blk_put (cs := #[.int .i64 0, .bool false]) ?_ 0 _ rfl; (with_reducible repeat (first | refine blk_drewN ?_ _ | refine blk_drew ?_ | refine blk_alloc ?_ _)); exact BK133.out))⟩; have n5_ : Aside0 (Below w.heap.size w w52) := ⟨(by rw [hw]; exact (by repeat (first | (with_reducible first | exact HB.out | apply b0_ | apply b1_ | apply b2_ | refine below_set ?_ GE119.out | refine below_set ?_ GE131.out | refine below_set ?_ GE133.out) | exact HB.out)))⟩; clear hw; clear HO_4; clear HO_5; clear BK119; clear BK131; clear BK133; clear HB; have HO_4 := n0_; have HO_5 := n1_; have BK119 := n2_; have BK131 := n3_; have BK133 := n4_; have HB := n5_; clear n0_ n1_ n2_ n3_ n4_ n5_; have hcz53_0 : w52.cell? ⟨gb133, 0, none⟩ = some (.int .i64 ((rd_T64 ((rd_T62 l0_1 x59_2).f1) x66_3).f0)) := (blk_cell BK133.out 0).trans rfl; have hcz53_1 : w52.cell? ⟨gb133, 1, none⟩ = some (.bool ((rd_T64 ((rd_T62 l0_1 x59_2).f1) x66_3).f1)) := (blk_cell BK133.out 1).trans rfl; have hfz53_0 := blk_frozen BK133.out 0; have hfz53_1 := blk_frozen BK133.out 1; obtain ⟨Ao54, co54, eo54⟩ := Kd.R_slice HO_4.out; subst eo54; have p134 : 0 ≤ (((rd_T64 ((rd_T62 l0_1 x59_2).f1) x66_3).f0) : Int) := of_decide_eq_true (by first | (with_reducible assumption) | assumption); have q134 : ((rd_T64 ((rd_T62 l0_1 x59_2).f1) x66_3).f0) < (x4_3.length : Int) := of_decide_eq_true (by first | (with_reducible assumption) | assumption); obtain ⟨ad134, e134, hx134_0⟩ := Kd.at_int (Kd.R_reads' HO_4.out).2.2 ((rd_T64 ((rd_T62 l0_1 x59_2).f1) x66_3).f0) p134 q134; cases e134; replace p134 := eq_true p134; replace q134 := eq_true q134; have p43 : 0 ≤ (((rd_T64 ((rd_T62 l0_1 x59_2).f1) x66_3).f0) : Int) := of_decide_eq_true (by first | (with_reducible assumption) | assumption); have q43 : (((rd_T64 ((rd_T62 l0_1 x59_2).f1) x66_3).f0) : Int) < ((x4_3.length : Int) : Int) := of_decide_eq_true (by first | (with_reducible assumption) | assumption); obtain ⟨go43, co43, eo43, gb43, gl43, cl43, HG43⟩ := Kd.R_form HO_4.out (by omega); (first | cases eo43 | (injection eo43 with ea_ en_ ec_; (first | subst ea_ | (injection ea_ with ea_; subst ea_)); subst ec_; clear en_)); have GB43 := Aside0.mk gb43; have GG43 := Aside0.mk HG43; clear gb43 gl43 HG43; (first | simp only [add_plain] at hx134_0 | skip); obtain ⟨hx43_0, hf43_0⟩ := Kd.R_celln 0 HO_4.out (((rd_T64 ((rd_T62 l0_1 x59_2).f1) x66_3).f0) : Int) p43 q43; replace p43 := eq_true p43; replace q43 := eq_true q43; obtain ⟨hy55_, hz55_⟩ := Kd.R_celln 0 HO_4.out (((rd_T64 ((rd_T62 l0_1 x59_2).f1) x66_3).f0) : Int) (of_decide_eq_true (by first | (with_reducible assumption) | assumption)) (of_decide_eq_true (by first | (with_reducible assumption) | assumption)); have HP55 := Kd.R_putg HO_4.out (((rd_T64 ((rd_T62 l0_1 x59_2).f1) x66_3).f0) : Int) (wrap64 ((rd x4_3 ((rd_T64 ((rd_T62 l0_1 x59_2).f1) x66_3).f0)) + 1))) | ((with_reducible refine gate_store (t := 3) (p := 79) rfl ?_); refine store_event (t := 3) (p := 79) (v := ?vo_w56) (w1 := (w52.setCell ⟨go43, (((rd_T64 ((rd_T62 l0_1 x59_2).f1) x66_3).f0) : Int).toNat, none⟩ (.int .i64 (wrap64 ((rd x4_3 ((rd_T64 ((rd_T62 l0_1 x59_2).f1) x66_3).f0)) + 1))))) ?hg ?ho ?hn ?hr ?_; (case ho => rfl); (case hg => rfl); (case hn => rfl); (case hr => first | (go_simp; done) | (go_simp; rfl)); intro w56 hw; have hg : w52.grownBy w56 (some go43) := (by rw [hw]; exact HP55.2); have hp_ : Kd.R (Kd.int .i64) 3 w56 w.heap.size (fun _ => True) (.slice (some ⟨go43, 0, none⟩) x4_3.length co54) y135 := (by rw [hw, Ny135.out]; exact HP55.1); clear HP55; have n0_ := Aside0.mk (hp_); have n1_ := Aside0.mk (Kd.R_over' (v := (.slice (some ⟨go43, 0, none⟩) x4_3.length co54)) (by (with_reducible repeat (first | apply Kd.R_alloc | apply Kd.R_drewN | apply Kd.R_drew)); exact HO_5.out) (Kd.R_typed HO_4.out) (by decide) hg); have n2_ := Aside0.mk (blk_grown (g := gb119) (o := .cells #[.int .i64 a0_0, .slice (some ad130) l0_1.length c0_1, .slice A0_2 l0_2.length c0_2, .int .i64 a0_3] 27 (0, 0)) (by (with_reducible repeat (first | refine blk_drewN ?_ _ | refine blk_drew ?_ | refine blk_alloc ?_ _)); exact BK119.out) hg (Kd.R_ne HO_4.out BK119.out (by decide))); have n3_ := Aside0.mk (blk_grown (g := gb131) (o := .cells #[.bool ((rd_T62 l0_1 x59_2).f0), .slice (some ad132) ((rd_T62 l0_1 x59_2).f1).length c130_1] 62 (0, 0)) (by (with_reducible repeat (first | refine blk_drewN ?_ _ | refine blk_drew ?_ | refine blk_alloc ?_ _)); exact BK131.out) hg (Kd.R_ne HO_4.out BK131.out (by decide))); have n4_ := Aside0.mk (blk_grown (g := gb133) (o := .cells #[.int .i64 ((rd_T64 ((rd_T62 l0_1 x59_2).f1) x66_3).f0), .bool ((rd_T64 ((rd_T62 l0_1 x59_2).f1) x66_3).f1)] 64 (0, 0)) (by (with_reducible repeat (first | refine blk_drewN ?_ _ | refine blk_drew ?_ | refine blk_alloc ?_ _)); exact BK133.out) hg (Kd.R_ne HO_4.out BK133.out (by decide))); have n5_ := Aside0.mk ((by rw [hw]; exact below_set (HB.out) GB43.out : Below w.heap.size w w56)); clear HO_4; clear HO_5; clear BK119; clear BK131; clear BK133; clear HB; have HO_4 := n0_; have HO_5 := n1_; have BK119 := n2_; have BK131 := n3_; have BK133 := n4_; have HB := n5_; clear n0_ n1_ n2_ n3_ n4_ n5_; clear hg hw hp_))
           have n0_ := Aside0.mk (Kd.R_drew HO_4.out); have n1_ := Aside0.mk (Kd.R_drew HO_5.out); have n2_ := Aside0.mk (blk_drew BK119.out); have n3_ := Aside0.mk (blk_drew BK131.out); have n4_ := Aside0.mk (blk_drew BK133.out); have n5_ := Aside0.mk (b2_ HB.out); clear HO_4; clear HO_5; clear BK119; clear BK131; clear BK133; clear HB; have HO_4 := n0_; have HO_5 := n1_; have BK119 := n2_; have BK131 := n3_
           have BK133 := n4_; have HB := n5_; clear n0_ n1_ n2_ n3_ n4_ n5_; obtain ⟨Ao58, co58, eo58⟩ := Kd.R_slice HO_5.out
           (first | subst eo58 | (injection eo58 with f1_ f2_ f3_; have f4_ := f1_.symm; have f5_ := f3_.symm; clear f1_ f2_ f3_; subst f4_; subst f5_))
           have p136 : 0 ≤ (((rd_T64 ((rd_T62 l0_1 x59_2).f1) x66_3).f0) : Int) := of_decide_eq_true (by first | (with_reducible assumption) | assumption); have q136 : ((rd_T64 ((rd_T62 l0_1 x59_2).f1) x66_3).f0) < (x5_3.length : Int) := of_decide_eq_true (by first | (with_reducible assumption) | assumption)
           obtain ⟨ad136, e136, hx136_0⟩ := Kd.at_bool (Kd.R_reads' HO_5.out).2.2 ((rd_T64 ((rd_T62 l0_1 x59_2).f1) x66_3).f0) p136 q136
           (try rw [← Nbq45.out] at hx136_0)
           cases e136; replace p136 := eq_true p136; replace q136 := eq_true q136; have p47 : 0 ≤ (((rd_T64 ((rd_T62 l0_1 x59_2).f1) x66_3).f0) : Int) := of_decide_eq_true (by first | (with_reducible assumption) | assumption); have q47 : (((rd_T64 ((rd_T62 l0_1 x59_2).f1) x66_3).f0) : Int) < ((x5_3.length : Int) : Int) := of_decide_eq_true (by first | (with_reducible assumption) | assumption)
           obtain ⟨go47, co47, eo47, gb47, gl47, cl47, HG47⟩ := Kd.R_form HO_5.out (by omega)
           (first | cases eo47 | (injection eo47 with ea_ en_ ec_; (first | subst ea_ | (injection ea_ with ea_; subst ea_)); subst ec_; clear en_))
           have GB47 := Aside0.mk gb47; have GG47 := Aside0.mk HG47; clear gb47 gl47 HG47
           (first | simp only [add_plain] at hx136_0 | skip)
           obtain ⟨hx47_0, hf47_0⟩ := Kd.R_celln false HO_5.out (((rd_T64 ((rd_T62 l0_1 x59_2).f1) x66_3).f0) : Int) p47 q47; replace p47 := eq_true p47; replace q47 := eq_true q47; have HP59 := Kd.R_putn HO_5.out (((rd_T64 ((rd_T62 l0_1 x59_2).f1) x66_3).f0) : Int) true; rw [← Ny137.out] at HP59; have HQ59 := Aside0.mk HP59; clear HP59
           refine start_ (n := 14) (S := fun w' => w'.cell? ⟨gb133, 0, none⟩ = some (.int .i64 ((rd_T64 ((rd_T62 l0_1 x59_2).f1) x66_3).f0)) ∧ w'.cell? ⟨gb133, 1, none⟩ = some (.bool ((rd_T64 ((rd_T62 l0_1 x59_2).f1) x66_3).f1)) ∧ w'.cell? ⟨go47, (((rd_T64 ((rd_T62 l0_1 x59_2).f1) x66_3).f0)).toNat, none⟩ = some (.bool true)) (ds := [13]) #[F0,F0,F0,F0,F0,F0,F0,F0,F0,F0,F0,F0,F0,F0] (by kernel_rfl) rfl rfl ⟨(blk_cell BK133.out 0).trans rfl, (blk_cell BK133.out 1).trans rfl, hx136_0⟩ (fun hHeld => ?_); refine with_tabW cow_Check.tab16 cow_Check.bits16 (fun HT_ HW_ => ?_)
           generalize w56.drew = w57 at HO_4 HO_5 BK119 BK131 BK133 HB GG47 HQ59 hf47_0 hx136_0 hx47_0 hHeld ⊢; refine pure_ (i := 0) (N := some 80) (v := ?_) (a' := ?_) #[T0,F0,F0,F0,F0,F0,F0,F0,F0,F0,F0,F0,F0,F0] rfl rfl (any_of HT_.out (by kernel_rfl)) (fun _ _ _ h => h) (Or.inl ⟨by rfl, ?_⟩) ?_ ?_
           rotate_left
           · intro w'; go_simp; with_reducible rfl
           rotate_left
           · simp only [Act.put, z0_, z1_, z2_, i64_w, i32_w]; rfl
           refine pure_ (i := 1) (N := some 81) (v := ?_) (a' := ?_) #[T0,T0,F0,F0,F0,F0,F0,F0,F0,F0,F0,F0,F0,F0] rfl rfl (any_of HT_.out (by kernel_rfl)) (fun _ _ _ h => h) (Or.inl ⟨by rfl, ?_⟩) ?_ ?_
           rotate_left
           · intro w'; go_simp; with_reducible rfl
           rotate_left
           · simp only [Act.put, z0_, z1_, z2_, i64_w, i32_w]; rfl
           refine pure_ (i := 3) (N := some 83) (v := ?_) (a' := ?_) #[T0,T0,F0,T0,F0,F0,F0,F0,F0,F0,F0,F0,F0,F0] rfl rfl (any_of HT_.out (by kernel_rfl)) (fun _ _ _ h => h) (Or.inl ⟨by rfl, ?_⟩) ?_ ?_
           rotate_left
           · intro w'; go_simp; with_reducible rfl
           rotate_left
           · simp only [Act.put, z0_, z1_, z2_, i64_w, i32_w]; rfl
           refine pure_ (i := 4) (N := some 84) (v := ?_) (a' := ?_) #[T0,T0,F0,T0,T0,F0,F0,F0,F0,F0,F0,F0,F0,F0] rfl rfl (any_of HT_.out (by kernel_rfl)) (fun _ _ _ h => h) (Or.inl ⟨by rfl, ?_⟩) ?_ ?_
           rotate_left
           · intro w'; go_simp; with_reducible rfl
           rotate_left
           · simp only [Act.put, z0_, z1_, z2_, i64_w, i32_w]; rfl
           refine take_ (i := 2) (N := some 82) (v := ?_) (a' := ?_) #[T0,T0,T0,T0,T0,F0,F0,F0,F0,F0,F0,F0,F0,F0] rfl rfl (take_ofW HT_.out HW_.out (by kernel_rfl)) (fun _ _ _ h => h) (Or.inl ⟨by rfl, ?_⟩) hHeld ?_ ?_
           rotate_left
           ·
            rintro w' ⟨s0, s1, s2⟩
            go_simp; with_reducible rfl
           rotate_left
           · simp only [Act.put, z0_, z1_, z2_, i64_w, i32_w]; rfl
           refine take_ (i := 5) (N := some 85) (v := ?_) (a' := ?_) #[T0,T0,T0,T0,T0,T0,F0,F0,F0,F0,F0,F0,F0,F0] rfl rfl (take_ofW HT_.out HW_.out (by kernel_rfl)) (fun _ _ _ h => h) (Or.inl ⟨by rfl, ?_⟩) hHeld ?_ ?_
           rotate_left
           ·
            rintro w' ⟨s0, s1, s2⟩
            go_simp; with_reducible rfl
           rotate_left
           · simp only [Act.put, z0_, z1_, z2_, i64_w, i32_w]; rfl
           refine pure_ (i := 6) (N := some 86) (v := ?_) (a' := ?_) #[T0,T0,T0,T0,T0,T0,T0,F0,F0,F0,F0,F0,F0,F0] rfl rfl (any_of HT_.out (by kernel_rfl)) (fun _ _ _ h => h) (Or.inl ⟨by rfl, ?_⟩) ?_ ?_
           rotate_left
           · intro w'; go_simp; with_reducible rfl
           rotate_left
           · simp only [Act.put, z0_, z1_, z2_, i64_w, i32_w]; rfl
           refine take_ (i := 7) (N := some 87) (v := ?_) (a' := ?_) #[T0,T0,T0,T0,T0,T0,T0,T0,F0,F0,F0,F0,F0,F0] rfl rfl (take_ofW HT_.out HW_.out (by kernel_rfl)) (fun _ _ _ h => h) (Or.inl ⟨by rfl, ?_⟩) hHeld ?_ ?_
           rotate_left
           ·
            rintro w' ⟨s0, s1, s2⟩
            go_simp; with_reducible rfl
           rotate_left
           · simp only [Act.put, z0_, z1_, z2_, i64_w, i32_w]; rfl
           refine pure_ (i := 8) (N := some 88) (v := ?_) (a' := ?_) #[T0,T0,T0,T0,T0,T0,T0,T0,T0,F0,F0,F0,F0,F0] rfl rfl (any_of HT_.out (by kernel_rfl)) (fun _ _ _ h => h) (Or.inl ⟨by rfl, ?_⟩) ?_ ?_
           rotate_left
           · intro w'; go_simp; with_reducible rfl
           rotate_left
           · simp only [Act.put, z0_, z1_, z2_, i64_w, i32_w]; rfl
           refine pure_ (i := 9) (N := some 89) (v := undef) (a' := ?_) #[T0,T0,T0,T0,T0,T0,T0,T0,T0,T0,F0,F0,F0,F0] rfl rfl (any_of HT_.out (by kernel_rfl)) (fun _ _ _ h => h) (Or.inr ⟨by rfl, rfl⟩) ?_ ?_
           rotate_left
           · simp only [Act.put, z0_, z1_, z2_, i64_w, i32_w]; rfl
           refine pure_ (i := 10) (N := some 90) (v := undef) (a' := ?_) #[T0,T0,T0,T0,T0,T0,T0,T0,T0,T0,T0,F0,F0,F0] rfl rfl (any_of HT_.out (by kernel_rfl)) (fun _ _ _ h => h) (Or.inr ⟨by rfl, rfl⟩) ?_ ?_
           rotate_left
           · simp only [Act.put, z0_, z1_, z2_, i64_w, i32_w]; rfl
           refine pure_ (i := 11) (N := some 91) (v := ?_) (a' := ?_) #[T0,T0,T0,T0,T0,T0,T0,T0,T0,T0,T0,T0,F0,F0] rfl rfl (any_of HT_.out (by kernel_rfl)) (fun _ _ _ h => h) (Or.inl ⟨by rfl, ?_⟩) ?_ ?_
           rotate_left
           · intro w'; go_simp; with_reducible rfl
           rotate_left
           · simp only [Act.put, z0_, z1_, z2_, i64_w, i32_w]; rfl
           refine pure_ (i := 12) (N := some 92) (v := ?_) (a' := ?_) #[T0,T0,T0,T0,T0,T0,T0,T0,T0,T0,T0,T0,T0,F0] rfl rfl (any_of HT_.out (by kernel_rfl)) (fun _ _ _ h => h) (Or.inl ⟨by rfl, ?_⟩) ?_ ?_
           rotate_left
           · intro w'; go_simp; with_reducible rfl
           rotate_left
           · simp only [Act.put, z0_, z1_, z2_, i64_w, i32_w]; rfl
           refine last_ (i := 13) (N := none) #[T0,T0,T0,T0,T0,T0,T0,T0,T0,T0,T0,T0,T0,T0] rfl rfl (one_of HT_.out (by kernel_rfl)) (by decide) (fun K hK => ?_); refine skip_ (w1 := ?_) (by rfl) rfl ?_ ?_
           rotate_left
           · go_simp; rfl
           refine hK.out _ _ ?_; clear hK K; refine done_ (done_of HT_.out (by kernel_rfl)) ?_
           try go_wp2
           go_roundg k3
           case measure => have := HJ1.out; have := HK2.out; have := HK3.out; omega
           case rel => (try rw [← Nbq45.out]); exact ⟨(y135), (y137), (wrap64 (x66_3 + 1)), (by first | rfl | (simp; done) | (simp [*]; done)), H', ⟨by have := HJ1.out; have := HK2.out; have := HK3.out; omega⟩, ⟨by (with_reducible repeat (first | apply Kd.R_alloc | apply Kd.R_drewN | apply Kd.R_drew)); exact Kd.R_mono (Kd.R_far (p := ⟨go47, (((rd_T64 ((rd_T62 l0_1 x59_2).f1) x66_3).f0) : Int).toNat, none⟩) (Kd.R_types HO_4.out GG47.out (by decide)) (fun _ hk => hk.2) (.bool true)) (fun _ hk => trivial)⟩, ⟨by (with_reducible repeat (first | apply Kd.R_alloc | apply Kd.R_drewN | apply Kd.R_drew)); exact HQ59.out⟩, ⟨by (with_reducible repeat (first | refine blk_drewN ?_ _ | refine blk_drew ?_ | refine blk_alloc ?_ _)); refine blk_far ?_ (by have h_ := Kd.R_ne HO_5.out BK119.out (by decide); intro e_; exact h_ (by rw [e_]; rfl)) _; (with_reducible repeat (first | refine blk_drewN ?_ _ | refine blk_drew ?_ | refine blk_alloc ?_ _)); exact BK119.out⟩, ⟨by (with_reducible repeat (first | refine blk_drewN ?_ _ | refine blk_drew ?_ | refine blk_alloc ?_ _)); refine blk_far ?_ (by have h_ := Kd.R_ne HO_5.out BK131.out (by decide); intro e_; exact h_ (by rw [e_]; rfl)) _; (with_reducible repeat (first | refine blk_drewN ?_ _ | refine blk_drew ?_ | refine blk_alloc ?_ _)); exact BK131.out⟩, ⟨by repeat (first | (with_reducible first | exact HB.out | apply b0_ | apply b1_ | apply b2_ | refine below_set ?_ GB47.out | refine below_set ?_ GE119.out | refine below_set ?_ GE131.out | refine below_set ?_ GE133.out) | exact HB.out)⟩⟩
    subst c16
    have H1 : (some 2) = some r := by rw [if_pos rfl] at H; exact H
    clear H; have H := H1; clear H1; obtain rfl := Option.some.inj H; go_wp2; go_ret; exact ⟨by first | rfl | (simp [errW_none, errW_some] <;> rfl) | (simp [*, errW_none, errW_some] <;> rfl), by repeat (first | (with_reducible first | exact HB.out | apply b0_ | apply b1_ | apply b2_ | refine below_set ?_ GE119.out) | exact HB.out)⟩
end Go.Proofs.Yteldbkdfphiogaa.Pr
