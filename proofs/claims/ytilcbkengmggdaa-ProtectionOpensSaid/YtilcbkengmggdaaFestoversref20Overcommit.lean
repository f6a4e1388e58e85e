-- Written by a program of this session (a changed copy of the kit's printer). Not trusted: Lean checks it.
import Derived.Test.YtilcbkengmggdaaM0
import Derived.Test.YtilcbkengmggdaaM3
namespace Go.Proofs.Ytilcbkengmggdaa.Pr
open Go.RowKit Go.Proofs.YtilcbkengmggdaaW.PrintWords Go.Proofs.YtilcbkengmggdaaW.PrintLast Go.Proofs.YtilcbkengmggdaaW.PrintMore
attribute [local go_sem] max2_int min2_int max_two min_two max_three min_three max_four min_four   -- for this text's walks alone
set_option linter.unusedVariables false
set_option linter.unusedSimpArgs false
/-! ### estoversref20_Overcommit: function 19 -/
mutual
def estoversref20_Overcommit.j0 : Nat → List (S41) → Int → Bool → Option (Int × Int)
 | 0, _, _, _ => none
 | k + 1, x0, x1, x20 => if x20 = true then (some (0, 2)) else (estoversref20_Overcommit.l0 k x0 x1 0)
def estoversref20_Overcommit.l0 : Nat → List (S41) → Int → Int → Option (Int × Int)
 | 0, _, _, _ => none
 | k + 1, x0, x1, x7 => if x7 < (x0.length : Int) then (estoversref20_Overcommit.l1 k x0 x1 x7 0 (wrap64 (x7 + 1))) else (some ((-1), 0))
def estoversref20_Overcommit.l1 : Nat → List (S41) → Int → Int → Int → Int → Option (Int × Int)
 | 0, _, _, _, _, _ => none
 | k + 1, x0, x1, x7, x8, x9 => if x9 < (x0.length : Int) then (if 0 ≤ x9 then (if ((rd_T41 x0 x9).f0) = x7 then (estoversref20_Overcommit.l1 k x0 x1 x7 (wrap64 (x8 + ((rd_T41 x0 x9).f2))) (wrap64 (x9 + 1))) else (estoversref20_Overcommit.l1 k x0 x1 x7 x8 (wrap64 (x9 + 1)))) else (none)) else (if x7 = 0 then (if x8 > x1 then (estoversref20_Overcommit.j3 k x0 x1 x7 true) else (if x7 > 0 then (if 0 ≤ x7 then (if x7 < (x0.length : Int) then (estoversref20_Overcommit.j3 k x0 x1 x7 (decide (x8 > ((rd_T41 x0 x7).f2)))) else (none)) else (none)) else (estoversref20_Overcommit.j3 k x0 x1 x7 false))) else (if x7 > 0 then (if 0 ≤ x7 then (if x7 < (x0.length : Int) then (estoversref20_Overcommit.j3 k x0 x1 x7 (decide (x8 > ((rd_T41 x0 x7).f2)))) else (none)) else (none)) else (estoversref20_Overcommit.j3 k x0 x1 x7 false)))
def estoversref20_Overcommit.j3 : Nat → List (S41) → Int → Int → Bool → Option (Int × Int)
 | 0, _, _, _, _ => none
 | k + 1, x0, x1, x7, x68 => if x68 = true then (some (x7, 0)) else (estoversref20_Overcommit.l0 k x0 x1 (wrap64 (x7 + 1)))
end
def estoversref20_Overcommit.f (k : Nat) (l0 : List (S41)) (a1 : Int) : Option (Int × Int) := (estoversref19_Check.f k l0).bind fun t307 => (if t307 = 0 then (if a1 < 0 then (estoversref20_Overcommit.j0 k l0 a1 true) else (estoversref20_Overcommit.j0 k l0 a1 (decide (a1 > 1048576)))) else (some (0, t307)))
theorem estoversref20_Overcommit.mono_l : ∀ k, (∀ y0 y1 y2, LeO (estoversref20_Overcommit.j0 k y0 y1 y2) (estoversref20_Overcommit.j0 (k + 1) y0 y1 y2)) ∧ (∀ y0 y1 y2, LeO (estoversref20_Overcommit.l0 k y0 y1 y2) (estoversref20_Overcommit.l0 (k + 1) y0 y1 y2)) ∧ (∀ y0 y1 y2 y3 y4, LeO (estoversref20_Overcommit.l1 k y0 y1 y2 y3 y4) (estoversref20_Overcommit.l1 (k + 1) y0 y1 y2 y3 y4)) ∧ (∀ y0 y1 y2 y3, LeO (estoversref20_Overcommit.j3 k y0 y1 y2 y3) (estoversref20_Overcommit.j3 (k + 1) y0 y1 y2 y3))
 | 0 => ⟨fun _ _ _ r h => by simp [estoversref20_Overcommit.j0] at h, fun _ _ _ r h => by simp [estoversref20_Overcommit.l0] at h, fun _ _ _ _ _ r h => by simp [estoversref20_Overcommit.l1] at h, fun _ _ _ _ r h => by simp [estoversref20_Overcommit.j3] at h⟩
 | k + 1 => by
  obtain ⟨ih0, ih1, ih2, ih3⟩ := estoversref20_Overcommit.mono_l k
  refine ⟨?_, ?_, ?_, ?_⟩
  ·
   intro y0 y1 y2
   unfold estoversref20_Overcommit.j0
   repeat' first
   | (with_reducible exact ih0 _ _ _)
   | (with_reducible exact ih1 _ _ _)
   | (with_reducible exact ih2 _ _ _ _ _)
   | (with_reducible exact ih3 _ _ _ _)
   | (with_reducible exact estoversref19_Check.mono _ _)
   | (with_reducible exact LeO.refl _)
   | (with_reducible exact LeO.none _)
   | (with_reducible refine LeO.ite ?_ ?_)
   | (with_reducible refine LeO.bind ?_ (fun _ => ?_))
   | exact ih0 _ _ _
   | exact ih1 _ _ _
   | exact ih2 _ _ _ _ _
   | exact ih3 _ _ _ _
   | exact estoversref19_Check.mono _ _
   | exact LeO.none _
   | refine LeO.ite ?_ ?_
   | refine LeO.bind ?_ (fun _ => ?_)
  ·
   intro y0 y1 y2
   unfold estoversref20_Overcommit.l0
   repeat' first
   | (with_reducible exact ih0 _ _ _)
   | (with_reducible exact ih1 _ _ _)
   | (with_reducible exact ih2 _ _ _ _ _)
   | (with_reducible exact ih3 _ _ _ _)
   | (with_reducible exact estoversref19_Check.mono _ _)
   | (with_reducible exact LeO.refl _)
   | (with_reducible exact LeO.none _)
   | (with_reducible refine LeO.ite ?_ ?_)
   | (with_reducible refine LeO.bind ?_ (fun _ => ?_))
   | exact ih0 _ _ _
   | exact ih1 _ _ _
   | exact ih2 _ _ _ _ _
   | exact ih3 _ _ _ _
   | exact estoversref19_Check.mono _ _
   | exact LeO.none _
   | refine LeO.ite ?_ ?_
   | refine LeO.bind ?_ (fun _ => ?_)
  ·
   intro y0 y1 y2 y3 y4
   unfold estoversref20_Overcommit.l1
   repeat' first
   | (with_reducible exact ih0 _ _ _)
   | (with_reducible exact ih1 _ _ _)
   | (with_reducible exact ih2 _ _ _ _ _)
   | (with_reducible exact ih3 _ _ _ _)
   | (with_reducible exact estoversref19_Check.mono _ _)
   | (with_reducible exact LeO.refl _)
   | (with_reducible exact LeO.none _)
   | (with_reducible refine LeO.ite ?_ ?_)
   | (with_reducible refine LeO.bind ?_ (fun _ => ?_))
   | exact ih0 _ _ _
   | exact ih1 _ _ _
   | exact ih2 _ _ _ _ _
   | exact ih3 _ _ _ _
   | exact estoversref19_Check.mono _ _
   | exact LeO.none _
   | refine LeO.ite ?_ ?_
   | refine LeO.bind ?_ (fun _ => ?_)
  ·
   intro y0 y1 y2 y3
   unfold estoversref20_Overcommit.j3
   repeat' first
   | (with_reducible exact ih0 _ _ _)
   | (with_reducible exact ih1 _ _ _)
   | (with_reducible exact ih2 _ _ _ _ _)
   | (with_reducible exact ih3 _ _ _ _)
   | (with_reducible exact estoversref19_Check.mono _ _)
   | (with_reducible exact LeO.refl _)
   | (with_reducible exact LeO.none _)
   | (with_reducible refine LeO.ite ?_ ?_)
   | (with_reducible refine LeO.bind ?_ (fun _ => ?_))
   | exact ih0 _ _ _
   | exact ih1 _ _ _
   | exact ih2 _ _ _ _ _
   | exact ih3 _ _ _ _
   | exact estoversref19_Check.mono _ _
   | exact LeO.none _
   | refine LeO.ite ?_ ?_
   | refine LeO.bind ?_ (fun _ => ?_)
theorem estoversref20_Overcommit.mono : ∀ a0 a1 k, LeO (estoversref20_Overcommit.f k a0 a1) (estoversref20_Overcommit.f (k + 1) a0 a1) := by
 intro a0 a1 k
 obtain ⟨ih0, ih1, ih2, ih3⟩ := estoversref20_Overcommit.mono_l k
 unfold estoversref20_Overcommit.f
 repeat' first
   | (with_reducible exact ih0 _ _ _)
   | (with_reducible exact ih1 _ _ _)
   | (with_reducible exact ih2 _ _ _ _ _)
   | (with_reducible exact ih3 _ _ _ _)
   | (with_reducible exact estoversref19_Check.mono _ _)
   | (with_reducible exact LeO.refl _)
   | (with_reducible exact LeO.none _)
   | (with_reducible refine LeO.ite ?_ ?_)
   | (with_reducible refine LeO.bind ?_ (fun _ => ?_))
   | exact ih0 _ _ _
   | exact ih1 _ _ _
   | exact ih2 _ _ _ _ _
   | exact ih3 _ _ _ _
   | exact estoversref19_Check.mono _ _
   | exact LeO.none _
   | refine LeO.ite ?_ ?_
   | refine LeO.bind ?_ (fun _ => ?_)
set_option maxHeartbeats 8000000 in
set_option maxRecDepth 100000 in
theorem estoversref20_Overcommit.calls (k : Nat) (A0 : Option Addr) (c0 : Nat) (l0 : List (S41)) (a1 : Int) (r1 : Int) (r2 : Int) (w : World) (hr0 : Kd.C k41 w A0 l0.length l0) (hc0 : l0.length ≤ c0) (h : estoversref20_Overcommit.f k l0 a1 = some (r1, r2)) :
  Calls Try.prog 19 #[.slice A0 l0.length c0, .int .i64 a1] w fun e w' => e = .returned (.tuple #[.int .i64 r1, .int .i64 r2]) ∧ Drawn0 w w' := by
 have HR0 := Aside0.mk hr0
 have HC0 := Aside0.mk hc0
 clear hr0 hc0
 have H : ((estoversref19_Check.f k l0).bind fun t307 => (if t307 = 0 then (if a1 < 0 then (estoversref20_Overcommit.j0 k l0 a1 true) else (estoversref20_Overcommit.j0 k l0 a1 (decide (a1 > 1048576)))) else (some (0, t307)))) = some (r1, r2) := h
 clear h
 replace H := Option.bind_eq_some_iff.mp H
 obtain ⟨t307, A30, H⟩ := H
 replace H : (if t307 = 0 then (if a1 < 0 then (estoversref20_Overcommit.j0 k l0 a1 true) else (estoversref20_Overcommit.j0 k l0 a1 (decide (a1 > 1048576)))) else (some (0, t307))) = some (r1, r2) := H
 have A3 := Aside0.mk A30
 clear A30
 by_cases c4 : t307 = 0
 ·
  rw [if_pos c4] at H
  have c4b0 : (t307 == 0) = true := beq_iff_eq.mpr c4
  have c4b1 : (t307 != 0) = false := bne_eq_false_iff_eq.mpr c4
  clear c4
  have HC5 := Aside0.mk H
  clear H
  go_enter Try.func19, Try.ntmps19
  go_upto_region 4 with (first | ((with_reducible refine gate_callee (f := 24) rfl ?_); refine goesL_ (some 11) rfl rfl Try.func24 (by kernel_rfl) rfl #[.slice A0 l0.length c0] rfl (by (try simp only [List.map_toArray, List.map_cons, List.map_nil]); first | done | rfl | (simp only [List.length_drop, List.length_take]; rfl)) ?_; (with_reducible refine (estoversref19_Check.calls k _ _ l0 t307 _ ?side1 ?side2 A3.out).mono ?_); (case side1 => repeat (first | exact HR0.out | (with_reducible refine Kd.C_alloc ?_ _) | (with_reducible refine Kd.C_drewN ?_ _) | (with_reducible refine Kd.C_drew ?_))); (case side2 => exact HC0.out); rintro e w' ⟨rfl, ⟨nd, rfl⟩⟩; refine ⟨_, rfl, ?_⟩))
  (try simp only [Act.put, List.setIfInBounds_toArray, List.set_cons_zero, List.set_cons_succ])
  go_cut [20] (fun v20 wc => ∃ (kq : Nat) (x20_4 : Bool), v20 = .bool x20_4 ∧ Aside0 (estoversref20_Overcommit.j0 kq l0 a1 x20_4 = some (r1, r2)) ∧ Aside0 (kq ≤ k) ∧ Drawn0 w wc)
  case first =>
   have H := HC5.out
   clear HC5
   by_cases c6 : a1 < 0
   ·
    rw [if_pos c6] at H
    have c6b0 : decide (a1 < 0) = true := decide_eq_true c6
    clear c6
    (first | rw [c6b0] | (simp only [i64_w, i32_w]; rw [c6b0]) | skip)
    have H' := Aside0.mk H
    clear H
    go_wp2
    go_meet
    case rel => exact ⟨_, (true), (by first | rfl | (simp; done) | (simp [*]; done)), H', ⟨by first | omega | exact Nat.le_refl _⟩, by repeat (first | exact Drawn0.refl _ | apply Drawn0.step)⟩
   ·
    rw [if_neg c6] at H
    have c6b0 : decide (a1 < 0) = false := decide_eq_false c6
    clear c6
    (first | rw [c6b0] | (simp only [i64_w, i32_w]; rw [c6b0]) | skip)
    have H' := Aside0.mk H
    clear H
    go_wp2
    go_meet
    case rel => exact ⟨_, (decide (a1 > 1048576)), (by first | rfl | (simp; done) | (simp [*]; done)), H', ⟨by first | omega | exact Nat.le_refl _⟩, by repeat (first | exact Drawn0.refl _ | apply Drawn0.step)⟩
  case rest =>
   clear HC5
   try clear c1
   try clear c2
   try clear p2
   try clear c4
   try clear c4b0
   try clear c4b1
   try clear c6
   try clear c6b0
   obtain ⟨kq, x20_4, rfl, HA, HJ4, ⟨mc4, rfl⟩⟩ := hcut
   cases kq with
   | zero => exact absurd HA.out (by simp [estoversref20_Overcommit.j0])
   | succ kj4 =>
    have H := HA.out
    clear HA
    simp only [estoversref20_Overcommit.j0] at H
    by_cases c7 : x20_4 = true
    ·
     subst c7
     have H1 : (some (0, 2)) = some (r1, r2) := by rw [if_pos rfl] at H; exact H
     clear H
     have H := H1
     clear H1
     simp only [Option.some.injEq, Prod.mk.injEq] at H
     obtain ⟨rfl, rfl⟩ := H
     go_wp2
     go_ret2
     exact ⟨by first | rfl | (simp; done) | (simp [*]; done), by repeat (first | exact Drawn0.refl _ | apply Drawn0.step)⟩
    ·
     replace c7 := Bool.eq_false_iff.mpr c7
     subst c7
     have H1 : (estoversref20_Overcommit.l0 kj4 l0 a1 0) = some (r1, r2) := by rw [if_neg (show ¬ (false = true) by decide)] at H; exact H
     clear H
     have H := H1
     clear H1
     have H' := Aside0.mk H
     clear H
     go_wp2
     go_loopg [7] kj4 (fun kq v7 w' => ∃ (x7_2 : Int), v7 = .int .i64 x7_2 ∧ Aside0 (estoversref20_Overcommit.l0 kq l0 a1 x7_2 = some (r1, r2)) ∧ Aside0 (kq ≤ kj4) ∧ Drawn0 w w')
     case atStart => exact ⟨(0), (by first | rfl | (simp; done) | (simp [*]; done)), H', ⟨Nat.le_refl _⟩, by repeat (first | exact Drawn0.refl _ | apply Drawn0.step)⟩
     case round =>
      clear H'
      try clear c1
      try clear c2
      try clear p2
      try clear c4
      try clear c4b0
      try clear c4b1
      try clear c6
      try clear c6b0
      try clear c7
      try clear p2
      obtain ⟨x7_2, rfl, HA, HK2, ⟨m2, rfl⟩⟩ := hrel
      cases gk with
      | zero => exact absurd HA.out (by simp [estoversref20_Overcommit.l0])
      | succ k2 =>
       have H := HA.out
       clear HA
       simp only [estoversref20_Overcommit.l0] at H
       by_cases c8 : x7_2 < (l0.length : Int)
       ·
        rw [if_pos c8] at H
        have c8b0 : decide (x7_2 < (l0.length : Int)) = true := decide_eq_true c8
        clear c8
        have H' := Aside0.mk H
        clear H
        go_wp2
        go_loopg [8, 9] k2 (fun kq v8 v9 w' => ∃ (x8_3 : Int) (x9_3 : Int), v8 = .int .i64 x8_3 ∧ v9 = .int .i64 x9_3 ∧ Aside0 (estoversref20_Overcommit.l1 kq l0 a1 x7_2 x8_3 x9_3 = some (r1, r2)) ∧ Aside0 (kq ≤ k2) ∧ Drawn0 w w')
        case atStart => exact ⟨(0), (wrap64 (x7_2 + 1)), (by first | rfl | (simp; done) | (simp [*]; done)), (by first | rfl | (simp; done) | (simp [*]; done)), H', ⟨Nat.le_refl _⟩, by repeat (first | exact Drawn0.refl _ | apply Drawn0.step)⟩
        case round =>
         clear H'
         try clear c1
         try clear c2
         try clear p2
         try clear c4
         try clear c4b0
         try clear c4b1
         try clear c6
         try clear c6b0
         try clear p6
         try clear c7
         try clear c8
         try clear c8b0
         try clear p2
         obtain ⟨x8_3, x9_3, rfl, rfl, HA, HK3, ⟨m3, rfl⟩⟩ := hrel
         cases gk with
         | zero => exact absurd HA.out (by simp [estoversref20_Overcommit.l1])
         | succ k3 =>
          have H := HA.out
          clear HA
          simp only [estoversref20_Overcommit.l1] at H
          by_cases c9 : x9_3 < (l0.length : Int)
          ·
           rw [if_pos c9] at H
           have c9b0 : decide (x9_3 < (l0.length : Int)) = true := decide_eq_true c9
           clear c9
           by_cases c10 : 0 ≤ x9_3
           ·
            rw [if_pos c10] at H
            have c10b0 : decide (0 ≤ x9_3) = true := decide_eq_true c10
            clear c10
            by_cases c11 : ((rd_T41 l0 x9_3).f0) = x7_2
            ·
             rw [if_pos c11] at H
             have c11b0 : (((rd_T41 l0 x9_3).f0) == x7_2) = true := beq_iff_eq.mpr c11
             have c11b1 : (((rd_T41 l0 x9_3).f0) != x7_2) = false := bne_eq_false_iff_eq.mpr c11
             clear c11
             have H' := Aside0.mk H
             clear H
             have p308 : 0 ≤ (x9_3 : Int) := of_decide_eq_true (by first | (with_reducible assumption) | assumption)
             have q308 : x9_3 < (l0.length : Int) := of_decide_eq_true (by first | (with_reducible assumption) | assumption)
             obtain ⟨ad308, e308, hx308_0, hx308_1, hx308_2, hx308_3, hx308_4⟩ := at_T41 HR0.out x9_3 p308 q308
             cases e308
             replace p308 := eq_true p308
             replace q308 := eq_true q308
             have p309 : 0 ≤ (x9_3 : Int) := of_decide_eq_true (by first | (with_reducible assumption) | assumption)
             have q309 : x9_3 < (l0.length : Int) := of_decide_eq_true (by first | (with_reducible assumption) | assumption)
             obtain ⟨ad309, e309, hx309_0, hx309_1, hx309_2, hx309_3, hx309_4⟩ := at_T41 HR0.out x9_3 p309 q309
             obtain rfl : ad308 = ad309 := (by injection e309)
             replace p309 := eq_true p309
             replace q309 := eq_true q309
             go_wp2
             go_roundg k3
             case measure => have := HJ4.out; have := HK2.out; have := HK3.out; omega
             case rel => exact ⟨(wrap64 (x8_3 + ((rd_T41 l0 x9_3).f2))), (wrap64 (x9_3 + 1)), (by first | rfl | (simp; done) | (simp [*]; done)), (by first | rfl | (simp; done) | (simp [*]; done)), H', ⟨by have := HJ4.out; have := HK2.out; have := HK3.out; omega⟩, by repeat (first | exact Drawn0.refl _ | apply Drawn0.step)⟩
            ·
             rw [if_neg c11] at H
             have c11b0 : (((rd_T41 l0 x9_3).f0) == x7_2) = false := beq_eq_false_iff_ne.mpr c11
             have c11b1 : (((rd_T41 l0 x9_3).f0) != x7_2) = true := bne_iff_ne.mpr c11
             have H' := Aside0.mk H
             clear H
             have p308 : 0 ≤ (x9_3 : Int) := of_decide_eq_true (by first | (with_reducible assumption) | assumption)
             have q308 : x9_3 < (l0.length : Int) := of_decide_eq_true (by first | (with_reducible assumption) | assumption)
             obtain ⟨ad308, e308, hx308_0, hx308_1, hx308_2, hx308_3, hx308_4⟩ := at_T41 HR0.out x9_3 p308 q308
             cases e308
             replace p308 := eq_true p308
             replace q308 := eq_true q308
             go_wp2
             go_roundg k3
             case measure => have := HJ4.out; have := HK2.out; have := HK3.out; omega
             case rel => exact ⟨(x8_3), (wrap64 (x9_3 + 1)), (by first | rfl | (simp; done) | (simp [*]; done)), (by first | rfl | (simp; done) | (simp [*]; done)), H', ⟨by have := HJ4.out; have := HK2.out; have := HK3.out; omega⟩, by repeat (first | exact Drawn0.refl _ | apply Drawn0.step)⟩
           ·
            rw [if_neg c10] at H
            exact absurd H (by simp)
          ·
           rw [if_neg c9] at H
           have c9b0 : decide (x9_3 < (l0.length : Int)) = false := decide_eq_false c9
           clear c9
           have HC12 := Aside0.mk H
           clear H
           go_upto_region 15 with (fail)
           go_cut [68] (fun v68 wc => ∃ (kq : Nat) (x68_11 : Bool), v68 = .bool x68_11 ∧ Aside0 (estoversref20_Overcommit.j3 kq l0 a1 x7_2 x68_11 = some (r1, r2)) ∧ Aside0 (kq ≤ k3) ∧ Drawn0 w wc)
           case first =>
            have H := HC12.out
            clear HC12
            by_cases c13 : x7_2 = 0
            ·
             rw [if_pos c13] at H
             have c13b0 : (x7_2 == 0) = true := beq_iff_eq.mpr c13
             have c13b1 : (x7_2 != 0) = false := bne_eq_false_iff_eq.mpr c13
             clear c13
             (first | rw [c13b0] | (simp only [i64_w, i32_w]; rw [c13b0]) | skip)
             by_cases c14 : x8_3 > a1
             ·
              rw [if_pos c14] at H
              have c14b0 : decide (a1 < x8_3) = true := decide_eq_true c14
              clear c14
              have H' := Aside0.mk H
              clear H
              go_wp2
              go_meet
              case rel => exact ⟨_, (true), (by first | rfl | (simp; done) | (simp [*]; done)), H', ⟨by have := HJ4.out; have := HK2.out; have := HK3.out; first | omega | exact Nat.le_refl _⟩, by repeat (first | exact Drawn0.refl _ | apply Drawn0.step)⟩
             ·
              rw [if_neg c14] at H
              have c14b0 : decide (a1 < x8_3) = false := decide_eq_false c14
              clear c14
              by_cases c15 : x7_2 > 0
              ·
               rw [if_pos c15] at H
               have c15b0 : decide (0 < x7_2) = true := decide_eq_true c15
               clear c15
               by_cases c16 : 0 ≤ x7_2
               ·
                rw [if_pos c16] at H
                have c16b0 : decide (0 ≤ x7_2) = true := decide_eq_true c16
                clear c16
                by_cases c17 : x7_2 < (l0.length : Int)
                ·
                 rw [if_pos c17] at H
                 have c17b0 : decide (x7_2 < (l0.length : Int)) = true := decide_eq_true c17
                 clear c17
                 have H' := Aside0.mk H
                 clear H
                 have p310 : 0 ≤ (x7_2 : Int) := of_decide_eq_true (by first | (with_reducible assumption) | assumption)
                 have q310 : x7_2 < (l0.length : Int) := of_decide_eq_true (by first | (with_reducible assumption) | assumption)
                 obtain ⟨ad310, e310, hx310_0, hx310_1, hx310_2, hx310_3, hx310_4⟩ := at_T41 HR0.out x7_2 p310 q310
                 cases e310
                 replace p310 := eq_true p310
                 replace q310 := eq_true q310
                 go_wp2
                 go_meet
                 case rel => exact ⟨_, (decide (x8_3 > ((rd_T41 l0 x7_2).f2))), (by first | rfl | (simp; done) | (simp [*]; done)), H', ⟨by have := HJ4.out; have := HK2.out; have := HK3.out; first | omega | exact Nat.le_refl _⟩, by repeat (first | exact Drawn0.refl _ | apply Drawn0.step)⟩
                ·
                 rw [if_neg c17] at H
                 exact absurd H (by simp)
               ·
                rw [if_neg c16] at H
                exact absurd H (by simp)
              ·
               rw [if_neg c15] at H
               have c15b0 : decide (0 < x7_2) = false := decide_eq_false c15
               clear c15
               have H' := Aside0.mk H
               clear H
               go_wp2
               go_meet
               case rel => exact ⟨_, (false), (by first | rfl | (simp; done) | (simp [*]; done)), H', ⟨by have := HJ4.out; have := HK2.out; have := HK3.out; first | omega | exact Nat.le_refl _⟩, by repeat (first | exact Drawn0.refl _ | apply Drawn0.step)⟩
            ·
             rw [if_neg c13] at H
             have c13b0 : (x7_2 == 0) = false := beq_eq_false_iff_ne.mpr c13
             have c13b1 : (x7_2 != 0) = true := bne_iff_ne.mpr c13
             (first | rw [c13b0] | (simp only [i64_w, i32_w]; rw [c13b0]) | skip)
             by_cases c18 : x7_2 > 0
             ·
              rw [if_pos c18] at H
              have c18b0 : decide (0 < x7_2) = true := decide_eq_true c18
              clear c18
              by_cases c19 : 0 ≤ x7_2
              ·
               rw [if_pos c19] at H
               have c19b0 : decide (0 ≤ x7_2) = true := decide_eq_true c19
               clear c19
               by_cases c20 : x7_2 < (l0.length : Int)
               ·
                rw [if_pos c20] at H
                have c20b0 : decide (x7_2 < (l0.length : Int)) = true := decide_eq_true c20
                clear c20
                have H' := Aside0.mk H
                clear H
                have p311 : 0 ≤ (x7_2 : Int) := of_decide_eq_true (by first | (with_reducible assumption) | assumption)
                have q311 : x7_2 < (l0.length : Int) := of_decide_eq_true (by first | (with_reducible assumption) | assumption)
                obtain ⟨ad311, e311, hx311_0, hx311_1, hx311_2, hx311_3, hx311_4⟩ := at_T41 HR0.out x7_2 p311 q311
                cases e311
                replace p311 := eq_true p311
                replace q311 := eq_true q311
                go_wp2
                go_meet
                case rel => exact ⟨_, (decide (x8_3 > ((rd_T41 l0 x7_2).f2))), (by first | rfl | (simp; done) | (simp [*]; done)), H', ⟨by have := HJ4.out; have := HK2.out; have := HK3.out; first | omega | exact Nat.le_refl _⟩, by repeat (first | exact Drawn0.refl _ | apply Drawn0.step)⟩
               ·
                rw [if_neg c20] at H
                exact absurd H (by simp)
              ·
               rw [if_neg c19] at H
               exact absurd H (by simp)
             ·
              rw [if_neg c18] at H
              have c18b0 : decide (0 < x7_2) = false := decide_eq_false c18
              clear c18
              have H' := Aside0.mk H
              clear H
              go_wp2
              go_meet
              case rel => exact ⟨_, (false), (by first | rfl | (simp; done) | (simp [*]; done)), H', ⟨by have := HJ4.out; have := HK2.out; have := HK3.out; first | omega | exact Nat.le_refl _⟩, by repeat (first | exact Drawn0.refl _ | apply Drawn0.step)⟩
           case rest =>
            clear HC12
            try clear c1
            try clear c2
            try clear p2
            try clear p3
            try clear q3
            try clear hx3
            try clear c4
            try clear c4b0
            try clear c4b1
            try clear c6
            try clear c6b0
            try clear p6
            try clear c7
            try clear c8
            try clear c8b0
            try clear c9
            try clear c9b0
            try clear c10
            try clear c10b0
            try clear c11
            try clear c11b0
            try clear c11b1
            try clear c13
            try clear c13b0
            try clear c13b1
            try clear c14
            try clear c14b0
            try clear c15
            try clear c15b0
            try clear c16
            try clear c16b0
            try clear c17
            try clear c17b0
            try clear c18
            try clear c18b0
            try clear c19
            try clear c19b0
            try clear c20
            try clear c20b0
            try clear hx308_0
            try clear hx308_1
            try clear hx308_2
            try clear hx308_3
            try clear hx308_4
            try clear hx309_0
            try clear hx309_1
            try clear hx309_2
            try clear hx309_3
            try clear hx309_4
            try clear hx310_0
            try clear hx310_1
            try clear hx310_2
            try clear hx310_3
            try clear hx310_4
            try clear hx311_0
            try clear hx311_1
            try clear hx311_2
            try clear hx311_3
            try clear hx311_4
            try clear p2
            try clear p308
            try clear p309
            try clear p310
            try clear p311
            try clear p6
            try clear q308
            try clear q309
            try clear q310
            try clear q311
            obtain ⟨kq, x68_11, rfl, HA, HJ11, ⟨mc11, rfl⟩⟩ := hcut
            cases kq with
            | zero => exact absurd HA.out (by simp [estoversref20_Overcommit.j3])
            | succ kj11 =>
             have H := HA.out
             clear HA
             simp only [estoversref20_Overcommit.j3] at H
             by_cases c21 : x68_11 = true
             ·
              subst c21
              have H1 : (some (x7_2, 0)) = some (r1, r2) := by rw [if_pos rfl] at H; exact H
              clear H
              have H := H1
              clear H1
              simp only [Option.some.injEq, Prod.mk.injEq] at H
              obtain ⟨rfl, rfl⟩ := H
              go_wp2
              go_ret2
              exact ⟨by first | rfl | (simp; done) | (simp [*]; done), by repeat (first | exact Drawn0.refl _ | apply Drawn0.step)⟩
             ·
              replace c21 := Bool.eq_false_iff.mpr c21
              subst c21
              have H1 : (estoversref20_Overcommit.l0 kj11 l0 a1 (wrap64 (x7_2 + 1))) = some (r1, r2) := by rw [if_neg (show ¬ (false = true) by decide)] at H; exact H
              clear H
              have H := H1
              clear H1
              have H' := Aside0.mk H
              clear H
              go_wp2
              go_roundg kj11
              case measure => have := HJ4.out; have := HK2.out; have := HK3.out; have := HJ11.out; omega
              case rel => exact ⟨(wrap64 (x7_2 + 1)), (by first | rfl | (simp; done) | (simp [*]; done)), H', ⟨by have := HJ4.out; have := HK2.out; have := HK3.out; have := HJ11.out; omega⟩, by repeat (first | exact Drawn0.refl _ | apply Drawn0.step)⟩
       ·
        rw [if_neg c8] at H
        have c8b0 : decide (x7_2 < (l0.length : Int)) = false := decide_eq_false c8
        clear c8
        simp only [Option.some.injEq, Prod.mk.injEq] at H
        obtain ⟨rfl, rfl⟩ := H
        go_wp2
        go_ret2
        exact ⟨by first | rfl | (simp; done) | (simp [*]; done), by repeat (first | exact Drawn0.refl _ | apply Drawn0.step)⟩
 ·
  rw [if_neg c4] at H
  have c4b0 : (t307 == 0) = false := beq_eq_false_iff_ne.mpr c4
  have c4b1 : (t307 != 0) = true := bne_iff_ne.mpr c4
  simp only [Option.some.injEq, Prod.mk.injEq] at H
  obtain ⟨rfl, rfl⟩ := H
  go_enter Try.func19, Try.ntmps19
  go_wp2_with (first | ((with_reducible refine gate_callee (f := 24) rfl ?_); refine goesL_ (some 11) rfl rfl Try.func24 (by kernel_rfl) rfl #[.slice A0 l0.length c0] rfl (by (try simp only [List.map_toArray, List.map_cons, List.map_nil]); first | done | rfl | (simp only [List.length_drop, List.length_take]; rfl)) ?_; (with_reducible refine (estoversref19_Check.calls k _ _ l0 t307 _ ?side1 ?side2 A3.out).mono ?_); (case side1 => repeat (first | exact HR0.out | (with_reducible refine Kd.C_alloc ?_ _) | (with_reducible refine Kd.C_drewN ?_ _) | (with_reducible refine Kd.C_drew ?_))); (case side2 => exact HC0.out); rintro e w' ⟨rfl, ⟨nd, rfl⟩⟩; refine ⟨_, rfl, ?_⟩))
  go_ret2
  exact ⟨by first | rfl | (simp; done) | (simp [*]; done), by repeat (first | exact Drawn0.refl _ | apply Drawn0.step)⟩
end Go.Proofs.Ytilcbkengmggdaa.Pr
