-- Written by a program of this session (a changed copy of the kit's printer). Not trusted: Lean checks it.
import Derived.Test.YtilcbkengmggdaaM0
import Derived.Test.YtilcbkengmggdaaFestoversref19has
namespace Go.Proofs.Ytilcbkengmggdaa.Pr
open Go.RowKit Go.Proofs.YtilcbkengmggdaaW.PrintWords Go.Proofs.YtilcbkengmggdaaW.PrintLast Go.Proofs.YtilcbkengmggdaaW.PrintMore
attribute [local go_sem] max2_int min2_int max_two min_two max_three min_three max_four min_four   -- for this text's walks alone
set_option linter.unusedVariables false
set_option linter.unusedSimpArgs false
/-! ### estoversref19_Path: function 38 -/
def estoversref19_Path.l0 : Nat → List (S41) → Int → List Int → Option (List Int)
 | 0, _, _, _ => none
 | k + 1, x0, x1, x5 => if x1 ≥ 0 then (if x5.length < 17592186044416 then (if 0 ≤ x1 then (if x1 < (x0.length : Int) then (estoversref19_Path.l0 k x0 ((rd_T41 x0 x1).f0) (x5 ++ [x1])) else (none)) else (none)) else (none)) else (some x5)
def estoversref19_Path.f (k : Nat) (l0 : List (S41)) (a1 : Int) : Option (List Int) := (estoversref19_has.f k l0 a1).bind fun t271 => (if t271 = true then (estoversref19_Path.l0 k l0 a1 ([] : List Int)) else (some ([] : List Int)))
theorem estoversref19_Path.mono_l : ∀ k, (∀ y0 y1 y2, LeO (estoversref19_Path.l0 k y0 y1 y2) (estoversref19_Path.l0 (k + 1) y0 y1 y2))
 | 0 => fun _ _ _ r h => by simp [estoversref19_Path.l0] at h
 | k + 1 => by
  have ih0 := estoversref19_Path.mono_l k
  ·
   intro y0 y1 y2
   unfold estoversref19_Path.l0
   repeat' first
   | (with_reducible exact ih0 _ _ _)
   | (with_reducible exact estoversref19_has.mono _ _ _)
   | (with_reducible exact LeO.refl _)
   | (with_reducible exact LeO.none _)
   | (with_reducible refine LeO.ite ?_ ?_)
   | (with_reducible refine LeO.bind ?_ (fun _ => ?_))
   | exact ih0 _ _ _
   | exact estoversref19_has.mono _ _ _
   | exact LeO.none _
   | refine LeO.ite ?_ ?_
   | refine LeO.bind ?_ (fun _ => ?_)
theorem estoversref19_Path.mono : ∀ a0 a1 k, LeO (estoversref19_Path.f k a0 a1) (estoversref19_Path.f (k + 1) a0 a1) := by
 intro a0 a1 k
 have ih0 := estoversref19_Path.mono_l k
 unfold estoversref19_Path.f
 repeat' first
   | (with_reducible exact ih0 _ _ _)
   | (with_reducible exact estoversref19_has.mono _ _ _)
   | (with_reducible exact LeO.refl _)
   | (with_reducible exact LeO.none _)
   | (with_reducible refine LeO.ite ?_ ?_)
   | (with_reducible refine LeO.bind ?_ (fun _ => ?_))
   | exact ih0 _ _ _
   | exact estoversref19_has.mono _ _ _
   | exact LeO.none _
   | refine LeO.ite ?_ ?_
   | refine LeO.bind ?_ (fun _ => ?_)
set_option maxHeartbeats 8000000 in
set_option maxRecDepth 100000 in
theorem estoversref19_Path.calls (k : Nat) (A0 : Option Addr) (c0 : Nat) (l0 : List (S41)) (a1 : Int) (r : List Int) (w : World) (hr0 : Kd.C k41 w A0 l0.length l0) (hc0 : l0.length ≤ c0) (h : estoversref19_Path.f k l0 a1 = some r) :
  Calls Try.prog 38 #[.slice A0 l0.length c0, .int .i64 a1] w fun e w' => ∃ v0_ : Value, e = .returned (v0_) ∧ Kd.R (Kd.int .i64) 3 w' w.heap.size (fun _ => True) v0_ r ∧ Below w.heap.size w w' := by
 have HR0 := Aside0.mk hr0
 have HC0 := Aside0.mk hc0
 clear hr0 hc0
 have HB := Aside0.mk (Below.refl w.heap.size w)
 have H : ((estoversref19_has.f k l0 a1).bind fun t271 => (if t271 = true then (estoversref19_Path.l0 k l0 a1 ([] : List Int)) else (some ([] : List Int)))) = some r := h
 clear h
 replace H := Option.bind_eq_some_iff.mp H
 obtain ⟨t271, A30, H⟩ := H
 replace H : (if t271 = true then (estoversref19_Path.l0 k l0 a1 ([] : List Int)) else (some ([] : List Int))) = some r := H
 have A3 := Aside0.mk A30
 clear A30
 by_cases c4 : t271 = true
 ·
  subst c4
  have H1 : (estoversref19_Path.l0 k l0 a1 ([] : List Int)) = some r := by rw [if_pos rfl] at H; exact H
  clear H
  have H := H1
  clear H1
  have H' := Aside0.mk H
  clear H
  go_enter Try.func38, Try.ntmps38
  go_wp2_with (first | ((with_reducible refine gate_callee (f := 37) rfl ?_); refine goesL_ (some 8) rfl rfl Try.func37 (by kernel_rfl) rfl #[.slice A0 l0.length c0, .int .i64 a1] rfl (by (try simp only [List.map_toArray, List.map_cons, List.map_nil]); first | done | rfl | (simp only [List.length_drop, List.length_take]; rfl)) ?_; (with_reducible refine (estoversref19_has.calls k _ _ l0 a1 true _ ?side1 ?side2 A3.out).mono ?_); (case side1 => repeat (first | exact HR0.out | (with_reducible refine Kd.C_alloc ?_ _) | (with_reducible refine Kd.C_drewN ?_ _) | (with_reducible refine Kd.C_drew ?_))); (case side2 => exact HC0.out); rintro e w' ⟨rfl, ⟨nd, rfl⟩⟩; refine ⟨_, rfl, ?_⟩))
  go_loopg [1, 5] k (fun kq v1 v5 w' => ∃ (x1_1 : Int) (x5_1 : List Int), v1 = .int .i64 x1_1 ∧ Aside0 (estoversref19_Path.l0 kq l0 x1_1 x5_1 = some r) ∧ Aside0 (kq ≤ k) ∧ Aside0 (Kd.R (Kd.int .i64) 3 w' w.heap.size (fun _ => True) v5 x5_1) ∧ Aside0 (Below w.heap.size w w'))
  case atStart => exact ⟨(a1), (([] : List Int)), (by first | rfl | (simp; done) | (simp [*]; done)), H', ⟨Nat.le_refl _⟩, ⟨by first | exact Kd.R_nil _ _ _ _ _ | exact Kd.N_nil _ _ _ _ _ | exact Kd.V_nil _ _ _ _ _ | exact Kd.Q_nil _ _ _ _ _ | exact Kd.S_nil _ _ _ _ _⟩, ⟨by repeat (first | (with_reducible first | exact HB.out | apply below_alloc | apply pw_below_drewN | apply below_drew1) | exact HB.out)⟩⟩
  case round =>
   clear H'
   try clear p2
   try clear c3
   try clear c4
   obtain ⟨x1_1, x5_1, rfl, HA, HK1, HO_5, HB⟩ := hrel
   cases gk with
   | zero => exact absurd HA.out (by simp [estoversref19_Path.l0])
   | succ k1 =>
    have H := HA.out
    clear HA
    simp only [estoversref19_Path.l0] at H
    by_cases c5 : x1_1 ≥ 0
    ·
     rw [if_pos c5] at H
     have c5b0 : decide (0 ≤ x1_1) = true := decide_eq_true c5
     clear c5
     by_cases c6 : x5_1.length < 17592186044416
     ·
      rw [if_pos c6] at H
      have LMc6 := Aside0.mk c6
      clear c6
      obtain ⟨y272, hy272⟩ : ∃ y_ : List Int, y_ = (x5_1 ++ [x1_1]) := ⟨_, rfl⟩
      replace H : (if 0 ≤ x1_1 then (if x1_1 < (l0.length : Int) then (estoversref19_Path.l0 k1 l0 ((rd_T41 l0 x1_1).f0) y272) else (none)) else (none)) = some r := by first | (rw [hy272]; with_reducible exact H) | (have H2_ := (Option.bind_some _ _).symm.trans H; rw [hy272]; with_reducible exact H2_) | (have H2_ := (Option.bind_some _ _).symm.trans H; with_reducible exact H2_) | with_reducible exact H | (rw [hy272]; exact H) | exact H
      have Ny272 := Aside0.mk hy272
      clear hy272
      by_cases c7 : 0 ≤ x1_1
      ·
       rw [if_pos c7] at H
       have c7b0 : decide (0 ≤ x1_1) = true := decide_eq_true c7
       clear c7
       by_cases c8 : x1_1 < (l0.length : Int)
       ·
        rw [if_pos c8] at H
        have c8b0 : decide (x1_1 < (l0.length : Int)) = true := decide_eq_true c8
        clear c8
        have H' := Aside0.mk H
        clear H
        go_wp2_with (first | ((with_reducible refine gate_builtin (b := .append) (xs := #[.tmp 12, .tmp 14]) rfl ?_); at_builtin; refine Kd.R_append (Kd.int .i64) (w0 := w) w.heap.size rfl (.tmp 12) (.tmp 14) 25 3 (.int .i64 0) 8 rfl Try.underlying25 info3 rfl (by decide) (by omega) u5 x5_1 x1_1 [.int .i64 x1_1] (fun _ => True) (fun _ => False) rfl rfl ?aP (fun _ hk => hk.elim) ?aF ?aO ?aB ?aS ?aL ?_; (case aP => exact rfl); (case aB => exact (by repeat (first | (with_reducible first | exact HB.out | apply below_alloc | apply pw_below_drewN | apply below_drew1) | exact HB.out))); (case aF => exact (fun _ _ => trivial)); (case aO => exact (by (with_reducible repeat (first | apply Kd.R_alloc | apply Kd.R_drewN | apply Kd.R_drew)); exact HO_5.out)); (case aS => exact (below_size (by repeat (first | (with_reducible first | exact HB.out | apply below_alloc | apply pw_below_drewN | apply below_drew1) | exact HB.out)))); (case aL => have := LMc6.out; omega); intro v273 w9 ho hb hg hat; rw [← Ny272.out] at ho; have n0_ := Aside0.mk (hb); have n1_ := Aside0.mk (ho); clear HB; clear HO_5; have HB := n0_; have HO274 := n1_; clear n0_ n1_; clear ho hb hg hat; have p275 : 0 ≤ (x1_1 : Int) := of_decide_eq_true (by first | (with_reducible assumption) | assumption); have q275 : x1_1 < (l0.length : Int) := of_decide_eq_true (by first | (with_reducible assumption) | assumption); obtain ⟨ad275, e275, hx275_0, hx275_1, hx275_2, hx275_3, hx275_4⟩ := at_T41 HR0.out x1_1 p275 q275; cases e275; replace hx275_0 := (HB.out.cell (World.block_lt_of_cell? w _ hx275_0)).trans hx275_0; replace hx275_1 := (HB.out.cell (World.block_lt_of_cell? w _ hx275_1)).trans hx275_1; replace hx275_2 := (HB.out.cell (World.block_lt_of_cell? w _ hx275_2)).trans hx275_2; replace hx275_3 := (HB.out.cell (World.block_lt_of_cell? w _ hx275_3)).trans hx275_3; replace hx275_4 := (HB.out.cell (World.block_lt_of_cell? w _ hx275_4)).trans hx275_4; replace p275 := eq_true p275; replace q275 := eq_true q275))
        go_roundg k1
        case measure => have := HK1.out; omega
        case rel => exact ⟨((rd_T41 l0 x1_1).f0), (y272), (by first | rfl | (simp; done) | (simp [*]; done)), H', ⟨by have := HK1.out; omega⟩, ⟨by (with_reducible repeat (first | apply Kd.R_alloc | apply Kd.R_drewN | apply Kd.R_drew)); exact HO274.out⟩, ⟨by repeat (first | (with_reducible first | exact HB.out | apply below_alloc | apply pw_below_drewN | apply below_drew1) | exact HB.out)⟩⟩
       ·
        rw [if_neg c8] at H
        exact absurd H (by simp)
      ·
       rw [if_neg c7] at H
       exact absurd H (by simp)
     ·
      rw [if_neg c6] at H
      exact absurd H (by simp)
    ·
     rw [if_neg c5] at H
     have c5b0 : decide (0 ≤ x1_1) = false := decide_eq_false c5
     clear c5
     obtain rfl := Option.some.inj H
     go_wp2
     go_ret
     exact ⟨_, by first | rfl | (simp [errW_none, errW_some] <;> rfl) | (simp [*, errW_none, errW_some] <;> rfl), by (with_reducible repeat (first | apply Kd.R_alloc | apply Kd.R_drewN | apply Kd.R_drew)); exact HO_5.out, by repeat (first | (with_reducible first | exact HB.out | apply below_alloc | apply pw_below_drewN | apply below_drew1) | exact HB.out)⟩
 ·
  replace c4 := Bool.eq_false_iff.mpr c4
  subst c4
  have H1 : (some ([] : List Int)) = some r := by rw [if_neg (show ¬ (false = true) by decide)] at H; exact H
  clear H
  have H := H1
  clear H1
  obtain rfl := Option.some.inj H
  go_enter Try.func38, Try.ntmps38
  go_wp2_with (first | ((with_reducible refine gate_callee (f := 37) rfl ?_); refine goesL_ (some 8) rfl rfl Try.func37 (by kernel_rfl) rfl #[.slice A0 l0.length c0, .int .i64 a1] rfl (by (try simp only [List.map_toArray, List.map_cons, List.map_nil]); first | done | rfl | (simp only [List.length_drop, List.length_take]; rfl)) ?_; (with_reducible refine (estoversref19_has.calls k _ _ l0 a1 false _ ?side1 ?side2 A3.out).mono ?_); (case side1 => repeat (first | exact HR0.out | (with_reducible refine Kd.C_alloc ?_ _) | (with_reducible refine Kd.C_drewN ?_ _) | (with_reducible refine Kd.C_drew ?_))); (case side2 => exact HC0.out); rintro e w' ⟨rfl, ⟨nd, rfl⟩⟩; refine ⟨_, rfl, ?_⟩))
  go_ret
  exact ⟨_, by first | rfl | (simp [errW_none, errW_some] <;> rfl) | (simp [*, errW_none, errW_some] <;> rfl), by first | exact Kd.R_nil _ _ _ _ _ | exact Kd.N_nil _ _ _ _ _ | exact Kd.V_nil _ _ _ _ _ | exact Kd.Q_nil _ _ _ _ _ | exact Kd.S_nil _ _ _ _ _, by repeat (first | (with_reducible first | exact HB.out | apply below_alloc | apply pw_below_drewN | apply below_drew1) | exact HB.out)⟩
end Go.Proofs.Ytilcbkengmggdaa.Pr
