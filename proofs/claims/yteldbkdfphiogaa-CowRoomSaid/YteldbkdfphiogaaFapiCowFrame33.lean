-- Written by a program of this session (a changed copy of the kit's printer). Not trusted: Lean checks it.
import Derived.Test.YteldbkdfphiogaaM0
import Derived.Test.YteldbkdfphiogaaM1
namespace Go.Proofs.Yteldbkdfphiogaa.Pr
open Go.RowKit Go.Proofs.YteldbkdfphiogaaW.PrintWords Go.Proofs.YteldbkdfphiogaaW.PrintLast Go.Proofs.YteldbkdfphiogaaW.PrintMore
attribute [local go_sem] max2_int min2_int max_two min_two max_three min_three max_four min_four   -- for this text's walks alone
set_option linter.unusedVariables false
set_option linter.unusedSimpArgs false
/-! ### api_CowFrame_33: function 33 -/
def api_CowFrame_33.l0 : Nat → List (S57) → Int → Int → Option (Int)
 | 0, _, _, _ => none
 | k + 1, x0, x7, x8 => if x8 < x7 then (if 0 ≤ x8 then (if x8 < (x0.length : Int) then ((cow_Write_1.f ((rd_T57 x0 x8).f0) ((rd_T57 x0 x8).f1)).bind fun t151 => (if t151 = true then (some x8) else (api_CowFrame_33.l0 k x0 x7 (wrap64 (x8 + 1))))) else (none)) else (none)) else (some (-1))
def api_CowFrame_33.f (k : Nat) (l0 : List (S57))  : Option (Int) := api_CowFrame_33.l0 k l0 (l0.length : Int) 0
theorem api_CowFrame_33.mono_l : ∀ k, (∀ y0 y1 y2, LeO (api_CowFrame_33.l0 k y0 y1 y2) (api_CowFrame_33.l0 (k + 1) y0 y1 y2))
 | 0 => fun _ _ _ r h => by simp [api_CowFrame_33.l0] at h
 | k + 1 => by
  have ih0 := api_CowFrame_33.mono_l k
  ·
   intro y0 y1 y2
   unfold api_CowFrame_33.l0
   repeat' first
    | (with_reducible exact ih0 _ _ _)
    | (with_reducible exact LeO.refl _)
    | (with_reducible exact LeO.none _)
    | (with_reducible refine LeO.ite ?_ ?_)
    | (with_reducible refine LeO.bind ?_ (fun _ => ?_))
    | exact ih0 _ _ _
    | exact LeO.none _
    | refine LeO.ite ?_ ?_
    | refine LeO.bind ?_ (fun _ => ?_)
theorem api_CowFrame_33.mono : ∀ a0 k, LeO (api_CowFrame_33.f k a0) (api_CowFrame_33.f (k + 1) a0) := by
 intro a0 k; have ih0 := api_CowFrame_33.mono_l k
 unfold api_CowFrame_33.f
 repeat' first
  | (with_reducible exact ih0 _ _ _)
  | (with_reducible exact LeO.refl _)
  | (with_reducible exact LeO.none _)
  | (with_reducible refine LeO.ite ?_ ?_)
  | (with_reducible refine LeO.bind ?_ (fun _ => ?_))
  | exact ih0 _ _ _
  | exact LeO.none _
  | refine LeO.ite ?_ ?_
  | refine LeO.bind ?_ (fun _ => ?_)
set_option maxHeartbeats 8000000 in
set_option maxRecDepth 100000 in
theorem api_CowFrame_33.calls (k : Nat) (A0 : Option Addr) (c0 : Nat) (l0 : List (S57))  (r : Int) (w : World) (hr0 : Kd.C k57 w A0 l0.length l0) (hc0 : l0.length ≤ c0) (h : api_CowFrame_33.f k l0 = some r) :
 Calls Try.prog 33 #[.slice A0 l0.length c0, .func (.func 34) #[] #[]] w fun e w' => e = .returned (.int .i64 r) ∧ Below w.heap.size w w' := by
 have hu57 := Try.underlying57; have HR0 := Aside0.mk hr0; have HC0 := Aside0.mk hc0; clear hr0 hc0; have HB := Aside0.mk (Below.refl w.heap.size w); have H : (api_CowFrame_33.l0 k l0 (l0.length : Int) 0) = some r := h; clear h; have H' := Aside0.mk H; clear H
 go_enter Try.func33, Try.ntmps33
 go_wp2
 go_loopg [8] k (fun kq v8 w' => ∃ (x8_1 : Int), v8 = .int .i64 x8_1 ∧ Aside0 (api_CowFrame_33.l0 kq l0 (l0.length : Int) x8_1 = some r) ∧ Aside0 (kq ≤ k) ∧ Aside0 (Below w.heap.size w w'))
 case atStart => exact ⟨(0), (by first | rfl | (simp; done) | (simp [*]; done)), H', ⟨Nat.le_refl _⟩, ⟨by repeat (first | (with_reducible first | exact HB.out | apply b0_ | apply b1_ | apply b2_) | exact HB.out)⟩⟩
 case round =>
  clear H'; obtain ⟨x8_1, rfl, HA, HK1, HB⟩ := hrel
  cases gk with
   | zero => exact absurd HA.out (by simp [api_CowFrame_33.l0])
   | succ k1 =>
    have H := HA.out; clear HA; simp only [api_CowFrame_33.l0] at H; by_cases c3 : x8_1 < (l0.length : Int)
    rotate_left
    · rw [if_neg c3] at H; have c3b0 : decide (x8_1 < (l0.length : Int)) = false := decide_eq_false c3; clear c3; obtain rfl := Option.some.inj H; go_wp2; go_ret; exact ⟨by first | rfl | (simp [errW_none, errW_some] <;> rfl) | (simp [*, errW_none, errW_some] <;> rfl), by repeat (first | (with_reducible first | exact HB.out | apply b0_ | apply b1_ | apply b2_) | exact HB.out)⟩
    rw [if_pos c3] at H; have c3b0 : decide (x8_1 < (l0.length : Int)) = true := decide_eq_true c3; clear c3; by_cases c4 : 0 ≤ x8_1
    rotate_left
    · rw [if_neg c4] at H; exact absurd H (by simp)
    rw [if_pos c4] at H; have c4b0 : decide (0 ≤ x8_1) = true := decide_eq_true c4; clear c4; by_cases c5 : x8_1 < (l0.length : Int)
    rotate_left
    · rw [if_neg c5] at H; exact absurd H (by simp)
    rw [if_pos c5] at H; have c5b0 : decide (x8_1 < (l0.length : Int)) = true := decide_eq_true c5; clear c5; replace H := Option.bind_eq_some_iff.mp H; obtain ⟨t151, A60, H⟩ := H; replace H : (if t151 = true then (some x8_1) else (api_CowFrame_33.l0 k1 l0 (l0.length : Int) (wrap64 (x8_1 + 1)))) = some r := H; have A6 := Aside0.mk A60; clear A60; by_cases c7 : t151 = true
    rotate_left
    ·
     replace c7 := Bool.eq_false_iff.mpr c7; subst c7
     have H1 : (api_CowFrame_33.l0 k1 l0 (l0.length : Int) (wrap64 (x8_1 + 1))) = some r := by rw [if_neg (show ¬ (false = true) by decide)] at H; exact H
     clear H; have H := H1; clear H1; have H' := Aside0.mk H; clear H; have p150 : 0 ≤ (x8_1 : Int) := of_decide_eq_true (by first | (with_reducible assumption) | assumption); have q150 : x8_1 < (l0.length : Int) := of_decide_eq_true (by first | (with_reducible assumption) | assumption); obtain ⟨ad150, e150, hx150_0, hx150_1⟩ := at_T57 HR0.out x8_1 p150 q150; cases e150
     replace hx150_0 := (HB.out.cell (World.block_lt_of_cell? w _ hx150_0)).trans hx150_0; replace hx150_1 := (HB.out.cell (World.block_lt_of_cell? w _ hx150_1)).trans hx150_1; replace p150 := eq_true p150; replace q150 := eq_true q150
     go_wp2_with (first | (go_at_call 34; (with_reducible refine (cow_Write_1.calls ((rd_T57 l0 x8_1).f0) ((rd_T57 l0 x8_1).f1) false _ A6.out).mono ?_); rintro e w9 ⟨rfl, hb⟩; have n0_ := Aside0.mk (below_step (by repeat (first | (with_reducible first | exact HB.out | apply b0_ | apply b1_ | apply b2_) | exact HB.out)) hb); clear HB; have HB := n0_; clear n0_))
     go_roundg k1
     case measure => have := HK1.out; omega
     case rel => exact ⟨(wrap64 (x8_1 + 1)), (by first | rfl | (simp; done) | (simp [*]; done)), H', ⟨by have := HK1.out; omega⟩, ⟨by repeat (first | (with_reducible first | exact HB.out | apply b0_ | apply b1_ | apply b2_) | exact HB.out)⟩⟩
    subst c7
    have H1 : (some x8_1) = some r := by rw [if_pos rfl] at H; exact H
    clear H; have H := H1; clear H1; obtain rfl := Option.some.inj H; have p150 : 0 ≤ (x8_1 : Int) := of_decide_eq_true (by first | (with_reducible assumption) | assumption); have q150 : x8_1 < (l0.length : Int) := of_decide_eq_true (by first | (with_reducible assumption) | assumption); obtain ⟨ad150, e150, hx150_0, hx150_1⟩ := at_T57 HR0.out x8_1 p150 q150; cases e150
    replace hx150_0 := (HB.out.cell (World.block_lt_of_cell? w _ hx150_0)).trans hx150_0; replace hx150_1 := (HB.out.cell (World.block_lt_of_cell? w _ hx150_1)).trans hx150_1; replace p150 := eq_true p150; replace q150 := eq_true q150
    go_wp2_with (first | (go_at_call 34; (with_reducible refine (cow_Write_1.calls ((rd_T57 l0 x8_1).f0) ((rd_T57 l0 x8_1).f1) true _ A6.out).mono ?_); rintro e w8 ⟨rfl, hb⟩; have n0_ := Aside0.mk (below_step (by repeat (first | (with_reducible first | exact HB.out | apply b0_ | apply b1_ | apply b2_) | exact HB.out)) hb); clear HB; have HB := n0_; clear n0_))
    go_ret; exact ⟨by first | rfl | (simp [errW_none, errW_some] <;> rfl) | (simp [*, errW_none, errW_some] <;> rfl), by repeat (first | (with_reducible first | exact HB.out | apply b0_ | apply b1_ | apply b2_) | exact HB.out)⟩
end Go.Proofs.Yteldbkdfphiogaa.Pr
