-- Written by a program of this session (a changed copy of the kit's printer). Not trusted: Lean checks it.
import Derived.Test.YteldbkdfphiogaaM0
import Derived.Test.YteldbkdfphiogaaFcowlive
namespace Go.Proofs.Yteldbkdfphiogaa.Pr
open Go.RowKit Go.Proofs.YteldbkdfphiogaaW.PrintWords Go.Proofs.YteldbkdfphiogaaW.PrintLast Go.Proofs.YteldbkdfphiogaaW.PrintMore
attribute [local go_sem] max2_int min2_int max_two min_two max_three min_three max_four min_four   -- for this text's walks alone
set_option linter.unusedVariables false
set_option linter.unusedSimpArgs false
/-! ### cow_at: function 31 -/
def cow_at.j0 : Nat → Bool → Option (Int)
 | 0, _ => none
 | k + 1, x21 => if x21 = true then (some 2) else (some 0)
def cow_at.f (k : Nat) (a0_0 : Int) (l0_1 : List (S62)) (l0_2 : List (S57)) (a0_3 : Int) (a1 : Int) (a2 : Int) : Option (Int) := (cow_live.f k a0_0 l0_1 l0_2 a0_3 a1).bind fun t148 => (if t148 = 0 then (if a2 < 0 then (cow_at.j0 k true) else (cow_at.j0 k (decide (a2 ≥ a0_0)))) else (some t148))
theorem cow_at.mono_l : ∀ k, (∀ y0, LeO (cow_at.j0 k y0) (cow_at.j0 (k + 1) y0))
 | 0 => fun _ r h => by simp [cow_at.j0] at h
 | k + 1 => by
  have ih0 := cow_at.mono_l k
  ·
   intro y0
   unfold cow_at.j0
   repeat' first
    | (with_reducible exact ih0 _)
    | (with_reducible exact cow_live.mono _ _ _ _ _ _)
    | (with_reducible exact LeO.refl _)
    | (with_reducible exact LeO.none _)
    | (with_reducible refine LeO.ite ?_ ?_)
    | (with_reducible refine LeO.bind ?_ (fun _ => ?_))
    | exact ih0 _
    | exact cow_live.mono _ _ _ _ _ _
    | exact LeO.none _
    | refine LeO.ite ?_ ?_
    | refine LeO.bind ?_ (fun _ => ?_)
theorem cow_at.mono : ∀ a0 a1 a2 a3 a4 a5 k, LeO (cow_at.f k a0 a1 a2 a3 a4 a5) (cow_at.f (k + 1) a0 a1 a2 a3 a4 a5) := by
 intro a0 a1 a2 a3 a4 a5 k; have ih0 := cow_at.mono_l k
 unfold cow_at.f
 repeat' first
  | (with_reducible exact ih0 _)
  | (with_reducible exact cow_live.mono _ _ _ _ _ _)
  | (with_reducible exact LeO.refl _)
  | (with_reducible exact LeO.none _)
  | (with_reducible refine LeO.ite ?_ ?_)
  | (with_reducible refine LeO.bind ?_ (fun _ => ?_))
  | exact ih0 _
  | exact cow_live.mono _ _ _ _ _ _
  | exact LeO.none _
  | refine LeO.ite ?_ ?_
  | refine LeO.bind ?_ (fun _ => ?_)
set_option maxHeartbeats 8000000 in
set_option maxRecDepth 100000 in
theorem cow_at.calls (k : Nat) (a0_0 : Int) (A0_1 : Option Addr) (c0_1 : Nat) (l0_1 : List (S62)) (A0_2 : Option Addr) (c0_2 : Nat) (l0_2 : List (S57)) (a0_3 : Int) (a1 : Int) (a2 : Int) (r : Int) (w : World) (hr0_1 : Kd.C k62 w A0_1 l0_1.length l0_1) (hc0_1 : l0_1.length ≤ c0_1) (hr0_2 : Kd.C k57 w A0_2 l0_2.length l0_2) (hc0_2 : l0_2.length ≤ c0_2) (h : cow_at.f k a0_0 l0_1 l0_2 a0_3 a1 a2 = some r) :
 Calls Try.prog 31 #[.agg #[.int .i64 a0_0, .slice A0_1 l0_1.length c0_1, .slice A0_2 l0_2.length c0_2, .int .i64 a0_3], .int .i64 a1, .int .i64 a2] w fun e w' => e = .returned (.int .i64 r) ∧ Below w.heap.size w w' := by
 have hu27 := Try.underlying27; have HR0_1 := Aside0.mk hr0_1; have HC0_1 := Aside0.mk hc0_1; clear hr0_1 hc0_1; have HR0_2 := Aside0.mk hr0_2; have HC0_2 := Aside0.mk hc0_2; clear hr0_2 hc0_2; have HB := Aside0.mk (Below.refl w.heap.size w)
 have H : ((cow_live.f k a0_0 l0_1 l0_2 a0_3 a1).bind fun t148 => (if t148 = 0 then (if a2 < 0 then (cow_at.j0 k true) else (cow_at.j0 k (decide (a2 ≥ a0_0)))) else (some t148))) = some r := h; clear h; replace H := Option.bind_eq_some_iff.mp H; obtain ⟨t148, A40, H⟩ := H
 replace H : (if t148 = 0 then (if a2 < 0 then (cow_at.j0 k true) else (cow_at.j0 k (decide (a2 ≥ a0_0)))) else (some t148)) = some r := H; have A4 := Aside0.mk A40; clear A40; by_cases c5 : t148 = 0
 rotate_left
 ·
  rw [if_neg c5] at H; have c5b0 : (t148 == 0) = false := beq_eq_false_iff_ne.mpr c5; have c5b1 : (t148 != 0) = true := bne_iff_ne.mpr c5; obtain rfl := Option.some.inj H
  go_enter Try.func31, Try.ntmps31
  go_wp2_with (first | ((with_reducible refine gate_dst (N := 3) rfl ?_); refine box_event ?hg (N := 3) ?hd (cs := #[.int .i64 a0_0, .slice A0_1 l0_1.length c0_1, .slice A0_2 l0_2.length c0_2, .int .i64 a0_3]) (t := 27) ?hr ?_; (case hd => rfl); (case hg => rfl); (case hr => first | (go_simp; done) | (go_simp; rfl)); intro gb147 hg w13 hbox hb; have n0_ := Aside0.mk (below_step (by repeat (first | (with_reducible first | exact HB.out | apply b0_ | apply b1_ | apply b2_) | exact HB.out)) hb); have n1_ := Aside0.mk (hbox); have n2_ := Aside0.mk ((by rw [hg]; exact (below_size (by repeat (first | (with_reducible first | exact HB.out | apply b0_ | apply b1_ | apply b2_) | exact HB.out))) : w.heap.size ≤ gb147)); have n3_ := Aside0.mk ((by rw [hg]; exact (below_size (by repeat (first | (with_reducible first | exact HB.out | apply b0_ | apply b1_ | apply b2_) | exact HB.out))) : w.heap.size ≤ gb147)); clear HB; have HB := n0_; have BK147 := n1_; have GW147 := n2_; have GE147 := n3_; clear n0_ n1_ n2_ n3_; clear hb hbox hg; have hcz14_0 : w13.cell? ⟨gb147, 0, none⟩ = some (.int .i64 a0_0) := (blk_cell BK147.out 0).trans rfl; have hcz14_1 : w13.cell? ⟨gb147, 1, none⟩ = some (.slice A0_1 l0_1.length c0_1) := (blk_cell BK147.out 1).trans rfl; have hcz14_2 : w13.cell? ⟨gb147, 2, none⟩ = some (.slice A0_2 l0_2.length c0_2) := (blk_cell BK147.out 2).trans rfl; have hcz14_3 : w13.cell? ⟨gb147, 3, none⟩ = some (.int .i64 a0_3) := (blk_cell BK147.out 3).trans rfl; have hfz14_0 := blk_frozen BK147.out 0; have hfz14_1 := blk_frozen BK147.out 1; have hfz14_2 := blk_frozen BK147.out 2; have hfz14_3 := blk_frozen BK147.out 3) | ((with_reducible refine gate_callee (f := 35) rfl ?_); refine goesL_ (some 10) rfl rfl Try.func35 (by kernel_rfl) rfl #[.agg #[.int .i64 a0_0, .slice A0_1 l0_1.length c0_1, .slice A0_2 l0_2.length c0_2, .int .i64 a0_3], .int .i64 a1] rfl (by (try simp only [z3_, z4_, z5_]); first | done | rfl | (simp only [z6_, z7_]; rfl)) ?_; (with_reducible refine (cow_live.calls k a0_0 _ _ l0_1 _ _ l0_2 a0_3 a1 t148 _ ?side1 ?side2 ?side3 ?side4 A4.out).mono ?_); (case side1 => repeat (first | exact (Kd.C_below HR0_1.out HB.out) | (with_reducible refine Kd.C_alloc ?_ _) | (with_reducible refine Kd.C_drewN ?_ _) | (with_reducible refine Kd.C_drew ?_))); (case side2 => exact HC0_1.out); (case side3 => repeat (first | exact (Kd.C_below HR0_2.out HB.out) | (with_reducible refine Kd.C_alloc ?_ _) | (with_reducible refine Kd.C_drewN ?_ _) | (with_reducible refine Kd.C_drew ?_))); (case side4 => exact HC0_2.out); rintro e w15 ⟨rfl, hb⟩; refine ⟨_, rfl, ?_⟩; have n0_ := Aside0.mk (blk_below (g := gb147) (o := .cells #[.int .i64 a0_0, .slice A0_1 l0_1.length c0_1, .slice A0_2 l0_2.length c0_2, .int .i64 a0_3] 27 (0, 0)) (by (with_reducible repeat (first | refine blk_drewN ?_ _ | refine blk_drew ?_ | refine blk_alloc ?_ _)); exact BK147.out) hb); have n1_ := Aside0.mk (below_step (by repeat (first | (with_reducible first | exact HB.out | apply b0_ | apply b1_ | apply b2_ | refine below_set ?_ GE147.out) | exact HB.out)) hb); clear BK147; clear HB; have BK147 := n0_; have HB := n1_; clear n0_ n1_))
  go_ret; exact ⟨by first | rfl | (simp [errW_none, errW_some] <;> rfl) | (simp [*, errW_none, errW_some] <;> rfl), by repeat (first | (with_reducible first | exact HB.out | apply b0_ | apply b1_ | apply b2_ | refine below_set ?_ GE147.out) | exact HB.out)⟩
 rw [if_pos c5] at H; have c5b0 : (t148 == 0) = true := beq_iff_eq.mpr c5; have c5b1 : (t148 != 0) = false := bne_eq_false_iff_eq.mpr c5; clear c5; have HC6 := Aside0.mk H; clear H
 go_enter Try.func31, Try.ntmps31
 go_upto_region 4 with (first | ((with_reducible refine gate_dst (N := 3) rfl ?_); refine box_event ?hg (N := 3) ?hd (cs := #[.int .i64 a0_0, .slice A0_1 l0_1.length c0_1, .slice A0_2 l0_2.length c0_2, .int .i64 a0_3]) (t := 27) ?hr ?_; (case hd => rfl); (case hg => rfl); (case hr => first | (go_simp; done) | (go_simp; rfl)); intro gb147 hg w7 hbox hb; have n0_ := Aside0.mk (below_step (by repeat (first | (with_reducible first | exact HB.out | apply b0_ | apply b1_ | apply b2_) | exact HB.out)) hb); have n1_ := Aside0.mk (hbox); have n2_ := Aside0.mk ((by rw [hg]; exact (below_size (by repeat (first | (with_reducible first | exact HB.out | apply b0_ | apply b1_ | apply b2_) | exact HB.out))) : w.heap.size ≤ gb147)); have n3_ := Aside0.mk ((by rw [hg]; exact (below_size (by repeat (first | (with_reducible first | exact HB.out | apply b0_ | apply b1_ | apply b2_) | exact HB.out))) : w.heap.size ≤ gb147)); clear HB; have HB := n0_; have BK147 := n1_; have GW147 := n2_; have GE147 := n3_; clear n0_ n1_ n2_ n3_; clear hb hbox hg; have hcz8_0 : w7.cell? ⟨gb147, 0, none⟩ = some (.int .i64 a0_0) := (blk_cell BK147.out 0).trans rfl; have hcz8_1 : w7.cell? ⟨gb147, 1, none⟩ = some (.slice A0_1 l0_1.length c0_1) := (blk_cell BK147.out 1).trans rfl; have hcz8_2 : w7.cell? ⟨gb147, 2, none⟩ = some (.slice A0_2 l0_2.length c0_2) := (blk_cell BK147.out 2).trans rfl; have hcz8_3 : w7.cell? ⟨gb147, 3, none⟩ = some (.int .i64 a0_3) := (blk_cell BK147.out 3).trans rfl; have hfz8_0 := blk_frozen BK147.out 0; have hfz8_1 := blk_frozen BK147.out 1; have hfz8_2 := blk_frozen BK147.out 2; have hfz8_3 := blk_frozen BK147.out 3) | ((with_reducible refine gate_callee (f := 35) rfl ?_); refine goesL_ (some 10) rfl rfl Try.func35 (by kernel_rfl) rfl #[.agg #[.int .i64 a0_0, .slice A0_1 l0_1.length c0_1, .slice A0_2 l0_2.length c0_2, .int .i64 a0_3], .int .i64 a1] rfl (by (try simp only [z3_, z4_, z5_]); first | done | rfl | (simp only [z6_, z7_]; rfl)) ?_; (with_reducible refine (cow_live.calls k a0_0 _ _ l0_1 _ _ l0_2 a0_3 a1 t148 _ ?side1 ?side2 ?side3 ?side4 A4.out).mono ?_); (case side1 => repeat (first | exact (Kd.C_below HR0_1.out HB.out) | (with_reducible refine Kd.C_alloc ?_ _) | (with_reducible refine Kd.C_drewN ?_ _) | (with_reducible refine Kd.C_drew ?_))); (case side2 => exact HC0_1.out); (case side3 => repeat (first | exact (Kd.C_below HR0_2.out HB.out) | (with_reducible refine Kd.C_alloc ?_ _) | (with_reducible refine Kd.C_drewN ?_ _) | (with_reducible refine Kd.C_drew ?_))); (case side4 => exact HC0_2.out); rintro e w9 ⟨rfl, hb⟩; refine ⟨_, rfl, ?_⟩; have n0_ := Aside0.mk (blk_below (g := gb147) (o := .cells #[.int .i64 a0_0, .slice A0_1 l0_1.length c0_1, .slice A0_2 l0_2.length c0_2, .int .i64 a0_3] 27 (0, 0)) (by (with_reducible repeat (first | refine blk_drewN ?_ _ | refine blk_drew ?_ | refine blk_alloc ?_ _)); exact BK147.out) hb); have n1_ := Aside0.mk (below_step (by repeat (first | (with_reducible first | exact HB.out | apply b0_ | apply b1_ | apply b2_ | refine below_set ?_ GE147.out) | exact HB.out)) hb); clear BK147; clear HB; have BK147 := n0_; have HB := n1_; clear n0_ n1_))
 (try simp only [Act.put, List.setIfInBounds_toArray, List.set_cons_zero, List.set_cons_succ])
 go_cut [21] (fun v21 wc => ∃ (kq : Nat) (x21_5 : Bool), v21 = .bool x21_5 ∧ Aside0 (cow_at.j0 kq x21_5 = some r) ∧ Aside0 (kq ≤ k) ∧ Aside0 (wc.heap[gb147]? = some (.cells #[.int .i64 a0_0, (.slice A0_1 l0_1.length c0_1), (.slice A0_2 l0_2.length c0_2), .int .i64 a0_3] 27 (0, 0))) ∧ Aside0 (Below w.heap.size w wc))
 case first =>
  have H := HC6.out; clear HC6; by_cases c10 : a2 < 0
  rotate_left
  ·
   rw [if_neg c10] at H; have c10b0 : decide (a2 < 0) = false := decide_eq_false c10; clear c10
   (first | rw [c10b0] | (simp only [i64_w, i32_w]; rw [c10b0]) | skip)
   have H' := Aside0.mk H; clear H; have hcz11_0 : w9.cell? ⟨gb147, 0, none⟩ = some (.int .i64 a0_0) := (blk_cell BK147.out 0).trans rfl; have hcz11_1 : w9.cell? ⟨gb147, 1, none⟩ = some (.slice A0_1 l0_1.length c0_1) := (blk_cell BK147.out 1).trans rfl; have hcz11_2 : w9.cell? ⟨gb147, 2, none⟩ = some (.slice A0_2 l0_2.length c0_2) := (blk_cell BK147.out 2).trans rfl
   have hcz11_3 : w9.cell? ⟨gb147, 3, none⟩ = some (.int .i64 a0_3) := (blk_cell BK147.out 3).trans rfl; have hfz11_0 := blk_frozen BK147.out 0; have hfz11_1 := blk_frozen BK147.out 1; have hfz11_2 := blk_frozen BK147.out 2; have hfz11_3 := blk_frozen BK147.out 3; go_wp2
   go_meet
   case rel => exact ⟨_, (decide (a2 ≥ a0_0)), (by first | rfl | (simp; done) | (simp [*]; done)), H', ⟨by first | omega | exact Nat.le_refl _⟩, ⟨by (with_reducible repeat (first | refine blk_drewN ?_ _ | refine blk_drew ?_ | refine blk_alloc ?_ _)); exact BK147.out⟩, ⟨by repeat (first | (with_reducible first | exact HB.out | apply b0_ | apply b1_ | apply b2_ | refine below_set ?_ GE147.out) | exact HB.out)⟩⟩
  rw [if_pos c10] at H; have c10b0 : decide (a2 < 0) = true := decide_eq_true c10; clear c10
  (first | rw [c10b0] | (simp only [i64_w, i32_w]; rw [c10b0]) | skip)
  have H' := Aside0.mk H; clear H; go_wp2
  go_meet
  case rel => exact ⟨_, (true), (by first | rfl | (simp; done) | (simp [*]; done)), H', ⟨by first | omega | exact Nat.le_refl _⟩, ⟨by (with_reducible repeat (first | refine blk_drewN ?_ _ | refine blk_drew ?_ | refine blk_alloc ?_ _)); exact BK147.out⟩, ⟨by repeat (first | (with_reducible first | exact HB.out | apply b0_ | apply b1_ | apply b2_ | refine below_set ?_ GE147.out) | exact HB.out)⟩⟩
 case rest =>
  clear HC6; obtain ⟨kq, x21_5, rfl, HA, HJ5, BK147, HB⟩ := hcut
  cases kq with
   | zero => exact absurd HA.out (by simp [cow_at.j0])
   | succ kj5 =>
    have H := HA.out; clear HA; simp only [cow_at.j0] at H; by_cases c12 : x21_5 = true
    rotate_left
    ·
     replace c12 := Bool.eq_false_iff.mpr c12; subst c12
     have H1 : (some 0) = some r := by rw [if_neg (show ¬ (false = true) by decide)] at H; exact H
     clear H; have H := H1; clear H1; obtain rfl := Option.some.inj H; go_wp2; go_ret; exact ⟨by first | rfl | (simp [errW_none, errW_some] <;> rfl) | (simp [*, errW_none, errW_some] <;> rfl), by repeat (first | (with_reducible first | exact HB.out | apply b0_ | apply b1_ | apply b2_ | refine below_set ?_ GE147.out) | exact HB.out)⟩
    subst c12
    have H1 : (some 2) = some r := by rw [if_pos rfl] at H; exact H
    clear H; have H := H1; clear H1; obtain rfl := Option.some.inj H; go_wp2; go_ret; exact ⟨by first | rfl | (simp [errW_none, errW_some] <;> rfl) | (simp [*, errW_none, errW_some] <;> rfl), by repeat (first | (with_reducible first | exact HB.out | apply b0_ | apply b1_ | apply b2_ | refine below_set ?_ GE147.out) | exact HB.out)⟩
end Go.Proofs.Yteldbkdfphiogaa.Pr
