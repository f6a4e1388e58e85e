-- Written by a program of this session (a changed copy of the kit's printer). Not trusted: Lean checks it.
import Derived.Test.YteldbkdfphiogaaM0
namespace Go.Proofs.Yteldbkdfphiogaa.Pr
open Go.RowKit Go.Proofs.YteldbkdfphiogaaW.PrintWords Go.Proofs.YteldbkdfphiogaaW.PrintLast Go.Proofs.YteldbkdfphiogaaW.PrintMore
attribute [local go_sem] max2_int min2_int max_two min_two max_three min_three max_four min_four   -- for this text's walks alone
set_option linter.unusedVariables false
set_option linter.unusedSimpArgs false
/-! ### cow_forms: function 47 -/
mutual
def cow_forms.l0 : Nat → List (S62) → Int → Int → Int → List (S62) → List (S57) → Int → Option (Bool)
 | 0, _, _, _, _, _, _, _ => none
 | k + 1, x8, x9, x10, x115000, x115001, x115002, x115003 => if x10 < x9 then (if 0 ≤ x10 then (if x10 < (x8.length : Int) then (if ((rd_T62 x8 x10).f0 = true) then (if (rd_T62 x8 x10).f0 = true then (cow_forms.j1 k x8 x9 x10 ((((rd_T62 x8 x10).f1).length : Int) != x115000) x115000 x115001 x115002 x115003 ((rd_T62 x8 x10).f0) ((rd_T62 x8 x10).f1)) else (cow_forms.j1 k x8 x9 x10 false x115000 x115001 x115002 x115003 ((rd_T62 x8 x10).f0) ((rd_T62 x8 x10).f1))) else (if (((rd_T62 x8 x10).f1).length : Int) > 0 then (cow_forms.j1 k x8 x9 x10 true x115000 x115001 x115002 x115003 ((rd_T62 x8 x10).f0) ((rd_T62 x8 x10).f1)) else (if (rd_T62 x8 x10).f0 = true then (cow_forms.j1 k x8 x9 x10 ((((rd_T62 x8 x10).f1).length : Int) != x115000) x115000 x115001 x115002 x115003 ((rd_T62 x8 x10).f0) ((rd_T62 x8 x10).f1)) else (cow_forms.j1 k x8 x9 x10 false x115000 x115001 x115002 x115003 ((rd_T62 x8 x10).f0) ((rd_T62 x8 x10).f1))))) else (none)) else (none)) else (some true)
def cow_forms.j1 : Nat → List (S62) → Int → Int → Bool → Int → List (S62) → List (S57) → Int → Bool → List (S64) → Option (Bool)
 | 0, _, _, _, _, _, _, _, _, _, _ => none
 | k + 1, x8, x9, x10, x34, x115000, x115001, x115002, x115003, x117000, x117001 => if x34 = true then (some false) else (cow_forms.l1 k x8 x9 x10 x117001 (x117001.length : Int) 0 x115000 x115001 x115002 x115003)
def cow_forms.l1 : Nat → List (S62) → Int → Int → List (S64) → Int → Int → Int → List (S62) → List (S57) → Int → Option (Bool)
 | 0, _, _, _, _, _, _, _, _, _, _ => none
 | k + 1, x8, x9, x10, x36, x37, x38, x115000, x115001, x115002, x115003 => if x38 < x37 then (if 0 ≤ x38 then (if x38 < (x36.length : Int) then (if ((rd_T64 x36 x38).f0) < (-1) then (cow_forms.j3 k x8 x9 x10 x36 x37 x38 true x115000 x115001 x115002 x115003) else (if ((rd_T64 x36 x38).f0) ≥ (x115002.length : Int) then (cow_forms.j3 k x8 x9 x10 x36 x37 x38 true x115000 x115001 x115002 x115003) else (if ((rd_T64 x36 x38).f0) = (-1) then (cow_forms.j3 k x8 x9 x10 x36 x37 x38 ((rd_T64 x36 x38).f1) x115000 x115001 x115002 x115003) else (cow_forms.j3 k x8 x9 x10 x36 x37 x38 false x115000 x115001 x115002 x115003)))) else (none)) else (none)) else (cow_forms.l0 k x8 x9 (wrap64 (x10 + 1)) x115000 x115001 x115002 x115003)
def cow_forms.j3 : Nat → List (S62) → Int → Int → List (S64) → Int → Int → Bool → Int → List (S62) → List (S57) → Int → Option (Bool)
 | 0, _, _, _, _, _, _, _, _, _, _, _ => none
 | k + 1, x8, x9, x10, x36, x37, x38, x61, x115000, x115001, x115002, x115003 => if x61 = true then (some false) else (cow_forms.l1 k x8 x9 x10 x36 x37 (wrap64 (x38 + 1)) x115000 x115001 x115002 x115003)
end
def cow_forms.f (k : Nat) (a0_0 : Int) (l0_1 : List (S62)) (l0_2 : List (S57)) (a0_3 : Int) : Option (Bool) := cow_forms.l0 k l0_1 (l0_1.length : Int) 0 a0_0 l0_1 l0_2 a0_3
theorem cow_forms.mono_l : ∀ k, (∀ y0 y1 y2 y3 y4 y5 y6, LeO (cow_forms.l0 k y0 y1 y2 y3 y4 y5 y6) (cow_forms.l0 (k + 1) y0 y1 y2 y3 y4 y5 y6)) ∧ (∀ y0 y1 y2 y3 y4 y5 y6 y7 y8 y9, LeO (cow_forms.j1 k y0 y1 y2 y3 y4 y5 y6 y7 y8 y9) (cow_forms.j1 (k + 1) y0 y1 y2 y3 y4 y5 y6 y7 y8 y9)) ∧ (∀ y0 y1 y2 y3 y4 y5 y6 y7 y8 y9, LeO (cow_forms.l1 k y0 y1 y2 y3 y4 y5 y6 y7 y8 y9) (cow_forms.l1 (k + 1) y0 y1 y2 y3 y4 y5 y6 y7 y8 y9)) ∧ (∀ y0 y1 y2 y3 y4 y5 y6 y7 y8 y9 y10, LeO (cow_forms.j3 k y0 y1 y2 y3 y4 y5 y6 y7 y8 y9 y10) (cow_forms.j3 (k + 1) y0 y1 y2 y3 y4 y5 y6 y7 y8 y9 y10))
 | 0 => ⟨fun _ _ _ _ _ _ _ r h => by simp [cow_forms.l0] at h, fun _ _ _ _ _ _ _ _ _ _ r h => by simp [cow_forms.j1] at h, fun _ _ _ _ _ _ _ _ _ _ r h => by simp [cow_forms.l1] at h, fun _ _ _ _ _ _ _ _ _ _ _ r h => by simp [cow_forms.j3] at h⟩
 | k + 1 => by
  obtain ⟨ih0, ih1, ih2, ih3⟩ := cow_forms.mono_l k; refine ⟨?_, ?_, ?_, ?_⟩
  ·
   intro y0 y1 y2 y3 y4 y5 y6
   unfold cow_forms.l0
   repeat' first
    | (with_reducible exact ih0 _ _ _ _ _ _ _)
    | (with_reducible exact ih1 _ _ _ _ _ _ _ _ _ _)
    | (with_reducible exact ih2 _ _ _ _ _ _ _ _ _ _)
    | (with_reducible exact ih3 _ _ _ _ _ _ _ _ _ _ _)
    | (with_reducible exact LeO.refl _)
    | (with_reducible exact LeO.none _)
    | (with_reducible refine LeO.ite ?_ ?_)
    | (with_reducible refine LeO.bind ?_ (fun _ => ?_))
    | exact ih0 _ _ _ _ _ _ _
    | exact ih1 _ _ _ _ _ _ _ _ _ _
    | exact ih2 _ _ _ _ _ _ _ _ _ _
    | exact ih3 _ _ _ _ _ _ _ _ _ _ _
    | exact LeO.none _
    | refine LeO.ite ?_ ?_
    | refine LeO.bind ?_ (fun _ => ?_)
  ·
   intro y0 y1 y2 y3 y4 y5 y6 y7 y8 y9
   unfold cow_forms.j1
   repeat' first
    | (with_reducible exact ih0 _ _ _ _ _ _ _)
    | (with_reducible exact ih1 _ _ _ _ _ _ _ _ _ _)
    | (with_reducible exact ih2 _ _ _ _ _ _ _ _ _ _)
    | (with_reducible exact ih3 _ _ _ _ _ _ _ _ _ _ _)
    | (with_reducible exact LeO.refl _)
    | (with_reducible exact LeO.none _)
    | (with_reducible refine LeO.ite ?_ ?_)
    | (with_reducible refine LeO.bind ?_ (fun _ => ?_))
    | exact ih0 _ _ _ _ _ _ _
    | exact ih1 _ _ _ _ _ _ _ _ _ _
    | exact ih2 _ _ _ _ _ _ _ _ _ _
    | exact ih3 _ _ _ _ _ _ _ _ _ _ _
    | exact LeO.none _
    | refine LeO.ite ?_ ?_
    | refine LeO.bind ?_ (fun _ => ?_)
  ·
   intro y0 y1 y2 y3 y4 y5 y6 y7 y8 y9
   unfold cow_forms.l1
   repeat' first
    | (with_reducible exact ih0 _ _ _ _ _ _ _)
    | (with_reducible exact ih1 _ _ _ _ _ _ _ _ _ _)
    | (with_reducible exact ih2 _ _ _ _ _ _ _ _ _ _)
    | (with_reducible exact ih3 _ _ _ _ _ _ _ _ _ _ _)
    | (with_reducible exact LeO.refl _)
    | (with_reducible exact LeO.none _)
    | (with_reducible refine LeO.ite ?_ ?_)
    | (with_reducible refine LeO.bind ?_ (fun _ => ?_))
    | exact ih0 _ _ _ _ _ _ _
    | exact ih1 _ _ _ _ _ _ _ _ _ _
    | exact ih2 _ _ _ _ _ _ _ _ _ _
    | exact ih3 _ _ _ _ _ _ _ _ _ _ _
    | exact LeO.none _
    | refine LeO.ite ?_ ?_
    | refine LeO.bind ?_ (fun _ => ?_)
  ·
   intro y0 y1 y2 y3 y4 y5 y6 y7 y8 y9 y10
   unfold cow_forms.j3
   repeat' first
    | (with_reducible exact ih0 _ _ _ _ _ _ _)
    | (with_reducible exact ih1 _ _ _ _ _ _ _ _ _ _)
    | (with_reducible exact ih2 _ _ _ _ _ _ _ _ _ _)
    | (with_reducible exact ih3 _ _ _ _ _ _ _ _ _ _ _)
    | (with_reducible exact LeO.refl _)
    | (with_reducible exact LeO.none _)
    | (with_reducible refine LeO.ite ?_ ?_)
    | (with_reducible refine LeO.bind ?_ (fun _ => ?_))
    | exact ih0 _ _ _ _ _ _ _
    | exact ih1 _ _ _ _ _ _ _ _ _ _
    | exact ih2 _ _ _ _ _ _ _ _ _ _
    | exact ih3 _ _ _ _ _ _ _ _ _ _ _
    | exact LeO.none _
    | refine LeO.ite ?_ ?_
    | refine LeO.bind ?_ (fun _ => ?_)
theorem cow_forms.mono : ∀ a0 a1 a2 a3 k, LeO (cow_forms.f k a0 a1 a2 a3) (cow_forms.f (k + 1) a0 a1 a2 a3) := by
 intro a0 a1 a2 a3 k; obtain ⟨ih0, ih1, ih2, ih3⟩ := cow_forms.mono_l k
 unfold cow_forms.f
 repeat' first
  | (with_reducible exact ih0 _ _ _ _ _ _ _)
  | (with_reducible exact ih1 _ _ _ _ _ _ _ _ _ _)
  | (with_reducible exact ih2 _ _ _ _ _ _ _ _ _ _)
  | (with_reducible exact ih3 _ _ _ _ _ _ _ _ _ _ _)
  | (with_reducible exact LeO.refl _)
  | (with_reducible exact LeO.none _)
  | (with_reducible refine LeO.ite ?_ ?_)
  | (with_reducible refine LeO.bind ?_ (fun _ => ?_))
  | exact ih0 _ _ _ _ _ _ _
  | exact ih1 _ _ _ _ _ _ _ _ _ _
  | exact ih2 _ _ _ _ _ _ _ _ _ _
  | exact ih3 _ _ _ _ _ _ _ _ _ _ _
  | exact LeO.none _
  | refine LeO.ite ?_ ?_
  | refine LeO.bind ?_ (fun _ => ?_)
set_option maxHeartbeats 8000000 in
set_option maxRecDepth 100000 in
theorem cow_forms.calls (k : Nat) (a0_0 : Int) (A0_1 : Option Addr) (c0_1 : Nat) (l0_1 : List (S62)) (A0_2 : Option Addr) (c0_2 : Nat) (l0_2 : List (S57)) (a0_3 : Int) (r : Bool) (w : World) (hr0_1 : Kd.C k62 w A0_1 l0_1.length l0_1) (hc0_1 : l0_1.length ≤ c0_1) (hr0_2 : Kd.C k57 w A0_2 l0_2.length l0_2) (hc0_2 : l0_2.length ≤ c0_2) (h : cow_forms.f k a0_0 l0_1 l0_2 a0_3 = some r) :
 Calls Try.prog 47 #[.agg #[.int .i64 a0_0, .slice A0_1 l0_1.length c0_1, .slice A0_2 l0_2.length c0_2, .int .i64 a0_3]] w fun e w' => e = .returned (.bool r) ∧ Below w.heap.size w w' := by
 have hu27 := Try.underlying27; have hu62 := Try.underlying62; have hu64 := Try.underlying64; have HR0_1 := Aside0.mk hr0_1; have HC0_1 := Aside0.mk hc0_1; clear hr0_1 hc0_1; have HR0_2 := Aside0.mk hr0_2; have HC0_2 := Aside0.mk hc0_2; clear hr0_2 hc0_2; have HB := Aside0.mk (Below.refl w.heap.size w); have H : (cow_forms.l0 k l0_1 (l0_1.length : Int) 0 a0_0 l0_1 l0_2 a0_3) = some r := h; clear h
 have H' := Aside0.mk H; clear H
 go_enter Try.func47, Try.ntmps47
 go_wp2_with (first | ((with_reducible refine gate_dst (N := 1) rfl ?_); (try (refine gate_guard (by rfl) ?_; dsimp only)); refine box_event ?hg (N := 1) ?hd (cs := #[.int .i64 a0_0, .slice A0_1 l0_1.length c0_1, .slice A0_2 l0_2.length c0_2, .int .i64 a0_3]) (t := 27) ?hr ?_; (case hd => rfl); (case hg => rfl); (case hr => first | (go_simp; done) | (go_simp; rfl)); intro gb114 hg w2 hbox hb; have n0_ := Aside0.mk (below_step (by repeat (first | (with_reducible first | exact HB.out | apply b0_ | apply b1_ | apply b2_) | exact HB.out)) hb); have n1_ := Aside0.mk (hbox); have n2_ := Aside0.mk ((by rw [hg]; exact (below_size (by repeat (first | (with_reducible first | exact HB.out | apply b0_ | apply b1_ | apply b2_) | exact HB.out))) : w.heap.size ≤ gb114)); have n3_ := Aside0.mk ((by rw [hg]; exact (below_size (by repeat (first | (with_reducible first | exact HB.out | apply b0_ | apply b1_ | apply b2_) | exact HB.out))) : w.heap.size ≤ gb114)); clear HB; have HB := n0_; have BK114 := n1_; have GW114 := n2_; have GE114 := n3_; clear n0_ n1_ n2_ n3_; clear hb hbox hg; have hcz3_0 : w2.cell? ⟨gb114, 0, none⟩ = some (.int .i64 a0_0) := (blk_cell BK114.out 0).trans rfl; have hcz3_1 : w2.cell? ⟨gb114, 1, none⟩ = some (.slice A0_1 l0_1.length c0_1) := (blk_cell BK114.out 1).trans rfl; have hcz3_2 : w2.cell? ⟨gb114, 2, none⟩ = some (.slice A0_2 l0_2.length c0_2) := (blk_cell BK114.out 2).trans rfl; have hcz3_3 : w2.cell? ⟨gb114, 3, none⟩ = some (.int .i64 a0_3) := (blk_cell BK114.out 3).trans rfl; have hfz3_0 := blk_frozen BK114.out 0; have hfz3_1 := blk_frozen BK114.out 1; have hfz3_2 := blk_frozen BK114.out 2; have hfz3_3 := blk_frozen BK114.out 3))
 go_loopg [10] k (fun kq v10 w' => ∃ (x10_1 : Int), v10 = .int .i64 x10_1 ∧ Aside0 (cow_forms.l0 kq l0_1 (l0_1.length : Int) x10_1 a0_0 l0_1 l0_2 a0_3 = some r) ∧ Aside0 (kq ≤ k) ∧ Aside0 (w'.heap[gb114]? = some (.cells #[.int .i64 a0_0, (.slice A0_1 l0_1.length c0_1), (.slice A0_2 l0_2.length c0_2), .int .i64 a0_3] 27 (0, 0))) ∧ Aside0 (Below w.heap.size w w'))
 case atStart => exact ⟨(0), (by first | rfl | (simp; done) | (simp [*]; done)), H', ⟨Nat.le_refl _⟩, ⟨by (with_reducible repeat (first | refine blk_drewN ?_ _ | refine blk_drew ?_ | refine blk_alloc ?_ _)); exact BK114.out⟩, ⟨by repeat (first | (with_reducible first | exact HB.out | apply b0_ | apply b1_ | apply b2_ | refine below_set ?_ GE114.out) | exact HB.out)⟩⟩
 case round =>
  clear H'; obtain ⟨x10_1, rfl, HA, HK1, BK114, HB⟩ := hrel
  cases gk with
   | zero => exact absurd HA.out (by simp [cow_forms.l0])
   | succ k1 =>
    have H := HA.out; clear HA; simp only [cow_forms.l0] at H; by_cases c4 : x10_1 < (l0_1.length : Int)
    rotate_left
    ·
     rw [if_neg c4] at H; have c4b0 : decide (x10_1 < (l0_1.length : Int)) = false := decide_eq_false c4; clear c4; obtain rfl := Option.some.inj H; go_wp2; go_ret
     exact ⟨by first | rfl | (simp [errW_none, errW_some] <;> rfl) | (simp [*, errW_none, errW_some] <;> rfl), by repeat (first | (with_reducible first | exact HB.out | apply b0_ | apply b1_ | apply b2_ | refine below_set ?_ GE114.out) | exact HB.out)⟩
    rw [if_pos c4] at H; have c4b0 : decide (x10_1 < (l0_1.length : Int)) = true := decide_eq_true c4; clear c4; by_cases c5 : 0 ≤ x10_1
    rotate_left
    · rw [if_neg c5] at H; exact absurd H (by simp)
    rw [if_pos c5] at H; have c5b0 : decide (0 ≤ x10_1) = true := decide_eq_true c5; clear c5; by_cases c6 : x10_1 < (l0_1.length : Int)
    rotate_left
    · rw [if_neg c6] at H; exact absurd H (by simp)
    rw [if_pos c6] at H; have c6b0 : decide (x10_1 < (l0_1.length : Int)) = true := decide_eq_true c6; clear c6; have HC7 := Aside0.mk H; clear H; have p115 : 0 ≤ (x10_1 : Int) := of_decide_eq_true (by first | (with_reducible assumption) | assumption); have q115 : x10_1 < (l0_1.length : Int) := of_decide_eq_true (by first | (with_reducible assumption) | assumption)
    obtain ⟨ad115, A115_1, c115_1, e115, hx115_0, hx115_1, hl115_1, hi115_1⟩ := at_T62 HR0_1.out x10_1 p115 q115; cases e115; replace hx115_0 := (HB.out.cell (World.block_lt_of_cell? w _ hx115_0)).trans hx115_0; replace hx115_1 := (HB.out.cell (World.block_lt_of_cell? w _ hx115_1)).trans hx115_1; have HR115_1 := Aside0.mk hi115_1; have HC115_1 := Aside0.mk hl115_1; clear hi115_1 hl115_1
    replace p115 := eq_true p115; replace q115 := eq_true q115
    go_upto_region 4 with (first | ((with_reducible refine gate_dst (N := 4) rfl ?_); (try (refine gate_guard (by rfl) ?_; dsimp only)); refine box_event ?hg (N := 4) ?hd (cs := #[.bool false, .slice none 0 0]) (t := 62) ?hr ?_; (case hd => rfl); (case hg => rfl); (case hr => first | (go_simp; done) | (go_simp; rfl)); intro gb116 hg w8 hbox hb; have n0_ := Aside0.mk (blk_below (g := gb114) (o := .cells #[.int .i64 a0_0, .slice (some ad115) l0_1.length c0_1, .slice A0_2 l0_2.length c0_2, .int .i64 a0_3] 27 (0, 0)) (by (with_reducible repeat (first | refine blk_drewN ?_ _ | refine blk_drew ?_ | refine blk_alloc ?_ _)); exact BK114.out) hb); have n1_ := Aside0.mk (below_step (by repeat (first | (with_reducible first | exact HB.out | apply b0_ | apply b1_ | apply b2_ | refine below_set ?_ GE114.out) | exact HB.out)) hb); have n2_ := Aside0.mk (hbox); have n3_ := Aside0.mk ((by rw [hg]; exact (below_size (by repeat (first | (with_reducible first | exact HB.out | apply b0_ | apply b1_ | apply b2_ | refine below_set ?_ GE114.out) | exact HB.out))) : w.heap.size ≤ gb116)); have n4_ := Aside0.mk ((by rw [hg]; exact (below_size (by repeat (first | (with_reducible first | exact HB.out | apply b0_ | apply b1_ | apply b2_ | refine below_set ?_ GE114.out) | exact HB.out))) : w.heap.size ≤ gb116)); have n5_ := Aside0.mk ((by rw [hg]; exact Nat.ne_of_lt (blk_lt (g := gb114) (o := .cells #[.int .i64 a0_0, .slice (some ad115) l0_1.length c0_1, .slice A0_2 l0_2.length c0_2, .int .i64 a0_3] 27 (0, 0)) (by (with_reducible repeat (first | refine blk_drewN ?_ _ | refine blk_drew ?_ | refine blk_alloc ?_ _)); exact BK114.out)) : gb114 ≠ gb116)); have n6_ := Aside0.mk ((by rw [hg]; exact Nat.ne_of_gt (blk_lt (g := gb114) (o := .cells #[.int .i64 a0_0, .slice (some ad115) l0_1.length c0_1, .slice A0_2 l0_2.length c0_2, .int .i64 a0_3] 27 (0, 0)) (by (with_reducible repeat (first | refine blk_drewN ?_ _ | refine blk_drew ?_ | refine blk_alloc ?_ _)); exact BK114.out)) : gb116 ≠ gb114)); clear BK114; clear HB; have BK114 := n0_; have HB := n1_; have BK116 := n2_; have GW116 := n3_; have GE116 := n4_; have NB114_116 := n5_; have NB116_114 := n6_; clear n0_ n1_ n2_ n3_ n4_ n5_ n6_; clear hb hbox hg; have hnb9 := NB116_114.out; have hnc9 := NB114_116.out; have hcz10_0 : w8.cell? ⟨gb116, 0, none⟩ = some (.bool false) := (blk_cell BK116.out 0).trans rfl; have hcz10_1 : w8.cell? ⟨gb116, 1, none⟩ = some (.slice none 0 0) := (blk_cell BK116.out 1).trans rfl; have hfz10_0 := blk_frozen BK116.out 0; have hfz10_1 := blk_frozen BK116.out 1))
    (try simp only [Act.put, List.setIfInBounds_toArray, List.set_cons_zero, List.set_cons_succ])
    go_cut [34] (fun v34 wc => ∃ (kq : Nat) (x34_6 : Bool), v34 = .bool x34_6 ∧ Aside0 (cow_forms.j1 kq l0_1 (l0_1.length : Int) x10_1 x34_6 a0_0 l0_1 l0_2 a0_3 ((rd_T62 l0_1 x10_1).f0) ((rd_T62 l0_1 x10_1).f1) = some r) ∧ Aside0 (kq ≤ k1) ∧ Aside0 (wc.heap[gb114]? = some (.cells #[.int .i64 a0_0, (.slice (some ad115) l0_1.length c0_1), (.slice A0_2 l0_2.length c0_2), .int .i64 a0_3] 27 (0, 0))) ∧ Aside0 (wc.heap[gb116]? = some (.cells #[.bool ((rd_T62 l0_1 x10_1).f0), (.slice A115_1 ((rd_T62 l0_1 x10_1).f1).length c115_1)] 62 (0, 0))) ∧ Aside0 (Below w.heap.size w wc))
    case first =>
     have H := HC7.out; clear HC7; obtain ⟨bq11, hbq11⟩ : ∃ b_ : Bool, b_ = ((rd_T62 l0_1 x10_1).f0) := ⟨_, rfl⟩
     replace H : (if (bq11 = true) then (if bq11 = true then (cow_forms.j1 k1 l0_1 (l0_1.length : Int) x10_1 ((((rd_T62 l0_1 x10_1).f1).length : Int) != a0_0) a0_0 l0_1 l0_2 a0_3 bq11 ((rd_T62 l0_1 x10_1).f1)) else (cow_forms.j1 k1 l0_1 (l0_1.length : Int) x10_1 false a0_0 l0_1 l0_2 a0_3 bq11 ((rd_T62 l0_1 x10_1).f1))) else (if (((rd_T62 l0_1 x10_1).f1).length : Int) > 0 then (cow_forms.j1 k1 l0_1 (l0_1.length : Int) x10_1 true a0_0 l0_1 l0_2 a0_3 bq11 ((rd_T62 l0_1 x10_1).f1)) else (if bq11 = true then (cow_forms.j1 k1 l0_1 (l0_1.length : Int) x10_1 ((((rd_T62 l0_1 x10_1).f1).length : Int) != a0_0) a0_0 l0_1 l0_2 a0_3 bq11 ((rd_T62 l0_1 x10_1).f1)) else (cow_forms.j1 k1 l0_1 (l0_1.length : Int) x10_1 false a0_0 l0_1 l0_2 a0_3 bq11 ((rd_T62 l0_1 x10_1).f1))))) = some r := by rw [← hbq11] at H; exact H
     have Nbq11 := Aside0.mk hbq11; clear hbq11
     (try rw [← Nbq11.out])
     by_cases c12 : (bq11 = true)
     rotate_left
     ·
      replace c12 := Bool.eq_false_iff.mpr c12; subst c12
      have H1 : (if (((rd_T62 l0_1 x10_1).f1).length : Int) > 0 then (cow_forms.j1 k1 l0_1 (l0_1.length : Int) x10_1 true a0_0 l0_1 l0_2 a0_3 false ((rd_T62 l0_1 x10_1).f1)) else (if false = true then (cow_forms.j1 k1 l0_1 (l0_1.length : Int) x10_1 ((((rd_T62 l0_1 x10_1).f1).length : Int) != a0_0) a0_0 l0_1 l0_2 a0_3 false ((rd_T62 l0_1 x10_1).f1)) else (cow_forms.j1 k1 l0_1 (l0_1.length : Int) x10_1 false a0_0 l0_1 l0_2 a0_3 false ((rd_T62 l0_1 x10_1).f1)))) = some r := by rw [if_neg (show ¬ (false = true) by decide)] at H; exact H
      clear H; have H := H1; clear H1; by_cases c19 : (((rd_T62 l0_1 x10_1).f1).length : Int) > 0
      rotate_left
      ·
       rw [if_neg c19] at H; have c19b0 : decide (0 < (((rd_T62 l0_1 x10_1).f1).length : Int)) = false := decide_eq_false c19; have c19b1 : decide (0 < ((rd_T62 l0_1 x10_1).f1).length) = false := decide_eq_false (by omega); clear c19; by_cases c22 : false = true
       rotate_left
       ·
        clear c22
        have H1 : (cow_forms.j1 k1 l0_1 (l0_1.length : Int) x10_1 false a0_0 l0_1 l0_2 a0_3 false ((rd_T62 l0_1 x10_1).f1)) = some r := by rw [if_neg (show ¬ (false = true) by decide)] at H; exact H
        clear H; have H := H1; clear H1; have H' := Aside0.mk H; clear H; have hnb26 := NB116_114.out; have hnc26 := NB114_116.out; have hcz27_0 : w8.cell? ⟨gb116, 0, none⟩ = some (.bool false) := (blk_cell BK116.out 0).trans rfl; have hcz27_1 : w8.cell? ⟨gb116, 1, none⟩ = some (.slice none 0 0) := (blk_cell BK116.out 1).trans rfl; have hfz27_0 := blk_frozen BK116.out 0
        have hfz27_1 := blk_frozen BK116.out 1; go_wp2
        (first | go_meet | (refine Met.intro ?_; go_step; (repeat apply Exists.intro); refine ⟨?rel, by rw [← Nbq11.out]⟩))
        case rel => (try rw [← Nbq11.out]); exact ⟨_, (false), (by first | rfl | (simp; done) | (simp [*]; done)), H', ⟨by have := HK1.out; first | omega | exact Nat.le_refl _⟩, ⟨by (with_reducible repeat (first | refine blk_drewN ?_ _ | refine blk_drew ?_ | refine blk_alloc ?_ _)); refine blk_far ?_ NB114_116.out _; (with_reducible repeat (first | refine blk_drewN ?_ _ | refine blk_drew ?_ | refine blk_alloc ?_ _)); refine blk_far ?_ NB114_116.out _; (with_reducible repeat (first | refine blk_drewN ?_ _ | refine blk_drew ?_ | refine blk_alloc ?_ _)); exact BK114.out⟩, ⟨by (with_reducible repeat (first | refine blk_drewN ?_ _ | refine blk_drew ?_ | refine blk_alloc ?_ _)); refine blk_put (cs := #[.bool (false), .slice none 0 0]) ?_ 1 _ rfl; (with_reducible repeat (first | refine blk_drewN ?_ _ | refine blk_drew ?_ | refine blk_alloc ?_ _)); refine blk_put (cs := #[.bool false, .slice none 0 0]) ?_ 0 _ rfl; (with_reducible repeat (first | refine blk_drewN ?_ _ | refine blk_drew ?_ | refine blk_alloc ?_ _)); exact BK116.out⟩, ⟨by repeat (first | (with_reducible first | exact HB.out | apply b0_ | apply b1_ | apply b2_ | refine below_set ?_ GE114.out | refine below_set ?_ GE116.out) | exact HB.out)⟩⟩
       exact absurd c22 (by decide)
      rw [if_pos c19] at H; have c19b0 : decide (0 < (((rd_T62 l0_1 x10_1).f1).length : Int)) = true := decide_eq_true c19; have c19b1 : decide (0 < ((rd_T62 l0_1 x10_1).f1).length) = true := decide_eq_true (by omega); clear c19; have H' := Aside0.mk H; clear H; have hnb20 := NB116_114.out; have hnc20 := NB114_116.out
      have hcz21_0 : w8.cell? ⟨gb116, 0, none⟩ = some (.bool false) := (blk_cell BK116.out 0).trans rfl; have hcz21_1 : w8.cell? ⟨gb116, 1, none⟩ = some (.slice none 0 0) := (blk_cell BK116.out 1).trans rfl; have hfz21_0 := blk_frozen BK116.out 0; have hfz21_1 := blk_frozen BK116.out 1; go_wp2
      (first | go_meet | (refine Met.intro ?_; go_step; (repeat apply Exists.intro); refine ⟨?rel, by rw [← Nbq11.out]⟩))
      case rel => (try rw [← Nbq11.out]); exact ⟨_, (true), (by first | rfl | (simp; done) | (simp [*]; done)), H', ⟨by have := HK1.out; first | omega | exact Nat.le_refl _⟩, ⟨by (with_reducible repeat (first | refine blk_drewN ?_ _ | refine blk_drew ?_ | refine blk_alloc ?_ _)); refine blk_far ?_ NB114_116.out _; (with_reducible repeat (first | refine blk_drewN ?_ _ | refine blk_drew ?_ | refine blk_alloc ?_ _)); refine blk_far ?_ NB114_116.out _; (with_reducible repeat (first | refine blk_drewN ?_ _ | refine blk_drew ?_ | refine blk_alloc ?_ _)); exact BK114.out⟩, ⟨by (with_reducible repeat (first | refine blk_drewN ?_ _ | refine blk_drew ?_ | refine blk_alloc ?_ _)); refine blk_put (cs := #[.bool (false), .slice none 0 0]) ?_ 1 _ rfl; (with_reducible repeat (first | refine blk_drewN ?_ _ | refine blk_drew ?_ | refine blk_alloc ?_ _)); refine blk_put (cs := #[.bool false, .slice none 0 0]) ?_ 0 _ rfl; (with_reducible repeat (first | refine blk_drewN ?_ _ | refine blk_drew ?_ | refine blk_alloc ?_ _)); exact BK116.out⟩, ⟨by repeat (first | (with_reducible first | exact HB.out | apply b0_ | apply b1_ | apply b2_ | refine below_set ?_ GE114.out | refine below_set ?_ GE116.out) | exact HB.out)⟩⟩
     subst c12
     have H1 : (if true = true then (cow_forms.j1 k1 l0_1 (l0_1.length : Int) x10_1 ((((rd_T62 l0_1 x10_1).f1).length : Int) != a0_0) a0_0 l0_1 l0_2 a0_3 true ((rd_T62 l0_1 x10_1).f1)) else (cow_forms.j1 k1 l0_1 (l0_1.length : Int) x10_1 false a0_0 l0_1 l0_2 a0_3 true ((rd_T62 l0_1 x10_1).f1))) = some r := by rw [if_pos rfl] at H; exact H
     clear H; have H := H1; clear H1; by_cases c13 : true = true
     rotate_left
     · exact absurd rfl c13
     clear c13
     have H1 : (cow_forms.j1 k1 l0_1 (l0_1.length : Int) x10_1 ((((rd_T62 l0_1 x10_1).f1).length : Int) != a0_0) a0_0 l0_1 l0_2 a0_3 true ((rd_T62 l0_1 x10_1).f1)) = some r := by rw [if_pos rfl] at H; exact H
     clear H; have H := H1; clear H1; have H' := Aside0.mk H; clear H; have hnb14 := NB116_114.out; have hnc14 := NB114_116.out; have hcz15_0 : w8.cell? ⟨gb116, 0, none⟩ = some (.bool false) := (blk_cell BK116.out 0).trans rfl; have hcz15_1 : w8.cell? ⟨gb116, 1, none⟩ = some (.slice none 0 0) := (blk_cell BK116.out 1).trans rfl; have hfz15_0 := blk_frozen BK116.out 0
     have hfz15_1 := blk_frozen BK116.out 1; have hcz16_0 : w8.cell? ⟨gb114, 0, none⟩ = some (.int .i64 a0_0) := (blk_cell BK114.out 0).trans rfl; have hcz16_1 : w8.cell? ⟨gb114, 1, none⟩ = some (.slice (some ad115) l0_1.length c0_1) := (blk_cell BK114.out 1).trans rfl; have hcz16_2 : w8.cell? ⟨gb114, 2, none⟩ = some (.slice A0_2 l0_2.length c0_2) := (blk_cell BK114.out 2).trans rfl
     have hcz16_3 : w8.cell? ⟨gb114, 3, none⟩ = some (.int .i64 a0_3) := (blk_cell BK114.out 3).trans rfl; have hfz16_0 := blk_frozen BK114.out 0; have hfz16_1 := blk_frozen BK114.out 1; have hfz16_2 := blk_frozen BK114.out 2; have hfz16_3 := blk_frozen BK114.out 3; go_wp2
     (first | go_meet | (refine Met.intro ?_; go_step; (repeat apply Exists.intro); refine ⟨?rel, by rw [← Nbq11.out]⟩))
     case rel => (try rw [← Nbq11.out]); exact ⟨_, (((((rd_T62 l0_1 x10_1).f1).length : Int) != a0_0)), (by first | rfl | (simp; done) | (simp [*]; done)), H', ⟨by have := HK1.out; first | omega | exact Nat.le_refl _⟩, ⟨by (with_reducible repeat (first | refine blk_drewN ?_ _ | refine blk_drew ?_ | refine blk_alloc ?_ _)); refine blk_far ?_ NB114_116.out _; (with_reducible repeat (first | refine blk_drewN ?_ _ | refine blk_drew ?_ | refine blk_alloc ?_ _)); refine blk_far ?_ NB114_116.out _; (with_reducible repeat (first | refine blk_drewN ?_ _ | refine blk_drew ?_ | refine blk_alloc ?_ _)); exact BK114.out⟩, ⟨by (with_reducible repeat (first | refine blk_drewN ?_ _ | refine blk_drew ?_ | refine blk_alloc ?_ _)); refine blk_put (cs := #[.bool (true), .slice none 0 0]) ?_ 1 _ rfl; (with_reducible repeat (first | refine blk_drewN ?_ _ | refine blk_drew ?_ | refine blk_alloc ?_ _)); refine blk_put (cs := #[.bool false, .slice none 0 0]) ?_ 0 _ rfl; (with_reducible repeat (first | refine blk_drewN ?_ _ | refine blk_drew ?_ | refine blk_alloc ?_ _)); exact BK116.out⟩, ⟨by repeat (first | (with_reducible first | exact HB.out | apply b0_ | apply b1_ | apply b2_ | refine below_set ?_ GE114.out | refine below_set ?_ GE116.out) | exact HB.out)⟩⟩
    case rest =>
     clear HC7; obtain ⟨kq, x34_6, rfl, HA, HJ6, BK114, BK116, HB⟩ := hcut
     cases kq with
      | zero => exact absurd HA.out (by simp [cow_forms.j1])
      | succ kj6 =>
       have H := HA.out; clear HA; simp only [cow_forms.j1] at H; by_cases c28 : x34_6 = true
       rotate_left
       ·
        replace c28 := Bool.eq_false_iff.mpr c28; subst c28
        have H1 : (cow_forms.l1 kj6 l0_1 (l0_1.length : Int) x10_1 ((rd_T62 l0_1 x10_1).f1) (((rd_T62 l0_1 x10_1).f1).length : Int) 0 a0_0 l0_1 l0_2 a0_3) = some r := by rw [if_neg (show ¬ (false = true) by decide)] at H; exact H
        clear H; have H := H1; clear H1; have H' := Aside0.mk H; clear H; have hnb29 := NB116_114.out; have hnc29 := NB114_116.out; have hcz30_0 : wc.cell? ⟨gb116, 0, none⟩ = some (.bool ((rd_T62 l0_1 x10_1).f0)) := (blk_cell BK116.out 0).trans rfl; have hcz30_1 : wc.cell? ⟨gb116, 1, none⟩ = some (.slice A115_1 ((rd_T62 l0_1 x10_1).f1).length c115_1) := (blk_cell BK116.out 1).trans rfl
        have hfz30_0 := blk_frozen BK116.out 0; have hfz30_1 := blk_frozen BK116.out 1; go_wp2
        go_loopg [38] kj6 (fun kq v38 w' => ∃ (x38_3 : Int), v38 = .int .i64 x38_3 ∧ Aside0 (cow_forms.l1 kq l0_1 (l0_1.length : Int) x10_1 ((rd_T62 l0_1 x10_1).f1) (((rd_T62 l0_1 x10_1).f1).length : Int) x38_3 a0_0 l0_1 l0_2 a0_3 = some r) ∧ Aside0 (kq ≤ kj6) ∧ Aside0 (w'.heap[gb114]? = some (.cells #[.int .i64 a0_0, (.slice (some ad115) l0_1.length c0_1), (.slice A0_2 l0_2.length c0_2), .int .i64 a0_3] 27 (0, 0))) ∧ Aside0 (w'.heap[gb116]? = some (.cells #[.bool ((rd_T62 l0_1 x10_1).f0), (.slice A115_1 ((rd_T62 l0_1 x10_1).f1).length c115_1)] 62 (0, 0))) ∧ Aside0 (Below w.heap.size w w'))
        case atStart => exact ⟨(0), (by first | rfl | (simp; done) | (simp [*]; done)), H', ⟨Nat.le_refl _⟩, ⟨by (with_reducible repeat (first | refine blk_drewN ?_ _ | refine blk_drew ?_ | refine blk_alloc ?_ _)); exact BK114.out⟩, ⟨by (with_reducible repeat (first | refine blk_drewN ?_ _ | refine blk_drew ?_ | refine blk_alloc ?_ _)); exact BK116.out⟩, ⟨by repeat (first | (with_reducible first | exact HB.out | apply b0_ | apply b1_ | apply b2_ | refine below_set ?_ GE114.out | refine below_set ?_ GE116.out) | exact HB.out)⟩⟩
        case round =>
         clear H'; obtain ⟨x38_3, rfl, HA, HK3, BK114, BK116, HB⟩ := hrel
         cases gk with
          | zero => exact absurd HA.out (by simp [cow_forms.l1])
          | succ k3 =>
           have H := HA.out; clear HA; simp only [cow_forms.l1] at H; by_cases c31 : x38_3 < (((rd_T62 l0_1 x10_1).f1).length : Int)
           rotate_left
           ·
            rw [if_neg c31] at H; have c31b0 : decide (x38_3 < (((rd_T62 l0_1 x10_1).f1).length : Int)) = false := decide_eq_false c31; clear c31; have H' := Aside0.mk H; clear H; go_wp2
            go_roundg k3
            case measure => have := HK1.out; have := HJ6.out; have := HK3.out; omega
            case rel => exact ⟨(wrap64 (x10_1 + 1)), (by first | rfl | (simp; done) | (simp [*]; done)), H', ⟨by have := HK1.out; have := HJ6.out; have := HK3.out; omega⟩, ⟨by (with_reducible repeat (first | refine blk_drewN ?_ _ | refine blk_drew ?_ | refine blk_alloc ?_ _)); exact BK114.out⟩, ⟨by repeat (first | (with_reducible first | exact HB.out | apply b0_ | apply b1_ | apply b2_ | refine below_set ?_ GE114.out | refine below_set ?_ GE116.out) | exact HB.out)⟩⟩
           rw [if_pos c31] at H; have c31b0 : decide (x38_3 < (((rd_T62 l0_1 x10_1).f1).length : Int)) = true := decide_eq_true c31; clear c31; by_cases c32 : 0 ≤ x38_3
           rotate_left
           · rw [if_neg c32] at H; exact absurd H (by simp)
           rw [if_pos c32] at H; have c32b0 : decide (0 ≤ x38_3) = true := decide_eq_true c32; clear c32; by_cases c33 : x38_3 < (((rd_T62 l0_1 x10_1).f1).length : Int)
           rotate_left
           · rw [if_neg c33] at H; exact absurd H (by simp)
           rw [if_pos c33] at H; have c33b0 : decide (x38_3 < (((rd_T62 l0_1 x10_1).f1).length : Int)) = true := decide_eq_true c33; clear c33; have HC34 := Aside0.mk H; clear H; have p117 : 0 ≤ (x38_3 : Int) := of_decide_eq_true (by first | (with_reducible assumption) | assumption)
           have q117 : x38_3 < (((rd_T62 l0_1 x10_1).f1).length : Int) := of_decide_eq_true (by first | (with_reducible assumption) | assumption); obtain ⟨ad117, e117, hx117_0, hx117_1⟩ := at_T64 HR115_1.out x38_3 p117 q117; cases e117; replace hx117_0 := (HB.out.cell (World.block_lt_of_cell? w _ hx117_0)).trans hx117_0; replace hx117_1 := (HB.out.cell (World.block_lt_of_cell? w _ hx117_1)).trans hx117_1
           replace p117 := eq_true p117; replace q117 := eq_true q117
           go_upto_region 9 with (first | ((with_reducible refine gate_dst (N := 6) rfl ?_); (try (refine gate_guard (by rfl) ?_; dsimp only)); refine box_event ?hg (N := 6) ?hd (cs := #[.int .i64 0, .bool false]) (t := 64) ?hr ?_; (case hd => rfl); (case hg => rfl); (case hr => first | (go_simp; done) | (go_simp; rfl)); intro gb118 hg w35 hbox hb; have n0_ := Aside0.mk (blk_below (g := gb114) (o := .cells #[.int .i64 a0_0, .slice (some ad115) l0_1.length c0_1, .slice A0_2 l0_2.length c0_2, .int .i64 a0_3] 27 (0, 0)) (by (with_reducible repeat (first | refine blk_drewN ?_ _ | refine blk_drew ?_ | refine blk_alloc ?_ _)); exact BK114.out) hb); have n1_ := Aside0.mk (blk_below (g := gb116) (o := .cells #[.bool ((rd_T62 l0_1 x10_1).f0), .slice (some ad117) ((rd_T62 l0_1 x10_1).f1).length c115_1] 62 (0, 0)) (by (with_reducible repeat (first | refine blk_drewN ?_ _ | refine blk_drew ?_ | refine blk_alloc ?_ _)); exact BK116.out) hb); have n2_ := Aside0.mk (below_step (by repeat (first | (with_reducible first | exact HB.out | apply b0_ | apply b1_ | apply b2_ | refine below_set ?_ GE114.out | refine below_set ?_ GE116.out) | exact HB.out)) hb); have n3_ := Aside0.mk (hbox); have n4_ := Aside0.mk ((by rw [hg]; exact (below_size (by repeat (first | (with_reducible first | exact HB.out | apply b0_ | apply b1_ | apply b2_ | refine below_set ?_ GE114.out | refine below_set ?_ GE116.out) | exact HB.out))) : w.heap.size ≤ gb118)); have n5_ := Aside0.mk ((by rw [hg]; exact (below_size (by repeat (first | (with_reducible first | exact HB.out | apply b0_ | apply b1_ | apply b2_ | refine below_set ?_ GE114.out | refine below_set ?_ GE116.out) | exact HB.out))) : w.heap.size ≤ gb118)); have n6_ := Aside0.mk ((by rw [hg]; exact Nat.ne_of_lt (blk_lt (g := gb114) (o := .cells #[.int .i64 a0_0, .slice (some ad115) l0_1.length c0_1, .slice A0_2 l0_2.length c0_2, .int .i64 a0_3] 27 (0, 0)) (by (with_reducible repeat (first | refine blk_drewN ?_ _ | refine blk_drew ?_ | refine blk_alloc ?_ _)); exact BK114.out)) : gb114 ≠ gb118)); have n7_ := Aside0.mk ((by rw [hg]; exact Nat.ne_of_gt (blk_lt (g := gb114) (o := .cells #[.int .i64 a0_0, .slice (some ad115) l0_1.length c0_1, .slice A0_2 l0_2.length c0_2, .int .i64 a0_3] 27 (0, 0)) (by (with_reducible repeat (first | refine blk_drewN ?_ _ | refine blk_drew ?_ | refine blk_alloc ?_ _)); exact BK114.out)) : gb118 ≠ gb114)); have n8_ := Aside0.mk ((by rw [hg]; exact Nat.ne_of_lt (blk_lt (g := gb116) (o := .cells #[.bool ((rd_T62 l0_1 x10_1).f0), .slice (some ad117) ((rd_T62 l0_1 x10_1).f1).length c115_1] 62 (0, 0)) (by (with_reducible repeat (first | refine blk_drewN ?_ _ | refine blk_drew ?_ | refine blk_alloc ?_ _)); exact BK116.out)) : gb116 ≠ gb118)); have n9_ := Aside0.mk ((by rw [hg]; exact Nat.ne_of_gt (blk_lt (g := gb116) (o := .cells #[.bool ((rd_T62 l0_1 x10_1).f0), .slice (some ad117) ((rd_T62 l0_1 x10_1).f1).length c115_1] 62 (0, 0)) (by (with_reducible repeat (first | refine blk_drewN ?_ _ | refine blk_drew ?_ | refine blk_alloc ?_ _)); exact BK116.out)) : gb118 ≠ gb116)); clear BK114; clear BK116; clear HB; have BK114 := n0_; have BK116 := n1_; have HB := n2_; have BK118 := n3_; have GW118 := n4_; have GE118 := n5_; have NB114_118 := n6_; have NB118_114 := n7_; have NB116_118 := n8_; have NB118_116 := n9_; clear n0_ n1_ n2_ n3_ n4_ n5_ n6_ n7_ n8_ n9_; clear hb hbox hg; have hnb36 := NB118_114.out; have hnc36 := NB114_118.out; have hnb37 := NB118_116.out; have hnc37 := NB116_118.out; have hcz38_0 : w35.cell? ⟨gb118, 0, none⟩ = some (.int .i64 0) := (blk_cell BK118.out 0).trans rfl; have hcz38_1 : w35.cell? ⟨gb118, 1, none⟩ = some (.bool false) := (blk_cell BK118.out 1).trans rfl; have hfz38_0 := blk_frozen BK118.out 0; have hfz38_1 := blk_frozen BK118.out 1))
           (try simp only [Act.put, List.setIfInBounds_toArray, List.set_cons_zero, List.set_cons_succ])
           go_cut [61] (fun v61 wc => ∃ (kq : Nat) (x61_33 : Bool), v61 = .bool x61_33 ∧ Aside0 (cow_forms.j3 kq l0_1 (l0_1.length : Int) x10_1 ((rd_T62 l0_1 x10_1).f1) (((rd_T62 l0_1 x10_1).f1).length : Int) x38_3 x61_33 a0_0 l0_1 l0_2 a0_3 = some r) ∧ Aside0 (kq ≤ k3) ∧ Aside0 (wc.heap[gb114]? = some (.cells #[.int .i64 a0_0, (.slice (some ad115) l0_1.length c0_1), (.slice A0_2 l0_2.length c0_2), .int .i64 a0_3] 27 (0, 0))) ∧ Aside0 (wc.heap[gb116]? = some (.cells #[.bool ((rd_T62 l0_1 x10_1).f0), (.slice (some ad117) ((rd_T62 l0_1 x10_1).f1).length c115_1)] 62 (0, 0))) ∧ Aside0 (wc.heap[gb118]? = some (.cells #[.int .i64 ((rd_T64 ((rd_T62 l0_1 x10_1).f1) x38_3).f0), .bool ((rd_T64 ((rd_T62 l0_1 x10_1).f1) x38_3).f1)] 64 (0, 0))) ∧ Aside0 (Below w.heap.size w wc))
           case first =>
            have H := HC34.out; clear HC34; by_cases c39 : ((rd_T64 ((rd_T62 l0_1 x10_1).f1) x38_3).f0) < (-1)
            rotate_left
            ·
             rw [if_neg c39] at H; have c39b0 : decide (((rd_T64 ((rd_T62 l0_1 x10_1).f1) x38_3).f0) < (-1)) = false := decide_eq_false c39; clear c39
             (first | rw [c39b0] | (simp only [i64_w, i32_w]; rw [c39b0]) | skip)
             by_cases c43 : ((rd_T64 ((rd_T62 l0_1 x10_1).f1) x38_3).f0) ≥ (l0_2.length : Int)
             rotate_left
             ·
              rw [if_neg c43] at H; have c43b0 : decide ((l0_2.length : Int) ≤ ((rd_T64 ((rd_T62 l0_1 x10_1).f1) x38_3).f0)) = false := decide_eq_false c43; clear c43; by_cases c49 : ((rd_T64 ((rd_T62 l0_1 x10_1).f1) x38_3).f0) = (-1)
              rotate_left
              ·
               rw [if_neg c49] at H; have c49b0 : (((rd_T64 ((rd_T62 l0_1 x10_1).f1) x38_3).f0) == (-1)) = false := beq_eq_false_iff_ne.mpr c49; have c49b1 : (((rd_T64 ((rd_T62 l0_1 x10_1).f1) x38_3).f0) != (-1)) = true := bne_iff_ne.mpr c49; have H' := Aside0.mk H; clear H; have hnb55 := NB118_114.out; have hnc55 := NB114_118.out; have hnb56 := NB118_116.out; have hnc56 := NB116_118.out
               have hcz57_0 : w35.cell? ⟨gb118, 0, none⟩ = some (.int .i64 0) := (blk_cell BK118.out 0).trans rfl; have hcz57_1 : w35.cell? ⟨gb118, 1, none⟩ = some (.bool false) := (blk_cell BK118.out 1).trans rfl; have hfz57_0 := blk_frozen BK118.out 0; have hfz57_1 := blk_frozen BK118.out 1; have hnb58 := NB114_116.out; have hnc58 := NB116_114.out
               have hcz59_0 : w35.cell? ⟨gb114, 0, none⟩ = some (.int .i64 a0_0) := (blk_cell BK114.out 0).trans rfl; have hcz59_1 : w35.cell? ⟨gb114, 1, none⟩ = some (.slice (some ad115) l0_1.length c0_1) := (blk_cell BK114.out 1).trans rfl; have hcz59_2 : w35.cell? ⟨gb114, 2, none⟩ = some (.slice A0_2 l0_2.length c0_2) := (blk_cell BK114.out 2).trans rfl
               have hcz59_3 : w35.cell? ⟨gb114, 3, none⟩ = some (.int .i64 a0_3) := (blk_cell BK114.out 3).trans rfl; have hfz59_0 := blk_frozen BK114.out 0; have hfz59_1 := blk_frozen BK114.out 1; have hfz59_2 := blk_frozen BK114.out 2; have hfz59_3 := blk_frozen BK114.out 3; go_wp2
               go_meet
               case rel => exact ⟨_, (false), (by first | rfl | (simp; done) | (simp [*]; done)), H', ⟨by have := HK1.out; have := HJ6.out; have := HK3.out; first | omega | exact Nat.le_refl _⟩, ⟨by (with_reducible repeat (first | refine blk_drewN ?_ _ | refine blk_drew ?_ | refine blk_alloc ?_ _)); refine blk_far ?_ NB114_118.out _; (with_reducible repeat (first | refine blk_drewN ?_ _ | refine blk_drew ?_ | refine blk_alloc ?_ _)); refine blk_far ?_ NB114_118.out _; (with_reducible repeat (first | refine blk_drewN ?_ _ | refine blk_drew ?_ | refine blk_alloc ?_ _)); exact BK114.out⟩, ⟨by (with_reducible repeat (first | refine blk_drewN ?_ _ | refine blk_drew ?_ | refine blk_alloc ?_ _)); refine blk_far ?_ NB116_118.out _; (with_reducible repeat (first | refine blk_drewN ?_ _ | refine blk_drew ?_ | refine blk_alloc ?_ _)); refine blk_far ?_ NB116_118.out _; (with_reducible repeat (first | refine blk_drewN ?_ _ | refine blk_drew ?_ | refine blk_alloc ?_ _)); exact BK116.out⟩, ⟨by (with_reducible repeat (first | refine blk_drewN ?_ _ | refine blk_drew ?_ | refine blk_alloc ?_ _)); refine blk_put (cs := #[.int .i64 ((rd_T64 ((rd_T62 l0_1 x10_1).f1) x38_3).f0), .bool false]) ?_ 1 _ rfl; (with_reducible repeat (first | refine blk_drewN ?_ _ | refine blk_drew ?_ | refine blk_alloc ?_ _)); refine blk_put (cs := #[.int .i64 0, .bool false]) ?_ 0 _ rfl; (with_reducible repeat (first | refine blk_drewN ?_ _ | refine blk_drew ?_ | refine blk_alloc ?_ _)); exact BK118.out⟩, ⟨by repeat (first | (with_reducible first | exact HB.out | apply b0_ | apply b1_ | apply b2_ | refine below_set ?_ GE114.out | refine below_set ?_ GE116.out | refine below_set ?_ GE118.out) | exact HB.out)⟩⟩
              rw [if_pos c49] at H; have c49b0 : (((rd_T64 ((rd_T62 l0_1 x10_1).f1) x38_3).f0) == (-1)) = true := beq_iff_eq.mpr c49; have c49b1 : (((rd_T64 ((rd_T62 l0_1 x10_1).f1) x38_3).f0) != (-1)) = false := bne_eq_false_iff_eq.mpr c49; clear c49; have H' := Aside0.mk H; clear H; have hnb50 := NB118_114.out; have hnc50 := NB114_118.out; have hnb51 := NB118_116.out; have hnc51 := NB116_118.out
              have hcz52_0 : w35.cell? ⟨gb118, 0, none⟩ = some (.int .i64 0) := (blk_cell BK118.out 0).trans rfl; have hcz52_1 : w35.cell? ⟨gb118, 1, none⟩ = some (.bool false) := (blk_cell BK118.out 1).trans rfl; have hfz52_0 := blk_frozen BK118.out 0; have hfz52_1 := blk_frozen BK118.out 1; have hnb53 := NB114_116.out; have hnc53 := NB116_114.out
              have hcz54_0 : w35.cell? ⟨gb114, 0, none⟩ = some (.int .i64 a0_0) := (blk_cell BK114.out 0).trans rfl; have hcz54_1 : w35.cell? ⟨gb114, 1, none⟩ = some (.slice (some ad115) l0_1.length c0_1) := (blk_cell BK114.out 1).trans rfl; have hcz54_2 : w35.cell? ⟨gb114, 2, none⟩ = some (.slice A0_2 l0_2.length c0_2) := (blk_cell BK114.out 2).trans rfl
              have hcz54_3 : w35.cell? ⟨gb114, 3, none⟩ = some (.int .i64 a0_3) := (blk_cell BK114.out 3).trans rfl; have hfz54_0 := blk_frozen BK114.out 0; have hfz54_1 := blk_frozen BK114.out 1; have hfz54_2 := blk_frozen BK114.out 2; have hfz54_3 := blk_frozen BK114.out 3; go_wp2
              go_meet
              case rel => exact ⟨_, ((rd_T64 ((rd_T62 l0_1 x10_1).f1) x38_3).f1), (by first | rfl | (simp; done) | (simp [*]; done)), H', ⟨by have := HK1.out; have := HJ6.out; have := HK3.out; first | omega | exact Nat.le_refl _⟩, ⟨by (with_reducible repeat (first | refine blk_drewN ?_ _ | refine blk_drew ?_ | refine blk_alloc ?_ _)); refine blk_far ?_ NB114_118.out _; (with_reducible repeat (first | refine blk_drewN ?_ _ | refine blk_drew ?_ | refine blk_alloc ?_ _)); refine blk_far ?_ NB114_118.out _; (with_reducible repeat (first | refine blk_drewN ?_ _ | refine blk_drew ?_ | refine blk_alloc ?_ _)); exact BK114.out⟩, ⟨by (with_reducible repeat (first | refine blk_drewN ?_ _ | refine blk_drew ?_ | refine blk_alloc ?_ _)); refine blk_far ?_ NB116_118.out _; (with_reducible repeat (first | refine blk_drewN ?_ _ | refine blk_drew ?_ | refine blk_alloc ?_ _)); refine blk_far ?_ NB116_118.out _; (with_reducible repeat (first | refine blk_drewN ?_ _ | refine blk_drew ?_ | refine blk_alloc ?_ _)); exact BK116.out⟩, ⟨by (with_reducible repeat (first | refine blk_drewN ?_ _ | refine blk_drew ?_ | refine blk_alloc ?_ _)); refine blk_put (cs := #[.int .i64 ((rd_T64 ((rd_T62 l0_1 x10_1).f1) x38_3).f0), .bool false]) ?_ 1 _ rfl; (with_reducible repeat (first | refine blk_drewN ?_ _ | refine blk_drew ?_ | refine blk_alloc ?_ _)); refine blk_put (cs := #[.int .i64 0, .bool false]) ?_ 0 _ rfl; (with_reducible repeat (first | refine blk_drewN ?_ _ | refine blk_drew ?_ | refine blk_alloc ?_ _)); exact BK118.out⟩, ⟨by repeat (first | (with_reducible first | exact HB.out | apply b0_ | apply b1_ | apply b2_ | refine below_set ?_ GE114.out | refine below_set ?_ GE116.out | refine below_set ?_ GE118.out) | exact HB.out)⟩⟩
             rw [if_pos c43] at H; have c43b0 : decide ((l0_2.length : Int) ≤ ((rd_T64 ((rd_T62 l0_1 x10_1).f1) x38_3).f0)) = true := decide_eq_true c43; clear c43; have H' := Aside0.mk H; clear H; have hnb44 := NB118_114.out; have hnc44 := NB114_118.out; have hnb45 := NB118_116.out; have hnc45 := NB116_118.out; have hcz46_0 : w35.cell? ⟨gb118, 0, none⟩ = some (.int .i64 0) := (blk_cell BK118.out 0).trans rfl
             have hcz46_1 : w35.cell? ⟨gb118, 1, none⟩ = some (.bool false) := (blk_cell BK118.out 1).trans rfl; have hfz46_0 := blk_frozen BK118.out 0; have hfz46_1 := blk_frozen BK118.out 1; have hnb47 := NB114_116.out; have hnc47 := NB116_114.out; have hcz48_0 : w35.cell? ⟨gb114, 0, none⟩ = some (.int .i64 a0_0) := (blk_cell BK114.out 0).trans rfl
             have hcz48_1 : w35.cell? ⟨gb114, 1, none⟩ = some (.slice (some ad115) l0_1.length c0_1) := (blk_cell BK114.out 1).trans rfl; have hcz48_2 : w35.cell? ⟨gb114, 2, none⟩ = some (.slice A0_2 l0_2.length c0_2) := (blk_cell BK114.out 2).trans rfl; have hcz48_3 : w35.cell? ⟨gb114, 3, none⟩ = some (.int .i64 a0_3) := (blk_cell BK114.out 3).trans rfl; have hfz48_0 := blk_frozen BK114.out 0
             have hfz48_1 := blk_frozen BK114.out 1; have hfz48_2 := blk_frozen BK114.out 2; have hfz48_3 := blk_frozen BK114.out 3; go_wp2
             go_meet
             case rel => exact ⟨_, (true), (by first | rfl | (simp; done) | (simp [*]; done)), H', ⟨by have := HK1.out; have := HJ6.out; have := HK3.out; first | omega | exact Nat.le_refl _⟩, ⟨by (with_reducible repeat (first | refine blk_drewN ?_ _ | refine blk_drew ?_ | refine blk_alloc ?_ _)); refine blk_far ?_ NB114_118.out _; (with_reducible repeat (first | refine blk_drewN ?_ _ | refine blk_drew ?_ | refine blk_alloc ?_ _)); refine blk_far ?_ NB114_118.out _; (with_reducible repeat (first | refine blk_drewN ?_ _ | refine blk_drew ?_ | refine blk_alloc ?_ _)); exact BK114.out⟩, ⟨by (with_reducible repeat (first | refine blk_drewN ?_ _ | refine blk_drew ?_ | refine blk_alloc ?_ _)); refine blk_far ?_ NB116_118.out _; (with_reducible repeat (first | refine blk_drewN ?_ _ | refine blk_drew ?_ | refine blk_alloc ?_ _)); refine blk_far ?_ NB116_118.out _; (with_reducible repeat (first | refine blk_drewN ?_ _ | refine blk_drew ?_ | refine blk_alloc ?_ _)); exact BK116.out⟩, ⟨by (with_reducible repeat (first | refine blk_drewN ?_ _ | refine blk_drew ?_ | refine blk_alloc ?_ _)); refine blk_put (cs := #[.int .i64 ((rd_T64 ((rd_T62 l0_1 x10_1).f1) x38_3).f0), .bool false]) ?_ 1 _ rfl; (with_reducible repeat (first | refine blk_drewN ?_ _ | refine blk_drew ?_ | refine blk_alloc ?_ _)); refine blk_put (cs := #[.int .i64 0, .bool false]) ?_ 0 _ rfl; (with_reducible repeat (first | refine blk_drewN ?_ _ | refine blk_drew ?_ | refine blk_alloc ?_ _)); exact BK118.out⟩, ⟨by repeat (first | (with_reducible first | exact HB.out | apply b0_ | apply b1_ | apply b2_ | refine below_set ?_ GE114.out | refine below_set ?_ GE116.out | refine below_set ?_ GE118.out) | exact HB.out)⟩⟩
            rw [if_pos c39] at H; have c39b0 : decide (((rd_T64 ((rd_T62 l0_1 x10_1).f1) x38_3).f0) < (-1)) = true := decide_eq_true c39; clear c39
            (first | rw [c39b0] | (simp only [i64_w, i32_w]; rw [c39b0]) | skip)
            have H' := Aside0.mk H; clear H; have hnb40 := NB118_114.out; have hnc40 := NB114_118.out; have hnb41 := NB118_116.out; have hnc41 := NB116_118.out; have hcz42_0 : w35.cell? ⟨gb118, 0, none⟩ = some (.int .i64 0) := (blk_cell BK118.out 0).trans rfl; have hcz42_1 : w35.cell? ⟨gb118, 1, none⟩ = some (.bool false) := (blk_cell BK118.out 1).trans rfl; have hfz42_0 := blk_frozen BK118.out 0
            have hfz42_1 := blk_frozen BK118.out 1; go_wp2
            go_meet
            case rel => exact ⟨_, (true), (by first | rfl | (simp; done) | (simp [*]; done)), H', ⟨by have := HK1.out; have := HJ6.out; have := HK3.out; first | omega | exact Nat.le_refl _⟩, ⟨by (with_reducible repeat (first | refine blk_drewN ?_ _ | refine blk_drew ?_ | refine blk_alloc ?_ _)); refine blk_far ?_ NB114_118.out _; (with_reducible repeat (first | refine blk_drewN ?_ _ | refine blk_drew ?_ | refine blk_alloc ?_ _)); refine blk_far ?_ NB114_118.out _; (with_reducible repeat (first | refine blk_drewN ?_ _ | refine blk_drew ?_ | refine blk_alloc ?_ _)); exact BK114.out⟩, ⟨by (with_reducible repeat (first | refine blk_drewN ?_ _ | refine blk_drew ?_ | refine blk_alloc ?_ _)); refine blk_far ?_ NB116_118.out _; (with_reducible repeat (first | refine blk_drewN ?_ _ | refine blk_drew ?_ | refine blk_alloc ?_ _)); refine blk_far ?_ NB116_118.out _; (with_reducible repeat (first | refine blk_drewN ?_ _ | refine blk_drew ?_ | refine blk_alloc ?_ _)); exact BK116.out⟩, ⟨by (with_reducible repeat (first | refine blk_drewN ?_ _ | refine blk_drew ?_ | refine blk_alloc ?_ _)); refine blk_put (cs := #[.int .i64 ((rd_T64 ((rd_T62 l0_1 x10_1).f1) x38_3).f0), .bool false]) ?_ 1 _ rfl; (with_reducible repeat (first | refine blk_drewN ?_ _ | refine blk_drew ?_ | refine blk_alloc ?_ _)); refine blk_put (cs := #[.int .i64 0, .bool false]) ?_ 0 _ rfl; (with_reducible repeat (first | refine blk_drewN ?_ _ | refine blk_drew ?_ | refine blk_alloc ?_ _)); exact BK118.out⟩, ⟨by repeat (first | (with_reducible first | exact HB.out | apply b0_ | apply b1_ | apply b2_ | refine below_set ?_ GE114.out | refine below_set ?_ GE116.out | refine below_set ?_ GE118.out) | exact HB.out)⟩⟩
           case rest =>
            clear HC34; obtain ⟨kq, x61_33, rfl, HA, HJ33, BK114, BK116, BK118, HB⟩ := hcut
            cases kq with
             | zero => exact absurd HA.out (by simp [cow_forms.j3])
             | succ kj33 =>
              have H := HA.out; clear HA; simp only [cow_forms.j3] at H; by_cases c60 : x61_33 = true
              rotate_left
              ·
               replace c60 := Bool.eq_false_iff.mpr c60; subst c60
               have H1 : (cow_forms.l1 kj33 l0_1 (l0_1.length : Int) x10_1 ((rd_T62 l0_1 x10_1).f1) (((rd_T62 l0_1 x10_1).f1).length : Int) (wrap64 (x38_3 + 1)) a0_0 l0_1 l0_2 a0_3) = some r := by rw [if_neg (show ¬ (false = true) by decide)] at H; exact H
               clear H; have H := H1; clear H1; have H' := Aside0.mk H; clear H; go_wp2
               go_roundg kj33
               case measure => have := HK1.out; have := HJ6.out; have := HK3.out; have := HJ33.out; omega
               case rel => exact ⟨(wrap64 (x38_3 + 1)), (by first | rfl | (simp; done) | (simp [*]; done)), H', ⟨by have := HK1.out; have := HJ6.out; have := HK3.out; have := HJ33.out; omega⟩, ⟨by (with_reducible repeat (first | refine blk_drewN ?_ _ | refine blk_drew ?_ | refine blk_alloc ?_ _)); exact BK114.out⟩, ⟨by (with_reducible repeat (first | refine blk_drewN ?_ _ | refine blk_drew ?_ | refine blk_alloc ?_ _)); exact BK116.out⟩, ⟨by repeat (first | (with_reducible first | exact HB.out | apply b0_ | apply b1_ | apply b2_ | refine below_set ?_ GE114.out | refine below_set ?_ GE116.out | refine below_set ?_ GE118.out) | exact HB.out)⟩⟩
              subst c60
              have H1 : (some false) = some r := by rw [if_pos rfl] at H; exact H
              clear H; have H := H1; clear H1; obtain rfl := Option.some.inj H; go_wp2; go_ret; exact ⟨by first | rfl | (simp [errW_none, errW_some] <;> rfl) | (simp [*, errW_none, errW_some] <;> rfl), by repeat (first | (with_reducible first | exact HB.out | apply b0_ | apply b1_ | apply b2_ | refine below_set ?_ GE114.out | refine below_set ?_ GE116.out | refine below_set ?_ GE118.out) | exact HB.out)⟩
       subst c28
       have H1 : (some false) = some r := by rw [if_pos rfl] at H; exact H
       clear H; have H := H1; clear H1; obtain rfl := Option.some.inj H; go_wp2; go_ret; exact ⟨by first | rfl | (simp [errW_none, errW_some] <;> rfl) | (simp [*, errW_none, errW_some] <;> rfl), by repeat (first | (with_reducible first | exact HB.out | apply b0_ | apply b1_ | apply b2_ | refine below_set ?_ GE114.out | refine below_set ?_ GE116.out) | exact HB.out)⟩
end Go.Proofs.Yteldbkdfphiogaa.Pr
