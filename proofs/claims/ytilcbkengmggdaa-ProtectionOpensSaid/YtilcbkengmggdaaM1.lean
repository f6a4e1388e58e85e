-- Written by a program of this session (a changed copy of the kit's printer). Not trusted: Lean checks it.
import Derived.Test.YtilcbkengmggdaaM0
namespace Go.Proofs.Ytilcbkengmggdaa.Pr
open Go.RowKit Go.Proofs.YtilcbkengmggdaaW.PrintWords Go.Proofs.YtilcbkengmggdaaW.PrintLast Go.Proofs.YtilcbkengmggdaaW.PrintMore
attribute [local go_sem] max2_int min2_int max_two min_two max_three min_three max_four min_four   -- for this text's walks alone
set_option linter.unusedVariables false
set_option linter.unusedSimpArgs false
/-! ### accounts_tree: function 39 -/
mutual
def accounts_tree.l0 : Nat → List (S41) → Int → Int → Option (Bool)
 | 0, _, _, _ => none
 | k + 1, x5, x6, x7 => if x7 < x6 then (if 0 ≤ x7 then (if x7 < (x5.length : Int) then (if x7 = 0 then (if ((rd_T41 x5 x7).f0) = (-1) then (if x7 > 0 then (if ((rd_T41 x5 x7).f0) < 0 then (accounts_tree.j1 k x5 x6 x7 true) else (accounts_tree.j1 k x5 x6 x7 (decide (((rd_T41 x5 x7).f0) ≥ x7)))) else (accounts_tree.j1 k x5 x6 x7 false)) else (accounts_tree.j1 k x5 x6 x7 true)) else (if x7 > 0 then (if ((rd_T41 x5 x7).f0) < 0 then (accounts_tree.j1 k x5 x6 x7 true) else (accounts_tree.j1 k x5 x6 x7 (decide (((rd_T41 x5 x7).f0) ≥ x7)))) else (accounts_tree.j1 k x5 x6 x7 false))) else (none)) else (none)) else (some true)
def accounts_tree.j1 : Nat → List (S41) → Int → Int → Bool → Option (Bool)
 | 0, _, _, _, _ => none
 | k + 1, x5, x6, x7, x33 => if x33 = true then (some false) else (accounts_tree.l0 k x5 x6 (wrap64 (x7 + 1)))
end
def accounts_tree.f (k : Nat) (l0 : List (S41)) : Option (Bool) := accounts_tree.l0 k l0 (l0.length : Int) 0
theorem accounts_tree.mono_l : ∀ k, (∀ y0 y1 y2, LeO (accounts_tree.l0 k y0 y1 y2) (accounts_tree.l0 (k + 1) y0 y1 y2)) ∧ (∀ y0 y1 y2 y3, LeO (accounts_tree.j1 k y0 y1 y2 y3) (accounts_tree.j1 (k + 1) y0 y1 y2 y3))
 | 0 => ⟨fun _ _ _ r h => by simp [accounts_tree.l0] at h, fun _ _ _ _ r h => by simp [accounts_tree.j1] at h⟩
 | k + 1 => by
  obtain ⟨ih0, ih1⟩ := accounts_tree.mono_l k
  refine ⟨?_, ?_⟩
  ·
   intro y0 y1 y2
   unfold accounts_tree.l0
   repeat' first
   | (with_reducible exact ih0 _ _ _)
   | (with_reducible exact ih1 _ _ _ _)
   | (with_reducible exact LeO.refl _)
   | (with_reducible exact LeO.none _)
   | (with_reducible refine LeO.ite ?_ ?_)
   | (with_reducible refine LeO.bind ?_ (fun _ => ?_))
   | exact ih0 _ _ _
   | exact ih1 _ _ _ _
   | exact LeO.none _
   | refine LeO.ite ?_ ?_
   | refine LeO.bind ?_ (fun _ => ?_)
  ·
   intro y0 y1 y2 y3
   unfold accounts_tree.j1
   repeat' first
   | (with_reducible exact ih0 _ _ _)
   | (with_reducible exact ih1 _ _ _ _)
   | (with_reducible exact LeO.refl _)
   | (with_reducible exact LeO.none _)
   | (with_reducible refine LeO.ite ?_ ?_)
   | (with_reducible refine LeO.bind ?_ (fun _ => ?_))
   | exact ih0 _ _ _
   | exact ih1 _ _ _ _
   | exact LeO.none _
   | refine LeO.ite ?_ ?_
   | refine LeO.bind ?_ (fun _ => ?_)
theorem accounts_tree.mono : ∀ a0 k, LeO (accounts_tree.f k a0) (accounts_tree.f (k + 1) a0) := by
 intro a0 k
 obtain ⟨ih0, ih1⟩ := accounts_tree.mono_l k
 unfold accounts_tree.f
 repeat' first
   | (with_reducible exact ih0 _ _ _)
   | (with_reducible exact ih1 _ _ _ _)
   | (with_reducible exact LeO.refl _)
   | (with_reducible exact LeO.none _)
   | (with_reducible refine LeO.ite ?_ ?_)
   | (with_reducible refine LeO.bind ?_ (fun _ => ?_))
   | exact ih0 _ _ _
   | exact ih1 _ _ _ _
   | exact LeO.none _
   | refine LeO.ite ?_ ?_
   | refine LeO.bind ?_ (fun _ => ?_)
set_option maxHeartbeats 8000000 in
set_option maxRecDepth 100000 in
theorem accounts_tree.calls (k : Nat) (A0 : Option Addr) (c0 : Nat) (l0 : List (S41)) (r : Bool) (w : World) (hr0 : Kd.C k41 w A0 l0.length l0) (hc0 : l0.length ≤ c0) (h : accounts_tree.f k l0 = some r) :
  Calls Try.prog 39 #[.slice A0 l0.length c0] w fun e w' => e = .returned (.bool r) ∧ Below w.heap.size w w' := by
 have hu41 := Try.underlying41
 have HR0 := Aside0.mk hr0
 have HC0 := Aside0.mk hc0
 clear hr0 hc0
 have HB := Aside0.mk (Below.refl w.heap.size w)
 have H : (accounts_tree.l0 k l0 (l0.length : Int) 0) = some r := h
 clear h
 have H' := Aside0.mk H
 clear H
 go_enter Try.func39, Try.ntmps39
 go_wp2
 go_loopg [7] k (fun kq v7 w' => ∃ (x7_1 : Int), v7 = .int .i64 x7_1 ∧ Aside0 (accounts_tree.l0 kq l0 (l0.length : Int) x7_1 = some r) ∧ Aside0 (kq ≤ k) ∧ Aside0 (Below w.heap.size w w'))
 case atStart => exact ⟨(0), (by first | rfl | (simp; done) | (simp [*]; done)), H', ⟨Nat.le_refl _⟩, ⟨by repeat (first | (with_reducible first | exact HB.out | apply below_alloc | apply pw_below_drewN | apply below_drew1) | exact HB.out)⟩⟩
 case round =>
  clear H'
  obtain ⟨x7_1, rfl, HA, HK1, HB⟩ := hrel
  cases gk with
  | zero => exact absurd HA.out (by simp [accounts_tree.l0])
  | succ k1 =>
   have H := HA.out
   clear HA
   simp only [accounts_tree.l0] at H
   by_cases c2 : x7_1 < (l0.length : Int)
   ·
    rw [if_pos c2] at H
    have c2b0 : decide (x7_1 < (l0.length : Int)) = true := decide_eq_true c2
    clear c2
    by_cases c3 : 0 ≤ x7_1
    ·
     rw [if_pos c3] at H
     have c3b0 : decide (0 ≤ x7_1) = true := decide_eq_true c3
     clear c3
     by_cases c4 : x7_1 < (l0.length : Int)
     ·
      rw [if_pos c4] at H
      have c4b0 : decide (x7_1 < (l0.length : Int)) = true := decide_eq_true c4
      clear c4
      have HC5 := Aside0.mk H
      clear H
      have p101 : 0 ≤ (x7_1 : Int) := of_decide_eq_true (by first | (with_reducible assumption) | assumption)
      have q101 : x7_1 < (l0.length : Int) := of_decide_eq_true (by first | (with_reducible assumption) | assumption)
      obtain ⟨ad101, e101, hx101_0, hx101_1, hx101_2, hx101_3, hx101_4⟩ := at_T41 HR0.out x7_1 p101 q101
      cases e101
      replace hx101_0 := (HB.out.cell (World.block_lt_of_cell? w _ hx101_0)).trans hx101_0
      replace hx101_1 := (HB.out.cell (World.block_lt_of_cell? w _ hx101_1)).trans hx101_1
      replace hx101_2 := (HB.out.cell (World.block_lt_of_cell? w _ hx101_2)).trans hx101_2
      replace hx101_3 := (HB.out.cell (World.block_lt_of_cell? w _ hx101_3)).trans hx101_3
      replace hx101_4 := (HB.out.cell (World.block_lt_of_cell? w _ hx101_4)).trans hx101_4
      replace p101 := eq_true p101
      replace q101 := eq_true q101
      go_upto_region 4 with (first | ((with_reducible refine gate_dst (N := 4) rfl ?_); refine box_event ?hg (N := 4) ?hd (cs := #[.int .i64 0, .int .i64 0, .int .i64 0, .int .i64 0, .int .i64 0]) (t := 41) ?hr ?_; (case hd => rfl); (case hg => rfl); (case hr => first | (go_simp; done) | (go_simp; rfl)); intro gb102 hg w6 hbox hb; have n0_ := Aside0.mk (below_step (by repeat (first | (with_reducible first | exact HB.out | apply below_alloc | apply pw_below_drewN | apply below_drew1) | exact HB.out)) hb); have n1_ := Aside0.mk (hbox); have n2_ := Aside0.mk ((by rw [hg]; exact (below_size (by repeat (first | (with_reducible first | exact HB.out | apply below_alloc | apply pw_below_drewN | apply below_drew1) | exact HB.out))) : w.heap.size ≤ gb102)); have n3_ := Aside0.mk ((by rw [hg]; exact (below_size (by repeat (first | (with_reducible first | exact HB.out | apply below_alloc | apply pw_below_drewN | apply below_drew1) | exact HB.out))) : w.heap.size ≤ gb102)); clear HB; have HB := n0_; have BK102 := n1_; have GW102 := n2_; have GE102 := n3_; clear n0_ n1_ n2_ n3_; clear hb hbox hg; have hcz7_0 : w6.cell? ⟨gb102, 0, none⟩ = some (.int .i64 0) := (blk_cell BK102.out 0).trans rfl; have hcz7_1 : w6.cell? ⟨gb102, 1, none⟩ = some (.int .i64 0) := (blk_cell BK102.out 1).trans rfl; have hcz7_2 : w6.cell? ⟨gb102, 2, none⟩ = some (.int .i64 0) := (blk_cell BK102.out 2).trans rfl; have hcz7_3 : w6.cell? ⟨gb102, 3, none⟩ = some (.int .i64 0) := (blk_cell BK102.out 3).trans rfl; have hcz7_4 : w6.cell? ⟨gb102, 4, none⟩ = some (.int .i64 0) := (blk_cell BK102.out 4).trans rfl; have hfz7_0 := blk_frozen BK102.out 0; have hfz7_1 := blk_frozen BK102.out 1; have hfz7_2 := blk_frozen BK102.out 2; have hfz7_3 := blk_frozen BK102.out 3; have hfz7_4 := blk_frozen BK102.out 4))
      (try simp only [Act.put, List.setIfInBounds_toArray, List.set_cons_zero, List.set_cons_succ])
      go_cut [33] (fun v33 wc => ∃ (kq : Nat) (x33_4 : Bool), v33 = .bool x33_4 ∧ Aside0 (accounts_tree.j1 kq l0 (l0.length : Int) x7_1 x33_4 = some r) ∧ Aside0 (kq ≤ k1) ∧ Aside0 (wc.heap[gb102]? = some (.cells #[.int .i64 ((rd_T41 l0 x7_1).f0), .int .i64 ((rd_T41 l0 x7_1).f1), .int .i64 ((rd_T41 l0 x7_1).f2), .int .i64 ((rd_T41 l0 x7_1).f3), .int .i64 ((rd_T41 l0 x7_1).f4)] 41 (0, 0))) ∧ Aside0 (Below w.heap.size w wc))
      case first =>
       have H := HC5.out
       clear HC5
       by_cases c8 : x7_1 = 0
       ·
        rw [if_pos c8] at H
        have c8b0 : (x7_1 == 0) = true := beq_iff_eq.mpr c8
        have c8b1 : (x7_1 != 0) = false := bne_eq_false_iff_eq.mpr c8
        clear c8
        (first | rw [c8b0] | (simp only [i64_w, i32_w]; rw [c8b0]) | skip)
        by_cases c9 : ((rd_T41 l0 x7_1).f0) = (-1)
        ·
         rw [if_pos c9] at H
         have c9b0 : (((rd_T41 l0 x7_1).f0) == (-1)) = true := beq_iff_eq.mpr c9
         have c9b1 : (((rd_T41 l0 x7_1).f0) != (-1)) = false := bne_eq_false_iff_eq.mpr c9
         clear c9
         by_cases c10 : x7_1 > 0
         ·
          rw [if_pos c10] at H
          have c10b0 : decide (0 < x7_1) = true := decide_eq_true c10
          clear c10
          by_cases c11 : ((rd_T41 l0 x7_1).f0) < 0
          ·
           rw [if_pos c11] at H
           have c11b0 : decide (((rd_T41 l0 x7_1).f0) < 0) = true := decide_eq_true c11
           clear c11
           have H' := Aside0.mk H
           clear H
           have hcz12_0 : w6.cell? ⟨gb102, 0, none⟩ = some (.int .i64 0) := (blk_cell BK102.out 0).trans rfl
           have hcz12_1 : w6.cell? ⟨gb102, 1, none⟩ = some (.int .i64 0) := (blk_cell BK102.out 1).trans rfl
           have hcz12_2 : w6.cell? ⟨gb102, 2, none⟩ = some (.int .i64 0) := (blk_cell BK102.out 2).trans rfl
           have hcz12_3 : w6.cell? ⟨gb102, 3, none⟩ = some (.int .i64 0) := (blk_cell BK102.out 3).trans rfl
           have hcz12_4 : w6.cell? ⟨gb102, 4, none⟩ = some (.int .i64 0) := (blk_cell BK102.out 4).trans rfl
           have hfz12_0 := blk_frozen BK102.out 0
           have hfz12_1 := blk_frozen BK102.out 1
           have hfz12_2 := blk_frozen BK102.out 2
           have hfz12_3 := blk_frozen BK102.out 3
           have hfz12_4 := blk_frozen BK102.out 4
           go_wp2
           go_meet
           case rel => exact ⟨_, (true), (by first | rfl | (simp; done) | (simp [*]; done)), H', ⟨by have := HK1.out; first | omega | exact Nat.le_refl _⟩, ⟨by (with_reducible repeat (first | refine blk_drewN ?_ _ | refine blk_drew ?_ | refine blk_alloc ?_ _)); refine blk_put (cs := #[.int .i64 ((rd_T41 l0 x7_1).f0), .int .i64 ((rd_T41 l0 x7_1).f1), .int .i64 ((rd_T41 l0 x7_1).f2), .int .i64 ((rd_T41 l0 x7_1).f3), .int .i64 0]) ?_ 4 _ rfl; (with_reducible repeat (first | refine blk_drewN ?_ _ | refine blk_drew ?_ | refine blk_alloc ?_ _)); refine blk_put (cs := #[.int .i64 ((rd_T41 l0 x7_1).f0), .int .i64 ((rd_T41 l0 x7_1).f1), .int .i64 ((rd_T41 l0 x7_1).f2), .int .i64 0, .int .i64 0]) ?_ 3 _ rfl; (with_reducible repeat (first | refine blk_drewN ?_ _ | refine blk_drew ?_ | refine blk_alloc ?_ _)); refine blk_put (cs := #[.int .i64 ((rd_T41 l0 x7_1).f0), .int .i64 ((rd_T41 l0 x7_1).f1), .int .i64 0, .int .i64 0, .int .i64 0]) ?_ 2 _ rfl; (with_reducible repeat (first | refine blk_drewN ?_ _ | refine blk_drew ?_ | refine blk_alloc ?_ _)); refine blk_put (cs := #[.int .i64 ((rd_T41 l0 x7_1).f0), .int .i64 0, .int .i64 0, .int .i64 0, .int .i64 0]) ?_ 1 _ rfl; (with_reducible repeat (first | refine blk_drewN ?_ _ | refine blk_drew ?_ | refine blk_alloc ?_ _)); refine blk_put (cs := #[.int .i64 0, .int .i64 0, .int .i64 0, .int .i64 0, .int .i64 0]) ?_ 0 _ rfl; (with_reducible repeat (first | refine blk_drewN ?_ _ | refine blk_drew ?_ | refine blk_alloc ?_ _)); exact BK102.out⟩, ⟨by repeat (first | (with_reducible first | exact HB.out | apply below_alloc | apply pw_below_drewN | apply below_drew1 | refine below_set ?_ GE102.out) | exact HB.out)⟩⟩
          ·
           rw [if_neg c11] at H
           have c11b0 : decide (((rd_T41 l0 x7_1).f0) < 0) = false := decide_eq_false c11
           clear c11
           have H' := Aside0.mk H
           clear H
           have hcz13_0 : w6.cell? ⟨gb102, 0, none⟩ = some (.int .i64 0) := (blk_cell BK102.out 0).trans rfl
           have hcz13_1 : w6.cell? ⟨gb102, 1, none⟩ = some (.int .i64 0) := (blk_cell BK102.out 1).trans rfl
           have hcz13_2 : w6.cell? ⟨gb102, 2, none⟩ = some (.int .i64 0) := (blk_cell BK102.out 2).trans rfl
           have hcz13_3 : w6.cell? ⟨gb102, 3, none⟩ = some (.int .i64 0) := (blk_cell BK102.out 3).trans rfl
           have hcz13_4 : w6.cell? ⟨gb102, 4, none⟩ = some (.int .i64 0) := (blk_cell BK102.out 4).trans rfl
           have hfz13_0 := blk_frozen BK102.out 0
           have hfz13_1 := blk_frozen BK102.out 1
           have hfz13_2 := blk_frozen BK102.out 2
           have hfz13_3 := blk_frozen BK102.out 3
           have hfz13_4 := blk_frozen BK102.out 4
           go_wp2
           go_meet
           case rel => exact ⟨_, (decide (((rd_T41 l0 x7_1).f0) ≥ x7_1)), (by first | rfl | (simp; done) | (simp [*]; done)), H', ⟨by have := HK1.out; first | omega | exact Nat.le_refl _⟩, ⟨by (with_reducible repeat (first | refine blk_drewN ?_ _ | refine blk_drew ?_ | refine blk_alloc ?_ _)); refine blk_put (cs := #[.int .i64 ((rd_T41 l0 x7_1).f0), .int .i64 ((rd_T41 l0 x7_1).f1), .int .i64 ((rd_T41 l0 x7_1).f2), .int .i64 ((rd_T41 l0 x7_1).f3), .int .i64 0]) ?_ 4 _ rfl; (with_reducible repeat (first | refine blk_drewN ?_ _ | refine blk_drew ?_ | refine blk_alloc ?_ _)); refine blk_put (cs := #[.int .i64 ((rd_T41 l0 x7_1).f0), .int .i64 ((rd_T41 l0 x7_1).f1), .int .i64 ((rd_T41 l0 x7_1).f2), .int .i64 0, .int .i64 0]) ?_ 3 _ rfl; (with_reducible repeat (first | refine blk_drewN ?_ _ | refine blk_drew ?_ | refine blk_alloc ?_ _)); refine blk_put (cs := #[.int .i64 ((rd_T41 l0 x7_1).f0), .int .i64 ((rd_T41 l0 x7_1).f1), .int .i64 0, .int .i64 0, .int .i64 0]) ?_ 2 _ rfl; (with_reducible repeat (first | refine blk_drewN ?_ _ | refine blk_drew ?_ | refine blk_alloc ?_ _)); refine blk_put (cs := #[.int .i64 ((rd_T41 l0 x7_1).f0), .int .i64 0, .int .i64 0, .int .i64 0, .int .i64 0]) ?_ 1 _ rfl; (with_reducible repeat (first | refine blk_drewN ?_ _ | refine blk_drew ?_ | refine blk_alloc ?_ _)); refine blk_put (cs := #[.int .i64 0, .int .i64 0, .int .i64 0, .int .i64 0, .int .i64 0]) ?_ 0 _ rfl; (with_reducible repeat (first | refine blk_drewN ?_ _ | refine blk_drew ?_ | refine blk_alloc ?_ _)); exact BK102.out⟩, ⟨by repeat (first | (with_reducible first | exact HB.out | apply below_alloc | apply pw_below_drewN | apply below_drew1 | refine below_set ?_ GE102.out) | exact HB.out)⟩⟩
         ·
          rw [if_neg c10] at H
          have c10b0 : decide (0 < x7_1) = false := decide_eq_false c10
          clear c10
          have H' := Aside0.mk H
          clear H
          have hcz14_0 : w6.cell? ⟨gb102, 0, none⟩ = some (.int .i64 0) := (blk_cell BK102.out 0).trans rfl
          have hcz14_1 : w6.cell? ⟨gb102, 1, none⟩ = some (.int .i64 0) := (blk_cell BK102.out 1).trans rfl
          have hcz14_2 : w6.cell? ⟨gb102, 2, none⟩ = some (.int .i64 0) := (blk_cell BK102.out 2).trans rfl
          have hcz14_3 : w6.cell? ⟨gb102, 3, none⟩ = some (.int .i64 0) := (blk_cell BK102.out 3).trans rfl
          have hcz14_4 : w6.cell? ⟨gb102, 4, none⟩ = some (.int .i64 0) := (blk_cell BK102.out 4).trans rfl
          have hfz14_0 := blk_frozen BK102.out 0
          have hfz14_1 := blk_frozen BK102.out 1
          have hfz14_2 := blk_frozen BK102.out 2
          have hfz14_3 := blk_frozen BK102.out 3
          have hfz14_4 := blk_frozen BK102.out 4
          go_wp2
          go_meet
          case rel => exact ⟨_, (false), (by first | rfl | (simp; done) | (simp [*]; done)), H', ⟨by have := HK1.out; first | omega | exact Nat.le_refl _⟩, ⟨by (with_reducible repeat (first | refine blk_drewN ?_ _ | refine blk_drew ?_ | refine blk_alloc ?_ _)); refine blk_put (cs := #[.int .i64 ((rd_T41 l0 x7_1).f0), .int .i64 ((rd_T41 l0 x7_1).f1), .int .i64 ((rd_T41 l0 x7_1).f2), .int .i64 ((rd_T41 l0 x7_1).f3), .int .i64 0]) ?_ 4 _ rfl; (with_reducible repeat (first | refine blk_drewN ?_ _ | refine blk_drew ?_ | refine blk_alloc ?_ _)); refine blk_put (cs := #[.int .i64 ((rd_T41 l0 x7_1).f0), .int .i64 ((rd_T41 l0 x7_1).f1), .int .i64 ((rd_T41 l0 x7_1).f2), .int .i64 0, .int .i64 0]) ?_ 3 _ rfl; (with_reducible repeat (first | refine blk_drewN ?_ _ | refine blk_drew ?_ | refine blk_alloc ?_ _)); refine blk_put (cs := #[.int .i64 ((rd_T41 l0 x7_1).f0), .int .i64 ((rd_T41 l0 x7_1).f1), .int .i64 0, .int .i64 0, .int .i64 0]) ?_ 2 _ rfl; (with_reducible repeat (first | refine blk_drewN ?_ _ | refine blk_drew ?_ | refine blk_alloc ?_ _)); refine blk_put (cs := #[.int .i64 ((rd_T41 l0 x7_1).f0), .int .i64 0, .int .i64 0, .int .i64 0, .int .i64 0]) ?_ 1 _ rfl; (with_reducible repeat (first | refine blk_drewN ?_ _ | refine blk_drew ?_ | refine blk_alloc ?_ _)); refine blk_put (cs := #[.int .i64 0, .int .i64 0, .int .i64 0, .int .i64 0, .int .i64 0]) ?_ 0 _ rfl; (with_reducible repeat (first | refine blk_drewN ?_ _ | refine blk_drew ?_ | refine blk_alloc ?_ _)); exact BK102.out⟩, ⟨by repeat (first | (with_reducible first | exact HB.out | apply below_alloc | apply pw_below_drewN | apply below_drew1 | refine below_set ?_ GE102.out) | exact HB.out)⟩⟩
        ·
         rw [if_neg c9] at H
         have c9b0 : (((rd_T41 l0 x7_1).f0) == (-1)) = false := beq_eq_false_iff_ne.mpr c9
         have c9b1 : (((rd_T41 l0 x7_1).f0) != (-1)) = true := bne_iff_ne.mpr c9
         have H' := Aside0.mk H
         clear H
         have hcz15_0 : w6.cell? ⟨gb102, 0, none⟩ = some (.int .i64 0) := (blk_cell BK102.out 0).trans rfl
         have hcz15_1 : w6.cell? ⟨gb102, 1, none⟩ = some (.int .i64 0) := (blk_cell BK102.out 1).trans rfl
         have hcz15_2 : w6.cell? ⟨gb102, 2, none⟩ = some (.int .i64 0) := (blk_cell BK102.out 2).trans rfl
         have hcz15_3 : w6.cell? ⟨gb102, 3, none⟩ = some (.int .i64 0) := (blk_cell BK102.out 3).trans rfl
         have hcz15_4 : w6.cell? ⟨gb102, 4, none⟩ = some (.int .i64 0) := (blk_cell BK102.out 4).trans rfl
         have hfz15_0 := blk_frozen BK102.out 0
         have hfz15_1 := blk_frozen BK102.out 1
         have hfz15_2 := blk_frozen BK102.out 2
         have hfz15_3 := blk_frozen BK102.out 3
         have hfz15_4 := blk_frozen BK102.out 4
         go_wp2
         go_meet
         case rel => exact ⟨_, (true), (by first | rfl | (simp; done) | (simp [*]; done)), H', ⟨by have := HK1.out; first | omega | exact Nat.le_refl _⟩, ⟨by (with_reducible repeat (first | refine blk_drewN ?_ _ | refine blk_drew ?_ | refine blk_alloc ?_ _)); refine blk_put (cs := #[.int .i64 ((rd_T41 l0 x7_1).f0), .int .i64 ((rd_T41 l0 x7_1).f1), .int .i64 ((rd_T41 l0 x7_1).f2), .int .i64 ((rd_T41 l0 x7_1).f3), .int .i64 0]) ?_ 4 _ rfl; (with_reducible repeat (first | refine blk_drewN ?_ _ | refine blk_drew ?_ | refine blk_alloc ?_ _)); refine blk_put (cs := #[.int .i64 ((rd_T41 l0 x7_1).f0), .int .i64 ((rd_T41 l0 x7_1).f1), .int .i64 ((rd_T41 l0 x7_1).f2), .int .i64 0, .int .i64 0]) ?_ 3 _ rfl; (with_reducible repeat (first | refine blk_drewN ?_ _ | refine blk_drew ?_ | refine blk_alloc ?_ _)); refine blk_put (cs := #[.int .i64 ((rd_T41 l0 x7_1).f0), .int .i64 ((rd_T41 l0 x7_1).f1), .int .i64 0, .int .i64 0, .int .i64 0]) ?_ 2 _ rfl; (with_reducible repeat (first | refine blk_drewN ?_ _ | refine blk_drew ?_ | refine blk_alloc ?_ _)); refine blk_put (cs := #[.int .i64 ((rd_T41 l0 x7_1).f0), .int .i64 0, .int .i64 0, .int .i64 0, .int .i64 0]) ?_ 1 _ rfl; (with_reducible repeat (first | refine blk_drewN ?_ _ | refine blk_drew ?_ | refine blk_alloc ?_ _)); refine blk_put (cs := #[.int .i64 0, .int .i64 0, .int .i64 0, .int .i64 0, .int .i64 0]) ?_ 0 _ rfl; (with_reducible repeat (first | refine blk_drewN ?_ _ | refine blk_drew ?_ | refine blk_alloc ?_ _)); exact BK102.out⟩, ⟨by repeat (first | (with_reducible first | exact HB.out | apply below_alloc | apply pw_below_drewN | apply below_drew1 | refine below_set ?_ GE102.out) | exact HB.out)⟩⟩
       ·
        rw [if_neg c8] at H
        have c8b0 : (x7_1 == 0) = false := beq_eq_false_iff_ne.mpr c8
        have c8b1 : (x7_1 != 0) = true := bne_iff_ne.mpr c8
        (first | rw [c8b0] | (simp only [i64_w, i32_w]; rw [c8b0]) | skip)
        by_cases c16 : x7_1 > 0
        ·
         rw [if_pos c16] at H
         have c16b0 : decide (0 < x7_1) = true := decide_eq_true c16
         clear c16
         by_cases c17 : ((rd_T41 l0 x7_1).f0) < 0
         ·
          rw [if_pos c17] at H
          have c17b0 : decide (((rd_T41 l0 x7_1).f0) < 0) = true := decide_eq_true c17
          clear c17
          have H' := Aside0.mk H
          clear H
          have hcz18_0 : w6.cell? ⟨gb102, 0, none⟩ = some (.int .i64 0) := (blk_cell BK102.out 0).trans rfl
          have hcz18_1 : w6.cell? ⟨gb102, 1, none⟩ = some (.int .i64 0) := (blk_cell BK102.out 1).trans rfl
          have hcz18_2 : w6.cell? ⟨gb102, 2, none⟩ = some (.int .i64 0) := (blk_cell BK102.out 2).trans rfl
          have hcz18_3 : w6.cell? ⟨gb102, 3, none⟩ = some (.int .i64 0) := (blk_cell BK102.out 3).trans rfl
          have hcz18_4 : w6.cell? ⟨gb102, 4, none⟩ = some (.int .i64 0) := (blk_cell BK102.out 4).trans rfl
          have hfz18_0 := blk_frozen BK102.out 0
          have hfz18_1 := blk_frozen BK102.out 1
          have hfz18_2 := blk_frozen BK102.out 2
          have hfz18_3 := blk_frozen BK102.out 3
          have hfz18_4 := blk_frozen BK102.out 4
          go_wp2
          go_meet
          case rel => exact ⟨_, (true), (by first | rfl | (simp; done) | (simp [*]; done)), H', ⟨by have := HK1.out; first | omega | exact Nat.le_refl _⟩, ⟨by (with_reducible repeat (first | refine blk_drewN ?_ _ | refine blk_drew ?_ | refine blk_alloc ?_ _)); refine blk_put (cs := #[.int .i64 ((rd_T41 l0 x7_1).f0), .int .i64 ((rd_T41 l0 x7_1).f1), .int .i64 ((rd_T41 l0 x7_1).f2), .int .i64 ((rd_T41 l0 x7_1).f3), .int .i64 0]) ?_ 4 _ rfl; (with_reducible repeat (first | refine blk_drewN ?_ _ | refine blk_drew ?_ | refine blk_alloc ?_ _)); refine blk_put (cs := #[.int .i64 ((rd_T41 l0 x7_1).f0), .int .i64 ((rd_T41 l0 x7_1).f1), .int .i64 ((rd_T41 l0 x7_1).f2), .int .i64 0, .int .i64 0]) ?_ 3 _ rfl; (with_reducible repeat (first | refine blk_drewN ?_ _ | refine blk_drew ?_ | refine blk_alloc ?_ _)); refine blk_put (cs := #[.int .i64 ((rd_T41 l0 x7_1).f0), .int .i64 ((rd_T41 l0 x7_1).f1), .int .i64 0, .int .i64 0, .int .i64 0]) ?_ 2 _ rfl; (with_reducible repeat (first | refine blk_drewN ?_ _ | refine blk_drew ?_ | refine blk_alloc ?_ _)); refine blk_put (cs := #[.int .i64 ((rd_T41 l0 x7_1).f0), .int .i64 0, .int .i64 0, .int .i64 0, .int .i64 0]) ?_ 1 _ rfl; (with_reducible repeat (first | refine blk_drewN ?_ _ | refine blk_drew ?_ | refine blk_alloc ?_ _)); refine blk_put (cs := #[.int .i64 0, .int .i64 0, .int .i64 0, .int .i64 0, .int .i64 0]) ?_ 0 _ rfl; (with_reducible repeat (first | refine blk_drewN ?_ _ | refine blk_drew ?_ | refine blk_alloc ?_ _)); exact BK102.out⟩, ⟨by repeat (first | (with_reducible first | exact HB.out | apply below_alloc | apply pw_below_drewN | apply below_drew1 | refine below_set ?_ GE102.out) | exact HB.out)⟩⟩
         ·
          rw [if_neg c17] at H
          have c17b0 : decide (((rd_T41 l0 x7_1).f0) < 0) = false := decide_eq_false c17
          clear c17
          have H' := Aside0.mk H
          clear H
          have hcz19_0 : w6.cell? ⟨gb102, 0, none⟩ = some (.int .i64 0) := (blk_cell BK102.out 0).trans rfl
          have hcz19_1 : w6.cell? ⟨gb102, 1, none⟩ = some (.int .i64 0) := (blk_cell BK102.out 1).trans rfl
          have hcz19_2 : w6.cell? ⟨gb102, 2, none⟩ = some (.int .i64 0) := (blk_cell BK102.out 2).trans rfl
          have hcz19_3 : w6.cell? ⟨gb102, 3, none⟩ = some (.int .i64 0) := (blk_cell BK102.out 3).trans rfl
          have hcz19_4 : w6.cell? ⟨gb102, 4, none⟩ = some (.int .i64 0) := (blk_cell BK102.out 4).trans rfl
          have hfz19_0 := blk_frozen BK102.out 0
          have hfz19_1 := blk_frozen BK102.out 1
          have hfz19_2 := blk_frozen BK102.out 2
          have hfz19_3 := blk_frozen BK102.out 3
          have hfz19_4 := blk_frozen BK102.out 4
          go_wp2
          go_meet
          case rel => exact ⟨_, (decide (((rd_T41 l0 x7_1).f0) ≥ x7_1)), (by first | rfl | (simp; done) | (simp [*]; done)), H', ⟨by have := HK1.out; first | omega | exact Nat.le_refl _⟩, ⟨by (with_reducible repeat (first | refine blk_drewN ?_ _ | refine blk_drew ?_ | refine blk_alloc ?_ _)); refine blk_put (cs := #[.int .i64 ((rd_T41 l0 x7_1).f0), .int .i64 ((rd_T41 l0 x7_1).f1), .int .i64 ((rd_T41 l0 x7_1).f2), .int .i64 ((rd_T41 l0 x7_1).f3), .int .i64 0]) ?_ 4 _ rfl; (with_reducible repeat (first | refine blk_drewN ?_ _ | refine blk_drew ?_ | refine blk_alloc ?_ _)); refine blk_put (cs := #[.int .i64 ((rd_T41 l0 x7_1).f0), .int .i64 ((rd_T41 l0 x7_1).f1), .int .i64 ((rd_T41 l0 x7_1).f2), .int .i64 0, .int .i64 0]) ?_ 3 _ rfl; (with_reducible repeat (first | refine blk_drewN ?_ _ | refine blk_drew ?_ | refine blk_alloc ?_ _)); refine blk_put (cs := #[.int .i64 ((rd_T41 l0 x7_1).f0), .int .i64 ((rd_T41 l0 x7_1).f1), .int .i64 0, .int .i64 0, .int .i64 0]) ?_ 2 _ rfl; (with_reducible repeat (first | refine blk_drewN ?_ _ | refine blk_drew ?_ | refine blk_alloc ?_ _)); refine blk_put (cs := #[.int .i64 ((rd_T41 l0 x7_1).f0), .int .i64 0, .int .i64 0, .int .i64 0, .int .i64 0]) ?_ 1 _ rfl; (with_reducible repeat (first | refine blk_drewN ?_ _ | refine blk_drew ?_ | refine blk_alloc ?_ _)); refine blk_put (cs := #[.int .i64 0, .int .i64 0, .int .i64 0, .int .i64 0, .int .i64 0]) ?_ 0 _ rfl; (with_reducible repeat (first | refine blk_drewN ?_ _ | refine blk_drew ?_ | refine blk_alloc ?_ _)); exact BK102.out⟩, ⟨by repeat (first | (with_reducible first | exact HB.out | apply below_alloc | apply pw_below_drewN | apply below_drew1 | refine below_set ?_ GE102.out) | exact HB.out)⟩⟩
        ·
         rw [if_neg c16] at H
         have c16b0 : decide (0 < x7_1) = false := decide_eq_false c16
         clear c16
         have H' := Aside0.mk H
         clear H
         go_wp2
         go_meet
         case rel => exact ⟨_, (false), (by first | rfl | (simp; done) | (simp [*]; done)), H', ⟨by have := HK1.out; first | omega | exact Nat.le_refl _⟩, ⟨by (with_reducible repeat (first | refine blk_drewN ?_ _ | refine blk_drew ?_ | refine blk_alloc ?_ _)); refine blk_put (cs := #[.int .i64 ((rd_T41 l0 x7_1).f0), .int .i64 ((rd_T41 l0 x7_1).f1), .int .i64 ((rd_T41 l0 x7_1).f2), .int .i64 ((rd_T41 l0 x7_1).f3), .int .i64 0]) ?_ 4 _ rfl; (with_reducible repeat (first | refine blk_drewN ?_ _ | refine blk_drew ?_ | refine blk_alloc ?_ _)); refine blk_put (cs := #[.int .i64 ((rd_T41 l0 x7_1).f0), .int .i64 ((rd_T41 l0 x7_1).f1), .int .i64 ((rd_T41 l0 x7_1).f2), .int .i64 0, .int .i64 0]) ?_ 3 _ rfl; (with_reducible repeat (first | refine blk_drewN ?_ _ | refine blk_drew ?_ | refine blk_alloc ?_ _)); refine blk_put (cs := #[.int .i64 ((rd_T41 l0 x7_1).f0), .int .i64 ((rd_T41 l0 x7_1).f1), .int .i64 0, .int .i64 0, .int .i64 0]) ?_ 2 _ rfl; (with_reducible repeat (first | refine blk_drewN ?_ _ | refine blk_drew ?_ | refine blk_alloc ?_ _)); refine blk_put (cs := #[.int .i64 ((rd_T41 l0 x7_1).f0), .int .i64 0, .int .i64 0, .int .i64 0, .int .i64 0]) ?_ 1 _ rfl; (with_reducible repeat (first | refine blk_drewN ?_ _ | refine blk_drew ?_ | refine blk_alloc ?_ _)); refine blk_put (cs := #[.int .i64 0, .int .i64 0, .int .i64 0, .int .i64 0, .int .i64 0]) ?_ 0 _ rfl; (with_reducible repeat (first | refine blk_drewN ?_ _ | refine blk_drew ?_ | refine blk_alloc ?_ _)); exact BK102.out⟩, ⟨by repeat (first | (with_reducible first | exact HB.out | apply below_alloc | apply pw_below_drewN | apply below_drew1 | refine below_set ?_ GE102.out) | exact HB.out)⟩⟩
      case rest =>
       clear HC5
       try clear c1
       try clear p1
       try clear q1
       try clear hx1
       try clear c2
       try clear c2b0
       try clear p2
       try clear c3
       try clear c3b0
       try clear c4
       try clear c4b0
       try clear c8
       try clear c8b0
       try clear c8b1
       try clear c9
       try clear c9b0
       try clear c9b1
       try clear c10
       try clear c10b0
       try clear p10
       try clear q10
       try clear hx10
       try clear c11
       try clear c11b0
       try clear c16
       try clear c16b0
       try clear c17
       try clear c17b0
       try clear hcz12_0
       try clear hcz12_1
       try clear hcz12_2
       try clear hcz12_3
       try clear hcz12_4
       try clear hcz13_0
       try clear hcz13_1
       try clear hcz13_2
       try clear hcz13_3
       try clear hcz13_4
       try clear hcz14_0
       try clear hcz14_1
       try clear hcz14_2
       try clear hcz14_3
       try clear hcz14_4
       try clear hcz15_0
       try clear hcz15_1
       try clear hcz15_2
       try clear hcz15_3
       try clear hcz15_4
       try clear hcz18_0
       try clear hcz18_1
       try clear hcz18_2
       try clear hcz18_3
       try clear hcz18_4
       try clear hcz19_0
       try clear hcz19_1
       try clear hcz19_2
       try clear hcz19_3
       try clear hcz19_4
       try clear hcz7_0
       try clear hcz7_1
       try clear hcz7_2
       try clear hcz7_3
       try clear hcz7_4
       try clear hfz12_0
       try clear hfz12_1
       try clear hfz12_2
       try clear hfz12_3
       try clear hfz12_4
       try clear hfz13_0
       try clear hfz13_1
       try clear hfz13_2
       try clear hfz13_3
       try clear hfz13_4
       try clear hfz14_0
       try clear hfz14_1
       try clear hfz14_2
       try clear hfz14_3
       try clear hfz14_4
       try clear hfz15_0
       try clear hfz15_1
       try clear hfz15_2
       try clear hfz15_3
       try clear hfz15_4
       try clear hfz18_0
       try clear hfz18_1
       try clear hfz18_2
       try clear hfz18_3
       try clear hfz18_4
       try clear hfz19_0
       try clear hfz19_1
       try clear hfz19_2
       try clear hfz19_3
       try clear hfz19_4
       try clear hfz7_0
       try clear hfz7_1
       try clear hfz7_2
       try clear hfz7_3
       try clear hfz7_4
       try clear hx101_0
       try clear hx101_1
       try clear hx101_2
       try clear hx101_3
       try clear hx101_4
       try clear p101
       try clear q101
       obtain ⟨kq, x33_4, rfl, HA, HJ4, BK102, HB⟩ := hcut
       cases kq with
       | zero => exact absurd HA.out (by simp [accounts_tree.j1])
       | succ kj4 =>
        have H := HA.out
        clear HA
        simp only [accounts_tree.j1] at H
        by_cases c20 : x33_4 = true
        ·
         subst c20
         have H1 : (some false) = some r := by rw [if_pos rfl] at H; exact H
         clear H
         have H := H1
         clear H1
         obtain rfl := Option.some.inj H
         go_wp2
         go_ret
         exact ⟨by first | rfl | (simp [errW_none, errW_some] <;> rfl) | (simp [*, errW_none, errW_some] <;> rfl), by repeat (first | (with_reducible first | exact HB.out | apply below_alloc | apply pw_below_drewN | apply below_drew1 | refine below_set ?_ GE102.out) | exact HB.out)⟩
        ·
         replace c20 := Bool.eq_false_iff.mpr c20
         subst c20
         have H1 : (accounts_tree.l0 kj4 l0 (l0.length : Int) (wrap64 (x7_1 + 1))) = some r := by rw [if_neg (show ¬ (false = true) by decide)] at H; exact H
         clear H
         have H := H1
         clear H1
         have H' := Aside0.mk H
         clear H
         go_wp2
         go_roundg kj4
         case measure => have := HK1.out; have := HJ4.out; omega
         case rel => exact ⟨(wrap64 (x7_1 + 1)), (by first | rfl | (simp; done) | (simp [*]; done)), H', ⟨by have := HK1.out; have := HJ4.out; omega⟩, ⟨by repeat (first | (with_reducible first | exact HB.out | apply below_alloc | apply pw_below_drewN | apply below_drew1 | refine below_set ?_ GE102.out) | exact HB.out)⟩⟩
     ·
      rw [if_neg c4] at H
      exact absurd H (by simp)
    ·
     rw [if_neg c3] at H
     exact absurd H (by simp)
   ·
    rw [if_neg c2] at H
    have c2b0 : decide (x7_1 < (l0.length : Int)) = false := decide_eq_false c2
    clear c2
    obtain rfl := Option.some.inj H
    go_wp2
    go_ret
    exact ⟨by first | rfl | (simp [errW_none, errW_some] <;> rfl) | (simp [*, errW_none, errW_some] <;> rfl), by repeat (first | (with_reducible first | exact HB.out | apply below_alloc | apply pw_below_drewN | apply below_drew1) | exact HB.out)⟩
/-! ### accounts_in: function 46 -/
def accounts_in.f (a0 : Int) : Option (Bool) := if a0 ≥ 0 then (some (decide (a0 ≤ 1048576))) else (some false)
set_option maxHeartbeats 8000000 in
set_option maxRecDepth 100000 in
theorem accounts_in.calls (a0 : Int) (r : Bool) (w : World) (h : accounts_in.f a0 = some r) :
  Calls Try.prog 46 #[.int .i64 a0] w fun e w' => e = .returned (.bool r) ∧ Drawn0 w w' := by
 have H : (if a0 ≥ 0 then (some (decide (a0 ≤ 1048576))) else (some false)) = some r := h
 clear h
 by_cases c2 : a0 ≥ 0
 ·
  rw [if_pos c2] at H
  have c2b0 : decide (0 ≤ a0) = true := decide_eq_true c2
  clear c2
  obtain rfl := Option.some.inj H
  go_enter Try.func46, Try.ntmps46
  go_wp2
  go_ret
  exact ⟨by first | rfl | (simp; done) | (simp [*]; done), by repeat (first | exact Drawn0.refl _ | apply Drawn0.step)⟩
 ·
  rw [if_neg c2] at H
  have c2b0 : decide (0 ≤ a0) = false := decide_eq_false c2
  clear c2
  obtain rfl := Option.some.inj H
  go_enter Try.func46, Try.ntmps46
  go_wp2
  go_ret
  exact ⟨by first | rfl | (simp; done) | (simp [*]; done), by repeat (first | exact Drawn0.refl _ | apply Drawn0.step)⟩
/-! ### accounts_amounts: function 40 -/
mutual
def accounts_amounts.l0 : Nat → List (S41) → List (S41) → Int → Int → Option (Bool)
 | 0, _, _, _, _ => none
 | k + 1, x0, x5, x6, x7 => if x7 < x6 then (if 0 ≤ x7 then (if x7 < (x5.length : Int) then ((accounts_in.f ((rd_T41 x5 x7).f1)).bind fun t107 => (if t107 = true then ((accounts_in.f ((rd_T41 x5 x7).f2)).bind fun t108 => (if t108 = true then ((accounts_in.f ((rd_T41 x5 x7).f3)).bind fun t109 => (if t109 = true then ((accounts_in.f ((rd_T41 x5 x7).f4)).bind fun t110 => (accounts_amounts.j1 k x0 x5 x6 x7 (!t110))) else (accounts_amounts.j1 k x0 x5 x6 x7 true))) else (accounts_amounts.j1 k x0 x5 x6 x7 true))) else (accounts_amounts.j1 k x0 x5 x6 x7 true))) else (none)) else (none)) else (if 0 < (x0.length : Int) then (if ((rd_T41 x0 0).f2) = 0 then (some (((rd_T41 x0 0).f3) == 0)) else (some false)) else (none))
def accounts_amounts.j1 : Nat → List (S41) → List (S41) → Int → Int → Bool → Option (Bool)
 | 0, _, _, _, _, _ => none
 | k + 1, x0, x5, x6, x7, x32 => if x32 = true then (some false) else (accounts_amounts.l0 k x0 x5 x6 (wrap64 (x7 + 1)))
end
def accounts_amounts.f (k : Nat) (l0 : List (S41)) : Option (Bool) := accounts_amounts.l0 k l0 l0 (l0.length : Int) 0
theorem accounts_amounts.mono_l : ∀ k, (∀ y0 y1 y2 y3, LeO (accounts_amounts.l0 k y0 y1 y2 y3) (accounts_amounts.l0 (k + 1) y0 y1 y2 y3)) ∧ (∀ y0 y1 y2 y3 y4, LeO (accounts_amounts.j1 k y0 y1 y2 y3 y4) (accounts_amounts.j1 (k + 1) y0 y1 y2 y3 y4))
 | 0 => ⟨fun _ _ _ _ r h => by simp [accounts_amounts.l0] at h, fun _ _ _ _ _ r h => by simp [accounts_amounts.j1] at h⟩
 | k + 1 => by
  obtain ⟨ih0, ih1⟩ := accounts_amounts.mono_l k
  refine ⟨?_, ?_⟩
  ·
   intro y0 y1 y2 y3
   unfold accounts_amounts.l0
   repeat' first
   | (with_reducible exact ih0 _ _ _ _)
   | (with_reducible exact ih1 _ _ _ _ _)
   | (with_reducible exact LeO.refl _)
   | (with_reducible exact LeO.none _)
   | (with_reducible refine LeO.ite ?_ ?_)
   | (with_reducible refine LeO.bind ?_ (fun _ => ?_))
   | exact ih0 _ _ _ _
   | exact ih1 _ _ _ _ _
   | exact LeO.none _
   | refine LeO.ite ?_ ?_
   | refine LeO.bind ?_ (fun _ => ?_)
  ·
   intro y0 y1 y2 y3 y4
   unfold accounts_amounts.j1
   repeat' first
   | (with_reducible exact ih0 _ _ _ _)
   | (with_reducible exact ih1 _ _ _ _ _)
   | (with_reducible exact LeO.refl _)
   | (with_reducible exact LeO.none _)
   | (with_reducible refine LeO.ite ?_ ?_)
   | (with_reducible refine LeO.bind ?_ (fun _ => ?_))
   | exact ih0 _ _ _ _
   | exact ih1 _ _ _ _ _
   | exact LeO.none _
   | refine LeO.ite ?_ ?_
   | refine LeO.bind ?_ (fun _ => ?_)
theorem accounts_amounts.mono : ∀ a0 k, LeO (accounts_amounts.f k a0) (accounts_amounts.f (k + 1) a0) := by
 intro a0 k
 obtain ⟨ih0, ih1⟩ := accounts_amounts.mono_l k
 unfold accounts_amounts.f
 repeat' first
   | (with_reducible exact ih0 _ _ _ _)
   | (with_reducible exact ih1 _ _ _ _ _)
   | (with_reducible exact LeO.refl _)
   | (with_reducible exact LeO.none _)
   | (with_reducible refine LeO.ite ?_ ?_)
   | (with_reducible refine LeO.bind ?_ (fun _ => ?_))
   | exact ih0 _ _ _ _
   | exact ih1 _ _ _ _ _
   | exact LeO.none _
   | refine LeO.ite ?_ ?_
   | refine LeO.bind ?_ (fun _ => ?_)
set_option maxHeartbeats 8000000 in
set_option maxRecDepth 100000 in
theorem accounts_amounts.calls (k : Nat) (A0 : Option Addr) (c0 : Nat) (l0 : List (S41)) (r : Bool) (w : World) (hr0 : Kd.C k41 w A0 l0.length l0) (hc0 : l0.length ≤ c0) (h : accounts_amounts.f k l0 = some r) :
  Calls Try.prog 40 #[.slice A0 l0.length c0] w fun e w' => e = .returned (.bool r) ∧ Below w.heap.size w w' := by
 have hu41 := Try.underlying41
 have HR0 := Aside0.mk hr0
 have HC0 := Aside0.mk hc0
 clear hr0 hc0
 have HB := Aside0.mk (Below.refl w.heap.size w)
 have H : (accounts_amounts.l0 k l0 l0 (l0.length : Int) 0) = some r := h
 clear h
 have H' := Aside0.mk H
 clear H
 go_enter Try.func40, Try.ntmps40
 go_wp2
 go_loopg [7] k (fun kq v7 w' => ∃ (x7_1 : Int), v7 = .int .i64 x7_1 ∧ Aside0 (accounts_amounts.l0 kq l0 l0 (l0.length : Int) x7_1 = some r) ∧ Aside0 (kq ≤ k) ∧ Aside0 (Below w.heap.size w w'))
 case atStart => exact ⟨(0), (by first | rfl | (simp; done) | (simp [*]; done)), H', ⟨Nat.le_refl _⟩, ⟨by repeat (first | (with_reducible first | exact HB.out | apply below_alloc | apply pw_below_drewN | apply below_drew1) | exact HB.out)⟩⟩
 case round =>
  clear H'
  obtain ⟨x7_1, rfl, HA, HK1, HB⟩ := hrel
  cases gk with
  | zero => exact absurd HA.out (by simp [accounts_amounts.l0])
  | succ k1 =>
   have H := HA.out
   clear HA
   simp only [accounts_amounts.l0] at H
   by_cases c2 : x7_1 < (l0.length : Int)
   ·
    rw [if_pos c2] at H
    have c2b0 : decide (x7_1 < (l0.length : Int)) = true := decide_eq_true c2
    clear c2
    by_cases c3 : 0 ≤ x7_1
    ·
     rw [if_pos c3] at H
     have c3b0 : decide (0 ≤ x7_1) = true := decide_eq_true c3
     clear c3
     by_cases c4 : x7_1 < (l0.length : Int)
     ·
      rw [if_pos c4] at H
      have c4b0 : decide (x7_1 < (l0.length : Int)) = true := decide_eq_true c4
      clear c4
      have HC5 := Aside0.mk H
      clear H
      have p105 : 0 ≤ (x7_1 : Int) := of_decide_eq_true (by first | (with_reducible assumption) | assumption)
      have q105 : x7_1 < (l0.length : Int) := of_decide_eq_true (by first | (with_reducible assumption) | assumption)
      obtain ⟨ad105, e105, hx105_0, hx105_1, hx105_2, hx105_3, hx105_4⟩ := at_T41 HR0.out x7_1 p105 q105
      cases e105
      replace hx105_0 := (HB.out.cell (World.block_lt_of_cell? w _ hx105_0)).trans hx105_0
      replace hx105_1 := (HB.out.cell (World.block_lt_of_cell? w _ hx105_1)).trans hx105_1
      replace hx105_2 := (HB.out.cell (World.block_lt_of_cell? w _ hx105_2)).trans hx105_2
      replace hx105_3 := (HB.out.cell (World.block_lt_of_cell? w _ hx105_3)).trans hx105_3
      replace hx105_4 := (HB.out.cell (World.block_lt_of_cell? w _ hx105_4)).trans hx105_4
      replace p105 := eq_true p105
      replace q105 := eq_true q105
      go_upto_region 4 with (first | ((with_reducible refine gate_dst (N := 4) rfl ?_); refine box_event ?hg (N := 4) ?hd (cs := #[.int .i64 0, .int .i64 0, .int .i64 0, .int .i64 0, .int .i64 0]) (t := 41) ?hr ?_; (case hd => rfl); (case hg => rfl); (case hr => first | (go_simp; done) | (go_simp; rfl)); intro gb106 hg w6 hbox hb; have n0_ := Aside0.mk (below_step (by repeat (first | (with_reducible first | exact HB.out | apply below_alloc | apply pw_below_drewN | apply below_drew1) | exact HB.out)) hb); have n1_ := Aside0.mk (hbox); have n2_ := Aside0.mk ((by rw [hg]; exact (below_size (by repeat (first | (with_reducible first | exact HB.out | apply below_alloc | apply pw_below_drewN | apply below_drew1) | exact HB.out))) : w.heap.size ≤ gb106)); have n3_ := Aside0.mk ((by rw [hg]; exact (below_size (by repeat (first | (with_reducible first | exact HB.out | apply below_alloc | apply pw_below_drewN | apply below_drew1) | exact HB.out))) : w.heap.size ≤ gb106)); clear HB; have HB := n0_; have BK106 := n1_; have GW106 := n2_; have GE106 := n3_; clear n0_ n1_ n2_ n3_; clear hb hbox hg; have hcz7_0 : w6.cell? ⟨gb106, 0, none⟩ = some (.int .i64 0) := (blk_cell BK106.out 0).trans rfl; have hcz7_1 : w6.cell? ⟨gb106, 1, none⟩ = some (.int .i64 0) := (blk_cell BK106.out 1).trans rfl; have hcz7_2 : w6.cell? ⟨gb106, 2, none⟩ = some (.int .i64 0) := (blk_cell BK106.out 2).trans rfl; have hcz7_3 : w6.cell? ⟨gb106, 3, none⟩ = some (.int .i64 0) := (blk_cell BK106.out 3).trans rfl; have hcz7_4 : w6.cell? ⟨gb106, 4, none⟩ = some (.int .i64 0) := (blk_cell BK106.out 4).trans rfl; have hfz7_0 := blk_frozen BK106.out 0; have hfz7_1 := blk_frozen BK106.out 1; have hfz7_2 := blk_frozen BK106.out 2; have hfz7_3 := blk_frozen BK106.out 3; have hfz7_4 := blk_frozen BK106.out 4))
      (try simp only [Act.put, List.setIfInBounds_toArray, List.set_cons_zero, List.set_cons_succ])
      go_cut [32] (fun v32 wc => ∃ (kq : Nat) (x32_4 : Bool), v32 = .bool x32_4 ∧ Aside0 (accounts_amounts.j1 kq l0 l0 (l0.length : Int) x7_1 x32_4 = some r) ∧ Aside0 (kq ≤ k1) ∧ Aside0 (wc.heap[gb106]? = some (.cells #[.int .i64 ((rd_T41 l0 x7_1).f0), .int .i64 ((rd_T41 l0 x7_1).f1), .int .i64 ((rd_T41 l0 x7_1).f2), .int .i64 ((rd_T41 l0 x7_1).f3), .int .i64 ((rd_T41 l0 x7_1).f4)] 41 (0, 0))) ∧ Aside0 (Below w.heap.size w wc))
      case first =>
       have H := HC5.out
       clear HC5
       replace H := Option.bind_eq_some_iff.mp H
       obtain ⟨t107, A80, H⟩ := H
       replace H : (if t107 = true then ((accounts_in.f ((rd_T41 l0 x7_1).f2)).bind fun t108 => (if t108 = true then ((accounts_in.f ((rd_T41 l0 x7_1).f3)).bind fun t109 => (if t109 = true then ((accounts_in.f ((rd_T41 l0 x7_1).f4)).bind fun t110 => (accounts_amounts.j1 k1 l0 l0 (l0.length : Int) x7_1 (!t110))) else (accounts_amounts.j1 k1 l0 l0 (l0.length : Int) x7_1 true))) else (accounts_amounts.j1 k1 l0 l0 (l0.length : Int) x7_1 true))) else (accounts_amounts.j1 k1 l0 l0 (l0.length : Int) x7_1 true)) = some r := H
       have A8 := Aside0.mk A80
       clear A80
       by_cases c9 : t107 = true
       ·
        subst c9
        have H1 : ((accounts_in.f ((rd_T41 l0 x7_1).f2)).bind fun t108 => (if t108 = true then ((accounts_in.f ((rd_T41 l0 x7_1).f3)).bind fun t109 => (if t109 = true then ((accounts_in.f ((rd_T41 l0 x7_1).f4)).bind fun t110 => (accounts_amounts.j1 k1 l0 l0 (l0.length : Int) x7_1 (!t110))) else (accounts_amounts.j1 k1 l0 l0 (l0.length : Int) x7_1 true))) else (accounts_amounts.j1 k1 l0 l0 (l0.length : Int) x7_1 true))) = some r := by rw [if_pos rfl] at H; exact H
        clear H
        have H := H1
        clear H1
        replace H := Option.bind_eq_some_iff.mp H
        obtain ⟨t108, A100, H⟩ := H
        replace H : (if t108 = true then ((accounts_in.f ((rd_T41 l0 x7_1).f3)).bind fun t109 => (if t109 = true then ((accounts_in.f ((rd_T41 l0 x7_1).f4)).bind fun t110 => (accounts_amounts.j1 k1 l0 l0 (l0.length : Int) x7_1 (!t110))) else (accounts_amounts.j1 k1 l0 l0 (l0.length : Int) x7_1 true))) else (accounts_amounts.j1 k1 l0 l0 (l0.length : Int) x7_1 true)) = some r := H
        have A10 := Aside0.mk A100
        clear A100
        by_cases c11 : t108 = true
        ·
         subst c11
         have H1 : ((accounts_in.f ((rd_T41 l0 x7_1).f3)).bind fun t109 => (if t109 = true then ((accounts_in.f ((rd_T41 l0 x7_1).f4)).bind fun t110 => (accounts_amounts.j1 k1 l0 l0 (l0.length : Int) x7_1 (!t110))) else (accounts_amounts.j1 k1 l0 l0 (l0.length : Int) x7_1 true))) = some r := by rw [if_pos rfl] at H; exact H
         clear H
         have H := H1
         clear H1
         replace H := Option.bind_eq_some_iff.mp H
         obtain ⟨t109, A120, H⟩ := H
         replace H : (if t109 = true then ((accounts_in.f ((rd_T41 l0 x7_1).f4)).bind fun t110 => (accounts_amounts.j1 k1 l0 l0 (l0.length : Int) x7_1 (!t110))) else (accounts_amounts.j1 k1 l0 l0 (l0.length : Int) x7_1 true)) = some r := H
         have A12 := Aside0.mk A120
         clear A120
         by_cases c13 : t109 = true
         ·
          subst c13
          have H1 : ((accounts_in.f ((rd_T41 l0 x7_1).f4)).bind fun t110 => (accounts_amounts.j1 k1 l0 l0 (l0.length : Int) x7_1 (!t110))) = some r := by rw [if_pos rfl] at H; exact H
          clear H
          have H := H1
          clear H1
          replace H := Option.bind_eq_some_iff.mp H
          obtain ⟨t110, A140, H⟩ := H
          replace H : (accounts_amounts.j1 k1 l0 l0 (l0.length : Int) x7_1 (!t110)) = some r := H
          have A14 := Aside0.mk A140
          clear A140
          have H' := Aside0.mk H
          clear H
          have hcz15_0 : w6.cell? ⟨gb106, 0, none⟩ = some (.int .i64 0) := (blk_cell BK106.out 0).trans rfl
          have hcz15_1 : w6.cell? ⟨gb106, 1, none⟩ = some (.int .i64 0) := (blk_cell BK106.out 1).trans rfl
          have hcz15_2 : w6.cell? ⟨gb106, 2, none⟩ = some (.int .i64 0) := (blk_cell BK106.out 2).trans rfl
          have hcz15_3 : w6.cell? ⟨gb106, 3, none⟩ = some (.int .i64 0) := (blk_cell BK106.out 3).trans rfl
          have hcz15_4 : w6.cell? ⟨gb106, 4, none⟩ = some (.int .i64 0) := (blk_cell BK106.out 4).trans rfl
          have hfz15_0 := blk_frozen BK106.out 0
          have hfz15_1 := blk_frozen BK106.out 1
          have hfz15_2 := blk_frozen BK106.out 2
          have hfz15_3 := blk_frozen BK106.out 3
          have hfz15_4 := blk_frozen BK106.out 4
          go_wp2_with (first | ((with_reducible refine gate_callee (f := 46) rfl ?_); refine goesL_ (some 13) rfl rfl Try.func46 (by kernel_rfl) rfl #[.int .i64 ((rd_T41 l0 x7_1).f1)] rfl (by (try simp only [List.map_toArray, List.map_cons, List.map_nil]); first | done | rfl | (simp only [List.length_drop, List.length_take]; rfl)) ?_; (with_reducible refine (accounts_in.calls ((rd_T41 l0 x7_1).f1) true _ A8.out).mono ?_); rintro e w' ⟨rfl, ⟨nd, rfl⟩⟩; refine ⟨_, rfl, ?_⟩) | (go_at_call 46; (with_reducible refine (accounts_in.calls ((rd_T41 l0 x7_1).f2) true _ A10.out).mono ?_); rintro e w' ⟨rfl, ⟨nd, rfl⟩⟩) | (go_at_call 46; (with_reducible refine (accounts_in.calls ((rd_T41 l0 x7_1).f3) true _ A12.out).mono ?_); rintro e w' ⟨rfl, ⟨nd, rfl⟩⟩) | (go_at_call 46; (with_reducible refine (accounts_in.calls ((rd_T41 l0 x7_1).f4) t110 _ A14.out).mono ?_); rintro e w' ⟨rfl, ⟨nd, rfl⟩⟩))
          go_meet
          case rel => exact ⟨_, (!t110), (by first | rfl | (simp; done) | (simp [*]; done)), H', ⟨by have := HK1.out; first | omega | exact Nat.le_refl _⟩, ⟨by (with_reducible repeat (first | refine blk_drewN ?_ _ | refine blk_drew ?_ | refine blk_alloc ?_ _)); refine blk_put (cs := #[.int .i64 ((rd_T41 l0 x7_1).f0), .int .i64 ((rd_T41 l0 x7_1).f1), .int .i64 ((rd_T41 l0 x7_1).f2), .int .i64 ((rd_T41 l0 x7_1).f3), .int .i64 0]) ?_ 4 _ rfl; (with_reducible repeat (first | refine blk_drewN ?_ _ | refine blk_drew ?_ | refine blk_alloc ?_ _)); refine blk_put (cs := #[.int .i64 ((rd_T41 l0 x7_1).f0), .int .i64 ((rd_T41 l0 x7_1).f1), .int .i64 ((rd_T41 l0 x7_1).f2), .int .i64 0, .int .i64 0]) ?_ 3 _ rfl; (with_reducible repeat (first | refine blk_drewN ?_ _ | refine blk_drew ?_ | refine blk_alloc ?_ _)); refine blk_put (cs := #[.int .i64 ((rd_T41 l0 x7_1).f0), .int .i64 ((rd_T41 l0 x7_1).f1), .int .i64 0, .int .i64 0, .int .i64 0]) ?_ 2 _ rfl; (with_reducible repeat (first | refine blk_drewN ?_ _ | refine blk_drew ?_ | refine blk_alloc ?_ _)); refine blk_put (cs := #[.int .i64 ((rd_T41 l0 x7_1).f0), .int .i64 0, .int .i64 0, .int .i64 0, .int .i64 0]) ?_ 1 _ rfl; (with_reducible repeat (first | refine blk_drewN ?_ _ | refine blk_drew ?_ | refine blk_alloc ?_ _)); refine blk_put (cs := #[.int .i64 0, .int .i64 0, .int .i64 0, .int .i64 0, .int .i64 0]) ?_ 0 _ rfl; (with_reducible repeat (first | refine blk_drewN ?_ _ | refine blk_drew ?_ | refine blk_alloc ?_ _)); exact BK106.out⟩, ⟨by repeat (first | (with_reducible first | exact HB.out | apply below_alloc | apply pw_below_drewN | apply below_drew1 | refine below_set ?_ GE106.out) | exact HB.out)⟩⟩
         ·
          replace c13 := Bool.eq_false_iff.mpr c13
          subst c13
          have H1 : (accounts_amounts.j1 k1 l0 l0 (l0.length : Int) x7_1 true) = some r := by rw [if_neg (show ¬ (false = true) by decide)] at H; exact H
          clear H
          have H := H1
          clear H1
          have H' := Aside0.mk H
          clear H
          have hcz16_0 : w6.cell? ⟨gb106, 0, none⟩ = some (.int .i64 0) := (blk_cell BK106.out 0).trans rfl
          have hcz16_1 : w6.cell? ⟨gb106, 1, none⟩ = some (.int .i64 0) := (blk_cell BK106.out 1).trans rfl
          have hcz16_2 : w6.cell? ⟨gb106, 2, none⟩ = some (.int .i64 0) := (blk_cell BK106.out 2).trans rfl
          have hcz16_3 : w6.cell? ⟨gb106, 3, none⟩ = some (.int .i64 0) := (blk_cell BK106.out 3).trans rfl
          have hcz16_4 : w6.cell? ⟨gb106, 4, none⟩ = some (.int .i64 0) := (blk_cell BK106.out 4).trans rfl
          have hfz16_0 := blk_frozen BK106.out 0
          have hfz16_1 := blk_frozen BK106.out 1
          have hfz16_2 := blk_frozen BK106.out 2
          have hfz16_3 := blk_frozen BK106.out 3
          have hfz16_4 := blk_frozen BK106.out 4
          go_wp2_with (first | ((with_reducible refine gate_callee (f := 46) rfl ?_); refine goesL_ (some 13) rfl rfl Try.func46 (by kernel_rfl) rfl #[.int .i64 ((rd_T41 l0 x7_1).f1)] rfl (by (try simp only [List.map_toArray, List.map_cons, List.map_nil]); first | done | rfl | (simp only [List.length_drop, List.length_take]; rfl)) ?_; (with_reducible refine (accounts_in.calls ((rd_T41 l0 x7_1).f1) true _ A8.out).mono ?_); rintro e w' ⟨rfl, ⟨nd, rfl⟩⟩; refine ⟨_, rfl, ?_⟩) | (go_at_call 46; (with_reducible refine (accounts_in.calls ((rd_T41 l0 x7_1).f2) true _ A10.out).mono ?_); rintro e w' ⟨rfl, ⟨nd, rfl⟩⟩) | (go_at_call 46; (with_reducible refine (accounts_in.calls ((rd_T41 l0 x7_1).f3) false _ A12.out).mono ?_); rintro e w' ⟨rfl, ⟨nd, rfl⟩⟩))
          go_meet
          case rel => exact ⟨_, (true), (by first | rfl | (simp; done) | (simp [*]; done)), H', ⟨by have := HK1.out; first | omega | exact Nat.le_refl _⟩, ⟨by (with_reducible repeat (first | refine blk_drewN ?_ _ | refine blk_drew ?_ | refine blk_alloc ?_ _)); refine blk_put (cs := #[.int .i64 ((rd_T41 l0 x7_1).f0), .int .i64 ((rd_T41 l0 x7_1).f1), .int .i64 ((rd_T41 l0 x7_1).f2), .int .i64 ((rd_T41 l0 x7_1).f3), .int .i64 0]) ?_ 4 _ rfl; (with_reducible repeat (first | refine blk_drewN ?_ _ | refine blk_drew ?_ | refine blk_alloc ?_ _)); refine blk_put (cs := #[.int .i64 ((rd_T41 l0 x7_1).f0), .int .i64 ((rd_T41 l0 x7_1).f1), .int .i64 ((rd_T41 l0 x7_1).f2), .int .i64 0, .int .i64 0]) ?_ 3 _ rfl; (with_reducible repeat (first | refine blk_drewN ?_ _ | refine blk_drew ?_ | refine blk_alloc ?_ _)); refine blk_put (cs := #[.int .i64 ((rd_T41 l0 x7_1).f0), .int .i64 ((rd_T41 l0 x7_1).f1), .int .i64 0, .int .i64 0, .int .i64 0]) ?_ 2 _ rfl; (with_reducible repeat (first | refine blk_drewN ?_ _ | refine blk_drew ?_ | refine blk_alloc ?_ _)); refine blk_put (cs := #[.int .i64 ((rd_T41 l0 x7_1).f0), .int .i64 0, .int .i64 0, .int .i64 0, .int .i64 0]) ?_ 1 _ rfl; (with_reducible repeat (first | refine blk_drewN ?_ _ | refine blk_drew ?_ | refine blk_alloc ?_ _)); refine blk_put (cs := #[.int .i64 0, .int .i64 0, .int .i64 0, .int .i64 0, .int .i64 0]) ?_ 0 _ rfl; (with_reducible repeat (first | refine blk_drewN ?_ _ | refine blk_drew ?_ | refine blk_alloc ?_ _)); exact BK106.out⟩, ⟨by repeat (first | (with_reducible first | exact HB.out | apply below_alloc | apply pw_below_drewN | apply below_drew1 | refine below_set ?_ GE106.out) | exact HB.out)⟩⟩
        ·
         replace c11 := Bool.eq_false_iff.mpr c11
         subst c11
         have H1 : (accounts_amounts.j1 k1 l0 l0 (l0.length : Int) x7_1 true) = some r := by rw [if_neg (show ¬ (false = true) by decide)] at H; exact H
         clear H
         have H := H1
         clear H1
         have H' := Aside0.mk H
         clear H
         have hcz17_0 : w6.cell? ⟨gb106, 0, none⟩ = some (.int .i64 0) := (blk_cell BK106.out 0).trans rfl
         have hcz17_1 : w6.cell? ⟨gb106, 1, none⟩ = some (.int .i64 0) := (blk_cell BK106.out 1).trans rfl
         have hcz17_2 : w6.cell? ⟨gb106, 2, none⟩ = some (.int .i64 0) := (blk_cell BK106.out 2).trans rfl
         have hcz17_3 : w6.cell? ⟨gb106, 3, none⟩ = some (.int .i64 0) := (blk_cell BK106.out 3).trans rfl
         have hcz17_4 : w6.cell? ⟨gb106, 4, none⟩ = some (.int .i64 0) := (blk_cell BK106.out 4).trans rfl
         have hfz17_0 := blk_frozen BK106.out 0
         have hfz17_1 := blk_frozen BK106.out 1
         have hfz17_2 := blk_frozen BK106.out 2
         have hfz17_3 := blk_frozen BK106.out 3
         have hfz17_4 := blk_frozen BK106.out 4
         go_wp2_with (first | ((with_reducible refine gate_callee (f := 46) rfl ?_); refine goesL_ (some 13) rfl rfl Try.func46 (by kernel_rfl) rfl #[.int .i64 ((rd_T41 l0 x7_1).f1)] rfl (by (try simp only [List.map_toArray, List.map_cons, List.map_nil]); first | done | rfl | (simp only [List.length_drop, List.length_take]; rfl)) ?_; (with_reducible refine (accounts_in.calls ((rd_T41 l0 x7_1).f1) true _ A8.out).mono ?_); rintro e w' ⟨rfl, ⟨nd, rfl⟩⟩; refine ⟨_, rfl, ?_⟩) | (go_at_call 46; (with_reducible refine (accounts_in.calls ((rd_T41 l0 x7_1).f2) false _ A10.out).mono ?_); rintro e w' ⟨rfl, ⟨nd, rfl⟩⟩))
         go_meet
         case rel => exact ⟨_, (true), (by first | rfl | (simp; done) | (simp [*]; done)), H', ⟨by have := HK1.out; first | omega | exact Nat.le_refl _⟩, ⟨by (with_reducible repeat (first | refine blk_drewN ?_ _ | refine blk_drew ?_ | refine blk_alloc ?_ _)); refine blk_put (cs := #[.int .i64 ((rd_T41 l0 x7_1).f0), .int .i64 ((rd_T41 l0 x7_1).f1), .int .i64 ((rd_T41 l0 x7_1).f2), .int .i64 ((rd_T41 l0 x7_1).f3), .int .i64 0]) ?_ 4 _ rfl; (with_reducible repeat (first | refine blk_drewN ?_ _ | refine blk_drew ?_ | refine blk_alloc ?_ _)); refine blk_put (cs := #[.int .i64 ((rd_T41 l0 x7_1).f0), .int .i64 ((rd_T41 l0 x7_1).f1), .int .i64 ((rd_T41 l0 x7_1).f2), .int .i64 0, .int .i64 0]) ?_ 3 _ rfl; (with_reducible repeat (first | refine blk_drewN ?_ _ | refine blk_drew ?_ | refine blk_alloc ?_ _)); refine blk_put (cs := #[.int .i64 ((rd_T41 l0 x7_1).f0), .int .i64 ((rd_T41 l0 x7_1).f1), .int .i64 0, .int .i64 0, .int .i64 0]) ?_ 2 _ rfl; (with_reducible repeat (first | refine blk_drewN ?_ _ | refine blk_drew ?_ | refine blk_alloc ?_ _)); refine blk_put (cs := #[.int .i64 ((rd_T41 l0 x7_1).f0), .int .i64 0, .int .i64 0, .int .i64 0, .int .i64 0]) ?_ 1 _ rfl; (with_reducible repeat (first | refine blk_drewN ?_ _ | refine blk_drew ?_ | refine blk_alloc ?_ _)); refine blk_put (cs := #[.int .i64 0, .int .i64 0, .int .i64 0, .int .i64 0, .int .i64 0]) ?_ 0 _ rfl; (with_reducible repeat (first | refine blk_drewN ?_ _ | refine blk_drew ?_ | refine blk_alloc ?_ _)); exact BK106.out⟩, ⟨by repeat (first | (with_reducible first | exact HB.out | apply below_alloc | apply pw_below_drewN | apply below_drew1 | refine below_set ?_ GE106.out) | exact HB.out)⟩⟩
       ·
        replace c9 := Bool.eq_false_iff.mpr c9
        subst c9
        have H1 : (accounts_amounts.j1 k1 l0 l0 (l0.length : Int) x7_1 true) = some r := by rw [if_neg (show ¬ (false = true) by decide)] at H; exact H
        clear H
        have H := H1
        clear H1
        have H' := Aside0.mk H
        clear H
        have hcz18_0 : w6.cell? ⟨gb106, 0, none⟩ = some (.int .i64 0) := (blk_cell BK106.out 0).trans rfl
        have hcz18_1 : w6.cell? ⟨gb106, 1, none⟩ = some (.int .i64 0) := (blk_cell BK106.out 1).trans rfl
        have hcz18_2 : w6.cell? ⟨gb106, 2, none⟩ = some (.int .i64 0) := (blk_cell BK106.out 2).trans rfl
        have hcz18_3 : w6.cell? ⟨gb106, 3, none⟩ = some (.int .i64 0) := (blk_cell BK106.out 3).trans rfl
        have hcz18_4 : w6.cell? ⟨gb106, 4, none⟩ = some (.int .i64 0) := (blk_cell BK106.out 4).trans rfl
        have hfz18_0 := blk_frozen BK106.out 0
        have hfz18_1 := blk_frozen BK106.out 1
        have hfz18_2 := blk_frozen BK106.out 2
        have hfz18_3 := blk_frozen BK106.out 3
        have hfz18_4 := blk_frozen BK106.out 4
        go_wp2_with (first | ((with_reducible refine gate_callee (f := 46) rfl ?_); refine goesL_ (some 13) rfl rfl Try.func46 (by kernel_rfl) rfl #[.int .i64 ((rd_T41 l0 x7_1).f1)] rfl (by (try simp only [List.map_toArray, List.map_cons, List.map_nil]); first | done | rfl | (simp only [List.length_drop, List.length_take]; rfl)) ?_; (with_reducible refine (accounts_in.calls ((rd_T41 l0 x7_1).f1) false _ A8.out).mono ?_); rintro e w' ⟨rfl, ⟨nd, rfl⟩⟩; refine ⟨_, rfl, ?_⟩))
        go_meet
        case rel => exact ⟨_, (true), (by first | rfl | (simp; done) | (simp [*]; done)), H', ⟨by have := HK1.out; first | omega | exact Nat.le_refl _⟩, ⟨by (with_reducible repeat (first | refine blk_drewN ?_ _ | refine blk_drew ?_ | refine blk_alloc ?_ _)); refine blk_put (cs := #[.int .i64 ((rd_T41 l0 x7_1).f0), .int .i64 ((rd_T41 l0 x7_1).f1), .int .i64 ((rd_T41 l0 x7_1).f2), .int .i64 ((rd_T41 l0 x7_1).f3), .int .i64 0]) ?_ 4 _ rfl; (with_reducible repeat (first | refine blk_drewN ?_ _ | refine blk_drew ?_ | refine blk_alloc ?_ _)); refine blk_put (cs := #[.int .i64 ((rd_T41 l0 x7_1).f0), .int .i64 ((rd_T41 l0 x7_1).f1), .int .i64 ((rd_T41 l0 x7_1).f2), .int .i64 0, .int .i64 0]) ?_ 3 _ rfl; (with_reducible repeat (first | refine blk_drewN ?_ _ | refine blk_drew ?_ | refine blk_alloc ?_ _)); refine blk_put (cs := #[.int .i64 ((rd_T41 l0 x7_1).f0), .int .i64 ((rd_T41 l0 x7_1).f1), .int .i64 0, .int .i64 0, .int .i64 0]) ?_ 2 _ rfl; (with_reducible repeat (first | refine blk_drewN ?_ _ | refine blk_drew ?_ | refine blk_alloc ?_ _)); refine blk_put (cs := #[.int .i64 ((rd_T41 l0 x7_1).f0), .int .i64 0, .int .i64 0, .int .i64 0, .int .i64 0]) ?_ 1 _ rfl; (with_reducible repeat (first | refine blk_drewN ?_ _ | refine blk_drew ?_ | refine blk_alloc ?_ _)); refine blk_put (cs := #[.int .i64 0, .int .i64 0, .int .i64 0, .int .i64 0, .int .i64 0]) ?_ 0 _ rfl; (with_reducible repeat (first | refine blk_drewN ?_ _ | refine blk_drew ?_ | refine blk_alloc ?_ _)); exact BK106.out⟩, ⟨by repeat (first | (with_reducible first | exact HB.out | apply below_alloc | apply pw_below_drewN | apply below_drew1 | refine below_set ?_ GE106.out) | exact HB.out)⟩⟩
      case rest =>
       clear HC5
       try clear c1
       try clear p1
       try clear q1
       try clear hx1
       try clear c2
       try clear c2b0
       try clear p2
       try clear c3
       try clear c3b0
       try clear c4
       try clear c4b0
       try clear c9
       try clear p10
       try clear q10
       try clear hx10
       try clear c11
       try clear c13
       try clear hcz15_0
       try clear hcz15_1
       try clear hcz15_2
       try clear hcz15_3
       try clear hcz15_4
       try clear hcz16_0
       try clear hcz16_1
       try clear hcz16_2
       try clear hcz16_3
       try clear hcz16_4
       try clear hcz17_0
       try clear hcz17_1
       try clear hcz17_2
       try clear hcz17_3
       try clear hcz17_4
       try clear hcz18_0
       try clear hcz18_1
       try clear hcz18_2
       try clear hcz18_3
       try clear hcz18_4
       try clear hcz7_0
       try clear hcz7_1
       try clear hcz7_2
       try clear hcz7_3
       try clear hcz7_4
       try clear hfz15_0
       try clear hfz15_1
       try clear hfz15_2
       try clear hfz15_3
       try clear hfz15_4
       try clear hfz16_0
       try clear hfz16_1
       try clear hfz16_2
       try clear hfz16_3
       try clear hfz16_4
       try clear hfz17_0
       try clear hfz17_1
       try clear hfz17_2
       try clear hfz17_3
       try clear hfz17_4
       try clear hfz18_0
       try clear hfz18_1
       try clear hfz18_2
       try clear hfz18_3
       try clear hfz18_4
       try clear hfz7_0
       try clear hfz7_1
       try clear hfz7_2
       try clear hfz7_3
       try clear hfz7_4
       try clear hx105_0
       try clear hx105_1
       try clear hx105_2
       try clear hx105_3
       try clear hx105_4
       try clear p105
       try clear q105
       obtain ⟨kq, x32_4, rfl, HA, HJ4, BK106, HB⟩ := hcut
       cases kq with
       | zero => exact absurd HA.out (by simp [accounts_amounts.j1])
       | succ kj4 =>
        have H := HA.out
        clear HA
        simp only [accounts_amounts.j1] at H
        by_cases c19 : x32_4 = true
        ·
         subst c19
         have H1 : (some false) = some r := by rw [if_pos rfl] at H; exact H
         clear H
         have H := H1
         clear H1
         obtain rfl := Option.some.inj H
         go_wp2
         go_ret
         exact ⟨by first | rfl | (simp [errW_none, errW_some] <;> rfl) | (simp [*, errW_none, errW_some] <;> rfl), by repeat (first | (with_reducible first | exact HB.out | apply below_alloc | apply pw_below_drewN | apply below_drew1 | refine below_set ?_ GE106.out) | exact HB.out)⟩
        ·
         replace c19 := Bool.eq_false_iff.mpr c19
         subst c19
         have H1 : (accounts_amounts.l0 kj4 l0 l0 (l0.length : Int) (wrap64 (x7_1 + 1))) = some r := by rw [if_neg (show ¬ (false = true) by decide)] at H; exact H
         clear H
         have H := H1
         clear H1
         have H' := Aside0.mk H
         clear H
         go_wp2
         go_roundg kj4
         case measure => have := HK1.out; have := HJ4.out; omega
         case rel => exact ⟨(wrap64 (x7_1 + 1)), (by first | rfl | (simp; done) | (simp [*]; done)), H', ⟨by have := HK1.out; have := HJ4.out; omega⟩, ⟨by repeat (first | (with_reducible first | exact HB.out | apply below_alloc | apply pw_below_drewN | apply below_drew1 | refine below_set ?_ GE106.out) | exact HB.out)⟩⟩
     ·
      rw [if_neg c4] at H
      exact absurd H (by simp)
    ·
     rw [if_neg c3] at H
     exact absurd H (by simp)
   ·
    rw [if_neg c2] at H
    have c2b0 : decide (x7_1 < (l0.length : Int)) = false := decide_eq_false c2
    clear c2
    by_cases c20 : 0 < (l0.length : Int)
    ·
     rw [if_pos c20] at H
     have c20b0 : decide (0 < (l0.length : Int)) = true := decide_eq_true c20
     have c20b1 : decide (0 < l0.length) = true := decide_eq_true (by omega)
     clear c20
     by_cases c21 : ((rd_T41 l0 0).f2) = 0
     ·
      rw [if_pos c21] at H
      have c21b0 : (((rd_T41 l0 0).f2) == 0) = true := beq_iff_eq.mpr c21
      have c21b1 : (((rd_T41 l0 0).f2) != 0) = false := bne_eq_false_iff_eq.mpr c21
      clear c21
      obtain rfl := Option.some.inj H
      have p103 : 0 ≤ (0 : Int) := (by omega)
      have q103 : 0 < (l0.length : Int) := of_decide_eq_true (by first | (with_reducible assumption) | assumption)
      obtain ⟨ad103, e103, hx103_0, hx103_1, hx103_2, hx103_3, hx103_4⟩ := at_T41 HR0.out 0 p103 q103
      cases e103
      have qi103 : (0 < l0.length) = True := eq_true (by omega)
      (try rw [show ((0 : Int)).toNat = 0 from rfl] at hx103_0)
      (try rw [show 0 * 5 = 0 from rfl] at hx103_0)
      (try rw [Addr.add_zero'] at hx103_0)
      (try rw [show ((0 : Int)).toNat = 0 from rfl] at hx103_1)
      (try rw [show 0 * 5 = 0 from rfl] at hx103_1)
      (try rw [Addr.add_zero'] at hx103_1)
      (try rw [show ((0 : Int)).toNat = 0 from rfl] at hx103_2)
      (try rw [show 0 * 5 = 0 from rfl] at hx103_2)
      (try rw [Addr.add_zero'] at hx103_2)
      (try rw [show ((0 : Int)).toNat = 0 from rfl] at hx103_3)
      (try rw [show 0 * 5 = 0 from rfl] at hx103_3)
      (try rw [Addr.add_zero'] at hx103_3)
      (try rw [show ((0 : Int)).toNat = 0 from rfl] at hx103_4)
      (try rw [show 0 * 5 = 0 from rfl] at hx103_4)
      (try rw [Addr.add_zero'] at hx103_4)
      replace hx103_0 := (HB.out.cell (World.block_lt_of_cell? w _ hx103_0)).trans hx103_0
      replace hx103_1 := (HB.out.cell (World.block_lt_of_cell? w _ hx103_1)).trans hx103_1
      replace hx103_2 := (HB.out.cell (World.block_lt_of_cell? w _ hx103_2)).trans hx103_2
      replace hx103_3 := (HB.out.cell (World.block_lt_of_cell? w _ hx103_3)).trans hx103_3
      replace hx103_4 := (HB.out.cell (World.block_lt_of_cell? w _ hx103_4)).trans hx103_4
      replace p103 := eq_true p103
      replace q103 := eq_true q103
      have p104 : 0 ≤ (0 : Int) := (by omega)
      have q104 : 0 < (l0.length : Int) := of_decide_eq_true (by first | (with_reducible assumption) | assumption)
      obtain ⟨ad104, e104, hx104_0, hx104_1, hx104_2, hx104_3, hx104_4⟩ := at_T41 HR0.out 0 p104 q104
      obtain rfl : ad103 = ad104 := (by injection e104)
      have qi104 : (0 < l0.length) = True := eq_true (by omega)
      (try rw [show ((0 : Int)).toNat = 0 from rfl] at hx104_0)
      (try rw [show 0 * 5 = 0 from rfl] at hx104_0)
      (try rw [Addr.add_zero'] at hx104_0)
      (try rw [show ((0 : Int)).toNat = 0 from rfl] at hx104_1)
      (try rw [show 0 * 5 = 0 from rfl] at hx104_1)
      (try rw [Addr.add_zero'] at hx104_1)
      (try rw [show ((0 : Int)).toNat = 0 from rfl] at hx104_2)
      (try rw [show 0 * 5 = 0 from rfl] at hx104_2)
      (try rw [Addr.add_zero'] at hx104_2)
      (try rw [show ((0 : Int)).toNat = 0 from rfl] at hx104_3)
      (try rw [show 0 * 5 = 0 from rfl] at hx104_3)
      (try rw [Addr.add_zero'] at hx104_3)
      (try rw [show ((0 : Int)).toNat = 0 from rfl] at hx104_4)
      (try rw [show 0 * 5 = 0 from rfl] at hx104_4)
      (try rw [Addr.add_zero'] at hx104_4)
      replace hx104_0 := (HB.out.cell (World.block_lt_of_cell? w _ hx104_0)).trans hx104_0
      replace hx104_1 := (HB.out.cell (World.block_lt_of_cell? w _ hx104_1)).trans hx104_1
      replace hx104_2 := (HB.out.cell (World.block_lt_of_cell? w _ hx104_2)).trans hx104_2
      replace hx104_3 := (HB.out.cell (World.block_lt_of_cell? w _ hx104_3)).trans hx104_3
      replace hx104_4 := (HB.out.cell (World.block_lt_of_cell? w _ hx104_4)).trans hx104_4
      replace p104 := eq_true p104
      replace q104 := eq_true q104
      go_wp2
      go_ret
      exact ⟨by first | rfl | (simp [errW_none, errW_some] <;> rfl) | (simp [*, errW_none, errW_some] <;> rfl), by repeat (first | (with_reducible first | exact HB.out | apply below_alloc | apply pw_below_drewN | apply below_drew1) | exact HB.out)⟩
     ·
      rw [if_neg c21] at H
      have c21b0 : (((rd_T41 l0 0).f2) == 0) = false := beq_eq_false_iff_ne.mpr c21
      have c21b1 : (((rd_T41 l0 0).f2) != 0) = true := bne_iff_ne.mpr c21
      obtain rfl := Option.some.inj H
      have p103 : 0 ≤ (0 : Int) := (by omega)
      have q103 : 0 < (l0.length : Int) := of_decide_eq_true (by first | (with_reducible assumption) | assumption)
      obtain ⟨ad103, e103, hx103_0, hx103_1, hx103_2, hx103_3, hx103_4⟩ := at_T41 HR0.out 0 p103 q103
      cases e103
      have qi103 : (0 < l0.length) = True := eq_true (by omega)
      (try rw [show ((0 : Int)).toNat = 0 from rfl] at hx103_0)
      (try rw [show 0 * 5 = 0 from rfl] at hx103_0)
      (try rw [Addr.add_zero'] at hx103_0)
      (try rw [show ((0 : Int)).toNat = 0 from rfl] at hx103_1)
      (try rw [show 0 * 5 = 0 from rfl] at hx103_1)
      (try rw [Addr.add_zero'] at hx103_1)
      (try rw [show ((0 : Int)).toNat = 0 from rfl] at hx103_2)
      (try rw [show 0 * 5 = 0 from rfl] at hx103_2)
      (try rw [Addr.add_zero'] at hx103_2)
      (try rw [show ((0 : Int)).toNat = 0 from rfl] at hx103_3)
      (try rw [show 0 * 5 = 0 from rfl] at hx103_3)
      (try rw [Addr.add_zero'] at hx103_3)
      (try rw [show ((0 : Int)).toNat = 0 from rfl] at hx103_4)
      (try rw [show 0 * 5 = 0 from rfl] at hx103_4)
      (try rw [Addr.add_zero'] at hx103_4)
      replace hx103_0 := (HB.out.cell (World.block_lt_of_cell? w _ hx103_0)).trans hx103_0
      replace hx103_1 := (HB.out.cell (World.block_lt_of_cell? w _ hx103_1)).trans hx103_1
      replace hx103_2 := (HB.out.cell (World.block_lt_of_cell? w _ hx103_2)).trans hx103_2
      replace hx103_3 := (HB.out.cell (World.block_lt_of_cell? w _ hx103_3)).trans hx103_3
      replace hx103_4 := (HB.out.cell (World.block_lt_of_cell? w _ hx103_4)).trans hx103_4
      replace p103 := eq_true p103
      replace q103 := eq_true q103
      go_wp2
      go_ret
      exact ⟨by first | rfl | (simp [errW_none, errW_some] <;> rfl) | (simp [*, errW_none, errW_some] <;> rfl), by repeat (first | (with_reducible first | exact HB.out | apply below_alloc | apply pw_below_drewN | apply below_drew1) | exact HB.out)⟩
    ·
     rw [if_neg c20] at H
     exact absurd H (by simp)
/-! ### accounts_Check_1: function 42 -/
def accounts_Check_1.f (a0_0 : Int) (a0_1 : Int) (a0_2 : Int) (a0_3 : Int) (a0_4 : Int) : Option (Bool) := some (decide (a0_1 > a0_4))
set_option maxHeartbeats 8000000 in
set_option maxRecDepth 100000 in
theorem accounts_Check_1.calls (a0_0 : Int) (a0_1 : Int) (a0_2 : Int) (a0_3 : Int) (a0_4 : Int) (r : Bool) (w : World) (h : accounts_Check_1.f a0_0 a0_1 a0_2 a0_3 a0_4 = some r) :
  Calls Try.prog 42 #[.agg #[.int .i64 a0_0, .int .i64 a0_1, .int .i64 a0_2, .int .i64 a0_3, .int .i64 a0_4]] w fun e w' => e = .returned (.bool r) ∧ Below w.heap.size w w' := by
 have hu41 := Try.underlying41
 have HB := Aside0.mk (Below.refl w.heap.size w)
 have H : (some (decide (a0_1 > a0_4))) = some r := h
 clear h
 obtain rfl := Option.some.inj H
 go_enter Try.func42, Try.ntmps42
 go_wp2_with (first | ((with_reducible refine gate_dst (N := 1) rfl ?_); refine box_event ?hg (N := 1) ?hd (cs := #[.int .i64 a0_0, .int .i64 a0_1, .int .i64 a0_2, .int .i64 a0_3, .int .i64 a0_4]) (t := 41) ?hr ?_; (case hd => rfl); (case hg => rfl); (case hr => first | (go_simp; done) | (go_simp; rfl)); intro gb111 hg w2 hbox hb; have n0_ := Aside0.mk (below_step (by repeat (first | (with_reducible first | exact HB.out | apply below_alloc | apply pw_below_drewN | apply below_drew1) | exact HB.out)) hb); have n1_ := Aside0.mk (hbox); have n2_ := Aside0.mk ((by rw [hg]; exact (below_size (by repeat (first | (with_reducible first | exact HB.out | apply below_alloc | apply pw_below_drewN | apply below_drew1) | exact HB.out))) : w.heap.size ≤ gb111)); have n3_ := Aside0.mk ((by rw [hg]; exact (below_size (by repeat (first | (with_reducible first | exact HB.out | apply below_alloc | apply pw_below_drewN | apply below_drew1) | exact HB.out))) : w.heap.size ≤ gb111)); clear HB; have HB := n0_; have BK111 := n1_; have GW111 := n2_; have GE111 := n3_; clear n0_ n1_ n2_ n3_; clear hb hbox hg; have hcz3_0 : w2.cell? ⟨gb111, 0, none⟩ = some (.int .i64 a0_0) := (blk_cell BK111.out 0).trans rfl; have hcz3_1 : w2.cell? ⟨gb111, 1, none⟩ = some (.int .i64 a0_1) := (blk_cell BK111.out 1).trans rfl; have hcz3_2 : w2.cell? ⟨gb111, 2, none⟩ = some (.int .i64 a0_2) := (blk_cell BK111.out 2).trans rfl; have hcz3_3 : w2.cell? ⟨gb111, 3, none⟩ = some (.int .i64 a0_3) := (blk_cell BK111.out 3).trans rfl; have hcz3_4 : w2.cell? ⟨gb111, 4, none⟩ = some (.int .i64 a0_4) := (blk_cell BK111.out 4).trans rfl; have hfz3_0 := blk_frozen BK111.out 0; have hfz3_1 := blk_frozen BK111.out 1; have hfz3_2 := blk_frozen BK111.out 2; have hfz3_3 := blk_frozen BK111.out 3; have hfz3_4 := blk_frozen BK111.out 4))
 go_ret
 exact ⟨by first | rfl | (simp [errW_none, errW_some] <;> rfl) | (simp [*, errW_none, errW_some] <;> rfl), by repeat (first | (with_reducible first | exact HB.out | apply below_alloc | apply pw_below_drewN | apply below_drew1 | refine below_set ?_ GE111.out) | exact HB.out)⟩
/-! ### api_Account_47: function 47 -/
def api_Account_47.l0 : Nat → List (S41) → Int → Int → Option (Int)
 | 0, _, _, _ => none
 | k + 1, x0, x7, x8 => if x8 < x7 then (if 0 ≤ x8 then (if x8 < (x0.length : Int) then ((accounts_Check_1.f ((rd_T41 x0 x8).f0) ((rd_T41 x0 x8).f1) ((rd_T41 x0 x8).f2) ((rd_T41 x0 x8).f3) ((rd_T41 x0 x8).f4)).bind fun t113 => (if t113 = true then (some x8) else (api_Account_47.l0 k x0 x7 (wrap64 (x8 + 1))))) else (none)) else (none)) else (some (-1))
def api_Account_47.f (k : Nat) (l0 : List (S41))  : Option (Int) := api_Account_47.l0 k l0 (l0.length : Int) 0
theorem api_Account_47.mono_l : ∀ k, (∀ y0 y1 y2, LeO (api_Account_47.l0 k y0 y1 y2) (api_Account_47.l0 (k + 1) y0 y1 y2))
 | 0 => fun _ _ _ r h => by simp [api_Account_47.l0] at h
 | k + 1 => by
  have ih0 := api_Account_47.mono_l k
  ·
   intro y0 y1 y2
   unfold api_Account_47.l0
   repeat' first
   | (with_reducible exact ih0 _ _ _)
   | (with_reducible exact LeO.refl _)
   | (with_reducible exact LeO.none _)
   | (with_reducible refine LeO.ite ?_ ?_)
   | (with_reducible refine LeO.bind ?_ (fun _ => ?_))
   | exact ih0 _ _ _
   | exact LeO.none _
   | refine LeO.ite ?_ ?_
   | refine LeO.bind ?_ (fun _ => ?_)
theorem api_Account_47.mono : ∀ a0 k, LeO (api_Account_47.f k a0) (api_Account_47.f (k + 1) a0) := by
 intro a0 k
 have ih0 := api_Account_47.mono_l k
 unfold api_Account_47.f
 repeat' first
   | (with_reducible exact ih0 _ _ _)
   | (with_reducible exact LeO.refl _)
   | (with_reducible exact LeO.none _)
   | (with_reducible refine LeO.ite ?_ ?_)
   | (with_reducible refine LeO.bind ?_ (fun _ => ?_))
   | exact ih0 _ _ _
   | exact LeO.none _
   | refine LeO.ite ?_ ?_
   | refine LeO.bind ?_ (fun _ => ?_)
set_option maxHeartbeats 8000000 in
set_option maxRecDepth 100000 in
theorem api_Account_47.calls (k : Nat) (A0 : Option Addr) (c0 : Nat) (l0 : List (S41))  (r : Int) (w : World) (hr0 : Kd.C k41 w A0 l0.length l0) (hc0 : l0.length ≤ c0) (h : api_Account_47.f k l0 = some r) :
  Calls Try.prog 47 #[.slice A0 l0.length c0, .func (.func 42) #[] #[]] w fun e w' => e = .returned (.int .i64 r) ∧ Below w.heap.size w w' := by
 have hu41 := Try.underlying41
 have HR0 := Aside0.mk hr0
 have HC0 := Aside0.mk hc0
 clear hr0 hc0
 have HB := Aside0.mk (Below.refl w.heap.size w)
 have H : (api_Account_47.l0 k l0 (l0.length : Int) 0) = some r := h
 clear h
 have H' := Aside0.mk H
 clear H
 go_enter Try.func47, Try.ntmps47
 go_wp2
 go_loopg [8] k (fun kq v8 w' => ∃ (x8_1 : Int), v8 = .int .i64 x8_1 ∧ Aside0 (api_Account_47.l0 kq l0 (l0.length : Int) x8_1 = some r) ∧ Aside0 (kq ≤ k) ∧ Aside0 (Below w.heap.size w w'))
 case atStart => exact ⟨(0), (by first | rfl | (simp; done) | (simp [*]; done)), H', ⟨Nat.le_refl _⟩, ⟨by repeat (first | (with_reducible first | exact HB.out | apply below_alloc | apply pw_below_drewN | apply below_drew1) | exact HB.out)⟩⟩
 case round =>
  clear H'
  try clear p2
  obtain ⟨x8_1, rfl, HA, HK1, HB⟩ := hrel
  cases gk with
  | zero => exact absurd HA.out (by simp [api_Account_47.l0])
  | succ k1 =>
   have H := HA.out
   clear HA
   simp only [api_Account_47.l0] at H
   by_cases c3 : x8_1 < (l0.length : Int)
   ·
    rw [if_pos c3] at H
    have c3b0 : decide (x8_1 < (l0.length : Int)) = true := decide_eq_true c3
    clear c3
    by_cases c4 : 0 ≤ x8_1
    ·
     rw [if_pos c4] at H
     have c4b0 : decide (0 ≤ x8_1) = true := decide_eq_true c4
     clear c4
     by_cases c5 : x8_1 < (l0.length : Int)
     ·
      rw [if_pos c5] at H
      have c5b0 : decide (x8_1 < (l0.length : Int)) = true := decide_eq_true c5
      clear c5
      replace H := Option.bind_eq_some_iff.mp H
      obtain ⟨t113, A60, H⟩ := H
      replace H : (if t113 = true then (some x8_1) else (api_Account_47.l0 k1 l0 (l0.length : Int) (wrap64 (x8_1 + 1)))) = some r := H
      have A6 := Aside0.mk A60
      clear A60
      by_cases c7 : t113 = true
      ·
       subst c7
       have H1 : (some x8_1) = some r := by rw [if_pos rfl] at H; exact H
       clear H
       have H := H1
       clear H1
       obtain rfl := Option.some.inj H
       have p112 : 0 ≤ (x8_1 : Int) := of_decide_eq_true (by first | (with_reducible assumption) | assumption)
       have q112 : x8_1 < (l0.length : Int) := of_decide_eq_true (by first | (with_reducible assumption) | assumption)
       obtain ⟨ad112, e112, hx112_0, hx112_1, hx112_2, hx112_3, hx112_4⟩ := at_T41 HR0.out x8_1 p112 q112
       cases e112
       replace hx112_0 := (HB.out.cell (World.block_lt_of_cell? w _ hx112_0)).trans hx112_0
       replace hx112_1 := (HB.out.cell (World.block_lt_of_cell? w _ hx112_1)).trans hx112_1
       replace hx112_2 := (HB.out.cell (World.block_lt_of_cell? w _ hx112_2)).trans hx112_2
       replace hx112_3 := (HB.out.cell (World.block_lt_of_cell? w _ hx112_3)).trans hx112_3
       replace hx112_4 := (HB.out.cell (World.block_lt_of_cell? w _ hx112_4)).trans hx112_4
       replace p112 := eq_true p112
       replace q112 := eq_true q112
       go_wp2_with (first | (go_at_call 42; (with_reducible refine (accounts_Check_1.calls ((rd_T41 l0 x8_1).f0) ((rd_T41 l0 x8_1).f1) ((rd_T41 l0 x8_1).f2) ((rd_T41 l0 x8_1).f3) ((rd_T41 l0 x8_1).f4) true _ A6.out).mono ?_); rintro e w8 ⟨rfl, hb⟩; have n0_ := Aside0.mk (below_step (by repeat (first | (with_reducible first | exact HB.out | apply below_alloc | apply pw_below_drewN | apply below_drew1) | exact HB.out)) hb); clear HB; have HB := n0_; clear n0_; (try clear hb); (try clear hb2); (try clear hk); (try clear hi)))
       go_ret
       exact ⟨by first | rfl | (simp [errW_none, errW_some] <;> rfl) | (simp [*, errW_none, errW_some] <;> rfl), by repeat (first | (with_reducible first | exact HB.out | apply below_alloc | apply pw_below_drewN | apply below_drew1) | exact HB.out)⟩
      ·
       replace c7 := Bool.eq_false_iff.mpr c7
       subst c7
       have H1 : (api_Account_47.l0 k1 l0 (l0.length : Int) (wrap64 (x8_1 + 1))) = some r := by rw [if_neg (show ¬ (false = true) by decide)] at H; exact H
       clear H
       have H := H1
       clear H1
       have H' := Aside0.mk H
       clear H
       have p112 : 0 ≤ (x8_1 : Int) := of_decide_eq_true (by first | (with_reducible assumption) | assumption)
       have q112 : x8_1 < (l0.length : Int) := of_decide_eq_true (by first | (with_reducible assumption) | assumption)
       obtain ⟨ad112, e112, hx112_0, hx112_1, hx112_2, hx112_3, hx112_4⟩ := at_T41 HR0.out x8_1 p112 q112
       cases e112
       replace hx112_0 := (HB.out.cell (World.block_lt_of_cell? w _ hx112_0)).trans hx112_0
       replace hx112_1 := (HB.out.cell (World.block_lt_of_cell? w _ hx112_1)).trans hx112_1
       replace hx112_2 := (HB.out.cell (World.block_lt_of_cell? w _ hx112_2)).trans hx112_2
       replace hx112_3 := (HB.out.cell (World.block_lt_of_cell? w _ hx112_3)).trans hx112_3
       replace hx112_4 := (HB.out.cell (World.block_lt_of_cell? w _ hx112_4)).trans hx112_4
       replace p112 := eq_true p112
       replace q112 := eq_true q112
       go_wp2_with (first | (go_at_call 42; (with_reducible refine (accounts_Check_1.calls ((rd_T41 l0 x8_1).f0) ((rd_T41 l0 x8_1).f1) ((rd_T41 l0 x8_1).f2) ((rd_T41 l0 x8_1).f3) ((rd_T41 l0 x8_1).f4) false _ A6.out).mono ?_); rintro e w9 ⟨rfl, hb⟩; have n0_ := Aside0.mk (below_step (by repeat (first | (with_reducible first | exact HB.out | apply below_alloc | apply pw_below_drewN | apply below_drew1) | exact HB.out)) hb); clear HB; have HB := n0_; clear n0_; (try clear hb); (try clear hb2); (try clear hk); (try clear hi)))
       go_roundg k1
       case measure => have := HK1.out; omega
       case rel => exact ⟨(wrap64 (x8_1 + 1)), (by first | rfl | (simp; done) | (simp [*]; done)), H', ⟨by have := HK1.out; omega⟩, ⟨by repeat (first | (with_reducible first | exact HB.out | apply below_alloc | apply pw_below_drewN | apply below_drew1) | exact HB.out)⟩⟩
     ·
      rw [if_neg c5] at H
      exact absurd H (by simp)
    ·
     rw [if_neg c4] at H
     exact absurd H (by simp)
   ·
    rw [if_neg c3] at H
    have c3b0 : decide (x8_1 < (l0.length : Int)) = false := decide_eq_false c3
    clear c3
    obtain rfl := Option.some.inj H
    go_wp2
    go_ret
    exact ⟨by first | rfl | (simp [errW_none, errW_some] <;> rfl) | (simp [*, errW_none, errW_some] <;> rfl), by repeat (first | (with_reducible first | exact HB.out | apply below_alloc | apply pw_below_drewN | apply below_drew1) | exact HB.out)⟩
/-! ### api_Account_41: function 41 -/
def api_Account_41.f (k : Nat) (l0 : List (S41))  : Option (Bool) := (api_Account_47.f k l0).bind fun t114 => (some (decide (t114 ≥ 0)))
theorem api_Account_41.mono : ∀ a0 k, LeO (api_Account_41.f k a0) (api_Account_41.f (k + 1) a0) := by
 intro a0 k
 unfold api_Account_41.f
 repeat' first
   | (with_reducible exact api_Account_47.mono _ _)
   | (with_reducible exact LeO.refl _)
   | (with_reducible exact LeO.none _)
   | (with_reducible refine LeO.ite ?_ ?_)
   | (with_reducible refine LeO.bind ?_ (fun _ => ?_))
   | exact api_Account_47.mono _ _
   | exact LeO.none _
   | refine LeO.ite ?_ ?_
   | refine LeO.bind ?_ (fun _ => ?_)
set_option maxHeartbeats 8000000 in
set_option maxRecDepth 100000 in
theorem api_Account_41.calls (k : Nat) (A0 : Option Addr) (c0 : Nat) (l0 : List (S41))  (r : Bool) (w : World) (hr0 : Kd.C k41 w A0 l0.length l0) (hc0 : l0.length ≤ c0) (h : api_Account_41.f k l0 = some r) :
  Calls Try.prog 41 #[.slice A0 l0.length c0, .func (.func 42) #[] #[]] w fun e w' => e = .returned (.bool r) ∧ Below w.heap.size w w' := by
 have HR0 := Aside0.mk hr0
 have HC0 := Aside0.mk hc0
 clear hr0 hc0
 have HB := Aside0.mk (Below.refl w.heap.size w)
 have H : ((api_Account_47.f k l0).bind fun t114 => (some (decide (t114 ≥ 0)))) = some r := h
 clear h
 replace H := Option.bind_eq_some_iff.mp H
 obtain ⟨t114, A30, H⟩ := H
 replace H : (some (decide (t114 ≥ 0))) = some r := H
 have A3 := Aside0.mk A30
 clear A30
 obtain rfl := Option.some.inj H
 go_enter Try.func41, Try.ntmps41
 go_wp2_with (first | ((with_reducible refine gate_callee (f := 47) rfl ?_); refine goesL_ (some 7) rfl rfl Try.func47 (by kernel_rfl) rfl #[.slice A0 l0.length c0, .func (.func 42) #[] #[]] rfl (by (try simp only [List.map_toArray, List.map_cons, List.map_nil]); first | done | rfl | (simp only [List.length_drop, List.length_take]; rfl)) ?_; (with_reducible refine (api_Account_47.calls k _ _ l0  t114 _ ?side1 ?side2 A3.out).mono ?_); (case side1 => repeat (first | exact HR0.out | (with_reducible refine Kd.C_alloc ?_ _) | (with_reducible refine Kd.C_drewN ?_ _) | (with_reducible refine Kd.C_drew ?_))); (case side2 => exact HC0.out); rintro e w4 ⟨rfl, hb⟩; refine ⟨_, rfl, ?_⟩; have n0_ := Aside0.mk (below_step (by repeat (first | (with_reducible first | exact HB.out | apply below_alloc | apply pw_below_drewN | apply below_drew1) | exact HB.out)) hb); clear HB; have HB := n0_; clear n0_; (try clear hb); (try clear hb2); (try clear hk); (try clear hi)))
 go_ret
 exact ⟨by first | rfl | (simp [errW_none, errW_some] <;> rfl) | (simp [*, errW_none, errW_some] <;> rfl), by repeat (first | (with_reducible first | exact HB.out | apply below_alloc | apply pw_below_drewN | apply below_drew1) | exact HB.out)⟩
/-! ### slices_Min_int_int: function 43 -/
def slices_Min_int_int.l0 : Nat → List Int → Int → Int → Option (Int)
 | 0, _, _, _ => none
 | k + 1, x0, x3, x4 => if x4 < (x0.length : Int) then (if 0 ≤ x4 then (slices_Min_int_int.l0 k x0 (mn x3 (rd x0 x4)) (wrap64 (x4 + 1))) else (none)) else (some x3)
def slices_Min_int_int.f (k : Nat) (l0 : List Int) : Option (Int) := if (l0.length : Int) < 1 then (none) else (if 0 < (l0.length : Int) then (slices_Min_int_int.l0 k l0 (rd l0 0) 1) else (none))
theorem slices_Min_int_int.mono_l : ∀ k, (∀ y0 y1 y2, LeO (slices_Min_int_int.l0 k y0 y1 y2) (slices_Min_int_int.l0 (k + 1) y0 y1 y2))
 | 0 => fun _ _ _ r h => by simp [slices_Min_int_int.l0] at h
 | k + 1 => by
  have ih0 := slices_Min_int_int.mono_l k
  ·
   intro y0 y1 y2
   unfold slices_Min_int_int.l0
   repeat' first
   | (with_reducible exact ih0 _ _ _)
   | (with_reducible exact LeO.refl _)
   | (with_reducible exact LeO.none _)
   | (with_reducible refine LeO.ite ?_ ?_)
   | (with_reducible refine LeO.bind ?_ (fun _ => ?_))
   | exact ih0 _ _ _
   | exact LeO.none _
   | refine LeO.ite ?_ ?_
   | refine LeO.bind ?_ (fun _ => ?_)
theorem slices_Min_int_int.mono : ∀ a0 k, LeO (slices_Min_int_int.f k a0) (slices_Min_int_int.f (k + 1) a0) := by
 intro a0 k
 have ih0 := slices_Min_int_int.mono_l k
 unfold slices_Min_int_int.f
 repeat' first
   | (with_reducible exact ih0 _ _ _)
   | (with_reducible exact LeO.refl _)
   | (with_reducible exact LeO.none _)
   | (with_reducible refine LeO.ite ?_ ?_)
   | (with_reducible refine LeO.bind ?_ (fun _ => ?_))
   | exact ih0 _ _ _
   | exact LeO.none _
   | refine LeO.ite ?_ ?_
   | refine LeO.bind ?_ (fun _ => ?_)
set_option maxHeartbeats 8000000 in
set_option maxRecDepth 100000 in
theorem slices_Min_int_int.calls (k : Nat) (A0 : Option Addr) (c0 : Nat) (l0 : List Int) (r : Int) (w : World) (hr0 : Kd.C (Kd.int .i64) w A0 l0.length l0) (hc0 : l0.length ≤ c0) (h : slices_Min_int_int.f k l0 = some r) :
  Calls Try.prog 43 #[.slice A0 l0.length c0] w fun e w' => e = .returned (.int .i64 r) ∧ Below w.heap.size w w' := by
 have HR0 := Aside0.mk hr0
 have HC0 := Aside0.mk hc0
 clear hr0 hc0
 have HB := Aside0.mk (Below.refl w.heap.size w)
 have H : (if (l0.length : Int) < 1 then (none) else (if 0 < (l0.length : Int) then (slices_Min_int_int.l0 k l0 (rd l0 0) 1) else (none))) = some r := h
 clear h
 by_cases c2 : (l0.length : Int) < 1
 ·
  rw [if_pos c2] at H
  exact absurd H (by simp)
 ·
  rw [if_neg c2] at H
  have c2b0 : decide ((l0.length : Int) < 1) = false := decide_eq_false c2
  have c2b1 : decide (l0.length < 1) = false := decide_eq_false (by omega)
  clear c2
  by_cases c3 : 0 < (l0.length : Int)
  ·
   rw [if_pos c3] at H
   have c3b0 : decide (0 < (l0.length : Int)) = true := decide_eq_true c3
   have c3b1 : decide (0 < l0.length) = true := decide_eq_true (by omega)
   clear c3
   have H' := Aside0.mk H
   clear H
   have p115 : 0 ≤ (0 : Int) := (by omega)
   have q115 : 0 < (l0.length : Int) := of_decide_eq_true (by first | (with_reducible assumption) | assumption)
   obtain ⟨ad115, e115, hx115_0⟩ := Kd.at_int HR0.out 0 p115 q115
   cases e115
   have qi115 : (0 < l0.length) = True := eq_true (by omega)
   (try rw [show ((0 : Int)).toNat = 0 from rfl] at hx115_0)
   (try rw [Addr.add_zero'] at hx115_0)
   replace p115 := eq_true p115
   replace q115 := eq_true q115
   go_enter Try.func43, Try.ntmps43
   go_wp2
   go_loopg [3, 4] k (fun kq v3 v4 w' => ∃ (x3_1 : Int) (x4_1 : Int), v3 = .int .i64 x3_1 ∧ v4 = .int .i64 x4_1 ∧ Aside0 (slices_Min_int_int.l0 kq l0 x3_1 x4_1 = some r) ∧ Aside0 (kq ≤ k) ∧ Aside0 (Below w.heap.size w w'))
   case atStart => exact ⟨(rd l0 0), (1), (by first | rfl | (simp; done) | (simp [*]; done)), (by first | rfl | (simp; done) | (simp [*]; done)), H', ⟨Nat.le_refl _⟩, ⟨by repeat (first | (with_reducible first | exact HB.out | apply below_alloc | apply pw_below_drewN | apply below_drew1) | exact HB.out)⟩⟩
   case round =>
    clear H'
    try clear p1
    try clear q1
    try clear hx1
    try clear qi1
    try clear c2
    try clear c2b0
    try clear c2b1
    try clear p2
    try clear c3
    try clear c3b0
    try clear c3b1
    try clear hx115_0
    try clear p115
    try clear q115
    obtain ⟨x3_1, x4_1, rfl, rfl, HA, HK1, HB⟩ := hrel
    cases gk with
    | zero => exact absurd HA.out (by simp [slices_Min_int_int.l0])
    | succ k1 =>
     have H := HA.out
     clear HA
     simp only [slices_Min_int_int.l0] at H
     by_cases c4 : x4_1 < (l0.length : Int)
     ·
      rw [if_pos c4] at H
      have c4b0 : decide (x4_1 < (l0.length : Int)) = true := decide_eq_true c4
      clear c4
      by_cases c5 : 0 ≤ x4_1
      ·
       rw [if_pos c5] at H
       have c5b0 : decide (0 ≤ x4_1) = true := decide_eq_true c5
       clear c5
       obtain ⟨ji6, hji6⟩ : ∃ j_ : Int, (mn x3_1 (rd l0 x4_1)) = j_ := ⟨_, rfl⟩
       replace H : (slices_Min_int_int.l0 k1 l0 ji6 (wrap64 (x4_1 + 1))) = some r := by first | (rw [hji6] at H; exact H) | (simp only [hji6] at H ⊢; exact H)
       have hji6_ : (if (rd l0 x4_1) < x3_1 then (rd l0 x4_1) else x3_1) = ji6 := hji6
       have H' := Aside0.mk H
       clear H
       have p116 : 0 ≤ (x4_1 : Int) := of_decide_eq_true (by first | (with_reducible assumption) | assumption)
       have q116 : x4_1 < (l0.length : Int) := of_decide_eq_true (by first | (with_reducible assumption) | assumption)
       obtain ⟨ad116, e116, hx116_0⟩ := Kd.at_int HR0.out x4_1 p116 q116
       obtain rfl : ad115 = ad116 := (by injection e116)
       replace hx116_0 := (HB.out.cell (World.block_lt_of_cell? w _ hx116_0)).trans hx116_0
       replace p116 := eq_true p116
       replace q116 := eq_true q116
       go_wp2
       go_roundg k1
       case measure => have := HK1.out; omega
       case rel => exact ⟨(ji6), (wrap64 (x4_1 + 1)), (by first | rfl | (simp; done) | (simp only [← hji6] <;> (first | rfl | simp)) | (simp [*]; done)), (by first | rfl | (simp; done) | (simp [*]; done)), H', ⟨by have := HK1.out; omega⟩, ⟨by repeat (first | (with_reducible first | exact HB.out | apply below_alloc | apply pw_below_drewN | apply below_drew1) | exact HB.out)⟩⟩
      ·
       rw [if_neg c5] at H
       exact absurd H (by simp)
     ·
      rw [if_neg c4] at H
      have c4b0 : decide (x4_1 < (l0.length : Int)) = false := decide_eq_false c4
      clear c4
      obtain rfl := Option.some.inj H
      go_wp2
      go_ret
      exact ⟨by first | rfl | (simp [errW_none, errW_some] <;> rfl) | (simp [*, errW_none, errW_some] <;> rfl), by repeat (first | (with_reducible first | exact HB.out | apply below_alloc | apply pw_below_drewN | apply below_drew1) | exact HB.out)⟩
  ·
   rw [if_neg c3] at H
   exact absurd H (by simp)
/-! ### accounts_own: function 44 -/
def accounts_own.l0 : Nat → List Int → List (S41) → Int → Int → Option (List Int)
 | 0, _, _, _, _ => none
 | k + 1, x3, x9, x10, x11 => if x11 < x10 then (if 0 ≤ x11 then (if x11 < (x9.length : Int) then (if x11 < (x3.length : Int) then ((some (x3.set (x11 : Int).toNat (wrap64 ((rd x3 x11) + ((rd_T41 x9 x11).f1))) : List Int)).bind fun y123 => (if x11 > 0 then (if 0 ≤ ((rd_T41 x9 x11).f0) then (if ((rd_T41 x9 x11).f0) < (x3.length : Int) then (accounts_own.l0 k (y123.set (((rd_T41 x9 x11).f0) : Int).toNat (wrap64 ((rd y123 ((rd_T41 x9 x11).f0)) - ((rd_T41 x9 x11).f1)))) x9 x10 (wrap64 (x11 + 1))) else (none)) else (none)) else (accounts_own.l0 k y123 x9 x10 (wrap64 (x11 + 1))))) else (none)) else (none)) else (none)) else (some x3)
def accounts_own.f (k : Nat) (l0 : List (S41)) : Option (List Int) := if 0 ≤ (l0.length : Int) then (if ((l0.length : Int) : Int).toNat ≤ 35184372088832 then (accounts_own.l0 k (List.replicate ((l0.length : Int) : Int).toNat 0) l0 (l0.length : Int) 0) else (none)) else (none)
theorem accounts_own.mono_l : ∀ k, (∀ y0 y1 y2 y3, LeO (accounts_own.l0 k y0 y1 y2 y3) (accounts_own.l0 (k + 1) y0 y1 y2 y3))
 | 0 => fun _ _ _ _ r h => by simp [accounts_own.l0] at h
 | k + 1 => by
  have ih0 := accounts_own.mono_l k
  ·
   intro y0 y1 y2 y3
   unfold accounts_own.l0
   repeat' first
   | (with_reducible exact ih0 _ _ _ _)
   | (with_reducible exact LeO.refl _)
   | (with_reducible exact LeO.none _)
   | (with_reducible refine LeO.ite ?_ ?_)
   | (with_reducible refine LeO.bind ?_ (fun _ => ?_))
   | exact ih0 _ _ _ _
   | exact LeO.none _
   | refine LeO.ite ?_ ?_
   | refine LeO.bind ?_ (fun _ => ?_)
theorem accounts_own.mono : ∀ a0 k, LeO (accounts_own.f k a0) (accounts_own.f (k + 1) a0) := by
 intro a0 k
 have ih0 := accounts_own.mono_l k
 unfold accounts_own.f
 repeat' first
   | (with_reducible exact ih0 _ _ _ _)
   | (with_reducible exact LeO.refl _)
   | (with_reducible exact LeO.none _)
   | (with_reducible refine LeO.ite ?_ ?_)
   | (with_reducible refine LeO.bind ?_ (fun _ => ?_))
   | exact ih0 _ _ _ _
   | exact LeO.none _
   | refine LeO.ite ?_ ?_
   | refine LeO.bind ?_ (fun _ => ?_)
def accounts_own.T5 : Bool × List (List Nat × List Nat) := (true, [([], []), ([], []), ([0, 1], [0, 1]), ([2], [2]), ([], []), ([4], [4]), ([3, 5], [3, 5]), ([0, 1, 0, 1, 2, 3, 4, 5, 6], [0, 1]), ([7, 6, 0, 1, 2, 3, 4, 5, 6], [6, 7])])
def accounts_own.B5 : List Nat := [0, 0, 3, 7, 0, 16, 63, 127, 255]
theorem accounts_own.tab5 : rtab .any (opsOf Try.f44 5) = accounts_own.T5 := by kernel_rfl
theorem accounts_own.bits5 : waitsOk accounts_own.T5.2 accounts_own.B5 = true := by kernel_rfl
def accounts_own.T7 : Bool × List (List Nat × List Nat) := (true, [([], []), ([], []), ([1], [1]), ([0, 2], [0, 2]), ([3], [3]), ([], []), ([5], [5]), ([4, 6], [4, 6]), ([0, 2, 0, 1, 2, 3, 4, 5, 6, 7], [0, 2]), ([8, 7, 0, 1, 2, 3, 4, 5, 6, 7], [7, 8])])
def accounts_own.B7 : List Nat := [0, 0, 2, 7, 15, 0, 32, 127, 255, 511]
theorem accounts_own.tab7 : rtab .any (opsOf Try.f44 7) = accounts_own.T7 := by kernel_rfl
theorem accounts_own.bits7 : waitsOk accounts_own.T7.2 accounts_own.B7 = true := by kernel_rfl
set_option maxHeartbeats 8000000 in
set_option maxRecDepth 100000 in
theorem accounts_own.calls (k : Nat) (A0 : Option Addr) (c0 : Nat) (l0 : List (S41)) (r : List Int) (w : World) (hr0 : Kd.C k41 w A0 l0.length l0) (hc0 : l0.length ≤ c0) (h : accounts_own.f k l0 = some r) :
  Calls Try.prog 44 #[.slice A0 l0.length c0] w fun e w' => ∃ v0_ : Value, e = .returned (v0_) ∧ Kd.R (Kd.int .i64) 3 w' w.heap.size (fun _ => True) v0_ r ∧ Below w.heap.size w w' := by
 have hu41 := Try.underlying41
 have HR0 := Aside0.mk hr0
 have HC0 := Aside0.mk hc0
 clear hr0 hc0
 have HB := Aside0.mk (Below.refl w.heap.size w)
 have H : (if 0 ≤ (l0.length : Int) then (if ((l0.length : Int) : Int).toNat ≤ 35184372088832 then (accounts_own.l0 k (List.replicate ((l0.length : Int) : Int).toNat 0) l0 (l0.length : Int) 0) else (none)) else (none)) = some r := h
 clear h
 by_cases c2 : 0 ≤ (l0.length : Int)
 ·
  rw [if_pos c2] at H
  have c2b0 := eq_true c2
  have c2b1 : decide (0 ≤ (l0.length : Int)) = true := decide_eq_true c2
  clear c2
  by_cases c3 : ((l0.length : Int) : Int).toNat ≤ 35184372088832
  ·
   rw [if_pos c3] at H
   have c3b0 := eq_true c3
   have c3b1 : decide (((l0.length : Int) : Int).toNat ≤ 35184372088832) = true := decide_eq_true c3
   clear c3
   obtain ⟨y117, hy117⟩ : ∃ y_ : List Int, y_ = (List.replicate ((l0.length : Int) : Int).toNat 0) := ⟨_, rfl⟩
   replace H : (accounts_own.l0 k y117 l0 (l0.length : Int) 0) = some r := by first | (rw [hy117]; with_reducible exact H) | (have H2_ := (Option.bind_some _ _).symm.trans H; rw [hy117]; with_reducible exact H2_) | (have H2_ := (Option.bind_some _ _).symm.trans H; with_reducible exact H2_) | with_reducible exact H | (rw [hy117]; exact H) | exact H
   have Ny117 := Aside0.mk hy117
   clear hy117
   have H' := Aside0.mk H
   clear H
   go_enter Try.func44, Try.ntmps44
   go_wp2_with (first | ((with_reducible refine gate_dst (N := 8) rfl ?_); refine Kd.R_make (Kd.int .i64) _ 3 rfl (N := 8) rfl 25 _ _ rfl (l0.length : Int) rfl rfl Try.underlying25 (.int .i64 0) 8 info3 rfl (by decide) (by omega) 0 (ok := fun _ => True) (okp := fun _ => True) rfl (fun _ hk => hk) trivial (of_decide_eq_true (by first | (with_reducible assumption) | assumption)) (Nat.le_trans (Nat.mul_le_mul_right _ (of_decide_eq_true (by first | (with_reducible assumption) | assumption) : (l0.length : Int).toNat ≤ 35184372088832)) (by omega)) (Below.refl _ _) (Nat.le_refl _) ?_; intro v118 w4 ho5 hb hg_ hnew_; clear hg_ hnew_; (first | rw [← Ny117.out] at ho5 | (simp only [Int.reduceToNat] at ho5; rw [← Ny117.out] at ho5)); have n0_ := Aside0.mk (Kd.R_lower ho5 (below_size (by repeat (first | (with_reducible first | exact HB.out | apply below_alloc | apply pw_below_drewN | apply below_drew1) | exact HB.out)))); have n1_ := Aside0.mk (below_step (by repeat (first | (with_reducible first | exact HB.out | apply below_alloc | apply pw_below_drewN | apply below_drew1) | exact HB.out)) hb); clear HB; have HO119 := n0_; have HB := n1_; clear n0_ n1_; clear hb ho5))
   go_loopg [11] k (fun kq v11 w' => ∃ (x3_1 : List Int) (x11_1 : Int), v11 = .int .i64 x11_1 ∧ Aside0 (accounts_own.l0 kq x3_1 l0 (l0.length : Int) x11_1 = some r) ∧ Aside0 (kq ≤ k) ∧ Aside0 (Kd.R (Kd.int .i64) 3 w' w.heap.size (fun _ => True) v118 x3_1) ∧ Aside0 (Below w.heap.size w w'))
   case atStart => exact ⟨(y117), (0), (by first | rfl | (simp; done) | (simp [*]; done)), H', ⟨Nat.le_refl _⟩, ⟨by (with_reducible repeat (first | apply Kd.R_alloc | apply Kd.R_drewN | apply Kd.R_drew)); exact HO119.out⟩, ⟨by repeat (first | (with_reducible first | exact HB.out | apply below_alloc | apply pw_below_drewN | apply below_drew1) | exact HB.out)⟩⟩
   case round =>
    clear H'
    try clear c2
    try clear c2b0
    try clear c2b1
    try clear p2
    try clear c3
    try clear c3b0
    try clear c3b1
    try clear c4
    obtain ⟨x3_1, x11_1, rfl, HA, HK1, HO_3, HB⟩ := hrel
    cases gk with
    | zero => exact absurd HA.out (by simp [accounts_own.l0])
    | succ k1 =>
     have H := HA.out
     clear HA
     simp only [accounts_own.l0] at H
     by_cases c6 : x11_1 < (l0.length : Int)
     ·
      rw [if_pos c6] at H
      have c6b0 : decide (x11_1 < (l0.length : Int)) = true := decide_eq_true c6
      clear c6
      by_cases c7 : 0 ≤ x11_1
      ·
       rw [if_pos c7] at H
       have c7b0 : decide (0 ≤ x11_1) = true := decide_eq_true c7
       clear c7
       by_cases c8 : x11_1 < (l0.length : Int)
       ·
        rw [if_pos c8] at H
        have c8b0 : decide (x11_1 < (l0.length : Int)) = true := decide_eq_true c8
        clear c8
        by_cases c9 : x11_1 < (x3_1.length : Int)
        ·
         rw [if_pos c9] at H
         have c9b0 : decide (x11_1 < (x3_1.length : Int)) = true := decide_eq_true c9
         clear c9
         obtain ⟨y123, hy123⟩ : ∃ y_ : List Int, y_ = (x3_1.set (x11_1 : Int).toNat (wrap64 ((rd x3_1 x11_1) + ((rd_T41 l0 x11_1).f1)))) := ⟨_, rfl⟩
         replace H : (if x11_1 > 0 then (if 0 ≤ ((rd_T41 l0 x11_1).f0) then (if ((rd_T41 l0 x11_1).f0) < (x3_1.length : Int) then (accounts_own.l0 k1 (y123.set (((rd_T41 l0 x11_1).f0) : Int).toNat (wrap64 ((rd y123 ((rd_T41 l0 x11_1).f0)) - ((rd_T41 l0 x11_1).f1)))) l0 (l0.length : Int) (wrap64 (x11_1 + 1))) else (none)) else (none)) else (accounts_own.l0 k1 y123 l0 (l0.length : Int) (wrap64 (x11_1 + 1)))) = some r := by first | (rw [hy123]; with_reducible exact H) | (have H2_ := (Option.bind_some _ _).symm.trans H; rw [hy123]; with_reducible exact H2_) | (have H2_ := (Option.bind_some _ _).symm.trans H; with_reducible exact H2_) | with_reducible exact H | (rw [hy123]; exact H) | exact H
         have Ny123 := Aside0.mk hy123
         clear hy123
         by_cases c11 : x11_1 > 0
         ·
          rw [if_pos c11] at H
          have c11b0 : decide (0 < x11_1) = true := decide_eq_true c11
          clear c11
          by_cases c12 : 0 ≤ ((rd_T41 l0 x11_1).f0)
          ·
           rw [if_pos c12] at H
           have c12b0 : decide (0 ≤ ((rd_T41 l0 x11_1).f0)) = true := decide_eq_true c12
           clear c12
           by_cases c13 : ((rd_T41 l0 x11_1).f0) < (x3_1.length : Int)
           ·
            rw [if_pos c13] at H
            have c13b0 : decide (((rd_T41 l0 x11_1).f0) < (x3_1.length : Int)) = true := decide_eq_true c13
            clear c13
            obtain ⟨y125, hy125⟩ : ∃ y_ : List Int, y_ = (y123.set (((rd_T41 l0 x11_1).f0) : Int).toNat (wrap64 ((rd y123 ((rd_T41 l0 x11_1).f0)) - ((rd_T41 l0 x11_1).f1)))) := ⟨_, rfl⟩
            replace H : (accounts_own.l0 k1 y125 l0 (l0.length : Int) (wrap64 (x11_1 + 1))) = some r := by first | (rw [hy125]; with_reducible exact H) | (have H2_ := (Option.bind_some _ _).symm.trans H; rw [hy125]; with_reducible exact H2_) | (have H2_ := (Option.bind_some _ _).symm.trans H; with_reducible exact H2_) | with_reducible exact H | (rw [hy125]; exact H) | exact H
            have Ny125 := Aside0.mk hy125
            clear hy125
            have H' := Aside0.mk H
            clear H
            have p120 : 0 ≤ (x11_1 : Int) := of_decide_eq_true (by first | (with_reducible assumption) | assumption)
            have q120 : x11_1 < (l0.length : Int) := of_decide_eq_true (by first | (with_reducible assumption) | assumption)
            obtain ⟨ad120, e120, hx120_0, hx120_1, hx120_2, hx120_3, hx120_4⟩ := at_T41 HR0.out x11_1 p120 q120
            cases e120
            replace hx120_0 := (HB.out.cell (World.block_lt_of_cell? w _ hx120_0)).trans hx120_0
            replace hx120_1 := (HB.out.cell (World.block_lt_of_cell? w _ hx120_1)).trans hx120_1
            replace hx120_2 := (HB.out.cell (World.block_lt_of_cell? w _ hx120_2)).trans hx120_2
            replace hx120_3 := (HB.out.cell (World.block_lt_of_cell? w _ hx120_3)).trans hx120_3
            replace hx120_4 := (HB.out.cell (World.block_lt_of_cell? w _ hx120_4)).trans hx120_4
            replace p120 := eq_true p120
            replace q120 := eq_true q120
            try go_wp2_with (first | ((with_reducible refine gate_dst (N := 5) rfl ?_); refine box_event ?hg (N := 5) ?hd (cs := #[.int .i64 0, .int .i64 0, .int .i64 0, .int .i64 0, .int .i64 0]) (t := 41) ?hr ?_; (case hd => rfl); (case hg => rfl); (case hr => first | (go_simp; done) | (go_simp; rfl)); intro gb121 hg w15 hbox hb; have n0_ := Aside0.mk (Kd.R_below (by (with_reducible repeat (first | apply Kd.R_alloc | apply Kd.R_drewN | apply Kd.R_drew)); exact HO_3.out) hb); have n1_ := Aside0.mk (below_step (by repeat (first | (with_reducible first | exact HB.out | apply below_alloc | apply pw_below_drewN | apply below_drew1) | exact HB.out)) hb); have n2_ := Aside0.mk (hbox); have n3_ := Aside0.mk ((by rw [hg]; exact (below_size (by repeat (first | (with_reducible first | exact HB.out | apply below_alloc | apply pw_below_drewN | apply below_drew1) | exact HB.out))) : w.heap.size ≤ gb121)); have n4_ := Aside0.mk ((by rw [hg]; exact (below_size (by repeat (first | (with_reducible first | exact HB.out | apply below_alloc | apply pw_below_drewN | apply below_drew1) | exact HB.out))) : w.heap.size ≤ gb121)); clear HO_3; clear HB; have HO_3 := n0_; have HB := n1_; have BK121 := n2_; have GW121 := n3_; have GE121 := n4_; clear n0_ n1_ n2_ n3_ n4_; clear hb hbox hg; have hcz16_0 : w15.cell? ⟨gb121, 0, none⟩ = some (.int .i64 0) := (blk_cell BK121.out 0).trans rfl; have hcz16_1 : w15.cell? ⟨gb121, 1, none⟩ = some (.int .i64 0) := (blk_cell BK121.out 1).trans rfl; have hcz16_2 : w15.cell? ⟨gb121, 2, none⟩ = some (.int .i64 0) := (blk_cell BK121.out 2).trans rfl; have hcz16_3 : w15.cell? ⟨gb121, 3, none⟩ = some (.int .i64 0) := (blk_cell BK121.out 3).trans rfl; have hcz16_4 : w15.cell? ⟨gb121, 4, none⟩ = some (.int .i64 0) := (blk_cell BK121.out 4).trans rfl; have hfz16_0 := blk_frozen BK121.out 0; have hfz16_1 := blk_frozen BK121.out 1; have hfz16_2 := blk_frozen BK121.out 2; have hfz16_3 := blk_frozen BK121.out 3; have hfz16_4 := blk_frozen BK121.out 4))
            have n0_ : Aside0 (Kd.R (Kd.int .i64) 3 (((((w15.setCell ⟨gb121, 0, none⟩ (.int .i64 ((rd_T41 l0 x11_1).f0))).setCell ⟨gb121, 1, none⟩ (.int .i64 ((rd_T41 l0 x11_1).f1))).setCell ⟨gb121, 2, none⟩ (.int .i64 ((rd_T41 l0 x11_1).f2))).setCell ⟨gb121, 3, none⟩ (.int .i64 ((rd_T41 l0 x11_1).f3))).setCell ⟨gb121, 4, none⟩ (.int .i64 ((rd_T41 l0 x11_1).f4))) w.heap.size (fun _ => True) v118 x3_1) := ⟨by (with_reducible repeat (first | apply Kd.R_alloc | apply Kd.R_drewN | apply Kd.R_drew)); exact Kd.R_mono (Kd.R_far (p := ⟨gb121, 4, none⟩) (Kd.R_far (p := ⟨gb121, 3, none⟩) (Kd.R_far (p := ⟨gb121, 2, none⟩) (Kd.R_far (p := ⟨gb121, 1, none⟩) (Kd.R_far (p := ⟨gb121, 0, none⟩) (Kd.R_types HO_3.out BK121.out (by decide)) (fun _ hk => hk.2) (.int .i64 ((rd_T41 l0 x11_1).f0))) (fun _ hk => hk.2) (.int .i64 ((rd_T41 l0 x11_1).f1))) (fun _ hk => hk.2) (.int .i64 ((rd_T41 l0 x11_1).f2))) (fun _ hk => hk.2) (.int .i64 ((rd_T41 l0 x11_1).f3))) (fun _ hk => hk.2) (.int .i64 ((rd_T41 l0 x11_1).f4))) (fun _ hk => trivial)⟩
            have n1_ : Aside0 ((((((w15.setCell ⟨gb121, 0, none⟩ (.int .i64 ((rd_T41 l0 x11_1).f0))).setCell ⟨gb121, 1, none⟩ (.int .i64 ((rd_T41 l0 x11_1).f1))).setCell ⟨gb121, 2, none⟩ (.int .i64 ((rd_T41 l0 x11_1).f2))).setCell ⟨gb121, 3, none⟩ (.int .i64 ((rd_T41 l0 x11_1).f3))).setCell ⟨gb121, 4, none⟩ (.int .i64 ((rd_T41 l0 x11_1).f4))).heap[gb121]? = some (.cells #[.int .i64 ((rd_T41 l0 x11_1).f0), .int .i64 ((rd_T41 l0 x11_1).f1), .int .i64 ((rd_T41 l0 x11_1).f2), .int .i64 ((rd_T41 l0 x11_1).f3), .int .i64 ((rd_T41 l0 x11_1).f4)] 41 (0, 0))) := ⟨by (with_reducible repeat (first | refine blk_drewN ?_ _ | refine blk_drew ?_ | refine blk_alloc ?_ _)); refine blk_put (cs := #[.int .i64 ((rd_T41 l0 x11_1).f0), .int .i64 ((rd_T41 l0 x11_1).f1), .int .i64 ((rd_T41 l0 x11_1).f2), .int .i64 ((rd_T41 l0 x11_1).f3), .int .i64 0]) ?_ 4 _ rfl; (with_reducible repeat (first | refine blk_drewN ?_ _ | refine blk_drew ?_ | refine blk_alloc ?_ _)); refine blk_put (cs := #[.int .i64 ((rd_T41 l0 x11_1).f0), .int .i64 ((rd_T41 l0 x11_1).f1), .int .i64 ((rd_T41 l0 x11_1).f2), .int .i64 0, .int .i64 0]) ?_ 3 _ rfl; (with_reducible repeat (first | refine blk_drewN ?_ _ | refine blk_drew ?_ | refine blk_alloc ?_ _)); refine blk_put (cs := #[.int .i64 ((rd_T41 l0 x11_1).f0), .int .i64 ((rd_T41 l0 x11_1).f1), .int .i64 0, .int .i64 0, .int .i64 0]) ?_ 2 _ rfl; (with_reducible repeat (first | refine blk_drewN ?_ _ | refine blk_drew ?_ | refine blk_alloc ?_ _)); refine blk_put (cs := #[.int .i64 ((rd_T41 l0 x11_1).f0), .int .i64 0, .int .i64 0, .int .i64 0, .int .i64 0]) ?_ 1 _ rfl; (with_reducible repeat (first | refine blk_drewN ?_ _ | refine blk_drew ?_ | refine blk_alloc ?_ _)); refine blk_put (cs := #[.int .i64 0, .int .i64 0, .int .i64 0, .int .i64 0, .int .i64 0]) ?_ 0 _ rfl; (with_reducible repeat (first | refine blk_drewN ?_ _ | refine blk_drew ?_ | refine blk_alloc ?_ _)); exact BK121.out⟩
            have n2_ : Aside0 (Below w.heap.size w (((((w15.setCell ⟨gb121, 0, none⟩ (.int .i64 ((rd_T41 l0 x11_1).f0))).setCell ⟨gb121, 1, none⟩ (.int .i64 ((rd_T41 l0 x11_1).f1))).setCell ⟨gb121, 2, none⟩ (.int .i64 ((rd_T41 l0 x11_1).f2))).setCell ⟨gb121, 3, none⟩ (.int .i64 ((rd_T41 l0 x11_1).f3))).setCell ⟨gb121, 4, none⟩ (.int .i64 ((rd_T41 l0 x11_1).f4)))) := ⟨by repeat (first | (with_reducible first | exact HB.out | apply below_alloc | apply pw_below_drewN | apply below_drew1 | refine below_set ?_ GE121.out) | exact HB.out)⟩
            (try clear HO_3)
            (try clear BK121)
            (try clear HB)
            generalize (((((w15.setCell ⟨gb121, 0, none⟩ (.int .i64 ((rd_T41 l0 x11_1).f0))).setCell ⟨gb121, 1, none⟩ (.int .i64 ((rd_T41 l0 x11_1).f1))).setCell ⟨gb121, 2, none⟩ (.int .i64 ((rd_T41 l0 x11_1).f2))).setCell ⟨gb121, 3, none⟩ (.int .i64 ((rd_T41 l0 x11_1).f3))).setCell ⟨gb121, 4, none⟩ (.int .i64 ((rd_T41 l0 x11_1).f4))) = w17 at n0_ n1_ n2_ ⊢
            have HO_3 := n0_
            have BK121 := n1_
            have HB := n2_
            clear n0_ n1_ n2_
            have n0_ := Aside0.mk (Kd.R_drew HO_3.out)
            have n1_ := Aside0.mk (blk_drew BK121.out)
            have n2_ := Aside0.mk (below_drew1 HB.out)
            clear HO_3
            clear BK121
            clear HB
            have HO_3 := n0_
            have BK121 := n1_
            have HB := n2_
            clear n0_ n1_ n2_
            obtain ⟨Ao19, co19, eo19⟩ := Kd.R_slice HO_3.out
            (first | subst eo19 | (injection eo19 with f1_ f2_ f3_; have f4_ := f1_.symm; have f5_ := f3_.symm; clear f1_ f2_ f3_; subst f4_; subst f5_))
            have p122 : 0 ≤ (x11_1 : Int) := of_decide_eq_true (by first | (with_reducible assumption) | assumption)
            have q122 : x11_1 < (x3_1.length : Int) := of_decide_eq_true (by first | (with_reducible assumption) | assumption)
            obtain ⟨ad122, e122, hx122_0⟩ := Kd.at_int (Kd.R_reads' HO_3.out).2.2 x11_1 p122 q122
            cases e122
            replace p122 := eq_true p122
            replace q122 := eq_true q122
            have p10 : 0 ≤ (x11_1 : Int) := of_decide_eq_true (by first | (with_reducible assumption) | assumption)
            have q10 : (x11_1 : Int) < ((x3_1.length : Int) : Int) := of_decide_eq_true (by first | (with_reducible assumption) | assumption)
            obtain ⟨go10, co10, eo10, gb10, gl10, cl10, HG10⟩ := Kd.R_form HO_3.out (by omega)
            (first | cases eo10 | (injection eo10 with ea_ en_ ec_; (first | subst ea_ | (injection ea_ with ea_; subst ea_)); subst ec_; clear en_))
            have GB10 := Aside0.mk gb10
            have GG10 := Aside0.mk HG10
            clear gb10 gl10 HG10
            (first | simp only [add_plain] at hx122_0 | skip)
            obtain ⟨hx10_0, hf10_0⟩ := Kd.R_celln 0 HO_3.out (x11_1 : Int) p10 q10
            replace p10 := eq_true p10
            replace q10 := eq_true q10
            have HP20 := Kd.R_putn HO_3.out (x11_1 : Int) (wrap64 ((rd x3_1 x11_1) + ((rd_T41 l0 x11_1).f1)))
            rw [← Ny123.out] at HP20
            have HQ20 := Aside0.mk HP20
            clear HP20
            refine start_ (n := 9) (S := fun w' => w'.cell? ⟨gb121, 0, none⟩ = some (.int .i64 ((rd_T41 l0 x11_1).f0)) ∧ w'.cell? ⟨gb121, 1, none⟩ = some (.int .i64 ((rd_T41 l0 x11_1).f1)) ∧ w'.cell? ⟨gb121, 2, none⟩ = some (.int .i64 ((rd_T41 l0 x11_1).f2)) ∧ w'.cell? ⟨gb121, 3, none⟩ = some (.int .i64 ((rd_T41 l0 x11_1).f3)) ∧ w'.cell? ⟨gb121, 4, none⟩ = some (.int .i64 ((rd_T41 l0 x11_1).f4)) ∧ w'.cell? ⟨go10, (x11_1).toNat, none⟩ = some (.int .i64 (rd x3_1 x11_1))) (ds := [8]) #[false, false, false, false, false, false, false, false, false] (by kernel_rfl) rfl rfl ⟨(blk_cell BK121.out 0).trans rfl, (blk_cell BK121.out 1).trans rfl, (blk_cell BK121.out 2).trans rfl, (blk_cell BK121.out 3).trans rfl, (blk_cell BK121.out 4).trans rfl, hx122_0⟩ (fun hHeld => ?_); refine with_tabW accounts_own.tab5 accounts_own.bits5 (fun HT_ HW_ => ?_)
            generalize w17.drew = w18 at HO_3 BK121 HB GG10 HQ20 hf10_0 hx10_0 hx122_0 hHeld ⊢
            refine pure_ (i := 0) (N := some 16) (v := ?_) (a' := ?_) #[true, false, false, false, false, false, false, false, false] rfl rfl (any_of HT_.out (by kernel_rfl)) (fun _ _ _ h => h) (Or.inl ⟨by rfl, ?_⟩) ?_ ?_
            rotate_left
            ·
             intro w'
             go_simp
             with_reducible rfl
            rotate_left
            ·
             simp only [Act.put, List.setIfInBounds_toArray, List.set_cons_zero, List.set_cons_succ, i64_w, i32_w]
             rfl
            refine pure_ (i := 1) (N := some 17) (v := ?_) (a' := ?_) #[true, true, false, false, false, false, false, false, false] rfl rfl (any_of HT_.out (by kernel_rfl)) (fun _ _ _ h => h) (Or.inl ⟨by rfl, ?_⟩) ?_ ?_
            rotate_left
            ·
             intro w'
             go_simp
             with_reducible rfl
            rotate_left
            ·
             simp only [Act.put, List.setIfInBounds_toArray, List.set_cons_zero, List.set_cons_succ, i64_w, i32_w]
             rfl
            refine pure_ (i := 2) (N := some 18) (v := ?_) (a' := ?_) #[true, true, true, false, false, false, false, false, false] rfl rfl (any_of HT_.out (by kernel_rfl)) (fun _ _ _ h => h) (Or.inl ⟨by rfl, ?_⟩) ?_ ?_
            rotate_left
            ·
             intro w'
             go_simp
             with_reducible rfl
            rotate_left
            ·
             simp only [Act.put, List.setIfInBounds_toArray, List.set_cons_zero, List.set_cons_succ, i64_w, i32_w]
             rfl
            refine pure_ (i := 4) (N := some 20) (v := ?_) (a' := ?_) #[true, true, true, false, true, false, false, false, false] rfl rfl (any_of HT_.out (by kernel_rfl)) (fun _ _ _ h => h) (Or.inl ⟨by rfl, ?_⟩) ?_ ?_
            rotate_left
            ·
             intro w'
             go_simp
             with_reducible rfl
            rotate_left
            ·
             simp only [Act.put, List.setIfInBounds_toArray, List.set_cons_zero, List.set_cons_succ, i64_w, i32_w]
             rfl
            refine take_ (i := 3) (N := some 19) (v := ?_) (a' := ?_) #[true, true, true, true, true, false, false, false, false] rfl rfl (take_ofW HT_.out HW_.out (by kernel_rfl)) (fun _ _ _ h => h) (Or.inl ⟨by rfl, ?_⟩) hHeld ?_ ?_
            rotate_left
            ·
             rintro w' ⟨s0, s1, s2, s3, s4, s5⟩
             go_simp
             with_reducible rfl
            rotate_left
            ·
             simp only [Act.put, List.setIfInBounds_toArray, List.set_cons_zero, List.set_cons_succ, i64_w, i32_w]
             rfl
            refine take_ (i := 5) (N := some 21) (v := ?_) (a' := ?_) #[true, true, true, true, true, true, false, false, false] rfl rfl (take_ofW HT_.out HW_.out (by kernel_rfl)) (fun _ _ _ h => h) (Or.inl ⟨by rfl, ?_⟩) hHeld ?_ ?_
            rotate_left
            ·
             rintro w' ⟨s0, s1, s2, s3, s4, s5⟩
             go_simp
             with_reducible rfl
            rotate_left
            ·
             simp only [Act.put, List.setIfInBounds_toArray, List.set_cons_zero, List.set_cons_succ, i64_w, i32_w]
             rfl
            refine pure_ (i := 6) (N := some 22) (v := ?_) (a' := ?_) #[true, true, true, true, true, true, true, false, false] rfl rfl (any_of HT_.out (by kernel_rfl)) (fun _ _ _ h => h) (Or.inl ⟨by rfl, ?_⟩) ?_ ?_
            rotate_left
            ·
             intro w'
             go_simp
             with_reducible rfl
            rotate_left
            ·
             simp only [Act.put, List.setIfInBounds_toArray, List.set_cons_zero, List.set_cons_succ, i64_w, i32_w]
             rfl
            refine pure_ (i := 7) (N := some 23) (v := ?_) (a' := ?_) #[true, true, true, true, true, true, true, true, false] rfl rfl (any_of HT_.out (by kernel_rfl)) (fun _ _ _ h => h) (Or.inl ⟨by rfl, ?_⟩) ?_ ?_
            rotate_left
            ·
             intro w'
             go_simp
             with_reducible rfl
            rotate_left
            ·
             simp only [Act.put, List.setIfInBounds_toArray, List.set_cons_zero, List.set_cons_succ, i64_w, i32_w]
             rfl
            refine last_ (i := 8) (N := none) #[true, true, true, true, true, true, true, true, true] rfl rfl (one_of HT_.out (by kernel_rfl)) (by decide) (fun K hK => ?_)
            refine skip_ (w1 := ?_) (by rfl) rfl ?_ ?_
            rotate_left
            ·
             go_simp
             rfl
            refine hK.out _ _ ?_
            clear hK K
            refine done_ (done_of HT_.out (by kernel_rfl)) ?_
            try go_wp2
            have n0_ : Aside0 (Kd.R (Kd.int .i64) 3 (w18.setCell ⟨go10, (x11_1 : Int).toNat, none⟩ (.int .i64 (wrap64 ((rd x3_1 x11_1) + ((rd_T41 l0 x11_1).f1))))) w.heap.size (fun _ => True) (.slice (some ⟨go10, 0, none⟩) x3_1.length co19) y123) := ⟨by (with_reducible repeat (first | apply Kd.R_alloc | apply Kd.R_drewN | apply Kd.R_drew)); exact HQ20.out⟩
            have n1_ : Aside0 ((w18.setCell ⟨go10, (x11_1 : Int).toNat, none⟩ (.int .i64 (wrap64 ((rd x3_1 x11_1) + ((rd_T41 l0 x11_1).f1))))).heap[gb121]? = some (.cells #[.int .i64 ((rd_T41 l0 x11_1).f0), .int .i64 ((rd_T41 l0 x11_1).f1), .int .i64 ((rd_T41 l0 x11_1).f2), .int .i64 ((rd_T41 l0 x11_1).f3), .int .i64 ((rd_T41 l0 x11_1).f4)] 41 (0, 0))) := ⟨by (with_reducible repeat (first | refine blk_drewN ?_ _ | refine blk_drew ?_ | refine blk_alloc ?_ _)); refine blk_far ?_ (by have h_ := Kd.R_ne HO_3.out BK121.out (by decide); intro e_; exact h_ (by rw [e_]; rfl)) _; (with_reducible repeat (first | refine blk_drewN ?_ _ | refine blk_drew ?_ | refine blk_alloc ?_ _)); exact BK121.out⟩
            have n2_ : Aside0 (Below w.heap.size w (w18.setCell ⟨go10, (x11_1 : Int).toNat, none⟩ (.int .i64 (wrap64 ((rd x3_1 x11_1) + ((rd_T41 l0 x11_1).f1)))))) := ⟨by repeat (first | (with_reducible first | exact HB.out | apply below_alloc | apply pw_below_drewN | apply below_drew1 | refine below_set ?_ GB10.out | refine below_set ?_ GE121.out) | exact HB.out)⟩
            (try clear HO_3)
            (try clear BK121)
            (try clear HB)
            generalize (w18.setCell ⟨go10, (x11_1 : Int).toNat, none⟩ (.int .i64 (wrap64 ((rd x3_1 x11_1) + ((rd_T41 l0 x11_1).f1))))) = w21 at n0_ n1_ n2_ ⊢
            have HO_3 := n0_
            have BK121 := n1_
            have HB := n2_
            clear n0_ n1_ n2_
            have n0_ := Aside0.mk (Kd.R_drew HO_3.out)
            have n1_ := Aside0.mk (blk_drew BK121.out)
            have n2_ := Aside0.mk (below_drew1 HB.out)
            clear HO_3
            clear BK121
            clear HB
            have HO_3 := n0_
            have BK121 := n1_
            have HB := n2_
            clear n0_ n1_ n2_
            have p124 : 0 ≤ (((rd_T41 l0 x11_1).f0) : Int) := of_decide_eq_true (by first | (with_reducible assumption) | assumption)
            have q124 : ((rd_T41 l0 x11_1).f0) < (y123.length : Int) := (by have h_ : (((rd_T41 l0 x11_1).f0) : Int) < ((x3_1.length : Int) : Int) := of_decide_eq_true (by first | (with_reducible assumption) | assumption); first | (have e_ := (Kd.R_reads' HO_3.out).1; omega) | simpa only [Ny123.out, List.length_set] using h_)
            have ql124 : ((((rd_T41 l0 x11_1).f0) : Int) < ((x3_1.length : Int) : Int)) = True := eq_true (of_decide_eq_true (by first | (with_reducible assumption) | assumption))
            obtain ⟨ad124, e124, hx124_0⟩ := Kd.at_int (Kd.R_reads' HO_3.out).2.2 ((rd_T41 l0 x11_1).f0) p124 q124
            obtain rfl : (⟨go10, 0, none⟩ : Addr) = ad124 := (by injection e124)
            (first | simp only [add_plain] at hx124_0 | simp only [add_at] at hx124_0 | simp only [Addr.add, Nat.zero_add] at hx124_0 | skip)
            replace p124 := eq_true p124
            replace q124 := eq_true q124
            have p14 : 0 ≤ (((rd_T41 l0 x11_1).f0) : Int) := of_decide_eq_true (by first | (with_reducible assumption) | assumption)
            have q14 : (((rd_T41 l0 x11_1).f0) : Int) < ((x3_1.length : Int) : Int) := of_decide_eq_true (by first | (with_reducible assumption) | assumption)
            obtain ⟨hx14_0, hf14_0⟩ := Kd.R_celln 0 HO_3.out (((rd_T41 l0 x11_1).f0) : Int) p14 q14
            replace p14 := eq_true p14
            replace q14 := eq_true q14
            have HP23 := Kd.R_putn HO_3.out (((rd_T41 l0 x11_1).f0) : Int) (wrap64 ((rd y123 ((rd_T41 l0 x11_1).f0)) - ((rd_T41 l0 x11_1).f1)))
            rw [← Ny125.out] at HP23
            have HQ23 := Aside0.mk HP23
            clear HP23
            refine start_ (n := 10) (S := fun w' => w'.cell? ⟨gb121, 0, none⟩ = some (.int .i64 ((rd_T41 l0 x11_1).f0)) ∧ w'.cell? ⟨gb121, 1, none⟩ = some (.int .i64 ((rd_T41 l0 x11_1).f1)) ∧ w'.cell? ⟨gb121, 2, none⟩ = some (.int .i64 ((rd_T41 l0 x11_1).f2)) ∧ w'.cell? ⟨gb121, 3, none⟩ = some (.int .i64 ((rd_T41 l0 x11_1).f3)) ∧ w'.cell? ⟨gb121, 4, none⟩ = some (.int .i64 ((rd_T41 l0 x11_1).f4)) ∧ w'.cell? ⟨go10, (((rd_T41 l0 x11_1).f0)).toNat, none⟩ = some (.int .i64 (rd y123 ((rd_T41 l0 x11_1).f0)))) (ds := [9]) #[false, false, false, false, false, false, false, false, false, false] (by kernel_rfl) rfl rfl ⟨(blk_cell BK121.out 0).trans rfl, (blk_cell BK121.out 1).trans rfl, (blk_cell BK121.out 2).trans rfl, (blk_cell BK121.out 3).trans rfl, (blk_cell BK121.out 4).trans rfl, hx124_0⟩ (fun hHeld => ?_); refine with_tabW accounts_own.tab7 accounts_own.bits7 (fun HT_ HW_ => ?_)
            generalize w21.drew = w22 at HO_3 BK121 HB HQ20 HQ23 hf14_0 hx124_0 hx14_0 hHeld ⊢
            refine pure_ (i := 0) (N := some 26) (v := ?_) (a' := ?_) #[true, false, false, false, false, false, false, false, false, false] rfl rfl (any_of HT_.out (by kernel_rfl)) (fun _ _ _ h => h) (Or.inl ⟨by rfl, ?_⟩) ?_ ?_
            rotate_left
            ·
             intro w'
             go_simp
             with_reducible rfl
            rotate_left
            ·
             simp only [Act.put, List.setIfInBounds_toArray, List.set_cons_zero, List.set_cons_succ, i64_w, i32_w]
             rfl
            refine pure_ (i := 1) (N := some 27) (v := ?_) (a' := ?_) #[true, true, false, false, false, false, false, false, false, false] rfl rfl (any_of HT_.out (by kernel_rfl)) (fun _ _ _ h => h) (Or.inl ⟨by rfl, ?_⟩) ?_ ?_
            rotate_left
            ·
             intro w'
             go_simp
             with_reducible rfl
            rotate_left
            ·
             simp only [Act.put, List.setIfInBounds_toArray, List.set_cons_zero, List.set_cons_succ, i64_w, i32_w]
             rfl
            refine pure_ (i := 5) (N := some 31) (v := ?_) (a' := ?_) #[true, true, false, false, false, true, false, false, false, false] rfl rfl (any_of HT_.out (by kernel_rfl)) (fun _ _ _ h => h) (Or.inl ⟨by rfl, ?_⟩) ?_ ?_
            rotate_left
            ·
             intro w'
             go_simp
             with_reducible rfl
            rotate_left
            ·
             simp only [Act.put, List.setIfInBounds_toArray, List.set_cons_zero, List.set_cons_succ, i64_w, i32_w]
             rfl
            refine take_ (i := 2) (N := some 28) (v := ?_) (a' := ?_) #[true, true, true, false, false, true, false, false, false, false] rfl rfl (take_ofW HT_.out HW_.out (by kernel_rfl)) (fun _ _ _ h => h) (Or.inl ⟨by rfl, ?_⟩) hHeld ?_ ?_
            rotate_left
            ·
             rintro w' ⟨s0, s1, s2, s3, s4, s5⟩
             go_simp
             with_reducible rfl
            rotate_left
            ·
             simp only [Act.put, List.setIfInBounds_toArray, List.set_cons_zero, List.set_cons_succ, i64_w, i32_w]
             rfl
            refine pure_ (i := 3) (N := some 29) (v := ?_) (a' := ?_) #[true, true, true, true, false, true, false, false, false, false] rfl rfl (any_of HT_.out (by kernel_rfl)) (fun _ _ _ h => h) (Or.inl ⟨by rfl, ?_⟩) ?_ ?_
            rotate_left
            ·
             intro w'
             go_simp
             with_reducible rfl
            rotate_left
            ·
             simp only [Act.put, List.setIfInBounds_toArray, List.set_cons_zero, List.set_cons_succ, i64_w, i32_w]
             rfl
            refine take_ (i := 4) (N := some 30) (v := ?_) (a' := ?_) #[true, true, true, true, true, true, false, false, false, false] rfl rfl (take_ofW HT_.out HW_.out (by kernel_rfl)) (fun _ _ _ h => h) (Or.inl ⟨by rfl, ?_⟩) hHeld ?_ ?_
            rotate_left
            ·
             rintro w' ⟨s0, s1, s2, s3, s4, s5⟩
             go_simp
             with_reducible rfl
            rotate_left
            ·
             simp only [Act.put, List.setIfInBounds_toArray, List.set_cons_zero, List.set_cons_succ, i64_w, i32_w]
             rfl
            refine take_ (i := 6) (N := some 32) (v := ?_) (a' := ?_) #[true, true, true, true, true, true, true, false, false, false] rfl rfl (take_ofW HT_.out HW_.out (by kernel_rfl)) (fun _ _ _ h => h) (Or.inl ⟨by rfl, ?_⟩) hHeld ?_ ?_
            rotate_left
            ·
             rintro w' ⟨s0, s1, s2, s3, s4, s5⟩
             go_simp
             with_reducible rfl
            rotate_left
            ·
             simp only [Act.put, List.setIfInBounds_toArray, List.set_cons_zero, List.set_cons_succ, i64_w, i32_w]
             rfl
            refine pure_ (i := 7) (N := some 33) (v := ?_) (a' := ?_) #[true, true, true, true, true, true, true, true, false, false] rfl rfl (any_of HT_.out (by kernel_rfl)) (fun _ _ _ h => h) (Or.inl ⟨by rfl, ?_⟩) ?_ ?_
            rotate_left
            ·
             intro w'
             go_simp
             with_reducible rfl
            rotate_left
            ·
             simp only [Act.put, List.setIfInBounds_toArray, List.set_cons_zero, List.set_cons_succ, i64_w, i32_w]
             rfl
            refine pure_ (i := 8) (N := some 34) (v := ?_) (a' := ?_) #[true, true, true, true, true, true, true, true, true, false] rfl rfl (any_of HT_.out (by kernel_rfl)) (fun _ _ _ h => h) (Or.inl ⟨by rfl, ?_⟩) ?_ ?_
            rotate_left
            ·
             intro w'
             go_simp
             with_reducible rfl
            rotate_left
            ·
             simp only [Act.put, List.setIfInBounds_toArray, List.set_cons_zero, List.set_cons_succ, i64_w, i32_w]
             rfl
            refine last_ (i := 9) (N := none) #[true, true, true, true, true, true, true, true, true, true] rfl rfl (one_of HT_.out (by kernel_rfl)) (by decide) (fun K hK => ?_)
            refine skip_ (w1 := ?_) (by rfl) rfl ?_ ?_
            rotate_left
            ·
             go_simp
             rfl
            refine hK.out _ _ ?_
            clear hK K
            refine done_ (done_of HT_.out (by kernel_rfl)) ?_
            try go_wp2
            go_roundg k1
            case measure => have := HK1.out; omega
            case rel => exact ⟨(y125), (wrap64 (x11_1 + 1)), (by first | rfl | (simp; done) | (simp [*]; done)), H', ⟨by have := HK1.out; omega⟩, ⟨by (with_reducible repeat (first | apply Kd.R_alloc | apply Kd.R_drewN | apply Kd.R_drew)); exact HQ23.out⟩, ⟨by repeat (first | (with_reducible first | exact HB.out | apply below_alloc | apply pw_below_drewN | apply below_drew1 | refine below_set ?_ GB10.out | refine below_set ?_ GE121.out) | exact HB.out)⟩⟩
           ·
            rw [if_neg c13] at H
            exact absurd H (by simp)
          ·
           rw [if_neg c12] at H
           exact absurd H (by simp)
         ·
          rw [if_neg c11] at H
          have c11b0 : decide (0 < x11_1) = false := decide_eq_false c11
          clear c11
          have H' := Aside0.mk H
          clear H
          have p120 : 0 ≤ (x11_1 : Int) := of_decide_eq_true (by first | (with_reducible assumption) | assumption)
          have q120 : x11_1 < (l0.length : Int) := of_decide_eq_true (by first | (with_reducible assumption) | assumption)
          obtain ⟨ad120, e120, hx120_0, hx120_1, hx120_2, hx120_3, hx120_4⟩ := at_T41 HR0.out x11_1 p120 q120
          cases e120
          replace hx120_0 := (HB.out.cell (World.block_lt_of_cell? w _ hx120_0)).trans hx120_0
          replace hx120_1 := (HB.out.cell (World.block_lt_of_cell? w _ hx120_1)).trans hx120_1
          replace hx120_2 := (HB.out.cell (World.block_lt_of_cell? w _ hx120_2)).trans hx120_2
          replace hx120_3 := (HB.out.cell (World.block_lt_of_cell? w _ hx120_3)).trans hx120_3
          replace hx120_4 := (HB.out.cell (World.block_lt_of_cell? w _ hx120_4)).trans hx120_4
          replace p120 := eq_true p120
          replace q120 := eq_true q120
          try go_wp2_with (first | ((with_reducible refine gate_dst (N := 5) rfl ?_); refine box_event ?hg (N := 5) ?hd (cs := #[.int .i64 0, .int .i64 0, .int .i64 0, .int .i64 0, .int .i64 0]) (t := 41) ?hr ?_; (case hd => rfl); (case hg => rfl); (case hr => first | (go_simp; done) | (go_simp; rfl)); intro gb121 hg w24 hbox hb; have n0_ := Aside0.mk (Kd.R_below (by (with_reducible repeat (first | apply Kd.R_alloc | apply Kd.R_drewN | apply Kd.R_drew)); exact HO_3.out) hb); have n1_ := Aside0.mk (below_step (by repeat (first | (with_reducible first | exact HB.out | apply below_alloc | apply pw_below_drewN | apply below_drew1) | exact HB.out)) hb); have n2_ := Aside0.mk (hbox); have n3_ := Aside0.mk ((by rw [hg]; exact (below_size (by repeat (first | (with_reducible first | exact HB.out | apply below_alloc | apply pw_below_drewN | apply below_drew1) | exact HB.out))) : w.heap.size ≤ gb121)); have n4_ := Aside0.mk ((by rw [hg]; exact (below_size (by repeat (first | (with_reducible first | exact HB.out | apply below_alloc | apply pw_below_drewN | apply below_drew1) | exact HB.out))) : w.heap.size ≤ gb121)); clear HO_3; clear HB; have HO_3 := n0_; have HB := n1_; have BK121 := n2_; have GW121 := n3_; have GE121 := n4_; clear n0_ n1_ n2_ n3_ n4_; clear hb hbox hg; have hcz25_0 : w24.cell? ⟨gb121, 0, none⟩ = some (.int .i64 0) := (blk_cell BK121.out 0).trans rfl; have hcz25_1 : w24.cell? ⟨gb121, 1, none⟩ = some (.int .i64 0) := (blk_cell BK121.out 1).trans rfl; have hcz25_2 : w24.cell? ⟨gb121, 2, none⟩ = some (.int .i64 0) := (blk_cell BK121.out 2).trans rfl; have hcz25_3 : w24.cell? ⟨gb121, 3, none⟩ = some (.int .i64 0) := (blk_cell BK121.out 3).trans rfl; have hcz25_4 : w24.cell? ⟨gb121, 4, none⟩ = some (.int .i64 0) := (blk_cell BK121.out 4).trans rfl; have hfz25_0 := blk_frozen BK121.out 0; have hfz25_1 := blk_frozen BK121.out 1; have hfz25_2 := blk_frozen BK121.out 2; have hfz25_3 := blk_frozen BK121.out 3; have hfz25_4 := blk_frozen BK121.out 4))
          have n0_ : Aside0 (Kd.R (Kd.int .i64) 3 (((((w24.setCell ⟨gb121, 0, none⟩ (.int .i64 ((rd_T41 l0 x11_1).f0))).setCell ⟨gb121, 1, none⟩ (.int .i64 ((rd_T41 l0 x11_1).f1))).setCell ⟨gb121, 2, none⟩ (.int .i64 ((rd_T41 l0 x11_1).f2))).setCell ⟨gb121, 3, none⟩ (.int .i64 ((rd_T41 l0 x11_1).f3))).setCell ⟨gb121, 4, none⟩ (.int .i64 ((rd_T41 l0 x11_1).f4))) w.heap.size (fun _ => True) v118 x3_1) := ⟨by (with_reducible repeat (first | apply Kd.R_alloc | apply Kd.R_drewN | apply Kd.R_drew)); exact Kd.R_mono (Kd.R_far (p := ⟨gb121, 4, none⟩) (Kd.R_far (p := ⟨gb121, 3, none⟩) (Kd.R_far (p := ⟨gb121, 2, none⟩) (Kd.R_far (p := ⟨gb121, 1, none⟩) (Kd.R_far (p := ⟨gb121, 0, none⟩) (Kd.R_types HO_3.out BK121.out (by decide)) (fun _ hk => hk.2) (.int .i64 ((rd_T41 l0 x11_1).f0))) (fun _ hk => hk.2) (.int .i64 ((rd_T41 l0 x11_1).f1))) (fun _ hk => hk.2) (.int .i64 ((rd_T41 l0 x11_1).f2))) (fun _ hk => hk.2) (.int .i64 ((rd_T41 l0 x11_1).f3))) (fun _ hk => hk.2) (.int .i64 ((rd_T41 l0 x11_1).f4))) (fun _ hk => trivial)⟩
          have n1_ : Aside0 ((((((w24.setCell ⟨gb121, 0, none⟩ (.int .i64 ((rd_T41 l0 x11_1).f0))).setCell ⟨gb121, 1, none⟩ (.int .i64 ((rd_T41 l0 x11_1).f1))).setCell ⟨gb121, 2, none⟩ (.int .i64 ((rd_T41 l0 x11_1).f2))).setCell ⟨gb121, 3, none⟩ (.int .i64 ((rd_T41 l0 x11_1).f3))).setCell ⟨gb121, 4, none⟩ (.int .i64 ((rd_T41 l0 x11_1).f4))).heap[gb121]? = some (.cells #[.int .i64 ((rd_T41 l0 x11_1).f0), .int .i64 ((rd_T41 l0 x11_1).f1), .int .i64 ((rd_T41 l0 x11_1).f2), .int .i64 ((rd_T41 l0 x11_1).f3), .int .i64 ((rd_T41 l0 x11_1).f4)] 41 (0, 0))) := ⟨by (with_reducible repeat (first | refine blk_drewN ?_ _ | refine blk_drew ?_ | refine blk_alloc ?_ _)); refine blk_put (cs := #[.int .i64 ((rd_T41 l0 x11_1).f0), .int .i64 ((rd_T41 l0 x11_1).f1), .int .i64 ((rd_T41 l0 x11_1).f2), .int .i64 ((rd_T41 l0 x11_1).f3), .int .i64 0]) ?_ 4 _ rfl; (with_reducible repeat (first | refine blk_drewN ?_ _ | refine blk_drew ?_ | refine blk_alloc ?_ _)); refine blk_put (cs := #[.int .i64 ((rd_T41 l0 x11_1).f0), .int .i64 ((rd_T41 l0 x11_1).f1), .int .i64 ((rd_T41 l0 x11_1).f2), .int .i64 0, .int .i64 0]) ?_ 3 _ rfl; (with_reducible repeat (first | refine blk_drewN ?_ _ | refine blk_drew ?_ | refine blk_alloc ?_ _)); refine blk_put (cs := #[.int .i64 ((rd_T41 l0 x11_1).f0), .int .i64 ((rd_T41 l0 x11_1).f1), .int .i64 0, .int .i64 0, .int .i64 0]) ?_ 2 _ rfl; (with_reducible repeat (first | refine blk_drewN ?_ _ | refine blk_drew ?_ | refine blk_alloc ?_ _)); refine blk_put (cs := #[.int .i64 ((rd_T41 l0 x11_1).f0), .int .i64 0, .int .i64 0, .int .i64 0, .int .i64 0]) ?_ 1 _ rfl; (with_reducible repeat (first | refine blk_drewN ?_ _ | refine blk_drew ?_ | refine blk_alloc ?_ _)); refine blk_put (cs := #[.int .i64 0, .int .i64 0, .int .i64 0, .int .i64 0, .int .i64 0]) ?_ 0 _ rfl; (with_reducible repeat (first | refine blk_drewN ?_ _ | refine blk_drew ?_ | refine blk_alloc ?_ _)); exact BK121.out⟩
          have n2_ : Aside0 (Below w.heap.size w (((((w24.setCell ⟨gb121, 0, none⟩ (.int .i64 ((rd_T41 l0 x11_1).f0))).setCell ⟨gb121, 1, none⟩ (.int .i64 ((rd_T41 l0 x11_1).f1))).setCell ⟨gb121, 2, none⟩ (.int .i64 ((rd_T41 l0 x11_1).f2))).setCell ⟨gb121, 3, none⟩ (.int .i64 ((rd_T41 l0 x11_1).f3))).setCell ⟨gb121, 4, none⟩ (.int .i64 ((rd_T41 l0 x11_1).f4)))) := ⟨by repeat (first | (with_reducible first | exact HB.out | apply below_alloc | apply pw_below_drewN | apply below_drew1 | refine below_set ?_ GE121.out) | exact HB.out)⟩
          (try clear HO_3)
          (try clear BK121)
          (try clear HB)
          generalize (((((w24.setCell ⟨gb121, 0, none⟩ (.int .i64 ((rd_T41 l0 x11_1).f0))).setCell ⟨gb121, 1, none⟩ (.int .i64 ((rd_T41 l0 x11_1).f1))).setCell ⟨gb121, 2, none⟩ (.int .i64 ((rd_T41 l0 x11_1).f2))).setCell ⟨gb121, 3, none⟩ (.int .i64 ((rd_T41 l0 x11_1).f3))).setCell ⟨gb121, 4, none⟩ (.int .i64 ((rd_T41 l0 x11_1).f4))) = w26 at n0_ n1_ n2_ ⊢
          have HO_3 := n0_
          have BK121 := n1_
          have HB := n2_
          clear n0_ n1_ n2_
          have n0_ := Aside0.mk (Kd.R_drew HO_3.out)
          have n1_ := Aside0.mk (blk_drew BK121.out)
          have n2_ := Aside0.mk (below_drew1 HB.out)
          clear HO_3
          clear BK121
          clear HB
          have HO_3 := n0_
          have BK121 := n1_
          have HB := n2_
          clear n0_ n1_ n2_
          obtain ⟨Ao28, co28, eo28⟩ := Kd.R_slice HO_3.out
          (first | subst eo28 | (injection eo28 with f1_ f2_ f3_; have f4_ := f1_.symm; have f5_ := f3_.symm; clear f1_ f2_ f3_; subst f4_; subst f5_))
          have p122 : 0 ≤ (x11_1 : Int) := of_decide_eq_true (by first | (with_reducible assumption) | assumption)
          have q122 : x11_1 < (x3_1.length : Int) := of_decide_eq_true (by first | (with_reducible assumption) | assumption)
          obtain ⟨ad122, e122, hx122_0⟩ := Kd.at_int (Kd.R_reads' HO_3.out).2.2 x11_1 p122 q122
          cases e122
          replace p122 := eq_true p122
          replace q122 := eq_true q122
          have p10 : 0 ≤ (x11_1 : Int) := of_decide_eq_true (by first | (with_reducible assumption) | assumption)
          have q10 : (x11_1 : Int) < ((x3_1.length : Int) : Int) := of_decide_eq_true (by first | (with_reducible assumption) | assumption)
          obtain ⟨go10, co10, eo10, gb10, gl10, cl10, HG10⟩ := Kd.R_form HO_3.out (by omega)
          (first | cases eo10 | (injection eo10 with ea_ en_ ec_; (first | subst ea_ | (injection ea_ with ea_; subst ea_)); subst ec_; clear en_))
          have GB10 := Aside0.mk gb10
          have GG10 := Aside0.mk HG10
          clear gb10 gl10 HG10
          (first | simp only [add_plain] at hx122_0 | skip)
          obtain ⟨hx10_0, hf10_0⟩ := Kd.R_celln 0 HO_3.out (x11_1 : Int) p10 q10
          replace p10 := eq_true p10
          replace q10 := eq_true q10
          have HP29 := Kd.R_putn HO_3.out (x11_1 : Int) (wrap64 ((rd x3_1 x11_1) + ((rd_T41 l0 x11_1).f1)))
          rw [← Ny123.out] at HP29
          have HQ29 := Aside0.mk HP29
          clear HP29
          refine start_ (n := 9) (S := fun w' => w'.cell? ⟨gb121, 0, none⟩ = some (.int .i64 ((rd_T41 l0 x11_1).f0)) ∧ w'.cell? ⟨gb121, 1, none⟩ = some (.int .i64 ((rd_T41 l0 x11_1).f1)) ∧ w'.cell? ⟨gb121, 2, none⟩ = some (.int .i64 ((rd_T41 l0 x11_1).f2)) ∧ w'.cell? ⟨gb121, 3, none⟩ = some (.int .i64 ((rd_T41 l0 x11_1).f3)) ∧ w'.cell? ⟨gb121, 4, none⟩ = some (.int .i64 ((rd_T41 l0 x11_1).f4)) ∧ w'.cell? ⟨go10, (x11_1).toNat, none⟩ = some (.int .i64 (rd x3_1 x11_1))) (ds := [8]) #[false, false, false, false, false, false, false, false, false] (by kernel_rfl) rfl rfl ⟨(blk_cell BK121.out 0).trans rfl, (blk_cell BK121.out 1).trans rfl, (blk_cell BK121.out 2).trans rfl, (blk_cell BK121.out 3).trans rfl, (blk_cell BK121.out 4).trans rfl, hx122_0⟩ (fun hHeld => ?_); refine with_tabW accounts_own.tab5 accounts_own.bits5 (fun HT_ HW_ => ?_)
          generalize w26.drew = w27 at HO_3 BK121 HB GG10 HQ29 hf10_0 hx10_0 hx122_0 hHeld ⊢
          refine pure_ (i := 0) (N := some 16) (v := ?_) (a' := ?_) #[true, false, false, false, false, false, false, false, false] rfl rfl (any_of HT_.out (by kernel_rfl)) (fun _ _ _ h => h) (Or.inl ⟨by rfl, ?_⟩) ?_ ?_
          rotate_left
          ·
           intro w'
           go_simp
           with_reducible rfl
          rotate_left
          ·
           simp only [Act.put, List.setIfInBounds_toArray, List.set_cons_zero, List.set_cons_succ, i64_w, i32_w]
           rfl
          refine pure_ (i := 1) (N := some 17) (v := ?_) (a' := ?_) #[true, true, false, false, false, false, false, false, false] rfl rfl (any_of HT_.out (by kernel_rfl)) (fun _ _ _ h => h) (Or.inl ⟨by rfl, ?_⟩) ?_ ?_
          rotate_left
          ·
           intro w'
           go_simp
           with_reducible rfl
          rotate_left
          ·
           simp only [Act.put, List.setIfInBounds_toArray, List.set_cons_zero, List.set_cons_succ, i64_w, i32_w]
           rfl
          refine pure_ (i := 2) (N := some 18) (v := ?_) (a' := ?_) #[true, true, true, false, false, false, false, false, false] rfl rfl (any_of HT_.out (by kernel_rfl)) (fun _ _ _ h => h) (Or.inl ⟨by rfl, ?_⟩) ?_ ?_
          rotate_left
          ·
           intro w'
           go_simp
           with_reducible rfl
          rotate_left
          ·
           simp only [Act.put, List.setIfInBounds_toArray, List.set_cons_zero, List.set_cons_succ, i64_w, i32_w]
           rfl
          refine pure_ (i := 4) (N := some 20) (v := ?_) (a' := ?_) #[true, true, true, false, true, false, false, false, false] rfl rfl (any_of HT_.out (by kernel_rfl)) (fun _ _ _ h => h) (Or.inl ⟨by rfl, ?_⟩) ?_ ?_
          rotate_left
          ·
           intro w'
           go_simp
           with_reducible rfl
          rotate_left
          ·
           simp only [Act.put, List.setIfInBounds_toArray, List.set_cons_zero, List.set_cons_succ, i64_w, i32_w]
           rfl
          refine take_ (i := 3) (N := some 19) (v := ?_) (a' := ?_) #[true, true, true, true, true, false, false, false, false] rfl rfl (take_ofW HT_.out HW_.out (by kernel_rfl)) (fun _ _ _ h => h) (Or.inl ⟨by rfl, ?_⟩) hHeld ?_ ?_
          rotate_left
          ·
           rintro w' ⟨s0, s1, s2, s3, s4, s5⟩
           go_simp
           with_reducible rfl
          rotate_left
          ·
           simp only [Act.put, List.setIfInBounds_toArray, List.set_cons_zero, List.set_cons_succ, i64_w, i32_w]
           rfl
          refine take_ (i := 5) (N := some 21) (v := ?_) (a' := ?_) #[true, true, true, true, true, true, false, false, false] rfl rfl (take_ofW HT_.out HW_.out (by kernel_rfl)) (fun _ _ _ h => h) (Or.inl ⟨by rfl, ?_⟩) hHeld ?_ ?_
          rotate_left
          ·
           rintro w' ⟨s0, s1, s2, s3, s4, s5⟩
           go_simp
           with_reducible rfl
          rotate_left
          ·
           simp only [Act.put, List.setIfInBounds_toArray, List.set_cons_zero, List.set_cons_succ, i64_w, i32_w]
           rfl
          refine pure_ (i := 6) (N := some 22) (v := ?_) (a' := ?_) #[true, true, true, true, true, true, true, false, false] rfl rfl (any_of HT_.out (by kernel_rfl)) (fun _ _ _ h => h) (Or.inl ⟨by rfl, ?_⟩) ?_ ?_
          rotate_left
          ·
           intro w'
           go_simp
           with_reducible rfl
          rotate_left
          ·
           simp only [Act.put, List.setIfInBounds_toArray, List.set_cons_zero, List.set_cons_succ, i64_w, i32_w]
           rfl
          refine pure_ (i := 7) (N := some 23) (v := ?_) (a' := ?_) #[true, true, true, true, true, true, true, true, false] rfl rfl (any_of HT_.out (by kernel_rfl)) (fun _ _ _ h => h) (Or.inl ⟨by rfl, ?_⟩) ?_ ?_
          rotate_left
          ·
           intro w'
           go_simp
           with_reducible rfl
          rotate_left
          ·
           simp only [Act.put, List.setIfInBounds_toArray, List.set_cons_zero, List.set_cons_succ, i64_w, i32_w]
           rfl
          refine last_ (i := 8) (N := none) #[true, true, true, true, true, true, true, true, true] rfl rfl (one_of HT_.out (by kernel_rfl)) (by decide) (fun K hK => ?_)
          refine skip_ (w1 := ?_) (by rfl) rfl ?_ ?_
          rotate_left
          ·
           go_simp
           rfl
          refine hK.out _ _ ?_
          clear hK K
          refine done_ (done_of HT_.out (by kernel_rfl)) ?_
          try go_wp2
          go_roundg k1
          case measure => have := HK1.out; omega
          case rel => exact ⟨(y123), (wrap64 (x11_1 + 1)), (by first | rfl | (simp; done) | (simp [*]; done)), H', ⟨by have := HK1.out; omega⟩, ⟨by (with_reducible repeat (first | apply Kd.R_alloc | apply Kd.R_drewN | apply Kd.R_drew)); exact HQ29.out⟩, ⟨by repeat (first | (with_reducible first | exact HB.out | apply below_alloc | apply pw_below_drewN | apply below_drew1 | refine below_set ?_ GB10.out | refine below_set ?_ GE121.out) | exact HB.out)⟩⟩
        ·
         rw [if_neg c9] at H
         exact absurd H (by simp)
       ·
        rw [if_neg c8] at H
        exact absurd H (by simp)
      ·
       rw [if_neg c7] at H
       exact absurd H (by simp)
     ·
      rw [if_neg c6] at H
      have c6b0 : decide (x11_1 < (l0.length : Int)) = false := decide_eq_false c6
      clear c6
      obtain rfl := Option.some.inj H
      go_wp2
      go_ret
      exact ⟨_, by first | rfl | (simp [errW_none, errW_some] <;> rfl) | (simp [*, errW_none, errW_some] <;> rfl), by (with_reducible repeat (first | apply Kd.R_alloc | apply Kd.R_drewN | apply Kd.R_drew)); exact HO_3.out, by repeat (first | (with_reducible first | exact HB.out | apply below_alloc | apply pw_below_drewN | apply below_drew1) | exact HB.out)⟩
  ·
   rw [if_neg c3] at H
   exact absurd H (by simp)
 ·
  rw [if_neg c2] at H
  exact absurd H (by simp)
/-! ### accounts_Check: function 28 -/
def accounts_Check.j0 : Nat → List (S41) → Bool → Option (Int)
 | 0, _, _ => none
 | k + 1, x0, x3 => if x3 = true then (some 9) else ((accounts_tree.f k x0).bind fun t126 => (if t126 = true then ((accounts_amounts.f k x0).bind fun t127 => (if t127 = true then ((api_Account_41.f k x0).bind fun t128 => (if t128 = true then (some 17) else ((accounts_own.f k x0).bind fun t129 => ((slices_Min_int_int.f k t129).bind fun t132 => (if t132 < 0 then (some 11) else (some 0)))))) else (some 2))) else (some 1)))
def accounts_Check.f (k : Nat) (l0 : List (S41)) : Option (Int) := if (l0.length : Int) < 1 then (accounts_Check.j0 k l0 true) else (accounts_Check.j0 k l0 (decide ((l0.length : Int) > 8)))
theorem accounts_Check.mono_l : ∀ k, (∀ y0 y1, LeO (accounts_Check.j0 k y0 y1) (accounts_Check.j0 (k + 1) y0 y1))
 | 0 => fun _ _ r h => by simp [accounts_Check.j0] at h
 | k + 1 => by
  have ih0 := accounts_Check.mono_l k
  ·
   intro y0 y1
   unfold accounts_Check.j0
   repeat' first
   | (with_reducible exact ih0 _ _)
   | (with_reducible exact accounts_amounts.mono _ _)
   | (with_reducible exact accounts_own.mono _ _)
   | (with_reducible exact accounts_tree.mono _ _)
   | (with_reducible exact api_Account_41.mono _ _)
   | (with_reducible exact slices_Min_int_int.mono _ _)
   | (with_reducible exact LeO.refl _)
   | (with_reducible exact LeO.none _)
   | (with_reducible refine LeO.ite ?_ ?_)
   | (with_reducible refine LeO.bind ?_ (fun _ => ?_))
   | exact ih0 _ _
   | exact accounts_amounts.mono _ _
   | exact accounts_own.mono _ _
   | exact accounts_tree.mono _ _
   | exact api_Account_41.mono _ _
   | exact slices_Min_int_int.mono _ _
   | exact LeO.none _
   | refine LeO.ite ?_ ?_
   | refine LeO.bind ?_ (fun _ => ?_)
theorem accounts_Check.mono : ∀ a0 k, LeO (accounts_Check.f k a0) (accounts_Check.f (k + 1) a0) := by
 intro a0 k
 have ih0 := accounts_Check.mono_l k
 unfold accounts_Check.f
 repeat' first
   | (with_reducible exact ih0 _ _)
   | (with_reducible exact accounts_amounts.mono _ _)
   | (with_reducible exact accounts_own.mono _ _)
   | (with_reducible exact accounts_tree.mono _ _)
   | (with_reducible exact api_Account_41.mono _ _)
   | (with_reducible exact slices_Min_int_int.mono _ _)
   | (with_reducible exact LeO.refl _)
   | (with_reducible exact LeO.none _)
   | (with_reducible refine LeO.ite ?_ ?_)
   | (with_reducible refine LeO.bind ?_ (fun _ => ?_))
   | exact ih0 _ _
   | exact accounts_amounts.mono _ _
   | exact accounts_own.mono _ _
   | exact accounts_tree.mono _ _
   | exact api_Account_41.mono _ _
   | exact slices_Min_int_int.mono _ _
   | exact LeO.none _
   | refine LeO.ite ?_ ?_
   | refine LeO.bind ?_ (fun _ => ?_)
set_option maxHeartbeats 8000000 in
set_option maxRecDepth 100000 in
theorem accounts_Check.calls (k : Nat) (A0 : Option Addr) (c0 : Nat) (l0 : List (S41)) (r : Int) (w : World) (hr0 : Kd.C k41 w A0 l0.length l0) (hc0 : l0.length ≤ c0) (h : accounts_Check.f k l0 = some r) :
  Calls Try.prog 28 #[.slice A0 l0.length c0] w fun e w' => e = .returned (.int .i64 r) ∧ Below w.heap.size w w' := by
 have HR0 := Aside0.mk hr0
 have HC0 := Aside0.mk hc0
 clear hr0 hc0
 have HB := Aside0.mk (Below.refl w.heap.size w)
 have H : (if (l0.length : Int) < 1 then (accounts_Check.j0 k l0 true) else (accounts_Check.j0 k l0 (decide ((l0.length : Int) > 8)))) = some r := h
 clear h
 have HC2 := Aside0.mk H
 clear H
 go_enter Try.func28, Try.ntmps28
 go_upto_region 1 with (fail)
 go_cut [3] (fun v3 wc => ∃ (kq : Nat) (x3_1 : Bool), v3 = .bool x3_1 ∧ Aside0 (accounts_Check.j0 kq l0 x3_1 = some r) ∧ Aside0 (kq ≤ k) ∧ Aside0 (Below w.heap.size w wc))
 case first =>
  have H := HC2.out
  clear HC2
  by_cases c3 : (l0.length : Int) < 1
  ·
   rw [if_pos c3] at H
   have c3b0 : decide ((l0.length : Int) < 1) = true := decide_eq_true c3
   have c3b1 : decide (l0.length < 1) = true := decide_eq_true (by omega)
   clear c3
   (first | rw [c3b0] | (simp only [i64_w, i32_w]; rw [c3b0]) | skip)
   have H' := Aside0.mk H
   clear H
   go_wp2
   go_meet
   case rel => exact ⟨_, (true), (by first | rfl | (simp; done) | (simp [*]; done)), H', ⟨by first | omega | exact Nat.le_refl _⟩, ⟨by repeat (first | (with_reducible first | exact HB.out | apply below_alloc | apply pw_below_drewN | apply below_drew1) | exact HB.out)⟩⟩
  ·
   rw [if_neg c3] at H
   have c3b0 : decide ((l0.length : Int) < 1) = false := decide_eq_false c3
   have c3b1 : decide (l0.length < 1) = false := decide_eq_false (by omega)
   clear c3
   (first | rw [c3b0] | (simp only [i64_w, i32_w]; rw [c3b0]) | skip)
   have H' := Aside0.mk H
   clear H
   go_wp2
   go_meet
   case rel => exact ⟨_, (decide ((l0.length : Int) > 8)), (by first | rfl | (simp; done) | (simp [*]; done)), H', ⟨by first | omega | exact Nat.le_refl _⟩, ⟨by repeat (first | (with_reducible first | exact HB.out | apply below_alloc | apply pw_below_drewN | apply below_drew1) | exact HB.out)⟩⟩
 case rest =>
  clear HC2
  try clear c2
  try clear p2
  try clear c3
  try clear c3b0
  try clear c3b1
  obtain ⟨kq, x3_1, rfl, HA, HJ1, HB⟩ := hcut
  cases kq with
  | zero => exact absurd HA.out (by simp [accounts_Check.j0])
  | succ kj1 =>
   have H := HA.out
   clear HA
   simp only [accounts_Check.j0] at H
   by_cases c4 : x3_1 = true
   ·
    subst c4
    have H1 : (some 9) = some r := by rw [if_pos rfl] at H; exact H
    clear H
    have H := H1
    clear H1
    obtain rfl := Option.some.inj H
    go_wp2
    go_ret
    exact ⟨by first | rfl | (simp [errW_none, errW_some] <;> rfl) | (simp [*, errW_none, errW_some] <;> rfl), by repeat (first | (with_reducible first | exact HB.out | apply below_alloc | apply pw_below_drewN | apply below_drew1) | exact HB.out)⟩
   ·
    replace c4 := Bool.eq_false_iff.mpr c4
    subst c4
    have H1 : ((accounts_tree.f kj1 l0).bind fun t126 => (if t126 = true then ((accounts_amounts.f kj1 l0).bind fun t127 => (if t127 = true then ((api_Account_41.f kj1 l0).bind fun t128 => (if t128 = true then (some 17) else ((accounts_own.f kj1 l0).bind fun t129 => ((slices_Min_int_int.f kj1 t129).bind fun t132 => (if t132 < 0 then (some 11) else (some 0)))))) else (some 2))) else (some 1))) = some r := by rw [if_neg (show ¬ (false = true) by decide)] at H; exact H
    clear H
    have H := H1
    clear H1
    replace H := Option.bind_eq_some_iff.mp H
    obtain ⟨t126, A50, H⟩ := H
    replace H : (if t126 = true then ((accounts_amounts.f kj1 l0).bind fun t127 => (if t127 = true then ((api_Account_41.f kj1 l0).bind fun t128 => (if t128 = true then (some 17) else ((accounts_own.f kj1 l0).bind fun t129 => ((slices_Min_int_int.f kj1 t129).bind fun t132 => (if t132 < 0 then (some 11) else (some 0)))))) else (some 2))) else (some 1)) = some r := H
    have A5 := Aside0.mk A50
    clear A50
    by_cases c6 : t126 = true
    ·
     subst c6
     have H1 : ((accounts_amounts.f kj1 l0).bind fun t127 => (if t127 = true then ((api_Account_41.f kj1 l0).bind fun t128 => (if t128 = true then (some 17) else ((accounts_own.f kj1 l0).bind fun t129 => ((slices_Min_int_int.f kj1 t129).bind fun t132 => (if t132 < 0 then (some 11) else (some 0)))))) else (some 2))) = some r := by rw [if_pos rfl] at H; exact H
     clear H
     have H := H1
     clear H1
     replace H := Option.bind_eq_some_iff.mp H
     obtain ⟨t127, A70, H⟩ := H
     replace H : (if t127 = true then ((api_Account_41.f kj1 l0).bind fun t128 => (if t128 = true then (some 17) else ((accounts_own.f kj1 l0).bind fun t129 => ((slices_Min_int_int.f kj1 t129).bind fun t132 => (if t132 < 0 then (some 11) else (some 0)))))) else (some 2)) = some r := H
     have A7 := Aside0.mk A70
     clear A70
     by_cases c8 : t127 = true
     ·
      subst c8
      have H1 : ((api_Account_41.f kj1 l0).bind fun t128 => (if t128 = true then (some 17) else ((accounts_own.f kj1 l0).bind fun t129 => ((slices_Min_int_int.f kj1 t129).bind fun t132 => (if t132 < 0 then (some 11) else (some 0)))))) = some r := by rw [if_pos rfl] at H; exact H
      clear H
      have H := H1
      clear H1
      replace H := Option.bind_eq_some_iff.mp H
      obtain ⟨t128, A90, H⟩ := H
      replace H : (if t128 = true then (some 17) else ((accounts_own.f kj1 l0).bind fun t129 => ((slices_Min_int_int.f kj1 t129).bind fun t132 => (if t132 < 0 then (some 11) else (some 0))))) = some r := H
      have A9 := Aside0.mk A90
      clear A90
      by_cases c10 : t128 = true
      ·
       subst c10
       have H1 : (some 17) = some r := by rw [if_pos rfl] at H; exact H
       clear H
       have H := H1
       clear H1
       obtain rfl := Option.some.inj H
       go_wp2_with (first | ((with_reducible refine gate_callee (f := 39) rfl ?_); refine goesL_ (some 14) rfl rfl Try.func39 (by kernel_rfl) rfl #[.slice A0 l0.length c0] rfl (by (try simp only [List.map_toArray, List.map_cons, List.map_nil]); first | done | rfl | (simp only [List.length_drop, List.length_take]; rfl)) ?_; (with_reducible refine (accounts_tree.calls kj1 _ _ l0 true _ ?side1 ?side2 A5.out).mono ?_); (case side1 => repeat (first | exact (Kd.C_below HR0.out HB.out) | (with_reducible refine Kd.C_alloc ?_ _) | (with_reducible refine Kd.C_drewN ?_ _) | (with_reducible refine Kd.C_drew ?_))); (case side2 => exact HC0.out); rintro e w11 ⟨rfl, hb⟩; refine ⟨_, rfl, ?_⟩; have n0_ := Aside0.mk (below_step (by repeat (first | (with_reducible first | exact HB.out | apply below_alloc | apply pw_below_drewN | apply below_drew1) | exact HB.out)) hb); clear HB; have HB := n0_; clear n0_; (try clear hb); (try clear hb2); (try clear hk); (try clear hi)) | ((with_reducible refine gate_callee (f := 40) rfl ?_); refine goesL_ (some 18) rfl rfl Try.func40 (by kernel_rfl) rfl #[.slice A0 l0.length c0] rfl (by (try simp only [List.map_toArray, List.map_cons, List.map_nil]); first | done | rfl | (simp only [List.length_drop, List.length_take]; rfl)) ?_; (with_reducible refine (accounts_amounts.calls kj1 _ _ l0 true _ ?side1 ?side2 A7.out).mono ?_); (case side1 => repeat (first | exact (Kd.C_below HR0.out HB.out) | (with_reducible refine Kd.C_alloc ?_ _) | (with_reducible refine Kd.C_drewN ?_ _) | (with_reducible refine Kd.C_drew ?_))); (case side2 => exact HC0.out); rintro e w12 ⟨rfl, hb⟩; refine ⟨_, rfl, ?_⟩; have n0_ := Aside0.mk (below_step (by repeat (first | (with_reducible first | exact HB.out | apply below_alloc | apply pw_below_drewN | apply below_drew1) | exact HB.out)) hb); clear HB; have HB := n0_; clear n0_; (try clear hb); (try clear hb2); (try clear hk); (try clear hi)) | ((with_reducible refine gate_callee (f := 41) rfl ?_); refine goesL_ (some 22) rfl rfl Try.func41 (by kernel_rfl) rfl #[.slice A0 l0.length c0, .func (.func 42) #[] #[]] rfl (by (try simp only [List.map_toArray, List.map_cons, List.map_nil]); first | done | rfl | (simp only [List.length_drop, List.length_take]; rfl)) ?_; (with_reducible refine (api_Account_41.calls kj1 _ _ l0  true _ ?side1 ?side2 A9.out).mono ?_); (case side1 => repeat (first | exact (Kd.C_below HR0.out HB.out) | (with_reducible refine Kd.C_alloc ?_ _) | (with_reducible refine Kd.C_drewN ?_ _) | (with_reducible refine Kd.C_drew ?_))); (case side2 => exact HC0.out); rintro e w13 ⟨rfl, hb⟩; refine ⟨_, rfl, ?_⟩; have n0_ := Aside0.mk (below_step (by repeat (first | (with_reducible first | exact HB.out | apply below_alloc | apply pw_below_drewN | apply below_drew1) | exact HB.out)) hb); clear HB; have HB := n0_; clear n0_; (try clear hb); (try clear hb2); (try clear hk); (try clear hi)))
       go_ret
       exact ⟨by first | rfl | (simp [errW_none, errW_some] <;> rfl) | (simp [*, errW_none, errW_some] <;> rfl), by repeat (first | (with_reducible first | exact HB.out | apply below_alloc | apply pw_below_drewN | apply below_drew1) | exact HB.out)⟩
      ·
       replace c10 := Bool.eq_false_iff.mpr c10
       subst c10
       have H1 : ((accounts_own.f kj1 l0).bind fun t129 => ((slices_Min_int_int.f kj1 t129).bind fun t132 => (if t132 < 0 then (some 11) else (some 0)))) = some r := by rw [if_neg (show ¬ (false = true) by decide)] at H; exact H
       clear H
       have H := H1
       clear H1
       replace H := Option.bind_eq_some_iff.mp H
       obtain ⟨t129, A140, H⟩ := H
       replace H : ((slices_Min_int_int.f kj1 t129).bind fun t132 => (if t132 < 0 then (some 11) else (some 0))) = some r := H
       have A14 := Aside0.mk A140
       clear A140
       replace H := Option.bind_eq_some_iff.mp H
       obtain ⟨t132, A150, H⟩ := H
       replace H : (if t132 < 0 then (some 11) else (some 0)) = some r := H
       have A15 := Aside0.mk A150
       clear A150
       by_cases c16 : t132 < 0
       ·
        rw [if_pos c16] at H
        have c16b0 : decide (t132 < 0) = true := decide_eq_true c16
        clear c16
        obtain rfl := Option.some.inj H
        go_wp2_with (first | ((with_reducible refine gate_callee (f := 39) rfl ?_); refine goesL_ (some 14) rfl rfl Try.func39 (by kernel_rfl) rfl #[.slice A0 l0.length c0] rfl (by (try simp only [List.map_toArray, List.map_cons, List.map_nil]); first | done | rfl | (simp only [List.length_drop, List.length_take]; rfl)) ?_; (with_reducible refine (accounts_tree.calls kj1 _ _ l0 true _ ?side1 ?side2 A5.out).mono ?_); (case side1 => repeat (first | exact (Kd.C_below HR0.out HB.out) | (with_reducible refine Kd.C_alloc ?_ _) | (with_reducible refine Kd.C_drewN ?_ _) | (with_reducible refine Kd.C_drew ?_))); (case side2 => exact HC0.out); rintro e w17 ⟨rfl, hb⟩; refine ⟨_, rfl, ?_⟩; have n0_ := Aside0.mk (below_step (by repeat (first | (with_reducible first | exact HB.out | apply below_alloc | apply pw_below_drewN | apply below_drew1) | exact HB.out)) hb); clear HB; have HB := n0_; clear n0_; (try clear hb); (try clear hb2); (try clear hk); (try clear hi)) | ((with_reducible refine gate_callee (f := 40) rfl ?_); refine goesL_ (some 18) rfl rfl Try.func40 (by kernel_rfl) rfl #[.slice A0 l0.length c0] rfl (by (try simp only [List.map_toArray, List.map_cons, List.map_nil]); first | done | rfl | (simp only [List.length_drop, List.length_take]; rfl)) ?_; (with_reducible refine (accounts_amounts.calls kj1 _ _ l0 true _ ?side1 ?side2 A7.out).mono ?_); (case side1 => repeat (first | exact (Kd.C_below HR0.out HB.out) | (with_reducible refine Kd.C_alloc ?_ _) | (with_reducible refine Kd.C_drewN ?_ _) | (with_reducible refine Kd.C_drew ?_))); (case side2 => exact HC0.out); rintro e w18 ⟨rfl, hb⟩; refine ⟨_, rfl, ?_⟩; have n0_ := Aside0.mk (below_step (by repeat (first | (with_reducible first | exact HB.out | apply below_alloc | apply pw_below_drewN | apply below_drew1) | exact HB.out)) hb); clear HB; have HB := n0_; clear n0_; (try clear hb); (try clear hb2); (try clear hk); (try clear hi)) | ((with_reducible refine gate_callee (f := 41) rfl ?_); refine goesL_ (some 22) rfl rfl Try.func41 (by kernel_rfl) rfl #[.slice A0 l0.length c0, .func (.func 42) #[] #[]] rfl (by (try simp only [List.map_toArray, List.map_cons, List.map_nil]); first | done | rfl | (simp only [List.length_drop, List.length_take]; rfl)) ?_; (with_reducible refine (api_Account_41.calls kj1 _ _ l0  false _ ?side1 ?side2 A9.out).mono ?_); (case side1 => repeat (first | exact (Kd.C_below HR0.out HB.out) | (with_reducible refine Kd.C_alloc ?_ _) | (with_reducible refine Kd.C_drewN ?_ _) | (with_reducible refine Kd.C_drew ?_))); (case side2 => exact HC0.out); rintro e w19 ⟨rfl, hb⟩; refine ⟨_, rfl, ?_⟩; have n0_ := Aside0.mk (below_step (by repeat (first | (with_reducible first | exact HB.out | apply below_alloc | apply pw_below_drewN | apply below_drew1) | exact HB.out)) hb); clear HB; have HB := n0_; clear n0_; (try clear hb); (try clear hb2); (try clear hk); (try clear hi)) | ((with_reducible refine gate_callee (f := 44) rfl ?_); refine goesL_ (some 25) rfl rfl Try.func44 (by kernel_rfl) rfl #[.slice A0 l0.length c0] rfl (by (try simp only [List.map_toArray, List.map_cons, List.map_nil]); first | done | rfl | (simp only [List.length_drop, List.length_take]; rfl)) ?_; (with_reducible refine (accounts_own.calls kj1 _ _ l0 t129 _ ?side1 ?side2 A14.out).mono ?_); (case side1 => repeat (first | exact (Kd.C_below HR0.out HB.out) | (with_reducible refine Kd.C_alloc ?_ _) | (with_reducible refine Kd.C_drewN ?_ _) | (with_reducible refine Kd.C_drew ?_))); (case side2 => exact HC0.out); rintro e w20 ⟨v130, rfl, ho0, hb⟩; refine ⟨_, rfl, ?_⟩; have n0_ := Aside0.mk (Kd.R_lower ho0 (below_size (by repeat (first | (with_reducible first | exact HB.out | apply below_alloc | apply pw_below_drewN | apply below_drew1) | exact HB.out)))); have n1_ := Aside0.mk (below_step (by repeat (first | (with_reducible first | exact HB.out | apply below_alloc | apply pw_below_drewN | apply below_drew1) | exact HB.out)) hb); clear HB; have HO131 := n0_; have HB := n1_; clear n0_ n1_; (try clear hb); (try clear hb2); (try clear hk); (try clear hi); (try clear ho0); obtain ⟨Ao21, co21, eo21⟩ := Kd.R_slice HO131.out; subst eo21) | ((with_reducible refine gate_callee (f := 43) rfl ?_); refine goesL_ (some 26) rfl rfl Try.func43 (by kernel_rfl) rfl #[.slice Ao21 t129.length co21] rfl (by (try simp only [List.map_toArray, List.map_cons, List.map_nil]); first | done | rfl | (simp only [List.length_drop, List.length_take]; rfl)) ?_; (with_reducible refine (slices_Min_int_int.calls kj1 _ _ t129 t132 _ ?side1 ?side2 A15.out).mono ?_); (case side1 => repeat (first | exact (Kd.R_reads' HO131.out).2.2 | (with_reducible refine Kd.C_alloc ?_ _) | (with_reducible refine Kd.C_drewN ?_ _) | (with_reducible refine Kd.C_drew ?_))); (case side2 => exact (Kd.R_reads' HO131.out).2.1); rintro e w22 ⟨rfl, hb⟩; refine ⟨_, rfl, ?_⟩; have n0_ := Aside0.mk (Kd.R_below (by (with_reducible repeat (first | apply Kd.R_alloc | apply Kd.R_drewN | apply Kd.R_drew)); exact HO131.out) hb); have n1_ := Aside0.mk (below_step (by repeat (first | (with_reducible first | exact HB.out | apply below_alloc | apply pw_below_drewN | apply below_drew1) | exact HB.out)) hb); clear HO131; clear HB; have HO131 := n0_; have HB := n1_; clear n0_ n1_; (try clear hb); (try clear hb2); (try clear hk); (try clear hi)))
        go_ret
        exact ⟨by first | rfl | (simp [errW_none, errW_some] <;> rfl) | (simp [*, errW_none, errW_some] <;> rfl), by repeat (first | (with_reducible first | exact HB.out | apply below_alloc | apply pw_below_drewN | apply below_drew1) | exact HB.out)⟩
       ·
        rw [if_neg c16] at H
        have c16b0 : decide (t132 < 0) = false := decide_eq_false c16
        clear c16
        obtain rfl := Option.some.inj H
        go_wp2_with (first | ((with_reducible refine gate_callee (f := 39) rfl ?_); refine goesL_ (some 14) rfl rfl Try.func39 (by kernel_rfl) rfl #[.slice A0 l0.length c0] rfl (by (try simp only [List.map_toArray, List.map_cons, List.map_nil]); first | done | rfl | (simp only [List.length_drop, List.length_take]; rfl)) ?_; (with_reducible refine (accounts_tree.calls kj1 _ _ l0 true _ ?side1 ?side2 A5.out).mono ?_); (case side1 => repeat (first | exact (Kd.C_below HR0.out HB.out) | (with_reducible refine Kd.C_alloc ?_ _) | (with_reducible refine Kd.C_drewN ?_ _) | (with_reducible refine Kd.C_drew ?_))); (case side2 => exact HC0.out); rintro e w23 ⟨rfl, hb⟩; refine ⟨_, rfl, ?_⟩; have n0_ := Aside0.mk (below_step (by repeat (first | (with_reducible first | exact HB.out | apply below_alloc | apply pw_below_drewN | apply below_drew1) | exact HB.out)) hb); clear HB; have HB := n0_; clear n0_; (try clear hb); (try clear hb2); (try clear hk); (try clear hi)) | ((with_reducible refine gate_callee (f := 40) rfl ?_); refine goesL_ (some 18) rfl rfl Try.func40 (by kernel_rfl) rfl #[.slice A0 l0.length c0] rfl (by (try simp only [List.map_toArray, List.map_cons, List.map_nil]); first | done | rfl | (simp only [List.length_drop, List.length_take]; rfl)) ?_; (with_reducible refine (accounts_amounts.calls kj1 _ _ l0 true _ ?side1 ?side2 A7.out).mono ?_); (case side1 => repeat (first | exact (Kd.C_below HR0.out HB.out) | (with_reducible refine Kd.C_alloc ?_ _) | (with_reducible refine Kd.C_drewN ?_ _) | (with_reducible refine Kd.C_drew ?_))); (case side2 => exact HC0.out); rintro e w24 ⟨rfl, hb⟩; refine ⟨_, rfl, ?_⟩; have n0_ := Aside0.mk (below_step (by repeat (first | (with_reducible first | exact HB.out | apply below_alloc | apply pw_below_drewN | apply below_drew1) | exact HB.out)) hb); clear HB; have HB := n0_; clear n0_; (try clear hb); (try clear hb2); (try clear hk); (try clear hi)) | ((with_reducible refine gate_callee (f := 41) rfl ?_); refine goesL_ (some 22) rfl rfl Try.func41 (by kernel_rfl) rfl #[.slice A0 l0.length c0, .func (.func 42) #[] #[]] rfl (by (try simp only [List.map_toArray, List.map_cons, List.map_nil]); first | done | rfl | (simp only [List.length_drop, List.length_take]; rfl)) ?_; (with_reducible refine (api_Account_41.calls kj1 _ _ l0  false _ ?side1 ?side2 A9.out).mono ?_); (case side1 => repeat (first | exact (Kd.C_below HR0.out HB.out) | (with_reducible refine Kd.C_alloc ?_ _) | (with_reducible refine Kd.C_drewN ?_ _) | (with_reducible refine Kd.C_drew ?_))); (case side2 => exact HC0.out); rintro e w25 ⟨rfl, hb⟩; refine ⟨_, rfl, ?_⟩; have n0_ := Aside0.mk (below_step (by repeat (first | (with_reducible first | exact HB.out | apply below_alloc | apply pw_below_drewN | apply below_drew1) | exact HB.out)) hb); clear HB; have HB := n0_; clear n0_; (try clear hb); (try clear hb2); (try clear hk); (try clear hi)) | ((with_reducible refine gate_callee (f := 44) rfl ?_); refine goesL_ (some 25) rfl rfl Try.func44 (by kernel_rfl) rfl #[.slice A0 l0.length c0] rfl (by (try simp only [List.map_toArray, List.map_cons, List.map_nil]); first | done | rfl | (simp only [List.length_drop, List.length_take]; rfl)) ?_; (with_reducible refine (accounts_own.calls kj1 _ _ l0 t129 _ ?side1 ?side2 A14.out).mono ?_); (case side1 => repeat (first | exact (Kd.C_below HR0.out HB.out) | (with_reducible refine Kd.C_alloc ?_ _) | (with_reducible refine Kd.C_drewN ?_ _) | (with_reducible refine Kd.C_drew ?_))); (case side2 => exact HC0.out); rintro e w26 ⟨v130, rfl, ho0, hb⟩; refine ⟨_, rfl, ?_⟩; have n0_ := Aside0.mk (Kd.R_lower ho0 (below_size (by repeat (first | (with_reducible first | exact HB.out | apply below_alloc | apply pw_below_drewN | apply below_drew1) | exact HB.out)))); have n1_ := Aside0.mk (below_step (by repeat (first | (with_reducible first | exact HB.out | apply below_alloc | apply pw_below_drewN | apply below_drew1) | exact HB.out)) hb); clear HB; have HO131 := n0_; have HB := n1_; clear n0_ n1_; (try clear hb); (try clear hb2); (try clear hk); (try clear hi); (try clear ho0); obtain ⟨Ao27, co27, eo27⟩ := Kd.R_slice HO131.out; subst eo27) | ((with_reducible refine gate_callee (f := 43) rfl ?_); refine goesL_ (some 26) rfl rfl Try.func43 (by kernel_rfl) rfl #[.slice Ao27 t129.length co27] rfl (by (try simp only [List.map_toArray, List.map_cons, List.map_nil]); first | done | rfl | (simp only [List.length_drop, List.length_take]; rfl)) ?_; (with_reducible refine (slices_Min_int_int.calls kj1 _ _ t129 t132 _ ?side1 ?side2 A15.out).mono ?_); (case side1 => repeat (first | exact (Kd.R_reads' HO131.out).2.2 | (with_reducible refine Kd.C_alloc ?_ _) | (with_reducible refine Kd.C_drewN ?_ _) | (with_reducible refine Kd.C_drew ?_))); (case side2 => exact (Kd.R_reads' HO131.out).2.1); rintro e w28 ⟨rfl, hb⟩; refine ⟨_, rfl, ?_⟩; have n0_ := Aside0.mk (Kd.R_below (by (with_reducible repeat (first | apply Kd.R_alloc | apply Kd.R_drewN | apply Kd.R_drew)); exact HO131.out) hb); have n1_ := Aside0.mk (below_step (by repeat (first | (with_reducible first | exact HB.out | apply below_alloc | apply pw_below_drewN | apply below_drew1) | exact HB.out)) hb); clear HO131; clear HB; have HO131 := n0_; have HB := n1_; clear n0_ n1_; (try clear hb); (try clear hb2); (try clear hk); (try clear hi)))
        go_ret
        exact ⟨by first | rfl | (simp [errW_none, errW_some] <;> rfl) | (simp [*, errW_none, errW_some] <;> rfl), by repeat (first | (with_reducible first | exact HB.out | apply below_alloc | apply pw_below_drewN | apply below_drew1) | exact HB.out)⟩
     ·
      replace c8 := Bool.eq_false_iff.mpr c8
      subst c8
      have H1 : (some 2) = some r := by rw [if_neg (show ¬ (false = true) by decide)] at H; exact H
      clear H
      have H := H1
      clear H1
      obtain rfl := Option.some.inj H
      go_wp2_with (first | ((with_reducible refine gate_callee (f := 39) rfl ?_); refine goesL_ (some 14) rfl rfl Try.func39 (by kernel_rfl) rfl #[.slice A0 l0.length c0] rfl (by (try simp only [List.map_toArray, List.map_cons, List.map_nil]); first | done | rfl | (simp only [List.length_drop, List.length_take]; rfl)) ?_; (with_reducible refine (accounts_tree.calls kj1 _ _ l0 true _ ?side1 ?side2 A5.out).mono ?_); (case side1 => repeat (first | exact (Kd.C_below HR0.out HB.out) | (with_reducible refine Kd.C_alloc ?_ _) | (with_reducible refine Kd.C_drewN ?_ _) | (with_reducible refine Kd.C_drew ?_))); (case side2 => exact HC0.out); rintro e w29 ⟨rfl, hb⟩; refine ⟨_, rfl, ?_⟩; have n0_ := Aside0.mk (below_step (by repeat (first | (with_reducible first | exact HB.out | apply below_alloc | apply pw_below_drewN | apply below_drew1) | exact HB.out)) hb); clear HB; have HB := n0_; clear n0_; (try clear hb); (try clear hb2); (try clear hk); (try clear hi)) | ((with_reducible refine gate_callee (f := 40) rfl ?_); refine goesL_ (some 18) rfl rfl Try.func40 (by kernel_rfl) rfl #[.slice A0 l0.length c0] rfl (by (try simp only [List.map_toArray, List.map_cons, List.map_nil]); first | done | rfl | (simp only [List.length_drop, List.length_take]; rfl)) ?_; (with_reducible refine (accounts_amounts.calls kj1 _ _ l0 false _ ?side1 ?side2 A7.out).mono ?_); (case side1 => repeat (first | exact (Kd.C_below HR0.out HB.out) | (with_reducible refine Kd.C_alloc ?_ _) | (with_reducible refine Kd.C_drewN ?_ _) | (with_reducible refine Kd.C_drew ?_))); (case side2 => exact HC0.out); rintro e w30 ⟨rfl, hb⟩; refine ⟨_, rfl, ?_⟩; have n0_ := Aside0.mk (below_step (by repeat (first | (with_reducible first | exact HB.out | apply below_alloc | apply pw_below_drewN | apply below_drew1) | exact HB.out)) hb); clear HB; have HB := n0_; clear n0_; (try clear hb); (try clear hb2); (try clear hk); (try clear hi)))
      go_ret
      exact ⟨by first | rfl | (simp [errW_none, errW_some] <;> rfl) | (simp [*, errW_none, errW_some] <;> rfl), by repeat (first | (with_reducible first | exact HB.out | apply below_alloc | apply pw_below_drewN | apply below_drew1) | exact HB.out)⟩
    ·
     replace c6 := Bool.eq_false_iff.mpr c6
     subst c6
     have H1 : (some 1) = some r := by rw [if_neg (show ¬ (false = true) by decide)] at H; exact H
     clear H
     have H := H1
     clear H1
     obtain rfl := Option.some.inj H
     go_wp2_with (first | ((with_reducible refine gate_callee (f := 39) rfl ?_); refine goesL_ (some 14) rfl rfl Try.func39 (by kernel_rfl) rfl #[.slice A0 l0.length c0] rfl (by (try simp only [List.map_toArray, List.map_cons, List.map_nil]); first | done | rfl | (simp only [List.length_drop, List.length_take]; rfl)) ?_; (with_reducible refine (accounts_tree.calls kj1 _ _ l0 false _ ?side1 ?side2 A5.out).mono ?_); (case side1 => repeat (first | exact (Kd.C_below HR0.out HB.out) | (with_reducible refine Kd.C_alloc ?_ _) | (with_reducible refine Kd.C_drewN ?_ _) | (with_reducible refine Kd.C_drew ?_))); (case side2 => exact HC0.out); rintro e w31 ⟨rfl, hb⟩; refine ⟨_, rfl, ?_⟩; have n0_ := Aside0.mk (below_step (by repeat (first | (with_reducible first | exact HB.out | apply below_alloc | apply pw_below_drewN | apply below_drew1) | exact HB.out)) hb); clear HB; have HB := n0_; clear n0_; (try clear hb); (try clear hb2); (try clear hk); (try clear hi)))
     go_ret
     exact ⟨by first | rfl | (simp [errW_none, errW_some] <;> rfl) | (simp [*, errW_none, errW_some] <;> rfl), by repeat (first | (with_reducible first | exact HB.out | apply below_alloc | apply pw_below_drewN | apply below_drew1) | exact HB.out)⟩
/-! ### protection_Effective: function 13 -/
theorem wr64 {i : Int} (h0 : -9000000000000000000 ≤ i) (h1 : i ≤ 9000000000000000000) : wrap64 i = i := by unfold wrap64; omega
def treeAt (l : List S41) (j : Int) : Prop := (j = 0 → (rd_T41 l j).f0 = -1) ∧ (0 < j → 0 ≤ (rd_T41 l j).f0 ∧ (rd_T41 l j).f0 < j)
theorem tree_inv (l : List S41) (h8 : l.length ≤ 8) : ∀ (k : Nat) (i : Int), 0 ≤ i → (accounts_tree.l0 k l (l.length : Int) i = some true → ∀ j, i ≤ j → j < (l.length : Int) → treeAt l j) ∧ (∀ b, i < (l.length : Int) → accounts_tree.j1 k l (l.length : Int) i b = some true → b = false ∧ ∀ j, i + 1 ≤ j → j < (l.length : Int) → treeAt l j)
  | 0 => fun i h0 => ⟨fun h => by simp [accounts_tree.l0] at h, fun b _ h => by simp [accounts_tree.j1] at h⟩
  | k + 1 => fun i h0 => by
    constructor
    · intro h j hij hj
      have hlt : i < (l.length : Int) := by omega
      simp only [accounts_tree.l0] at h
      rw [if_pos hlt, if_pos h0, if_pos hlt] at h
      have key : ∀ b, accounts_tree.j1 k l (l.length : Int) i b = some true → (b = false → treeAt l i) → treeAt l j := by
        intro b hb ht
        obtain ⟨e, hr⟩ := (tree_inv l h8 k i h0).2 b hlt hb
        by_cases e2 : j = i
        · rw [e2]; exact ht e
        · exact hr j (by omega) hj
      by_cases c0 : i = 0
      · rw [if_pos c0] at h
        by_cases c1 : (rd_T41 l i).f0 = -1
        · rw [if_pos c1, if_neg (by omega)] at h
          exact key _ h (fun _ => ⟨fun _ => c1, fun h2 => absurd h2 (by omega)⟩)
        · rw [if_neg c1] at h
          exact key _ h (fun e => by cases e)
      · rw [if_neg c0, if_pos (by omega)] at h
        by_cases c1 : (rd_T41 l i).f0 < 0
        · rw [if_pos c1] at h
          exact key _ h (fun e => by cases e)
        · rw [if_neg c1] at h
          exact key _ h (fun e => ⟨fun h2 => absurd h2 c0, fun _ => ⟨by omega, by have := of_decide_eq_false e; omega⟩⟩)
    · intro b hlt h
      simp only [accounts_tree.j1] at h
      cases b with
      | true => simp at h
      | false =>
        rw [if_neg (by simp), wr64 (by omega) (by omega)] at h
        exact ⟨rfl, (tree_inv l h8 k (i + 1) (by omega)).1 h⟩
def amt (n : Int) : Prop := 0 ≤ n ∧ n ≤ 1048576
def amtAt (l : List S41) (j : Int) : Prop := amt (rd_T41 l j).f1 ∧ amt (rd_T41 l j).f2 ∧ amt (rd_T41 l j).f3 ∧ amt (rd_T41 l j).f4
theorem in_some (n : Int) : ∃ b, accounts_in.f n = some b ∧ (b = true ↔ amt n) := by
  unfold accounts_in.f amt
  by_cases h : n ≥ 0
  · rw [if_pos h]; exact ⟨_, rfl, by simp; omega⟩
  · rw [if_neg h]; exact ⟨_, rfl, by simp; omega⟩
theorem amounts_inv (l : List S41) (h8 : l.length ≤ 8) : ∀ (k : Nat) (i : Int), 0 ≤ i → (accounts_amounts.l0 k l l (l.length : Int) i = some true → (∀ j, i ≤ j → j < (l.length : Int) → amtAt l j) ∧ 0 < l.length ∧ (rd_T41 l 0).f2 = 0 ∧ (rd_T41 l 0).f3 = 0) ∧ (∀ b, i < (l.length : Int) → accounts_amounts.j1 k l l (l.length : Int) i b = some true → b = false ∧ (∀ j, i + 1 ≤ j → j < (l.length : Int) → amtAt l j) ∧ 0 < l.length ∧ (rd_T41 l 0).f2 = 0 ∧ (rd_T41 l 0).f3 = 0)
  | 0 => fun i h0 => ⟨fun h => by simp [accounts_amounts.l0] at h, fun b _ h => by simp [accounts_amounts.j1] at h⟩
  | k + 1 => fun i h0 => by
    constructor
    · intro h
      simp only [accounts_amounts.l0] at h
      by_cases hlt : i < (l.length : Int)
      · rw [if_pos hlt, if_pos h0, if_pos hlt] at h
        have key : ∀ b, accounts_amounts.j1 k l l (l.length : Int) i b = some true → (b = false → amtAt l i) → (∀ j, i ≤ j → j < (l.length : Int) → amtAt l j) ∧ 0 < l.length ∧ (rd_T41 l 0).f2 = 0 ∧ (rd_T41 l 0).f3 = 0 := by
          intro b hb ht
          obtain ⟨e, hr, h2⟩ := (amounts_inv l h8 k i h0).2 b hlt hb
          refine ⟨fun j hij hj => ?_, h2⟩
          by_cases e2 : j = i
          · rw [e2]; exact ht e
          · exact hr j (by omega) hj
        obtain ⟨b1, e1, q1⟩ := in_some (rd_T41 l i).f1
        obtain ⟨b2, e2, q2⟩ := in_some (rd_T41 l i).f2
        obtain ⟨b3, e3, q3⟩ := in_some (rd_T41 l i).f3
        obtain ⟨b4, e4, q4⟩ := in_some (rd_T41 l i).f4
        rw [e1, e2, e3, e4] at h
        simp only [Option.bind_some] at h
        cases b1 with
        | false => exact key _ h (fun e => by cases e)
        | true =>
          cases b2 with
          | false => exact key _ h (fun e => by cases e)
          | true =>
            cases b3 with
            | false => exact key _ h (fun e => by cases e)
            | true =>
              exact key _ h (fun e => ⟨q1.1 rfl, q2.1 rfl, q3.1 rfl, q4.1 (by simpa using e)⟩)
      · rw [if_neg hlt] at h
        by_cases hp : 0 < (l.length : Int)
        · rw [if_pos hp] at h
          by_cases c : (rd_T41 l 0).f2 = 0
          · rw [if_pos c] at h
            exact ⟨fun j h1 h2 => absurd h2 (by omega), by omega, c, by simpa using h⟩
          · rw [if_neg c] at h; simp at h
        · rw [if_neg hp] at h; simp at h
    · intro b hlt h
      simp only [accounts_amounts.j1] at h
      cases b with
      | true => simp at h
      | false =>
        rw [if_neg (by simp), wr64 (by omega) (by omega)] at h
        exact ⟨rfl, (amounts_inv l h8 k (i + 1) (by omega)).1 h⟩
theorem check_inv (k : Nat) (l : List S41) (h : accounts_Check.f k l = some 0) : 1 ≤ l.length ∧ l.length ≤ 8 ∧ (∀ j : Int, 0 ≤ j → j < (l.length : Int) → treeAt l j) ∧ (∀ j : Int, 0 ≤ j → j < (l.length : Int) → amtAt l j) ∧ (rd_T41 l 0).f2 = 0 ∧ (rd_T41 l 0).f3 = 0 := by
  unfold accounts_Check.f at h
  have key : ∀ b, accounts_Check.j0 k l b = some 0 → b = false ∧ (l.length ≤ 8 → (∀ j : Int, 0 ≤ j → j < (l.length : Int) → treeAt l j) ∧ (∀ j : Int, 0 ≤ j → j < (l.length : Int) → amtAt l j) ∧ (rd_T41 l 0).f2 = 0 ∧ (rd_T41 l 0).f3 = 0) := by
    intro b hb
    cases k with
    | zero => simp [accounts_Check.j0] at hb
    | succ k =>
      simp only [accounts_Check.j0] at hb
      cases b with
      | true => simp at hb
      | false =>
        refine ⟨rfl, fun h8 => ?_⟩
        rw [if_neg (by simp)] at hb
        obtain ⟨t1, e1, hb⟩ := Option.bind_eq_some_iff.mp hb
        cases t1 with
        | false => simp at hb
        | true =>
          rw [if_pos rfl] at hb
          obtain ⟨t2, e2, hb⟩ := Option.bind_eq_some_iff.mp hb
          cases t2 with
          | false => simp at hb
          | true =>
            refine ⟨fun j h1 h2 => (tree_inv l h8 k 0 (by omega)).1 e1 j h1 h2, ?_⟩
            obtain ⟨q1, _, q2⟩ := (amounts_inv l h8 k 0 (by omega)).1 e2
            exact ⟨fun j h1 h2 => q1 j h1 h2, q2⟩
  by_cases c : (l.length : Int) < 1
  · rw [if_pos c] at h
    have := (key _ h).1
    simp at this
  · rw [if_neg c] at h
    obtain ⟨e, q⟩ := key _ h
    have := of_decide_eq_false e
    exact ⟨by omega, by omega, q (by omega)⟩
set_option maxHeartbeats 1000000 in
theorem wanted.calls (A0 : Option Addr) (c0 : Nat) (l0 : List (S41)) (i : Int) (b : Nat) (w : World) (hr0 : Kd.C k41 w A0 l0.length l0) (hb : w.cell? ⟨b, 0, none⟩ = some (.slice A0 l0.length c0)) (hi0 : 0 ≤ i) (hi1 : i < (l0.length : Int)) :
    Calls Try.prog 29 #[.int .i64 i, .pointer (some ⟨b, 0, none⟩)] w fun e w' => e = .returned (.int .i64 (mn (rd_T41 l0 i).f2 (rd_T41 l0 i).f1)) ∧ Drawn0 w w' := by
  obtain ⟨ad, e0, hx0, hx1, hx2, hx3, hx4⟩ := at_T41 hr0 i hi0 hi1
  subst e0
  have p1 : decide (0 ≤ i) = true := decide_eq_true hi0
  have p2 : decide (i < (l0.length : Int)) = true := decide_eq_true hi1
  clear hr0
  go_enter Try.func29, Try.ntmps29
  go_wp2
  go_quiet (fail)
  go_wp2
  all_goals
    go_ret
    refine ⟨congrArg Ending.returned (congrArg (Value.int IntKind.i64) ?_), ⟨_, rfl⟩⟩
    unfold mn
    split <;> omega
def eff_bd (r : List Int) : Prop := ∀ j : Int, 0 ≤ rd r j ∧ rd r j ≤ 1048576
theorem rd_set' (xs : List Int) (k : Nat) (v j : Int) : rd (xs.set k v) j = v ∨ rd (xs.set k v) j = rd xs j := by
  unfold rd
  rw [List.getD_eq_getElem?_getD, List.getD_eq_getElem?_getD, List.getElem?_set]
  by_cases h : k = j.toNat
  · rw [if_pos h]
    by_cases h2 : k < xs.length
    · rw [if_pos h2]; exact Or.inl rfl
    · rw [if_neg h2]
      right
      rw [← h, List.getElem?_eq_none (by omega)]
  · rw [if_neg h]; exact Or.inr rfl
theorem eff_bd_set (r : List Int) (k : Nat) (v : Int) (h : eff_bd r) (h0 : 0 ≤ v) (h1 : v ≤ 1048576) : eff_bd (r.set k v) := by
  intro j
  rcases rd_set' r k v j with e | e
  · rw [e]; exact ⟨h0, h1⟩
  · rw [e]; exact h j
theorem mul_bd {m g : Int} (hm0 : 0 ≤ m) (hm1 : m ≤ 1048576) (hg0 : 0 ≤ g) (hg1 : g ≤ 1048576) : 0 ≤ m * g ∧ m * g ≤ 1099511627776 := by
  constructor
  · exact Int.mul_nonneg hm0 hg0
  · have := Int.mul_le_mul hm1 hg1 hg0 (by omega : (0 : Int) ≤ 1048576)
    omega
theorem share_bd {m g t : Int} (hm0 : 0 ≤ m) (hm1 : m ≤ 1048576) (hg0 : 0 ≤ g) (hg1 : g ≤ 1048576) (ht : g < t) : wrap64 (Int.tdiv (wrap64 (m * g)) t) = m * g / t ∧ 0 ≤ m * g / t ∧ m * g / t ≤ m := by
  obtain ⟨h0, h1⟩ := mul_bd hm0 hm1 hg0 hg1
  have e1 : wrap64 (m * g) = m * g := by unfold wrap64; omega
  have e2 : Int.tdiv (m * g) t = m * g / t := Int.tdiv_eq_ediv_of_nonneg h0
  have h2 : 0 ≤ m * g / t := Int.ediv_nonneg h0 (by omega)
  have h3 : m * g / t ≤ m := by
    apply Int.ediv_le_of_le_mul (by omega)
    exact Int.mul_le_mul_of_nonneg_left (by omega) hm0
  rw [e1, e2]
  refine ⟨?_, h2, h3⟩
  generalize m * g / t = q at h2 h3
  unfold wrap64; omega
def eff_sums (l : List S41) : Nat → List Int → List Int
  | 0, s => s
  | m + 1, s => eff_sums l m (s.set (rd_T41 l ((m + 1 : Nat) : Int)).f0.toNat (wrap64 (rd s (rd_T41 l ((m + 1 : Nat) : Int)).f0 + mn (rd_T41 l ((m + 1 : Nat) : Int)).f2 (rd_T41 l ((m + 1 : Nat) : Int)).f1)))
theorem eff_sums_step (l : List S41) (x : Int) (s : List Int) (hx : 0 < x) : eff_sums l x.toNat s = eff_sums l (x - 1).toNat (s.set (rd_T41 l x).f0.toNat (wrap64 (rd s (rd_T41 l x).f0 + mn (rd_T41 l x).f2 (rd_T41 l x).f1))) := by
  obtain ⟨m, rfl⟩ : ∃ m : Nat, x = ((m + 1 : Nat) : Int) := ⟨(x - 1).toNat, by omega⟩
  have e : (((m + 1 : Nat) : Int) - 1).toNat = m := by omega
  rw [e, Int.toNat_natCast]
  rfl
def eff_step (l : List S41) (t r : List Int) (x : Int) : List Int :=
  if rd t (rd_T41 l x).f0 > rd r (rd_T41 l x).f0 then (r.set x.toNat (mn (rd_T41 l x).f2 (rd_T41 l x).f1)).set x.toNat (wrap64 (Int.tdiv (wrap64 (mn (rd_T41 l x).f2 (rd_T41 l x).f1 * rd r (rd_T41 l x).f0)) (rd t (rd_T41 l x).f0)))
  else r.set x.toNat (mn (rd_T41 l x).f2 (rd_T41 l x).f1)
def eff_pass (l : List S41) (t : List Int) : Nat → Int → List Int → List Int
  | 0, _, r => r
  | d + 1, x, r => eff_pass l t d (x + 1) (eff_step l t r x)
theorem eff_pass_step (l : List S41) (t : List Int) (x : Int) (r : List Int) (h0 : 0 ≤ x) (h1 : x < (l.length : Int)) : eff_pass l t ((l.length : Int) - x).toNat x r = eff_pass l t ((l.length : Int) - (x + 1)).toNat (x + 1) (eff_step l t r x) := by
  obtain ⟨d, hd⟩ : ∃ d : Nat, ((l.length : Int) - x).toNat = d + 1 := ⟨((l.length : Int) - x).toNat - 1, by omega⟩
  have e : ((l.length : Int) - (x + 1)).toNat = d := by omega
  rw [hd, e]
  rfl
theorem rdOf_set_same (xs : List Int) (i v : Int) (h0 : i < (xs.length : Int)) (h1 : 0 ≤ i) : rdOf 0 (xs.set i.toNat v) i = v := by
  unfold rdOf
  have : i.toNat < xs.length := by omega
  simp [List.getD_eq_getElem?_getD, List.getElem?_set, this]
def protection_Effective.eff' (l : List S41) : List Int :=
  eff_pass l (eff_sums l ((l.length : Int) - 1).toNat (List.replicate l.length 0)) (l.length - 1) 1 ((List.replicate l.length 0).set 0 (rd_T41 l 0).f1)
theorem R_away {W : World} {base n c g : Nat} {xs : List Int} (h : Kd.R (Kd.int .i64) 3 W base (fun _ => True) (.slice (some ⟨g, 0, none⟩) n c) xs) {p : Addr} (hne : g ≠ p.block) (u : Value) : Kd.R (Kd.int .i64) 3 (W.setCell p u) base (fun _ => True) (.slice (some ⟨g, 0, none⟩) n c) xs :=
  Kd.R_mono (Kd.R_far (Kd.R_far1 h rfl (g := p.block) (by simp [Value.ownBlock]; omega)) (fun k h => h.2) u) (fun _ _ => trivial)
theorem eff_step_bd (l : List S41) (t r : List Int) (x : Int) (hm0 : 0 ≤ mn (rd_T41 l x).f2 (rd_T41 l x).f1) (hm1 : mn (rd_T41 l x).f2 (rd_T41 l x).f1 ≤ 1048576) (h : eff_bd r) : eff_bd (eff_step l t r x) := by
  unfold eff_step
  split
  · rename_i hgt
    have hg := h (rd_T41 l x).f0
    obtain ⟨e, h0, h1⟩ := share_bd hm0 hm1 hg.1 hg.2 hgt
    rw [e]
    exact eff_bd_set _ _ _ (eff_bd_set _ _ _ h hm0 hm1) h0 (by omega)
  · exact eff_bd_set _ _ _ h hm0 hm1
set_option maxRecDepth 100000 in
set_option maxHeartbeats 4000000 in
theorem effective_ok (k : Nat) (A0 : Option Addr) (c0 : Nat) (l0 : List (S41)) (w : World) (hr0 : Kd.C k41 w A0 l0.length l0) (hc0 : l0.length ≤ c0) (hA : accounts_Check.f k l0 = some 0)
    (hn1 : 1 ≤ l0.length) (hn8 : l0.length ≤ 8) (htree : ∀ i : Int, 0 < i → i < (l0.length : Int) → 0 ≤ (rd_T41 l0 i).f0 ∧ (rd_T41 l0 i).f0 < i) (hbd : eff_bd ((List.replicate l0.length 0).set 0 (rd_T41 l0 0).f1)) (hmn : ∀ i : Int, 0 < i → i < (l0.length : Int) → 0 ≤ mn (rd_T41 l0 i).f2 (rd_T41 l0 i).f1 ∧ mn (rd_T41 l0 i).f2 (rd_T41 l0 i).f1 ≤ 1048576) :
    Calls Try.prog 13 #[.slice A0 l0.length c0] w fun e w' => ∃ v0_ : Value, e = .returned (.tuple #[v0_, .int .i64 0]) ∧ Kd.R (Kd.int .i64) 3 w' w.heap.size (fun _ => True) v0_ (protection_Effective.eff' l0) ∧ Below w.heap.size w w' := by
  have hu22 := Try.underlying22
  have HR0 := Aside0.mk hr0
  have HC0 := Aside0.mk hc0
  have HT := Aside0.mk htree
  have HA := Aside0.mk hA
  have HBD := Aside0.mk hbd
  have HMN := Aside0.mk hmn
  clear hr0 hc0 htree hA hbd hmn
  have HB := Aside0.mk (Below.refl w.heap.size w)
  go_enter Try.func13, Try.ntmps13
  go_wp2_with (first | ((with_reducible refine gate_dst (N := 1) rfl ?_); refine box_event rfl (N := 1) rfl (cs := #[.slice A0 l0.length c0]) (t := 22) (by first | (go_simp; done) | (go_simp; rfl)) ?_; intro b hg w1 hbox hb; have HB1 := Aside0.mk (below_step HB.out hb); have HG := Aside0.mk (show w.heap.size ≤ b by rw [hg]; exact Nat.le_refl _); have hcb : w1.cell? ⟨b, 0, none⟩ = some (.slice A0 l0.length c0) := (blk_cell hbox 0).trans rfl; have HBX := Aside0.mk hbox; clear hg hb hbox HB) | (go_at_call 28; (refine (accounts_Check.calls k _ _ l0 0 _ (Kd.C_below HR0.out HB1.out) HC0.out HA.out).mono ?_); rintro e w2 ⟨rfl, hb⟩; have HB2 := Aside0.mk (below_step HB1.out hb); have hb2 := (hb.block b (blk_lt HBX.out)).trans HBX.out; have HBX2 := Aside0.mk hb2; clear hcb hb hb2 HBX HB1; have hcb : w2.cell? ⟨b, 0, none⟩ = some (.slice A0 l0.length c0) := (blk_cell HBX2.out 0).trans rfl) | ((with_reducible refine gate_dst (N := 20) rfl ?_); refine Kd.R_make (Kd.int .i64) _ 3 rfl (N := 20) rfl 25 _ _ rfl (l0.length : Int) rfl rfl Try.underlying25 (.int .i64 0) 8 info3 rfl (by decide) (by omega) 0 (ok := fun _ => True) (okp := fun _ => True) rfl (fun _ hk => hk) trivial (by omega) (by omega) (Below.refl _ _) (Nat.le_refl _) ?_; intro v6 w3 ho hb hg_ hnew_; clear hg_ hnew_; have HB3 := Aside0.mk (below_step HB2.out hb); have hb3 := (hb.block b (blk_lt HBX2.out)).trans HBX2.out; have HS := Aside0.mk ho; have HLT := Aside0.mk (blk_lt HBX2.out); have HWL2 := Aside0.mk (below_size HB2.out); have HBX3 := Aside0.mk hb3; clear hcb hb hb3 HBX2 HB2 ho; have hcb : w3.cell? ⟨b, 0, none⟩ = some (.slice A0 l0.length c0) := (blk_cell HBX3.out 0).trans rfl))
  obtain ⟨g, cap, rfl, hg1, hg2, _⟩ := Kd.R_form HS.out (by simp; omega)
  have HGB := Aside0.mk (show b < g by have := HLT.out; omega)
  have HGW := Aside0.mk (show w.heap.size ≤ g by have := HGB.out; have := HG.out; omega)
  simp only [List.length_replicate, Int.toNat_natCast] at HS ⊢
  go_loopw [7] (fun v7 wr => ∃ (x : Int) (s : List Int), 0 ≤ x ∧ x < (l0.length : Int) ∧ v7 = .int .i64 x ∧ Aside0 (s.length = l0.length) ∧ Aside0 (eff_sums l0 x.toNat s = eff_sums l0 ((l0.length : Int) - 1).toNat (List.replicate l0.length 0)) ∧ Aside0 (Kd.R (Kd.int .i64) 3 wr w2.heap.size (fun _ => True) (.slice (some ⟨g, 0, none⟩) l0.length cap) s) ∧ Aside0 (Below w.heap.size w wr) ∧ Aside0 (wr.heap[b]? = some (.cells #[.slice A0 l0.length c0] 22 (0, 0)))) (fun v7 _ => (intOf v7).toNat)
  case atStart => exact ⟨(l0.length : Int) - 1, _, by omega, by omega, by rfl, ⟨by simp⟩, ⟨rfl⟩, HS, HB3, HBX3⟩
  case round =>
    clear hcb
    obtain ⟨x, s, hx0, hx1, rfl, HL, HE, HSr, HBr, HXr⟩ := hrel
    have hcbr : wr.cell? ⟨b, 0, none⟩ = some (.slice A0 l0.length c0) := (blk_cell HXr.out 0).trans rfl
    by_cases hx : 0 < x
    · obtain ⟨ad, e0, hf0, -, -, -, -⟩ := at_T41 (Kd.C_below HR0.out HBr.out) x hx0 hx1
      subst e0
      obtain ⟨hp0, hp1⟩ := HT.out x hx hx1
      have hsr := (Kd.R_celln 0 HSr.out (rd_T41 l0 x).f0 hp0 (by omega)).1
      have hsf := (Kd.R_celln 0 HSr.out (rd_T41 l0 x).f0 hp0 (by omega)).2
      replace hsr : wr.cell? ⟨g, (rd_T41 l0 x).f0.toNat, none⟩ = some (.int .i64 (rd s (rd_T41 l0 x).f0)) := hsr
      have hp2 : (rd_T41 l0 x).f0 < (l0.length : Int) := by omega
      have d1 : decide (0 < x) = true := decide_eq_true hx
      have d2 : decide (0 ≤ x) = true := decide_eq_true hx0
      have d3 : decide (x < (l0.length : Int)) = true := decide_eq_true hx1
      have d4 : decide (0 ≤ (rd_T41 l0 x).f0) = true := decide_eq_true hp0
      have d5 : decide ((rd_T41 l0 x).f0 < (l0.length : Int)) = true := decide_eq_true hp2
      go_wp2
      have HSd := Aside0.mk (Kd.R_drew HSr.out)
      have HBd := Aside0.mk (below_drew1 HBr.out)
      have HXd := Aside0.mk (blk_drew HXr.out)
      refine start_ (n := 14) (S := fun w' => w'.cell? ⟨b, 0, none⟩ = some (.slice (some ad) l0.length c0) ∧ w'.cell? (ad.add (x.toNat * 5)) = some (.int .i64 (rd_T41 l0 x).f0) ∧ w'.cell? ⟨g, (rd_T41 l0 x).f0.toNat, none⟩ = some (.int .i64 (rd s (rd_T41 l0 x).f0))) (ds := [13]) #[false, false, false, false, false, false, false, false, false, false, false, false, false, false] (by kernel_rfl) rfl rfl ⟨hcbr, hf0, hsr⟩ (fun hHeld => ?_)
      refine pure_ (i := 0) (N := some 28) (v := ?_) (a' := ?_) #[true, false, false, false, false, false, false, false, false, false, false, false, false, false] rfl rfl (by kernel_rfl) (fun _ _ _ h => h) (Or.inl ⟨by rfl, ?_⟩) ?_ ?_
      rotate_left
      · intro w'
        go_simp
        with_reducible rfl
      rotate_left
      · simp only [Act.put, List.setIfInBounds_toArray, List.set_cons_zero, List.set_cons_succ, i64_w, i32_w]
        rfl
      refine take_ (i := 1) (N := some 29) (v := ?_) (a' := ?_) #[true, true, false, false, false, false, false, false, false, false, false, false, false, false] rfl rfl (by kernel_rfl) (fun _ _ _ h => h) (Or.inl ⟨by rfl, ?_⟩) hHeld ?_ ?_
      rotate_left
      · rintro w' ⟨s0, s1, s2⟩
        go_simp
        with_reducible rfl
      rotate_left
      · simp only [Act.put, List.setIfInBounds_toArray, List.set_cons_zero, List.set_cons_succ, i64_w, i32_w]
        rfl
      refine pure_ (i := 2) (N := some 30) (v := ?_) (a' := ?_) #[true, true, true, false, false, false, false, false, false, false, false, false, false, false] rfl rfl (by kernel_rfl) (fun _ _ _ h => h) (Or.inl ⟨by rfl, ?_⟩) ?_ ?_
      rotate_left
      · intro w'
        go_simp
        with_reducible rfl
      rotate_left
      · simp only [Act.put, List.setIfInBounds_toArray, List.set_cons_zero, List.set_cons_succ, i64_w, i32_w]
        rfl
      refine pure_ (i := 3) (N := some 31) (v := ?_) (a' := ?_) #[true, true, true, true, false, false, false, false, false, false, false, false, false, false] rfl rfl (by kernel_rfl) (fun _ _ _ h => h) (Or.inl ⟨by rfl, ?_⟩) ?_ ?_
      rotate_left
      · intro w'
        go_simp
        with_reducible rfl
      rotate_left
      · simp only [Act.put, List.setIfInBounds_toArray, List.set_cons_zero, List.set_cons_succ, i64_w, i32_w]
        rfl
      refine pure_ (i := 4) (N := some 32) (v := ?_) (a' := ?_) #[true, true, true, true, true, false, false, false, false, false, false, false, false, false] rfl rfl (by kernel_rfl) (fun _ _ _ h => h) (Or.inl ⟨by rfl, ?_⟩) ?_ ?_
      rotate_left
      · intro w'
        go_simp
        with_reducible rfl
      rotate_left
      · simp only [Act.put, List.setIfInBounds_toArray, List.set_cons_zero, List.set_cons_succ, i64_w, i32_w]
        rfl
      refine take_ (i := 5) (N := some 33) (v := ?_) (a' := ?_) #[true, true, true, true, true, true, false, false, false, false, false, false, false, false] rfl rfl (by kernel_rfl) (fun _ _ _ h => h) (Or.inl ⟨by rfl, ?_⟩) hHeld ?_ ?_
      rotate_left
      · rintro w' ⟨s0, s1, s2⟩
        go_simp
        with_reducible rfl
      rotate_left
      · simp only [Act.put, List.setIfInBounds_toArray, List.set_cons_zero, List.set_cons_succ, i64_w, i32_w]
        rfl
      refine pure_ (i := 6) (N := some 34) (v := ?_) (a' := ?_) #[true, true, true, true, true, true, true, false, false, false, false, false, false, false] rfl rfl (by kernel_rfl) (fun _ _ _ h => h) (Or.inl ⟨by rfl, ?_⟩) ?_ ?_
      rotate_left
      · intro w'
        go_simp
        with_reducible rfl
      rotate_left
      · simp only [Act.put, List.setIfInBounds_toArray, List.set_cons_zero, List.set_cons_succ, i64_w, i32_w]
        rfl
      refine take_ (i := 7) (N := some 35) (v := ?_) (a' := ?_) #[true, true, true, true, true, true, true, true, false, false, false, false, false, false] rfl rfl (by kernel_rfl) (fun _ _ _ h => h) (Or.inl ⟨by rfl, ?_⟩) hHeld ?_ ?_
      rotate_left
      · rintro w' ⟨s0, s1, s2⟩
        go_simp
        with_reducible rfl
      rotate_left
      · simp only [Act.put, List.setIfInBounds_toArray, List.set_cons_zero, List.set_cons_succ, i64_w, i32_w]
        rfl
      refine pure_ (i := 8) (N := some 36) (v := ?_) (a' := ?_) #[true, true, true, true, true, true, true, true, true, false, false, false, false, false] rfl rfl (by kernel_rfl) (fun _ _ _ h => h) (Or.inl ⟨by rfl, ?_⟩) ?_ ?_
      rotate_left
      · intro w'
        go_simp
        with_reducible rfl
      rotate_left
      · simp only [Act.put, List.setIfInBounds_toArray, List.set_cons_zero, List.set_cons_succ, i64_w, i32_w]
        rfl
      refine pure_ (i := 9) (N := some 37) (v := ?_) (a' := ?_) #[true, true, true, true, true, true, true, true, true, true, false, false, false, false] rfl rfl (by kernel_rfl) (fun _ _ _ h => h) (Or.inl ⟨by rfl, ?_⟩) ?_ ?_
      rotate_left
      · intro w'
        go_simp
        with_reducible rfl
      rotate_left
      · simp only [Act.put, List.setIfInBounds_toArray, List.set_cons_zero, List.set_cons_succ, i64_w, i32_w]
        rfl
      refine one_ (i := 10) (N := some 38) #[true, true, true, true, true, true, true, true, true, true, true, false, false, false] rfl rfl (by kernel_rfl) (by decide) (fun K hK => ?_)
      refine call_ 29 #[.int .i64 x, .pointer (some ⟨b, 0, none⟩)] (by rfl) rfl ?_ ?_
      · first | (go_simp; done) | (go_simp; rfl)
      refine (wanted.calls (some ad) c0 l0 x b _ (Kd.C_below HR0.out HBd.out) hHeld.1 hx0 hx1).mono ?_
      rintro e w' ⟨rfl, ⟨nd, rfl⟩⟩
      refine ⟨_, rfl, ?_⟩
      refine hK.out _ _ hHeld (fun hHeld => ?_)
      clear hK K
      refine pure_ (i := 11) (N := some 39) (v := ?_) (a' := ?_) #[true, true, true, true, true, true, true, true, true, true, true, true, false, false] rfl rfl (by kernel_rfl) (fun _ _ _ h => h) (Or.inl ⟨by rfl, ?_⟩) ?_ ?_
      rotate_left
      · intro w'
        go_simp
        with_reducible rfl
      rotate_left
      · simp only [Act.put, List.setIfInBounds_toArray, List.set_cons_zero, List.set_cons_succ, i64_w, i32_w]
        rfl
      refine pure_ (i := 12) (N := some 40) (v := ?_) (a' := ?_) #[true, true, true, true, true, true, true, true, true, true, true, true, true, false] rfl rfl (by kernel_rfl) (fun _ _ _ h => h) (Or.inl ⟨by rfl, ?_⟩) ?_ ?_
      rotate_left
      · intro w'
        go_simp
        with_reducible rfl
      rotate_left
      · simp only [Act.put, List.setIfInBounds_toArray, List.set_cons_zero, List.set_cons_succ, i64_w, i32_w]
        rfl
      refine last_ (i := 13) (N := none) #[true, true, true, true, true, true, true, true, true, true, true, true, true, true] rfl rfl (by kernel_rfl) (by decide) (fun K hK => ?_)
      refine skip_ (w1 := ?_) (by rfl) rfl ?_ ?_
      rotate_left
      · go_simp
        rfl
      refine hK.out _ _ ?_
      clear hK K
      refine done_ (by kernel_rfl) ?_
      go_wp2
      go_roundw
      case rel => exact ⟨x - 1, s.set (rd_T41 l0 x).f0.toNat (wrap64 (rd s (rd_T41 l0 x).f0 + mn (rd_T41 l0 x).f2 (rd_T41 l0 x).f1)), by omega, by omega, rfl, ⟨by rw [List.length_set]; exact HL.out⟩, ⟨by rw [← eff_sums_step l0 x s hx]; exact HE.out⟩, ⟨Kd.R_putn (Kd.R_drewN HSr.out _) (rd_T41 l0 x).f0 _⟩, ⟨below_set (pw_below_drewN HBr.out _) HGW.out⟩, ⟨blk_far (blk_drewN HXr.out _) (by have := HGB.out; show b ≠ g; omega) _⟩⟩
      case measure => simp [intOf]; omega
    · obtain rfl : x = 0 := by omega
      have d1 : decide ((0 : Int) < 0) = false := rfl
      have HE2 := Aside0.mk (show s = eff_sums l0 ((l0.length : Int) - 1).toNat (List.replicate l0.length 0) from HE.out)
      clear HE
      have HGL := Aside0.mk (show g < wr.heap.size by obtain ⟨g', _, e1, _, h2, _⟩ := Kd.R_form HSr.out (by have := HL.out; omega); injection e1 with e2; injection e2 with e3; injection e3 with e4; omega)
      obtain ⟨ad, e0, -, hu0, -, -, -⟩ := at_T41 HR0.out 0 (by omega) (by omega)
      subst e0
      go_wp2_with (first | ((with_reducible refine gate_dst (N := 43) rfl ?_); refine Kd.R_make (Kd.int .i64) _ 3 rfl (N := 43) rfl 25 _ _ rfl (l0.length : Int) rfl rfl Try.underlying25 (.int .i64 0) 8 info3 rfl (by decide) (by omega) 0 (ok := fun _ => True) (okp := fun _ => True) rfl (fun _ hk => hk) trivial (by omega) (by omega) (Below.refl _ _) (Nat.le_refl _) ?_; intro v8 w4 ho hb hg_ hnew_; (clear hg_ hnew_; obtain ⟨g2, cap2, rfl, hg3, hg4, _⟩ := Kd.R_form ho (by simp; omega); have HWL := Aside0.mk (below_size HBr.out); have HB4 := Aside0.mk (below_step HBr.out hb); have hb3 := (hb.block b (blk_lt HXr.out)).trans HXr.out; have HS4 := Aside0.mk (Kd.R_below HSr.out hb); have HG2 := Aside0.mk hg3; have HX4 := Aside0.mk hb3; simp only [List.length_replicate, Int.toNat_natCast] at ho ⊢; have HO4 := Aside0.mk ho; clear hcbr hb hb3 HXr HBr HSr ho hg3 hg4; have hcb : w4.cell? ⟨b, 0, none⟩ = some (.slice (some ad) l0.length c0) := (blk_cell HX4.out 0).trans rfl; have hu0' : w4.cell? ⟨ad.block, ad.off + 1, none⟩ = some (.int .i64 (rd_T41 l0 0).f1) := (by have h_ := pw_cell_below HB4.out hu0; simpa [Addr.add_zero'] using h_); have hr1 : w4.cell? ⟨g2, 0, none⟩ = some (.int .i64 (rd (List.replicate l0.length 0) 0)) := (Kd.R_celln 0 HO4.out 0 (by omega) (by omega)).1; have hr2 : w4.frozen? ⟨g2, 0, none⟩ = false := (Kd.R_celln 0 HO4.out 0 (by omega) (by omega)).2; clear hu0)))
      have HS5 := Aside0.mk (R_away HS4.out (p := ⟨g2, 0, none⟩) (show g ≠ g2 by have := HGL.out; have := HG2.out; omega) (.int .i64 (rd_T41 l0 0).f1))
      have HO5 := Aside0.mk (Kd.R_putn HO4.out 0 (rd_T41 l0 0).f1)
      have HGG := Aside0.mk (show g < g2 by have := HGL.out; have := HG2.out; omega)
      have HB5 := Aside0.mk (below_set (j := 0) (v := .int .i64 (rd_T41 l0 0).f1) HB4.out (show w.heap.size ≤ g2 by have := HGW.out; have := HGG.out; omega))
      have HX5 := Aside0.mk (blk_far (p := ⟨g2, 0, none⟩) HX4.out (show b ≠ g2 by have := HGB.out; have := HGG.out; omega) (.int .i64 (rd_T41 l0 0).f1))
      clear HS4 HO4 HB4 HX4 hcb hu0' hr1 hr2 HS HB3 HBX3
      go_loopw [9] (fun v9 wr => ∃ (x : Int) (r : List Int), 1 ≤ x ∧ x ≤ (l0.length : Int) ∧ v9 = .int .i64 x ∧ Aside0 (r.length = l0.length) ∧ Aside0 (eff_bd r) ∧ Aside0 (eff_pass l0 s ((l0.length : Int) - x).toNat x r = eff_pass l0 s ((l0.length : Int) - 1).toNat 1 ((List.replicate l0.length 0).set 0 (rd_T41 l0 0).f1)) ∧ Aside0 (Kd.R (Kd.int .i64) 3 wr w2.heap.size (fun _ => True) (.slice (some ⟨g, 0, none⟩) l0.length cap) s) ∧ Aside0 (Kd.R (Kd.int .i64) 3 wr w.heap.size (fun _ => True) (.slice (some ⟨g2, 0, none⟩) l0.length cap2) r) ∧ Aside0 (Below w.heap.size w wr) ∧ Aside0 (wr.heap[b]? = some (.cells #[.slice (some ad) l0.length c0] 22 (0, 0)))) (fun v9 _ => l0.length - (intOf v9).toNat)
      case atStart => exact ⟨1, _, by omega, by omega, rfl, ⟨by simp⟩, ⟨HBD.out⟩, ⟨rfl⟩, HS5, ⟨Kd.R_lower HO5.out HWL.out⟩, HB5, HX5⟩
      case round =>
        clear HS5 HO5 HB5 HX5
        obtain ⟨x, r, hx0, hx1, rfl, HRL, HRB, HRE, HSr, HOr, HBr, HXr⟩ := hrel
        have hcbr : wr.cell? ⟨b, 0, none⟩ = some (.slice (some ad) l0.length c0) := (blk_cell HXr.out 0).trans rfl
        by_cases hx : x < (l0.length : Int)
        · obtain ⟨ad', e0, hf0, -, -, -, -⟩ := at_T41 (Kd.C_below HR0.out HBr.out) x (by omega) hx
          obtain rfl : ad = ad' := Option.some.inj e0
          clear e0
          obtain ⟨hp0, hp1⟩ := HT.out x (by omega) hx
          have htp : wr.cell? ⟨g, (rd_T41 l0 x).f0.toNat, none⟩ = some (.int .i64 (rd s (rd_T41 l0 x).f0)) := (Kd.R_celln 0 HSr.out (rd_T41 l0 x).f0 hp0 (by omega)).1
          have hrp : wr.cell? ⟨g2, (rd_T41 l0 x).f0.toNat, none⟩ = some (.int .i64 (rd r (rd_T41 l0 x).f0)) := (Kd.R_celln 0 HOr.out (rd_T41 l0 x).f0 hp0 (by omega)).1
          have hrx : wr.cell? ⟨g2, x.toNat, none⟩ = some (.int .i64 (rd r x)) := (Kd.R_celln 0 HOr.out x (by omega) hx).1
          have hfx : wr.frozen? ⟨g2, x.toNat, none⟩ = false := (Kd.R_celln 0 HOr.out x (by omega) hx).2
          have hp2 : (rd_T41 l0 x).f0 < (l0.length : Int) := by omega
          have hx00 : 0 ≤ x := by omega
          have d2 : decide (0 ≤ x) = true := decide_eq_true hx00
          have d3 : decide (x < (l0.length : Int)) = true := decide_eq_true hx
          have d4 : decide (0 ≤ (rd_T41 l0 x).f0) = true := decide_eq_true hp0
          have d5 : decide ((rd_T41 l0 x).f0 < (l0.length : Int)) = true := decide_eq_true hp2
          go_wp2
          go_quiet (fail)
          go_upto_region 17 with (go_at_call 29; refine (wanted.calls (some ad) c0 l0 x b _ (Kd.C_drewN (Kd.C_below HR0.out HBr.out) _) hcbr hx00 hx).mono ?_; rintro e w' ⟨rfl, ⟨nd, rfl⟩⟩)
          have hcx : ∀ m, ((wr.drewN m).setCell ⟨g2, x.toNat, none⟩ (.int .i64 (mn (rd_T41 l0 x).f2 (rd_T41 l0 x).f1))).cell? ⟨g2, x.toNat, none⟩ = some (.int .i64 (mn (rd_T41 l0 x).f2 (rd_T41 l0 x).f1)) := fun m => by
            have := (Kd.R_celln 0 (Kd.R_putn (Kd.R_drewN HOr.out m) x (mn (rd_T41 l0 x).f2 (rd_T41 l0 x).f1)) x (by omega) hx).1
            rw [show rdOf 0 (r.set x.toNat (mn (rd_T41 l0 x).f2 (rd_T41 l0 x).f1)) x = mn (rd_T41 l0 x).f2 (rd_T41 l0 x).f1 from rdOf_set_same _ _ _ (by have := HRL.out; omega) (by omega)] at this
            exact this
          have hfx2 : ∀ m, ((wr.drewN m).setCell ⟨g2, x.toNat, none⟩ (.int .i64 (mn (rd_T41 l0 x).f2 (rd_T41 l0 x).f1))).frozen? ⟨g2, x.toNat, none⟩ = false := fun m => (Kd.R_celln 0 (Kd.R_putn (Kd.R_drewN HOr.out m) x (mn (rd_T41 l0 x).f2 (rd_T41 l0 x).f1)) x (by omega) hx).2
          by_cases hgt : rd r (rd_T41 l0 x).f0 < rd s (rd_T41 l0 x).f0
          · have d6 : decide (rd r (rd_T41 l0 x).f0 < rd s (rd_T41 l0 x).f0) = true := decide_eq_true hgt
            have hne : ¬ rd s (rd_T41 l0 x).f0 = 0 := by have := (HRB.out (rd_T41 l0 x).f0).1; omega
            have d7 : (rd s (rd_T41 l0 x).f0 == 0) = false := beq_eq_false_iff_ne.mpr hne
            go_wp2
            go_roundw
            case rel => exact ⟨x + 1, (r.set x.toNat (mn (rd_T41 l0 x).f2 (rd_T41 l0 x).f1)).set x.toNat (wrap64 (Int.tdiv (wrap64 (mn (rd_T41 l0 x).f2 (rd_T41 l0 x).f1 * rd r (rd_T41 l0 x).f0)) (rd s (rd_T41 l0 x).f0))), by omega, by omega, rfl, ⟨by rw [List.length_set, List.length_set]; exact HRL.out⟩, ⟨by have := eff_step_bd l0 s r x (HMN.out x (by omega) hx).1 (HMN.out x (by omega) hx).2 HRB.out; unfold eff_step at this; rw [if_pos (by omega)] at this; exact this⟩, ⟨by rw [← HRE.out, eff_pass_step l0 s x r (by omega) hx]; unfold eff_step; rw [if_pos (by omega)]⟩, ⟨R_away (R_away (Kd.R_drewN HSr.out _) (by have := HGG.out; show g ≠ g2; omega) _) (by have := HGG.out; show g ≠ g2; omega) _⟩, ⟨Kd.R_putn (Kd.R_putn (Kd.R_drewN HOr.out _) x _) x _⟩, ⟨below_set (below_set (pw_below_drewN HBr.out _) (by have := HGW.out; have := HGG.out; omega)) (by have := HGW.out; have := HGG.out; omega)⟩, ⟨blk_far (blk_far (blk_drewN HXr.out _) (by have := HGB.out; have := HGG.out; show b ≠ g2; omega) _) (by have := HGB.out; have := HGG.out; show b ≠ g2; omega) _⟩⟩
            case measure => simp [intOf]; omega
          · have d6 : decide (rd r (rd_T41 l0 x).f0 < rd s (rd_T41 l0 x).f0) = false := decide_eq_false hgt
            go_wp2
            go_roundw
            case rel => exact ⟨x + 1, r.set x.toNat (mn (rd_T41 l0 x).f2 (rd_T41 l0 x).f1), by omega, by omega, rfl, ⟨by rw [List.length_set]; exact HRL.out⟩, ⟨by have := eff_step_bd l0 s r x (HMN.out x (by omega) hx).1 (HMN.out x (by omega) hx).2 HRB.out; unfold eff_step at this; rw [if_neg (by omega)] at this; exact this⟩, ⟨by rw [← HRE.out, eff_pass_step l0 s x r (by omega) hx]; unfold eff_step; rw [if_neg (by omega)]⟩, ⟨R_away (Kd.R_drewN HSr.out _) (by have := HGG.out; show g ≠ g2; omega) _⟩, ⟨Kd.R_putn (Kd.R_drewN HOr.out _) x _⟩, ⟨below_set (pw_below_drewN HBr.out _) (by have := HGW.out; have := HGG.out; omega)⟩, ⟨blk_far (blk_drewN HXr.out _) (by have := HGB.out; have := HGG.out; show b ≠ g2; omega) _⟩⟩
            case measure => simp [intOf]; omega
        · obtain rfl : x = (l0.length : Int) := by omega
          have d3 : decide ((l0.length : Int) < (l0.length : Int)) = false := decide_eq_false (by omega)
          have HRE2 : r = eff_pass l0 s ((l0.length : Int) - 1).toNat 1 ((List.replicate l0.length 0).set 0 (rd_T41 l0 0).f1) := by
            rw [← HRE.out, show ((l0.length : Int) - (l0.length : Int)).toNat = 0 by omega]
            rfl
          have HRE3 := Aside0.mk HRE2
          clear HRE2 HRE
          go_wp2
          go_ret2
          refine ⟨_, rfl, ?_, HBr.out⟩
          have e1 : protection_Effective.eff' l0 = r := by
            rw [HRE3.out, HE2.out]
            unfold protection_Effective.eff'
            rw [show ((l0.length : Int) - 1).toNat = l0.length - 1 by omega]
          rw [e1]
          exact HOr.out
def protection_Effective.f (k : Nat) (l0 : List (S41)) : Option (List Int × Int) := (accounts_Check.f k l0).bind fun e => if e = 0 then some (protection_Effective.eff' l0, 0) else some ([], e)
theorem protection_Effective.mono : ∀ a0 k, LeO (protection_Effective.f k a0) (protection_Effective.f (k + 1) a0) := by
  intro a0 k
  unfold protection_Effective.f
  exact LeO.bind (accounts_Check.mono a0 k) (fun _ => LeO.refl _)
set_option maxRecDepth 100000 in
set_option maxHeartbeats 1000000 in
theorem effective_err (k : Nat) (A0 : Option Addr) (c0 : Nat) (l0 : List (S41)) (e2 : Int) (w : World) (hr0 : Kd.C k41 w A0 l0.length l0) (hc0 : l0.length ≤ c0) (hA : accounts_Check.f k l0 = some e2) (he : ¬ e2 = 0) :
    Calls Try.prog 13 #[.slice A0 l0.length c0] w fun e w' => ∃ v0_ : Value, e = .returned (.tuple #[v0_, .int .i64 e2]) ∧ Kd.R (Kd.int .i64) 3 w' w.heap.size (fun _ => True) v0_ [] ∧ Below w.heap.size w w' := by
  have hu22 := Try.underlying22
  have HR0 := Aside0.mk hr0
  have HC0 := Aside0.mk hc0
  have HA := Aside0.mk hA
  clear hr0 hc0 hA
  have HB := Aside0.mk (Below.refl w.heap.size w)
  have d1 : (e2 == 0) = false := beq_eq_false_iff_ne.mpr he
  have d2 : (e2 != 0) = true := bne_iff_ne.mpr he
  clear he
  go_enter Try.func13, Try.ntmps13
  go_wp2_with (first | ((with_reducible refine gate_dst (N := 1) rfl ?_); refine box_event rfl (N := 1) rfl (cs := #[.slice A0 l0.length c0]) (t := 22) (by first | (go_simp; done) | (go_simp; rfl)) ?_; intro b hg w1 hbox hb; have HB1 := Aside0.mk (below_step HB.out hb); have hcb : w1.cell? ⟨b, 0, none⟩ = some (.slice A0 l0.length c0) := (blk_cell hbox 0).trans rfl; clear hg hb hbox HB) | (go_at_call 28; (refine (accounts_Check.calls k _ _ l0 e2 _ (Kd.C_below HR0.out HB1.out) HC0.out HA.out).mono ?_); rintro e w2 ⟨rfl, hb⟩; have HB2 := Aside0.mk (below_step HB1.out hb); clear hcb hb HB1))
  go_ret2
  exact ⟨_, rfl, Kd.R_nil _ _ _ _ _, HB2.out⟩
theorem protection_Effective.calls (k : Nat) (A0 : Option Addr) (c0 : Nat) (l0 : List (S41)) (r1 : List Int) (r2 : Int) (w : World) (hr0 : Kd.C k41 w A0 l0.length l0) (hc0 : l0.length ≤ c0) (h : protection_Effective.f k l0 = some (r1, r2)) :
    Calls Try.prog 13 #[.slice A0 l0.length c0] w fun e w' => ∃ v0_ : Value, e = .returned (.tuple #[v0_, .int .i64 r2]) ∧ Kd.R (Kd.int .i64) 3 w' w.heap.size (fun _ => True) v0_ r1 ∧ Below w.heap.size w w' := by
  unfold protection_Effective.f at h
  obtain ⟨e, hA, h⟩ := Option.bind_eq_some_iff.mp h
  by_cases he : e = 0
  · rw [if_pos he] at h
    injection h with h
    injection h with h1 h2
    subst h1 h2 he
    obtain ⟨hn1, hn8, htree, hamt, _⟩ := check_inv k l0 hA
    have hmn : ∀ i : Int, 0 ≤ i → i < (l0.length : Int) → 0 ≤ mn (rd_T41 l0 i).f2 (rd_T41 l0 i).f1 ∧ mn (rd_T41 l0 i).f2 (rd_T41 l0 i).f1 ≤ 1048576 := by
      intro i h0 h1
      obtain ⟨⟨a1, a2⟩, ⟨a3, a4⟩, _⟩ := hamt i h0 h1
      unfold mn
      split <;> omega
    refine effective_ok k A0 c0 l0 w hr0 hc0 hA hn1 hn8 (fun i h0 h1 => (htree i (by omega) h1).2 h0) ?_ (fun i h0 h1 => hmn i (by omega) h1)
    refine eff_bd_set _ _ _ ?_ (hamt 0 (by omega) (by omega)).1.1 (hamt 0 (by omega) (by omega)).1.2
    intro j
    have e0 : rd (List.replicate l0.length 0) j = 0 := by
      unfold rd
      rw [List.getD_eq_getElem?_getD, List.getElem?_replicate]
      split <;> rfl
    rw [e0]
    omega
  · rw [if_neg he] at h
    injection h with h
    injection h with h1 h2
    subst h1 h2
    exact effective_err k A0 c0 l0 e w hr0 hc0 hA he
/-! ### protection_valid: function 30 -/
mutual
def protection_valid.j0 : Nat → List Int → Bool → Option (Bool)
 | 0, _, _ => none
 | k + 1, x1, x16 => if x16 = true then (some false) else (protection_valid.l0 k x1 (x1.length : Int) 0)
def protection_valid.l0 : Nat → List Int → Int → Int → Option (Bool)
 | 0, _, _, _ => none
 | k + 1, x17, x18, x19 => if x19 < x18 then (if 0 ≤ x19 then (if x19 < (x17.length : Int) then (if (rd x17 x19) < 0 then (protection_valid.j2 k x17 x18 x19 true) else (protection_valid.j2 k x17 x18 x19 (decide ((rd x17 x19) > 1048576)))) else (none)) else (none)) else (some true)
def protection_valid.j2 : Nat → List Int → Int → Int → Bool → Option (Bool)
 | 0, _, _, _, _ => none
 | k + 1, x17, x18, x19, x28 => if x28 = true then (some false) else (protection_valid.l0 k x17 x18 (wrap64 (x19 + 1)))
end
def protection_valid.f (k : Nat) (l0 : List (S41)) (l1 : List Int) : Option (Bool) := (accounts_Check.f k l0).bind fun t133 => (if t133 = 0 then (protection_valid.j0 k l1 ((l1.length : Int) != (l0.length : Int))) else (protection_valid.j0 k l1 true))
theorem protection_valid.mono_l : ∀ k, (∀ y0 y1, LeO (protection_valid.j0 k y0 y1) (protection_valid.j0 (k + 1) y0 y1)) ∧ (∀ y0 y1 y2, LeO (protection_valid.l0 k y0 y1 y2) (protection_valid.l0 (k + 1) y0 y1 y2)) ∧ (∀ y0 y1 y2 y3, LeO (protection_valid.j2 k y0 y1 y2 y3) (protection_valid.j2 (k + 1) y0 y1 y2 y3))
 | 0 => ⟨fun _ _ r h => by simp [protection_valid.j0] at h, fun _ _ _ r h => by simp [protection_valid.l0] at h, fun _ _ _ _ r h => by simp [protection_valid.j2] at h⟩
 | k + 1 => by
  obtain ⟨ih0, ih1, ih2⟩ := protection_valid.mono_l k
  refine ⟨?_, ?_, ?_⟩
  ·
   intro y0 y1
   unfold protection_valid.j0
   repeat' first
   | (with_reducible exact ih0 _ _)
   | (with_reducible exact ih1 _ _ _)
   | (with_reducible exact ih2 _ _ _ _)
   | (with_reducible exact accounts_Check.mono _ _)
   | (with_reducible exact LeO.refl _)
   | (with_reducible exact LeO.none _)
   | (with_reducible refine LeO.ite ?_ ?_)
   | (with_reducible refine LeO.bind ?_ (fun _ => ?_))
   | exact ih0 _ _
   | exact ih1 _ _ _
   | exact ih2 _ _ _ _
   | exact accounts_Check.mono _ _
   | exact LeO.none _
   | refine LeO.ite ?_ ?_
   | refine LeO.bind ?_ (fun _ => ?_)
  ·
   intro y0 y1 y2
   unfold protection_valid.l0
   repeat' first
   | (with_reducible exact ih0 _ _)
   | (with_reducible exact ih1 _ _ _)
   | (with_reducible exact ih2 _ _ _ _)
   | (with_reducible exact accounts_Check.mono _ _)
   | (with_reducible exact LeO.refl _)
   | (with_reducible exact LeO.none _)
   | (with_reducible refine LeO.ite ?_ ?_)
   | (with_reducible refine LeO.bind ?_ (fun _ => ?_))
   | exact ih0 _ _
   | exact ih1 _ _ _
   | exact ih2 _ _ _ _
   | exact accounts_Check.mono _ _
   | exact LeO.none _
   | refine LeO.ite ?_ ?_
   | refine LeO.bind ?_ (fun _ => ?_)
  ·
   intro y0 y1 y2 y3
   unfold protection_valid.j2
   repeat' first
   | (with_reducible exact ih0 _ _)
   | (with_reducible exact ih1 _ _ _)
   | (with_reducible exact ih2 _ _ _ _)
   | (with_reducible exact accounts_Check.mono _ _)
   | (with_reducible exact LeO.refl _)
   | (with_reducible exact LeO.none _)
   | (with_reducible refine LeO.ite ?_ ?_)
   | (with_reducible refine LeO.bind ?_ (fun _ => ?_))
   | exact ih0 _ _
   | exact ih1 _ _ _
   | exact ih2 _ _ _ _
   | exact accounts_Check.mono _ _
   | exact LeO.none _
   | refine LeO.ite ?_ ?_
   | refine LeO.bind ?_ (fun _ => ?_)
theorem protection_valid.mono : ∀ a0 a1 k, LeO (protection_valid.f k a0 a1) (protection_valid.f (k + 1) a0 a1) := by
 intro a0 a1 k
 obtain ⟨ih0, ih1, ih2⟩ := protection_valid.mono_l k
 unfold protection_valid.f
 repeat' first
   | (with_reducible exact ih0 _ _)
   | (with_reducible exact ih1 _ _ _)
   | (with_reducible exact ih2 _ _ _ _)
   | (with_reducible exact accounts_Check.mono _ _)
   | (with_reducible exact LeO.refl _)
   | (with_reducible exact LeO.none _)
   | (with_reducible refine LeO.ite ?_ ?_)
   | (with_reducible refine LeO.bind ?_ (fun _ => ?_))
   | exact ih0 _ _
   | exact ih1 _ _ _
   | exact ih2 _ _ _ _
   | exact accounts_Check.mono _ _
   | exact LeO.none _
   | refine LeO.ite ?_ ?_
   | refine LeO.bind ?_ (fun _ => ?_)
set_option maxHeartbeats 8000000 in
set_option maxRecDepth 100000 in
theorem protection_valid.calls (k : Nat) (A0 : Option Addr) (c0 : Nat) (l0 : List (S41)) (A1 : Option Addr) (c1 : Nat) (l1 : List Int) (r : Bool) (w : World) (hr0 : Kd.C k41 w A0 l0.length l0) (hc0 : l0.length ≤ c0) (hr1 : Kd.C (Kd.int .i64) w A1 l1.length l1) (hc1 : l1.length ≤ c1) (h : protection_valid.f k l0 l1 = some r) :
  Calls Try.prog 30 #[.slice A0 l0.length c0, .slice A1 l1.length c1] w fun e w' => e = .returned (.bool r) ∧ Below w.heap.size w w' := by
 have HR0 := Aside0.mk hr0
 have HC0 := Aside0.mk hc0
 clear hr0 hc0
 have HR1 := Aside0.mk hr1
 have HC1 := Aside0.mk hc1
 clear hr1 hc1
 have HB := Aside0.mk (Below.refl w.heap.size w)
 have H : ((accounts_Check.f k l0).bind fun t133 => (if t133 = 0 then (protection_valid.j0 k l1 ((l1.length : Int) != (l0.length : Int))) else (protection_valid.j0 k l1 true))) = some r := h
 clear h
 have HC3 := Aside0.mk H
 clear H
 go_enter Try.func30, Try.ntmps30
 go_upto_region 1 with (fail)
 go_cut [16] (fun v16 wc => ∃ (kq : Nat) (x16_2 : Bool), v16 = .bool x16_2 ∧ Aside0 (protection_valid.j0 kq l1 x16_2 = some r) ∧ Aside0 (kq ≤ k) ∧ Aside0 (Below w.heap.size w wc))
 case first =>
  have H := HC3.out
  clear HC3
  replace H := Option.bind_eq_some_iff.mp H
  obtain ⟨t133, A40, H⟩ := H
  replace H : (if t133 = 0 then (protection_valid.j0 k l1 ((l1.length : Int) != (l0.length : Int))) else (protection_valid.j0 k l1 true)) = some r := H
  have A4 := Aside0.mk A40
  clear A40
  by_cases c5 : t133 = 0
  ·
   rw [if_pos c5] at H
   have c5b0 : (t133 == 0) = true := beq_iff_eq.mpr c5
   have c5b1 : (t133 != 0) = false := bne_eq_false_iff_eq.mpr c5
   clear c5
   (first | rw [c5b0] | (simp only [i64_w, i32_w]; rw [c5b0]) | skip)
   have H' := Aside0.mk H
   clear H
   go_wp2_with (first | ((with_reducible refine gate_callee (f := 28) rfl ?_); refine goesL_ (some 8) rfl rfl Try.func28 (by kernel_rfl) rfl #[.slice A0 l0.length c0] rfl (by (try simp only [List.map_toArray, List.map_cons, List.map_nil]); first | done | rfl | (simp only [List.length_drop, List.length_take]; rfl)) ?_; (with_reducible refine (accounts_Check.calls k _ _ l0 t133 _ ?side1 ?side2 A4.out).mono ?_); (case side1 => repeat (first | exact (Kd.C_below HR0.out HB.out) | (with_reducible refine Kd.C_alloc ?_ _) | (with_reducible refine Kd.C_drewN ?_ _) | (with_reducible refine Kd.C_drew ?_))); (case side2 => exact HC0.out); rintro e w6 ⟨rfl, hb⟩; refine ⟨_, rfl, ?_⟩; have n0_ := Aside0.mk (below_step (by repeat (first | (with_reducible first | exact HB.out | apply below_alloc | apply pw_below_drewN | apply below_drew1) | exact HB.out)) hb); clear HB; have HB := n0_; clear n0_; (try clear hb); (try clear hb2); (try clear hk); (try clear hi)))
   go_meet
   case rel => exact ⟨_, (((l1.length : Int) != (l0.length : Int))), (by first | rfl | (simp; done) | (simp [*]; done)), H', ⟨by first | omega | exact Nat.le_refl _⟩, ⟨by repeat (first | (with_reducible first | exact HB.out | apply below_alloc | apply pw_below_drewN | apply below_drew1) | exact HB.out)⟩⟩
  ·
   rw [if_neg c5] at H
   have c5b0 : (t133 == 0) = false := beq_eq_false_iff_ne.mpr c5
   have c5b1 : (t133 != 0) = true := bne_iff_ne.mpr c5
   (first | rw [c5b0] | (simp only [i64_w, i32_w]; rw [c5b0]) | skip)
   have H' := Aside0.mk H
   clear H
   go_wp2_with (first | ((with_reducible refine gate_callee (f := 28) rfl ?_); refine goesL_ (some 8) rfl rfl Try.func28 (by kernel_rfl) rfl #[.slice A0 l0.length c0] rfl (by (try simp only [List.map_toArray, List.map_cons, List.map_nil]); first | done | rfl | (simp only [List.length_drop, List.length_take]; rfl)) ?_; (with_reducible refine (accounts_Check.calls k _ _ l0 t133 _ ?side1 ?side2 A4.out).mono ?_); (case side1 => repeat (first | exact (Kd.C_below HR0.out HB.out) | (with_reducible refine Kd.C_alloc ?_ _) | (with_reducible refine Kd.C_drewN ?_ _) | (with_reducible refine Kd.C_drew ?_))); (case side2 => exact HC0.out); rintro e w7 ⟨rfl, hb⟩; refine ⟨_, rfl, ?_⟩; have n0_ := Aside0.mk (below_step (by repeat (first | (with_reducible first | exact HB.out | apply below_alloc | apply pw_below_drewN | apply below_drew1) | exact HB.out)) hb); clear HB; have HB := n0_; clear n0_; (try clear hb); (try clear hb2); (try clear hk); (try clear hi)))
   go_meet
   case rel => exact ⟨_, (true), (by first | rfl | (simp; done) | (simp [*]; done)), H', ⟨by first | omega | exact Nat.le_refl _⟩, ⟨by repeat (first | (with_reducible first | exact HB.out | apply below_alloc | apply pw_below_drewN | apply below_drew1) | exact HB.out)⟩⟩
 case rest =>
  clear HC3
  try clear c1
  try clear c2
  try clear p2
  try clear c3
  try clear c5
  try clear c5b0
  try clear c5b1
  obtain ⟨kq, x16_2, rfl, HA, HJ2, HB⟩ := hcut
  cases kq with
  | zero => exact absurd HA.out (by simp [protection_valid.j0])
  | succ kj2 =>
   have H := HA.out
   clear HA
   simp only [protection_valid.j0] at H
   by_cases c8 : x16_2 = true
   ·
    subst c8
    have H1 : (some false) = some r := by rw [if_pos rfl] at H; exact H
    clear H
    have H := H1
    clear H1
    obtain rfl := Option.some.inj H
    go_wp2
    go_ret
    exact ⟨by first | rfl | (simp [errW_none, errW_some] <;> rfl) | (simp [*, errW_none, errW_some] <;> rfl), by repeat (first | (with_reducible first | exact HB.out | apply below_alloc | apply pw_below_drewN | apply below_drew1) | exact HB.out)⟩
   ·
    replace c8 := Bool.eq_false_iff.mpr c8
    subst c8
    have H1 : (protection_valid.l0 kj2 l1 (l1.length : Int) 0) = some r := by rw [if_neg (show ¬ (false = true) by decide)] at H; exact H
    clear H
    have H := H1
    clear H1
    have H' := Aside0.mk H
    clear H
    go_wp2
    go_loopg [19] kj2 (fun kq v19 w' => ∃ (x19_2 : Int), v19 = .int .i64 x19_2 ∧ Aside0 (protection_valid.l0 kq l1 (l1.length : Int) x19_2 = some r) ∧ Aside0 (kq ≤ kj2) ∧ Aside0 (Below w.heap.size w w'))
    case atStart => exact ⟨(0), (by first | rfl | (simp; done) | (simp [*]; done)), H', ⟨Nat.le_refl _⟩, ⟨by repeat (first | (with_reducible first | exact HB.out | apply below_alloc | apply pw_below_drewN | apply below_drew1) | exact HB.out)⟩⟩
    case round =>
     clear H'
     try clear c1
     try clear c2
     try clear p2
     try clear c3
     try clear c5
     try clear c5b0
     try clear c5b1
     try clear c8
     try clear p2
     obtain ⟨x19_2, rfl, HA, HK2, HB⟩ := hrel
     cases gk with
     | zero => exact absurd HA.out (by simp [protection_valid.l0])
     | succ k2 =>
      have H := HA.out
      clear HA
      simp only [protection_valid.l0] at H
      by_cases c9 : x19_2 < (l1.length : Int)
      ·
       rw [if_pos c9] at H
       have c9b0 : decide (x19_2 < (l1.length : Int)) = true := decide_eq_true c9
       clear c9
       by_cases c10 : 0 ≤ x19_2
       ·
        rw [if_pos c10] at H
        have c10b0 : decide (0 ≤ x19_2) = true := decide_eq_true c10
        clear c10
        by_cases c11 : x19_2 < (l1.length : Int)
        ·
         rw [if_pos c11] at H
         have c11b0 : decide (x19_2 < (l1.length : Int)) = true := decide_eq_true c11
         clear c11
         have HC12 := Aside0.mk H
         clear H
         have p134 : 0 ≤ (x19_2 : Int) := of_decide_eq_true (by first | (with_reducible assumption) | assumption)
         have q134 : x19_2 < (l1.length : Int) := of_decide_eq_true (by first | (with_reducible assumption) | assumption)
         obtain ⟨ad134, e134, hx134_0⟩ := Kd.at_int HR1.out x19_2 p134 q134
         cases e134
         replace hx134_0 := (HB.out.cell (World.block_lt_of_cell? w _ hx134_0)).trans hx134_0
         replace p134 := eq_true p134
         replace q134 := eq_true q134
         go_upto_region 6 with (fail)
         go_cut [28] (fun v28 wc => ∃ (kq : Nat) (x28_11 : Bool), v28 = .bool x28_11 ∧ Aside0 (protection_valid.j2 kq l1 (l1.length : Int) x19_2 x28_11 = some r) ∧ Aside0 (kq ≤ k2) ∧ Aside0 (Below w.heap.size w wc))
         case first =>
          have H := HC12.out
          clear HC12
          by_cases c13 : (rd l1 x19_2) < 0
          ·
           rw [if_pos c13] at H
           have c13b0 : decide ((rd l1 x19_2) < 0) = true := decide_eq_true c13
           clear c13
           (first | rw [c13b0] | (simp only [i64_w, i32_w]; rw [c13b0]) | skip)
           have H' := Aside0.mk H
           clear H
           go_wp2
           go_meet
           case rel => exact ⟨_, (true), (by first | rfl | (simp; done) | (simp [*]; done)), H', ⟨by have := HJ2.out; have := HK2.out; first | omega | exact Nat.le_refl _⟩, ⟨by repeat (first | (with_reducible first | exact HB.out | apply below_alloc | apply pw_below_drewN | apply below_drew1) | exact HB.out)⟩⟩
          ·
           rw [if_neg c13] at H
           have c13b0 : decide ((rd l1 x19_2) < 0) = false := decide_eq_false c13
           clear c13
           (first | rw [c13b0] | (simp only [i64_w, i32_w]; rw [c13b0]) | skip)
           have H' := Aside0.mk H
           clear H
           go_wp2
           go_meet
           case rel => exact ⟨_, (decide ((rd l1 x19_2) > 1048576)), (by first | rfl | (simp; done) | (simp [*]; done)), H', ⟨by have := HJ2.out; have := HK2.out; first | omega | exact Nat.le_refl _⟩, ⟨by repeat (first | (with_reducible first | exact HB.out | apply below_alloc | apply pw_below_drewN | apply below_drew1) | exact HB.out)⟩⟩
         case rest =>
          clear HC12
          try clear c1
          try clear p1
          try clear q1
          try clear hx1
          try clear c2
          try clear p2
          try clear c3
          try clear c5
          try clear c5b0
          try clear c5b1
          try clear c8
          try clear c9
          try clear c9b0
          try clear c10
          try clear c10b0
          try clear c11
          try clear c11b0
          try clear c13
          try clear c13b0
          try clear p13
          try clear q13
          try clear hx13
          try clear hx134_0
          try clear p134
          try clear p2
          try clear q134
          obtain ⟨kq, x28_11, rfl, HA, HJ11, HB⟩ := hcut
          cases kq with
          | zero => exact absurd HA.out (by simp [protection_valid.j2])
          | succ kj11 =>
           have H := HA.out
           clear HA
           simp only [protection_valid.j2] at H
           by_cases c14 : x28_11 = true
           ·
            subst c14
            have H1 : (some false) = some r := by rw [if_pos rfl] at H; exact H
            clear H
            have H := H1
            clear H1
            obtain rfl := Option.some.inj H
            go_wp2
            go_ret
            exact ⟨by first | rfl | (simp [errW_none, errW_some] <;> rfl) | (simp [*, errW_none, errW_some] <;> rfl), by repeat (first | (with_reducible first | exact HB.out | apply below_alloc | apply pw_below_drewN | apply below_drew1) | exact HB.out)⟩
           ·
            replace c14 := Bool.eq_false_iff.mpr c14
            subst c14
            have H1 : (protection_valid.l0 kj11 l1 (l1.length : Int) (wrap64 (x19_2 + 1))) = some r := by rw [if_neg (show ¬ (false = true) by decide)] at H; exact H
            clear H
            have H := H1
            clear H1
            have H' := Aside0.mk H
            clear H
            go_wp2
            go_roundg kj11
            case measure => have := HJ2.out; have := HK2.out; have := HJ11.out; omega
            case rel => exact ⟨(wrap64 (x19_2 + 1)), (by first | rfl | (simp; done) | (simp [*]; done)), H', ⟨by have := HJ2.out; have := HK2.out; have := HJ11.out; omega⟩, ⟨by repeat (first | (with_reducible first | exact HB.out | apply below_alloc | apply pw_below_drewN | apply below_drew1) | exact HB.out)⟩⟩
        ·
         rw [if_neg c11] at H
         exact absurd H (by simp)
       ·
        rw [if_neg c10] at H
        exact absurd H (by simp)
      ·
       rw [if_neg c9] at H
       have c9b0 : decide (x19_2 < (l1.length : Int)) = false := decide_eq_false c9
       clear c9
       obtain rfl := Option.some.inj H
       go_wp2
       go_ret
       exact ⟨by first | rfl | (simp [errW_none, errW_some] <;> rfl) | (simp [*, errW_none, errW_some] <;> rfl), by repeat (first | (with_reducible first | exact HB.out | apply below_alloc | apply pw_below_drewN | apply below_drew1) | exact HB.out)⟩
/-! ### protection_inside: function 31 -/
def protection_inside.l0 : Nat → List (S41) → List Int → List Int → Int → Option (List Int)
 | 0, _, _, _, _ => none
 | k + 1, x0, x1, x5, x6 => if x6 ≥ 0 then (if 0 ≤ x6 then (if x6 < (x5.length : Int) then (if x6 < (x1.length : Int) then ((some (x5.set (x6 : Int).toNat (wrap64 ((rd x5 x6) + (rd x1 x6))) : List Int)).bind fun y140 => (if x6 > 0 then (if x6 < (x0.length : Int) then (if 0 ≤ ((rd_T41 x0 x6).f0) then (if ((rd_T41 x0 x6).f0) < (x5.length : Int) then (protection_inside.l0 k x0 x1 (y140.set (((rd_T41 x0 x6).f0) : Int).toNat (wrap64 ((rd y140 ((rd_T41 x0 x6).f0)) + (rd y140 x6)))) (wrap64 (x6 - 1))) else (none)) else (none)) else (none)) else (protection_inside.l0 k x0 x1 y140 (wrap64 (x6 - 1))))) else (none)) else (none)) else (none)) else (some x5)
def protection_inside.f (k : Nat) (l0 : List (S41)) (l1 : List Int) : Option (List Int) := if 0 ≤ (l0.length : Int) then (if ((l0.length : Int) : Int).toNat ≤ 35184372088832 then (protection_inside.l0 k l0 l1 (List.replicate ((l0.length : Int) : Int).toNat 0) (wrap64 ((l0.length : Int) - 1))) else (none)) else (none)
theorem protection_inside.mono_l : ∀ k, (∀ y0 y1 y2 y3, LeO (protection_inside.l0 k y0 y1 y2 y3) (protection_inside.l0 (k + 1) y0 y1 y2 y3))
 | 0 => fun _ _ _ _ r h => by simp [protection_inside.l0] at h
 | k + 1 => by
  have ih0 := protection_inside.mono_l k
  ·
   intro y0 y1 y2 y3
   unfold protection_inside.l0
   repeat' first
   | (with_reducible exact ih0 _ _ _ _)
   | (with_reducible exact LeO.refl _)
   | (with_reducible exact LeO.none _)
   | (with_reducible refine LeO.ite ?_ ?_)
   | (with_reducible refine LeO.bind ?_ (fun _ => ?_))
   | exact ih0 _ _ _ _
   | exact LeO.none _
   | refine LeO.ite ?_ ?_
   | refine LeO.bind ?_ (fun _ => ?_)
theorem protection_inside.mono : ∀ a0 a1 k, LeO (protection_inside.f k a0 a1) (protection_inside.f (k + 1) a0 a1) := by
 intro a0 a1 k
 have ih0 := protection_inside.mono_l k
 unfold protection_inside.f
 repeat' first
   | (with_reducible exact ih0 _ _ _ _)
   | (with_reducible exact LeO.refl _)
   | (with_reducible exact LeO.none _)
   | (with_reducible refine LeO.ite ?_ ?_)
   | (with_reducible refine LeO.bind ?_ (fun _ => ?_))
   | exact ih0 _ _ _ _
   | exact LeO.none _
   | refine LeO.ite ?_ ?_
   | refine LeO.bind ?_ (fun _ => ?_)
def protection_inside.T5 : Bool × List (List Nat × List Nat) := (true, [([], []), ([], []), ([0, 1], [0, 1]), ([2], [2]), ([], []), ([], []), ([4, 5], [4, 5]), ([6], [6]), ([3, 7], [3, 7]), ([0, 1, 0, 1, 2, 3, 4, 5, 6, 7, 8], [0, 1]), ([9, 8, 0, 1, 2, 3, 4, 5, 6, 7, 8], [8, 9])])
def protection_inside.B5 : List Nat := [0, 0, 3, 7, 0, 0, 48, 112, 255, 511, 1023]
theorem protection_inside.tab5 : rtab .any (opsOf Try.f31 5) = protection_inside.T5 := by kernel_rfl
theorem protection_inside.bits5 : waitsOk protection_inside.T5.2 protection_inside.B5 = true := by kernel_rfl
def protection_inside.T7 : Bool × List (List Nat × List Nat) := (true, [([], []), ([], []), ([], []), ([1, 2], [1, 2]), ([3], [3]), ([4], [4]), ([0, 5], [0, 5]), ([6], [6]), ([], []), ([], []), ([8, 9], [8, 9]), ([10], [10]), ([7, 11], [7, 11]), ([0, 5, 0, 1, 2, 3, 4, 5, 6, 7, 8, 9, 10, 11, 12], [0, 5]), ([13, 12, 0, 1, 2, 3, 4, 5, 6, 7, 8, 9, 10, 11, 12], [12, 13])])
def protection_inside.B7 : List Nat := [0, 0, 0, 6, 14, 30, 63, 127, 0, 0, 768, 1792, 4095, 8191, 16383]
theorem protection_inside.tab7 : rtab .any (opsOf Try.f31 7) = protection_inside.T7 := by kernel_rfl
theorem protection_inside.bits7 : waitsOk protection_inside.T7.2 protection_inside.B7 = true := by kernel_rfl
set_option maxHeartbeats 8000000 in
set_option maxRecDepth 100000 in
theorem protection_inside.calls (k : Nat) (A0 : Option Addr) (c0 : Nat) (l0 : List (S41)) (A1 : Option Addr) (c1 : Nat) (l1 : List Int) (r : List Int) (w : World) (hr0 : Kd.C k41 w A0 l0.length l0) (hc0 : l0.length ≤ c0) (hr1 : Kd.C (Kd.int .i64) w A1 l1.length l1) (hc1 : l1.length ≤ c1) (h : protection_inside.f k l0 l1 = some r) :
  Calls Try.prog 31 #[.slice A0 l0.length c0, .slice A1 l1.length c1] w fun e w' => ∃ v0_ : Value, e = .returned (v0_) ∧ Kd.R (Kd.int .i64) 3 w' w.heap.size (fun _ => True) v0_ r ∧ Below w.heap.size w w' := by
 have HR0 := Aside0.mk hr0
 have HC0 := Aside0.mk hc0
 clear hr0 hc0
 have HR1 := Aside0.mk hr1
 have HC1 := Aside0.mk hc1
 clear hr1 hc1
 have HB := Aside0.mk (Below.refl w.heap.size w)
 have H : (if 0 ≤ (l0.length : Int) then (if ((l0.length : Int) : Int).toNat ≤ 35184372088832 then (protection_inside.l0 k l0 l1 (List.replicate ((l0.length : Int) : Int).toNat 0) (wrap64 ((l0.length : Int) - 1))) else (none)) else (none)) = some r := h
 clear h
 by_cases c3 : 0 ≤ (l0.length : Int)
 ·
  rw [if_pos c3] at H
  have c3b0 := eq_true c3
  have c3b1 : decide (0 ≤ (l0.length : Int)) = true := decide_eq_true c3
  clear c3
  by_cases c4 : ((l0.length : Int) : Int).toNat ≤ 35184372088832
  ·
   rw [if_pos c4] at H
   have c4b0 := eq_true c4
   have c4b1 : decide (((l0.length : Int) : Int).toNat ≤ 35184372088832) = true := decide_eq_true c4
   clear c4
   obtain ⟨y135, hy135⟩ : ∃ y_ : List Int, y_ = (List.replicate ((l0.length : Int) : Int).toNat 0) := ⟨_, rfl⟩
   replace H : (protection_inside.l0 k l0 l1 y135 (wrap64 ((l0.length : Int) - 1))) = some r := by first | (rw [hy135]; with_reducible exact H) | (have H2_ := (Option.bind_some _ _).symm.trans H; rw [hy135]; with_reducible exact H2_) | (have H2_ := (Option.bind_some _ _).symm.trans H; with_reducible exact H2_) | with_reducible exact H | (rw [hy135]; exact H) | exact H
   have Ny135 := Aside0.mk hy135
   clear hy135
   have H' := Aside0.mk H
   clear H
   go_enter Try.func31, Try.ntmps31
   go_wp2_with (first | ((with_reducible refine gate_dst (N := 9) rfl ?_); refine Kd.R_make (Kd.int .i64) _ 3 rfl (N := 9) rfl 25 _ _ rfl (l0.length : Int) rfl rfl Try.underlying25 (.int .i64 0) 8 info3 rfl (by decide) (by omega) 0 (ok := fun _ => True) (okp := fun _ => True) rfl (fun _ hk => hk) trivial (of_decide_eq_true (by first | (with_reducible assumption) | assumption)) (Nat.le_trans (Nat.mul_le_mul_right _ (of_decide_eq_true (by first | (with_reducible assumption) | assumption) : (l0.length : Int).toNat ≤ 35184372088832)) (by omega)) (Below.refl _ _) (Nat.le_refl _) ?_; intro v136 w5 ho6 hb hg_ hnew_; clear hg_ hnew_; (first | rw [← Ny135.out] at ho6 | (simp only [Int.reduceToNat] at ho6; rw [← Ny135.out] at ho6)); have n0_ := Aside0.mk (Kd.R_lower ho6 (below_size (by repeat (first | (with_reducible first | exact HB.out | apply below_alloc | apply pw_below_drewN | apply below_drew1) | exact HB.out)))); have n1_ := Aside0.mk (below_step (by repeat (first | (with_reducible first | exact HB.out | apply below_alloc | apply pw_below_drewN | apply below_drew1) | exact HB.out)) hb); clear HB; have HO137 := n0_; have HB := n1_; clear n0_ n1_; clear hb ho6))
   go_loopg [6] k (fun kq v6 w' => ∃ (x5_1 : List Int) (x6_1 : Int), v6 = .int .i64 x6_1 ∧ Aside0 (protection_inside.l0 kq l0 l1 x5_1 x6_1 = some r) ∧ Aside0 (kq ≤ k) ∧ Aside0 (Kd.R (Kd.int .i64) 3 w' w.heap.size (fun _ => True) v136 x5_1) ∧ Aside0 (Below w.heap.size w w'))
   case atStart => exact ⟨(y135), (wrap64 ((l0.length : Int) - 1)), (by first | rfl | (simp; done) | (simp [*]; done)), H', ⟨Nat.le_refl _⟩, ⟨by (with_reducible repeat (first | apply Kd.R_alloc | apply Kd.R_drewN | apply Kd.R_drew)); exact HO137.out⟩, ⟨by repeat (first | (with_reducible first | exact HB.out | apply below_alloc | apply pw_below_drewN | apply below_drew1) | exact HB.out)⟩⟩
   case round =>
    clear H'
    try clear c1
    try clear p2
    try clear c3
    try clear c3b0
    try clear c3b1
    try clear c4
    try clear c4b0
    try clear c4b1
    try clear p6
    obtain ⟨x5_1, x6_1, rfl, HA, HK1, HO_5, HB⟩ := hrel
    cases gk with
    | zero => exact absurd HA.out (by simp [protection_inside.l0])
    | succ k1 =>
     have H := HA.out
     clear HA
     simp only [protection_inside.l0] at H
     by_cases c7 : x6_1 ≥ 0
     ·
      rw [if_pos c7] at H
      have c7b0 : decide (0 ≤ x6_1) = true := decide_eq_true c7
      clear c7
      by_cases c8 : 0 ≤ x6_1
      ·
       rw [if_pos c8] at H
       have c8b0 : decide (0 ≤ x6_1) = true := decide_eq_true c8
       clear c8
       by_cases c9 : x6_1 < (x5_1.length : Int)
       ·
        rw [if_pos c9] at H
        have c9b0 : decide (x6_1 < (x5_1.length : Int)) = true := decide_eq_true c9
        clear c9
        by_cases c10 : x6_1 < (l1.length : Int)
        ·
         rw [if_pos c10] at H
         have c10b0 : decide (x6_1 < (l1.length : Int)) = true := decide_eq_true c10
         clear c10
         obtain ⟨y140, hy140⟩ : ∃ y_ : List Int, y_ = (x5_1.set (x6_1 : Int).toNat (wrap64 ((rd x5_1 x6_1) + (rd l1 x6_1)))) := ⟨_, rfl⟩
         replace H : (if x6_1 > 0 then (if x6_1 < (l0.length : Int) then (if 0 ≤ ((rd_T41 l0 x6_1).f0) then (if ((rd_T41 l0 x6_1).f0) < (x5_1.length : Int) then (protection_inside.l0 k1 l0 l1 (y140.set (((rd_T41 l0 x6_1).f0) : Int).toNat (wrap64 ((rd y140 ((rd_T41 l0 x6_1).f0)) + (rd y140 x6_1)))) (wrap64 (x6_1 - 1))) else (none)) else (none)) else (none)) else (protection_inside.l0 k1 l0 l1 y140 (wrap64 (x6_1 - 1)))) = some r := by first | (rw [hy140]; with_reducible exact H) | (have H2_ := (Option.bind_some _ _).symm.trans H; rw [hy140]; with_reducible exact H2_) | (have H2_ := (Option.bind_some _ _).symm.trans H; with_reducible exact H2_) | with_reducible exact H | (rw [hy140]; exact H) | exact H
         have Ny140 := Aside0.mk hy140
         clear hy140
         by_cases c12 : x6_1 > 0
         ·
          rw [if_pos c12] at H
          have c12b0 : decide (0 < x6_1) = true := decide_eq_true c12
          clear c12
          by_cases c13 : x6_1 < (l0.length : Int)
          ·
           rw [if_pos c13] at H
           have c13b0 : decide (x6_1 < (l0.length : Int)) = true := decide_eq_true c13
           clear c13
           by_cases c14 : 0 ≤ ((rd_T41 l0 x6_1).f0)
           ·
            rw [if_pos c14] at H
            have c14b0 : decide (0 ≤ ((rd_T41 l0 x6_1).f0)) = true := decide_eq_true c14
            clear c14
            by_cases c15 : ((rd_T41 l0 x6_1).f0) < (x5_1.length : Int)
            ·
             rw [if_pos c15] at H
             have c15b0 : decide (((rd_T41 l0 x6_1).f0) < (x5_1.length : Int)) = true := decide_eq_true c15
             clear c15
             obtain ⟨y144, hy144⟩ : ∃ y_ : List Int, y_ = (y140.set (((rd_T41 l0 x6_1).f0) : Int).toNat (wrap64 ((rd y140 ((rd_T41 l0 x6_1).f0)) + (rd y140 x6_1)))) := ⟨_, rfl⟩
             replace H : (protection_inside.l0 k1 l0 l1 y144 (wrap64 (x6_1 - 1))) = some r := by first | (rw [hy144]; with_reducible exact H) | (have H2_ := (Option.bind_some _ _).symm.trans H; rw [hy144]; with_reducible exact H2_) | (have H2_ := (Option.bind_some _ _).symm.trans H; with_reducible exact H2_) | with_reducible exact H | (rw [hy144]; exact H) | exact H
             have Ny144 := Aside0.mk hy144
             clear hy144
             have H' := Aside0.mk H
             clear H
             try go_wp2
             have n0_ := Aside0.mk (Kd.R_drew HO_5.out)
             have n1_ := Aside0.mk (below_drew1 HB.out)
             clear HO_5
             clear HB
             have HO_5 := n0_
             have HB := n1_
             clear n0_ n1_
             obtain ⟨Ao18, co18, eo18⟩ := Kd.R_slice HO_5.out
             (first | subst eo18 | (injection eo18 with f1_ f2_ f3_; have f4_ := f1_.symm; have f5_ := f3_.symm; clear f1_ f2_ f3_; subst f4_; subst f5_))
             have p138 : 0 ≤ (x6_1 : Int) := of_decide_eq_true (by first | (with_reducible assumption) | assumption)
             have q138 : x6_1 < (x5_1.length : Int) := of_decide_eq_true (by first | (with_reducible assumption) | assumption)
             obtain ⟨ad138, e138, hx138_0⟩ := Kd.at_int (Kd.R_reads' HO_5.out).2.2 x6_1 p138 q138
             cases e138
             replace p138 := eq_true p138
             replace q138 := eq_true q138
             have p139 : 0 ≤ (x6_1 : Int) := of_decide_eq_true (by first | (with_reducible assumption) | assumption)
             have q139 : x6_1 < (l1.length : Int) := of_decide_eq_true (by first | (with_reducible assumption) | assumption)
             obtain ⟨ad139, e139, hx139_0⟩ := Kd.at_int HR1.out x6_1 p139 q139
             have hw139_0 := hx139_0
             cases e139
             replace hx139_0 := (HB.out.cell (World.block_lt_of_cell? w _ hx139_0)).trans hx139_0
             replace p139 := eq_true p139
             replace q139 := eq_true q139
             have p11 : 0 ≤ (x6_1 : Int) := of_decide_eq_true (by first | (with_reducible assumption) | assumption)
             have q11 : (x6_1 : Int) < ((x5_1.length : Int) : Int) := of_decide_eq_true (by first | (with_reducible assumption) | assumption)
             obtain ⟨go11, co11, eo11, gb11, gl11, cl11, HG11⟩ := Kd.R_form HO_5.out (by omega)
             (first | cases eo11 | (injection eo11 with ea_ en_ ec_; (first | subst ea_ | (injection ea_ with ea_; subst ea_)); subst ec_; clear en_))
             have GB11 := Aside0.mk gb11
             have GG11 := Aside0.mk HG11
             clear gb11 gl11 HG11
             (first | simp only [add_plain] at hx138_0 | skip)
             obtain ⟨hx11_0, hf11_0⟩ := Kd.R_celln 0 HO_5.out (x6_1 : Int) p11 q11
             replace p11 := eq_true p11
             replace q11 := eq_true q11
             have HP19 := Kd.R_putn HO_5.out (x6_1 : Int) (wrap64 ((rd x5_1 x6_1) + (rd l1 x6_1)))
             rw [← Ny140.out] at HP19
             have HQ19 := Aside0.mk HP19
             clear HP19
             refine start_ (n := 11) (S := fun w' => w'.cell? ⟨go11, (x6_1).toNat, none⟩ = some (.int .i64 (rd x5_1 x6_1)) ∧ w'.cell? (ad139.add (x6_1).toNat) = some (.int .i64 (rd l1 x6_1))) (ds := [10]) #[false, false, false, false, false, false, false, false, false, false, false] (by kernel_rfl) rfl rfl ⟨hx138_0, ((HB.out.cell (World.block_lt_of_cell? w _ hw139_0)).trans hw139_0)⟩ (fun hHeld => ?_); refine with_tabW protection_inside.tab5 protection_inside.bits5 (fun HT_ HW_ => ?_)
             generalize wr.drew = w17 at HO_5 HB GG11 HQ19 hf11_0 hx11_0 hx138_0 hx139_0 hHeld ⊢
             refine pure_ (i := 0) (N := some 17) (v := ?_) (a' := ?_) #[true, false, false, false, false, false, false, false, false, false, false] rfl rfl (any_of HT_.out (by kernel_rfl)) (fun _ _ _ h => h) (Or.inl ⟨by rfl, ?_⟩) ?_ ?_
             rotate_left
             ·
              intro w'
              go_simp
              with_reducible rfl
             rotate_left
             ·
              simp only [Act.put, List.setIfInBounds_toArray, List.set_cons_zero, List.set_cons_succ, i64_w, i32_w]
              rfl
             refine pure_ (i := 1) (N := some 18) (v := ?_) (a' := ?_) #[true, true, false, false, false, false, false, false, false, false, false] rfl rfl (any_of HT_.out (by kernel_rfl)) (fun _ _ _ h => h) (Or.inl ⟨by rfl, ?_⟩) ?_ ?_
             rotate_left
             ·
              intro w'
              go_simp
              with_reducible rfl
             rotate_left
             ·
              simp only [Act.put, List.setIfInBounds_toArray, List.set_cons_zero, List.set_cons_succ, i64_w, i32_w]
              rfl
             refine pure_ (i := 2) (N := some 19) (v := ?_) (a' := ?_) #[true, true, true, false, false, false, false, false, false, false, false] rfl rfl (any_of HT_.out (by kernel_rfl)) (fun _ _ _ h => h) (Or.inl ⟨by rfl, ?_⟩) ?_ ?_
             rotate_left
             ·
              intro w'
              go_simp
              with_reducible rfl
             rotate_left
             ·
              simp only [Act.put, List.setIfInBounds_toArray, List.set_cons_zero, List.set_cons_succ, i64_w, i32_w]
              rfl
             refine pure_ (i := 4) (N := some 21) (v := ?_) (a' := ?_) #[true, true, true, false, true, false, false, false, false, false, false] rfl rfl (any_of HT_.out (by kernel_rfl)) (fun _ _ _ h => h) (Or.inl ⟨by rfl, ?_⟩) ?_ ?_
             rotate_left
             ·
              intro w'
              go_simp
              with_reducible rfl
             rotate_left
             ·
              simp only [Act.put, List.setIfInBounds_toArray, List.set_cons_zero, List.set_cons_succ, i64_w, i32_w]
              rfl
             refine pure_ (i := 5) (N := some 22) (v := ?_) (a' := ?_) #[true, true, true, false, true, true, false, false, false, false, false] rfl rfl (any_of HT_.out (by kernel_rfl)) (fun _ _ _ h => h) (Or.inl ⟨by rfl, ?_⟩) ?_ ?_
             rotate_left
             ·
              intro w'
              go_simp
              with_reducible rfl
             rotate_left
             ·
              simp only [Act.put, List.setIfInBounds_toArray, List.set_cons_zero, List.set_cons_succ, i64_w, i32_w]
              rfl
             refine pure_ (i := 6) (N := some 23) (v := ?_) (a' := ?_) #[true, true, true, false, true, true, true, false, false, false, false] rfl rfl (any_of HT_.out (by kernel_rfl)) (fun _ _ _ h => h) (Or.inl ⟨by rfl, ?_⟩) ?_ ?_
             rotate_left
             ·
              intro w'
              go_simp
              with_reducible rfl
             rotate_left
             ·
              simp only [Act.put, List.setIfInBounds_toArray, List.set_cons_zero, List.set_cons_succ, i64_w, i32_w]
              rfl
             refine take_ (i := 3) (N := some 20) (v := ?_) (a' := ?_) #[true, true, true, true, true, true, true, false, false, false, false] rfl rfl (take_ofW HT_.out HW_.out (by kernel_rfl)) (fun _ _ _ h => h) (Or.inl ⟨by rfl, ?_⟩) hHeld ?_ ?_
             rotate_left
             ·
              rintro w' ⟨s0, s1⟩
              go_simp
              with_reducible rfl
             rotate_left
             ·
              simp only [Act.put, List.setIfInBounds_toArray, List.set_cons_zero, List.set_cons_succ, i64_w, i32_w]
              rfl
             refine take_ (i := 7) (N := some 24) (v := ?_) (a' := ?_) #[true, true, true, true, true, true, true, true, false, false, false] rfl rfl (take_ofW HT_.out HW_.out (by kernel_rfl)) (fun _ _ _ h => h) (Or.inl ⟨by rfl, ?_⟩) hHeld ?_ ?_
             rotate_left
             ·
              rintro w' ⟨s0, s1⟩
              go_simp
              with_reducible rfl
             rotate_left
             ·
              simp only [Act.put, List.setIfInBounds_toArray, List.set_cons_zero, List.set_cons_succ, i64_w, i32_w]
              rfl
             refine pure_ (i := 8) (N := some 25) (v := ?_) (a' := ?_) #[true, true, true, true, true, true, true, true, true, false, false] rfl rfl (any_of HT_.out (by kernel_rfl)) (fun _ _ _ h => h) (Or.inl ⟨by rfl, ?_⟩) ?_ ?_
             rotate_left
             ·
              intro w'
              go_simp
              with_reducible rfl
             rotate_left
             ·
              simp only [Act.put, List.setIfInBounds_toArray, List.set_cons_zero, List.set_cons_succ, i64_w, i32_w]
              rfl
             refine pure_ (i := 9) (N := some 26) (v := ?_) (a' := ?_) #[true, true, true, true, true, true, true, true, true, true, false] rfl rfl (any_of HT_.out (by kernel_rfl)) (fun _ _ _ h => h) (Or.inl ⟨by rfl, ?_⟩) ?_ ?_
             rotate_left
             ·
              intro w'
              go_simp
              with_reducible rfl
             rotate_left
             ·
              simp only [Act.put, List.setIfInBounds_toArray, List.set_cons_zero, List.set_cons_succ, i64_w, i32_w]
              rfl
             refine last_ (i := 10) (N := none) #[true, true, true, true, true, true, true, true, true, true, true] rfl rfl (one_of HT_.out (by kernel_rfl)) (by decide) (fun K hK => ?_)
             refine skip_ (w1 := ?_) (by rfl) rfl ?_ ?_
             rotate_left
             ·
              go_simp
              rfl
             refine hK.out _ _ ?_
             clear hK K
             refine done_ (done_of HT_.out (by kernel_rfl)) ?_
             try go_wp2
             have n0_ : Aside0 (Kd.R (Kd.int .i64) 3 (w17.setCell ⟨go11, (x6_1 : Int).toNat, none⟩ (.int .i64 (wrap64 ((rd x5_1 x6_1) + (rd l1 x6_1))))) w.heap.size (fun _ => True) (.slice (some ⟨go11, 0, none⟩) x5_1.length co18) y140) := ⟨by (with_reducible repeat (first | apply Kd.R_alloc | apply Kd.R_drewN | apply Kd.R_drew)); exact HQ19.out⟩
             have n1_ : Aside0 (Below w.heap.size w (w17.setCell ⟨go11, (x6_1 : Int).toNat, none⟩ (.int .i64 (wrap64 ((rd x5_1 x6_1) + (rd l1 x6_1)))))) := ⟨by repeat (first | (with_reducible first | exact HB.out | apply below_alloc | apply pw_below_drewN | apply below_drew1 | refine below_set ?_ GB11.out) | exact HB.out)⟩
             (try clear HO_5)
             (try clear HB)
             generalize (w17.setCell ⟨go11, (x6_1 : Int).toNat, none⟩ (.int .i64 (wrap64 ((rd x5_1 x6_1) + (rd l1 x6_1))))) = w20 at n0_ n1_ ⊢
             have HO_5 := n0_
             have HB := n1_
             clear n0_ n1_
             have n0_ := Aside0.mk (Kd.R_drew HO_5.out)
             have n1_ := Aside0.mk (below_drew1 HB.out)
             clear HO_5
             clear HB
             have HO_5 := n0_
             have HB := n1_
             clear n0_ n1_
             have p141 : 0 ≤ (x6_1 : Int) := of_decide_eq_true (by first | (with_reducible assumption) | assumption)
             have q141 : x6_1 < (l0.length : Int) := of_decide_eq_true (by first | (with_reducible assumption) | assumption)
             obtain ⟨ad141, e141, hx141_0, hx141_1, hx141_2, hx141_3, hx141_4⟩ := at_T41 HR0.out x6_1 p141 q141
             have hw141_4 := hx141_4
             have hw141_3 := hx141_3
             have hw141_2 := hx141_2
             have hw141_1 := hx141_1
             have hw141_0 := hx141_0
             cases e141
             replace hx141_0 := (HB.out.cell (World.block_lt_of_cell? w _ hx141_0)).trans hx141_0
             replace hx141_1 := (HB.out.cell (World.block_lt_of_cell? w _ hx141_1)).trans hx141_1
             replace hx141_2 := (HB.out.cell (World.block_lt_of_cell? w _ hx141_2)).trans hx141_2
             replace hx141_3 := (HB.out.cell (World.block_lt_of_cell? w _ hx141_3)).trans hx141_3
             replace hx141_4 := (HB.out.cell (World.block_lt_of_cell? w _ hx141_4)).trans hx141_4
             replace p141 := eq_true p141
             replace q141 := eq_true q141
             have p142 : 0 ≤ (((rd_T41 l0 x6_1).f0) : Int) := of_decide_eq_true (by first | (with_reducible assumption) | assumption)
             have q142 : ((rd_T41 l0 x6_1).f0) < (y140.length : Int) := (by have h_ : (((rd_T41 l0 x6_1).f0) : Int) < ((x5_1.length : Int) : Int) := of_decide_eq_true (by first | (with_reducible assumption) | assumption); first | (have e_ := (Kd.R_reads' HO_5.out).1; omega) | simpa only [Ny140.out, List.length_set] using h_)
             have ql142 : ((((rd_T41 l0 x6_1).f0) : Int) < ((x5_1.length : Int) : Int)) = True := eq_true (of_decide_eq_true (by first | (with_reducible assumption) | assumption))
             obtain ⟨ad142, e142, hx142_0⟩ := Kd.at_int (Kd.R_reads' HO_5.out).2.2 ((rd_T41 l0 x6_1).f0) p142 q142
             obtain rfl : (⟨go11, 0, none⟩ : Addr) = ad142 := (by injection e142)
             (first | simp only [add_plain] at hx142_0 | simp only [add_at] at hx142_0 | simp only [Addr.add, Nat.zero_add] at hx142_0 | skip)
             replace p142 := eq_true p142
             replace q142 := eq_true q142
             have p143 : 0 ≤ (x6_1 : Int) := of_decide_eq_true (by first | (with_reducible assumption) | assumption)
             have q143 : x6_1 < (y140.length : Int) := (by have h_ : (x6_1 : Int) < ((x5_1.length : Int) : Int) := of_decide_eq_true (by first | (with_reducible assumption) | assumption); first | (have e_ := (Kd.R_reads' HO_5.out).1; omega) | simpa only [Ny140.out, List.length_set] using h_)
             have ql143 : ((x6_1 : Int) < ((x5_1.length : Int) : Int)) = True := eq_true (of_decide_eq_true (by first | (with_reducible assumption) | assumption))
             obtain ⟨ad143, e143, hx143_0⟩ := Kd.at_int (Kd.R_reads' HO_5.out).2.2 x6_1 p143 q143
             obtain rfl : (⟨go11, 0, none⟩ : Addr) = ad143 := (by injection e143)
             (first | simp only [add_plain] at hx143_0 | simp only [add_at] at hx143_0 | simp only [Addr.add, Nat.zero_add] at hx143_0 | skip)
             replace p143 := eq_true p143
             replace q143 := eq_true q143
             have p16 : 0 ≤ (((rd_T41 l0 x6_1).f0) : Int) := of_decide_eq_true (by first | (with_reducible assumption) | assumption)
             have q16 : (((rd_T41 l0 x6_1).f0) : Int) < ((x5_1.length : Int) : Int) := of_decide_eq_true (by first | (with_reducible assumption) | assumption)
             obtain ⟨hx16_0, hf16_0⟩ := Kd.R_celln 0 HO_5.out (((rd_T41 l0 x6_1).f0) : Int) p16 q16
             replace p16 := eq_true p16
             replace q16 := eq_true q16
             have HP22 := Kd.R_putn HO_5.out (((rd_T41 l0 x6_1).f0) : Int) (wrap64 ((rd y140 ((rd_T41 l0 x6_1).f0)) + (rd y140 x6_1)))
             rw [← Ny144.out] at HP22
             have HQ22 := Aside0.mk HP22
             clear HP22
             refine start_ (n := 15) (S := fun w' => w'.cell? (ad141.add ((x6_1).toNat * 5)) = some (.int .i64 ((rd_T41 l0 x6_1).f0)) ∧ w'.cell? ⟨(ad141.add ((x6_1).toNat * 5)).block, (ad141.add ((x6_1).toNat * 5)).off + 1, none⟩ = some (.int .i64 ((rd_T41 l0 x6_1).f1)) ∧ w'.cell? ⟨(ad141.add ((x6_1).toNat * 5)).block, (ad141.add ((x6_1).toNat * 5)).off + 2, none⟩ = some (.int .i64 ((rd_T41 l0 x6_1).f2)) ∧ w'.cell? ⟨(ad141.add ((x6_1).toNat * 5)).block, (ad141.add ((x6_1).toNat * 5)).off + 3, none⟩ = some (.int .i64 ((rd_T41 l0 x6_1).f3)) ∧ w'.cell? ⟨(ad141.add ((x6_1).toNat * 5)).block, (ad141.add ((x6_1).toNat * 5)).off + 4, none⟩ = some (.int .i64 ((rd_T41 l0 x6_1).f4)) ∧ w'.cell? ⟨go11, (((rd_T41 l0 x6_1).f0)).toNat, none⟩ = some (.int .i64 (rd y140 ((rd_T41 l0 x6_1).f0))) ∧ w'.cell? ⟨go11, (x6_1).toNat, none⟩ = some (.int .i64 (rd y140 x6_1))) (ds := [14]) #[false, false, false, false, false, false, false, false, false, false, false, false, false, false, false] (by kernel_rfl) rfl rfl ⟨((HB.out.cell (World.block_lt_of_cell? w _ hw141_0)).trans hw141_0), ((HB.out.cell (World.block_lt_of_cell? w _ hw141_1)).trans hw141_1), ((HB.out.cell (World.block_lt_of_cell? w _ hw141_2)).trans hw141_2), ((HB.out.cell (World.block_lt_of_cell? w _ hw141_3)).trans hw141_3), ((HB.out.cell (World.block_lt_of_cell? w _ hw141_4)).trans hw141_4), hx142_0, hx143_0⟩ (fun hHeld => ?_); refine with_tabW protection_inside.tab7 protection_inside.bits7 (fun HT_ HW_ => ?_)
             generalize w20.drew = w21 at HO_5 HB HQ19 HQ22 hf16_0 hx141_0 hx141_1 hx141_2 hx141_3 hx141_4 hx142_0 hx143_0 hx16_0 hHeld ⊢
             refine pure_ (i := 0) (N := some 29) (v := ?_) (a' := ?_) #[true, false, false, false, false, false, false, false, false, false, false, false, false, false, false] rfl rfl (any_of HT_.out (by kernel_rfl)) (fun _ _ _ h => h) (Or.inl ⟨by rfl, ?_⟩) ?_ ?_
             rotate_left
             ·
              intro w'
              go_simp
              with_reducible rfl
             rotate_left
             ·
              simp only [Act.put, List.setIfInBounds_toArray, List.set_cons_zero, List.set_cons_succ, i64_w, i32_w]
              rfl
             refine pure_ (i := 1) (N := some 30) (v := ?_) (a' := ?_) #[true, true, false, false, false, false, false, false, false, false, false, false, false, false, false] rfl rfl (any_of HT_.out (by kernel_rfl)) (fun _ _ _ h => h) (Or.inl ⟨by rfl, ?_⟩) ?_ ?_
             rotate_left
             ·
              intro w'
              go_simp
              with_reducible rfl
             rotate_left
             ·
              simp only [Act.put, List.setIfInBounds_toArray, List.set_cons_zero, List.set_cons_succ, i64_w, i32_w]
              rfl
             refine pure_ (i := 2) (N := some 31) (v := ?_) (a' := ?_) #[true, true, true, false, false, false, false, false, false, false, false, false, false, false, false] rfl rfl (any_of HT_.out (by kernel_rfl)) (fun _ _ _ h => h) (Or.inl ⟨by rfl, ?_⟩) ?_ ?_
             rotate_left
             ·
              intro w'
              go_simp
              with_reducible rfl
             rotate_left
             ·
              simp only [Act.put, List.setIfInBounds_toArray, List.set_cons_zero, List.set_cons_succ, i64_w, i32_w]
              rfl
             refine pure_ (i := 3) (N := some 32) (v := ?_) (a' := ?_) #[true, true, true, true, false, false, false, false, false, false, false, false, false, false, false] rfl rfl (any_of HT_.out (by kernel_rfl)) (fun _ _ _ h => h) (Or.inl ⟨by rfl, ?_⟩) ?_ ?_
             rotate_left
             ·
              intro w'
              go_simp
              with_reducible rfl
             rotate_left
             ·
              simp only [Act.put, List.setIfInBounds_toArray, List.set_cons_zero, List.set_cons_succ, i64_w, i32_w]
              rfl
             refine pure_ (i := 4) (N := some 33) (v := ?_) (a' := ?_) #[true, true, true, true, true, false, false, false, false, false, false, false, false, false, false] rfl rfl (any_of HT_.out (by kernel_rfl)) (fun _ _ _ h => h) (Or.inl ⟨by rfl, ?_⟩) ?_ ?_
             rotate_left
             ·
              intro w'
              go_simp
              with_reducible rfl
             rotate_left
             ·
              simp only [Act.put, List.setIfInBounds_toArray, List.set_cons_zero, List.set_cons_succ, i64_w, i32_w]
              rfl
             refine pure_ (i := 8) (N := some 37) (v := ?_) (a' := ?_) #[true, true, true, true, true, false, false, false, true, false, false, false, false, false, false] rfl rfl (any_of HT_.out (by kernel_rfl)) (fun _ _ _ h => h) (Or.inl ⟨by rfl, ?_⟩) ?_ ?_
             rotate_left
             ·
              intro w'
              go_simp
              with_reducible rfl
             rotate_left
             ·
              simp only [Act.put, List.setIfInBounds_toArray, List.set_cons_zero, List.set_cons_succ, i64_w, i32_w]
              rfl
             refine pure_ (i := 9) (N := some 38) (v := ?_) (a' := ?_) #[true, true, true, true, true, false, false, false, true, true, false, false, false, false, false] rfl rfl (any_of HT_.out (by kernel_rfl)) (fun _ _ _ h => h) (Or.inl ⟨by rfl, ?_⟩) ?_ ?_
             rotate_left
             ·
              intro w'
              go_simp
              with_reducible rfl
             rotate_left
             ·
              simp only [Act.put, List.setIfInBounds_toArray, List.set_cons_zero, List.set_cons_succ, i64_w, i32_w]
              rfl
             refine pure_ (i := 10) (N := some 39) (v := ?_) (a' := ?_) #[true, true, true, true, true, false, false, false, true, true, true, false, false, false, false] rfl rfl (any_of HT_.out (by kernel_rfl)) (fun _ _ _ h => h) (Or.inl ⟨by rfl, ?_⟩) ?_ ?_
             rotate_left
             ·
              intro w'
              go_simp
              with_reducible rfl
             rotate_left
             ·
              simp only [Act.put, List.setIfInBounds_toArray, List.set_cons_zero, List.set_cons_succ, i64_w, i32_w]
              rfl
             refine take_ (i := 5) (N := some 34) (v := ?_) (a' := ?_) #[true, true, true, true, true, true, false, false, true, true, true, false, false, false, false] rfl rfl (take_ofW HT_.out HW_.out (by kernel_rfl)) (fun _ _ _ h => h) (Or.inl ⟨by rfl, ?_⟩) hHeld ?_ ?_
             rotate_left
             ·
              rintro w' ⟨s0, s1, s2, s3, s4, s5, s6⟩
              go_simp
              with_reducible rfl
             rotate_left
             ·
              simp only [Act.put, List.setIfInBounds_toArray, List.set_cons_zero, List.set_cons_succ, i64_w, i32_w]
              rfl
             refine pure_ (i := 6) (N := some 35) (v := ?_) (a' := ?_) #[true, true, true, true, true, true, true, false, true, true, true, false, false, false, false] rfl rfl (any_of HT_.out (by kernel_rfl)) (fun _ _ _ h => h) (Or.inl ⟨by rfl, ?_⟩) ?_ ?_
             rotate_left
             ·
              intro w'
              go_simp
              with_reducible rfl
             rotate_left
             ·
              simp only [Act.put, List.setIfInBounds_toArray, List.set_cons_zero, List.set_cons_succ, i64_w, i32_w]
              rfl
             refine take_ (i := 7) (N := some 36) (v := ?_) (a' := ?_) #[true, true, true, true, true, true, true, true, true, true, true, false, false, false, false] rfl rfl (take_ofW HT_.out HW_.out (by kernel_rfl)) (fun _ _ _ h => h) (Or.inl ⟨by rfl, ?_⟩) hHeld ?_ ?_
             rotate_left
             ·
              rintro w' ⟨s0, s1, s2, s3, s4, s5, s6⟩
              go_simp
              with_reducible rfl
             rotate_left
             ·
              simp only [Act.put, List.setIfInBounds_toArray, List.set_cons_zero, List.set_cons_succ, i64_w, i32_w]
              rfl
             refine take_ (i := 11) (N := some 40) (v := ?_) (a' := ?_) #[true, true, true, true, true, true, true, true, true, true, true, true, false, false, false] rfl rfl (take_ofW HT_.out HW_.out (by kernel_rfl)) (fun _ _ _ h => h) (Or.inl ⟨by rfl, ?_⟩) hHeld ?_ ?_
             rotate_left
             ·
              rintro w' ⟨s0, s1, s2, s3, s4, s5, s6⟩
              go_simp
              with_reducible rfl
             rotate_left
             ·
              simp only [Act.put, List.setIfInBounds_toArray, List.set_cons_zero, List.set_cons_succ, i64_w, i32_w]
              rfl
             refine pure_ (i := 12) (N := some 41) (v := ?_) (a' := ?_) #[true, true, true, true, true, true, true, true, true, true, true, true, true, false, false] rfl rfl (any_of HT_.out (by kernel_rfl)) (fun _ _ _ h => h) (Or.inl ⟨by rfl, ?_⟩) ?_ ?_
             rotate_left
             ·
              intro w'
              go_simp
              with_reducible rfl
             rotate_left
             ·
              simp only [Act.put, List.setIfInBounds_toArray, List.set_cons_zero, List.set_cons_succ, i64_w, i32_w]
              rfl
             refine pure_ (i := 13) (N := some 42) (v := ?_) (a' := ?_) #[true, true, true, true, true, true, true, true, true, true, true, true, true, true, false] rfl rfl (any_of HT_.out (by kernel_rfl)) (fun _ _ _ h => h) (Or.inl ⟨by rfl, ?_⟩) ?_ ?_
             rotate_left
             ·
              intro w'
              go_simp
              with_reducible rfl
             rotate_left
             ·
              simp only [Act.put, List.setIfInBounds_toArray, List.set_cons_zero, List.set_cons_succ, i64_w, i32_w]
              rfl
             refine last_ (i := 14) (N := none) #[true, true, true, true, true, true, true, true, true, true, true, true, true, true, true] rfl rfl (one_of HT_.out (by kernel_rfl)) (by decide) (fun K hK => ?_)
             refine skip_ (w1 := ?_) (by rfl) rfl ?_ ?_
             rotate_left
             ·
              go_simp
              rfl
             refine hK.out _ _ ?_
             clear hK K
             refine done_ (done_of HT_.out (by kernel_rfl)) ?_
             try go_wp2
             go_roundg k1
             case measure => have := HK1.out; omega
             case rel => exact ⟨(y144), (wrap64 (x6_1 - 1)), (by first | rfl | (simp; done) | (simp [*]; done)), H', ⟨by have := HK1.out; omega⟩, ⟨by (with_reducible repeat (first | apply Kd.R_alloc | apply Kd.R_drewN | apply Kd.R_drew)); exact HQ22.out⟩, ⟨by repeat (first | (with_reducible first | exact HB.out | apply below_alloc | apply pw_below_drewN | apply below_drew1 | refine below_set ?_ GB11.out) | exact HB.out)⟩⟩
            ·
             rw [if_neg c15] at H
             exact absurd H (by simp)
           ·
            rw [if_neg c14] at H
            exact absurd H (by simp)
          ·
           rw [if_neg c13] at H
           exact absurd H (by simp)
         ·
          rw [if_neg c12] at H
          have c12b0 : decide (0 < x6_1) = false := decide_eq_false c12
          clear c12
          have H' := Aside0.mk H
          clear H
          try go_wp2
          have n0_ := Aside0.mk (Kd.R_drew HO_5.out)
          have n1_ := Aside0.mk (below_drew1 HB.out)
          clear HO_5
          clear HB
          have HO_5 := n0_
          have HB := n1_
          clear n0_ n1_
          obtain ⟨Ao24, co24, eo24⟩ := Kd.R_slice HO_5.out
          (first | subst eo24 | (injection eo24 with f1_ f2_ f3_; have f4_ := f1_.symm; have f5_ := f3_.symm; clear f1_ f2_ f3_; subst f4_; subst f5_))
          have p138 : 0 ≤ (x6_1 : Int) := of_decide_eq_true (by first | (with_reducible assumption) | assumption)
          have q138 : x6_1 < (x5_1.length : Int) := of_decide_eq_true (by first | (with_reducible assumption) | assumption)
          obtain ⟨ad138, e138, hx138_0⟩ := Kd.at_int (Kd.R_reads' HO_5.out).2.2 x6_1 p138 q138
          cases e138
          replace p138 := eq_true p138
          replace q138 := eq_true q138
          have p139 : 0 ≤ (x6_1 : Int) := of_decide_eq_true (by first | (with_reducible assumption) | assumption)
          have q139 : x6_1 < (l1.length : Int) := of_decide_eq_true (by first | (with_reducible assumption) | assumption)
          obtain ⟨ad139, e139, hx139_0⟩ := Kd.at_int HR1.out x6_1 p139 q139
          have hw139_0 := hx139_0
          cases e139
          replace hx139_0 := (HB.out.cell (World.block_lt_of_cell? w _ hx139_0)).trans hx139_0
          replace p139 := eq_true p139
          replace q139 := eq_true q139
          have p11 : 0 ≤ (x6_1 : Int) := of_decide_eq_true (by first | (with_reducible assumption) | assumption)
          have q11 : (x6_1 : Int) < ((x5_1.length : Int) : Int) := of_decide_eq_true (by first | (with_reducible assumption) | assumption)
          obtain ⟨go11, co11, eo11, gb11, gl11, cl11, HG11⟩ := Kd.R_form HO_5.out (by omega)
          (first | cases eo11 | (injection eo11 with ea_ en_ ec_; (first | subst ea_ | (injection ea_ with ea_; subst ea_)); subst ec_; clear en_))
          have GB11 := Aside0.mk gb11
          have GG11 := Aside0.mk HG11
          clear gb11 gl11 HG11
          (first | simp only [add_plain] at hx138_0 | skip)
          obtain ⟨hx11_0, hf11_0⟩ := Kd.R_celln 0 HO_5.out (x6_1 : Int) p11 q11
          replace p11 := eq_true p11
          replace q11 := eq_true q11
          have HP25 := Kd.R_putn HO_5.out (x6_1 : Int) (wrap64 ((rd x5_1 x6_1) + (rd l1 x6_1)))
          rw [← Ny140.out] at HP25
          have HQ25 := Aside0.mk HP25
          clear HP25
          refine start_ (n := 11) (S := fun w' => w'.cell? ⟨go11, (x6_1).toNat, none⟩ = some (.int .i64 (rd x5_1 x6_1)) ∧ w'.cell? (ad139.add (x6_1).toNat) = some (.int .i64 (rd l1 x6_1))) (ds := [10]) #[false, false, false, false, false, false, false, false, false, false, false] (by kernel_rfl) rfl rfl ⟨hx138_0, ((HB.out.cell (World.block_lt_of_cell? w _ hw139_0)).trans hw139_0)⟩ (fun hHeld => ?_); refine with_tabW protection_inside.tab5 protection_inside.bits5 (fun HT_ HW_ => ?_)
          generalize wr.drew = w23 at HO_5 HB GG11 HQ25 hf11_0 hx11_0 hx138_0 hx139_0 hHeld ⊢
          refine pure_ (i := 0) (N := some 17) (v := ?_) (a' := ?_) #[true, false, false, false, false, false, false, false, false, false, false] rfl rfl (any_of HT_.out (by kernel_rfl)) (fun _ _ _ h => h) (Or.inl ⟨by rfl, ?_⟩) ?_ ?_
          rotate_left
          ·
           intro w'
           go_simp
           with_reducible rfl
          rotate_left
          ·
           simp only [Act.put, List.setIfInBounds_toArray, List.set_cons_zero, List.set_cons_succ, i64_w, i32_w]
           rfl
          refine pure_ (i := 1) (N := some 18) (v := ?_) (a' := ?_) #[true, true, false, false, false, false, false, false, false, false, false] rfl rfl (any_of HT_.out (by kernel_rfl)) (fun _ _ _ h => h) (Or.inl ⟨by rfl, ?_⟩) ?_ ?_
          rotate_left
          ·
           intro w'
           go_simp
           with_reducible rfl
          rotate_left
          ·
           simp only [Act.put, List.setIfInBounds_toArray, List.set_cons_zero, List.set_cons_succ, i64_w, i32_w]
           rfl
          refine pure_ (i := 2) (N := some 19) (v := ?_) (a' := ?_) #[true, true, true, false, false, false, false, false, false, false, false] rfl rfl (any_of HT_.out (by kernel_rfl)) (fun _ _ _ h => h) (Or.inl ⟨by rfl, ?_⟩) ?_ ?_
          rotate_left
          ·
           intro w'
           go_simp
           with_reducible rfl
          rotate_left
          ·
           simp only [Act.put, List.setIfInBounds_toArray, List.set_cons_zero, List.set_cons_succ, i64_w, i32_w]
           rfl
          refine pure_ (i := 4) (N := some 21) (v := ?_) (a' := ?_) #[true, true, true, false, true, false, false, false, false, false, false] rfl rfl (any_of HT_.out (by kernel_rfl)) (fun _ _ _ h => h) (Or.inl ⟨by rfl, ?_⟩) ?_ ?_
          rotate_left
          ·
           intro w'
           go_simp
           with_reducible rfl
          rotate_left
          ·
           simp only [Act.put, List.setIfInBounds_toArray, List.set_cons_zero, List.set_cons_succ, i64_w, i32_w]
           rfl
          refine pure_ (i := 5) (N := some 22) (v := ?_) (a' := ?_) #[true, true, true, false, true, true, false, false, false, false, false] rfl rfl (any_of HT_.out (by kernel_rfl)) (fun _ _ _ h => h) (Or.inl ⟨by rfl, ?_⟩) ?_ ?_
          rotate_left
          ·
           intro w'
           go_simp
           with_reducible rfl
          rotate_left
          ·
           simp only [Act.put, List.setIfInBounds_toArray, List.set_cons_zero, List.set_cons_succ, i64_w, i32_w]
           rfl
          refine pure_ (i := 6) (N := some 23) (v := ?_) (a' := ?_) #[true, true, true, false, true, true, true, false, false, false, false] rfl rfl (any_of HT_.out (by kernel_rfl)) (fun _ _ _ h => h) (Or.inl ⟨by rfl, ?_⟩) ?_ ?_
          rotate_left
          ·
           intro w'
           go_simp
           with_reducible rfl
          rotate_left
          ·
           simp only [Act.put, List.setIfInBounds_toArray, List.set_cons_zero, List.set_cons_succ, i64_w, i32_w]
           rfl
          refine take_ (i := 3) (N := some 20) (v := ?_) (a' := ?_) #[true, true, true, true, true, true, true, false, false, false, false] rfl rfl (take_ofW HT_.out HW_.out (by kernel_rfl)) (fun _ _ _ h => h) (Or.inl ⟨by rfl, ?_⟩) hHeld ?_ ?_
          rotate_left
          ·
           rintro w' ⟨s0, s1⟩
           go_simp
           with_reducible rfl
          rotate_left
          ·
           simp only [Act.put, List.setIfInBounds_toArray, List.set_cons_zero, List.set_cons_succ, i64_w, i32_w]
           rfl
          refine take_ (i := 7) (N := some 24) (v := ?_) (a' := ?_) #[true, true, true, true, true, true, true, true, false, false, false] rfl rfl (take_ofW HT_.out HW_.out (by kernel_rfl)) (fun _ _ _ h => h) (Or.inl ⟨by rfl, ?_⟩) hHeld ?_ ?_
          rotate_left
          ·
           rintro w' ⟨s0, s1⟩
           go_simp
           with_reducible rfl
          rotate_left
          ·
           simp only [Act.put, List.setIfInBounds_toArray, List.set_cons_zero, List.set_cons_succ, i64_w, i32_w]
           rfl
          refine pure_ (i := 8) (N := some 25) (v := ?_) (a' := ?_) #[true, true, true, true, true, true, true, true, true, false, false] rfl rfl (any_of HT_.out (by kernel_rfl)) (fun _ _ _ h => h) (Or.inl ⟨by rfl, ?_⟩) ?_ ?_
          rotate_left
          ·
           intro w'
           go_simp
           with_reducible rfl
          rotate_left
          ·
           simp only [Act.put, List.setIfInBounds_toArray, List.set_cons_zero, List.set_cons_succ, i64_w, i32_w]
           rfl
          refine pure_ (i := 9) (N := some 26) (v := ?_) (a' := ?_) #[true, true, true, true, true, true, true, true, true, true, false] rfl rfl (any_of HT_.out (by kernel_rfl)) (fun _ _ _ h => h) (Or.inl ⟨by rfl, ?_⟩) ?_ ?_
          rotate_left
          ·
           intro w'
           go_simp
           with_reducible rfl
          rotate_left
          ·
           simp only [Act.put, List.setIfInBounds_toArray, List.set_cons_zero, List.set_cons_succ, i64_w, i32_w]
           rfl
          refine last_ (i := 10) (N := none) #[true, true, true, true, true, true, true, true, true, true, true] rfl rfl (one_of HT_.out (by kernel_rfl)) (by decide) (fun K hK => ?_)
          refine skip_ (w1 := ?_) (by rfl) rfl ?_ ?_
          rotate_left
          ·
           go_simp
           rfl
          refine hK.out _ _ ?_
          clear hK K
          refine done_ (done_of HT_.out (by kernel_rfl)) ?_
          try go_wp2
          go_roundg k1
          case measure => have := HK1.out; omega
          case rel => exact ⟨(y140), (wrap64 (x6_1 - 1)), (by first | rfl | (simp; done) | (simp [*]; done)), H', ⟨by have := HK1.out; omega⟩, ⟨by (with_reducible repeat (first | apply Kd.R_alloc | apply Kd.R_drewN | apply Kd.R_drew)); exact HQ25.out⟩, ⟨by repeat (first | (with_reducible first | exact HB.out | apply below_alloc | apply pw_below_drewN | apply below_drew1 | refine below_set ?_ GB11.out) | exact HB.out)⟩⟩
        ·
         rw [if_neg c10] at H
         exact absurd H (by simp)
       ·
        rw [if_neg c9] at H
        exact absurd H (by simp)
      ·
       rw [if_neg c8] at H
       exact absurd H (by simp)
     ·
      rw [if_neg c7] at H
      have c7b0 : decide (0 ≤ x6_1) = false := decide_eq_false c7
      clear c7
      obtain rfl := Option.some.inj H
      go_wp2
      go_ret
      exact ⟨_, by first | rfl | (simp [errW_none, errW_some] <;> rfl) | (simp [*, errW_none, errW_some] <;> rfl), by (with_reducible repeat (first | apply Kd.R_alloc | apply Kd.R_drewN | apply Kd.R_drew)); exact HO_5.out, by repeat (first | (with_reducible first | exact HB.out | apply below_alloc | apply pw_below_drewN | apply below_drew1) | exact HB.out)⟩
  ·
   rw [if_neg c4] at H
   exact absurd H (by simp)
 ·
  rw [if_neg c3] at H
  exact absurd H (by simp)
end Go.Proofs.Ytilcbkengmggdaa.Pr
