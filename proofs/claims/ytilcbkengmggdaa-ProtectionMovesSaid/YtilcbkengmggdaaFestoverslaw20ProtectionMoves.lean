-- Written by a program of this session (a changed copy of the kit's printer). Not trusted: Lean checks it.
import Derived.Test.YtilcbkengmggdaaM0
import Derived.Test.YtilcbkengmggdaaM2
import Derived.Test.YtilcbkengmggdaaM3
namespace Go.Proofs.Ytilcbkengmggdaa.Pr
open Go.RowKit Go.Proofs.YtilcbkengmggdaaW.PrintWords Go.Proofs.YtilcbkengmggdaaW.PrintLast Go.Proofs.YtilcbkengmggdaaW.PrintMore
attribute [local go_sem] max2_int min2_int max_two min_two max_three min_three max_four min_four   -- for this text's walks alone
set_option linter.unusedVariables false
set_option linter.unusedSimpArgs false
/-! ### estoverslaw20_ProtectionMoves: function 10 -/
mutual
def estoverslaw20_ProtectionMoves.j0 : Nat → List (S41) → List Int → Bool → Int → Int → Int → Option (Bool)
 | 0, _, _, _, _, _, _ => none
 | k + 1, x0, x1, x24, x398000, x398001, x398002 => if x24 = true then ((estoverslaw20_awake.f k).bind fun t400 => (some t400)) else (if x398000 < 0 then (estoverslaw20_ProtectionMoves.j1 k x0 x1 x398000 x398001 x398002 true) else (if x398000 ≥ (x0.length : Int) then (estoverslaw20_ProtectionMoves.j1 k x0 x1 x398000 x398001 x398002 true) else (if x398001 < (-1) then (estoverslaw20_ProtectionMoves.j1 k x0 x1 x398000 x398001 x398002 true) else (if x398001 ≥ (x0.length : Int) then (estoverslaw20_ProtectionMoves.j1 k x0 x1 x398000 x398001 x398002 true) else (if x398002 < 0 then (estoverslaw20_ProtectionMoves.j1 k x0 x1 x398000 x398001 x398002 true) else (if x398002 ≥ (x0.length : Int) then (estoverslaw20_ProtectionMoves.j1 k x0 x1 x398000 x398001 x398002 true) else (if 0 ≤ x398002 then (if x398002 < (x1.length : Int) then (if (rd x1 x398002) < 0 then (estoverslaw20_ProtectionMoves.j1 k x0 x1 x398000 x398001 x398002 true) else (estoverslaw20_ProtectionMoves.j1 k x0 x1 x398000 x398001 x398002 (decide ((rd x1 x398002) ≥ 1048576)))) else (none)) else (none))))))))
def estoverslaw20_ProtectionMoves.j1 : Nat → List (S41) → List Int → Int → Int → Int → Bool → Option (Bool)
 | 0, _, _, _, _, _, _ => none
 | k + 1, x0, x1, x7, x8, x9, x73 => if x73 = true then (some true) else ((some (([] : List Int) : List Int)).bind fun y403 => (if y403.length + x1.length < 17592186044416 then ((some (y403 ++ x1 : List Int)).bind fun y406 => (if 0 ≤ x9 then (if x9 < (y406.length : Int) then ((protection_Guarded.f k x0 x1 x7 x8 false).bind fun t411 => (if t411 = true then ((protection_Guarded.f k x0 (y406.set (x9 : Int).toNat (wrap64 ((rd y406 x9) + 1))) x7 x8 false).bind fun t412 => (some t412)) else (some true))) else (none)) else (none))) else (none)))
end
def estoverslaw20_ProtectionMoves.f (k : Nat) (l0 : List (S41)) (l1 : List Int) (a2_0 : Int) (a2_1 : Int) (a2_2 : Int) : Option (Bool) := (estoverslaw20_awake.f k).bind fun t398 => (if t398 = true then ((estoversref19_Check.f k l0).bind fun t399 => (if t399 = 0 then (estoverslaw20_ProtectionMoves.j0 k l0 l1 ((l1.length : Int) != (l0.length : Int)) a2_0 a2_1 a2_2) else (estoverslaw20_ProtectionMoves.j0 k l0 l1 true a2_0 a2_1 a2_2))) else (estoverslaw20_ProtectionMoves.j0 k l0 l1 true a2_0 a2_1 a2_2))
theorem estoverslaw20_ProtectionMoves.mono_l : ∀ k, (∀ y0 y1 y2 y3 y4 y5, LeO (estoverslaw20_ProtectionMoves.j0 k y0 y1 y2 y3 y4 y5) (estoverslaw20_ProtectionMoves.j0 (k + 1) y0 y1 y2 y3 y4 y5)) ∧ (∀ y0 y1 y2 y3 y4 y5, LeO (estoverslaw20_ProtectionMoves.j1 k y0 y1 y2 y3 y4 y5) (estoverslaw20_ProtectionMoves.j1 (k + 1) y0 y1 y2 y3 y4 y5))
 | 0 => ⟨fun _ _ _ _ _ _ r h => by simp [estoverslaw20_ProtectionMoves.j0] at h, fun _ _ _ _ _ _ r h => by simp [estoverslaw20_ProtectionMoves.j1] at h⟩
 | k + 1 => by
  obtain ⟨ih0, ih1⟩ := estoverslaw20_ProtectionMoves.mono_l k
  refine ⟨?_, ?_⟩
  ·
   intro y0 y1 y2 y3 y4 y5
   unfold estoverslaw20_ProtectionMoves.j0
   repeat' first
   | (with_reducible exact ih0 _ _ _ _ _ _)
   | (with_reducible exact ih1 _ _ _ _ _ _)
   | (with_reducible exact estoverslaw20_awake.mono _)
   | (with_reducible exact estoversref19_Check.mono _ _)
   | (with_reducible exact protection_Guarded.mono _ _ _ _ _ _)
   | (with_reducible exact LeO.refl _)
   | (with_reducible exact LeO.none _)
   | (with_reducible refine LeO.ite ?_ ?_)
   | (with_reducible refine LeO.bind ?_ (fun _ => ?_))
   | exact ih0 _ _ _ _ _ _
   | exact ih1 _ _ _ _ _ _
   | exact estoverslaw20_awake.mono _
   | exact estoversref19_Check.mono _ _
   | exact protection_Guarded.mono _ _ _ _ _ _
   | exact LeO.none _
   | refine LeO.ite ?_ ?_
   | refine LeO.bind ?_ (fun _ => ?_)
  ·
   intro y0 y1 y2 y3 y4 y5
   unfold estoverslaw20_ProtectionMoves.j1
   repeat' first
   | (with_reducible exact ih0 _ _ _ _ _ _)
   | (with_reducible exact ih1 _ _ _ _ _ _)
   | (with_reducible exact estoverslaw20_awake.mono _)
   | (with_reducible exact estoversref19_Check.mono _ _)
   | (with_reducible exact protection_Guarded.mono _ _ _ _ _ _)
   | (with_reducible exact LeO.refl _)
   | (with_reducible exact LeO.none _)
   | (with_reducible refine LeO.ite ?_ ?_)
   | (with_reducible refine LeO.bind ?_ (fun _ => ?_))
   | exact ih0 _ _ _ _ _ _
   | exact ih1 _ _ _ _ _ _
   | exact estoverslaw20_awake.mono _
   | exact estoversref19_Check.mono _ _
   | exact protection_Guarded.mono _ _ _ _ _ _
   | exact LeO.none _
   | refine LeO.ite ?_ ?_
   | refine LeO.bind ?_ (fun _ => ?_)
theorem estoverslaw20_ProtectionMoves.mono : ∀ a0 a1 a2 a3 a4 k, LeO (estoverslaw20_ProtectionMoves.f k a0 a1 a2 a3 a4) (estoverslaw20_ProtectionMoves.f (k + 1) a0 a1 a2 a3 a4) := by
 intro a0 a1 a2 a3 a4 k
 obtain ⟨ih0, ih1⟩ := estoverslaw20_ProtectionMoves.mono_l k
 unfold estoverslaw20_ProtectionMoves.f
 repeat' first
   | (with_reducible exact ih0 _ _ _ _ _ _)
   | (with_reducible exact ih1 _ _ _ _ _ _)
   | (with_reducible exact estoverslaw20_awake.mono _)
   | (with_reducible exact estoversref19_Check.mono _ _)
   | (with_reducible exact protection_Guarded.mono _ _ _ _ _ _)
   | (with_reducible exact LeO.refl _)
   | (with_reducible exact LeO.none _)
   | (with_reducible refine LeO.ite ?_ ?_)
   | (with_reducible refine LeO.bind ?_ (fun _ => ?_))
   | exact ih0 _ _ _ _ _ _
   | exact ih1 _ _ _ _ _ _
   | exact estoverslaw20_awake.mono _
   | exact estoversref19_Check.mono _ _
   | exact protection_Guarded.mono _ _ _ _ _ _
   | exact LeO.none _
   | refine LeO.ite ?_ ?_
   | refine LeO.bind ?_ (fun _ => ?_)
set_option maxHeartbeats 8000000 in
set_option maxRecDepth 100000 in
theorem estoverslaw20_ProtectionMoves.calls (k : Nat) (A0 : Option Addr) (c0 : Nat) (l0 : List (S41)) (A1 : Option Addr) (c1 : Nat) (l1 : List Int) (a2_0 : Int) (a2_1 : Int) (a2_2 : Int) (r : Bool) (w : World) (hr0 : Kd.C k41 w A0 l0.length l0) (hc0 : l0.length ≤ c0) (hr1 : Kd.C (Kd.int .i64) w A1 l1.length l1) (hc1 : l1.length ≤ c1) (h : estoverslaw20_ProtectionMoves.f k l0 l1 a2_0 a2_1 a2_2 = some r) :
  Calls Try.prog 10 #[.slice A0 l0.length c0, .slice A1 l1.length c1, .agg #[.int .i64 a2_0, .int .i64 a2_1, .int .i64 a2_2]] w fun e w' => e = .returned (.bool r) ∧ Below w.heap.size w w' := by
 have hu44 := Try.underlying44
 have HR0 := Aside0.mk hr0
 have HC0 := Aside0.mk hc0
 clear hr0 hc0
 have HR1 := Aside0.mk hr1
 have HC1 := Aside0.mk hc1
 clear hr1 hc1
 have HB := Aside0.mk (Below.refl w.heap.size w)
 have H : ((estoverslaw20_awake.f k).bind fun t398 => (if t398 = true then ((estoversref19_Check.f k l0).bind fun t399 => (if t399 = 0 then (estoverslaw20_ProtectionMoves.j0 k l0 l1 ((l1.length : Int) != (l0.length : Int)) a2_0 a2_1 a2_2) else (estoverslaw20_ProtectionMoves.j0 k l0 l1 true a2_0 a2_1 a2_2))) else (estoverslaw20_ProtectionMoves.j0 k l0 l1 true a2_0 a2_1 a2_2))) = some r := h
 clear h
 have HC4 := Aside0.mk H
 clear H
 go_enter Try.func10, Try.ntmps10
 go_upto_region 1 with (first | ((with_reducible refine gate_dst (N := 5) rfl ?_); (try (refine gate_guard (by rfl) ?_; dsimp only)); refine box_event ?hg (N := 5) ?hd (cs := #[.int .i64 a2_0, .int .i64 a2_1, .int .i64 a2_2]) (t := 44) ?hr ?_; (case hd => rfl); (case hg => rfl); (case hr => first | (go_simp; done) | (go_simp; rfl)); intro gb397 hg w5 hbox hb; have n0_ := Aside0.mk (below_step (by repeat (first | (with_reducible first | exact HB.out | apply below_alloc | apply pw_below_drewN | apply below_drew1) | exact HB.out)) hb); have n1_ := Aside0.mk (hbox); have n2_ := Aside0.mk ((by rw [hg]; exact (below_size (by repeat (first | (with_reducible first | exact HB.out | apply below_alloc | apply pw_below_drewN | apply below_drew1) | exact HB.out))) : w.heap.size ≤ gb397)); have n3_ := Aside0.mk ((by rw [hg]; exact (below_size (by repeat (first | (with_reducible first | exact HB.out | apply below_alloc | apply pw_below_drewN | apply below_drew1) | exact HB.out))) : w.heap.size ≤ gb397)); clear HB; have HB := n0_; have BK397 := n1_; have GW397 := n2_; have GE397 := n3_; clear n0_ n1_ n2_ n3_; clear hb hbox hg))
 repeat (go_quiet (first | ((with_reducible refine gate_dst (N := 5) rfl ?_); (try (refine gate_guard (by rfl) ?_; dsimp only)); refine box_event ?hg (N := 5) ?hd (cs := #[.int .i64 a2_0, .int .i64 a2_1, .int .i64 a2_2]) (t := 44) ?hr ?_; (case hd => rfl); (case hg => rfl); (case hr => first | (go_simp; done) | (go_simp; rfl)); intro gb397 hg w5 hbox hb; have n0_ := Aside0.mk (below_step (by repeat (first | (with_reducible first | exact HB.out | apply below_alloc | apply pw_below_drewN | apply below_drew1) | exact HB.out)) hb); have n1_ := Aside0.mk (hbox); have n2_ := Aside0.mk ((by rw [hg]; exact (below_size (by repeat (first | (with_reducible first | exact HB.out | apply below_alloc | apply pw_below_drewN | apply below_drew1) | exact HB.out))) : w.heap.size ≤ gb397)); have n3_ := Aside0.mk ((by rw [hg]; exact (below_size (by repeat (first | (with_reducible first | exact HB.out | apply below_alloc | apply pw_below_drewN | apply below_drew1) | exact HB.out))) : w.heap.size ≤ gb397)); clear HB; have HB := n0_; have BK397 := n1_; have GW397 := n2_; have GE397 := n3_; clear n0_ n1_ n2_ n3_; clear hb hbox hg)); go_upto_region 1 with (first | ((with_reducible refine gate_dst (N := 5) rfl ?_); (try (refine gate_guard (by rfl) ?_; dsimp only)); refine box_event ?hg (N := 5) ?hd (cs := #[.int .i64 a2_0, .int .i64 a2_1, .int .i64 a2_2]) (t := 44) ?hr ?_; (case hd => rfl); (case hg => rfl); (case hr => first | (go_simp; done) | (go_simp; rfl)); intro gb397 hg w5 hbox hb; have n0_ := Aside0.mk (below_step (by repeat (first | (with_reducible first | exact HB.out | apply below_alloc | apply pw_below_drewN | apply below_drew1) | exact HB.out)) hb); have n1_ := Aside0.mk (hbox); have n2_ := Aside0.mk ((by rw [hg]; exact (below_size (by repeat (first | (with_reducible first | exact HB.out | apply below_alloc | apply pw_below_drewN | apply below_drew1) | exact HB.out))) : w.heap.size ≤ gb397)); have n3_ := Aside0.mk ((by rw [hg]; exact (below_size (by repeat (first | (with_reducible first | exact HB.out | apply below_alloc | apply pw_below_drewN | apply below_drew1) | exact HB.out))) : w.heap.size ≤ gb397)); clear HB; have HB := n0_; have BK397 := n1_; have GW397 := n2_; have GE397 := n3_; clear n0_ n1_ n2_ n3_; clear hb hbox hg)))
 (try simp only [Act.put, List.setIfInBounds_toArray, List.set_cons_zero, List.set_cons_succ])
 go_cut [24] (fun v24 wc => ∃ (kq : Nat) (x24_3 : Bool), v24 = .bool x24_3 ∧ Aside0 (estoverslaw20_ProtectionMoves.j0 kq l0 l1 x24_3 a2_0 a2_1 a2_2 = some r) ∧ Aside0 (kq ≤ k) ∧ Aside0 (wc.heap[gb397]? = some (.cells #[.int .i64 a2_0, .int .i64 a2_1, .int .i64 a2_2] 44 (0, 0))) ∧ Aside0 (Below w.heap.size w wc))
 case first =>
  have H := HC4.out
  clear HC4
  replace H := Option.bind_eq_some_iff.mp H
  obtain ⟨t398, A60, H⟩ := H
  replace H : (if t398 = true then ((estoversref19_Check.f k l0).bind fun t399 => (if t399 = 0 then (estoverslaw20_ProtectionMoves.j0 k l0 l1 ((l1.length : Int) != (l0.length : Int)) a2_0 a2_1 a2_2) else (estoverslaw20_ProtectionMoves.j0 k l0 l1 true a2_0 a2_1 a2_2))) else (estoverslaw20_ProtectionMoves.j0 k l0 l1 true a2_0 a2_1 a2_2)) = some r := H
  have A6 := Aside0.mk A60
  clear A60
  by_cases c7 : t398 = true
  ·
   subst c7
   have H1 : ((estoversref19_Check.f k l0).bind fun t399 => (if t399 = 0 then (estoverslaw20_ProtectionMoves.j0 k l0 l1 ((l1.length : Int) != (l0.length : Int)) a2_0 a2_1 a2_2) else (estoverslaw20_ProtectionMoves.j0 k l0 l1 true a2_0 a2_1 a2_2))) = some r := by rw [if_pos rfl] at H; exact H
   clear H
   have H := H1
   clear H1
   replace H := Option.bind_eq_some_iff.mp H
   obtain ⟨t399, A80, H⟩ := H
   replace H : (if t399 = 0 then (estoverslaw20_ProtectionMoves.j0 k l0 l1 ((l1.length : Int) != (l0.length : Int)) a2_0 a2_1 a2_2) else (estoverslaw20_ProtectionMoves.j0 k l0 l1 true a2_0 a2_1 a2_2)) = some r := H
   have A8 := Aside0.mk A80
   clear A80
   by_cases c9 : t399 = 0
   ·
    rw [if_pos c9] at H
    have c9b0 : (t399 == 0) = true := beq_iff_eq.mpr c9
    have c9b1 : (t399 != 0) = false := bne_eq_false_iff_eq.mpr c9
    clear c9
    (first | rw [c9b0] | (simp only [i64_w, i32_w]; rw [c9b0]) | skip)
    have H' := Aside0.mk H
    clear H
    go_wp2_with (first | (go_at_call 11; (with_reducible refine (estoverslaw20_awake.calls k  true _ A6.out).mono ?_); rintro e w10 ⟨rfl, hb⟩; have n0_ := Aside0.mk (blk_below (g := gb397) (o := .cells #[.int .i64 a2_0, .int .i64 a2_1, .int .i64 a2_2] 44 (0, 0)) (by (with_reducible repeat (first | refine blk_drewN ?_ _ | refine blk_drew ?_ | refine blk_alloc ?_ _)); exact BK397.out) hb); have n1_ := Aside0.mk (below_step (by repeat (first | (with_reducible first | exact HB.out | apply below_alloc | apply pw_below_drewN | apply below_drew1 | refine below_set ?_ GE397.out) | exact HB.out)) hb); clear BK397; clear HB; have BK397 := n0_; have HB := n1_; clear n0_ n1_; (try clear hb); (try clear hb2); (try clear hk); (try clear hi)) | (go_at_call 24; (with_reducible refine (estoversref19_Check.calls k _ _ l0 t399 _ ?side1 ?side2 A8.out).mono ?_); (case side1 => repeat (first | exact (Kd.C_below HR0.out HB.out) | (with_reducible refine Kd.C_alloc ?_ _) | (with_reducible refine Kd.C_drewN ?_ _) | (with_reducible refine Kd.C_drew ?_))); (case side2 => exact HC0.out); rintro e w' ⟨rfl, ⟨nd, rfl⟩⟩; (try first | exact ⟨rfl, _, World.drewN_drewN _ _ _⟩ | exact ⟨rfl, _, Eq.trans (World.drewN_drewN _ _ _) (congrArg (World.drewN _) (Nat.add_assoc _ _ _))⟩)))
    repeat (go_quiet (first | (go_at_call 11; (with_reducible refine (estoverslaw20_awake.calls k  true _ A6.out).mono ?_); rintro e w10 ⟨rfl, hb⟩; have n0_ := Aside0.mk (blk_below (g := gb397) (o := .cells #[.int .i64 a2_0, .int .i64 a2_1, .int .i64 a2_2] 44 (0, 0)) (by (with_reducible repeat (first | refine blk_drewN ?_ _ | refine blk_drew ?_ | refine blk_alloc ?_ _)); exact BK397.out) hb); have n1_ := Aside0.mk (below_step (by repeat (first | (with_reducible first | exact HB.out | apply below_alloc | apply pw_below_drewN | apply below_drew1 | refine below_set ?_ GE397.out) | exact HB.out)) hb); clear BK397; clear HB; have BK397 := n0_; have HB := n1_; clear n0_ n1_; (try clear hb); (try clear hb2); (try clear hk); (try clear hi)) | (go_at_call 24; (with_reducible refine (estoversref19_Check.calls k _ _ l0 t399 _ ?side1 ?side2 A8.out).mono ?_); (case side1 => repeat (first | exact (Kd.C_below HR0.out HB.out) | (with_reducible refine Kd.C_alloc ?_ _) | (with_reducible refine Kd.C_drewN ?_ _) | (with_reducible refine Kd.C_drew ?_))); (case side2 => exact HC0.out); rintro e w' ⟨rfl, ⟨nd, rfl⟩⟩; (try first | exact ⟨rfl, _, World.drewN_drewN _ _ _⟩ | exact ⟨rfl, _, Eq.trans (World.drewN_drewN _ _ _) (congrArg (World.drewN _) (Nat.add_assoc _ _ _))⟩))); try go_wp2_with (first | (go_at_call 11; (with_reducible refine (estoverslaw20_awake.calls k  true _ A6.out).mono ?_); rintro e w10 ⟨rfl, hb⟩; have n0_ := Aside0.mk (blk_below (g := gb397) (o := .cells #[.int .i64 a2_0, .int .i64 a2_1, .int .i64 a2_2] 44 (0, 0)) (by (with_reducible repeat (first | refine blk_drewN ?_ _ | refine blk_drew ?_ | refine blk_alloc ?_ _)); exact BK397.out) hb); have n1_ := Aside0.mk (below_step (by repeat (first | (with_reducible first | exact HB.out | apply below_alloc | apply pw_below_drewN | apply below_drew1 | refine below_set ?_ GE397.out) | exact HB.out)) hb); clear BK397; clear HB; have BK397 := n0_; have HB := n1_; clear n0_ n1_; (try clear hb); (try clear hb2); (try clear hk); (try clear hi)) | (go_at_call 24; (with_reducible refine (estoversref19_Check.calls k _ _ l0 t399 _ ?side1 ?side2 A8.out).mono ?_); (case side1 => repeat (first | exact (Kd.C_below HR0.out HB.out) | (with_reducible refine Kd.C_alloc ?_ _) | (with_reducible refine Kd.C_drewN ?_ _) | (with_reducible refine Kd.C_drew ?_))); (case side2 => exact HC0.out); rintro e w' ⟨rfl, ⟨nd, rfl⟩⟩; (try first | exact ⟨rfl, _, World.drewN_drewN _ _ _⟩ | exact ⟨rfl, _, Eq.trans (World.drewN_drewN _ _ _) (congrArg (World.drewN _) (Nat.add_assoc _ _ _))⟩))))
    go_meet
    case rel => exact ⟨_, (((l1.length : Int) != (l0.length : Int))), (by first | rfl | (simp; done) | (simp [*]; done)), H', ⟨by first | omega | exact Nat.le_refl _⟩, ⟨by (with_reducible repeat (first | refine blk_drewN ?_ _ | refine blk_drew ?_ | refine blk_alloc ?_ _)); exact BK397.out⟩, ⟨by repeat (first | (with_reducible first | exact HB.out | apply below_alloc | apply pw_below_drewN | apply below_drew1 | refine below_set ?_ GE397.out) | exact HB.out)⟩⟩
   ·
    rw [if_neg c9] at H
    have c9b0 : (t399 == 0) = false := beq_eq_false_iff_ne.mpr c9
    have c9b1 : (t399 != 0) = true := bne_iff_ne.mpr c9
    (first | rw [c9b0] | (simp only [i64_w, i32_w]; rw [c9b0]) | skip)
    have H' := Aside0.mk H
    clear H
    go_wp2_with (first | (go_at_call 11; (with_reducible refine (estoverslaw20_awake.calls k  true _ A6.out).mono ?_); rintro e w11 ⟨rfl, hb⟩; have n0_ := Aside0.mk (blk_below (g := gb397) (o := .cells #[.int .i64 a2_0, .int .i64 a2_1, .int .i64 a2_2] 44 (0, 0)) (by (with_reducible repeat (first | refine blk_drewN ?_ _ | refine blk_drew ?_ | refine blk_alloc ?_ _)); exact BK397.out) hb); have n1_ := Aside0.mk (below_step (by repeat (first | (with_reducible first | exact HB.out | apply below_alloc | apply pw_below_drewN | apply below_drew1 | refine below_set ?_ GE397.out) | exact HB.out)) hb); clear BK397; clear HB; have BK397 := n0_; have HB := n1_; clear n0_ n1_; (try clear hb); (try clear hb2); (try clear hk); (try clear hi)) | (go_at_call 24; (with_reducible refine (estoversref19_Check.calls k _ _ l0 t399 _ ?side1 ?side2 A8.out).mono ?_); (case side1 => repeat (first | exact (Kd.C_below HR0.out HB.out) | (with_reducible refine Kd.C_alloc ?_ _) | (with_reducible refine Kd.C_drewN ?_ _) | (with_reducible refine Kd.C_drew ?_))); (case side2 => exact HC0.out); rintro e w' ⟨rfl, ⟨nd, rfl⟩⟩; (try first | exact ⟨rfl, _, World.drewN_drewN _ _ _⟩ | exact ⟨rfl, _, Eq.trans (World.drewN_drewN _ _ _) (congrArg (World.drewN _) (Nat.add_assoc _ _ _))⟩)))
    repeat (go_quiet (first | (go_at_call 11; (with_reducible refine (estoverslaw20_awake.calls k  true _ A6.out).mono ?_); rintro e w11 ⟨rfl, hb⟩; have n0_ := Aside0.mk (blk_below (g := gb397) (o := .cells #[.int .i64 a2_0, .int .i64 a2_1, .int .i64 a2_2] 44 (0, 0)) (by (with_reducible repeat (first | refine blk_drewN ?_ _ | refine blk_drew ?_ | refine blk_alloc ?_ _)); exact BK397.out) hb); have n1_ := Aside0.mk (below_step (by repeat (first | (with_reducible first | exact HB.out | apply below_alloc | apply pw_below_drewN | apply below_drew1 | refine below_set ?_ GE397.out) | exact HB.out)) hb); clear BK397; clear HB; have BK397 := n0_; have HB := n1_; clear n0_ n1_; (try clear hb); (try clear hb2); (try clear hk); (try clear hi)) | (go_at_call 24; (with_reducible refine (estoversref19_Check.calls k _ _ l0 t399 _ ?side1 ?side2 A8.out).mono ?_); (case side1 => repeat (first | exact (Kd.C_below HR0.out HB.out) | (with_reducible refine Kd.C_alloc ?_ _) | (with_reducible refine Kd.C_drewN ?_ _) | (with_reducible refine Kd.C_drew ?_))); (case side2 => exact HC0.out); rintro e w' ⟨rfl, ⟨nd, rfl⟩⟩; (try first | exact ⟨rfl, _, World.drewN_drewN _ _ _⟩ | exact ⟨rfl, _, Eq.trans (World.drewN_drewN _ _ _) (congrArg (World.drewN _) (Nat.add_assoc _ _ _))⟩))); try go_wp2_with (first | (go_at_call 11; (with_reducible refine (estoverslaw20_awake.calls k  true _ A6.out).mono ?_); rintro e w11 ⟨rfl, hb⟩; have n0_ := Aside0.mk (blk_below (g := gb397) (o := .cells #[.int .i64 a2_0, .int .i64 a2_1, .int .i64 a2_2] 44 (0, 0)) (by (with_reducible repeat (first | refine blk_drewN ?_ _ | refine blk_drew ?_ | refine blk_alloc ?_ _)); exact BK397.out) hb); have n1_ := Aside0.mk (below_step (by repeat (first | (with_reducible first | exact HB.out | apply below_alloc | apply pw_below_drewN | apply below_drew1 | refine below_set ?_ GE397.out) | exact HB.out)) hb); clear BK397; clear HB; have BK397 := n0_; have HB := n1_; clear n0_ n1_; (try clear hb); (try clear hb2); (try clear hk); (try clear hi)) | (go_at_call 24; (with_reducible refine (estoversref19_Check.calls k _ _ l0 t399 _ ?side1 ?side2 A8.out).mono ?_); (case side1 => repeat (first | exact (Kd.C_below HR0.out HB.out) | (with_reducible refine Kd.C_alloc ?_ _) | (with_reducible refine Kd.C_drewN ?_ _) | (with_reducible refine Kd.C_drew ?_))); (case side2 => exact HC0.out); rintro e w' ⟨rfl, ⟨nd, rfl⟩⟩; (try first | exact ⟨rfl, _, World.drewN_drewN _ _ _⟩ | exact ⟨rfl, _, Eq.trans (World.drewN_drewN _ _ _) (congrArg (World.drewN _) (Nat.add_assoc _ _ _))⟩))))
    go_meet
    case rel => exact ⟨_, (true), (by first | rfl | (simp; done) | (simp [*]; done)), H', ⟨by first | omega | exact Nat.le_refl _⟩, ⟨by (with_reducible repeat (first | refine blk_drewN ?_ _ | refine blk_drew ?_ | refine blk_alloc ?_ _)); exact BK397.out⟩, ⟨by repeat (first | (with_reducible first | exact HB.out | apply below_alloc | apply pw_below_drewN | apply below_drew1 | refine below_set ?_ GE397.out) | exact HB.out)⟩⟩
  ·
   replace c7 := Bool.eq_false_iff.mpr c7
   subst c7
   have H1 : (estoverslaw20_ProtectionMoves.j0 k l0 l1 true a2_0 a2_1 a2_2) = some r := by rw [if_neg (show ¬ (false = true) by decide)] at H; exact H
   clear H
   have H := H1
   clear H1
   have H' := Aside0.mk H
   clear H
   go_wp2_with (first | (go_at_call 11; (with_reducible refine (estoverslaw20_awake.calls k  false _ A6.out).mono ?_); rintro e w12 ⟨rfl, hb⟩; have n0_ := Aside0.mk (blk_below (g := gb397) (o := .cells #[.int .i64 a2_0, .int .i64 a2_1, .int .i64 a2_2] 44 (0, 0)) (by (with_reducible repeat (first | refine blk_drewN ?_ _ | refine blk_drew ?_ | refine blk_alloc ?_ _)); exact BK397.out) hb); have n1_ := Aside0.mk (below_step (by repeat (first | (with_reducible first | exact HB.out | apply below_alloc | apply pw_below_drewN | apply below_drew1 | refine below_set ?_ GE397.out) | exact HB.out)) hb); clear BK397; clear HB; have BK397 := n0_; have HB := n1_; clear n0_ n1_; (try clear hb); (try clear hb2); (try clear hk); (try clear hi)))
   repeat (go_quiet (first | (go_at_call 11; (with_reducible refine (estoverslaw20_awake.calls k  false _ A6.out).mono ?_); rintro e w12 ⟨rfl, hb⟩; have n0_ := Aside0.mk (blk_below (g := gb397) (o := .cells #[.int .i64 a2_0, .int .i64 a2_1, .int .i64 a2_2] 44 (0, 0)) (by (with_reducible repeat (first | refine blk_drewN ?_ _ | refine blk_drew ?_ | refine blk_alloc ?_ _)); exact BK397.out) hb); have n1_ := Aside0.mk (below_step (by repeat (first | (with_reducible first | exact HB.out | apply below_alloc | apply pw_below_drewN | apply below_drew1 | refine below_set ?_ GE397.out) | exact HB.out)) hb); clear BK397; clear HB; have BK397 := n0_; have HB := n1_; clear n0_ n1_; (try clear hb); (try clear hb2); (try clear hk); (try clear hi))); try go_wp2_with (first | (go_at_call 11; (with_reducible refine (estoverslaw20_awake.calls k  false _ A6.out).mono ?_); rintro e w12 ⟨rfl, hb⟩; have n0_ := Aside0.mk (blk_below (g := gb397) (o := .cells #[.int .i64 a2_0, .int .i64 a2_1, .int .i64 a2_2] 44 (0, 0)) (by (with_reducible repeat (first | refine blk_drewN ?_ _ | refine blk_drew ?_ | refine blk_alloc ?_ _)); exact BK397.out) hb); have n1_ := Aside0.mk (below_step (by repeat (first | (with_reducible first | exact HB.out | apply below_alloc | apply pw_below_drewN | apply below_drew1 | refine below_set ?_ GE397.out) | exact HB.out)) hb); clear BK397; clear HB; have BK397 := n0_; have HB := n1_; clear n0_ n1_; (try clear hb); (try clear hb2); (try clear hk); (try clear hi))))
   go_meet
   case rel => exact ⟨_, (true), (by first | rfl | (simp; done) | (simp [*]; done)), H', ⟨by first | omega | exact Nat.le_refl _⟩, ⟨by (with_reducible repeat (first | refine blk_drewN ?_ _ | refine blk_drew ?_ | refine blk_alloc ?_ _)); exact BK397.out⟩, ⟨by repeat (first | (with_reducible first | exact HB.out | apply below_alloc | apply pw_below_drewN | apply below_drew1 | refine below_set ?_ GE397.out) | exact HB.out)⟩⟩
 case rest =>
  clear HC4
  try clear c1
  try clear p2
  try clear c7
  try clear c9
  try clear c9b0
  try clear c9b1
  try clear c10
  obtain ⟨kq, x24_3, rfl, HA, HJ3, BK397, HB⟩ := hcut
  cases kq with
  | zero => exact absurd HA.out (by simp [estoverslaw20_ProtectionMoves.j0])
  | succ kj3 =>
   have H := HA.out
   clear HA
   simp only [estoverslaw20_ProtectionMoves.j0] at H
   by_cases c13 : x24_3 = true
   ·
    subst c13
    have H1 : ((estoverslaw20_awake.f kj3).bind fun t400 => (some t400)) = some r := by rw [if_pos rfl] at H; exact H
    clear H
    have H := H1
    clear H1
    replace H := Option.bind_eq_some_iff.mp H
    obtain ⟨t400, A140, H⟩ := H
    replace H : (some t400) = some r := H
    have A14 := Aside0.mk A140
    clear A140
    obtain rfl := Option.some.inj H
    go_wp2_with (first | (go_at_call 11; (with_reducible refine (estoverslaw20_awake.calls kj3  t400 _ A14.out).mono ?_); rintro e w15 ⟨rfl, hb⟩; have n0_ := Aside0.mk (blk_below (g := gb397) (o := .cells #[.int .i64 a2_0, .int .i64 a2_1, .int .i64 a2_2] 44 (0, 0)) (by (with_reducible repeat (first | refine blk_drewN ?_ _ | refine blk_drew ?_ | refine blk_alloc ?_ _)); exact BK397.out) hb); have n1_ := Aside0.mk (below_step (by repeat (first | (with_reducible first | exact HB.out | apply below_alloc | apply pw_below_drewN | apply below_drew1 | refine below_set ?_ GE397.out) | exact HB.out)) hb); clear BK397; clear HB; have BK397 := n0_; have HB := n1_; clear n0_ n1_; (try clear hb); (try clear hb2); (try clear hk); (try clear hi)))
    repeat (go_quiet (first | (go_at_call 11; (with_reducible refine (estoverslaw20_awake.calls kj3  t400 _ A14.out).mono ?_); rintro e w15 ⟨rfl, hb⟩; have n0_ := Aside0.mk (blk_below (g := gb397) (o := .cells #[.int .i64 a2_0, .int .i64 a2_1, .int .i64 a2_2] 44 (0, 0)) (by (with_reducible repeat (first | refine blk_drewN ?_ _ | refine blk_drew ?_ | refine blk_alloc ?_ _)); exact BK397.out) hb); have n1_ := Aside0.mk (below_step (by repeat (first | (with_reducible first | exact HB.out | apply below_alloc | apply pw_below_drewN | apply below_drew1 | refine below_set ?_ GE397.out) | exact HB.out)) hb); clear BK397; clear HB; have BK397 := n0_; have HB := n1_; clear n0_ n1_; (try clear hb); (try clear hb2); (try clear hk); (try clear hi))); try go_wp2_with (first | (go_at_call 11; (with_reducible refine (estoverslaw20_awake.calls kj3  t400 _ A14.out).mono ?_); rintro e w15 ⟨rfl, hb⟩; have n0_ := Aside0.mk (blk_below (g := gb397) (o := .cells #[.int .i64 a2_0, .int .i64 a2_1, .int .i64 a2_2] 44 (0, 0)) (by (with_reducible repeat (first | refine blk_drewN ?_ _ | refine blk_drew ?_ | refine blk_alloc ?_ _)); exact BK397.out) hb); have n1_ := Aside0.mk (below_step (by repeat (first | (with_reducible first | exact HB.out | apply below_alloc | apply pw_below_drewN | apply below_drew1 | refine below_set ?_ GE397.out) | exact HB.out)) hb); clear BK397; clear HB; have BK397 := n0_; have HB := n1_; clear n0_ n1_; (try clear hb); (try clear hb2); (try clear hk); (try clear hi))))
    go_ret
    exact ⟨by first | rfl | (simp [errW_none, errW_some] <;> rfl) | (simp [*, errW_none, errW_some] <;> rfl), by repeat (first | (with_reducible first | exact HB.out | apply below_alloc | apply pw_below_drewN | apply below_drew1 | refine below_set ?_ GE397.out) | exact HB.out)⟩
   ·
    replace c13 := Bool.eq_false_iff.mpr c13
    subst c13
    have H1 : (if a2_0 < 0 then (estoverslaw20_ProtectionMoves.j1 kj3 l0 l1 a2_0 a2_1 a2_2 true) else (if a2_0 ≥ (l0.length : Int) then (estoverslaw20_ProtectionMoves.j1 kj3 l0 l1 a2_0 a2_1 a2_2 true) else (if a2_1 < (-1) then (estoverslaw20_ProtectionMoves.j1 kj3 l0 l1 a2_0 a2_1 a2_2 true) else (if a2_1 ≥ (l0.length : Int) then (estoverslaw20_ProtectionMoves.j1 kj3 l0 l1 a2_0 a2_1 a2_2 true) else (if a2_2 < 0 then (estoverslaw20_ProtectionMoves.j1 kj3 l0 l1 a2_0 a2_1 a2_2 true) else (if a2_2 ≥ (l0.length : Int) then (estoverslaw20_ProtectionMoves.j1 kj3 l0 l1 a2_0 a2_1 a2_2 true) else (if 0 ≤ a2_2 then (if a2_2 < (l1.length : Int) then (if (rd l1 a2_2) < 0 then (estoverslaw20_ProtectionMoves.j1 kj3 l0 l1 a2_0 a2_1 a2_2 true) else (estoverslaw20_ProtectionMoves.j1 kj3 l0 l1 a2_0 a2_1 a2_2 (decide ((rd l1 a2_2) ≥ 1048576)))) else (none)) else (none)))))))) = some r := by rw [if_neg (show ¬ (false = true) by decide)] at H; exact H
    clear H
    have H := H1
    clear H1
    have HC16 := Aside0.mk H
    clear H
    have hcz17_0 : wc.cell? ⟨gb397, 0, none⟩ = some (.int .i64 a2_0) := (blk_cell BK397.out 0).trans rfl
    have hcz17_1 : wc.cell? ⟨gb397, 1, none⟩ = some (.int .i64 a2_1) := (blk_cell BK397.out 1).trans rfl
    have hcz17_2 : wc.cell? ⟨gb397, 2, none⟩ = some (.int .i64 a2_2) := (blk_cell BK397.out 2).trans rfl
    have hfz17_0 := blk_frozen BK397.out 0
    have hfz17_1 := blk_frozen BK397.out 1
    have hfz17_2 := blk_frozen BK397.out 2
    go_upto_region 4 with (fail)
    repeat (go_quiet (fail); go_upto_region 4 with (fail))
    go_cut [73] (fun v73 wc => ∃ (kq : Nat) (x73_15 : Bool), v73 = .bool x73_15 ∧ Aside0 (estoverslaw20_ProtectionMoves.j1 kq l0 l1 a2_0 a2_1 a2_2 x73_15 = some r) ∧ Aside0 (kq ≤ kj3) ∧ Aside0 (wc.heap[gb397]? = some (.cells #[.int .i64 a2_0, .int .i64 a2_1, .int .i64 a2_2] 44 (0, 0))) ∧ Aside0 (Below w.heap.size w wc))
    case first =>
     have H := HC16.out
     clear HC16
     by_cases c18 : a2_0 < 0
     ·
      rw [if_pos c18] at H
      have c18b0 : decide (a2_0 < 0) = true := decide_eq_true c18
      clear c18
      (first | rw [c18b0] | (simp only [i64_w, i32_w]; rw [c18b0]) | skip)
      have H' := Aside0.mk H
      clear H
      go_wp2
      repeat (go_quiet (fail); try go_wp2)
      go_meet
      case rel => exact ⟨_, (true), (by first | rfl | (simp; done) | (simp [*]; done)), H', ⟨by have := HJ3.out; first | omega | exact Nat.le_refl _⟩, ⟨by (with_reducible repeat (first | refine blk_drewN ?_ _ | refine blk_drew ?_ | refine blk_alloc ?_ _)); exact BK397.out⟩, ⟨by repeat (first | (with_reducible first | exact HB.out | apply below_alloc | apply pw_below_drewN | apply below_drew1 | refine below_set ?_ GE397.out) | exact HB.out)⟩⟩
     ·
      rw [if_neg c18] at H
      have c18b0 : decide (a2_0 < 0) = false := decide_eq_false c18
      clear c18
      (first | rw [c18b0] | (simp only [i64_w, i32_w]; rw [c18b0]) | skip)
      by_cases c19 : a2_0 ≥ (l0.length : Int)
      ·
       rw [if_pos c19] at H
       have c19b0 : decide ((l0.length : Int) ≤ a2_0) = true := decide_eq_true c19
       clear c19
       have H' := Aside0.mk H
       clear H
       go_wp2
       repeat (go_quiet (fail); try go_wp2)
       go_meet
       case rel => exact ⟨_, (true), (by first | rfl | (simp; done) | (simp [*]; done)), H', ⟨by have := HJ3.out; first | omega | exact Nat.le_refl _⟩, ⟨by (with_reducible repeat (first | refine blk_drewN ?_ _ | refine blk_drew ?_ | refine blk_alloc ?_ _)); exact BK397.out⟩, ⟨by repeat (first | (with_reducible first | exact HB.out | apply below_alloc | apply pw_below_drewN | apply below_drew1 | refine below_set ?_ GE397.out) | exact HB.out)⟩⟩
      ·
       rw [if_neg c19] at H
       have c19b0 : decide ((l0.length : Int) ≤ a2_0) = false := decide_eq_false c19
       clear c19
       by_cases c20 : a2_1 < (-1)
       ·
        rw [if_pos c20] at H
        have c20b0 : decide (a2_1 < (-1)) = true := decide_eq_true c20
        clear c20
        have H' := Aside0.mk H
        clear H
        go_wp2
        repeat (go_quiet (fail); try go_wp2)
        go_meet
        case rel => exact ⟨_, (true), (by first | rfl | (simp; done) | (simp [*]; done)), H', ⟨by have := HJ3.out; first | omega | exact Nat.le_refl _⟩, ⟨by (with_reducible repeat (first | refine blk_drewN ?_ _ | refine blk_drew ?_ | refine blk_alloc ?_ _)); exact BK397.out⟩, ⟨by repeat (first | (with_reducible first | exact HB.out | apply below_alloc | apply pw_below_drewN | apply below_drew1 | refine below_set ?_ GE397.out) | exact HB.out)⟩⟩
       ·
        rw [if_neg c20] at H
        have c20b0 : decide (a2_1 < (-1)) = false := decide_eq_false c20
        clear c20
        by_cases c21 : a2_1 ≥ (l0.length : Int)
        ·
         rw [if_pos c21] at H
         have c21b0 : decide ((l0.length : Int) ≤ a2_1) = true := decide_eq_true c21
         clear c21
         have H' := Aside0.mk H
         clear H
         go_wp2
         repeat (go_quiet (fail); try go_wp2)
         go_meet
         case rel => exact ⟨_, (true), (by first | rfl | (simp; done) | (simp [*]; done)), H', ⟨by have := HJ3.out; first | omega | exact Nat.le_refl _⟩, ⟨by (with_reducible repeat (first | refine blk_drewN ?_ _ | refine blk_drew ?_ | refine blk_alloc ?_ _)); exact BK397.out⟩, ⟨by repeat (first | (with_reducible first | exact HB.out | apply below_alloc | apply pw_below_drewN | apply below_drew1 | refine below_set ?_ GE397.out) | exact HB.out)⟩⟩
        ·
         rw [if_neg c21] at H
         have c21b0 : decide ((l0.length : Int) ≤ a2_1) = false := decide_eq_false c21
         clear c21
         by_cases c22 : a2_2 < 0
         ·
          rw [if_pos c22] at H
          have c22b0 : decide (a2_2 < 0) = true := decide_eq_true c22
          clear c22
          have H' := Aside0.mk H
          clear H
          go_wp2
          repeat (go_quiet (fail); try go_wp2)
          go_meet
          case rel => exact ⟨_, (true), (by first | rfl | (simp; done) | (simp [*]; done)), H', ⟨by have := HJ3.out; first | omega | exact Nat.le_refl _⟩, ⟨by (with_reducible repeat (first | refine blk_drewN ?_ _ | refine blk_drew ?_ | refine blk_alloc ?_ _)); exact BK397.out⟩, ⟨by repeat (first | (with_reducible first | exact HB.out | apply below_alloc | apply pw_below_drewN | apply below_drew1 | refine below_set ?_ GE397.out) | exact HB.out)⟩⟩
         ·
          rw [if_neg c22] at H
          have c22b0 : decide (a2_2 < 0) = false := decide_eq_false c22
          clear c22
          by_cases c23 : a2_2 ≥ (l0.length : Int)
          ·
           rw [if_pos c23] at H
           have c23b0 : decide ((l0.length : Int) ≤ a2_2) = true := decide_eq_true c23
           clear c23
           have H' := Aside0.mk H
           clear H
           go_wp2
           repeat (go_quiet (fail); try go_wp2)
           go_meet
           case rel => exact ⟨_, (true), (by first | rfl | (simp; done) | (simp [*]; done)), H', ⟨by have := HJ3.out; first | omega | exact Nat.le_refl _⟩, ⟨by (with_reducible repeat (first | refine blk_drewN ?_ _ | refine blk_drew ?_ | refine blk_alloc ?_ _)); exact BK397.out⟩, ⟨by repeat (first | (with_reducible first | exact HB.out | apply below_alloc | apply pw_below_drewN | apply below_drew1 | refine below_set ?_ GE397.out) | exact HB.out)⟩⟩
          ·
           rw [if_neg c23] at H
           have c23b0 : decide ((l0.length : Int) ≤ a2_2) = false := decide_eq_false c23
           clear c23
           by_cases c24 : 0 ≤ a2_2
           ·
            rw [if_pos c24] at H
            have c24b0 : decide (0 ≤ a2_2) = true := decide_eq_true c24
            clear c24
            by_cases c25 : a2_2 < (l1.length : Int)
            ·
             rw [if_pos c25] at H
             have c25b0 : decide (a2_2 < (l1.length : Int)) = true := decide_eq_true c25
             clear c25
             by_cases c26 : (rd l1 a2_2) < 0
             ·
              rw [if_pos c26] at H
              have c26b0 : decide ((rd l1 a2_2) < 0) = true := decide_eq_true c26
              clear c26
              have H' := Aside0.mk H
              clear H
              have p401 : 0 ≤ (a2_2 : Int) := of_decide_eq_true (by first | (with_reducible assumption) | assumption)
              have q401 : a2_2 < (l1.length : Int) := of_decide_eq_true (by first | (with_reducible assumption) | assumption)
              obtain ⟨ad401, e401, hx401_0⟩ := Kd.at_int HR1.out a2_2 p401 q401
              cases e401
              replace hx401_0 := (HB.out.cell (World.block_lt_of_cell? w _ hx401_0)).trans hx401_0
              replace p401 := eq_true p401
              replace q401 := eq_true q401
              go_wp2
              repeat (go_quiet (fail); try go_wp2)
              go_meet
              case rel => exact ⟨_, (true), (by first | rfl | (simp; done) | (simp [*]; done)), H', ⟨by have := HJ3.out; first | omega | exact Nat.le_refl _⟩, ⟨by (with_reducible repeat (first | refine blk_drewN ?_ _ | refine blk_drew ?_ | refine blk_alloc ?_ _)); exact BK397.out⟩, ⟨by repeat (first | (with_reducible first | exact HB.out | apply below_alloc | apply pw_below_drewN | apply below_drew1 | refine below_set ?_ GE397.out) | exact HB.out)⟩⟩
             ·
              rw [if_neg c26] at H
              have c26b0 : decide ((rd l1 a2_2) < 0) = false := decide_eq_false c26
              clear c26
              have H' := Aside0.mk H
              clear H
              have p401 : 0 ≤ (a2_2 : Int) := of_decide_eq_true (by first | (with_reducible assumption) | assumption)
              have q401 : a2_2 < (l1.length : Int) := of_decide_eq_true (by first | (with_reducible assumption) | assumption)
              obtain ⟨ad401, e401, hx401_0⟩ := Kd.at_int HR1.out a2_2 p401 q401
              cases e401
              replace hx401_0 := (HB.out.cell (World.block_lt_of_cell? w _ hx401_0)).trans hx401_0
              replace p401 := eq_true p401
              replace q401 := eq_true q401
              have p402 : 0 ≤ (a2_2 : Int) := of_decide_eq_true (by first | (with_reducible assumption) | assumption)
              have q402 : a2_2 < (l1.length : Int) := of_decide_eq_true (by first | (with_reducible assumption) | assumption)
              obtain ⟨ad402, e402, hx402_0⟩ := Kd.at_int HR1.out a2_2 p402 q402
              obtain rfl : ad401 = ad402 := (by injection e402)
              replace hx402_0 := (HB.out.cell (World.block_lt_of_cell? w _ hx402_0)).trans hx402_0
              replace p402 := eq_true p402
              replace q402 := eq_true q402
              go_wp2
              repeat (go_quiet (fail); try go_wp2)
              go_meet
              case rel => exact ⟨_, (decide ((rd l1 a2_2) ≥ 1048576)), (by first | rfl | (simp; done) | (simp [*]; done)), H', ⟨by have := HJ3.out; first | omega | exact Nat.le_refl _⟩, ⟨by (with_reducible repeat (first | refine blk_drewN ?_ _ | refine blk_drew ?_ | refine blk_alloc ?_ _)); exact BK397.out⟩, ⟨by repeat (first | (with_reducible first | exact HB.out | apply below_alloc | apply pw_below_drewN | apply below_drew1 | refine below_set ?_ GE397.out) | exact HB.out)⟩⟩
            ·
             rw [if_neg c25] at H
             exact absurd H (by simp)
           ·
            rw [if_neg c24] at H
            exact absurd H (by simp)
    case rest =>
     clear HC16
     try clear c1
     try clear c2
     try clear p2
     try clear p4
     try clear q4
     try clear hx4
     try clear c7
     try clear c9
     try clear c9b0
     try clear c9b1
     try clear c10
     try clear c13
     try clear c18
     try clear c18b0
     try clear c19
     try clear c19b0
     try clear c20
     try clear c20b0
     try clear c21
     try clear c21b0
     try clear c22
     try clear c22b0
     try clear c23
     try clear c23b0
     try clear c24
     try clear c24b0
     try clear c25
     try clear c25b0
     try clear c26
     try clear c26b0
     try clear hcz17_0
     try clear hcz17_1
     try clear hcz17_2
     try clear hfz17_0
     try clear hfz17_1
     try clear hfz17_2
     try clear hx401_0
     try clear hx402_0
     try clear p2
     try clear p401
     try clear p402
     try clear q401
     try clear q402
     obtain ⟨kq, x73_15, rfl, HA, HJ15, BK397, HB⟩ := hcut
     cases kq with
     | zero => exact absurd HA.out (by simp [estoverslaw20_ProtectionMoves.j1])
     | succ kj15 =>
      have H := HA.out
      clear HA
      simp only [estoverslaw20_ProtectionMoves.j1] at H
      by_cases c27 : x73_15 = true
      ·
       subst c27
       have H1 : (some true) = some r := by rw [if_pos rfl] at H; exact H
       clear H
       have H := H1
       clear H1
       obtain rfl := Option.some.inj H
       go_wp2
       repeat (go_quiet (fail); try go_wp2)
       go_ret
       exact ⟨by first | rfl | (simp [errW_none, errW_some] <;> rfl) | (simp [*, errW_none, errW_some] <;> rfl), by repeat (first | (with_reducible first | exact HB.out | apply below_alloc | apply pw_below_drewN | apply below_drew1 | refine below_set ?_ GE397.out) | exact HB.out)⟩
      ·
       replace c27 := Bool.eq_false_iff.mpr c27
       subst c27
       have H1 : ((some (([] : List Int) : List Int)).bind fun y403 => (if y403.length + l1.length < 17592186044416 then ((some (y403 ++ l1 : List Int)).bind fun y406 => (if 0 ≤ a2_2 then (if a2_2 < (y406.length : Int) then ((protection_Guarded.f kj15 l0 l1 a2_0 a2_1 false).bind fun t411 => (if t411 = true then ((protection_Guarded.f kj15 l0 (y406.set (a2_2 : Int).toNat (wrap64 ((rd y406 a2_2) + 1))) a2_0 a2_1 false).bind fun t412 => (some t412)) else (some true))) else (none)) else (none))) else (none))) = some r := by rw [if_neg (show ¬ (false = true) by decide)] at H; exact H
       clear H
       have H := H1
       clear H1
       obtain ⟨y403, hy403⟩ : ∃ y_ : List Int, y_ = (([] : List Int)) := ⟨_, rfl⟩
       replace H : (if y403.length + l1.length < 17592186044416 then ((some (y403 ++ l1 : List Int)).bind fun y406 => (if 0 ≤ a2_2 then (if a2_2 < (y406.length : Int) then ((protection_Guarded.f kj15 l0 l1 a2_0 a2_1 false).bind fun t411 => (if t411 = true then ((protection_Guarded.f kj15 l0 (y406.set (a2_2 : Int).toNat (wrap64 ((rd y406 a2_2) + 1))) a2_0 a2_1 false).bind fun t412 => (some t412)) else (some true))) else (none)) else (none))) else (none)) = some r := by first | (rw [hy403]; with_reducible exact H) | (have H2_ := (Option.bind_some _ _).symm.trans H; rw [hy403]; with_reducible exact H2_) | (have H2_ := (Option.bind_some _ _).symm.trans H; with_reducible exact H2_) | with_reducible exact H | (rw [hy403]; exact H) | exact H
       have Ny403 := Aside0.mk hy403
       clear hy403
       by_cases c28 : y403.length + l1.length < 17592186044416
       ·
        rw [if_pos c28] at H
        have LMc28 := Aside0.mk c28
        clear c28
        obtain ⟨y406, hy406⟩ : ∃ y_ : List Int, y_ = (y403 ++ l1) := ⟨_, rfl⟩
        replace H : (if 0 ≤ a2_2 then (if a2_2 < (y406.length : Int) then ((protection_Guarded.f kj15 l0 l1 a2_0 a2_1 false).bind fun t411 => (if t411 = true then ((protection_Guarded.f kj15 l0 (y406.set (a2_2 : Int).toNat (wrap64 ((rd y406 a2_2) + 1))) a2_0 a2_1 false).bind fun t412 => (some t412)) else (some true))) else (none)) else (none)) = some r := by first | (rw [hy406]; with_reducible exact H) | (have H2_ := (Option.bind_some _ _).symm.trans H; rw [hy406]; with_reducible exact H2_) | (have H2_ := (Option.bind_some _ _).symm.trans H; with_reducible exact H2_) | with_reducible exact H | (rw [hy406]; exact H) | exact H
        have Ny406 := Aside0.mk hy406
        clear hy406
        by_cases c29 : 0 ≤ a2_2
        ·
         rw [if_pos c29] at H
         have c29b0 : decide (0 ≤ a2_2) = true := decide_eq_true c29
         clear c29
         by_cases c30 : a2_2 < (y406.length : Int)
         ·
          rw [if_pos c30] at H
          have c30b0 : decide (a2_2 < (y406.length : Int)) = true := decide_eq_true c30
          clear c30
          obtain ⟨y410, hy410⟩ : ∃ y_ : List Int, y_ = (y406.set (a2_2 : Int).toNat (wrap64 ((rd y406 a2_2) + 1))) := ⟨_, rfl⟩
          replace H : ((protection_Guarded.f kj15 l0 l1 a2_0 a2_1 false).bind fun t411 => (if t411 = true then ((protection_Guarded.f kj15 l0 y410 a2_0 a2_1 false).bind fun t412 => (some t412)) else (some true))) = some r := by first | (rw [hy410]; with_reducible exact H) | (have H2_ := (Option.bind_some _ _).symm.trans H; rw [hy410]; with_reducible exact H2_) | (have H2_ := (Option.bind_some _ _).symm.trans H; with_reducible exact H2_) | with_reducible exact H | (rw [hy410]; exact H) | exact H
          have Ny410 := Aside0.mk hy410
          clear hy410
          replace H := Option.bind_eq_some_iff.mp H
          obtain ⟨t411, A320, H⟩ := H
          replace H : (if t411 = true then ((protection_Guarded.f kj15 l0 y410 a2_0 a2_1 false).bind fun t412 => (some t412)) else (some true)) = some r := H
          have A32 := Aside0.mk A320
          clear A320
          by_cases c33 : t411 = true
          ·
           subst c33
           have H1 : ((protection_Guarded.f kj15 l0 y410 a2_0 a2_1 false).bind fun t412 => (some t412)) = some r := by rw [if_pos rfl] at H; exact H
           clear H
           have H := H1
           clear H1
           replace H := Option.bind_eq_some_iff.mp H
           obtain ⟨t412, A340, H⟩ := H
           replace H : (some t412) = some r := H
           have A34 := Aside0.mk A340
           clear A340
           obtain rfl := Option.some.inj H
           go_wp2_with (first | ((with_reducible refine gate_dst (N := 74) rfl ?_); (try (refine gate_guard (by rfl) ?_; dsimp only)); refine Kd.R_lit (Kd.int .i64) _ 3 ?hg (N := 74) ?hd (xs := ([] : List Int)) (inner := []) (ok := fun _ => True) (okp := fun _ => True) ?hr ?hp (fun _ hk => hk) trivial (Below.refl _ _) (Nat.le_refl _) (by simp) ?_; (case hd => rfl); (case hg => rfl); (case hr => first | (go_simp; done) | (go_simp; rfl)); (case hp => exact (Reps.none _ _)); intro v404 w35 ho36 hb hg_ hnew_; clear hg_ hnew_; (first | rw [← Ny403.out] at ho36 | (simp only [Int.reduceToNat] at ho36; rw [← Ny403.out] at ho36)); have n0_ := Aside0.mk (Kd.R_lower ho36 (below_size (by repeat (first | (with_reducible first | exact HB.out | apply below_alloc | apply pw_below_drewN | apply below_drew1 | refine below_set ?_ GE397.out) | exact HB.out)))); have n1_ := Aside0.mk (blk_below (g := gb397) (o := .cells #[.int .i64 a2_0, .int .i64 a2_1, .int .i64 a2_2] 44 (0, 0)) (by (with_reducible repeat (first | refine blk_drewN ?_ _ | refine blk_drew ?_ | refine blk_alloc ?_ _)); exact BK397.out) hb); have n2_ := Aside0.mk (below_step (by repeat (first | (with_reducible first | exact HB.out | apply below_alloc | apply pw_below_drewN | apply below_drew1 | refine below_set ?_ GE397.out) | exact HB.out)) hb); clear BK397; clear HB; have HO405 := n0_; have BK397 := n1_; have HB := n2_; clear n0_ n1_ n2_; clear hb ho36) | ((with_reducible refine gate_builtin (b := .append) (xs := #[.tmp 74, .tmp 75]) rfl ?_); (try (refine gate_guard (by rfl) ?_; dsimp only)); at_builtin; refine Kd.R_append_rows (Kd.int .i64) (w0 := w) w.heap.size rfl (.tmp 74) (.tmp 75) 25 3 (.int .i64 0) 8 rfl Try.underlying25 info3 rfl (by decide) (by omega) v404 y403 l1 _ _ _ (fun _ => True) (fun _ => False) rfl rfl ?aO ?aR (fun _ _ h => h) (fun _ h => h.elim) ?aF ?aB ?aS ?aL ?_; (case aR => repeat (first | exact (Kd.C_below HR1.out HB.out) | (with_reducible refine Kd.C_alloc ?_ _) | (with_reducible refine Kd.C_drewN ?_ _) | (with_reducible refine Kd.C_drew ?_))); (case aB => exact (by repeat (first | (with_reducible first | exact HB.out | apply below_alloc | apply pw_below_drewN | apply below_drew1 | refine below_set ?_ GE397.out) | exact HB.out))); (case aF => exact (fun _ _ => trivial)); (case aO => exact (by (with_reducible repeat (first | apply Kd.R_alloc | apply Kd.R_drewN | apply Kd.R_drew)); exact HO405.out)); (case aS => exact (below_size (by repeat (first | (with_reducible first | exact HB.out | apply below_alloc | apply pw_below_drewN | apply below_drew1 | refine below_set ?_ GE397.out) | exact HB.out)))); (case aL => have := LMc28.out; omega); intro v407 w37 ho hb hg hat; rw [← Ny406.out] at ho; have n0_ := Aside0.mk (blk_grown (g := gb397) (o := .cells #[.int .i64 a2_0, .int .i64 a2_1, .int .i64 a2_2] 44 (0, 0)) (by (with_reducible repeat (first | refine blk_drewN ?_ _ | refine blk_drew ?_ | refine blk_alloc ?_ _)); exact BK397.out) hg (Kd.R_ne HO405.out BK397.out (by decide))); have n1_ := Aside0.mk (hb); have n2_ := Aside0.mk (ho); clear BK397; clear HB; clear HO405; have BK397 := n0_; have HB := n1_; have HO408 := n2_; clear n0_ n1_ n2_; clear ho hb hg hat; obtain ⟨Ao38, co38, eo38⟩ := Kd.R_slice HO408.out; subst eo38; have p409 : 0 ≤ (a2_2 : Int) := of_decide_eq_true (by first | (with_reducible assumption) | assumption); have q409 : a2_2 < (y406.length : Int) := of_decide_eq_true (by first | (with_reducible assumption) | assumption); obtain ⟨ad409, e409, hx409_0⟩ := Kd.at_int (Kd.R_reads' HO408.out).2.2 a2_2 p409 q409; cases e409; replace p409 := eq_true p409; replace q409 := eq_true q409; have p31 : 0 ≤ (a2_2 : Int) := of_decide_eq_true (by first | (with_reducible assumption) | assumption); have q31 : (a2_2 : Int) < ((y406.length : Int) : Int) := of_decide_eq_true (by first | (with_reducible assumption) | assumption); obtain ⟨go31, co31, eo31, gb31, gl31, cl31, HG31⟩ := Kd.R_form HO408.out (by omega); (first | cases eo31 | (injection eo31 with ea_ en_ ec_; (first | subst ea_ | (injection ea_ with ea_; subst ea_)); subst ec_; clear en_)); have GB31 := Aside0.mk gb31; have GG31 := Aside0.mk HG31; clear gb31 gl31 HG31; (first | simp only [add_plain] at hx409_0 | skip); obtain ⟨hx31_0, hf31_0⟩ := Kd.R_celln 0 HO408.out (a2_2 : Int) p31 q31; replace p31 := eq_true p31; replace q31 := eq_true q31; obtain ⟨hy39_, hz39_⟩ := Kd.R_celln 0 HO408.out (a2_2 : Int) (of_decide_eq_true (by first | (with_reducible assumption) | assumption)) (of_decide_eq_true (by first | (with_reducible assumption) | assumption)); have HP39 := Kd.R_putg HO408.out (a2_2 : Int) (wrap64 ((rd y406 a2_2) + 1))) | ((with_reducible refine gate_store (t := 3) (p := 82) rfl ?_); (try (rw [drewN_self w37]; generalize hq_ : World.drewN w37 _ = w37; have n0_ := Aside0.mk (Kd.R_at hq_ HO408.out); have n1_ := Aside0.mk (blk_at hq_ BK397.out); have n2_ := Aside0.mk (below_at hq_ HB.out); clear hq_ HO408 BK397 HB; have HO408 := n0_; have BK397 := n1_; have HB := n2_; clear n0_ n1_ n2_; (try (obtain ⟨hy39_, hz39_⟩ := Kd.R_celln 0 HO408.out (a2_2 : Int) (of_decide_eq_true (by first | (with_reducible assumption) | assumption)) (of_decide_eq_true (by first | (with_reducible assumption) | assumption)))); (try (have HP39 := Kd.R_putg HO408.out (a2_2 : Int) (wrap64 ((rd y406 a2_2) + 1)))))); refine store_event (t := 3) (p := 82) (v := ?vo_w40) (w1 := (w37.setCell ⟨go31, (a2_2 : Int).toNat, none⟩ (.int .i64 (wrap64 ((rd y406 a2_2) + 1))))) ?hg ?ho ?hn ?hr ?_; (case ho => rfl); (case hg => rfl); (case hn => rfl); (case hr => first | (go_simp; done) | (go_simp; rfl)); intro w40 hw; have hg : w37.grownBy w40 (some go31) := (by rw [hw]; exact HP39.2); have hp_ : Kd.R (Kd.int .i64) 3 w40 w.heap.size (fun _ => True) (.slice (some ⟨go31, 0, none⟩) y406.length co38) y410 := (by rw [hw, Ny410.out]; exact HP39.1); clear HP39; have n0_ := Aside0.mk (blk_grown (g := gb397) (o := .cells #[.int .i64 a2_0, .int .i64 a2_1, .int .i64 a2_2] 44 (0, 0)) (by (with_reducible repeat (first | refine blk_drewN ?_ _ | refine blk_drew ?_ | refine blk_alloc ?_ _)); exact BK397.out) hg (Kd.R_ne HO408.out BK397.out (by decide))); have n1_ := Aside0.mk (hp_); have n2_ := Aside0.mk ((by rw [hw]; exact below_set (HB.out) GB31.out : Below w.heap.size w w40)); clear BK397; clear HO408; clear HB; have BK397 := n0_; have HO408 := n1_; have HB := n2_; clear n0_ n1_ n2_; clear hg hw hp_) | (go_at_call 16; (with_reducible refine (protection_Guarded.calls kj15 _ _ l0 _ _ l1 a2_0 a2_1 false true _ ?side1 ?side2 ?side3 ?side4 A32.out).mono ?_); (case side1 => repeat (first | exact (Kd.C_below HR0.out HB.out) | (with_reducible refine Kd.C_alloc ?_ _) | (with_reducible refine Kd.C_drewN ?_ _) | (with_reducible refine Kd.C_drew ?_))); (case side2 => exact HC0.out); (case side3 => repeat (first | exact (Kd.C_below HR1.out HB.out) | (with_reducible refine Kd.C_alloc ?_ _) | (with_reducible refine Kd.C_drewN ?_ _) | (with_reducible refine Kd.C_drew ?_))); (case side4 => exact HC1.out); rintro e w41 ⟨rfl, hb⟩; have n0_ := Aside0.mk (Kd.R_below (by (with_reducible repeat (first | apply Kd.R_alloc | apply Kd.R_drewN | apply Kd.R_drew)); exact HO408.out) hb); have n1_ := Aside0.mk (blk_below (g := gb397) (o := .cells #[.int .i64 a2_0, .int .i64 a2_1, .int .i64 a2_2] 44 (0, 0)) (by (with_reducible repeat (first | refine blk_drewN ?_ _ | refine blk_drew ?_ | refine blk_alloc ?_ _)); exact BK397.out) hb); have n2_ := Aside0.mk (below_step (by repeat (first | (with_reducible first | exact HB.out | apply below_alloc | apply pw_below_drewN | apply below_drew1 | refine below_set ?_ GE397.out) | exact HB.out)) hb); clear HO408; clear BK397; clear HB; have HO408 := n0_; have BK397 := n1_; have HB := n2_; clear n0_ n1_ n2_; (try clear hb); (try clear hb2); (try clear hk); (try clear hi)) | (go_at_call 16; refine calls_of_args (args' := #[.slice A0 l0.length c0, .slice (some ⟨go31, 0, none⟩) y410.length co38, .int .i64 a2_0, .int .i64 a2_1, .bool false]) (by first | (rw [show y410.length = y406.length from (Kd.R_reads' HO408.out).1.symm] <;> rfl) | rfl) ?_; (with_reducible refine (protection_Guarded.calls kj15 _ _ l0 _ _ y410 a2_0 a2_1 false t412 _ ?side1 ?side2 ?side3 ?side4 A34.out).mono ?_); (case side1 => repeat (first | exact (Kd.C_below HR0.out HB.out) | (with_reducible refine Kd.C_alloc ?_ _) | (with_reducible refine Kd.C_drewN ?_ _) | (with_reducible refine Kd.C_drew ?_))); (case side2 => exact HC0.out); (case side3 => repeat (first | exact (Kd.R_reads' HO408.out).2.2 | (with_reducible refine Kd.C_alloc ?_ _) | (with_reducible refine Kd.C_drewN ?_ _) | (with_reducible refine Kd.C_drew ?_))); (case side4 => rw [show y410.length = y406.length from (Kd.R_reads' HO408.out).1.symm]; exact (Kd.R_reads' HO408.out).2.1); rintro e w42 ⟨rfl, hb⟩; have n0_ := Aside0.mk (Kd.R_below (by (with_reducible repeat (first | apply Kd.R_alloc | apply Kd.R_drewN | apply Kd.R_drew)); exact HO408.out) hb); have n1_ := Aside0.mk (blk_below (g := gb397) (o := .cells #[.int .i64 a2_0, .int .i64 a2_1, .int .i64 a2_2] 44 (0, 0)) (by (with_reducible repeat (first | refine blk_drewN ?_ _ | refine blk_drew ?_ | refine blk_alloc ?_ _)); exact BK397.out) hb); have n2_ := Aside0.mk (below_step (by repeat (first | (with_reducible first | exact HB.out | apply below_alloc | apply pw_below_drewN | apply below_drew1 | refine below_set ?_ GE397.out) | exact HB.out)) hb); clear HO408; clear BK397; clear HB; have HO408 := n0_; have BK397 := n1_; have HB := n2_; clear n0_ n1_ n2_; (try clear hb); (try clear hb2); (try clear hk); (try clear hi)))
           repeat (go_quiet (first | ((with_reducible refine gate_dst (N := 74) rfl ?_); (try (refine gate_guard (by rfl) ?_; dsimp only)); refine Kd.R_lit (Kd.int .i64) _ 3 ?hg (N := 74) ?hd (xs := ([] : List Int)) (inner := []) (ok := fun _ => True) (okp := fun _ => True) ?hr ?hp (fun _ hk => hk) trivial (Below.refl _ _) (Nat.le_refl _) (by simp) ?_; (case hd => rfl); (case hg => rfl); (case hr => first | (go_simp; done) | (go_simp; rfl)); (case hp => exact (Reps.none _ _)); intro v404 w35 ho36 hb hg_ hnew_; clear hg_ hnew_; (first | rw [← Ny403.out] at ho36 | (simp only [Int.reduceToNat] at ho36; rw [← Ny403.out] at ho36)); have n0_ := Aside0.mk (Kd.R_lower ho36 (below_size (by repeat (first | (with_reducible first | exact HB.out | apply below_alloc | apply pw_below_drewN | apply below_drew1 | refine below_set ?_ GE397.out) | exact HB.out)))); have n1_ := Aside0.mk (blk_below (g := gb397) (o := .cells #[.int .i64 a2_0, .int .i64 a2_1, .int .i64 a2_2] 44 (0, 0)) (by (with_reducible repeat (first | refine blk_drewN ?_ _ | refine blk_drew ?_ | refine blk_alloc ?_ _)); exact BK397.out) hb); have n2_ := Aside0.mk (below_step (by repeat (first | (with_reducible first | exact HB.out | apply below_alloc | apply pw_below_drewN | apply below_drew1 | refine below_set ?_ GE397.out) | exact HB.out)) hb); clear BK397; clear HB; have HO405 := n0_; have BK397 := n1_; have HB := n2_; clear n0_ n1_ n2_; clear hb ho36) | ((with_reducible refine gate_builtin (b := .append) (xs := #[.tmp 74, .tmp 75]) rfl ?_); (try (refine gate_guard (by rfl) ?_; dsimp only)); at_builtin; refine Kd.R_append_rows (Kd.int .i64) (w0 := w) w.heap.size rfl (.tmp 74) (.tmp 75) 25 3 (.int .i64 0) 8 rfl Try.underlying25 info3 rfl (by decide) (by omega) v404 y403 l1 _ _ _ (fun _ => True) (fun _ => False) rfl rfl ?aO ?aR (fun _ _ h => h) (fun _ h => h.elim) ?aF ?aB ?aS ?aL ?_; (case aR => repeat (first | exact (Kd.C_below HR1.out HB.out) | (with_reducible refine Kd.C_alloc ?_ _) | (with_reducible refine Kd.C_drewN ?_ _) | (with_reducible refine Kd.C_drew ?_))); (case aB => exact (by repeat (first | (with_reducible first | exact HB.out | apply below_alloc | apply pw_below_drewN | apply below_drew1 | refine below_set ?_ GE397.out) | exact HB.out))); (case aF => exact (fun _ _ => trivial)); (case aO => exact (by (with_reducible repeat (first | apply Kd.R_alloc | apply Kd.R_drewN | apply Kd.R_drew)); exact HO405.out)); (case aS => exact (below_size (by repeat (first | (with_reducible first | exact HB.out | apply below_alloc | apply pw_below_drewN | apply below_drew1 | refine below_set ?_ GE397.out) | exact HB.out)))); (case aL => have := LMc28.out; omega); intro v407 w37 ho hb hg hat; rw [← Ny406.out] at ho; have n0_ := Aside0.mk (blk_grown (g := gb397) (o := .cells #[.int .i64 a2_0, .int .i64 a2_1, .int .i64 a2_2] 44 (0, 0)) (by (with_reducible repeat (first | refine blk_drewN ?_ _ | refine blk_drew ?_ | refine blk_alloc ?_ _)); exact BK397.out) hg (Kd.R_ne HO405.out BK397.out (by decide))); have n1_ := Aside0.mk (hb); have n2_ := Aside0.mk (ho); clear BK397; clear HB; clear HO405; have BK397 := n0_; have HB := n1_; have HO408 := n2_; clear n0_ n1_ n2_; clear ho hb hg hat; obtain ⟨Ao38, co38, eo38⟩ := Kd.R_slice HO408.out; subst eo38; have p409 : 0 ≤ (a2_2 : Int) := of_decide_eq_true (by first | (with_reducible assumption) | assumption); have q409 : a2_2 < (y406.length : Int) := of_decide_eq_true (by first | (with_reducible assumption) | assumption); obtain ⟨ad409, e409, hx409_0⟩ := Kd.at_int (Kd.R_reads' HO408.out).2.2 a2_2 p409 q409; cases e409; replace p409 := eq_true p409; replace q409 := eq_true q409; have p31 : 0 ≤ (a2_2 : Int) := of_decide_eq_true (by first | (with_reducible assumption) | assumption); have q31 : (a2_2 : Int) < ((y406.length : Int) : Int) := of_decide_eq_true (by first | (with_reducible assumption) | assumption); obtain ⟨go31, co31, eo31, gb31, gl31, cl31, HG31⟩ := Kd.R_form HO408.out (by omega); (first | cases eo31 | (injection eo31 with ea_ en_ ec_; (first | subst ea_ | (injection ea_ with ea_; subst ea_)); subst ec_; clear en_)); have GB31 := Aside0.mk gb31; have GG31 := Aside0.mk HG31; clear gb31 gl31 HG31; (first | simp only [add_plain] at hx409_0 | skip); obtain ⟨hx31_0, hf31_0⟩ := Kd.R_celln 0 HO408.out (a2_2 : Int) p31 q31; replace p31 := eq_true p31; replace q31 := eq_true q31; obtain ⟨hy39_, hz39_⟩ := Kd.R_celln 0 HO408.out (a2_2 : Int) (of_decide_eq_true (by first | (with_reducible assumption) | assumption)) (of_decide_eq_true (by first | (with_reducible assumption) | assumption)); have HP39 := Kd.R_putg HO408.out (a2_2 : Int) (wrap64 ((rd y406 a2_2) + 1))) | ((with_reducible refine gate_store (t := 3) (p := 82) rfl ?_); (try (rw [drewN_self w37]; generalize hq_ : World.drewN w37 _ = w37; have n0_ := Aside0.mk (Kd.R_at hq_ HO408.out); have n1_ := Aside0.mk (blk_at hq_ BK397.out); have n2_ := Aside0.mk (below_at hq_ HB.out); clear hq_ HO408 BK397 HB; have HO408 := n0_; have BK397 := n1_; have HB := n2_; clear n0_ n1_ n2_; (try (obtain ⟨hy39_, hz39_⟩ := Kd.R_celln 0 HO408.out (a2_2 : Int) (of_decide_eq_true (by first | (with_reducible assumption) | assumption)) (of_decide_eq_true (by first | (with_reducible assumption) | assumption)))); (try (have HP39 := Kd.R_putg HO408.out (a2_2 : Int) (wrap64 ((rd y406 a2_2) + 1)))))); refine store_event (t := 3) (p := 82) (v := ?vo_w40) (w1 := (w37.setCell ⟨go31, (a2_2 : Int).toNat, none⟩ (.int .i64 (wrap64 ((rd y406 a2_2) + 1))))) ?hg ?ho ?hn ?hr ?_; (case ho => rfl); (case hg => rfl); (case hn => rfl); (case hr => first | (go_simp; done) | (go_simp; rfl)); intro w40 hw; have hg : w37.grownBy w40 (some go31) := (by rw [hw]; exact HP39.2); have hp_ : Kd.R (Kd.int .i64) 3 w40 w.heap.size (fun _ => True) (.slice (some ⟨go31, 0, none⟩) y406.length co38) y410 := (by rw [hw, Ny410.out]; exact HP39.1); clear HP39; have n0_ := Aside0.mk (blk_grown (g := gb397) (o := .cells #[.int .i64 a2_0, .int .i64 a2_1, .int .i64 a2_2] 44 (0, 0)) (by (with_reducible repeat (first | refine blk_drewN ?_ _ | refine blk_drew ?_ | refine blk_alloc ?_ _)); exact BK397.out) hg (Kd.R_ne HO408.out BK397.out (by decide))); have n1_ := Aside0.mk (hp_); have n2_ := Aside0.mk ((by rw [hw]; exact below_set (HB.out) GB31.out : Below w.heap.size w w40)); clear BK397; clear HO408; clear HB; have BK397 := n0_; have HO408 := n1_; have HB := n2_; clear n0_ n1_ n2_; clear hg hw hp_) | (go_at_call 16; (with_reducible refine (protection_Guarded.calls kj15 _ _ l0 _ _ l1 a2_0 a2_1 false true _ ?side1 ?side2 ?side3 ?side4 A32.out).mono ?_); (case side1 => repeat (first | exact (Kd.C_below HR0.out HB.out) | (with_reducible refine Kd.C_alloc ?_ _) | (with_reducible refine Kd.C_drewN ?_ _) | (with_reducible refine Kd.C_drew ?_))); (case side2 => exact HC0.out); (case side3 => repeat (first | exact (Kd.C_below HR1.out HB.out) | (with_reducible refine Kd.C_alloc ?_ _) | (with_reducible refine Kd.C_drewN ?_ _) | (with_reducible refine Kd.C_drew ?_))); (case side4 => exact HC1.out); rintro e w41 ⟨rfl, hb⟩; have n0_ := Aside0.mk (Kd.R_below (by (with_reducible repeat (first | apply Kd.R_alloc | apply Kd.R_drewN | apply Kd.R_drew)); exact HO408.out) hb); have n1_ := Aside0.mk (blk_below (g := gb397) (o := .cells #[.int .i64 a2_0, .int .i64 a2_1, .int .i64 a2_2] 44 (0, 0)) (by (with_reducible repeat (first | refine blk_drewN ?_ _ | refine blk_drew ?_ | refine blk_alloc ?_ _)); exact BK397.out) hb); have n2_ := Aside0.mk (below_step (by repeat (first | (with_reducible first | exact HB.out | apply below_alloc | apply pw_below_drewN | apply below_drew1 | refine below_set ?_ GE397.out) | exact HB.out)) hb); clear HO408; clear BK397; clear HB; have HO408 := n0_; have BK397 := n1_; have HB := n2_; clear n0_ n1_ n2_; (try clear hb); (try clear hb2); (try clear hk); (try clear hi)) | (go_at_call 16; refine calls_of_args (args' := #[.slice A0 l0.length c0, .slice (some ⟨go31, 0, none⟩) y410.length co38, .int .i64 a2_0, .int .i64 a2_1, .bool false]) (by first | (rw [show y410.length = y406.length from (Kd.R_reads' HO408.out).1.symm] <;> rfl) | rfl) ?_; (with_reducible refine (protection_Guarded.calls kj15 _ _ l0 _ _ y410 a2_0 a2_1 false t412 _ ?side1 ?side2 ?side3 ?side4 A34.out).mono ?_); (case side1 => repeat (first | exact (Kd.C_below HR0.out HB.out) | (with_reducible refine Kd.C_alloc ?_ _) | (with_reducible refine Kd.C_drewN ?_ _) | (with_reducible refine Kd.C_drew ?_))); (case side2 => exact HC0.out); (case side3 => repeat (first | exact (Kd.R_reads' HO408.out).2.2 | (with_reducible refine Kd.C_alloc ?_ _) | (with_reducible refine Kd.C_drewN ?_ _) | (with_reducible refine Kd.C_drew ?_))); (case side4 => rw [show y410.length = y406.length from (Kd.R_reads' HO408.out).1.symm]; exact (Kd.R_reads' HO408.out).2.1); rintro e w42 ⟨rfl, hb⟩; have n0_ := Aside0.mk (Kd.R_below (by (with_reducible repeat (first | apply Kd.R_alloc | apply Kd.R_drewN | apply Kd.R_drew)); exact HO408.out) hb); have n1_ := Aside0.mk (blk_below (g := gb397) (o := .cells #[.int .i64 a2_0, .int .i64 a2_1, .int .i64 a2_2] 44 (0, 0)) (by (with_reducible repeat (first | refine blk_drewN ?_ _ | refine blk_drew ?_ | refine blk_alloc ?_ _)); exact BK397.out) hb); have n2_ := Aside0.mk (below_step (by repeat (first | (with_reducible first | exact HB.out | apply below_alloc | apply pw_below_drewN | apply below_drew1 | refine below_set ?_ GE397.out) | exact HB.out)) hb); clear HO408; clear BK397; clear HB; have HO408 := n0_; have BK397 := n1_; have HB := n2_; clear n0_ n1_ n2_; (try clear hb); (try clear hb2); (try clear hk); (try clear hi))); try go_wp2_with (first | ((with_reducible refine gate_dst (N := 74) rfl ?_); (try (refine gate_guard (by rfl) ?_; dsimp only)); refine Kd.R_lit (Kd.int .i64) _ 3 ?hg (N := 74) ?hd (xs := ([] : List Int)) (inner := []) (ok := fun _ => True) (okp := fun _ => True) ?hr ?hp (fun _ hk => hk) trivial (Below.refl _ _) (Nat.le_refl _) (by simp) ?_; (case hd => rfl); (case hg => rfl); (case hr => first | (go_simp; done) | (go_simp; rfl)); (case hp => exact (Reps.none _ _)); intro v404 w35 ho36 hb hg_ hnew_; clear hg_ hnew_; (first | rw [← Ny403.out] at ho36 | (simp only [Int.reduceToNat] at ho36; rw [← Ny403.out] at ho36)); have n0_ := Aside0.mk (Kd.R_lower ho36 (below_size (by repeat (first | (with_reducible first | exact HB.out | apply below_alloc | apply pw_below_drewN | apply below_drew1 | refine below_set ?_ GE397.out) | exact HB.out)))); have n1_ := Aside0.mk (blk_below (g := gb397) (o := .cells #[.int .i64 a2_0, .int .i64 a2_1, .int .i64 a2_2] 44 (0, 0)) (by (with_reducible repeat (first | refine blk_drewN ?_ _ | refine blk_drew ?_ | refine blk_alloc ?_ _)); exact BK397.out) hb); have n2_ := Aside0.mk (below_step (by repeat (first | (with_reducible first | exact HB.out | apply below_alloc | apply pw_below_drewN | apply below_drew1 | refine below_set ?_ GE397.out) | exact HB.out)) hb); clear BK397; clear HB; have HO405 := n0_; have BK397 := n1_; have HB := n2_; clear n0_ n1_ n2_; clear hb ho36) | ((with_reducible refine gate_builtin (b := .append) (xs := #[.tmp 74, .tmp 75]) rfl ?_); (try (refine gate_guard (by rfl) ?_; dsimp only)); at_builtin; refine Kd.R_append_rows (Kd.int .i64) (w0 := w) w.heap.size rfl (.tmp 74) (.tmp 75) 25 3 (.int .i64 0) 8 rfl Try.underlying25 info3 rfl (by decide) (by omega) v404 y403 l1 _ _ _ (fun _ => True) (fun _ => False) rfl rfl ?aO ?aR (fun _ _ h => h) (fun _ h => h.elim) ?aF ?aB ?aS ?aL ?_; (case aR => repeat (first | exact (Kd.C_below HR1.out HB.out) | (with_reducible refine Kd.C_alloc ?_ _) | (with_reducible refine Kd.C_drewN ?_ _) | (with_reducible refine Kd.C_drew ?_))); (case aB => exact (by repeat (first | (with_reducible first | exact HB.out | apply below_alloc | apply pw_below_drewN | apply below_drew1 | refine below_set ?_ GE397.out) | exact HB.out))); (case aF => exact (fun _ _ => trivial)); (case aO => exact (by (with_reducible repeat (first | apply Kd.R_alloc | apply Kd.R_drewN | apply Kd.R_drew)); exact HO405.out)); (case aS => exact (below_size (by repeat (first | (with_reducible first | exact HB.out | apply below_alloc | apply pw_below_drewN | apply below_drew1 | refine below_set ?_ GE397.out) | exact HB.out)))); (case aL => have := LMc28.out; omega); intro v407 w37 ho hb hg hat; rw [← Ny406.out] at ho; have n0_ := Aside0.mk (blk_grown (g := gb397) (o := .cells #[.int .i64 a2_0, .int .i64 a2_1, .int .i64 a2_2] 44 (0, 0)) (by (with_reducible repeat (first | refine blk_drewN ?_ _ | refine blk_drew ?_ | refine blk_alloc ?_ _)); exact BK397.out) hg (Kd.R_ne HO405.out BK397.out (by decide))); have n1_ := Aside0.mk (hb); have n2_ := Aside0.mk (ho); clear BK397; clear HB; clear HO405; have BK397 := n0_; have HB := n1_; have HO408 := n2_; clear n0_ n1_ n2_; clear ho hb hg hat; obtain ⟨Ao38, co38, eo38⟩ := Kd.R_slice HO408.out; subst eo38; have p409 : 0 ≤ (a2_2 : Int) := of_decide_eq_true (by first | (with_reducible assumption) | assumption); have q409 : a2_2 < (y406.length : Int) := of_decide_eq_true (by first | (with_reducible assumption) | assumption); obtain ⟨ad409, e409, hx409_0⟩ := Kd.at_int (Kd.R_reads' HO408.out).2.2 a2_2 p409 q409; cases e409; replace p409 := eq_true p409; replace q409 := eq_true q409; have p31 : 0 ≤ (a2_2 : Int) := of_decide_eq_true (by first | (with_reducible assumption) | assumption); have q31 : (a2_2 : Int) < ((y406.length : Int) : Int) := of_decide_eq_true (by first | (with_reducible assumption) | assumption); obtain ⟨go31, co31, eo31, gb31, gl31, cl31, HG31⟩ := Kd.R_form HO408.out (by omega); (first | cases eo31 | (injection eo31 with ea_ en_ ec_; (first | subst ea_ | (injection ea_ with ea_; subst ea_)); subst ec_; clear en_)); have GB31 := Aside0.mk gb31; have GG31 := Aside0.mk HG31; clear gb31 gl31 HG31; (first | simp only [add_plain] at hx409_0 | skip); obtain ⟨hx31_0, hf31_0⟩ := Kd.R_celln 0 HO408.out (a2_2 : Int) p31 q31; replace p31 := eq_true p31; replace q31 := eq_true q31; obtain ⟨hy39_, hz39_⟩ := Kd.R_celln 0 HO408.out (a2_2 : Int) (of_decide_eq_true (by first | (with_reducible assumption) | assumption)) (of_decide_eq_true (by first | (with_reducible assumption) | assumption)); have HP39 := Kd.R_putg HO408.out (a2_2 : Int) (wrap64 ((rd y406 a2_2) + 1))) | ((with_reducible refine gate_store (t := 3) (p := 82) rfl ?_); (try (rw [drewN_self w37]; generalize hq_ : World.drewN w37 _ = w37; have n0_ := Aside0.mk (Kd.R_at hq_ HO408.out); have n1_ := Aside0.mk (blk_at hq_ BK397.out); have n2_ := Aside0.mk (below_at hq_ HB.out); clear hq_ HO408 BK397 HB; have HO408 := n0_; have BK397 := n1_; have HB := n2_; clear n0_ n1_ n2_; (try (obtain ⟨hy39_, hz39_⟩ := Kd.R_celln 0 HO408.out (a2_2 : Int) (of_decide_eq_true (by first | (with_reducible assumption) | assumption)) (of_decide_eq_true (by first | (with_reducible assumption) | assumption)))); (try (have HP39 := Kd.R_putg HO408.out (a2_2 : Int) (wrap64 ((rd y406 a2_2) + 1)))))); refine store_event (t := 3) (p := 82) (v := ?vo_w40) (w1 := (w37.setCell ⟨go31, (a2_2 : Int).toNat, none⟩ (.int .i64 (wrap64 ((rd y406 a2_2) + 1))))) ?hg ?ho ?hn ?hr ?_; (case ho => rfl); (case hg => rfl); (case hn => rfl); (case hr => first | (go_simp; done) | (go_simp; rfl)); intro w40 hw; have hg : w37.grownBy w40 (some go31) := (by rw [hw]; exact HP39.2); have hp_ : Kd.R (Kd.int .i64) 3 w40 w.heap.size (fun _ => True) (.slice (some ⟨go31, 0, none⟩) y406.length co38) y410 := (by rw [hw, Ny410.out]; exact HP39.1); clear HP39; have n0_ := Aside0.mk (blk_grown (g := gb397) (o := .cells #[.int .i64 a2_0, .int .i64 a2_1, .int .i64 a2_2] 44 (0, 0)) (by (with_reducible repeat (first | refine blk_drewN ?_ _ | refine blk_drew ?_ | refine blk_alloc ?_ _)); exact BK397.out) hg (Kd.R_ne HO408.out BK397.out (by decide))); have n1_ := Aside0.mk (hp_); have n2_ := Aside0.mk ((by rw [hw]; exact below_set (HB.out) GB31.out : Below w.heap.size w w40)); clear BK397; clear HO408; clear HB; have BK397 := n0_; have HO408 := n1_; have HB := n2_; clear n0_ n1_ n2_; clear hg hw hp_) | (go_at_call 16; (with_reducible refine (protection_Guarded.calls kj15 _ _ l0 _ _ l1 a2_0 a2_1 false true _ ?side1 ?side2 ?side3 ?side4 A32.out).mono ?_); (case side1 => repeat (first | exact (Kd.C_below HR0.out HB.out) | (with_reducible refine Kd.C_alloc ?_ _) | (with_reducible refine Kd.C_drewN ?_ _) | (with_reducible refine Kd.C_drew ?_))); (case side2 => exact HC0.out); (case side3 => repeat (first | exact (Kd.C_below HR1.out HB.out) | (with_reducible refine Kd.C_alloc ?_ _) | (with_reducible refine Kd.C_drewN ?_ _) | (with_reducible refine Kd.C_drew ?_))); (case side4 => exact HC1.out); rintro e w41 ⟨rfl, hb⟩; have n0_ := Aside0.mk (Kd.R_below (by (with_reducible repeat (first | apply Kd.R_alloc | apply Kd.R_drewN | apply Kd.R_drew)); exact HO408.out) hb); have n1_ := Aside0.mk (blk_below (g := gb397) (o := .cells #[.int .i64 a2_0, .int .i64 a2_1, .int .i64 a2_2] 44 (0, 0)) (by (with_reducible repeat (first | refine blk_drewN ?_ _ | refine blk_drew ?_ | refine blk_alloc ?_ _)); exact BK397.out) hb); have n2_ := Aside0.mk (below_step (by repeat (first | (with_reducible first | exact HB.out | apply below_alloc | apply pw_below_drewN | apply below_drew1 | refine below_set ?_ GE397.out) | exact HB.out)) hb); clear HO408; clear BK397; clear HB; have HO408 := n0_; have BK397 := n1_; have HB := n2_; clear n0_ n1_ n2_; (try clear hb); (try clear hb2); (try clear hk); (try clear hi)) | (go_at_call 16; refine calls_of_args (args' := #[.slice A0 l0.length c0, .slice (some ⟨go31, 0, none⟩) y410.length co38, .int .i64 a2_0, .int .i64 a2_1, .bool false]) (by first | (rw [show y410.length = y406.length from (Kd.R_reads' HO408.out).1.symm] <;> rfl) | rfl) ?_; (with_reducible refine (protection_Guarded.calls kj15 _ _ l0 _ _ y410 a2_0 a2_1 false t412 _ ?side1 ?side2 ?side3 ?side4 A34.out).mono ?_); (case side1 => repeat (first | exact (Kd.C_below HR0.out HB.out) | (with_reducible refine Kd.C_alloc ?_ _) | (with_reducible refine Kd.C_drewN ?_ _) | (with_reducible refine Kd.C_drew ?_))); (case side2 => exact HC0.out); (case side3 => repeat (first | exact (Kd.R_reads' HO408.out).2.2 | (with_reducible refine Kd.C_alloc ?_ _) | (with_reducible refine Kd.C_drewN ?_ _) | (with_reducible refine Kd.C_drew ?_))); (case side4 => rw [show y410.length = y406.length from (Kd.R_reads' HO408.out).1.symm]; exact (Kd.R_reads' HO408.out).2.1); rintro e w42 ⟨rfl, hb⟩; have n0_ := Aside0.mk (Kd.R_below (by (with_reducible repeat (first | apply Kd.R_alloc | apply Kd.R_drewN | apply Kd.R_drew)); exact HO408.out) hb); have n1_ := Aside0.mk (blk_below (g := gb397) (o := .cells #[.int .i64 a2_0, .int .i64 a2_1, .int .i64 a2_2] 44 (0, 0)) (by (with_reducible repeat (first | refine blk_drewN ?_ _ | refine blk_drew ?_ | refine blk_alloc ?_ _)); exact BK397.out) hb); have n2_ := Aside0.mk (below_step (by repeat (first | (with_reducible first | exact HB.out | apply below_alloc | apply pw_below_drewN | apply below_drew1 | refine below_set ?_ GE397.out) | exact HB.out)) hb); clear HO408; clear BK397; clear HB; have HO408 := n0_; have BK397 := n1_; have HB := n2_; clear n0_ n1_ n2_; (try clear hb); (try clear hb2); (try clear hk); (try clear hi))))
           go_ret
           exact ⟨by first | rfl | (simp [errW_none, errW_some] <;> rfl) | (simp [*, errW_none, errW_some] <;> rfl), by repeat (first | (with_reducible first | exact HB.out | apply below_alloc | apply pw_below_drewN | apply below_drew1 | refine below_set ?_ GE397.out) | exact HB.out)⟩
          ·
           replace c33 := Bool.eq_false_iff.mpr c33
           subst c33
           have H1 : (some true) = some r := by rw [if_neg (show ¬ (false = true) by decide)] at H; exact H
           clear H
           have H := H1
           clear H1
           obtain rfl := Option.some.inj H
           go_wp2_with (first | ((with_reducible refine gate_dst (N := 74) rfl ?_); (try (refine gate_guard (by rfl) ?_; dsimp only)); refine Kd.R_lit (Kd.int .i64) _ 3 ?hg (N := 74) ?hd (xs := ([] : List Int)) (inner := []) (ok := fun _ => True) (okp := fun _ => True) ?hr ?hp (fun _ hk => hk) trivial (Below.refl _ _) (Nat.le_refl _) (by simp) ?_; (case hd => rfl); (case hg => rfl); (case hr => first | (go_simp; done) | (go_simp; rfl)); (case hp => exact (Reps.none _ _)); intro v404 w43 ho44 hb hg_ hnew_; clear hg_ hnew_; (first | rw [← Ny403.out] at ho44 | (simp only [Int.reduceToNat] at ho44; rw [← Ny403.out] at ho44)); have n0_ := Aside0.mk (Kd.R_lower ho44 (below_size (by repeat (first | (with_reducible first | exact HB.out | apply below_alloc | apply pw_below_drewN | apply below_drew1 | refine below_set ?_ GE397.out) | exact HB.out)))); have n1_ := Aside0.mk (blk_below (g := gb397) (o := .cells #[.int .i64 a2_0, .int .i64 a2_1, .int .i64 a2_2] 44 (0, 0)) (by (with_reducible repeat (first | refine blk_drewN ?_ _ | refine blk_drew ?_ | refine blk_alloc ?_ _)); exact BK397.out) hb); have n2_ := Aside0.mk (below_step (by repeat (first | (with_reducible first | exact HB.out | apply below_alloc | apply pw_below_drewN | apply below_drew1 | refine below_set ?_ GE397.out) | exact HB.out)) hb); clear BK397; clear HB; have HO405 := n0_; have BK397 := n1_; have HB := n2_; clear n0_ n1_ n2_; clear hb ho44) | ((with_reducible refine gate_builtin (b := .append) (xs := #[.tmp 74, .tmp 75]) rfl ?_); (try (refine gate_guard (by rfl) ?_; dsimp only)); at_builtin; refine Kd.R_append_rows (Kd.int .i64) (w0 := w) w.heap.size rfl (.tmp 74) (.tmp 75) 25 3 (.int .i64 0) 8 rfl Try.underlying25 info3 rfl (by decide) (by omega) v404 y403 l1 _ _ _ (fun _ => True) (fun _ => False) rfl rfl ?aO ?aR (fun _ _ h => h) (fun _ h => h.elim) ?aF ?aB ?aS ?aL ?_; (case aR => repeat (first | exact (Kd.C_below HR1.out HB.out) | (with_reducible refine Kd.C_alloc ?_ _) | (with_reducible refine Kd.C_drewN ?_ _) | (with_reducible refine Kd.C_drew ?_))); (case aB => exact (by repeat (first | (with_reducible first | exact HB.out | apply below_alloc | apply pw_below_drewN | apply below_drew1 | refine below_set ?_ GE397.out) | exact HB.out))); (case aF => exact (fun _ _ => trivial)); (case aO => exact (by (with_reducible repeat (first | apply Kd.R_alloc | apply Kd.R_drewN | apply Kd.R_drew)); exact HO405.out)); (case aS => exact (below_size (by repeat (first | (with_reducible first | exact HB.out | apply below_alloc | apply pw_below_drewN | apply below_drew1 | refine below_set ?_ GE397.out) | exact HB.out)))); (case aL => have := LMc28.out; omega); intro v407 w45 ho hb hg hat; rw [← Ny406.out] at ho; have n0_ := Aside0.mk (blk_grown (g := gb397) (o := .cells #[.int .i64 a2_0, .int .i64 a2_1, .int .i64 a2_2] 44 (0, 0)) (by (with_reducible repeat (first | refine blk_drewN ?_ _ | refine blk_drew ?_ | refine blk_alloc ?_ _)); exact BK397.out) hg (Kd.R_ne HO405.out BK397.out (by decide))); have n1_ := Aside0.mk (hb); have n2_ := Aside0.mk (ho); clear BK397; clear HB; clear HO405; have BK397 := n0_; have HB := n1_; have HO408 := n2_; clear n0_ n1_ n2_; clear ho hb hg hat; obtain ⟨Ao46, co46, eo46⟩ := Kd.R_slice HO408.out; subst eo46; have p409 : 0 ≤ (a2_2 : Int) := of_decide_eq_true (by first | (with_reducible assumption) | assumption); have q409 : a2_2 < (y406.length : Int) := of_decide_eq_true (by first | (with_reducible assumption) | assumption); obtain ⟨ad409, e409, hx409_0⟩ := Kd.at_int (Kd.R_reads' HO408.out).2.2 a2_2 p409 q409; cases e409; replace p409 := eq_true p409; replace q409 := eq_true q409; have p31 : 0 ≤ (a2_2 : Int) := of_decide_eq_true (by first | (with_reducible assumption) | assumption); have q31 : (a2_2 : Int) < ((y406.length : Int) : Int) := of_decide_eq_true (by first | (with_reducible assumption) | assumption); obtain ⟨go31, co31, eo31, gb31, gl31, cl31, HG31⟩ := Kd.R_form HO408.out (by omega); (first | cases eo31 | (injection eo31 with ea_ en_ ec_; (first | subst ea_ | (injection ea_ with ea_; subst ea_)); subst ec_; clear en_)); have GB31 := Aside0.mk gb31; have GG31 := Aside0.mk HG31; clear gb31 gl31 HG31; (first | simp only [add_plain] at hx409_0 | skip); obtain ⟨hx31_0, hf31_0⟩ := Kd.R_celln 0 HO408.out (a2_2 : Int) p31 q31; replace p31 := eq_true p31; replace q31 := eq_true q31; obtain ⟨hy47_, hz47_⟩ := Kd.R_celln 0 HO408.out (a2_2 : Int) (of_decide_eq_true (by first | (with_reducible assumption) | assumption)) (of_decide_eq_true (by first | (with_reducible assumption) | assumption)); have HP47 := Kd.R_putg HO408.out (a2_2 : Int) (wrap64 ((rd y406 a2_2) + 1))) | ((with_reducible refine gate_store (t := 3) (p := 82) rfl ?_); (try (rw [drewN_self w45]; generalize hq_ : World.drewN w45 _ = w45; have n0_ := Aside0.mk (Kd.R_at hq_ HO408.out); have n1_ := Aside0.mk (blk_at hq_ BK397.out); have n2_ := Aside0.mk (below_at hq_ HB.out); clear hq_ HO408 BK397 HB; have HO408 := n0_; have BK397 := n1_; have HB := n2_; clear n0_ n1_ n2_; (try (obtain ⟨hy47_, hz47_⟩ := Kd.R_celln 0 HO408.out (a2_2 : Int) (of_decide_eq_true (by first | (with_reducible assumption) | assumption)) (of_decide_eq_true (by first | (with_reducible assumption) | assumption)))); (try (have HP47 := Kd.R_putg HO408.out (a2_2 : Int) (wrap64 ((rd y406 a2_2) + 1)))))); refine store_event (t := 3) (p := 82) (v := ?vo_w48) (w1 := (w45.setCell ⟨go31, (a2_2 : Int).toNat, none⟩ (.int .i64 (wrap64 ((rd y406 a2_2) + 1))))) ?hg ?ho ?hn ?hr ?_; (case ho => rfl); (case hg => rfl); (case hn => rfl); (case hr => first | (go_simp; done) | (go_simp; rfl)); intro w48 hw; have hg : w45.grownBy w48 (some go31) := (by rw [hw]; exact HP47.2); have hp_ : Kd.R (Kd.int .i64) 3 w48 w.heap.size (fun _ => True) (.slice (some ⟨go31, 0, none⟩) y406.length co46) y410 := (by rw [hw, Ny410.out]; exact HP47.1); clear HP47; have n0_ := Aside0.mk (blk_grown (g := gb397) (o := .cells #[.int .i64 a2_0, .int .i64 a2_1, .int .i64 a2_2] 44 (0, 0)) (by (with_reducible repeat (first | refine blk_drewN ?_ _ | refine blk_drew ?_ | refine blk_alloc ?_ _)); exact BK397.out) hg (Kd.R_ne HO408.out BK397.out (by decide))); have n1_ := Aside0.mk (hp_); have n2_ := Aside0.mk ((by rw [hw]; exact below_set (HB.out) GB31.out : Below w.heap.size w w48)); clear BK397; clear HO408; clear HB; have BK397 := n0_; have HO408 := n1_; have HB := n2_; clear n0_ n1_ n2_; clear hg hw hp_) | (go_at_call 16; (with_reducible refine (protection_Guarded.calls kj15 _ _ l0 _ _ l1 a2_0 a2_1 false false _ ?side1 ?side2 ?side3 ?side4 A32.out).mono ?_); (case side1 => repeat (first | exact (Kd.C_below HR0.out HB.out) | (with_reducible refine Kd.C_alloc ?_ _) | (with_reducible refine Kd.C_drewN ?_ _) | (with_reducible refine Kd.C_drew ?_))); (case side2 => exact HC0.out); (case side3 => repeat (first | exact (Kd.C_below HR1.out HB.out) | (with_reducible refine Kd.C_alloc ?_ _) | (with_reducible refine Kd.C_drewN ?_ _) | (with_reducible refine Kd.C_drew ?_))); (case side4 => exact HC1.out); rintro e w49 ⟨rfl, hb⟩; have n0_ := Aside0.mk (Kd.R_below (by (with_reducible repeat (first | apply Kd.R_alloc | apply Kd.R_drewN | apply Kd.R_drew)); exact HO408.out) hb); have n1_ := Aside0.mk (blk_below (g := gb397) (o := .cells #[.int .i64 a2_0, .int .i64 a2_1, .int .i64 a2_2] 44 (0, 0)) (by (with_reducible repeat (first | refine blk_drewN ?_ _ | refine blk_drew ?_ | refine blk_alloc ?_ _)); exact BK397.out) hb); have n2_ := Aside0.mk (below_step (by repeat (first | (with_reducible first | exact HB.out | apply below_alloc | apply pw_below_drewN | apply below_drew1 | refine below_set ?_ GE397.out) | exact HB.out)) hb); clear HO408; clear BK397; clear HB; have HO408 := n0_; have BK397 := n1_; have HB := n2_; clear n0_ n1_ n2_; (try clear hb); (try clear hb2); (try clear hk); (try clear hi)))
           repeat (go_quiet (first | ((with_reducible refine gate_dst (N := 74) rfl ?_); (try (refine gate_guard (by rfl) ?_; dsimp only)); refine Kd.R_lit (Kd.int .i64) _ 3 ?hg (N := 74) ?hd (xs := ([] : List Int)) (inner := []) (ok := fun _ => True) (okp := fun _ => True) ?hr ?hp (fun _ hk => hk) trivial (Below.refl _ _) (Nat.le_refl _) (by simp) ?_; (case hd => rfl); (case hg => rfl); (case hr => first | (go_simp; done) | (go_simp; rfl)); (case hp => exact (Reps.none _ _)); intro v404 w43 ho44 hb hg_ hnew_; clear hg_ hnew_; (first | rw [← Ny403.out] at ho44 | (simp only [Int.reduceToNat] at ho44; rw [← Ny403.out] at ho44)); have n0_ := Aside0.mk (Kd.R_lower ho44 (below_size (by repeat (first | (with_reducible first | exact HB.out | apply below_alloc | apply pw_below_drewN | apply below_drew1 | refine below_set ?_ GE397.out) | exact HB.out)))); have n1_ := Aside0.mk (blk_below (g := gb397) (o := .cells #[.int .i64 a2_0, .int .i64 a2_1, .int .i64 a2_2] 44 (0, 0)) (by (with_reducible repeat (first | refine blk_drewN ?_ _ | refine blk_drew ?_ | refine blk_alloc ?_ _)); exact BK397.out) hb); have n2_ := Aside0.mk (below_step (by repeat (first | (with_reducible first | exact HB.out | apply below_alloc | apply pw_below_drewN | apply below_drew1 | refine below_set ?_ GE397.out) | exact HB.out)) hb); clear BK397; clear HB; have HO405 := n0_; have BK397 := n1_; have HB := n2_; clear n0_ n1_ n2_; clear hb ho44) | ((with_reducible refine gate_builtin (b := .append) (xs := #[.tmp 74, .tmp 75]) rfl ?_); (try (refine gate_guard (by rfl) ?_; dsimp only)); at_builtin; refine Kd.R_append_rows (Kd.int .i64) (w0 := w) w.heap.size rfl (.tmp 74) (.tmp 75) 25 3 (.int .i64 0) 8 rfl Try.underlying25 info3 rfl (by decide) (by omega) v404 y403 l1 _ _ _ (fun _ => True) (fun _ => False) rfl rfl ?aO ?aR (fun _ _ h => h) (fun _ h => h.elim) ?aF ?aB ?aS ?aL ?_; (case aR => repeat (first | exact (Kd.C_below HR1.out HB.out) | (with_reducible refine Kd.C_alloc ?_ _) | (with_reducible refine Kd.C_drewN ?_ _) | (with_reducible refine Kd.C_drew ?_))); (case aB => exact (by repeat (first | (with_reducible first | exact HB.out | apply below_alloc | apply pw_below_drewN | apply below_drew1 | refine below_set ?_ GE397.out) | exact HB.out))); (case aF => exact (fun _ _ => trivial)); (case aO => exact (by (with_reducible repeat (first | apply Kd.R_alloc | apply Kd.R_drewN | apply Kd.R_drew)); exact HO405.out)); (case aS => exact (below_size (by repeat (first | (with_reducible first | exact HB.out | apply below_alloc | apply pw_below_drewN | apply below_drew1 | refine below_set ?_ GE397.out) | exact HB.out)))); (case aL => have := LMc28.out; omega); intro v407 w45 ho hb hg hat; rw [← Ny406.out] at ho; have n0_ := Aside0.mk (blk_grown (g := gb397) (o := .cells #[.int .i64 a2_0, .int .i64 a2_1, .int .i64 a2_2] 44 (0, 0)) (by (with_reducible repeat (first | refine blk_drewN ?_ _ | refine blk_drew ?_ | refine blk_alloc ?_ _)); exact BK397.out) hg (Kd.R_ne HO405.out BK397.out (by decide))); have n1_ := Aside0.mk (hb); have n2_ := Aside0.mk (ho); clear BK397; clear HB; clear HO405; have BK397 := n0_; have HB := n1_; have HO408 := n2_; clear n0_ n1_ n2_; clear ho hb hg hat; obtain ⟨Ao46, co46, eo46⟩ := Kd.R_slice HO408.out; subst eo46; have p409 : 0 ≤ (a2_2 : Int) := of_decide_eq_true (by first | (with_reducible assumption) | assumption); have q409 : a2_2 < (y406.length : Int) := of_decide_eq_true (by first | (with_reducible assumption) | assumption); obtain ⟨ad409, e409, hx409_0⟩ := Kd.at_int (Kd.R_reads' HO408.out).2.2 a2_2 p409 q409; cases e409; replace p409 := eq_true p409; replace q409 := eq_true q409; have p31 : 0 ≤ (a2_2 : Int) := of_decide_eq_true (by first | (with_reducible assumption) | assumption); have q31 : (a2_2 : Int) < ((y406.length : Int) : Int) := of_decide_eq_true (by first | (with_reducible assumption) | assumption); obtain ⟨go31, co31, eo31, gb31, gl31, cl31, HG31⟩ := Kd.R_form HO408.out (by omega); (first | cases eo31 | (injection eo31 with ea_ en_ ec_; (first | subst ea_ | (injection ea_ with ea_; subst ea_)); subst ec_; clear en_)); have GB31 := Aside0.mk gb31; have GG31 := Aside0.mk HG31; clear gb31 gl31 HG31; (first | simp only [add_plain] at hx409_0 | skip); obtain ⟨hx31_0, hf31_0⟩ := Kd.R_celln 0 HO408.out (a2_2 : Int) p31 q31; replace p31 := eq_true p31; replace q31 := eq_true q31; obtain ⟨hy47_, hz47_⟩ := Kd.R_celln 0 HO408.out (a2_2 : Int) (of_decide_eq_true (by first | (with_reducible assumption) | assumption)) (of_decide_eq_true (by first | (with_reducible assumption) | assumption)); have HP47 := Kd.R_putg HO408.out (a2_2 : Int) (wrap64 ((rd y406 a2_2) + 1))) | ((with_reducible refine gate_store (t := 3) (p := 82) rfl ?_); (try (rw [drewN_self w45]; generalize hq_ : World.drewN w45 _ = w45; have n0_ := Aside0.mk (Kd.R_at hq_ HO408.out); have n1_ := Aside0.mk (blk_at hq_ BK397.out); have n2_ := Aside0.mk (below_at hq_ HB.out); clear hq_ HO408 BK397 HB; have HO408 := n0_; have BK397 := n1_; have HB := n2_; clear n0_ n1_ n2_; (try (obtain ⟨hy47_, hz47_⟩ := Kd.R_celln 0 HO408.out (a2_2 : Int) (of_decide_eq_true (by first | (with_reducible assumption) | assumption)) (of_decide_eq_true (by first | (with_reducible assumption) | assumption)))); (try (have HP47 := Kd.R_putg HO408.out (a2_2 : Int) (wrap64 ((rd y406 a2_2) + 1)))))); refine store_event (t := 3) (p := 82) (v := ?vo_w48) (w1 := (w45.setCell ⟨go31, (a2_2 : Int).toNat, none⟩ (.int .i64 (wrap64 ((rd y406 a2_2) + 1))))) ?hg ?ho ?hn ?hr ?_; (case ho => rfl); (case hg => rfl); (case hn => rfl); (case hr => first | (go_simp; done) | (go_simp; rfl)); intro w48 hw; have hg : w45.grownBy w48 (some go31) := (by rw [hw]; exact HP47.2); have hp_ : Kd.R (Kd.int .i64) 3 w48 w.heap.size (fun _ => True) (.slice (some ⟨go31, 0, none⟩) y406.length co46) y410 := (by rw [hw, Ny410.out]; exact HP47.1); clear HP47; have n0_ := Aside0.mk (blk_grown (g := gb397) (o := .cells #[.int .i64 a2_0, .int .i64 a2_1, .int .i64 a2_2] 44 (0, 0)) (by (with_reducible repeat (first | refine blk_drewN ?_ _ | refine blk_drew ?_ | refine blk_alloc ?_ _)); exact BK397.out) hg (Kd.R_ne HO408.out BK397.out (by decide))); have n1_ := Aside0.mk (hp_); have n2_ := Aside0.mk ((by rw [hw]; exact below_set (HB.out) GB31.out : Below w.heap.size w w48)); clear BK397; clear HO408; clear HB; have BK397 := n0_; have HO408 := n1_; have HB := n2_; clear n0_ n1_ n2_; clear hg hw hp_) | (go_at_call 16; (with_reducible refine (protection_Guarded.calls kj15 _ _ l0 _ _ l1 a2_0 a2_1 false false _ ?side1 ?side2 ?side3 ?side4 A32.out).mono ?_); (case side1 => repeat (first | exact (Kd.C_below HR0.out HB.out) | (with_reducible refine Kd.C_alloc ?_ _) | (with_reducible refine Kd.C_drewN ?_ _) | (with_reducible refine Kd.C_drew ?_))); (case side2 => exact HC0.out); (case side3 => repeat (first | exact (Kd.C_below HR1.out HB.out) | (with_reducible refine Kd.C_alloc ?_ _) | (with_reducible refine Kd.C_drewN ?_ _) | (with_reducible refine Kd.C_drew ?_))); (case side4 => exact HC1.out); rintro e w49 ⟨rfl, hb⟩; have n0_ := Aside0.mk (Kd.R_below (by (with_reducible repeat (first | apply Kd.R_alloc | apply Kd.R_drewN | apply Kd.R_drew)); exact HO408.out) hb); have n1_ := Aside0.mk (blk_below (g := gb397) (o := .cells #[.int .i64 a2_0, .int .i64 a2_1, .int .i64 a2_2] 44 (0, 0)) (by (with_reducible repeat (first | refine blk_drewN ?_ _ | refine blk_drew ?_ | refine blk_alloc ?_ _)); exact BK397.out) hb); have n2_ := Aside0.mk (below_step (by repeat (first | (with_reducible first | exact HB.out | apply below_alloc | apply pw_below_drewN | apply below_drew1 | refine below_set ?_ GE397.out) | exact HB.out)) hb); clear HO408; clear BK397; clear HB; have HO408 := n0_; have BK397 := n1_; have HB := n2_; clear n0_ n1_ n2_; (try clear hb); (try clear hb2); (try clear hk); (try clear hi))); try go_wp2_with (first | ((with_reducible refine gate_dst (N := 74) rfl ?_); (try (refine gate_guard (by rfl) ?_; dsimp only)); refine Kd.R_lit (Kd.int .i64) _ 3 ?hg (N := 74) ?hd (xs := ([] : List Int)) (inner := []) (ok := fun _ => True) (okp := fun _ => True) ?hr ?hp (fun _ hk => hk) trivial (Below.refl _ _) (Nat.le_refl _) (by simp) ?_; (case hd => rfl); (case hg => rfl); (case hr => first | (go_simp; done) | (go_simp; rfl)); (case hp => exact (Reps.none _ _)); intro v404 w43 ho44 hb hg_ hnew_; clear hg_ hnew_; (first | rw [← Ny403.out] at ho44 | (simp only [Int.reduceToNat] at ho44; rw [← Ny403.out] at ho44)); have n0_ := Aside0.mk (Kd.R_lower ho44 (below_size (by repeat (first | (with_reducible first | exact HB.out | apply below_alloc | apply pw_below_drewN | apply below_drew1 | refine below_set ?_ GE397.out) | exact HB.out)))); have n1_ := Aside0.mk (blk_below (g := gb397) (o := .cells #[.int .i64 a2_0, .int .i64 a2_1, .int .i64 a2_2] 44 (0, 0)) (by (with_reducible repeat (first | refine blk_drewN ?_ _ | refine blk_drew ?_ | refine blk_alloc ?_ _)); exact BK397.out) hb); have n2_ := Aside0.mk (below_step (by repeat (first | (with_reducible first | exact HB.out | apply below_alloc | apply pw_below_drewN | apply below_drew1 | refine below_set ?_ GE397.out) | exact HB.out)) hb); clear BK397; clear HB; have HO405 := n0_; have BK397 := n1_; have HB := n2_; clear n0_ n1_ n2_; clear hb ho44) | ((with_reducible refine gate_builtin (b := .append) (xs := #[.tmp 74, .tmp 75]) rfl ?_); (try (refine gate_guard (by rfl) ?_; dsimp only)); at_builtin; refine Kd.R_append_rows (Kd.int .i64) (w0 := w) w.heap.size rfl (.tmp 74) (.tmp 75) 25 3 (.int .i64 0) 8 rfl Try.underlying25 info3 rfl (by decide) (by omega) v404 y403 l1 _ _ _ (fun _ => True) (fun _ => False) rfl rfl ?aO ?aR (fun _ _ h => h) (fun _ h => h.elim) ?aF ?aB ?aS ?aL ?_; (case aR => repeat (first | exact (Kd.C_below HR1.out HB.out) | (with_reducible refine Kd.C_alloc ?_ _) | (with_reducible refine Kd.C_drewN ?_ _) | (with_reducible refine Kd.C_drew ?_))); (case aB => exact (by repeat (first | (with_reducible first | exact HB.out | apply below_alloc | apply pw_below_drewN | apply below_drew1 | refine below_set ?_ GE397.out) | exact HB.out))); (case aF => exact (fun _ _ => trivial)); (case aO => exact (by (with_reducible repeat (first | apply Kd.R_alloc | apply Kd.R_drewN | apply Kd.R_drew)); exact HO405.out)); (case aS => exact (below_size (by repeat (first | (with_reducible first | exact HB.out | apply below_alloc | apply pw_below_drewN | apply below_drew1 | refine below_set ?_ GE397.out) | exact HB.out)))); (case aL => have := LMc28.out; omega); intro v407 w45 ho hb hg hat; rw [← Ny406.out] at ho; have n0_ := Aside0.mk (blk_grown (g := gb397) (o := .cells #[.int .i64 a2_0, .int .i64 a2_1, .int .i64 a2_2] 44 (0, 0)) (by (with_reducible repeat (first | refine blk_drewN ?_ _ | refine blk_drew ?_ | refine blk_alloc ?_ _)); exact BK397.out) hg (Kd.R_ne HO405.out BK397.out (by decide))); have n1_ := Aside0.mk (hb); have n2_ := Aside0.mk (ho); clear BK397; clear HB; clear HO405; have BK397 := n0_; have HB := n1_; have HO408 := n2_; clear n0_ n1_ n2_; clear ho hb hg hat; obtain ⟨Ao46, co46, eo46⟩ := Kd.R_slice HO408.out; subst eo46; have p409 : 0 ≤ (a2_2 : Int) := of_decide_eq_true (by first | (with_reducible assumption) | assumption); have q409 : a2_2 < (y406.length : Int) := of_decide_eq_true (by first | (with_reducible assumption) | assumption); obtain ⟨ad409, e409, hx409_0⟩ := Kd.at_int (Kd.R_reads' HO408.out).2.2 a2_2 p409 q409; cases e409; replace p409 := eq_true p409; replace q409 := eq_true q409; have p31 : 0 ≤ (a2_2 : Int) := of_decide_eq_true (by first | (with_reducible assumption) | assumption); have q31 : (a2_2 : Int) < ((y406.length : Int) : Int) := of_decide_eq_true (by first | (with_reducible assumption) | assumption); obtain ⟨go31, co31, eo31, gb31, gl31, cl31, HG31⟩ := Kd.R_form HO408.out (by omega); (first | cases eo31 | (injection eo31 with ea_ en_ ec_; (first | subst ea_ | (injection ea_ with ea_; subst ea_)); subst ec_; clear en_)); have GB31 := Aside0.mk gb31; have GG31 := Aside0.mk HG31; clear gb31 gl31 HG31; (first | simp only [add_plain] at hx409_0 | skip); obtain ⟨hx31_0, hf31_0⟩ := Kd.R_celln 0 HO408.out (a2_2 : Int) p31 q31; replace p31 := eq_true p31; replace q31 := eq_true q31; obtain ⟨hy47_, hz47_⟩ := Kd.R_celln 0 HO408.out (a2_2 : Int) (of_decide_eq_true (by first | (with_reducible assumption) | assumption)) (of_decide_eq_true (by first | (with_reducible assumption) | assumption)); have HP47 := Kd.R_putg HO408.out (a2_2 : Int) (wrap64 ((rd y406 a2_2) + 1))) | ((with_reducible refine gate_store (t := 3) (p := 82) rfl ?_); (try (rw [drewN_self w45]; generalize hq_ : World.drewN w45 _ = w45; have n0_ := Aside0.mk (Kd.R_at hq_ HO408.out); have n1_ := Aside0.mk (blk_at hq_ BK397.out); have n2_ := Aside0.mk (below_at hq_ HB.out); clear hq_ HO408 BK397 HB; have HO408 := n0_; have BK397 := n1_; have HB := n2_; clear n0_ n1_ n2_; (try (obtain ⟨hy47_, hz47_⟩ := Kd.R_celln 0 HO408.out (a2_2 : Int) (of_decide_eq_true (by first | (with_reducible assumption) | assumption)) (of_decide_eq_true (by first | (with_reducible assumption) | assumption)))); (try (have HP47 := Kd.R_putg HO408.out (a2_2 : Int) (wrap64 ((rd y406 a2_2) + 1)))))); refine store_event (t := 3) (p := 82) (v := ?vo_w48) (w1 := (w45.setCell ⟨go31, (a2_2 : Int).toNat, none⟩ (.int .i64 (wrap64 ((rd y406 a2_2) + 1))))) ?hg ?ho ?hn ?hr ?_; (case ho => rfl); (case hg => rfl); (case hn => rfl); (case hr => first | (go_simp; done) | (go_simp; rfl)); intro w48 hw; have hg : w45.grownBy w48 (some go31) := (by rw [hw]; exact HP47.2); have hp_ : Kd.R (Kd.int .i64) 3 w48 w.heap.size (fun _ => True) (.slice (some ⟨go31, 0, none⟩) y406.length co46) y410 := (by rw [hw, Ny410.out]; exact HP47.1); clear HP47; have n0_ := Aside0.mk (blk_grown (g := gb397) (o := .cells #[.int .i64 a2_0, .int .i64 a2_1, .int .i64 a2_2] 44 (0, 0)) (by (with_reducible repeat (first | refine blk_drewN ?_ _ | refine blk_drew ?_ | refine blk_alloc ?_ _)); exact BK397.out) hg (Kd.R_ne HO408.out BK397.out (by decide))); have n1_ := Aside0.mk (hp_); have n2_ := Aside0.mk ((by rw [hw]; exact below_set (HB.out) GB31.out : Below w.heap.size w w48)); clear BK397; clear HO408; clear HB; have BK397 := n0_; have HO408 := n1_; have HB := n2_; clear n0_ n1_ n2_; clear hg hw hp_) | (go_at_call 16; (with_reducible refine (protection_Guarded.calls kj15 _ _ l0 _ _ l1 a2_0 a2_1 false false _ ?side1 ?side2 ?side3 ?side4 A32.out).mono ?_); (case side1 => repeat (first | exact (Kd.C_below HR0.out HB.out) | (with_reducible refine Kd.C_alloc ?_ _) | (with_reducible refine Kd.C_drewN ?_ _) | (with_reducible refine Kd.C_drew ?_))); (case side2 => exact HC0.out); (case side3 => repeat (first | exact (Kd.C_below HR1.out HB.out) | (with_reducible refine Kd.C_alloc ?_ _) | (with_reducible refine Kd.C_drewN ?_ _) | (with_reducible refine Kd.C_drew ?_))); (case side4 => exact HC1.out); rintro e w49 ⟨rfl, hb⟩; have n0_ := Aside0.mk (Kd.R_below (by (with_reducible repeat (first | apply Kd.R_alloc | apply Kd.R_drewN | apply Kd.R_drew)); exact HO408.out) hb); have n1_ := Aside0.mk (blk_below (g := gb397) (o := .cells #[.int .i64 a2_0, .int .i64 a2_1, .int .i64 a2_2] 44 (0, 0)) (by (with_reducible repeat (first | refine blk_drewN ?_ _ | refine blk_drew ?_ | refine blk_alloc ?_ _)); exact BK397.out) hb); have n2_ := Aside0.mk (below_step (by repeat (first | (with_reducible first | exact HB.out | apply below_alloc | apply pw_below_drewN | apply below_drew1 | refine below_set ?_ GE397.out) | exact HB.out)) hb); clear HO408; clear BK397; clear HB; have HO408 := n0_; have BK397 := n1_; have HB := n2_; clear n0_ n1_ n2_; (try clear hb); (try clear hb2); (try clear hk); (try clear hi))))
           go_ret
           exact ⟨by first | rfl | (simp [errW_none, errW_some] <;> rfl) | (simp [*, errW_none, errW_some] <;> rfl), by repeat (first | (with_reducible first | exact HB.out | apply below_alloc | apply pw_below_drewN | apply below_drew1 | refine below_set ?_ GE397.out) | exact HB.out)⟩
         ·
          rw [if_neg c30] at H
          exact absurd H (by simp)
        ·
         rw [if_neg c29] at H
         exact absurd H (by simp)
       ·
        rw [if_neg c28] at H
        exact absurd H (by simp)
end Go.Proofs.Ytilcbkengmggdaa.Pr
