-- Written by a program of this session (a changed copy of the kit's printer). Not trusted: Lean checks it.
import Derived.Test.YteldbkdfphiogaaM0
import Derived.Test.YteldbkdfphiogaaFapiCowPage30
import Derived.Test.YteldbkdfphiogaaFcowown
namespace Go.Proofs.Yteldbkdfphiogaa.Pr
open Go.RowKit Go.Proofs.YteldbkdfphiogaaW.PrintWords Go.Proofs.YteldbkdfphiogaaW.PrintLast Go.Proofs.YteldbkdfphiogaaW.PrintMore
attribute [local go_sem] max2_int min2_int max_two min_two max_three min_three max_four min_four
set_option linter.unusedVariables false
set_option linter.unusedSimpArgs false
/-! ### cow_New: function 11 -/
def cow_New.f (k : Nat) (a0 a1 : Int) : Option (Int × List (S62) × List (S57) × Int × Int) := if a0 < 1 ∨ 256 < a0 ∨ a1 < 1 ∨ 512 < a1 then some (0, [], [], 0, 2) else some (a1, [⟨true, List.replicate a1.toNat ⟨-1, false⟩⟩], List.replicate a0.toNat ⟨0, 0⟩, 0, 0)
theorem cow_New.mono : ∀ a0 a1 k, LeO (cow_New.f k a0 a1) (cow_New.f (k + 1) a0 a1) := fun _ _ _ => LeO.refl _
set_option maxRecDepth 100000 in
set_option maxHeartbeats 4000000 in
theorem cow_New.calls (k : Nat) (a0 a1 : Int) (r1 : Int) (r2 : List (S62)) (r3 : List (S57)) (r4 r5 : Int) (w : World) (h : cow_New.f k a0 a1 = some (r1, r2, r3, r4, r5)) :
    Calls Try.prog 11 #[.int .i64 a0, .int .i64 a1] w fun e w' => ∃ v1_ v2_ : Value, e = .returned (.tuple #[.agg #[.int .i64 r1, v1_, v2_, .int .i64 r4], .int .i64 r5]) ∧ Kd.S k62 62 w' w.heap.size (fun _ => True) v1_ r2 ∧ Kd.R k57 57 w' w.heap.size (fun _ => True) v2_ r3 ∧ Below w.heap.size w w' := by
  have hu27 := Try.underlying27
  have hu62 := Try.underlying62
  have hu64 := Try.underlying64
  have hu57 := Try.underlying57
  unfold cow_New.f at h
  by_cases q0 : a0 < 1
  · have e0 : decide (a0 < 1) = true := decide_eq_true q0
    rw [if_pos (by omega)] at h
    simp only [Option.some.injEq, Prod.mk.injEq] at h
    obtain ⟨rfl, rfl, rfl, rfl, rfl⟩ := h
    go_enter Try.func11, Try.ntmps11
    go_upto_region 1 with ((with_reducible refine gate_dst (N := 4) rfl ?_); refine box_event rfl (N := 4) rfl (cs := #[.int .i64 0, .slice none 0 0, .slice none 0 0, .int .i64 0]) (t := 27) (by first | (go_simp; done) | (go_simp; rfl)) ?_; intro r hr0 w2 hres hB2; have GR := Aside0.mk (show w.heap.size ≤ r by rw [hr0]; exact Nat.le_refl _); clear hr0)
    have BR := Aside0.mk hres
    have HB := Aside0.mk hB2
    clear hres hB2
    have hcr0 := (blk_cell BR.out 0).trans rfl
    have hcr1 := (blk_cell BR.out 1).trans rfl
    have hcr2 := (blk_cell BR.out 2).trans rfl
    have hcr3 := (blk_cell BR.out 3).trans rfl
    have hfr := fun j => blk_frozen BR.out j
    go_wp2
    refine bodyPost_ret (results_ct rfl _ _ r 27 #[.int .i64 0, .slice none 0 0, .slice none 0 0, .int .i64 0] (0, 0) _ rfl (set4_blk BR.out _ _ _ _) Try.underlying27 rfl (by kernel_rfl)) rfl ?_
    exact ⟨_, _, rfl, Kd.S_nil _ _ _ _ _, Kd.R_nil _ _ _ _ _, set4_below HB.out GR.out _ _ _ _⟩
  have e0 : decide (a0 < 1) = false := decide_eq_false q0
  by_cases q1 : 256 < a0
  · have e1 : decide (256 < a0) = true := decide_eq_true q1
    rw [if_pos (by omega)] at h
    simp only [Option.some.injEq, Prod.mk.injEq] at h
    obtain ⟨rfl, rfl, rfl, rfl, rfl⟩ := h
    go_enter Try.func11, Try.ntmps11
    go_upto_region 1 with ((with_reducible refine gate_dst (N := 4) rfl ?_); refine box_event rfl (N := 4) rfl (cs := #[.int .i64 0, .slice none 0 0, .slice none 0 0, .int .i64 0]) (t := 27) (by first | (go_simp; done) | (go_simp; rfl)) ?_; intro r hr0 w2 hres hB2; have GR := Aside0.mk (show w.heap.size ≤ r by rw [hr0]; exact Nat.le_refl _); clear hr0)
    have BR := Aside0.mk hres
    have HB := Aside0.mk hB2
    clear hres hB2
    have hcr0 := (blk_cell BR.out 0).trans rfl
    have hcr1 := (blk_cell BR.out 1).trans rfl
    have hcr2 := (blk_cell BR.out 2).trans rfl
    have hcr3 := (blk_cell BR.out 3).trans rfl
    have hfr := fun j => blk_frozen BR.out j
    go_wp2
    refine bodyPost_ret (results_ct rfl _ _ r 27 #[.int .i64 0, .slice none 0 0, .slice none 0 0, .int .i64 0] (0, 0) _ rfl (set4_blk BR.out _ _ _ _) Try.underlying27 rfl (by kernel_rfl)) rfl ?_
    exact ⟨_, _, rfl, Kd.S_nil _ _ _ _ _, Kd.R_nil _ _ _ _ _, set4_below HB.out GR.out _ _ _ _⟩
  have e1 : decide (256 < a0) = false := decide_eq_false q1
  by_cases q2 : a1 < 1
  · have e2 : decide (a1 < 1) = true := decide_eq_true q2
    rw [if_pos (by omega)] at h
    simp only [Option.some.injEq, Prod.mk.injEq] at h
    obtain ⟨rfl, rfl, rfl, rfl, rfl⟩ := h
    go_enter Try.func11, Try.ntmps11
    go_upto_region 1 with ((with_reducible refine gate_dst (N := 4) rfl ?_); refine box_event rfl (N := 4) rfl (cs := #[.int .i64 0, .slice none 0 0, .slice none 0 0, .int .i64 0]) (t := 27) (by first | (go_simp; done) | (go_simp; rfl)) ?_; intro r hr0 w2 hres hB2; have GR := Aside0.mk (show w.heap.size ≤ r by rw [hr0]; exact Nat.le_refl _); clear hr0)
    have BR := Aside0.mk hres
    have HB := Aside0.mk hB2
    clear hres hB2
    have hcr0 := (blk_cell BR.out 0).trans rfl
    have hcr1 := (blk_cell BR.out 1).trans rfl
    have hcr2 := (blk_cell BR.out 2).trans rfl
    have hcr3 := (blk_cell BR.out 3).trans rfl
    have hfr := fun j => blk_frozen BR.out j
    go_wp2
    refine bodyPost_ret (results_ct rfl _ _ r 27 #[.int .i64 0, .slice none 0 0, .slice none 0 0, .int .i64 0] (0, 0) _ rfl (set4_blk BR.out _ _ _ _) Try.underlying27 rfl (by kernel_rfl)) rfl ?_
    exact ⟨_, _, rfl, Kd.S_nil _ _ _ _ _, Kd.R_nil _ _ _ _ _, set4_below HB.out GR.out _ _ _ _⟩
  have e2 : decide (a1 < 1) = false := decide_eq_false q2
  by_cases q3 : 512 < a1
  · have e3 : decide (512 < a1) = true := decide_eq_true q3
    rw [if_pos (by omega)] at h
    simp only [Option.some.injEq, Prod.mk.injEq] at h
    obtain ⟨rfl, rfl, rfl, rfl, rfl⟩ := h
    go_enter Try.func11, Try.ntmps11
    go_upto_region 1 with ((with_reducible refine gate_dst (N := 4) rfl ?_); refine box_event rfl (N := 4) rfl (cs := #[.int .i64 0, .slice none 0 0, .slice none 0 0, .int .i64 0]) (t := 27) (by first | (go_simp; done) | (go_simp; rfl)) ?_; intro r hr0 w2 hres hB2; have GR := Aside0.mk (show w.heap.size ≤ r by rw [hr0]; exact Nat.le_refl _); clear hr0)
    have BR := Aside0.mk hres
    have HB := Aside0.mk hB2
    clear hres hB2
    have hcr0 := (blk_cell BR.out 0).trans rfl
    have hcr1 := (blk_cell BR.out 1).trans rfl
    have hcr2 := (blk_cell BR.out 2).trans rfl
    have hcr3 := (blk_cell BR.out 3).trans rfl
    have hfr := fun j => blk_frozen BR.out j
    go_wp2
    refine bodyPost_ret (results_ct rfl _ _ r 27 #[.int .i64 0, .slice none 0 0, .slice none 0 0, .int .i64 0] (0, 0) _ rfl (set4_blk BR.out _ _ _ _) Try.underlying27 rfl (by kernel_rfl)) rfl ?_
    exact ⟨_, _, rfl, Kd.S_nil _ _ _ _ _, Kd.R_nil _ _ _ _ _, set4_below HB.out GR.out _ _ _ _⟩
  have e3 : decide (512 < a1) = false := decide_eq_false q3
  rw [if_neg (by omega)] at h
  simp only [Option.some.injEq, Prod.mk.injEq] at h
  obtain ⟨rfl, rfl, rfl, rfl, rfl⟩ := h
  obtain ⟨N, rfl⟩ := Int.eq_ofNat_of_zero_le (by omega : 0 ≤ a0)
  obtain ⟨M, rfl⟩ := Int.eq_ofNat_of_zero_le (by omega : 0 ≤ a1)
  rw [show ((N : Int)).toNat = N from rfl, show ((M : Int)).toNat = M from rfl]
  have b0 : (0 : Int) ≤ (N : Int) := by omega
  have hN2 : N ≤ 256 := by omega
  have hM2 : M ≤ 512 := by omega
  have hM1 : 1 ≤ M := by omega
  go_enter Try.func11, Try.ntmps11
  go_upto_region 1 with ((with_reducible refine gate_dst (N := 4) rfl ?_); refine box_event rfl (N := 4) rfl (cs := #[.int .i64 0, .slice none 0 0, .slice none 0 0, .int .i64 0]) (t := 27) (by first | (go_simp; done) | (go_simp; rfl)) ?_; intro r hr0 w2 hres hB2; have GR := Aside0.mk (show w.heap.size ≤ r by rw [hr0]; exact Nat.le_refl _); clear hr0)
  have BR := Aside0.mk hres
  have HB := Aside0.mk hB2
  clear hres hB2
  go_upto_region 4 with (first | ((with_reducible refine gate_dst (N := 23) rfl ?_); refine Kd.R_lit k64 (w0 := w) w.heap.size 64 rfl (N := 23) rfl (xs := ([(⟨-1, false⟩ : S64)] : List S64)) (inner := [.int .i64 (-1), .bool false]) (ok := fun _ => True) (okp := fun _ => True) (by first | (go_simp; done) | (go_simp; rfl)) ⟨rfl, fun j p hj => by cases j with | zero => (obtain rfl := Option.some.inj hj; exact k64_mkM _ _ _ _) | succ j => (simp at hj)⟩ (fun _ hk => hk) trivial HB.out HB.out.size (by simp) ?_; intro v5 w3 ho hb hg_ hnew_; clear hnew_; obtain ⟨A5, c5, hv5⟩ := Kd.R_slice ho; have hv5 : v5 = .slice A5 1 c5 := hv5; subst hv5; have nR := Aside0.mk (blk_grown BR.out hg_ (by simp)); have nB := Aside0.mk hb; have HL := Aside0.mk ho; clear BR HB ho hb hg_; have BR := nR; have HB := nB; clear nR nB) | ((with_reducible refine gate_callee (f := 30) rfl ?_); refine goesL_ (some 25) rfl rfl Try.func30 (by kernel_rfl) rfl #[.slice A5 1 c5, .int .i64 M] rfl (by (try simp only [List.map_toArray, List.map_cons, List.map_nil]); first | done | rfl) ?_; (refine (api_CowPage_30.calls A5 c5 [(⟨-1, false⟩ : S64)] (M : Int) (List.replicate M ⟨-1, false⟩) _ (Kd.R_reads' HL.out).2.2 (Kd.R_reads' HL.out).2.1 (by unfold api_CowPage_30.f; rw [if_pos ⟨rfl, by omega, by omega⟩]; rfl)).mono ?_); rintro e w4 ⟨v6, rfl, ho6, hb4⟩; refine ⟨_, rfl, ?_⟩; obtain ⟨A6, c6, hv6⟩ := Kd.R_slice ho6; rw [List.length_replicate] at hv6; subst hv6; have HP := Aside0.mk (Kd.R_lower ho6 HB.out.size); have nR := Aside0.mk (blk_below BR.out hb4); have nB := Aside0.mk (below_step HB.out hb4); clear BR HB HL ho6 hb4; have BR := nR; have HB := nB; clear nR nB))
  have hcr0 := (blk_cell BR.out 0).trans rfl
  have hcr1 := (blk_cell BR.out 1).trans rfl
  have hcr2 := (blk_cell BR.out 2).trans rfl
  have hcr3 := (blk_cell BR.out 3).trans rfl
  have hfr := fun j => blk_frozen BR.out j
  go_wp2_with (first | ((with_reducible refine gate_dst (N := 29) rfl ?_); refine Kd.S_lits k62 (w0 := w) w.heap.size 62 rfl (N := 29) rfl (xs := ([(⟨true, List.replicate M ⟨-1, false⟩⟩ : S62)] : List S62)) (inner := [.bool true, .slice A6 M c6]) (ok := fun _ => True) (fun j _ => j = 0) (by first | (go_simp; done) | (go_simp; rfl)) rfl (fun j x hj => by cases j with | zero => (obtain rfl := Option.some.inj hj; exact k62_mkM _ _ _ (⟨true, List.replicate M ⟨-1, false⟩⟩ : S62) (Kd.R_mono HP.out (fun _ _ => rfl))) | succ j => (simp at hj)) (fun i j k hi hj => by omega) (fun _ _ _ => trivial) trivial HB.out HB.out.size (by simp) ?_; intro v7 w5 ho hb hg_ hnew_; clear hnew_; obtain ⟨A7, c7, hv7⟩ := Kd.S_slice ho; have hv7 : v7 = .slice A7 1 c7 := hv7; subst hv7; have nR := Aside0.mk (blk_grown BR.out hg_ (by simp)); have nB := Aside0.mk hb; have HS := Aside0.mk ho; clear BR HB HP ho hb hg_; have BR := nR; have HB := nB; clear nR nB) | ((with_reducible refine gate_dst (N := 31) rfl ?_); refine Kd.R_make k57 (w0 := w) w.heap.size 57 rfl (N := 31) rfl 25 _ _ rfl (N : Int) rfl rfl Try.underlying25 (.agg #[(.int .i64 0), (.int .i64 0)]) 16 info57 rfl (by decide) (by omega) z57 (ok := fun _ => True) (okp := fun _ => True) (k57_mkM _ _ _ z57) (fun _ hk => hk) trivial b0 (by show N * 16 ≤ _; omega) HB.out HB.out.size ?_; intro v8 w6 ho hb hg_ hnew_; clear hnew_; rw [show ((N : Int)).toNat = N from rfl] at ho; obtain ⟨A8, c8, hv8⟩ := Kd.R_slice ho; rw [List.length_replicate] at hv8; subst hv8; have nR := Aside0.mk (blk_grown BR.out hg_ (by simp)); have nS := Aside0.mk (Kd.S_grown HS.out hg_ (fun _ _ => by simp)); have nB := Aside0.mk hb; have HF := Aside0.mk ho; clear BR HB HS ho hb hg_ hcr0 hcr1 hcr2 hcr3 hfr; have BR := nR; have HB := nB; have HS := nS; clear nR nB nS; have hq0 := (blk_cell BR.out 0).trans rfl; have hq1 := (blk_cell BR.out 1).trans rfl; have hq2 := (blk_cell BR.out 2).trans rfl; have hq3 := (blk_cell BR.out 3).trans rfl; have hqf := fun j => blk_frozen BR.out j))
  refine bodyPost_ret (results_ct rfl _ _ r 27 #[.int .i64 M, .slice A7 1 c7, .slice A8 N c8, .int .i64 0] (0, 0) _ rfl (set4_blk BR.out _ _ _ _) Try.underlying27 rfl (by kernel_rfl)) rfl ?_
  exact ⟨_, _, rfl, set4_S HS.out BR.out (by decide) _ _ _ _, set4_R HF.out BR.out (by decide) _ _ _ _, set4_below HB.out GR.out _ _ _ _⟩


end Go.Proofs.Yteldbkdfphiogaa.Pr
