-- Written by a program of this session (a changed copy of the kit's printer). Not trusted: Lean checks it.
import Derived.Test.YteldbkdfphiogaaM0
import Derived.Test.YteldbkdfphiogaaFcowExit
import Derived.Test.YteldbkdfphiogaaFcowFork
import Derived.Test.YteldbkdfphiogaaFcowRead
import Derived.Test.YteldbkdfphiogaaFcowUnmap
import Derived.Test.YteldbkdfphiogaaFcowWrite
import Derived.Test.YteldbkdfphiogaaFcowown
namespace Go.Proofs.Yteldbkdfphiogaa.Pr
open Go.RowKit Go.Proofs.YteldbkdfphiogaaW.PrintWords Go.Proofs.YteldbkdfphiogaaW.PrintLast Go.Proofs.YteldbkdfphiogaaW.PrintMore
attribute [local go_sem] max2_int min2_int max_two min_two max_three min_three max_four min_four   -- for this text's walks alone
set_option linter.unusedVariables false
set_option linter.unusedSimpArgs false
/-! ### estoverslaw25_play: function 18 -/
def estoverslaw25_play.f (k : Nat) (a0_0 : Int) (l0_1 : List (S62)) (l0_2 : List (S57)) (a0_3 : Int) (a1_0 : Int) (a1_1 : Int) (a1_2 : Int) (a1_3 : Int) : Option (Int × (List (S62)) × (List (S57)) × Int × Int × Int) := if a1_0 = 0 then ((cow_Write.f k a0_0 l0_1 l0_2 a0_3 a1_1 a1_2 a1_3).bind fun bt275 => (some (bt275.1, bt275.2.1, bt275.2.2.1, bt275.2.2.2.1, 0, bt275.2.2.2.2))) else (if a1_0 = 1 then ((cow_Fork.f k a0_0 l0_1 l0_2 a0_3 a1_1).bind fun bt285 => (some (bt285.1, bt285.2.1, bt285.2.2.1, bt285.2.2.2.1, bt285.2.2.2.2.1, bt285.2.2.2.2.2))) else (if a1_0 = 2 then ((cow_Unmap.f k a0_0 l0_1 l0_2 a0_3 a1_1 a1_2).bind fun bt295 => (some (bt295.1, bt295.2.1, bt295.2.2.1, bt295.2.2.2.1, 0, bt295.2.2.2.2))) else (if a1_0 = 3 then ((cow_Exit.f k a0_0 l0_1 l0_2 a0_3 a1_1).bind fun bt305 => (some (bt305.1, bt305.2.1, bt305.2.2.1, bt305.2.2.2.1, 0, bt305.2.2.2.2))) else ((cow_Read.f k a0_0 l0_1 l0_2 a0_3 a1_1 a1_2).bind fun bt315 => (some (a0_0, l0_1, l0_2, a0_3, bt315.1, bt315.2))))))
theorem estoverslaw25_play.mono : ∀ a0 a1 a2 a3 a4 a5 a6 a7 k, LeO (estoverslaw25_play.f k a0 a1 a2 a3 a4 a5 a6 a7) (estoverslaw25_play.f (k + 1) a0 a1 a2 a3 a4 a5 a6 a7) := by
  intro a0 a1 a2 a3 a4 a5 a6 a7 k
  unfold estoverslaw25_play.f
  repeat' first
      | (with_reducible exact cow_Exit.mono _ _ _ _ _ _)
      | (with_reducible exact cow_Fork.mono _ _ _ _ _ _)
      | (with_reducible exact cow_Read.mono _ _ _ _ _ _ _)
      | (with_reducible exact cow_Unmap.mono _ _ _ _ _ _ _)
      | (with_reducible exact cow_Write.mono _ _ _ _ _ _ _ _)
      | (with_reducible exact LeO.refl _)
      | (with_reducible exact LeO.none _)
      | (with_reducible refine LeO.ite ?_ ?_)
      | (with_reducible refine LeO.bind ?_ (fun _ => ?_))
      | exact cow_Exit.mono _ _ _ _ _ _
      | exact cow_Fork.mono _ _ _ _ _ _
      | exact cow_Read.mono _ _ _ _ _ _ _
      | exact cow_Unmap.mono _ _ _ _ _ _ _
      | exact cow_Write.mono _ _ _ _ _ _ _ _
      | exact LeO.none _
      | refine LeO.ite ?_ ?_
      | refine LeO.bind ?_ (fun _ => ?_)
set_option maxRecDepth 100000 in
set_option maxHeartbeats 4000000 in
theorem estoverslaw25_play.calls (k : Nat) (a0_0 : Int) (A0_1 : Option Addr) (c0_1 : Nat) (l0_1 : List (S62)) (A0_2 : Option Addr) (c0_2 : Nat) (l0_2 : List (S57)) (a0_3 : Int) (o0 o1 o2 o3 : Int) (r1 : Int) (r2 : List (S62)) (r3 : List (S57)) (r4 r5 r6 : Int) (w : World) (hr0_1 : Kd.C k62 w A0_1 l0_1.length l0_1) (hc0_1 : l0_1.length ≤ c0_1) (hr0_2 : Kd.C k57 w A0_2 l0_2.length l0_2) (hc0_2 : l0_2.length ≤ c0_2) (h : estoverslaw25_play.f k a0_0 l0_1 l0_2 a0_3 o0 o1 o2 o3 = some (r1, r2, r3, r4, r5, r6)) :
    Calls Try.prog 18 #[.agg #[.int .i64 a0_0, .slice A0_1 l0_1.length c0_1, .slice A0_2 l0_2.length c0_2, .int .i64 a0_3], .agg #[.int .i64 o0, .int .i64 o1, .int .i64 o2, .int .i64 o3]] w fun e w' => ∃ v1_ v2_ : Value, e = .returned (.tuple #[.agg #[.int .i64 r1, v1_, v2_, .int .i64 r4], .int .i64 r5, .int .i64 r6]) ∧ ((v1_ = .slice A0_1 l0_1.length c0_1 ∧ v2_ = .slice A0_2 l0_2.length c0_2 ∧ r1 = a0_0 ∧ r2 = l0_1 ∧ r3 = l0_2 ∧ r4 = a0_3) ∨ (Kd.S k62 62 w' w.heap.size (fun _ => True) v1_ r2 ∧ Kd.R k57 57 w' w.heap.size (fun _ => True) v2_ r3)) ∧ Below w.heap.size w w' := by
  have HR0_1 := Aside0.mk hr0_1
  have HC0_1 := Aside0.mk hc0_1
  have HR0_2 := Aside0.mk hr0_2
  have HC0_2 := Aside0.mk hc0_2
  clear hr0_1 hc0_1 hr0_2 hc0_2
  have hu27 := Try.underlying27
  have hu40 := Try.underlying40
  unfold estoverslaw25_play.f at h
  by_cases h0 : o0 = 0
  · rw [if_pos h0] at h
    obtain ⟨⟨m1, m2, m3, m4, m5⟩, hcall, h⟩ := Option.bind_eq_some_iff.1 h
    simp only [Option.some.injEq, Prod.mk.injEq] at h
    obtain ⟨rfl, rfl, rfl, rfl, rfl, rfl⟩ := h
    have HC := Aside0.mk hcall
    clear hcall
    have e0 : (o0 == 0) = true := beq_iff_eq.mpr h0
    clear h0
    go_enter Try.func18, Try.ntmps18
    go_upto_region 1 with (first | ((with_reducible refine gate_dst (N := 2) rfl ?_); refine box_event rfl (N := 2) rfl (cs := #[.int .i64 a0_0, .slice A0_1 l0_1.length c0_1, .slice A0_2 l0_2.length c0_2, .int .i64 a0_3]) (t := 27) (by first | (go_simp; done) | (go_simp; rfl)) ?_; intro b hb0 w1 hbox hB1; have GB := Aside0.mk (show w.heap.size ≤ b by rw [hb0]; exact Nat.le_refl _); clear hb0) | ((with_reducible refine gate_dst (N := 3) rfl ?_); refine box_event rfl (N := 3) rfl (cs := #[.int .i64 o0, .int .i64 o1, .int .i64 o2, .int .i64 o3]) (t := 40) (by first | (go_simp; done) | (go_simp; rfl)) ?_; intro q hq0 wq hbq hBq; have GQ := Aside0.mk (show b < q by rw [hq0]; exact blk_lt hbox); clear hq0) | ((with_reducible refine gate_dst (N := 4) rfl ?_); refine box_event rfl (N := 4) rfl (cs := #[.int .i64 0, .slice none 0 0, .slice none 0 0, .int .i64 0]) (t := 27) (by first | (go_simp; done) | (go_simp; rfl)) ?_; intro r hr0 w2 hres hB2; have GR := Aside0.mk (show q < r by rw [hr0]; exact blk_lt hbq); clear hr0))
    have BK := Aside0.mk (blk_below (blk_below hbox hBq) hB2)
    have BQ := Aside0.mk (blk_below hbq hB2)
    have BR := Aside0.mk hres
    have HB := Aside0.mk (below_step (below_step hB1 hBq) hB2)
    have GRW := Aside0.mk (show w.heap.size ≤ r by have := GB.out; have := GQ.out; have := GR.out; omega)
    have NBR := Aside0.mk (show b ≠ r by have := GQ.out; have := GR.out; omega)
    have NQR := Aside0.mk (show q ≠ r by have := GR.out; omega)
    clear hbox hbq hBq hB1 hB2 hres
    have hcb0 := (blk_cell BK.out 0).trans rfl
    have hcb1 := (blk_cell BK.out 1).trans rfl
    have hcb2 := (blk_cell BK.out 2).trans rfl
    have hcb3 := (blk_cell BK.out 3).trans rfl
    have hcq0 := (blk_cell BQ.out 0).trans rfl
    have hcq1 := (blk_cell BQ.out 1).trans rfl
    have hcq2 := (blk_cell BQ.out 2).trans rfl
    have hcq3 := (blk_cell BQ.out 3).trans rfl
    go_upto_region 4 with (first | ((with_reducible refine gate_callee (f := 12) rfl ?_); refine goesL_ (some 27) rfl rfl Try.func12 (by kernel_rfl) rfl #[.agg #[.int .i64 a0_0, .slice A0_1 l0_1.length c0_1, .slice A0_2 l0_2.length c0_2, .int .i64 a0_3], .int .i64 o1, .int .i64 o2, .int .i64 o3] rfl (by (try simp only [List.map_toArray, List.map_cons, List.map_nil]); first | done | rfl) ?_; (with_reducible refine (cow_Write.calls k a0_0 _ _ l0_1 _ _ l0_2 a0_3 o1 o2 o3 m1 m2 m3 m4 m5 _ ?side1 ?side2 ?side3 ?side4 HC.out).mono ?_); (case side1 => exact Kd.C_below HR0_1.out HB.out); (case side2 => exact HC0_1.out); (case side3 => exact Kd.C_below HR0_2.out HB.out); (case side4 => exact HC0_2.out); rintro e w3 ⟨v1, v2, rfl, ho1, ho2, hb3⟩; refine ⟨_, rfl, ?_⟩; obtain ⟨A1, c1, rfl⟩ := Kd.S_slice ho1; obtain ⟨A2, c2, rfl⟩ := Kd.R_slice ho2; clear hcb0 hcb1 hcb2 hcb3 hcq0 hcq1 hcq2 hcq3; have nS := Aside0.mk (Kd.S_lower ho1 HB.out.size); have nF := Aside0.mk (Kd.R_lower ho2 HB.out.size); have nR := Aside0.mk (blk_below BR.out hb3); have nB := Aside0.mk (below_step HB.out hb3); clear BK BQ BR HB ho1 ho2 hb3) | ((with_reducible refine gate_dst (N := 7) rfl ?_); refine box_event rfl (N := 7) rfl (cs := #[.int .i64 0, .slice none 0 0, .slice none 0 0, .int .i64 0]) (t := 27) (by first | (go_simp; done) | (go_simp; rfl)) ?_; intro d hd0 w5 hbd hb5; have GD := Aside0.mk (show w3.heap.size ≤ d by rw [hd0]; exact Nat.le_refl _); clear hd0; have hq0 := (blk_cell hbd 0).trans rfl; have hq1 := (blk_cell hbd 1).trans rfl; have hq2 := (blk_cell hbd 2).trans rfl; have hq3 := (blk_cell hbd 3).trans rfl; have hqf := fun j => blk_frozen hbd j))
    have GDW := Aside0.mk (show w.heap.size ≤ d by have := nB.out.size; have := GD.out; omega)
    have NRD := Aside0.mk (show r ≠ d by have := blk_lt nR.out; have := GD.out; omega)
    have BD := Aside0.mk (set4_blk hbd (.int .i64 m1) (.slice A1 m2.length c1) (.slice A2 m3.length c2) (.int .i64 m4))
    have BR := Aside0.mk ((set4_heap w5 d (.int .i64 m1) (.slice A1 m2.length c1) (.slice A2 m3.length c2) (.int .i64 m4) r NRD.out).trans (blk_below nR.out hb5))
    have HS := Aside0.mk (set4_S (Kd.S_below nS.out hb5) hbd (by decide) (.int .i64 m1) (.slice A1 m2.length c1) (.slice A2 m3.length c2) (.int .i64 m4))
    have HF := Aside0.mk (set4_R (Kd.R_below nF.out hb5) hbd (by decide) (.int .i64 m1) (.slice A1 m2.length c1) (.slice A2 m3.length c2) (.int .i64 m4))
    have HB := Aside0.mk (set4_below (below_step nB.out hb5) GDW.out (.int .i64 m1) (.slice A1 m2.length c1) (.slice A2 m3.length c2) (.int .i64 m4))
    clear nS nF nR nB hbd hb5 hq0 hq1 hq2 hq3 hqf
    unfold set4 at BD BR HS HF HB
    generalize (((w5.setCell ⟨d, 0, none⟩ (.int .i64 m1)).setCell ⟨d, 1, none⟩ (.slice A1 m2.length c1)).setCell ⟨d, 2, none⟩ (.slice A2 m3.length c2)).setCell ⟨d, 3, none⟩ (.int .i64 m4) = W at BD BR HS HF HB ⊢
    have hcd0 := (blk_cell BD.out 0).trans rfl
    have hcd1 := (blk_cell BD.out 1).trans rfl
    have hcd2 := (blk_cell BD.out 2).trans rfl
    have hcd3 := (blk_cell BD.out 3).trans rfl
    have hfd := fun j => blk_frozen BD.out j
    have hcr0 := (blk_cell BR.out 0).trans rfl
    have hcr1 := (blk_cell BR.out 1).trans rfl
    have hcr2 := (blk_cell BR.out 2).trans rfl
    have hcr3 := (blk_cell BR.out 3).trans rfl
    have hfr := fun j => blk_frozen BR.out j
    go_wp2
    refine bodyPost_ret (results_ctt rfl _ _ r 27 #[.int .i64 m1, .slice A1 m2.length c1, .slice A2 m3.length c2, .int .i64 m4] (0, 0) _ rfl (set4_blk BR.out _ _ _ _) Try.underlying27 rfl (by kernel_rfl)) rfl ?_
    exact ⟨_, _, rfl, .inr ⟨set4_S HS.out BR.out (by decide) _ _ _ _, set4_R HF.out BR.out (by decide) _ _ _ _⟩, set4_below HB.out GRW.out _ _ _ _⟩
  rw [if_neg h0] at h
  by_cases h1 : o0 = 1
  · rw [if_pos h1] at h
    obtain ⟨⟨m1, m2, m3, m4, m5, m6⟩, hcall, h⟩ := Option.bind_eq_some_iff.1 h
    simp only [Option.some.injEq, Prod.mk.injEq] at h
    obtain ⟨rfl, rfl, rfl, rfl, rfl, rfl⟩ := h
    have HC := Aside0.mk hcall
    clear hcall
    have e0 : (o0 == 0) = false := beq_eq_false_iff_ne.mpr h0
    have e1 : (o0 == 1) = true := beq_iff_eq.mpr h1
    clear h0
    clear h1
    go_enter Try.func18, Try.ntmps18
    go_upto_region 1 with (first | ((with_reducible refine gate_dst (N := 2) rfl ?_); refine box_event rfl (N := 2) rfl (cs := #[.int .i64 a0_0, .slice A0_1 l0_1.length c0_1, .slice A0_2 l0_2.length c0_2, .int .i64 a0_3]) (t := 27) (by first | (go_simp; done) | (go_simp; rfl)) ?_; intro b hb0 w1 hbox hB1; have GB := Aside0.mk (show w.heap.size ≤ b by rw [hb0]; exact Nat.le_refl _); clear hb0) | ((with_reducible refine gate_dst (N := 3) rfl ?_); refine box_event rfl (N := 3) rfl (cs := #[.int .i64 o0, .int .i64 o1, .int .i64 o2, .int .i64 o3]) (t := 40) (by first | (go_simp; done) | (go_simp; rfl)) ?_; intro q hq0 wq hbq hBq; have GQ := Aside0.mk (show b < q by rw [hq0]; exact blk_lt hbox); clear hq0) | ((with_reducible refine gate_dst (N := 4) rfl ?_); refine box_event rfl (N := 4) rfl (cs := #[.int .i64 0, .slice none 0 0, .slice none 0 0, .int .i64 0]) (t := 27) (by first | (go_simp; done) | (go_simp; rfl)) ?_; intro r hr0 w2 hres hB2; have GR := Aside0.mk (show q < r by rw [hr0]; exact blk_lt hbq); clear hr0))
    have BK := Aside0.mk (blk_below (blk_below hbox hBq) hB2)
    have BQ := Aside0.mk (blk_below hbq hB2)
    have BR := Aside0.mk hres
    have HB := Aside0.mk (below_step (below_step hB1 hBq) hB2)
    have GRW := Aside0.mk (show w.heap.size ≤ r by have := GB.out; have := GQ.out; have := GR.out; omega)
    have NBR := Aside0.mk (show b ≠ r by have := GQ.out; have := GR.out; omega)
    have NQR := Aside0.mk (show q ≠ r by have := GR.out; omega)
    clear hbox hbq hBq hB1 hB2 hres
    have hcb0 := (blk_cell BK.out 0).trans rfl
    have hcb1 := (blk_cell BK.out 1).trans rfl
    have hcb2 := (blk_cell BK.out 2).trans rfl
    have hcb3 := (blk_cell BK.out 3).trans rfl
    have hcq0 := (blk_cell BQ.out 0).trans rfl
    have hcq1 := (blk_cell BQ.out 1).trans rfl
    have hcq2 := (blk_cell BQ.out 2).trans rfl
    have hcq3 := (blk_cell BQ.out 3).trans rfl
    go_wp2_with ((with_reducible refine gate_callee (f := 13) rfl ?_); refine goesL_ (some 37) rfl rfl Try.func13 (by kernel_rfl) rfl #[.agg #[.int .i64 a0_0, .slice A0_1 l0_1.length c0_1, .slice A0_2 l0_2.length c0_2, .int .i64 a0_3], .int .i64 o1] rfl (by (try simp only [List.map_toArray, List.map_cons, List.map_nil]); first | done | rfl) ?_; (with_reducible refine (cow_Fork.calls k a0_0 _ _ l0_1 _ _ l0_2 a0_3 o1 m1 m2 m3 m4 m5 m6 _ ?side1 ?side2 ?side3 ?side4 HC.out).mono ?_); (case side1 => exact Kd.C_below HR0_1.out HB.out); (case side2 => exact HC0_1.out); (case side3 => exact Kd.C_below HR0_2.out HB.out); (case side4 => exact HC0_2.out); rintro e w3 ⟨v1, v2, rfl, ho1, ho2, hb3⟩; refine ⟨_, rfl, ?_⟩; obtain ⟨A1, c1, rfl⟩ := Kd.S_slice ho1; obtain ⟨A2, c2, rfl⟩ := Kd.R_slice ho2; clear hcb0 hcb1 hcb2 hcb3 hcq0 hcq1 hcq2 hcq3; have nS := Aside0.mk (Kd.S_lower ho1 HB.out.size); have nF := Aside0.mk (Kd.R_lower ho2 HB.out.size); have nR := Aside0.mk (blk_below BR.out hb3); have nB := Aside0.mk (below_step HB.out hb3); clear BK BQ BR HB ho1 ho2 hb3; have hr0' := (blk_cell nR.out 0).trans rfl; have hr1' := (blk_cell nR.out 1).trans rfl; have hr2' := (blk_cell nR.out 2).trans rfl; have hr3' := (blk_cell nR.out 3).trans rfl; have hrf := fun j => blk_frozen nR.out j)
    refine bodyPost_ret (results_ctt rfl _ _ r 27 #[.int .i64 m1, .slice A1 m2.length c1, .slice A2 m3.length c2, .int .i64 m4] (0, 0) _ rfl (set4_blk nR.out _ _ _ _) Try.underlying27 rfl (by kernel_rfl)) rfl ?_
    exact ⟨_, _, rfl, .inr ⟨set4_S nS.out nR.out (by decide) _ _ _ _, set4_R nF.out nR.out (by decide) _ _ _ _⟩, set4_below nB.out GRW.out _ _ _ _⟩
  rw [if_neg h1] at h
  by_cases h2 : o0 = 2
  · rw [if_pos h2] at h
    obtain ⟨⟨m1, m2, m3, m4, m5⟩, hcall, h⟩ := Option.bind_eq_some_iff.1 h
    simp only [Option.some.injEq, Prod.mk.injEq] at h
    obtain ⟨rfl, rfl, rfl, rfl, rfl, rfl⟩ := h
    have HC := Aside0.mk hcall
    clear hcall
    have e0 : (o0 == 0) = false := beq_eq_false_iff_ne.mpr h0
    have e1 : (o0 == 1) = false := beq_eq_false_iff_ne.mpr h1
    have e2 : (o0 == 2) = true := beq_iff_eq.mpr h2
    clear h0
    clear h1
    clear h2
    go_enter Try.func18, Try.ntmps18
    go_upto_region 1 with (first | ((with_reducible refine gate_dst (N := 2) rfl ?_); refine box_event rfl (N := 2) rfl (cs := #[.int .i64 a0_0, .slice A0_1 l0_1.length c0_1, .slice A0_2 l0_2.length c0_2, .int .i64 a0_3]) (t := 27) (by first | (go_simp; done) | (go_simp; rfl)) ?_; intro b hb0 w1 hbox hB1; have GB := Aside0.mk (show w.heap.size ≤ b by rw [hb0]; exact Nat.le_refl _); clear hb0) | ((with_reducible refine gate_dst (N := 3) rfl ?_); refine box_event rfl (N := 3) rfl (cs := #[.int .i64 o0, .int .i64 o1, .int .i64 o2, .int .i64 o3]) (t := 40) (by first | (go_simp; done) | (go_simp; rfl)) ?_; intro q hq0 wq hbq hBq; have GQ := Aside0.mk (show b < q by rw [hq0]; exact blk_lt hbox); clear hq0) | ((with_reducible refine gate_dst (N := 4) rfl ?_); refine box_event rfl (N := 4) rfl (cs := #[.int .i64 0, .slice none 0 0, .slice none 0 0, .int .i64 0]) (t := 27) (by first | (go_simp; done) | (go_simp; rfl)) ?_; intro r hr0 w2 hres hB2; have GR := Aside0.mk (show q < r by rw [hr0]; exact blk_lt hbq); clear hr0))
    have BK := Aside0.mk (blk_below (blk_below hbox hBq) hB2)
    have BQ := Aside0.mk (blk_below hbq hB2)
    have BR := Aside0.mk hres
    have HB := Aside0.mk (below_step (below_step hB1 hBq) hB2)
    have GRW := Aside0.mk (show w.heap.size ≤ r by have := GB.out; have := GQ.out; have := GR.out; omega)
    have NBR := Aside0.mk (show b ≠ r by have := GQ.out; have := GR.out; omega)
    have NQR := Aside0.mk (show q ≠ r by have := GR.out; omega)
    clear hbox hbq hBq hB1 hB2 hres
    have hcb0 := (blk_cell BK.out 0).trans rfl
    have hcb1 := (blk_cell BK.out 1).trans rfl
    have hcb2 := (blk_cell BK.out 2).trans rfl
    have hcb3 := (blk_cell BK.out 3).trans rfl
    have hcq0 := (blk_cell BQ.out 0).trans rfl
    have hcq1 := (blk_cell BQ.out 1).trans rfl
    have hcq2 := (blk_cell BQ.out 2).trans rfl
    have hcq3 := (blk_cell BQ.out 3).trans rfl
    go_upto_region 9 with (first | ((with_reducible refine gate_callee (f := 38) rfl ?_); refine goesL_ (some 49) rfl rfl Try.func38 (by kernel_rfl) rfl #[.agg #[.int .i64 a0_0, .slice A0_1 l0_1.length c0_1, .slice A0_2 l0_2.length c0_2, .int .i64 a0_3], .int .i64 o1, .int .i64 o2] rfl (by (try simp only [List.map_toArray, List.map_cons, List.map_nil]); first | done | rfl) ?_; (with_reducible refine (cow_Unmap.calls k a0_0 _ _ l0_1 _ _ l0_2 a0_3 o1 o2 m1 m2 m3 m4 m5 _ ?side1 ?side2 ?side3 ?side4 HC.out).mono ?_); (case side1 => exact Kd.C_below HR0_1.out HB.out); (case side2 => exact HC0_1.out); (case side3 => exact Kd.C_below HR0_2.out HB.out); (case side4 => exact HC0_2.out); rintro e w3 ⟨v1, v2, rfl, ho1, ho2, hb3⟩; refine ⟨_, rfl, ?_⟩; obtain ⟨A1, c1, rfl⟩ := Kd.S_slice ho1; obtain ⟨A2, c2, rfl⟩ := Kd.R_slice ho2; clear hcb0 hcb1 hcb2 hcb3 hcq0 hcq1 hcq2 hcq3; have nS := Aside0.mk (Kd.S_lower ho1 HB.out.size); have nF := Aside0.mk (Kd.R_lower ho2 HB.out.size); have nR := Aside0.mk (blk_below BR.out hb3); have nB := Aside0.mk (below_step HB.out hb3); clear BK BQ BR HB ho1 ho2 hb3) | ((with_reducible refine gate_dst (N := 9) rfl ?_); refine box_event rfl (N := 9) rfl (cs := #[.int .i64 0, .slice none 0 0, .slice none 0 0, .int .i64 0]) (t := 27) (by first | (go_simp; done) | (go_simp; rfl)) ?_; intro d hd0 w5 hbd hb5; have GD := Aside0.mk (show w3.heap.size ≤ d by rw [hd0]; exact Nat.le_refl _); clear hd0; have hq0 := (blk_cell hbd 0).trans rfl; have hq1 := (blk_cell hbd 1).trans rfl; have hq2 := (blk_cell hbd 2).trans rfl; have hq3 := (blk_cell hbd 3).trans rfl; have hqf := fun j => blk_frozen hbd j))
    have GDW := Aside0.mk (show w.heap.size ≤ d by have := nB.out.size; have := GD.out; omega)
    have NRD := Aside0.mk (show r ≠ d by have := blk_lt nR.out; have := GD.out; omega)
    have BD := Aside0.mk (set4_blk hbd (.int .i64 m1) (.slice A1 m2.length c1) (.slice A2 m3.length c2) (.int .i64 m4))
    have BR := Aside0.mk ((set4_heap w5 d (.int .i64 m1) (.slice A1 m2.length c1) (.slice A2 m3.length c2) (.int .i64 m4) r NRD.out).trans (blk_below nR.out hb5))
    have HS := Aside0.mk (set4_S (Kd.S_below nS.out hb5) hbd (by decide) (.int .i64 m1) (.slice A1 m2.length c1) (.slice A2 m3.length c2) (.int .i64 m4))
    have HF := Aside0.mk (set4_R (Kd.R_below nF.out hb5) hbd (by decide) (.int .i64 m1) (.slice A1 m2.length c1) (.slice A2 m3.length c2) (.int .i64 m4))
    have HB := Aside0.mk (set4_below (below_step nB.out hb5) GDW.out (.int .i64 m1) (.slice A1 m2.length c1) (.slice A2 m3.length c2) (.int .i64 m4))
    clear nS nF nR nB hbd hb5 hq0 hq1 hq2 hq3 hqf
    unfold set4 at BD BR HS HF HB
    generalize (((w5.setCell ⟨d, 0, none⟩ (.int .i64 m1)).setCell ⟨d, 1, none⟩ (.slice A1 m2.length c1)).setCell ⟨d, 2, none⟩ (.slice A2 m3.length c2)).setCell ⟨d, 3, none⟩ (.int .i64 m4) = W at BD BR HS HF HB ⊢
    have hcd0 := (blk_cell BD.out 0).trans rfl
    have hcd1 := (blk_cell BD.out 1).trans rfl
    have hcd2 := (blk_cell BD.out 2).trans rfl
    have hcd3 := (blk_cell BD.out 3).trans rfl
    have hfd := fun j => blk_frozen BD.out j
    have hcr0 := (blk_cell BR.out 0).trans rfl
    have hcr1 := (blk_cell BR.out 1).trans rfl
    have hcr2 := (blk_cell BR.out 2).trans rfl
    have hcr3 := (blk_cell BR.out 3).trans rfl
    have hfr := fun j => blk_frozen BR.out j
    go_wp2
    refine bodyPost_ret (results_ctt rfl _ _ r 27 #[.int .i64 m1, .slice A1 m2.length c1, .slice A2 m3.length c2, .int .i64 m4] (0, 0) _ rfl (set4_blk BR.out _ _ _ _) Try.underlying27 rfl (by kernel_rfl)) rfl ?_
    exact ⟨_, _, rfl, .inr ⟨set4_S HS.out BR.out (by decide) _ _ _ _, set4_R HF.out BR.out (by decide) _ _ _ _⟩, set4_below HB.out GRW.out _ _ _ _⟩
  rw [if_neg h2] at h
  by_cases h3 : o0 = 3
  · rw [if_pos h3] at h
    obtain ⟨⟨m1, m2, m3, m4, m5⟩, hcall, h⟩ := Option.bind_eq_some_iff.1 h
    simp only [Option.some.injEq, Prod.mk.injEq] at h
    obtain ⟨rfl, rfl, rfl, rfl, rfl, rfl⟩ := h
    have HC := Aside0.mk hcall
    clear hcall
    have e0 : (o0 == 0) = false := beq_eq_false_iff_ne.mpr h0
    have e1 : (o0 == 1) = false := beq_eq_false_iff_ne.mpr h1
    have e2 : (o0 == 2) = false := beq_eq_false_iff_ne.mpr h2
    have e3 : (o0 == 3) = true := beq_iff_eq.mpr h3
    clear h0
    clear h1
    clear h2
    clear h3
    go_enter Try.func18, Try.ntmps18
    go_upto_region 1 with (first | ((with_reducible refine gate_dst (N := 2) rfl ?_); refine box_event rfl (N := 2) rfl (cs := #[.int .i64 a0_0, .slice A0_1 l0_1.length c0_1, .slice A0_2 l0_2.length c0_2, .int .i64 a0_3]) (t := 27) (by first | (go_simp; done) | (go_simp; rfl)) ?_; intro b hb0 w1 hbox hB1; have GB := Aside0.mk (show w.heap.size ≤ b by rw [hb0]; exact Nat.le_refl _); clear hb0) | ((with_reducible refine gate_dst (N := 3) rfl ?_); refine box_event rfl (N := 3) rfl (cs := #[.int .i64 o0, .int .i64 o1, .int .i64 o2, .int .i64 o3]) (t := 40) (by first | (go_simp; done) | (go_simp; rfl)) ?_; intro q hq0 wq hbq hBq; have GQ := Aside0.mk (show b < q by rw [hq0]; exact blk_lt hbox); clear hq0) | ((with_reducible refine gate_dst (N := 4) rfl ?_); refine box_event rfl (N := 4) rfl (cs := #[.int .i64 0, .slice none 0 0, .slice none 0 0, .int .i64 0]) (t := 27) (by first | (go_simp; done) | (go_simp; rfl)) ?_; intro r hr0 w2 hres hB2; have GR := Aside0.mk (show q < r by rw [hr0]; exact blk_lt hbq); clear hr0))
    have BK := Aside0.mk (blk_below (blk_below hbox hBq) hB2)
    have BQ := Aside0.mk (blk_below hbq hB2)
    have BR := Aside0.mk hres
    have HB := Aside0.mk (below_step (below_step hB1 hBq) hB2)
    have GRW := Aside0.mk (show w.heap.size ≤ r by have := GB.out; have := GQ.out; have := GR.out; omega)
    have NBR := Aside0.mk (show b ≠ r by have := GQ.out; have := GR.out; omega)
    have NQR := Aside0.mk (show q ≠ r by have := GR.out; omega)
    clear hbox hbq hBq hB1 hB2 hres
    have hcb0 := (blk_cell BK.out 0).trans rfl
    have hcb1 := (blk_cell BK.out 1).trans rfl
    have hcb2 := (blk_cell BK.out 2).trans rfl
    have hcb3 := (blk_cell BK.out 3).trans rfl
    have hcq0 := (blk_cell BQ.out 0).trans rfl
    have hcq1 := (blk_cell BQ.out 1).trans rfl
    have hcq2 := (blk_cell BQ.out 2).trans rfl
    have hcq3 := (blk_cell BQ.out 3).trans rfl
    go_upto_region 12 with (first | ((with_reducible refine gate_callee (f := 14) rfl ?_); refine goesL_ (some 60) rfl rfl Try.func14 (by kernel_rfl) rfl #[.agg #[.int .i64 a0_0, .slice A0_1 l0_1.length c0_1, .slice A0_2 l0_2.length c0_2, .int .i64 a0_3], .int .i64 o1] rfl (by (try simp only [List.map_toArray, List.map_cons, List.map_nil]); first | done | rfl) ?_; (with_reducible refine (cow_Exit.calls k a0_0 _ _ l0_1 _ _ l0_2 a0_3 o1 m1 m2 m3 m4 m5 _ ?side1 ?side2 ?side3 ?side4 HC.out).mono ?_); (case side1 => exact Kd.C_below HR0_1.out HB.out); (case side2 => exact HC0_1.out); (case side3 => exact Kd.C_below HR0_2.out HB.out); (case side4 => exact HC0_2.out); rintro e w3 ⟨v1, v2, rfl, ho1, ho2, hb3⟩; refine ⟨_, rfl, ?_⟩; obtain ⟨A1, c1, rfl⟩ := Kd.S_slice ho1; obtain ⟨A2, c2, rfl⟩ := Kd.R_slice ho2; clear hcb0 hcb1 hcb2 hcb3 hcq0 hcq1 hcq2 hcq3; have nS := Aside0.mk (Kd.S_lower ho1 HB.out.size); have nF := Aside0.mk (Kd.R_lower ho2 HB.out.size); have nR := Aside0.mk (blk_below BR.out hb3); have nB := Aside0.mk (below_step HB.out hb3); clear BK BQ BR HB ho1 ho2 hb3) | ((with_reducible refine gate_dst (N := 11) rfl ?_); refine box_event rfl (N := 11) rfl (cs := #[.int .i64 0, .slice none 0 0, .slice none 0 0, .int .i64 0]) (t := 27) (by first | (go_simp; done) | (go_simp; rfl)) ?_; intro d hd0 w5 hbd hb5; have GD := Aside0.mk (show w3.heap.size ≤ d by rw [hd0]; exact Nat.le_refl _); clear hd0; have hq0 := (blk_cell hbd 0).trans rfl; have hq1 := (blk_cell hbd 1).trans rfl; have hq2 := (blk_cell hbd 2).trans rfl; have hq3 := (blk_cell hbd 3).trans rfl; have hqf := fun j => blk_frozen hbd j))
    have GDW := Aside0.mk (show w.heap.size ≤ d by have := nB.out.size; have := GD.out; omega)
    have NRD := Aside0.mk (show r ≠ d by have := blk_lt nR.out; have := GD.out; omega)
    have BD := Aside0.mk (set4_blk hbd (.int .i64 m1) (.slice A1 m2.length c1) (.slice A2 m3.length c2) (.int .i64 m4))
    have BR := Aside0.mk ((set4_heap w5 d (.int .i64 m1) (.slice A1 m2.length c1) (.slice A2 m3.length c2) (.int .i64 m4) r NRD.out).trans (blk_below nR.out hb5))
    have HS := Aside0.mk (set4_S (Kd.S_below nS.out hb5) hbd (by decide) (.int .i64 m1) (.slice A1 m2.length c1) (.slice A2 m3.length c2) (.int .i64 m4))
    have HF := Aside0.mk (set4_R (Kd.R_below nF.out hb5) hbd (by decide) (.int .i64 m1) (.slice A1 m2.length c1) (.slice A2 m3.length c2) (.int .i64 m4))
    have HB := Aside0.mk (set4_below (below_step nB.out hb5) GDW.out (.int .i64 m1) (.slice A1 m2.length c1) (.slice A2 m3.length c2) (.int .i64 m4))
    clear nS nF nR nB hbd hb5 hq0 hq1 hq2 hq3 hqf
    unfold set4 at BD BR HS HF HB
    generalize (((w5.setCell ⟨d, 0, none⟩ (.int .i64 m1)).setCell ⟨d, 1, none⟩ (.slice A1 m2.length c1)).setCell ⟨d, 2, none⟩ (.slice A2 m3.length c2)).setCell ⟨d, 3, none⟩ (.int .i64 m4) = W at BD BR HS HF HB ⊢
    have hcd0 := (blk_cell BD.out 0).trans rfl
    have hcd1 := (blk_cell BD.out 1).trans rfl
    have hcd2 := (blk_cell BD.out 2).trans rfl
    have hcd3 := (blk_cell BD.out 3).trans rfl
    have hfd := fun j => blk_frozen BD.out j
    have hcr0 := (blk_cell BR.out 0).trans rfl
    have hcr1 := (blk_cell BR.out 1).trans rfl
    have hcr2 := (blk_cell BR.out 2).trans rfl
    have hcr3 := (blk_cell BR.out 3).trans rfl
    have hfr := fun j => blk_frozen BR.out j
    go_wp2
    refine bodyPost_ret (results_ctt rfl _ _ r 27 #[.int .i64 m1, .slice A1 m2.length c1, .slice A2 m3.length c2, .int .i64 m4] (0, 0) _ rfl (set4_blk BR.out _ _ _ _) Try.underlying27 rfl (by kernel_rfl)) rfl ?_
    exact ⟨_, _, rfl, .inr ⟨set4_S HS.out BR.out (by decide) _ _ _ _, set4_R HF.out BR.out (by decide) _ _ _ _⟩, set4_below HB.out GRW.out _ _ _ _⟩
  rw [if_neg h3] at h
  obtain ⟨⟨m1, m2⟩, hcall, h⟩ := Option.bind_eq_some_iff.1 h
  simp only [Option.some.injEq, Prod.mk.injEq] at h
  obtain ⟨rfl, rfl, rfl, rfl, rfl, rfl⟩ := h
  have HC := Aside0.mk hcall
  clear hcall
  have e0 : (o0 == 0) = false := beq_eq_false_iff_ne.mpr h0
  have e1 : (o0 == 1) = false := beq_eq_false_iff_ne.mpr h1
  have e2 : (o0 == 2) = false := beq_eq_false_iff_ne.mpr h2
  have e3 : (o0 == 3) = false := beq_eq_false_iff_ne.mpr h3
  clear h0 h1 h2 h3
  go_enter Try.func18, Try.ntmps18
  go_upto_region 1 with (first | ((with_reducible refine gate_dst (N := 2) rfl ?_); refine box_event rfl (N := 2) rfl (cs := #[.int .i64 a0_0, .slice A0_1 l0_1.length c0_1, .slice A0_2 l0_2.length c0_2, .int .i64 a0_3]) (t := 27) (by first | (go_simp; done) | (go_simp; rfl)) ?_; intro b hb0 w1 hbox hB1; have GB := Aside0.mk (show w.heap.size ≤ b by rw [hb0]; exact Nat.le_refl _); clear hb0) | ((with_reducible refine gate_dst (N := 3) rfl ?_); refine box_event rfl (N := 3) rfl (cs := #[.int .i64 o0, .int .i64 o1, .int .i64 o2, .int .i64 o3]) (t := 40) (by first | (go_simp; done) | (go_simp; rfl)) ?_; intro q hq0 wq hbq hBq; have GQ := Aside0.mk (show b < q by rw [hq0]; exact blk_lt hbox); clear hq0) | ((with_reducible refine gate_dst (N := 4) rfl ?_); refine box_event rfl (N := 4) rfl (cs := #[.int .i64 0, .slice none 0 0, .slice none 0 0, .int .i64 0]) (t := 27) (by first | (go_simp; done) | (go_simp; rfl)) ?_; intro r hr0 w2 hres hB2; have GR := Aside0.mk (show q < r by rw [hr0]; exact blk_lt hbq); clear hr0))
  have BK := Aside0.mk (blk_below (blk_below hbox hBq) hB2)
  have BQ := Aside0.mk (blk_below hbq hB2)
  have BR := Aside0.mk hres
  have HB := Aside0.mk (below_step (below_step hB1 hBq) hB2)
  have GRW := Aside0.mk (show w.heap.size ≤ r by have := GB.out; have := GQ.out; have := GR.out; omega)
  have NBR := Aside0.mk (show b ≠ r by have := GQ.out; have := GR.out; omega)
  have NQR := Aside0.mk (show q ≠ r by have := GR.out; omega)
  clear hbox hbq hBq hB1 hB2 hres
  have hcb0 := (blk_cell BK.out 0).trans rfl
  have hcb1 := (blk_cell BK.out 1).trans rfl
  have hcb2 := (blk_cell BK.out 2).trans rfl
  have hcb3 := (blk_cell BK.out 3).trans rfl
  have hcq0 := (blk_cell BQ.out 0).trans rfl
  have hcq1 := (blk_cell BQ.out 1).trans rfl
  have hcq2 := (blk_cell BQ.out 2).trans rfl
  have hcq3 := (blk_cell BQ.out 3).trans rfl
  go_upto_region 14 with ((with_reducible refine gate_callee (f := 26) rfl ?_); refine goesL_ (some 71) rfl rfl Try.func26 (by kernel_rfl) rfl #[.agg #[.int .i64 a0_0, .slice A0_1 l0_1.length c0_1, .slice A0_2 l0_2.length c0_2, .int .i64 a0_3], .int .i64 o1, .int .i64 o2] rfl (by (try simp only [List.map_toArray, List.map_cons, List.map_nil]); first | done | rfl) ?_; (with_reducible refine (cow_Read.calls k a0_0 _ _ l0_1 _ _ l0_2 a0_3 o1 o2 m1 m2 _ ?side1 ?side2 ?side3 ?side4 HC.out).mono ?_); (case side1 => exact Kd.C_below HR0_1.out HB.out); (case side2 => exact HC0_1.out); (case side3 => exact Kd.C_below HR0_2.out HB.out); (case side4 => exact HC0_2.out); rintro e w3 ⟨rfl, hb3⟩; refine ⟨_, rfl, ?_⟩; clear hcb0 hcb1 hcb2 hcb3 hcq0 hcq1 hcq2 hcq3; have nK := Aside0.mk (blk_below BK.out hb3); have nR := Aside0.mk (blk_below BR.out hb3); have nB := Aside0.mk (below_step HB.out hb3); clear BK BQ BR HB hb3; have BK := nK; have BR := nR; have HB := nB; clear nK nR nB)
  have hcb0 := (blk_cell BK.out 0).trans rfl
  have hcb1 := (blk_cell BK.out 1).trans rfl
  have hcb2 := (blk_cell BK.out 2).trans rfl
  have hcb3 := (blk_cell BK.out 3).trans rfl
  have hfb := fun j => blk_frozen BK.out j
  have hcr0 := (blk_cell BR.out 0).trans rfl
  have hcr1 := (blk_cell BR.out 1).trans rfl
  have hcr2 := (blk_cell BR.out 2).trans rfl
  have hcr3 := (blk_cell BR.out 3).trans rfl
  have hfr := fun j => blk_frozen BR.out j
  go_wp2
  refine bodyPost_ret (results_ctt rfl _ _ r 27 #[.int .i64 a0_0, .slice A0_1 l0_1.length c0_1, .slice A0_2 l0_2.length c0_2, .int .i64 a0_3] (0, 0) _ rfl (set4_blk BR.out _ _ _ _) Try.underlying27 rfl (by kernel_rfl)) rfl ?_
  exact ⟨_, _, rfl, .inl (by refine ⟨?_, ?_, ?_, ?_, ?_, ?_⟩ <;> first | rfl | trivial), set4_below HB.out GRW.out _ _ _ _⟩
end Go.Proofs.Yteldbkdfphiogaa.Pr
