-- Written by a program of this session (a changed copy of the kit's printer). Not trusted: Lean checks it.
import Derived.Test.YteldbkdfphiogaaM0
import Derived.Test.YteldbkdfphiogaaFapiCowPage36
import Derived.Test.YteldbkdfphiogaaFcowlive
import Derived.Test.YteldbkdfphiogaaFcowown
namespace Go.Proofs.Yteldbkdfphiogaa.Pr
open Go.RowKit Go.Proofs.YteldbkdfphiogaaW.PrintWords Go.Proofs.YteldbkdfphiogaaW.PrintLast Go.Proofs.YteldbkdfphiogaaW.PrintMore
attribute [local go_sem] max2_int min2_int max_two min_two max_three min_three max_four min_four   -- for this text's walks alone
set_option linter.unusedVariables false
set_option linter.unusedSimpArgs false
/-! ### cow_Fork: function 13 -/
def cow_Fork.f (k : Nat) (a0_0 : Int) (l0_1 : List (S62)) (l0_2 : List (S57)) (a0_3 : Int) (a1 : Int) : Option (Int × List (S62) × List (S57) × Int × Int × Int) :=
  (cow_live.f k a0_0 l0_1 l0_2 a0_3 a1).bind fun t => if t = 0 then (if okE l0_1 l0_2 a1 then (if 8 ≤ (l0_1.length : Int) then some (0, [], [], 0, 0, 9) else some (a0_0, forkSS l0_1 l0_2 a1, forkFS l0_1 l0_2 a1, a0_3, (l0_1.length : Int), 0)) else none) else some (0, [], [], 0, 0, t)
theorem cow_Fork.mono : ∀ a0 a1 a2 a3 a4 k, LeO (cow_Fork.f k a0 a1 a2 a3 a4) (cow_Fork.f (k + 1) a0 a1 a2 a3 a4) := by
  intro a0 a1 a2 a3 a4 k
  exact LeO.bind (cow_live.mono _ _ _ _ _ _) (fun _ => LeO.refl _)
set_option maxRecDepth 100000 in
set_option maxHeartbeats 4000000 in
theorem cow_Fork.calls (k : Nat) (a0_0 : Int) (A0_1 : Option Addr) (c0_1 : Nat) (l0_1 : List (S62)) (A0_2 : Option Addr) (c0_2 : Nat) (l0_2 : List (S57)) (a0_3 : Int) (a1 : Int) (r1 : Int) (r2 : List (S62)) (r3 : List (S57)) (r4 : Int) (r5 : Int) (r6 : Int) (w : World) (hr0_1 : Kd.C k62 w A0_1 l0_1.length l0_1) (hc0_1 : l0_1.length ≤ c0_1) (hr0_2 : Kd.C k57 w A0_2 l0_2.length l0_2) (hc0_2 : l0_2.length ≤ c0_2) (h : cow_Fork.f k a0_0 l0_1 l0_2 a0_3 a1 = some (r1, r2, r3, r4, r5, r6)) :
    Calls Try.prog 13 #[.agg #[.int .i64 a0_0, .slice A0_1 l0_1.length c0_1, .slice A0_2 l0_2.length c0_2, .int .i64 a0_3], .int .i64 a1] w fun e w' => ∃ v1_ v2_ : Value, e = .returned (.tuple #[.agg #[.int .i64 r1, v1_, v2_, .int .i64 r4], .int .i64 r5, .int .i64 r6]) ∧ Kd.S k62 62 w' w.heap.size (fun _ => True) v1_ r2 ∧ Kd.R k57 57 w' w.heap.size (fun _ => True) v2_ r3 ∧ Below w.heap.size w w' := by
  have HR0_1 := Aside0.mk hr0_1
  have HC0_1 := Aside0.mk hc0_1
  have HR0_2 := Aside0.mk hr0_2
  have HC0_2 := Aside0.mk hc0_2
  clear hr0_1 hc0_1 hr0_2 hc0_2
  have hu27 := Try.underlying27
  have hu62 := Try.underlying62
  have hu64 := Try.underlying64
  have hu57 := Try.underlying57
  unfold cow_Fork.f at h
  replace h := Option.bind_eq_some_iff.mp h
  obtain ⟨t, ht, h⟩ := h
  have HT := Aside0.mk ht
  clear ht
  by_cases c : t = 0
  · subst c
    rw [if_pos rfl] at h
    split at h
    case isFalse => cases h
    rename_i hok
    have HOK := Aside0.mk hok
    clear hok
    have HOWN := Aside0.mk (own_of_ok (a0 := a0_0) (a3 := a0_3) HOK.out.1)
    have HNE := Aside0.mk (show 0 < l0_1.length by have := HOK.out; unfold okE at this; omega)
    by_cases h8 : 8 ≤ (l0_1.length : Int)
    · rw [if_pos h8] at h
      simp only [Option.some.injEq, Prod.mk.injEq] at h
      obtain ⟨rfl, rfl, rfl, rfl, rfl, rfl⟩ := h
      have e8 : decide (8 ≤ (l0_1.length : Int)) = true := decide_eq_true h8
      have e8n : decide (8 ≤ l0_1.length) = true := decide_eq_true (by omega)
      clear h8
      go_enter Try.func13, Try.ntmps13
      go_upto_region 1 with (first | ((with_reducible refine gate_dst (N := 2) rfl ?_); refine box_event rfl (N := 2) rfl (cs := #[.int .i64 a0_0, .slice A0_1 l0_1.length c0_1, .slice A0_2 l0_2.length c0_2, .int .i64 a0_3]) (t := 27) (by first | (go_simp; done) | (go_simp; rfl)) ?_; intro b hb0 w1 hbox hB1; have GB := Aside0.mk (show w.heap.size ≤ b by rw [hb0]; exact Nat.le_refl _); clear hb0) | ((with_reducible refine gate_dst (N := 4) rfl ?_); refine box_event rfl (N := 4) rfl (cs := #[.int .i64 0, .slice none 0 0, .slice none 0 0, .int .i64 0]) (t := 27) (by first | (go_simp; done) | (go_simp; rfl)) ?_; intro r hr0 w2 hres hB2; have GR := Aside0.mk (show b < r by rw [hr0]; exact blk_lt hbox); clear hr0))
      have BK := Aside0.mk (blk_below hbox hB2)
      have BR := Aside0.mk hres
      have HB := Aside0.mk (below_step hB1 hB2)
      clear hbox hB1 hB2 hres
      have hcb0 := (blk_cell BK.out 0).trans rfl
      have hcb1 := (blk_cell BK.out 1).trans rfl
      have hcb2 := (blk_cell BK.out 2).trans rfl
      have hcb3 := (blk_cell BK.out 3).trans rfl
      go_upto_region 2 with ((with_reducible refine gate_callee (f := 35) rfl ?_); refine goesL_ (some 13) rfl rfl Try.func35 (by kernel_rfl) rfl #[.agg #[.int .i64 a0_0, .slice A0_1 l0_1.length c0_1, .slice A0_2 l0_2.length c0_2, .int .i64 a0_3], .int .i64 a1] rfl (by (try simp only [List.map_toArray, List.map_cons, List.map_nil]); first | done | rfl) ?_; (with_reducible refine (cow_live.calls k a0_0 _ _ l0_1 _ _ l0_2 a0_3 a1 0 _ ?side1 ?side2 ?side3 ?side4 HT.out).mono ?_); (case side1 => exact Kd.C_below HR0_1.out HB.out); (case side2 => exact HC0_1.out); (case side3 => exact Kd.C_below HR0_2.out HB.out); (case side4 => exact HC0_2.out); rintro e w3 ⟨rfl, hb3⟩; refine ⟨_, rfl, ?_⟩)
      have n1 := Aside0.mk (blk_below BK.out hb3)
      have n2 := Aside0.mk (blk_below BR.out hb3)
      have n3 := Aside0.mk (below_step HB.out hb3)
      clear BK BR HB hb3 hcb0 hcb1 hcb2 hcb3
      have BK := n1
      have BR := n2
      have HB := n3
      clear n1 n2 n3
      have hcb0 := (blk_cell BK.out 0).trans rfl
      have hcb1 := (blk_cell BK.out 1).trans rfl
      have hcb2 := (blk_cell BK.out 2).trans rfl
      have hcb3 := (blk_cell BK.out 3).trans rfl
      have hfb := fun j => blk_frozen BK.out j
      have hcr0 := (blk_cell BR.out 0).trans rfl
      have hcr1 := (blk_cell BR.out 1).trans rfl
      have hcr2 := (blk_cell BR.out 2).trans rfl
      have hcr3 := (blk_cell BR.out 3).trans rfl
      have hfr := fun j => blk_frozen BR.out j
      go_wp2
      refine bodyPost_ret (results_ctt rfl _ _ r 27 #[.int .i64 0, .slice none 0 0, .slice none 0 0, .int .i64 0] (0, 0) _ rfl (set4_blk BR.out _ _ _ _) Try.underlying27 rfl (by kernel_rfl)) rfl ?_
      exact ⟨_, _, rfl, Kd.S_nil _ _ _ _ _, Kd.R_nil _ _ _ _ _, set4_below HB.out (by have := GB.out; have := GR.out; omega) _ _ _ _⟩
    · rw [if_neg h8] at h
      simp only [Option.some.injEq, Prod.mk.injEq] at h
      obtain ⟨rfl, rfl, rfl, rfl, rfl, rfl⟩ := h
      have e8 : decide (8 ≤ (l0_1.length : Int)) = false := decide_eq_false h8
      have e8n : decide (8 ≤ l0_1.length) = false := decide_eq_false (by omega)
      clear h8
      go_enter Try.func13, Try.ntmps13
      go_upto_region 1 with (first | ((with_reducible refine gate_dst (N := 2) rfl ?_); refine box_event rfl (N := 2) rfl (cs := #[.int .i64 a0_0, .slice A0_1 l0_1.length c0_1, .slice A0_2 l0_2.length c0_2, .int .i64 a0_3]) (t := 27) (by first | (go_simp; done) | (go_simp; rfl)) ?_; intro b hb0 w1 hbox hB1; have GB := Aside0.mk (show w.heap.size ≤ b by rw [hb0]; exact Nat.le_refl _); clear hb0) | ((with_reducible refine gate_dst (N := 4) rfl ?_); refine box_event rfl (N := 4) rfl (cs := #[.int .i64 0, .slice none 0 0, .slice none 0 0, .int .i64 0]) (t := 27) (by first | (go_simp; done) | (go_simp; rfl)) ?_; intro r hr0 w2 hres hB2; have GR := Aside0.mk (show b < r by rw [hr0]; exact blk_lt hbox); clear hr0))
      have BK := Aside0.mk (blk_below hbox hB2)
      have BR := Aside0.mk hres
      have HB := Aside0.mk (below_step hB1 hB2)
      clear hbox hB1 hB2 hres
      have hcb0 := (blk_cell BK.out 0).trans rfl
      have hcb1 := (blk_cell BK.out 1).trans rfl
      have hcb2 := (blk_cell BK.out 2).trans rfl
      have hcb3 := (blk_cell BK.out 3).trans rfl
      go_upto_region 2 with ((with_reducible refine gate_callee (f := 35) rfl ?_); refine goesL_ (some 13) rfl rfl Try.func35 (by kernel_rfl) rfl #[.agg #[.int .i64 a0_0, .slice A0_1 l0_1.length c0_1, .slice A0_2 l0_2.length c0_2, .int .i64 a0_3], .int .i64 a1] rfl (by (try simp only [List.map_toArray, List.map_cons, List.map_nil]); first | done | rfl) ?_; (with_reducible refine (cow_live.calls k a0_0 _ _ l0_1 _ _ l0_2 a0_3 a1 0 _ ?side1 ?side2 ?side3 ?side4 HT.out).mono ?_); (case side1 => exact Kd.C_below HR0_1.out HB.out); (case side2 => exact HC0_1.out); (case side3 => exact Kd.C_below HR0_2.out HB.out); (case side4 => exact HC0_2.out); rintro e w3 ⟨rfl, hb3⟩; refine ⟨_, rfl, ?_⟩)
      have n1 := Aside0.mk (blk_below BK.out hb3)
      have n2 := Aside0.mk (blk_below BR.out hb3)
      have n3 := Aside0.mk (below_step HB.out hb3)
      clear BK BR HB hb3 hcb0 hcb1 hcb2 hcb3
      have BK := n1
      have BR := n2
      have HB := n3
      clear n1 n2 n3
      have hqb0 := (blk_cell BK.out 0).trans rfl
      have hqb1 := (blk_cell BK.out 1).trans rfl
      have hqb2 := (blk_cell BK.out 2).trans rfl
      have hqb3 := (blk_cell BK.out 3).trans rfl
      go_upto_region 7 with ((with_reducible refine gate_callee (f := 32) rfl ?_); refine goesL_ (some 24) rfl rfl Try.func32 (by kernel_rfl) rfl #[.agg #[.int .i64 a0_0, .slice A0_1 l0_1.length c0_1, .slice A0_2 l0_2.length c0_2, .int .i64 a0_3]] rfl (by (try simp only [List.map_toArray, List.map_cons, List.map_nil]); first | done | rfl) ?_; (with_reducible refine (cow_own.calls a0_0 _ _ l0_1 _ _ l0_2 a0_3 _ _ _ _ _ ?side1 ?side2 ?side3 ?side4 HOWN.out).mono ?_); (case side1 => exact Kd.C_below HR0_1.out HB.out); (case side2 => exact HC0_1.out); (case side3 => exact Kd.C_below HR0_2.out HB.out); (case side4 => exact HC0_2.out); rintro e w4 ⟨v1, v2, rfl, ho1, ho2, hb4⟩; refine ⟨_, rfl, ?_⟩; obtain ⟨gs, cap1, rfl, _, _, _⟩ := Kd.S_form ho1 (by have := HNE.out; omega); obtain ⟨A2, cap2, rfl⟩ := Kd.R_slice ho2; have hq0 := (blk_cell (blk_below BK.out hb4) 0).trans rfl; have hq1 := (blk_cell (blk_below BK.out hb4) 1).trans rfl; have hq2 := (blk_cell (blk_below BK.out hb4) 2).trans rfl; have hq3 := (blk_cell (blk_below BK.out hb4) 3).trans rfl; have hqf := fun j => blk_frozen (blk_below BK.out hb4) j)
      have CM := Aside0.mk (CowM.set4 (w0 := w) ⟨Kd.S_lower ho1 HB.out.size, Kd.R_lower ho2 HB.out.size, below_step HB.out hb4⟩ (blk_below BK.out hb4) GB.out (.int .i64 a0_0) (.slice (some ⟨gs, 0, none⟩) l0_1.length cap1) (.slice A2 l0_2.length cap2) (.int .i64 a0_3))
      have n1 := Aside0.mk (set4_blk (blk_below BK.out hb4) (.int .i64 a0_0) (.slice (some ⟨gs, 0, none⟩) l0_1.length cap1) (.slice A2 l0_2.length cap2) (.int .i64 a0_3))
      have n2 := Aside0.mk ((set4_heap w4 b (.int .i64 a0_0) (.slice (some ⟨gs, 0, none⟩) l0_1.length cap1) (.slice A2 l0_2.length cap2) (.int .i64 a0_3) r (by have := GR.out; omega)).trans (blk_below BR.out hb4))
      clear BK BR hqb0 hqb1 hqb2 hqb3 hq0 hq1 hq2 hq3 hqf ho1 ho2
      have BK := n1
      have BR := n2
      clear n1 n2
      unfold set4 at CM BK BR
      generalize (((w4.setCell ⟨b, 0, none⟩ (.int .i64 a0_0)).setCell ⟨b, 1, none⟩ (.slice (some ⟨gs, 0, none⟩) l0_1.length cap1)).setCell ⟨b, 2, none⟩ (.slice A2 l0_2.length cap2)).setCell ⟨b, 3, none⟩ (.int .i64 a0_3) = W at CM BK BR ⊢
      clear hb4 HB
      have hok := HOK.out
      unfold okE at hok
      obtain ⟨hok0, hj0, hj1, hm0, hfr⟩ := hok
      have hok0 := Aside0.mk hok0
      have HFR := Aside0.mk hfr
      have HM0 := Aside0.mk hm0
      have HML := Aside0.mk (show (rd_T62 l0_1 a1).f1.length ≤ 1000 from by
        have h3 : a1.toNat < l0_1.length := by omega
        have h2 : rd_T62 l0_1 a1 ∈ l0_1 := by
          unfold rd_T62
          rw [List.getD_eq_getElem?_getD, List.getElem?_eq_getElem h3]
          exact List.getElem_mem _
        exact hok0.out.2.2 _ h2)
      have HSL := Aside0.mk (show l0_1.length ≤ 1000 from hok0.out.1)
      clear hfr hm0
      obtain ⟨gp, cpp, hc, hP⟩ := CM.out.page a1 0 hj0 (by omega) (Int.le_refl _) (by have := HM0.out; omega)
      obtain ⟨m, hm⟩ : ∃ m : Nat, m = (rd_T62 l0_1 a1).f1.length := ⟨_, rfl⟩
      rw [← hm] at hc
      have HMM := Aside0.mk hm
      have hml : m ≤ 1000 := by rw [hm]; exact HML.out
      clear hm hP
      have C0 : Aside0 (Cst w W b #[.int .i64 a0_0, .slice (some ⟨gs, 0, none⟩) l0_1.length cap1, .slice A2 l0_2.length cap2, .int .i64 a0_3] r #[.int .i64 0, .slice none 0 0, .slice none 0 0, .int .i64 0] r #[.int .i64 0, .slice none 0 0, .slice none 0 0, .int .i64 0] gs l0_1.length cap1 A2 l0_2.length cap2 a1 gp m cpp l0_1 l0_2) := ⟨⟨CM.out, hc, BK.out, BR.out, BR.out⟩⟩
      have HRB := Aside0.mk (show r ≠ b by have := GR.out; omega)
      clear CM BK BR hc
      have hcb1 := (blk_cell C0.out.bk 1).trans rfl
      have hgc := C0.out.hc
      have d0 : decide (0 ≤ a1) = true := decide_eq_true hj0
      have d1 : decide (a1 < (l0_1.length : Int)) = true := decide_eq_true hj1
      go_wp2
      clear hcb1 hgc
      have HIN := Aside0.mk (forkN_inv a1 l0_1 l0_2 hj0 hj1)
      go_loopw [33] (fun v33 wr => ∃ i : Nat, v33 = .int .i64 i ∧ i ≤ m ∧ Aside0 (Cst w wr b #[.int .i64 a0_0, .slice (some ⟨gs, 0, none⟩) l0_1.length cap1, .slice A2 l0_2.length cap2, .int .i64 a0_3] r #[.int .i64 0, .slice none 0 0, .slice none 0 0, .int .i64 0] r #[.int .i64 0, .slice none 0 0, .slice none 0 0, .int .i64 0] gs l0_1.length cap1 A2 l0_2.length cap2 a1 gp m cpp (forkN a1 l0_1 l0_2 i).1 (forkN a1 l0_1 l0_2 i).2)) (fun v _ => m - (intOf v).toNat)
      case atStart => exact ⟨0, rfl, Nat.zero_le _, C0⟩
      case round =>
        clear C0
        rename_i wr
        obtain ⟨i, rfl, hi, C0⟩ := hrel
        obtain ⟨i1, i2, i3, i4, i5⟩ := HIN.out i
        have I1 := Aside0.mk i1
        have I2 := Aside0.mk i2
        have I4 := Aside0.mk i4
        have I5 := Aside0.mk (i5 i (Nat.le_refl _))
        clear i1 i2 i3 i4 i5
        by_cases hlt : i < m
        · have e0 : (0 : Int) ≤ (i : Int) := by omega
          have e1 : (i : Int) < (m : Int) := by omega
          have HK1 := Aside0.mk (show ((i : Nat) : Int) < ((rd_T62 (forkN a1 l0_1 l0_2 i).1 a1).f1.length : Int) by rw [I4.out, ← HMM.out]; exact e1)
          have HJ1 := Aside0.mk (show a1 < ((forkN a1 l0_1 l0_2 i).1.length : Int) by rw [I1.out]; exact hj1)
          have HF := Aside0.mk (show (rd_T64 (rd_T62 (forkN a1 l0_1 l0_2 i).1 a1).f1 (i : Int)).f0 < ((forkN a1 l0_1 l0_2 i).2.length : Int) by rw [I5.out, I2.out]; exact HFR.out i (by rw [← HMM.out]; exact hlt))
          have HS1 := Aside0.mk (show (forkN a1 l0_1 l0_2 (i + 1)).1 = setPage (forkN a1 l0_1 l0_2 i).1 a1 i ⟨(rd_T64 (rd_T62 (forkN a1 l0_1 l0_2 i).1 a1).f1 i).f0, false⟩ from rfl)
          have HS2 := Aside0.mk (show (forkN a1 l0_1 l0_2 (i + 1)).2 = incF (forkN a1 l0_1 l0_2 i).2 (rd_T64 (rd_T62 (forkN a1 l0_1 l0_2 i).1 a1).f1 i).f0 from rfl)
          generalize (forkN a1 l0_1 l0_2 i).1 = ss1 at *
          generalize (forkN a1 l0_1 l0_2 i).2 = fs1 at *
          generalize hp : rd_T64 (rd_T62 ss1 a1).f1 (i : Int) = p at *
          have HPP := Aside0.mk hp
          clear hp
          have hP := C0.out.pageAt (i : Int) hj0 hj1 e0 HK1.out
          rw [HPP.out] at hP
          have hpc1 := hP.c1
          have hpz := hP.fz (i * 2 + 1)
          rw [show ((i : Int)).toNat * 2 + 1 = i * 2 + 1 from rfl] at hpc1
          clear hP
          go_upto_region 12 with (fail)
          have nC := Aside0.mk (C0.out.page (i : Int) hj0 hj1 e0 HK1.out ⟨p.f0, false⟩ (.bool false) 1 (Or.inr ⟨rfl, rfl, by rw [HPP.out]⟩))
          clear C0 hpc1 hpz
          have C0 : Aside0 (Cst w (wr.setCell ⟨gp, i * 2 + 1, none⟩ (.bool false)) b #[.int .i64 a0_0, .slice (some ⟨gs, 0, none⟩) l0_1.length cap1, .slice A2 l0_2.length cap2, .int .i64 a0_3] r #[.int .i64 0, .slice none 0 0, .slice none 0 0, .int .i64 0] r #[.int .i64 0, .slice none 0 0, .slice none 0 0, .int .i64 0] gs l0_1.length cap1 A2 l0_2.length cap2 a1 gp m cpp (setPage ss1 a1 i ⟨p.f0, false⟩) fs1) := ⟨nC.out⟩
          clear nC
          generalize wr.setCell ⟨gp, i * 2 + 1, none⟩ (.bool false) = W2 at C0 ⊢
          have hP := C0.out.pageAt (i : Int) hj0 hj1 e0 (by rw [setPage_rowlen _ _ _ _ hj0 HJ1.out]; exact HK1.out)
          rw [setPage_pg _ _ _ _ hj0 HJ1.out e0 HK1.out] at hP
          have hpc0 := hP.c0
          rw [show ((i : Int)).toNat * 2 = i * 2 from rfl] at hpc0
          clear hP
          by_cases hf0 : 0 ≤ p.f0
          · have q0 : decide (0 ≤ p.f0) = true := decide_eq_true hf0
            obtain ⟨gf, rfl, hF⟩ := C0.out.cm.frame p.f0 hf0 HF.out
            have hl2 := C0.out.cm.fr
            have hln : l0_2.length = fs1.length := (Kd.R_reads' C0.out.cm.fr).1
            have q2 : p.f0 < (l0_2.length : Int) := by rw [hln]; exact HF.out
            have q1 : decide (p.f0 < (l0_2.length : Int)) = true := decide_eq_true q2
            have hfc0 := hF.c0
            have hfz := hF.fz (p.f0.toNat * 2)
            have hcb2 := (blk_cell C0.out.bk 2).trans rfl
            clear hF hln hl2
            go_wp2
            refine ⟨⟨i + 1, by first | rfl | go_num, hlt, ?_⟩, ?_⟩
            · rw [HS1.out, HS2.out]
              unfold incF
              rw [if_pos hf0]
              exact ⟨C0.out.frame p.f0 hf0 HF.out ⟨wrap64 ((rd_T57 fs1 p.f0).f0 + 1), (rd_T57 fs1 p.f0).f1⟩ (.int .i64 (wrap64 ((rd_T57 fs1 p.f0).f0 + 1))) 0 (Or.inl ⟨rfl, rfl, rfl⟩)⟩
            · simp [intOf]
              omega
          · have q0 : decide (0 ≤ p.f0) = false := decide_eq_false hf0
            go_wp2
            refine ⟨⟨i + 1, by first | rfl | go_num, hlt, ?_⟩, ?_⟩
            · rw [HS1.out, HS2.out]
              unfold incF
              rw [if_neg hf0]
              exact ⟨C0.out⟩
            · simp [intOf]
              omega
        · obtain rfl : m = i := by omega
          clear hlt hi
          have HE := Aside0.mk (show forkSS l0_1 l0_2 a1 = (forkN a1 l0_1 l0_2 m).1 ++ [⟨true, (rd_T62 (forkN a1 l0_1 l0_2 m).1 a1).f1⟩] by unfold forkSS; rw [← HMM.out])
          have HEF := Aside0.mk (show forkFS l0_1 l0_2 a1 = (forkN a1 l0_1 l0_2 m).2 by unfold forkFS; rw [← HMM.out])
          have HJ1 := Aside0.mk (show a1 < ((forkN a1 l0_1 l0_2 m).1.length : Int) by rw [I1.out]; exact hj1)
          generalize (forkN a1 l0_1 l0_2 m).1 = ss1 at *
          generalize (forkN a1 l0_1 l0_2 m).2 = fs1 at *
          rw [← HMM.out] at I4
          obtain ⟨Ap, cp9, g1, g2, g3, g4⟩ := C0.out.cm.space a1 hj0 hj1
          have g5 := C0.out.hc
          rw [g2] at g5
          simp only [Option.some.injEq, Value.slice.injEq] at g5
          obtain ⟨q1, _, q2⟩ := g5
          subst q1
          rw [I4.out, q2] at g3
          rw [I4.out] at g4
          clear q2
          have HG3 := Aside0.mk g3
          have HG4 := Aside0.mk g4
          clear g1 g2 g3 g4
          go_upto_region 16 with (fail)
          have hcb1 := (blk_cell C0.out.bk 1).trans rfl
          have HOLD := Aside0.mk (Kd.S_mono (Kd.S_bound C0.out.cm.sp) (fun k hk => (⟨trivial, by have := hk.2.2.1; omega⟩ : True ∧ ¬ wr.heap.size ≤ k)))
          refine start_ (n := 9) (S := fun w' => w'.cell? ⟨b, 1, none⟩ = some (.slice (some ⟨gs, 0, none⟩) l0_1.length cap1)) (ds := [6, 8]) #[false, false, false, false, false, false, false, false, false] (by kernel_rfl) rfl rfl hcb1 (fun hHeld => ?_)
          refine pure_ (i := 0) (N := some 57) (v := ?_) (a' := ?_) #[true, false, false, false, false, false, false, false, false] rfl rfl (by kernel_rfl) (fun _ _ _ h => h) (Or.inl ⟨by rfl, ?_⟩) ?_ ?_
          rotate_left
          · intro w'
            go_simp
            with_reducible rfl
          rotate_left
          · simp only [Act.put, List.setIfInBounds_toArray, List.set_cons_zero, List.set_cons_succ, i64_w, i32_w]
            rfl
          refine take_ (i := 1) (N := some 58) (v := ?_) (a' := ?_) #[true, true, false, false, false, false, false, false, false] rfl rfl (by kernel_rfl) (fun _ _ _ h => h) (Or.inl ⟨by rfl, ?_⟩) hHeld ?_ ?_
          rotate_left
          · rintro w' s0
            go_simp
            with_reducible rfl
          rotate_left
          · simp only [Act.put, List.setIfInBounds_toArray, List.set_cons_zero, List.set_cons_succ, i64_w, i32_w]
            rfl
          refine pure_ (i := 2) (N := some 59) (v := ?_) (a' := ?_) #[true, true, true, false, false, false, false, false, false] rfl rfl (by kernel_rfl) (fun _ _ _ h => h) (Or.inl ⟨by rfl, ?_⟩) ?_ ?_
          rotate_left
          · intro w'
            go_simp
            with_reducible rfl
          rotate_left
          · simp only [Act.put, List.setIfInBounds_toArray, List.set_cons_zero, List.set_cons_succ, i64_w, i32_w]
            rfl
          refine one_ (i := 3) (N := some 60) #[true, true, true, true, false, false, false, false, false] rfl rfl (by kernel_rfl) (by decide) (fun K hK => ?_)
          refine goes_ Try.func36 (by kernel_rfl) rfl #[.slice (some ⟨gp, 0, none⟩) m cpp] (by rfl) rfl rfl (by (try simp only [List.map_toArray, List.map_cons, List.map_nil]); first | done | rfl) ?_
          have hm5 : m = (rd_T62 ss1 a1).f1.length := I4.out.symm
          rw [show (Value.slice (some ⟨gp, 0, none⟩) m cpp) = .slice (some ⟨gp, 0, none⟩) (rd_T62 ss1 a1).f1.length cpp by rw [← hm5]]
          refine (api_CowPage_36.calls (some ⟨gp, 0, none⟩) cpp (rd_T62 ss1 a1).f1 (rd_T62 ss1 a1).f1 _ (Kd.C_drew (by rw [← hm5]; exact HG4.out)) (by rw [← hm5]; exact HG3.out) (by unfold api_CowPage_36.f; rw [if_pos (by omega)])).mono ?_
          rintro e wc ⟨v3, rfl, ho3, hb3⟩
          refine ⟨_, rfl, ?_⟩
          obtain ⟨A3, c3, rfl⟩ := Kd.R_slice ho3
          refine hK.out _ _ ((blk_cell (blk_below (blk_drew C0.out.bk) hb3) 1).trans rfl) (fun hHeld => ?_)
          clear hK K
          have HO3 := Aside0.mk (show Kd.R k64 64 wc w.heap.size (fun k => wr.heap.size ≤ k) (.slice A3 (rd_T62 ss1 a1).f1.length c3) (rd_T62 ss1 a1).f1 from Kd.R_lower (Kd.R_mono (Kd.R_bound ho3) (fun k hk => hk.2.1)) C0.out.cm.hb.size)
          have nC := Aside0.mk (C0.out.below (below_step (below_drew1 (Below.refl _ _)) hb3))
          have nH := Aside0.mk (Kd.S_below HOLD.out (below_step (below_drew1 (Below.refl _ _)) hb3))
          have HWC := Aside0.mk (show wr.heap.size ≤ wc.heap.size from hb3.size)
          clear C0 HOLD ho3 hb3 hm5
          have C0 := nC
          have HOLD := nH
          clear nC nH
          refine norm_ (a' := ?_) ?_ ?_
          rotate_left
          · show Act.put _ (some 60) _ = _
            simp only [Act.put, List.setIfInBounds_toArray, List.set_cons_zero, List.set_cons_succ, i64_w, i32_w]
            rfl
          refine pure_ (i := 4) (N := some 61) (v := ?_) (a' := ?_) #[true, true, true, true, true, false, false, false, false] rfl rfl (by kernel_rfl) (fun _ _ _ h => h) (Or.inl ⟨by rfl, ?_⟩) ?_ ?_
          rotate_left
          · intro w'
            go_simp
            with_reducible rfl
          rotate_left
          · simp only [Act.put, List.setIfInBounds_toArray, List.set_cons_zero, List.set_cons_succ, i64_w, i32_w]
            rfl
          refine one_ (i := 5) (N := some 62) #[true, true, true, true, true, true, false, false, false] rfl rfl (by kernel_rfl) (by decide) (fun K hK => ?_)
          refine event_step (v := .slice (some ⟨wc.heap.size, 0, none⟩) 1 1) (w1 := wc.alloc (.cells #[.bool true, .slice A3 (rd_T62 ss1 a1).f1.length c3] 62)) (by rfl) (by first | (go_simp; done) | (go_simp; rfl)) ?_
          refine hK.out _ _ ((blk_cell (blk_alloc C0.out.bk _) 1).trans rfl) (fun hHeld => ?_)
          clear hK K
          refine norm_ (a' := ?_) ?_ ?_
          rotate_left
          · show Act.put _ (some 62) _ = _
            simp only [Act.put, List.setIfInBounds_toArray, List.set_cons_zero, List.set_cons_succ, i64_w, i32_w]
            rfl
          refine last_ (i := 6) (N := some 63) #[true, true, true, true, true, true, true, false, false] rfl rfl (by kernel_rfl) (by decide) (fun K hK => ?_)
          refine Kd.S_append_step k62 (w0 := w) w.heap.size (by rfl) (.tmp 58) (.tmp 62) 24 62 (.agg #[(.bool false), (.slice none 0 0)]) 32 rfl Try.underlying24 info62 rfl (by show 0 < 2; decide) (by decide) (.slice (some ⟨gs, 0, none⟩) l0_1.length cap1) ss1 (⟨true, (rd_T62 ss1 a1).f1⟩ : S62) [.bool true, .slice A3 (rd_T62 ss1 a1).f1.length c3] (fun _ => True) (fun k => wr.heap.size ≤ k) rfl rfl (k62_mkM _ _ _ (⟨true, (rd_T62 ss1 a1).f1⟩ : S62) HO3.out) (fun k hk => ⟨trivial, fun e => by have := Kd.S_lt HOLD.out k e.symm; have hh := (Kd.S_R HOLD.out).1 k e.symm; exact hh.2 hk⟩) (fun _ _ => trivial) HOLD.out C0.out.cm.hb C0.out.cm.hb.size (by have := I1.out; have := HSL.out; omega) ?_
          intro vn wd hR hbd hgd hat
          obtain ⟨An, cn, hvn⟩ := Kd.S_slice hR
          rw [show (ss1 ++ [(⟨true, (rd_T62 ss1 a1).f1⟩ : S62)]).length = l0_1.length + 1 by rw [List.length_append, I1.out]; rfl] at hvn
          subst hvn
          refine hK.out _ _ ?_
          clear hK K
          refine norm_ (a' := ?_) ?_ ?_
          rotate_left
          · show Act.put _ (some 63) _ = _
            simp only [Act.put, List.setIfInBounds_toArray, List.set_cons_zero, List.set_cons_succ, i64_w, i32_w]
            rfl
          have hgb : b ≠ gs := C0.out.gs_ne.symm
          have hgr : r ≠ gs := by obtain ⟨cells, hh⟩ := Kd.S_typed C0.out.cm.sp gs (by simp [Value.ownBlock]); exact blk_ne C0.out.br hh (by decide)
          have hob : (Value.slice (some ⟨gs, 0, none⟩) l0_1.length cap1).ownBlock = some gs := by simp [Value.ownBlock]
          have CM := Aside0.mk (show CowM w wd (.slice An (l0_1.length + 1) cn) (.slice A2 l0_2.length cap2) (ss1 ++ [⟨true, (rd_T62 ss1 a1).f1⟩]) fs1 from ⟨hR, Kd.R_over' (v := .slice (some ⟨gs, 0, none⟩) l0_1.length cap1) (e' := 62) C0.out.cm.fr (Kd.S_typed C0.out.cm.sp) (by decide) hgd, hbd⟩)
          have BK := Aside0.mk (blk_grown C0.out.bk hgd (by rw [hob]; intro e; injection e with e; exact hgb e))
          have BR := Aside0.mk (blk_grown C0.out.br hgd (by rw [hob]; intro e; injection e with e; exact hgr e))
          clear C0 hR hbd hgd hat hob HOLD HO3 hgb hgr hcb1
          have hcb1 := (blk_cell BK.out 1).trans rfl
          have hfz1 := blk_frozen BK.out 1
          refine pure_ (i := 7) (N := some 64) (v := ?_) (a' := ?_) #[true, true, true, true, true, true, true, true, false] rfl rfl (by kernel_rfl) (fun _ _ _ h => h) (Or.inl ⟨by rfl, ?_⟩) ?_ ?_
          rotate_left
          · intro w'
            go_simp
            with_reducible rfl
          rotate_left
          · simp only [Act.put, List.setIfInBounds_toArray, List.set_cons_zero, List.set_cons_succ, i64_w, i32_w]
            rfl
          refine last_ (i := 8) (N := none) #[true, true, true, true, true, true, true, true, true] rfl rfl (by kernel_rfl) (by decide) (fun K hK => ?_)
          refine skip_ (w1 := ?_) (by rfl) rfl ?_ ?_
          rotate_left
          · go_simp
            rfl
          refine hK.out _ _ ?_
          clear hK K
          refine done_ (by kernel_rfl) ?_
          have nM := Aside0.mk (CM.out.off BK.out GB.out 1 (.slice An (l0_1.length + 1) cn))
          have nB := Aside0.mk (blk_put BK.out 1 (.slice An (l0_1.length + 1) cn) (cs' := #[.int .i64 a0_0, .slice An (l0_1.length + 1) cn, .slice A2 l0_2.length cap2, .int .i64 a0_3]) rfl)
          have nR := Aside0.mk (blk_far BR.out (p := ⟨b, 1, none⟩) HRB.out (.slice An (l0_1.length + 1) cn))
          clear CM BK BR hcb1 hfz1
          have CM := nM
          have BK := nB
          have BR := nR
          clear nM nB nR
          generalize wd.setCell ⟨b, 1, none⟩ (.slice An (l0_1.length + 1) cn) = W9 at CM BK BR ⊢
          have hsl := HSL.out
          go_upto_region 17 with (fail)
          have hcb0 := (blk_cell BK.out 0).trans rfl
          have hcb1 := (blk_cell BK.out 1).trans rfl
          have hcb2 := (blk_cell BK.out 2).trans rfl
          have hcb3 := (blk_cell BK.out 3).trans rfl
          have hfb := fun j => blk_frozen BK.out j
          have hcr0 := (blk_cell BR.out 0).trans rfl
          have hcr1 := (blk_cell BR.out 1).trans rfl
          have hcr2 := (blk_cell BR.out 2).trans rfl
          have hcr3 := (blk_cell BR.out 3).trans rfl
          have hfr := fun j => blk_frozen BR.out j
          refine start_ (n := 8) (S := fun w' => w'.cell? ⟨b, 0, none⟩ = some (.int .i64 a0_0) ∧ w'.cell? ⟨b, 1, none⟩ = some (.slice An (l0_1.length + 1) cn) ∧ w'.cell? ⟨b, 2, none⟩ = some (.slice A2 l0_2.length cap2) ∧ w'.cell? ⟨b, 3, none⟩ = some (.int .i64 a0_3)) (ds := []) #[false, false, false, false, false, false, false, false] (by kernel_rfl) rfl rfl ⟨hcb0, hcb1, hcb2, hcb3⟩ (fun hHeld => ?_)
          refine take_ (i := 0) (N := some 65) (v := ?_) (a' := ?_) #[true, false, false, false, false, false, false, false] rfl rfl (by kernel_rfl) (fun _ _ _ h => h) (Or.inl ⟨by rfl, ?_⟩) hHeld ?_ ?_
          rotate_left
          · rintro w' ⟨s0, s1, s2, s3⟩
            go_simp
            with_reducible rfl
          rotate_left
          · simp only [Act.put, List.setIfInBounds_toArray, List.set_cons_zero, List.set_cons_succ, i64_w, i32_w]
            rfl
          refine pure_ (i := 1) (N := some 66) (v := ?_) (a' := ?_) #[true, true, false, false, false, false, false, false] rfl rfl (by kernel_rfl) (fun _ _ _ h => h) (Or.inl ⟨by rfl, ?_⟩) ?_ ?_
          rotate_left
          · intro w'
            go_simp
            with_reducible rfl
          rotate_left
          · simp only [Act.put, List.setIfInBounds_toArray, List.set_cons_zero, List.set_cons_succ, i64_w, i32_w]
            rfl
          refine take_ (i := 2) (N := some 67) (v := ?_) (a' := ?_) #[true, true, true, false, false, false, false, false] rfl rfl (by kernel_rfl) (fun _ _ _ h => h) (Or.inl ⟨by rfl, ?_⟩) hHeld ?_ ?_
          rotate_left
          · rintro w' ⟨s0, s1, s2, s3⟩
            go_simp
            with_reducible rfl
          rotate_left
          · simp only [Act.put, List.setIfInBounds_toArray, List.set_cons_zero, List.set_cons_succ, i64_w, i32_w]
            rfl
          refine pure_ (i := 3) (N := some 68) (v := ?_) (a' := ?_) #[true, true, true, true, false, false, false, false] rfl rfl (by kernel_rfl) (fun _ _ _ h => h) (Or.inl ⟨by rfl, ?_⟩) ?_ ?_
          rotate_left
          · intro w'
            go_simp
            with_reducible rfl
          rotate_left
          · simp only [Act.put, List.setIfInBounds_toArray, List.set_cons_zero, List.set_cons_succ, i64_w, i32_w]
            rfl
          refine pure_ (i := 4) (N := some 69) (v := ?_) (a' := ?_) #[true, true, true, true, true, false, false, false] rfl rfl (by kernel_rfl) (fun _ _ _ h => h) (Or.inl ⟨by rfl, ?_⟩) ?_ ?_
          rotate_left
          · intro w'
            go_simp
            with_reducible rfl
          rotate_left
          · simp only [Act.put, List.setIfInBounds_toArray, List.set_cons_zero, List.set_cons_succ, i64_w, i32_w]
            rfl
          refine one_ (i := 5) (N := none) #[true, true, true, true, true, true, false, false] rfl rfl (by kernel_rfl) (by decide) (fun K hK => ?_)
          refine skip_ (w1 := ?_) (by rfl) rfl ?_ ?_
          rotate_left
          · go_simp
            rfl
          have nBK := blk_drew ((set4_heap W9 r (.int .i64 a0_0) (.slice An (l0_1.length + 1) cn) (.slice A2 l0_2.length cap2) (.int .i64 a0_3) b (Ne.symm HRB.out)).trans BK.out)
          refine hK.out _ _ ⟨(blk_cell nBK 0).trans rfl, (blk_cell nBK 1).trans rfl, (blk_cell nBK 2).trans rfl, (blk_cell nBK 3).trans rfl⟩ (fun hHeld => ?_)
          clear hK K
          refine pure_ (i := 6) (N := some 5) (v := ?_) (a' := ?_) #[true, true, true, true, true, true, true, false] rfl rfl (by kernel_rfl) (fun _ _ _ h => h) (Or.inl ⟨by rfl, ?_⟩) ?_ ?_
          rotate_left
          · intro w'
            go_simp
            with_reducible rfl
          rotate_left
          · simp only [Act.put, List.setIfInBounds_toArray, List.set_cons_zero, List.set_cons_succ, i64_w, i32_w]
            rfl
          refine pure_ (i := 7) (N := some 6) (v := ?_) (a' := ?_) #[true, true, true, true, true, true, true, true] rfl rfl (by kernel_rfl) (fun _ _ _ h => h) (Or.inl ⟨by rfl, ?_⟩) ?_ ?_
          rotate_left
          · intro w'
            go_simp
            with_reducible rfl
          rotate_left
          · simp only [Act.put, List.setIfInBounds_toArray, List.set_cons_zero, List.set_cons_succ, i64_w, i32_w]
            rfl
          refine done_ (by kernel_rfl) ?_
          go_wp2
          refine bodyPost_ret (results_ctt rfl _ _ r 27 #[.int .i64 a0_0, .slice An (l0_1.length + 1) cn, .slice A2 l0_2.length cap2, .int .i64 a0_3] (0, 0) _ rfl (blk_drew (set4_blk BR.out _ _ _ _)) Try.underlying27 rfl (by kernel_rfl)) rfl ?_
          have hE := CM.out.set4 BR.out (by have := GB.out; have := GR.out; omega) (.int .i64 a0_0) (.slice An (l0_1.length + 1) cn) (.slice A2 l0_2.length cap2) (.int .i64 a0_3)
          rw [HE.out, HEF.out]
          have hwl : wrap64 (l0_1.length : Int) = (l0_1.length : Int) := by unfold wrap64; omega
          exact ⟨_, _, by first | rfl | (rw [hwl]; done) | (rw [hwl]; rfl), Kd.S_drew hE.sp, Kd.R_drew hE.fr, below_drew hE.hb⟩
  · rw [if_neg c] at h
    simp only [Option.some.injEq, Prod.mk.injEq] at h
    obtain ⟨rfl, rfl, rfl, rfl, rfl, rfl⟩ := h
    have c4b0 : (t == 0) = false := beq_eq_false_iff_ne.mpr c
    have c4b1 : (t != 0) = true := bne_iff_ne.mpr c
    clear c
    go_enter Try.func13, Try.ntmps13
    go_upto_region 1 with (first | ((with_reducible refine gate_dst (N := 2) rfl ?_); refine box_event rfl (N := 2) rfl (cs := #[.int .i64 a0_0, .slice A0_1 l0_1.length c0_1, .slice A0_2 l0_2.length c0_2, .int .i64 a0_3]) (t := 27) (by first | (go_simp; done) | (go_simp; rfl)) ?_; intro b hb0 w1 hbox hB1; have GB := Aside0.mk (show w.heap.size ≤ b by rw [hb0]; exact Nat.le_refl _); clear hb0) | ((with_reducible refine gate_dst (N := 4) rfl ?_); refine box_event rfl (N := 4) rfl (cs := #[.int .i64 0, .slice none 0 0, .slice none 0 0, .int .i64 0]) (t := 27) (by first | (go_simp; done) | (go_simp; rfl)) ?_; intro r hr0 w2 hres hB2; have GR := Aside0.mk (show b < r by rw [hr0]; exact blk_lt hbox); clear hr0))
    have BK := Aside0.mk (blk_below hbox hB2)
    have BR := Aside0.mk hres
    have HB := Aside0.mk (below_step hB1 hB2)
    clear hbox hB1 hB2 hres
    have hcb0 := (blk_cell BK.out 0).trans rfl
    have hcb1 := (blk_cell BK.out 1).trans rfl
    have hcb2 := (blk_cell BK.out 2).trans rfl
    have hcb3 := (blk_cell BK.out 3).trans rfl
    go_upto_region 2 with ((with_reducible refine gate_callee (f := 35) rfl ?_); refine goesL_ (some 13) rfl rfl Try.func35 (by kernel_rfl) rfl #[.agg #[.int .i64 a0_0, .slice A0_1 l0_1.length c0_1, .slice A0_2 l0_2.length c0_2, .int .i64 a0_3], .int .i64 a1] rfl (by (try simp only [List.map_toArray, List.map_cons, List.map_nil]); first | done | rfl) ?_; (with_reducible refine (cow_live.calls k a0_0 _ _ l0_1 _ _ l0_2 a0_3 a1 t _ ?side1 ?side2 ?side3 ?side4 HT.out).mono ?_); (case side1 => exact Kd.C_below HR0_1.out HB.out); (case side2 => exact HC0_1.out); (case side3 => exact Kd.C_below HR0_2.out HB.out); (case side4 => exact HC0_2.out); rintro e w3 ⟨rfl, hb3⟩; refine ⟨_, rfl, ?_⟩)
    have n1 := Aside0.mk (blk_below BK.out hb3)
    have n2 := Aside0.mk (blk_below BR.out hb3)
    have n3 := Aside0.mk (below_step HB.out hb3)
    clear BK BR HB hb3 hcb0 hcb1 hcb2 hcb3
    have BK := n1
    have BR := n2
    have HB := n3
    clear n1 n2 n3
    have hcr0 := (blk_cell BR.out 0).trans rfl
    have hcr1 := (blk_cell BR.out 1).trans rfl
    have hcr2 := (blk_cell BR.out 2).trans rfl
    have hcr3 := (blk_cell BR.out 3).trans rfl
    have hfr := fun j => blk_frozen BR.out j
    go_wp2
    refine bodyPost_ret (results_ctt rfl _ _ r 27 #[.int .i64 0, .slice none 0 0, .slice none 0 0, .int .i64 0] (0, 0) _ rfl (set4_blk BR.out _ _ _ _) Try.underlying27 rfl (by kernel_rfl)) rfl ?_
    exact ⟨_, _, rfl, Kd.S_nil _ _ _ _ _, Kd.R_nil _ _ _ _ _, set4_below HB.out (by have := GB.out; have := GR.out; omega) _ _ _ _⟩
end Go.Proofs.Yteldbkdfphiogaa.Pr
