-- Written by a program of this session (a changed copy of the kit's printer). Not trusted: Lean checks it.
import Derived.Test.YteldbkdfphiogaaM0
import Derived.Test.YteldbkdfphiogaaFcowlive
import Derived.Test.YteldbkdfphiogaaFcowown
namespace Go.Proofs.Yteldbkdfphiogaa.Pr
open Go.RowKit Go.Proofs.YteldbkdfphiogaaW.PrintWords Go.Proofs.YteldbkdfphiogaaW.PrintLast Go.Proofs.YteldbkdfphiogaaW.PrintMore
attribute [local go_sem] max2_int min2_int max_two min_two max_three min_three max_four min_four   -- for this text's walks alone
set_option linter.unusedVariables false
set_option linter.unusedSimpArgs false
/-! ### cow_Exit: function 14 -/
def cow_Exit.f (k : Nat) (a0_0 : Int) (l0_1 : List (S62)) (l0_2 : List (S57)) (a0_3 : Int) (a1 : Int) : Option (Int × List (S62) × List (S57) × Int × Int) := (cow_live.f k a0_0 l0_1 l0_2 a0_3 a1).bind fun t => if t = 0 then (if okE l0_1 l0_2 a1 then some (a0_0, exitSS l0_1 l0_2 a1, exitFS l0_1 l0_2 a1, a0_3, 0) else none) else some (0, [], [], 0, t)
theorem cow_Exit.mono : ∀ a0 a1 a2 a3 a4 k, LeO (cow_Exit.f k a0 a1 a2 a3 a4) (cow_Exit.f (k + 1) a0 a1 a2 a3 a4) := by
  intro a0 a1 a2 a3 a4 k
  exact LeO.bind (cow_live.mono _ _ _ _ _ _) (fun _ => LeO.refl _)
set_option maxRecDepth 100000 in
set_option maxHeartbeats 4000000 in
theorem cow_Exit.calls (k : Nat) (a0_0 : Int) (A0_1 : Option Addr) (c0_1 : Nat) (l0_1 : List (S62)) (A0_2 : Option Addr) (c0_2 : Nat) (l0_2 : List (S57)) (a0_3 : Int) (a1 : Int) (r1 : Int) (r2 : List (S62)) (r3 : List (S57)) (r4 : Int) (r5 : Int) (w : World) (hr0_1 : Kd.C k62 w A0_1 l0_1.length l0_1) (hc0_1 : l0_1.length ≤ c0_1) (hr0_2 : Kd.C k57 w A0_2 l0_2.length l0_2) (hc0_2 : l0_2.length ≤ c0_2) (h : cow_Exit.f k a0_0 l0_1 l0_2 a0_3 a1 = some (r1, r2, r3, r4, r5)) :
    Calls Try.prog 14 #[.agg #[.int .i64 a0_0, .slice A0_1 l0_1.length c0_1, .slice A0_2 l0_2.length c0_2, .int .i64 a0_3], .int .i64 a1] w fun e w' => ∃ v1_ v2_ : Value, e = .returned (.tuple #[.agg #[.int .i64 r1, v1_, v2_, .int .i64 r4], .int .i64 r5]) ∧ Kd.S k62 62 w' w.heap.size (fun _ => True) v1_ r2 ∧ Kd.R k57 57 w' w.heap.size (fun _ => True) v2_ r3 ∧ Below w.heap.size w w' := by
  have HR0_1 := Aside0.mk hr0_1
  have HC0_1 := Aside0.mk hc0_1
  have HR0_2 := Aside0.mk hr0_2
  have HC0_2 := Aside0.mk hc0_2
  clear hr0_1 hc0_1 hr0_2 hc0_2
  have hu27 := Try.underlying27
  have hu62 := Try.underlying62
  have hu64 := Try.underlying64
  have hu57 := Try.underlying57
  unfold cow_Exit.f at h
  replace h := Option.bind_eq_some_iff.mp h
  obtain ⟨t, ht, h⟩ := h
  have HT := Aside0.mk ht
  clear ht
  by_cases c : t = 0
  · subst c
    rw [if_pos rfl] at h
    split at h
    case isFalse => cases h
    rename_i hok
    simp only [Option.some.injEq, Prod.mk.injEq] at h
    obtain ⟨rfl, rfl, rfl, rfl, rfl⟩ := h
    have HOK := Aside0.mk hok
    clear hok
    have HOWN := Aside0.mk (own_of_ok (a0 := a0_0) (a3 := a0_3) HOK.out.1)
    have HNE := Aside0.mk (show 0 < l0_1.length by have := HOK.out; unfold okE at this; omega)
    go_enter Try.func14, Try.ntmps14
    go_upto_region 1 with (first | ((with_reducible refine gate_dst (N := 2) rfl ?_); refine box_event rfl (N := 2) rfl (cs := #[.int .i64 a0_0, .slice A0_1 l0_1.length c0_1, .slice A0_2 l0_2.length c0_2, .int .i64 a0_3]) (t := 27) (by first | (go_simp; done) | (go_simp; rfl)) ?_; intro b hb0 w1 hbox hB1; have GB := Aside0.mk (show w.heap.size ≤ b by rw [hb0]; exact Nat.le_refl _); clear hb0) | ((with_reducible refine gate_dst (N := 4) rfl ?_); refine box_event rfl (N := 4) rfl (cs := #[.int .i64 0, .slice none 0 0, .slice none 0 0, .int .i64 0]) (t := 27) (by first | (go_simp; done) | (go_simp; rfl)) ?_; intro r hr0 w2 hres hB2; have GR := Aside0.mk (show b < r by rw [hr0]; exact blk_lt hbox); clear hr0))
    have BK := Aside0.mk (blk_below hbox hB2)
    have BR := Aside0.mk hres
    have HB := Aside0.mk (below_step hB1 hB2)
    clear hbox hB1 hB2 hres
    have hcb0 := (blk_cell BK.out 0).trans rfl
    have hcb1 := (blk_cell BK.out 1).trans rfl
    have hcb2 := (blk_cell BK.out 2).trans rfl
    have hcb3 := (blk_cell BK.out 3).trans rfl
    go_upto_region 2 with ((with_reducible refine gate_callee (f := 35) rfl ?_); refine goesL_ (some 10) rfl rfl Try.func35 (by kernel_rfl) rfl #[.agg #[.int .i64 a0_0, .slice A0_1 l0_1.length c0_1, .slice A0_2 l0_2.length c0_2, .int .i64 a0_3], .int .i64 a1] rfl (by (try simp only [List.map_toArray, List.map_cons, List.map_nil]); first | done | rfl) ?_; (with_reducible refine (cow_live.calls k a0_0 _ _ l0_1 _ _ l0_2 a0_3 a1 0 _ ?side1 ?side2 ?side3 ?side4 HT.out).mono ?_); (case side1 => exact Kd.C_below HR0_1.out HB.out); (case side2 => exact HC0_1.out); (case side3 => exact Kd.C_below HR0_2.out HB.out); (case side4 => exact HC0_2.out); rintro e w3 ⟨rfl, hb3⟩; refine ⟨_, rfl, ?_⟩)
    have n1 := Aside0.mk (blk_below BK.out hb3)
    have n2 := Aside0.mk (blk_below BR.out hb3)
    have n3 := Aside0.mk (below_step HB.out hb3)
    clear BK BR HB hb3 hcb0 hcb1 hcb2 hcb3
    have BK := n1
    have BR := n2
    have HB := n3
    clear n1 n2 n3
    have hqb0 := (blk_cell BK.out 0).trans rfl
    have hqb1 := (blk_cell BK.out 1).trans rfl
    have hqb2 := (blk_cell BK.out 2).trans rfl
    have hqb3 := (blk_cell BK.out 3).trans rfl
    go_upto_region 5 with ((with_reducible refine gate_callee (f := 32) rfl ?_); refine goesL_ (some 16) rfl rfl Try.func32 (by kernel_rfl) rfl #[.agg #[.int .i64 a0_0, .slice A0_1 l0_1.length c0_1, .slice A0_2 l0_2.length c0_2, .int .i64 a0_3]] rfl (by (try simp only [List.map_toArray, List.map_cons, List.map_nil]); first | done | rfl) ?_; (with_reducible refine (cow_own.calls a0_0 _ _ l0_1 _ _ l0_2 a0_3 _ _ _ _ _ ?side1 ?side2 ?side3 ?side4 HOWN.out).mono ?_); (case side1 => exact Kd.C_below HR0_1.out HB.out); (case side2 => exact HC0_1.out); (case side3 => exact Kd.C_below HR0_2.out HB.out); (case side4 => exact HC0_2.out); rintro e w4 ⟨v1, v2, rfl, ho1, ho2, hb4⟩; refine ⟨_, rfl, ?_⟩; obtain ⟨gs, cap1, rfl, _, _, _⟩ := Kd.S_form ho1 (by have := HNE.out; omega); obtain ⟨A2, cap2, rfl⟩ := Kd.R_slice ho2; have hq0 := (blk_cell (blk_below BK.out hb4) 0).trans rfl; have hq1 := (blk_cell (blk_below BK.out hb4) 1).trans rfl; have hq2 := (blk_cell (blk_below BK.out hb4) 2).trans rfl; have hq3 := (blk_cell (blk_below BK.out hb4) 3).trans rfl; have hqf := fun j => blk_frozen (blk_below BK.out hb4) j)
    have CM := Aside0.mk (CowM.set4 (w0 := w) ⟨Kd.S_lower ho1 HB.out.size, Kd.R_lower ho2 HB.out.size, below_step HB.out hb4⟩ (blk_below BK.out hb4) GB.out (.int .i64 a0_0) (.slice (some ⟨gs, 0, none⟩) l0_1.length cap1) (.slice A2 l0_2.length cap2) (.int .i64 a0_3))
    have n1 := Aside0.mk (set4_blk (blk_below BK.out hb4) (.int .i64 a0_0) (.slice (some ⟨gs, 0, none⟩) l0_1.length cap1) (.slice A2 l0_2.length cap2) (.int .i64 a0_3))
    have n2 := Aside0.mk ((set4_heap w4 b (.int .i64 a0_0) (.slice (some ⟨gs, 0, none⟩) l0_1.length cap1) (.slice A2 l0_2.length cap2) (.int .i64 a0_3) r (by have := GR.out; omega)).trans (blk_below BR.out hb4))
    clear BK BR hqb0 hqb1 hqb2 hqb3 hq0 hq1 hq2 hq3 hqf ho1 ho2
    have BK := n1
    have BR := n2
    clear n1 n2
    unfold set4 at CM BK BR
    generalize (((w4.setCell ⟨b, 0, none⟩ (.int .i64 a0_0)).setCell ⟨b, 1, none⟩ (.slice (some ⟨gs, 0, none⟩) l0_1.length cap1)).setCell ⟨b, 2, none⟩ (.slice A2 l0_2.length cap2)).setCell ⟨b, 3, none⟩ (.int .i64 a0_3) = W at CM BK BR ⊢
    clear hb4 HB
    have hok := HOK.out
    unfold okE at hok
    obtain ⟨hok0, hj0, hj1, hm0, hfr⟩ := hok
    have hok0 := Aside0.mk hok0
    have HFR := Aside0.mk hfr
    have HM0 := Aside0.mk hm0
    have HML := Aside0.mk (show (rd_T62 l0_1 a1).f1.length ≤ 1000 from by
      have h3 : a1.toNat < l0_1.length := by omega
      have h2 : rd_T62 l0_1 a1 ∈ l0_1 := by
        unfold rd_T62
        rw [List.getD_eq_getElem?_getD, List.getElem?_eq_getElem h3]
        exact List.getElem_mem _
      exact hok0.out.2.2 _ h2)
    clear hfr hm0
    obtain ⟨gp, cpp, hc, hP⟩ := CM.out.page a1 0 hj0 (by omega) (Int.le_refl _) (by have := HM0.out; omega)
    have HC := Aside0.mk hc
    have hcb1 := (blk_cell BK.out 1).trans rfl
    clear hP
    have d0 : decide (0 ≤ a1) = true := decide_eq_true hj0
    have d1 : decide (a1 < (l0_1.length : Int)) = true := decide_eq_true hj1
    go_wp2
    clear hcb1 hc
    have HIN := Aside0.mk (exitN_inv a1 l0_1 l0_2 hj0 hj1)
    have hml := HML.out
    go_loopw [24] (fun v24 wr => ∃ i : Nat, v24 = .int .i64 i ∧ i ≤ (rd_T62 l0_1 a1).f1.length ∧ Aside0 (CowM w wr (.slice (some ⟨gs, 0, none⟩) l0_1.length cap1) (.slice A2 l0_2.length cap2) (exitN a1 l0_1 l0_2 i).1 (exitN a1 l0_1 l0_2 i).2) ∧ Aside0 (wr.cell? ⟨gs, a1.toNat * 2 + 1, none⟩ = some (.slice (some ⟨gp, 0, none⟩) (rd_T62 l0_1 a1).f1.length cpp)) ∧ Aside0 (wr.heap[b]? = some (.cells #[.int .i64 a0_0, .slice (some ⟨gs, 0, none⟩) l0_1.length cap1, .slice A2 l0_2.length cap2, .int .i64 a0_3] 27 (0, 0))) ∧ Aside0 (wr.heap[r]? = some (.cells #[.int .i64 0, .slice none 0 0, .slice none 0 0, .int .i64 0] 27 (0, 0)))) (fun v _ => (rd_T62 l0_1 a1).f1.length - (intOf v).toNat)
    case atStart => exact ⟨0, rfl, Nat.zero_le _, CM, HC, BK, BR⟩
    case round =>
      clear CM BK BR HC
      rename_i wr
      obtain ⟨i, rfl, hi, CM, HC, BK, BR⟩ := hrel
      obtain ⟨i1, i2, i3, i4, i5⟩ := HIN.out i
      have I1 := Aside0.mk i1
      have I2 := Aside0.mk i2
      have I4 := Aside0.mk i4
      have I5 := Aside0.mk (i5 i (Nat.le_refl _))
      clear i1 i2 i3 i4 i5
      by_cases hlt : i < (rd_T62 l0_1 a1).f1.length
      · have hcb0 := (blk_cell BK.out 0).trans rfl
        have hcb1 := (blk_cell BK.out 1).trans rfl
        have hcb2 := (blk_cell BK.out 2).trans rfl
        have hcb3 := (blk_cell BK.out 3).trans rfl
        have hc := HC.out
        have e0 : (0 : Int) ≤ (i : Int) := by omega
        have e1 : (i : Int) < ((rd_T62 l0_1 a1).f1.length : Int) := by omega
        have HK1 := Aside0.mk (show ((i : Nat) : Int) < ((rd_T62 (exitN a1 l0_1 l0_2 i).1 a1).f1.length : Int) by rw [I4.out]; exact e1)
        have HF := Aside0.mk (show (rd_T64 (rd_T62 (exitN a1 l0_1 l0_2 i).1 a1).f1 (i : Int)).f0 < ((exitN a1 l0_1 l0_2 i).2.length : Int) by rw [I5.out, I2.out]; exact HFR.out i hlt)
        go_wp2
        refine start_ (n := 10) (S := fun w' => w'.cell? ⟨b, 0, none⟩ = some (.int .i64 a0_0) ∧ w'.cell? ⟨b, 1, none⟩ = some (.slice (some ⟨gs, 0, none⟩) l0_1.length cap1) ∧ w'.cell? ⟨b, 2, none⟩ = some (.slice A2 l0_2.length cap2) ∧ w'.cell? ⟨b, 3, none⟩ = some (.int .i64 a0_3) ∧ w'.cell? ⟨gs, a1.toNat * 2 + 1, none⟩ = some (.slice (some ⟨gp, 0, none⟩) (rd_T62 l0_1 a1).f1.length cpp)) (ds := [9]) #[false, false, false, false, false, false, false, false, false, false] (by kernel_rfl) rfl rfl ⟨hcb0, hcb1, hcb2, hcb3, hc⟩ (fun hHeld => ?_)
        refine take_ (i := 0) (N := some 27) (v := ?_) (a' := ?_) #[true, false, false, false, false, false, false, false, false, false] rfl rfl (by kernel_rfl) (fun _ _ _ h => h) (Or.inl ⟨by rfl, ?_⟩) hHeld ?_ ?_
        rotate_left
        · rintro w' ⟨s0, s1, s2, s3, s4⟩
          go_simp
          with_reducible rfl
        rotate_left
        · simp only [Act.put, List.setIfInBounds_toArray, List.set_cons_zero, List.set_cons_succ, i64_w, i32_w]
          rfl
        refine pure_ (i := 1) (N := some 28) (v := ?_) (a' := ?_) #[true, true, false, false, false, false, false, false, false, false] rfl rfl (by kernel_rfl) (fun _ _ _ h => h) (Or.inl ⟨by rfl, ?_⟩) ?_ ?_
        rotate_left
        · intro w'
          go_simp
          with_reducible rfl
        rotate_left
        · simp only [Act.put, List.setIfInBounds_toArray, List.set_cons_zero, List.set_cons_succ, i64_w, i32_w]
          rfl
        refine take_ (i := 2) (N := some 29) (v := ?_) (a' := ?_) #[true, true, true, false, false, false, false, false, false, false] rfl rfl (by kernel_rfl) (fun _ _ _ h => h) (Or.inl ⟨by rfl, ?_⟩) hHeld ?_ ?_
        rotate_left
        · rintro w' ⟨s0, s1, s2, s3, s4⟩
          go_simp
          with_reducible rfl
        rotate_left
        · simp only [Act.put, List.setIfInBounds_toArray, List.set_cons_zero, List.set_cons_succ, i64_w, i32_w]
          rfl
        refine pure_ (i := 3) (N := some 30) (v := ?_) (a' := ?_) #[true, true, true, true, false, false, false, false, false, false] rfl rfl (by kernel_rfl) (fun _ _ _ h => h) (Or.inl ⟨by rfl, ?_⟩) ?_ ?_
        rotate_left
        · intro w'
          go_simp
          with_reducible rfl
        rotate_left
        · simp only [Act.put, List.setIfInBounds_toArray, List.set_cons_zero, List.set_cons_succ, i64_w, i32_w]
          rfl
        refine pure_ (i := 4) (N := some 31) (v := ?_) (a' := ?_) #[true, true, true, true, true, false, false, false, false, false] rfl rfl (by kernel_rfl) (fun _ _ _ h => h) (Or.inl ⟨by rfl, ?_⟩) ?_ ?_
        rotate_left
        · intro w'
          go_simp
          with_reducible rfl
        rotate_left
        · simp only [Act.put, List.setIfInBounds_toArray, List.set_cons_zero, List.set_cons_succ, i64_w, i32_w]
          rfl
        refine pure_ (i := 5) (N := some 32) (v := ?_) (a' := ?_) #[true, true, true, true, true, true, false, false, false, false] rfl rfl (by kernel_rfl) (fun _ _ _ h => h) (Or.inl ⟨by rfl, ?_⟩) ?_ ?_
        rotate_left
        · intro w'
          go_simp
          with_reducible rfl
        rotate_left
        · simp only [Act.put, List.setIfInBounds_toArray, List.set_cons_zero, List.set_cons_succ, i64_w, i32_w]
          rfl
        refine take_ (i := 6) (N := some 33) (v := ?_) (a' := ?_) #[true, true, true, true, true, true, true, false, false, false] rfl rfl (by kernel_rfl) (fun _ _ _ h => h) (Or.inl ⟨by rfl, ?_⟩) hHeld ?_ ?_
        rotate_left
        · rintro w' ⟨s0, s1, s2, s3, s4⟩
          go_simp
          with_reducible rfl
        rotate_left
        · simp only [Act.put, List.setIfInBounds_toArray, List.set_cons_zero, List.set_cons_succ, i64_w, i32_w]
          rfl
        refine pure_ (i := 7) (N := some 34) (v := ?_) (a' := ?_) #[true, true, true, true, true, true, true, true, false, false] rfl rfl (by kernel_rfl) (fun _ _ _ h => h) (Or.inl ⟨by rfl, ?_⟩) ?_ ?_
        rotate_left
        · intro w'
          go_simp
          with_reducible rfl
        rotate_left
        · simp only [Act.put, List.setIfInBounds_toArray, List.set_cons_zero, List.set_cons_succ, i64_w, i32_w]
          rfl
        refine pure_ (i := 8) (N := some 35) (v := ?_) (a' := ?_) #[true, true, true, true, true, true, true, true, true, false] rfl rfl (by kernel_rfl) (fun _ _ _ h => h) (Or.inl ⟨by rfl, ?_⟩) ?_ ?_
        rotate_left
        · intro w'
          go_simp
          with_reducible rfl
        rotate_left
        · simp only [Act.put, List.setIfInBounds_toArray, List.set_cons_zero, List.set_cons_succ, i64_w, i32_w]
          rfl
        refine last_ (i := 9) (N := some 36) #[true, true, true, true, true, true, true, true, true, true] rfl rfl (by kernel_rfl) (by decide) (fun K hK => ?_)
        refine goes_ Try.func37 (by kernel_rfl) rfl #[.agg #[.int .i64 a0_0, .slice (some ⟨gs, 0, none⟩) l0_1.length cap1, .slice A2 l0_2.length cap2, .int .i64 a0_3], .pointer (some ⟨gp, i * 2, none⟩)] (by rfl) rfl rfl (by (try simp only [List.map_toArray, List.map_cons, List.map_nil]); first | done | rfl) ?_
        have hcd : wr.drew.cell? ⟨gs, a1.toNat * 2 + 1, none⟩ = some (.slice (some ⟨gp, 0, none⟩) (rd_T62 l0_1 a1).f1.length cpp) := hc
        refine (cow_clear.calls a0_0 a0_3 (CM.out.below (below_drew1 (Below.refl _ _))) a1 (i : Int) hj0 (by omega) e0 HK1.out hcd HF.out (by have := hok0.out.2.1; have := I2.out; omega)).mono ?_
        rintro e w6 ⟨⟨v, rfl⟩, hCM, hcg, hbx⟩
        refine ⟨_, rfl, ?_⟩
        have n1 := Aside0.mk hCM
        have n2 := Aside0.mk (hbx b _ (blk_drew BK.out))
        have n3 := Aside0.mk (hbx r _ (blk_drew BR.out))
        have n4 := Aside0.mk (show w6.cell? ⟨gs, a1.toNat * 2 + 1, none⟩ = some (.slice (some ⟨gp, 0, none⟩) (rd_T62 l0_1 a1).f1.length cpp) from hcg)
        clear CM BK BR HC hCM hbx hcg hcd
        have CM := n1
        have BK := n2
        have BR := n3
        have HC := n4
        clear n1 n2 n3 n4
        refine hK.out _ _ ?_
        clear hK K
        refine done_ (by kernel_rfl) ?_
        clear hcb0 hcb1 hcb2 hcb3 hc
        go_wp2
        refine ⟨⟨i + 1, by first | rfl | go_num, hlt, CM, HC, BK, BR⟩, ?_⟩
        simp [intOf]
        omega
      · obtain rfl : i = (rd_T62 l0_1 a1).f1.length := by omega
        clear hlt hi
        have hcb1 := (blk_cell BK.out 1).trans rfl
        have hgz := fun j => (show wr.frozen? ⟨gs, j, none⟩ = false from by obtain ⟨cells, hh⟩ := Kd.S_typed CM.out.sp gs (by simp [Value.ownBlock]); exact blk_frozen hh j)
        have hgc0 : ∃ u, wr.cell? ⟨gs, a1.toNat * 2, none⟩ = some u := by
          obtain ⟨_, _, h1, _⟩ := CM.out.space a1 hj0 (by have := CM.out.len; have := I1.out; omega)
          exact ⟨_, h1⟩
        obtain ⟨u0, hgc0⟩ := hgc0
        have hgc1 := HC.out
        go_upto_region 11 with (fail)
        have n1 := Aside0.mk (CM.out.space_zero a1 hj0 (by have := CM.out.len; have := I1.out; omega))
        have hgb : b ≠ gs := by obtain ⟨cells, hh⟩ := Kd.S_typed CM.out.sp gs (by simp [Value.ownBlock]); exact blk_ne BK.out hh (by decide)
        have hgr : r ≠ gs := by obtain ⟨cells, hh⟩ := Kd.S_typed CM.out.sp gs (by simp [Value.ownBlock]); exact blk_ne BR.out hh (by decide)
        have n2 := Aside0.mk (blk_far (blk_far BK.out (p := ⟨gs, a1.toNat * 2, none⟩) hgb (.bool false)) (p := ⟨gs, a1.toNat * 2 + 1, none⟩) hgb (.slice none 0 0))
        have n3 := Aside0.mk (blk_far (blk_far BR.out (p := ⟨gs, a1.toNat * 2, none⟩) hgr (.bool false)) (p := ⟨gs, a1.toNat * 2 + 1, none⟩) hgr (.slice none 0 0))
        clear CM BK BR HC hcb1 hgz hgc0 hgc1 hgb hgr
        have CM := n1
        have BK := n2
        have BR := n3
        clear n1 n2 n3
        generalize (wr.setCell ⟨gs, a1.toNat * 2, none⟩ (.bool false)).setCell ⟨gs, a1.toNat * 2 + 1, none⟩ (.slice none 0 0) = W9 at CM BK BR ⊢
        have hcb0 := (blk_cell BK.out 0).trans rfl
        have hcb1 := (blk_cell BK.out 1).trans rfl
        have hcb2 := (blk_cell BK.out 2).trans rfl
        have hcb3 := (blk_cell BK.out 3).trans rfl
        have hfb := fun j => blk_frozen BK.out j
        have hcr0 := (blk_cell BR.out 0).trans rfl
        have hcr1 := (blk_cell BR.out 1).trans rfl
        have hcr2 := (blk_cell BR.out 2).trans rfl
        have hcr3 := (blk_cell BR.out 3).trans rfl
        have hfr := fun j => blk_frozen BR.out j
        go_wp2
        refine bodyPost_ret (results_ct rfl _ _ r 27 #[.int .i64 a0_0, .slice (some ⟨gs, 0, none⟩) l0_1.length cap1, .slice A2 l0_2.length cap2, .int .i64 a0_3] (0, 0) _ rfl (set4_blk BR.out _ _ _ _) Try.underlying27 rfl (by kernel_rfl)) rfl ?_
        have hE := CM.out.set4 BR.out (by have := GB.out; have := GR.out; omega) (.int .i64 a0_0) (.slice (some ⟨gs, 0, none⟩) l0_1.length cap1) (.slice A2 l0_2.length cap2) (.int .i64 a0_3)
        exact ⟨_, _, rfl, hE.sp, hE.fr, hE.hb⟩
  · rw [if_neg c] at h
    simp only [Option.some.injEq, Prod.mk.injEq] at h
    obtain ⟨rfl, rfl, rfl, rfl, rfl⟩ := h
    have c4b0 : (t == 0) = false := beq_eq_false_iff_ne.mpr c
    have c4b1 : (t != 0) = true := bne_iff_ne.mpr c
    clear c
    go_enter Try.func14, Try.ntmps14
    go_upto_region 1 with (first | ((with_reducible refine gate_dst (N := 2) rfl ?_); refine box_event rfl (N := 2) rfl (cs := #[.int .i64 a0_0, .slice A0_1 l0_1.length c0_1, .slice A0_2 l0_2.length c0_2, .int .i64 a0_3]) (t := 27) (by first | (go_simp; done) | (go_simp; rfl)) ?_; intro b hb0 w1 hbox hB1; have GB := Aside0.mk (show w.heap.size ≤ b by rw [hb0]; exact Nat.le_refl _); clear hb0) | ((with_reducible refine gate_dst (N := 4) rfl ?_); refine box_event rfl (N := 4) rfl (cs := #[.int .i64 0, .slice none 0 0, .slice none 0 0, .int .i64 0]) (t := 27) (by first | (go_simp; done) | (go_simp; rfl)) ?_; intro r hr0 w2 hres hB2; have GR := Aside0.mk (show b < r by rw [hr0]; exact blk_lt hbox); clear hr0))
    have BK := Aside0.mk (blk_below hbox hB2)
    have BR := Aside0.mk hres
    have HB := Aside0.mk (below_step hB1 hB2)
    clear hbox hB1 hB2 hres
    have hcb0 := (blk_cell BK.out 0).trans rfl
    have hcb1 := (blk_cell BK.out 1).trans rfl
    have hcb2 := (blk_cell BK.out 2).trans rfl
    have hcb3 := (blk_cell BK.out 3).trans rfl
    go_upto_region 2 with ((with_reducible refine gate_callee (f := 35) rfl ?_); refine goesL_ (some 10) rfl rfl Try.func35 (by kernel_rfl) rfl #[.agg #[.int .i64 a0_0, .slice A0_1 l0_1.length c0_1, .slice A0_2 l0_2.length c0_2, .int .i64 a0_3], .int .i64 a1] rfl (by (try simp only [List.map_toArray, List.map_cons, List.map_nil]); first | done | rfl) ?_; (with_reducible refine (cow_live.calls k a0_0 _ _ l0_1 _ _ l0_2 a0_3 a1 t _ ?side1 ?side2 ?side3 ?side4 HT.out).mono ?_); (case side1 => exact Kd.C_below HR0_1.out HB.out); (case side2 => exact HC0_1.out); (case side3 => exact Kd.C_below HR0_2.out HB.out); (case side4 => exact HC0_2.out); rintro e w3 ⟨rfl, hb3⟩; refine ⟨_, rfl, ?_⟩)
    have n1 := Aside0.mk (blk_below BK.out hb3)
    have n2 := Aside0.mk (blk_below BR.out hb3)
    have n3 := Aside0.mk (below_step HB.out hb3)
    clear BK BR HB hb3 hcb0 hcb1 hcb2 hcb3
    have BK := n1
    have BR := n2
    have HB := n3
    clear n1 n2 n3
    have hcr0 := (blk_cell BR.out 0).trans rfl
    have hcr1 := (blk_cell BR.out 1).trans rfl
    have hcr2 := (blk_cell BR.out 2).trans rfl
    have hcr3 := (blk_cell BR.out 3).trans rfl
    have hfr := fun j => blk_frozen BR.out j
    go_wp2
    refine bodyPost_ret (results_ct rfl _ _ r 27 #[.int .i64 0, .slice none 0 0, .slice none 0 0, .int .i64 0] (0, 0) _ rfl (set4_blk BR.out _ _ _ _) Try.underlying27 rfl (by kernel_rfl)) rfl ?_
    exact ⟨_, _, rfl, Kd.S_nil _ _ _ _ _, Kd.R_nil _ _ _ _ _, set4_below HB.out (by have := GB.out; have := GR.out; omega) _ _ _ _⟩
end Go.Proofs.Yteldbkdfphiogaa.Pr
