-- Written by a program of this session (a changed copy of the kit's printer). Not trusted: Lean checks it.
import Derived.Test.YteldbkdfphiogaaM0
import Derived.Test.YteldbkdfphiogaaFapiCowFrame33
import Derived.Test.YteldbkdfphiogaaFcowat
import Derived.Test.YteldbkdfphiogaaFcowown
namespace Go.Proofs.Yteldbkdfphiogaa.Pr
open Go.RowKit Go.Proofs.YteldbkdfphiogaaW.PrintWords Go.Proofs.YteldbkdfphiogaaW.PrintLast Go.Proofs.YteldbkdfphiogaaW.PrintMore
attribute [local go_sem] max2_int min2_int max_two min_two max_three min_three max_four min_four   -- for this text's walks alone
set_option linter.unusedVariables false
set_option linter.unusedSimpArgs false
/-! ### cow_Write: function 12 -/
def cow_Write.f (k : Nat) (a0_0 : Int) (l0_1 : List (S62)) (l0_2 : List (S57)) (a0_3 : Int) (a1 a2 a3 : Int) : Option (Int × List (S62) × List (S57) × Int × Int) :=
  (cow_at.f k a0_0 l0_1 l0_2 a0_3 a1 a2).bind fun t => if t = 0 then (if okP l0_1 l0_2 a1 a2 then
    (if (rd_T64 (rd_T62 l0_1 a1).f1 a2).f0 < 0 ∨ 1 < (rd_T57 l0_2 (rd_T64 (rd_T62 l0_1 a1).f1 a2).f0).f0 then
      (api_CowFrame_33.f k l0_2).bind fun fr => (if fr < 0 then some (0, [], [], 0, 16) else
        (if fr < (l0_2.length : Int) then some (a0_0, setPage l0_1 a1 a2 ⟨fr, true⟩, wFS l0_2 (rd_T64 (rd_T62 l0_1 a1).f1 a2).f0 fr a3, wCopies (rd_T64 (rd_T62 l0_1 a1).f1 a2).f0 a0_3, 0) else none))
    else some (a0_0, setPage l0_1 a1 a2 ⟨(rd_T64 (rd_T62 l0_1 a1).f1 a2).f0, true⟩, l0_2.set (rd_T64 (rd_T62 l0_1 a1).f1 a2).f0.toNat ⟨(rd_T57 l0_2 (rd_T64 (rd_T62 l0_1 a1).f1 a2).f0).f0, a3⟩, a0_3, 0))
  else none) else some (0, [], [], 0, t)
theorem cow_Write.mono : ∀ a0 a1 a2 a3 a4 a5 a6 k, LeO (cow_Write.f k a0 a1 a2 a3 a4 a5 a6) (cow_Write.f (k + 1) a0 a1 a2 a3 a4 a5 a6) := by
  intro a0 a1 a2 a3 a4 a5 a6 k
  exact LeO.bind (cow_at.mono _ _ _ _ _ _ _) (fun _ => LeO.ite (LeO.ite (LeO.ite (LeO.bind (api_CowFrame_33.mono _ _) (fun _ => LeO.refl _)) (LeO.refl _)) (LeO.refl _)) (LeO.refl _))
set_option maxRecDepth 100000 in
set_option maxHeartbeats 4000000 in
theorem cow_Write.calls (k : Nat) (a0_0 : Int) (A0_1 : Option Addr) (c0_1 : Nat) (l0_1 : List (S62)) (A0_2 : Option Addr) (c0_2 : Nat) (l0_2 : List (S57)) (a0_3 : Int) (a1 : Int) (a2 : Int) (a3 : Int) (r1 : Int) (r2 : List (S62)) (r3 : List (S57)) (r4 : Int) (r5 : Int) (w : World) (hr0_1 : Kd.C k62 w A0_1 l0_1.length l0_1) (hc0_1 : l0_1.length ≤ c0_1) (hr0_2 : Kd.C k57 w A0_2 l0_2.length l0_2) (hc0_2 : l0_2.length ≤ c0_2) (h : cow_Write.f k a0_0 l0_1 l0_2 a0_3 a1 a2 a3 = some (r1, r2, r3, r4, r5)) :
    Calls Try.prog 12 #[.agg #[.int .i64 a0_0, .slice A0_1 l0_1.length c0_1, .slice A0_2 l0_2.length c0_2, .int .i64 a0_3], .int .i64 a1, .int .i64 a2, .int .i64 a3] w fun e w' => ∃ v1_ v2_ : Value, e = .returned (.tuple #[.agg #[.int .i64 r1, v1_, v2_, .int .i64 r4], .int .i64 r5]) ∧ Kd.S k62 62 w' w.heap.size (fun _ => True) v1_ r2 ∧ Kd.R k57 57 w' w.heap.size (fun _ => True) v2_ r3 ∧ Below w.heap.size w w' := by
  have HR0_1 := Aside0.mk hr0_1
  have HC0_1 := Aside0.mk hc0_1
  have HR0_2 := Aside0.mk hr0_2
  have HC0_2 := Aside0.mk hc0_2
  clear hr0_1 hc0_1 hr0_2 hc0_2
  have hu27 := Try.underlying27
  have hu62 := Try.underlying62
  have hu64 := Try.underlying64
  have hu57 := Try.underlying57
  unfold cow_Write.f at h
  replace h := Option.bind_eq_some_iff.mp h
  obtain ⟨t, ht, h⟩ := h
  have HT := Aside0.mk ht
  clear ht
  by_cases c : t = 0
  · subst c
    rw [if_pos rfl] at h
    split at h
    case isFalse => cases h
    rename_i hok
    have HR := Aside0.mk h
    clear h
    have HOK := Aside0.mk hok
    clear hok
    have HOWN := Aside0.mk (own_of_ok (a0 := a0_0) (a3 := a0_3) HOK.out.1)
    have HNE := Aside0.mk (show 0 < l0_1.length by have := HOK.out; unfold okP at this; omega)
    go_enter Try.func12, Try.ntmps12
    go_upto_region 1 with (first | ((with_reducible refine gate_dst (N := 4) rfl ?_); refine box_event rfl (N := 4) rfl (cs := #[.int .i64 a0_0, .slice A0_1 l0_1.length c0_1, .slice A0_2 l0_2.length c0_2, .int .i64 a0_3]) (t := 27) (by first | (go_simp; done) | (go_simp; rfl)) ?_; intro b hb0 w1 hbox hB1; have GB := Aside0.mk (show w.heap.size ≤ b by rw [hb0]; exact Nat.le_refl _); clear hb0) | ((with_reducible refine gate_dst (N := 8) rfl ?_); refine box_event rfl (N := 8) rfl (cs := #[.int .i64 0, .slice none 0 0, .slice none 0 0, .int .i64 0]) (t := 27) (by first | (go_simp; done) | (go_simp; rfl)) ?_; intro r hr0 w2 hres hB2; have GR := Aside0.mk (show b < r by rw [hr0]; exact blk_lt hbox); clear hr0))
    have BK := Aside0.mk (blk_below hbox hB2)
    have BR := Aside0.mk hres
    have HB := Aside0.mk (below_step hB1 hB2)
    clear hbox hB1 hB2 hres
    have hcb0 := (blk_cell BK.out 0).trans rfl
    have hcb1 := (blk_cell BK.out 1).trans rfl
    have hcb2 := (blk_cell BK.out 2).trans rfl
    have hcb3 := (blk_cell BK.out 3).trans rfl
    go_upto_region 2 with ((with_reducible refine gate_callee (f := 31) rfl ?_); refine goesL_ (some 16) rfl rfl Try.func31 (by kernel_rfl) rfl #[.agg #[.int .i64 a0_0, .slice A0_1 l0_1.length c0_1, .slice A0_2 l0_2.length c0_2, .int .i64 a0_3], .int .i64 a1, .int .i64 a2] rfl (by (try simp only [List.map_toArray, List.map_cons, List.map_nil]); first | done | rfl) ?_; (with_reducible refine (cow_at.calls k a0_0 _ _ l0_1 _ _ l0_2 a0_3 a1 a2 0 _ ?side1 ?side2 ?side3 ?side4 HT.out).mono ?_); (case side1 => exact Kd.C_below HR0_1.out HB.out); (case side2 => exact HC0_1.out); (case side3 => exact Kd.C_below HR0_2.out HB.out); (case side4 => exact HC0_2.out); rintro e w3 ⟨rfl, hb3⟩; refine ⟨_, rfl, ?_⟩)
    have n1 := Aside0.mk (blk_below BK.out hb3)
    have n2 := Aside0.mk (blk_below BR.out hb3)
    have n3 := Aside0.mk (below_step HB.out hb3)
    clear BK BR HB hb3 hcb0 hcb1 hcb2 hcb3
    have BK := n1
    have BR := n2
    have HB := n3
    clear n1 n2 n3
    have hqb0 := (blk_cell BK.out 0).trans rfl
    have hqb1 := (blk_cell BK.out 1).trans rfl
    have hqb2 := (blk_cell BK.out 2).trans rfl
    have hqb3 := (blk_cell BK.out 3).trans rfl
    go_upto_region 5 with ((with_reducible refine gate_callee (f := 32) rfl ?_); refine goesL_ (some 22) rfl rfl Try.func32 (by kernel_rfl) rfl #[.agg #[.int .i64 a0_0, .slice A0_1 l0_1.length c0_1, .slice A0_2 l0_2.length c0_2, .int .i64 a0_3]] rfl (by (try simp only [List.map_toArray, List.map_cons, List.map_nil]); first | done | rfl) ?_; (with_reducible refine (cow_own.calls a0_0 _ _ l0_1 _ _ l0_2 a0_3 _ _ _ _ _ ?side1 ?side2 ?side3 ?side4 HOWN.out).mono ?_); (case side1 => exact Kd.C_below HR0_1.out HB.out); (case side2 => exact HC0_1.out); (case side3 => exact Kd.C_below HR0_2.out HB.out); (case side4 => exact HC0_2.out); rintro e w4 ⟨v1, v2, rfl, ho1, ho2, hb4⟩; refine ⟨_, rfl, ?_⟩; obtain ⟨gs, cap1, rfl, _, _, _⟩ := Kd.S_form ho1 (by have := HNE.out; omega); obtain ⟨A2, cap2, rfl⟩ := Kd.R_slice ho2; have hq0 := (blk_cell (blk_below BK.out hb4) 0).trans rfl; have hq1 := (blk_cell (blk_below BK.out hb4) 1).trans rfl; have hq2 := (blk_cell (blk_below BK.out hb4) 2).trans rfl; have hq3 := (blk_cell (blk_below BK.out hb4) 3).trans rfl; have hqf := fun j => blk_frozen (blk_below BK.out hb4) j)
    have CM := Aside0.mk (CowM.set4 (w0 := w) ⟨Kd.S_lower ho1 HB.out.size, Kd.R_lower ho2 HB.out.size, below_step HB.out hb4⟩ (blk_below BK.out hb4) GB.out (.int .i64 a0_0) (.slice (some ⟨gs, 0, none⟩) l0_1.length cap1) (.slice A2 l0_2.length cap2) (.int .i64 a0_3))
    have n1 := Aside0.mk (set4_blk (blk_below BK.out hb4) (.int .i64 a0_0) (.slice (some ⟨gs, 0, none⟩) l0_1.length cap1) (.slice A2 l0_2.length cap2) (.int .i64 a0_3))
    have n2 := Aside0.mk ((set4_heap w4 b (.int .i64 a0_0) (.slice (some ⟨gs, 0, none⟩) l0_1.length cap1) (.slice A2 l0_2.length cap2) (.int .i64 a0_3) r (by have := GR.out; omega)).trans (blk_below BR.out hb4))
    clear BK BR hqb0 hqb1 hqb2 hqb3 hq0 hq1 hq2 hq3 hqf ho1 ho2
    have BK := n1
    have BR := n2
    clear n1 n2
    unfold set4 at CM BK BR
    generalize (((w4.setCell ⟨b, 0, none⟩ (.int .i64 a0_0)).setCell ⟨b, 1, none⟩ (.slice (some ⟨gs, 0, none⟩) l0_1.length cap1)).setCell ⟨b, 2, none⟩ (.slice A2 l0_2.length cap2)).setCell ⟨b, 3, none⟩ (.int .i64 a0_3) = W at CM BK BR ⊢
    clear hb4 HB
    have hok := HOK.out
    unfold okP at hok
    obtain ⟨_, hj0, hj1, hk0, hk1, hf⟩ := hok
    have HL := Aside0.mk (show (l0_2.length : Int) ≤ 1000 by have := HOK.out.1.2.1; omega)
    obtain ⟨gp, cpp, hc, hP⟩ := CM.out.page a1 a2 hj0 (by omega) hk0 hk1
    clear hP
    have HM := Aside0.mk (show ∃ m : Nat, m = (rd_T62 l0_1 a1).f1.length from ⟨_, rfl⟩)
    obtain ⟨m, hm⟩ := HM.out
    rw [← hm] at hc hk1
    clear HM
    have HMM := Aside0.mk hm
    clear hm
    have C0 : Aside0 (Cst w W b #[.int .i64 a0_0, .slice (some ⟨gs, 0, none⟩) l0_1.length cap1, .slice A2 l0_2.length cap2, .int .i64 a0_3] r #[.int .i64 0, .slice none 0 0, .slice none 0 0, .int .i64 0] r #[.int .i64 0, .slice none 0 0, .slice none 0 0, .int .i64 0] gs l0_1.length cap1 A2 l0_2.length cap2 a1 gp m cpp l0_1 l0_2) := ⟨⟨CM.out, hc, BK.out, BR.out, BR.out⟩⟩
    have HRB := Aside0.mk (show r ≠ b by have := GR.out; omega)
    clear CM BK BR hc
    have d0 : decide (0 ≤ a1) = true := decide_eq_true hj0
    have d1 : decide (a1 < (l0_1.length : Int)) = true := decide_eq_true hj1
    have d2 : decide (0 ≤ a2) = true := decide_eq_true hk0
    have d3 : decide (a2 < (m : Int)) = true := decide_eq_true hk1
    have hcb0 := (blk_cell C0.out.bk 0).trans rfl
    have hcb1 := (blk_cell C0.out.bk 1).trans rfl
    have hcb2 := (blk_cell C0.out.bk 2).trans rfl
    have hcb3 := (blk_cell C0.out.bk 3).trans rfl
    have hgc := C0.out.hc
    go_upto_region 6 with (fail)
    have HP := Aside0.mk (C0.out.pageAt a2 hj0 hj1 hk0 (by rw [← HMM.out]; exact hk1))
    generalize hp : (rd_T64 (rd_T62 l0_1 a1).f1 a2) = p at *
    have HPP := Aside0.mk hp
    clear hp
    have hpc0 := HP.out.c0
    have hpc1 := HP.out.c1
    by_cases hpn : p.f0 < 0
    · have hr := HR.out
      rw [if_pos (Or.inl hpn)] at hr
      obtain ⟨fr, hfr, hr⟩ := Option.bind_eq_some_iff.1 hr
      have HFR := Aside0.mk hfr
      clear HR hfr
      have e0 : decide (p.f0 < 0) = true := decide_eq_true hpn
      go_quiet (fail)
      have nC := Aside0.mk (C0.out.drewN nq)
      clear hcb0 hcb1 hcb2 hcb3
      clear C0 hgc hpc0 hpc1 HP
      have C0 := nC
      clear nC
      generalize W.drewN nq = W7 at C0 ⊢
      have hcb2 := (blk_cell C0.out.bk 2).trans rfl
      go_upto_region 8 with ((with_reducible refine gate_callee (f := 33) rfl ?_); refine goesL_ (some 50) rfl rfl Try.func33 (by kernel_rfl) rfl #[.slice A2 l0_2.length cap2, .func (.func 34) #[] #[]] rfl (by (try simp only [List.map_toArray, List.map_cons, List.map_nil]); first | done | rfl) ?_; (with_reducible refine (api_CowFrame_33.calls k _ _ l0_2 fr _ ?side1 ?side2 HFR.out).mono ?_); (case side1 => exact (Kd.R_reads' C0.out.cm.fr).2.2); (case side2 => exact (Kd.R_reads' C0.out.cm.fr).2.1); rintro e w6 ⟨rfl, hb6⟩; refine ⟨_, rfl, ?_⟩)
      have nC := Aside0.mk (C0.out.below hb6)
      clear C0 hb6 hcb2
      have C0 := nC
      clear nC
      by_cases hfn : fr < 0
      · rw [if_pos hfn] at hr
        simp only [Option.some.injEq, Prod.mk.injEq] at hr
        obtain ⟨rfl, rfl, rfl, rfl, rfl⟩ := hr
        have e9 : decide (fr < 0) = true := decide_eq_true hfn
        have BR := Aside0.mk C0.out.br
        have HB := Aside0.mk C0.out.cm.hb
        have hcr0 := (blk_cell BR.out 0).trans rfl
        have hcr1 := (blk_cell BR.out 1).trans rfl
        have hcr2 := (blk_cell BR.out 2).trans rfl
        have hcr3 := (blk_cell BR.out 3).trans rfl
        have hfr := fun j => blk_frozen BR.out j
        go_wp2
        refine bodyPost_ret (results_ct rfl _ _ r 27 #[.int .i64 0, .slice none 0 0, .slice none 0 0, .int .i64 0] (0, 0) _ rfl (set4_blk BR.out _ _ _ _) Try.underlying27 rfl (by kernel_rfl)) rfl ?_
        exact ⟨_, _, rfl, Kd.S_nil _ _ _ _ _, Kd.R_nil _ _ _ _ _, set4_below HB.out (by have := GB.out; have := GR.out; omega) _ _ _ _⟩
      · rw [if_neg hfn] at hr
        split at hr
        case isFalse => cases hr
        rename_i hfl
        simp only [Option.some.injEq, Prod.mk.injEq] at hr
        obtain ⟨rfl, rfl, rfl, rfl, rfl⟩ := hr
        have e9 : decide (fr < 0) = false := decide_eq_false hfn
        have hf0 : 0 ≤ fr := by omega
        have e10 : decide (0 ≤ fr) = true := decide_eq_true hf0
        have e11 : decide (fr < (l0_2.length : Int)) = true := decide_eq_true hfl
        obtain ⟨gf, rfl, hF⟩ := C0.out.cm.frame fr hf0 hfl
        clear hF
        have HP := Aside0.mk (C0.out.pageAt a2 hj0 hj1 hk0 (by first | (rw [← HMM.out]; exact hk1) | (rw [setPage_rowlen _ _ _ _ hj0 hj1, ← HMM.out]; exact hk1)))
        rw [HPP.out] at HP
        have hpc0 := HP.out.c0
        have e12 : decide (0 ≤ p.f0) = false := decide_eq_false (by omega)
        go_upto_region 13 with (fail)
        clear hpc0 HP
        obtain ⟨fs1, hfs1⟩ : ∃ x, x = l0_2 := ⟨_, rfl⟩
        have HFL := Aside0.mk (show fs1.length = l0_2.length by rw [hfs1])
        obtain ⟨cp, hcp⟩ : ∃ x, x = a0_3 := ⟨_, rfl⟩
        have C0 : Aside0 (Cst w w6 b #[.int .i64 a0_0, .slice (some ⟨gs, 0, none⟩) l0_1.length cap1, .slice (some ⟨gf, 0, none⟩) l0_2.length cap2, .int .i64 cp] r #[.int .i64 0, .slice none 0 0, .slice none 0 0, .int .i64 0] r #[.int .i64 0, .slice none 0 0, .slice none 0 0, .int .i64 0] gs l0_1.length cap1 (some ⟨gf, 0, none⟩) l0_2.length cap2 a1 gp m cpp l0_1 fs1) := ⟨by rw [hfs1, hcp]; exact C0.out⟩
        generalize w6 = W9 at C0 ⊢
        have HCP := Aside0.mk (show wCopies p.f0 a0_3 = cp by unfold wCopies; rw [if_neg (by omega)]; exact hcp.symm)
        have HWF := Aside0.mk (show wFS l0_2 p.f0 fr a3 = fs1.set fr.toNat ⟨1, a3⟩ by unfold wFS; rw [if_neg (by omega), hfs1])
        have hfl1 : fr < (fs1.length : Int) := by rw [HFL.out]; exact hfl
        clear hcp hfs1
        have HP := Aside0.mk (C0.out.pageAt a2 hj0 hj1 hk0 (by first | (rw [← HMM.out]; exact hk1) | (rw [setPage_rowlen _ _ _ _ hj0 hj1, ← HMM.out]; exact hk1)))
        rw [HPP.out] at HP
        have hpc0 := HP.out.c0
        have hpz := HP.out.fz (a2.toNat * 2)
        go_upto_region 14 with (fail)
        have nC := Aside0.mk (C0.out.page a2 hj0 hj1 hk0 (by rw [← HMM.out]; exact hk1) ⟨fr, p.f1⟩ (.int .i64 fr) 0 (Or.inl ⟨rfl, rfl, by rw [HPP.out]⟩))
        clear C0 hpc0 hpz HP
        have C0 : Aside0 (Cst w (W9.setCell ⟨gp, a2.toNat * 2, none⟩ (.int .i64 fr)) b #[.int .i64 a0_0, .slice (some ⟨gs, 0, none⟩) l0_1.length cap1, .slice (some ⟨gf, 0, none⟩) l0_2.length cap2, .int .i64 cp] r #[.int .i64 0, .slice none 0 0, .slice none 0 0, .int .i64 0] r #[.int .i64 0, .slice none 0 0, .slice none 0 0, .int .i64 0] gs l0_1.length cap1 (some ⟨gf, 0, none⟩) l0_2.length cap2 a1 gp m cpp (setPage l0_1 a1 a2 ⟨fr, p.f1⟩) fs1) := ⟨nC.out⟩
        clear nC
        generalize W9.setCell ⟨gp, a2.toNat * 2, none⟩ (.int .i64 fr) = W10 at C0 ⊢
        have HF := Aside0.mk (C0.out.frameAt fr hf0 hfl1)
        have hfc0 := HF.out.c0
        have hfz := HF.out.fz (fr.toNat * 2)
        have hcb2 := (blk_cell C0.out.bk 2).trans rfl
        go_upto_region 15 with (fail)
        have nC := Aside0.mk (C0.out.frame fr hf0 hfl1 ⟨1, (rd_T57 fs1 fr).f1⟩ (.int .i64 1) 0 (Or.inl ⟨rfl, rfl, rfl⟩))
        clear C0 hfc0 hfz HF hcb2
        have C0 : Aside0 (Cst w (W10.setCell ⟨gf, fr.toNat * 2, none⟩ (.int .i64 1)) b #[.int .i64 a0_0, .slice (some ⟨gs, 0, none⟩) l0_1.length cap1, .slice (some ⟨gf, 0, none⟩) l0_2.length cap2, .int .i64 cp] r #[.int .i64 0, .slice none 0 0, .slice none 0 0, .int .i64 0] r #[.int .i64 0, .slice none 0 0, .slice none 0 0, .int .i64 0] gs l0_1.length cap1 (some ⟨gf, 0, none⟩) l0_2.length cap2 a1 gp m cpp (setPage l0_1 a1 a2 ⟨fr, p.f1⟩) (fs1.set fr.toNat ⟨1, (rd_T57 fs1 fr).f1⟩)) := ⟨nC.out⟩
        clear nC
        generalize W10.setCell ⟨gf, fr.toNat * 2, none⟩ (.int .i64 1) = W11 at C0 ⊢
        have hfl2 : fr < ((fs1.set fr.toNat ⟨1, (rd_T57 fs1 fr).f1⟩).length : Int) := by rw [List.length_set]; exact hfl1
        have HP := Aside0.mk (C0.out.pageAt a2 hj0 hj1 hk0 (by rw [setPage_rowlen _ _ _ _ hj0 hj1, ← HMM.out]; exact hk1))
        rw [setPage_pg _ _ _ _ hj0 hj1 hk0 (by rw [← HMM.out]; exact hk1)] at HP
        have hpc1 := HP.out.c1
        have hpz := HP.out.fz (a2.toNat * 2 + 1)
        go_upto_region 16 with (fail)
        have nC := Aside0.mk (C0.out.page a2 hj0 hj1 hk0 (by rw [setPage_rowlen _ _ _ _ hj0 hj1, ← HMM.out]; exact hk1) ⟨fr, true⟩ (.bool true) 1 (Or.inr ⟨rfl, rfl, (by rw [setPage_pg _ _ _ _ hj0 hj1 hk0 (by rw [← HMM.out]; exact hk1)])⟩))
        clear C0 hpc1 hpz HP
        rw [setPage_twice _ _ _ _ _ hj0 hj1] at nC
        have C0 : Aside0 (Cst w (W11.setCell ⟨gp, a2.toNat * 2 + 1, none⟩ (.bool true)) b #[.int .i64 a0_0, .slice (some ⟨gs, 0, none⟩) l0_1.length cap1, .slice (some ⟨gf, 0, none⟩) l0_2.length cap2, .int .i64 cp] r #[.int .i64 0, .slice none 0 0, .slice none 0 0, .int .i64 0] r #[.int .i64 0, .slice none 0 0, .slice none 0 0, .int .i64 0] gs l0_1.length cap1 (some ⟨gf, 0, none⟩) l0_2.length cap2 a1 gp m cpp (setPage l0_1 a1 a2 ⟨fr, true⟩) (fs1.set fr.toNat ⟨1, (rd_T57 fs1 fr).f1⟩)) := ⟨nC.out⟩
        clear nC
        generalize W11.setCell ⟨gp, a2.toNat * 2 + 1, none⟩ (.bool true) = W12 at C0 ⊢
        have HP := Aside0.mk (C0.out.pageAt a2 hj0 hj1 hk0 (by rw [setPage_rowlen _ _ _ _ hj0 hj1, ← HMM.out]; exact hk1))
        rw [setPage_pg _ _ _ _ hj0 hj1 hk0 (by rw [← HMM.out]; exact hk1)] at HP
        have hpc0 := HP.out.c0
        have HF := Aside0.mk (C0.out.frameAt fr hf0 hfl2)
        have hfc1 := HF.out.c1
        have hfz := HF.out.fz (fr.toNat * 2 + 1)
        have hcb2 := (blk_cell C0.out.bk 2).trans rfl
        refine start_ (n := 10) (S := fun w' => w'.cell? ⟨b, 2, none⟩ = some (.slice (some ⟨gf, 0, none⟩) l0_2.length cap2) ∧ w'.cell? ⟨gp, a2.toNat * 2, none⟩ = some (.int .i64 fr)) (ds := [9]) #[false, false, false, false, false, false, false, false, false, false] (by kernel_rfl) rfl rfl ⟨hcb2, hpc0⟩ (fun hHeld => ?_)
        refine pure_ (i := 0) (N := some 88) (v := ?_) (a' := ?_) #[true, false, false, false, false, false, false, false, false, false] rfl rfl (by kernel_rfl) (fun _ _ _ h => h) (Or.inl ⟨by rfl, ?_⟩) ?_ ?_
        rotate_left
        · intro w'
          go_simp
          with_reducible rfl
        rotate_left
        · simp only [Act.put, List.setIfInBounds_toArray, List.set_cons_zero, List.set_cons_succ, i64_w, i32_w]
          rfl
        refine take_ (i := 1) (N := some 89) (v := ?_) (a' := ?_) #[true, true, false, false, false, false, false, false, false, false] rfl rfl (by kernel_rfl) (fun _ _ _ h => h) (Or.inl ⟨by rfl, ?_⟩) hHeld ?_ ?_
        rotate_left
        · rintro w' ⟨s0, s1⟩
          go_simp
          with_reducible rfl
        rotate_left
        · simp only [Act.put, List.setIfInBounds_toArray, List.set_cons_zero, List.set_cons_succ, i64_w, i32_w]
          rfl
        refine pure_ (i := 2) (N := some 90) (v := ?_) (a' := ?_) #[true, true, true, false, false, false, false, false, false, false] rfl rfl (by kernel_rfl) (fun _ _ _ h => h) (Or.inl ⟨by rfl, ?_⟩) ?_ ?_
        rotate_left
        · intro w'
          go_simp
          with_reducible rfl
        rotate_left
        · simp only [Act.put, List.setIfInBounds_toArray, List.set_cons_zero, List.set_cons_succ, i64_w, i32_w]
          rfl
        refine pure_ (i := 3) (N := some 91) (v := ?_) (a' := ?_) #[true, true, true, true, false, false, false, false, false, false] rfl rfl (by kernel_rfl) (fun _ _ _ h => h) (Or.inl ⟨by rfl, ?_⟩) ?_ ?_
        rotate_left
        · intro w'
          go_simp
          with_reducible rfl
        rotate_left
        · simp only [Act.put, List.setIfInBounds_toArray, List.set_cons_zero, List.set_cons_succ, i64_w, i32_w]
          rfl
        refine pure_ (i := 4) (N := some 92) (v := ?_) (a' := ?_) #[true, true, true, true, true, false, false, false, false, false] rfl rfl (by kernel_rfl) (fun _ _ _ h => h) (Or.inl ⟨by rfl, ?_⟩) ?_ ?_
        rotate_left
        · intro w'
          go_simp
          with_reducible rfl
        rotate_left
        · simp only [Act.put, List.setIfInBounds_toArray, List.set_cons_zero, List.set_cons_succ, i64_w, i32_w]
          rfl
        refine take_ (i := 5) (N := some 93) (v := ?_) (a' := ?_) #[true, true, true, true, true, true, false, false, false, false] rfl rfl (by kernel_rfl) (fun _ _ _ h => h) (Or.inl ⟨by rfl, ?_⟩) hHeld ?_ ?_
        rotate_left
        · rintro w' ⟨s0, s1⟩
          go_simp
          with_reducible rfl
        rotate_left
        · simp only [Act.put, List.setIfInBounds_toArray, List.set_cons_zero, List.set_cons_succ, i64_w, i32_w]
          rfl
        refine pure_ (i := 6) (N := some 94) (v := ?_) (a' := ?_) #[true, true, true, true, true, true, true, false, false, false] rfl rfl (by kernel_rfl) (fun _ _ _ h => h) (Or.inl ⟨by rfl, ?_⟩) ?_ ?_
        rotate_left
        · intro w'
          go_simp
          with_reducible rfl
        rotate_left
        · simp only [Act.put, List.setIfInBounds_toArray, List.set_cons_zero, List.set_cons_succ, i64_w, i32_w]
          rfl
        refine pure_ (i := 7) (N := some 95) (v := ?_) (a' := ?_) #[true, true, true, true, true, true, true, true, false, false] rfl rfl (by kernel_rfl) (fun _ _ _ h => h) (Or.inl ⟨by rfl, ?_⟩) ?_ ?_
        rotate_left
        · intro w'
          go_simp
          with_reducible rfl
        rotate_left
        · simp only [Act.put, List.setIfInBounds_toArray, List.set_cons_zero, List.set_cons_succ, i64_w, i32_w]
          rfl
        refine pure_ (i := 8) (N := some 96) (v := ?_) (a' := ?_) #[true, true, true, true, true, true, true, true, true, false] rfl rfl (by kernel_rfl) (fun _ _ _ h => h) (Or.inl ⟨by rfl, ?_⟩) ?_ ?_
        rotate_left
        · intro w'
          go_simp
          with_reducible rfl
        rotate_left
        · simp only [Act.put, List.setIfInBounds_toArray, List.set_cons_zero, List.set_cons_succ, i64_w, i32_w]
          rfl
        refine last_ (i := 9) (N := none) #[true, true, true, true, true, true, true, true, true, true] rfl rfl (by kernel_rfl) (by decide) (fun K hK => ?_)
        refine skip_ (w1 := ?_) (by rfl) rfl ?_ ?_
        rotate_left
        · go_simp
          rfl
        refine hK.out _ _ ?_
        clear hK K
        refine done_ (by kernel_rfl) ?_
        have nC := Aside0.mk ((C0.out.drewN 1).frame fr hf0 hfl2 ⟨1, a3⟩ (.int .i64 a3) 1 (Or.inr ⟨rfl, rfl, (by rw [rd57_set fs1 fr hf0 hfl1])⟩))
        clear C0 hpc0 HP HF hfc1 hfz hcb2
        have C0 : Aside0 (Cst w ((W12.setCell ⟨gf, fr.toNat * 2 + 1, none⟩ (.int .i64 a3)).drew) b #[.int .i64 a0_0, .slice (some ⟨gs, 0, none⟩) l0_1.length cap1, .slice (some ⟨gf, 0, none⟩) l0_2.length cap2, .int .i64 cp] r #[.int .i64 0, .slice none 0 0, .slice none 0 0, .int .i64 0] r #[.int .i64 0, .slice none 0 0, .slice none 0 0, .int .i64 0] gs l0_1.length cap1 (some ⟨gf, 0, none⟩) l0_2.length cap2 a1 gp m cpp (setPage l0_1 a1 a2 ⟨fr, true⟩) ((fs1.set fr.toNat ⟨1, (rd_T57 fs1 fr).f1⟩).set fr.toNat ⟨1, a3⟩)) := ⟨nC.out⟩
        clear nC
        generalize (W12.setCell ⟨gf, fr.toNat * 2 + 1, none⟩ (.int .i64 a3)).drew = W13 at C0 ⊢
        rw [List.set_set] at C0
        have CM := Aside0.mk C0.out.cm
        have BK := Aside0.mk C0.out.bk
        have BR := Aside0.mk C0.out.br
        have hcb0 := (blk_cell BK.out 0).trans rfl
        have hcb1 := (blk_cell BK.out 1).trans rfl
        have hcb2 := (blk_cell BK.out 2).trans rfl
        have hcb3 := (blk_cell BK.out 3).trans rfl
        have hfb := fun j => blk_frozen BK.out j
        have hcr0 := (blk_cell BR.out 0).trans rfl
        have hcr1 := (blk_cell BR.out 1).trans rfl
        have hcr2 := (blk_cell BR.out 2).trans rfl
        have hcr3 := (blk_cell BR.out 3).trans rfl
        have hfr := fun j => blk_frozen BR.out j
        go_wp2
        refine bodyPost_ret (results_ct rfl _ _ r 27 #[.int .i64 a0_0, .slice (some ⟨gs, 0, none⟩) l0_1.length cap1, .slice (some ⟨gf, 0, none⟩) l0_2.length cap2, .int .i64 cp] (0, 0) _ rfl (set4_blk BR.out _ _ _ _) Try.underlying27 rfl (by kernel_rfl)) rfl ?_
        rw [HWF.out, HCP.out]
        have hE := CM.out.set4 BR.out (by have := GB.out; have := GR.out; omega) (.int .i64 a0_0) (.slice (some ⟨gs, 0, none⟩) l0_1.length cap1) (.slice (some ⟨gf, 0, none⟩) l0_2.length cap2) (.int .i64 cp)
        exact ⟨_, _, rfl, hE.sp, hE.fr, hE.hb⟩
    · have e0 : decide (p.f0 < 0) = false := decide_eq_false hpn
      have hpn0 : 0 ≤ p.f0 := by omega
      have e1 : decide (0 ≤ p.f0) = true := decide_eq_true hpn0
      have e2 : decide (p.f0 < (l0_2.length : Int)) = true := decide_eq_true hf
      obtain ⟨gf, rfl, hF⟩ := C0.out.cm.frame p.f0 hpn0 hf
      have hfc0 := hF.c0
      clear hF
      by_cases hcn : 1 < (rd_T57 l0_2 p.f0).f0
      · have hr := HR.out
        rw [if_pos (Or.inr hcn)] at hr
        obtain ⟨fr, hfr, hr⟩ := Option.bind_eq_some_iff.1 hr
        have HFR := Aside0.mk hfr
        clear HR hfr
        have e3 : decide (1 < (rd_T57 l0_2 p.f0).f0) = true := decide_eq_true hcn
        clear hcn
        go_quiet (fail)
        have nC := Aside0.mk (C0.out.drewN nq)
        clear hcb0 hcb1 hcb2 hcb3
        clear C0 hgc hpc0 hpc1 hfc0 HP
        have C0 := nC
        clear nC
        generalize W.drewN nq = W7 at C0 ⊢
        have hcb2 := (blk_cell C0.out.bk 2).trans rfl
        go_upto_region 8 with ((with_reducible refine gate_callee (f := 33) rfl ?_); refine goesL_ (some 50) rfl rfl Try.func33 (by kernel_rfl) rfl #[.slice (some ⟨gf, 0, none⟩) l0_2.length cap2, .func (.func 34) #[] #[]] rfl (by (try simp only [List.map_toArray, List.map_cons, List.map_nil]); first | done | rfl) ?_; (with_reducible refine (api_CowFrame_33.calls k _ _ l0_2 fr _ ?side1 ?side2 HFR.out).mono ?_); (case side1 => exact (Kd.R_reads' C0.out.cm.fr).2.2); (case side2 => exact (Kd.R_reads' C0.out.cm.fr).2.1); rintro e w6 ⟨rfl, hb6⟩; refine ⟨_, rfl, ?_⟩)
        have nC := Aside0.mk (C0.out.below hb6)
        clear C0 hb6 hcb2
        have C0 := nC
        clear nC
        by_cases hfn : fr < 0
        · rw [if_pos hfn] at hr
          simp only [Option.some.injEq, Prod.mk.injEq] at hr
          obtain ⟨rfl, rfl, rfl, rfl, rfl⟩ := hr
          have e9 : decide (fr < 0) = true := decide_eq_true hfn
          have BR := Aside0.mk C0.out.br
          have HB := Aside0.mk C0.out.cm.hb
          have hcr0 := (blk_cell BR.out 0).trans rfl
          have hcr1 := (blk_cell BR.out 1).trans rfl
          have hcr2 := (blk_cell BR.out 2).trans rfl
          have hcr3 := (blk_cell BR.out 3).trans rfl
          have hfr := fun j => blk_frozen BR.out j
          go_wp2
          refine bodyPost_ret (results_ct rfl _ _ r 27 #[.int .i64 0, .slice none 0 0, .slice none 0 0, .int .i64 0] (0, 0) _ rfl (set4_blk BR.out _ _ _ _) Try.underlying27 rfl (by kernel_rfl)) rfl ?_
          exact ⟨_, _, rfl, Kd.S_nil _ _ _ _ _, Kd.R_nil _ _ _ _ _, set4_below HB.out (by have := GB.out; have := GR.out; omega) _ _ _ _⟩
        · rw [if_neg hfn] at hr
          split at hr
          case isFalse => cases hr
          rename_i hfl
          simp only [Option.some.injEq, Prod.mk.injEq] at hr
          obtain ⟨rfl, rfl, rfl, rfl, rfl⟩ := hr
          have e9 : decide (fr < 0) = false := decide_eq_false hfn
          have hf0 : 0 ≤ fr := by omega
          have e10 : decide (0 ≤ fr) = true := decide_eq_true hf0
          have e11 : decide (fr < (l0_2.length : Int)) = true := decide_eq_true hfl
          have HP := Aside0.mk (C0.out.pageAt a2 hj0 hj1 hk0 (by first | (rw [← HMM.out]; exact hk1) | (rw [setPage_rowlen _ _ _ _ hj0 hj1, ← HMM.out]; exact hk1)))
          rw [HPP.out] at HP
          have hpc0 := HP.out.c0
          go_upto_region 11 with (fail)
          have hcb0 := (blk_cell C0.out.bk 0).trans rfl
          have hcb1 := (blk_cell C0.out.bk 1).trans rfl
          have hcb2 := (blk_cell C0.out.bk 2).trans rfl
          have hcb3 := (blk_cell C0.out.bk 3).trans rfl
          have HF := Aside0.mk (C0.out.frameAt p.f0 hpn0 hf)
          have hfc0 := HF.out.c0
          have hfz := HF.out.fz (p.f0.toNat * 2)
          refine start_ (n := 13) (S := fun w' => w'.cell? ⟨b, 2, none⟩ = some (.slice (some ⟨gf, 0, none⟩) l0_2.length cap2) ∧ w'.cell? ⟨gp, a2.toNat * 2, none⟩ = some (.int .i64 p.f0) ∧ w'.cell? ⟨gf, p.f0.toNat * 2, none⟩ = some (.int .i64 (rd_T57 l0_2 p.f0).f0)) (ds := [12]) #[false, false, false, false, false, false, false, false, false, false, false, false, false] (by kernel_rfl) rfl rfl ⟨hcb2, hpc0, hfc0⟩ (fun hHeld => ?_)
          refine pure_ (i := 0) (N := some 59) (v := ?_) (a' := ?_) #[true, false, false, false, false, false, false, false, false, false, false, false, false] rfl rfl (by kernel_rfl) (fun _ _ _ h => h) (Or.inl ⟨by rfl, ?_⟩) ?_ ?_
          rotate_left
          · intro w'
            go_simp
            with_reducible rfl
          rotate_left
          · simp only [Act.put, List.setIfInBounds_toArray, List.set_cons_zero, List.set_cons_succ, i64_w, i32_w]
            rfl
          refine take_ (i := 1) (N := some 60) (v := ?_) (a' := ?_) #[true, true, false, false, false, false, false, false, false, false, false, false, false] rfl rfl (by kernel_rfl) (fun _ _ _ h => h) (Or.inl ⟨by rfl, ?_⟩) hHeld ?_ ?_
          rotate_left
          · rintro w' ⟨s0, s1, s2⟩
            go_simp
            with_reducible rfl
          rotate_left
          · simp only [Act.put, List.setIfInBounds_toArray, List.set_cons_zero, List.set_cons_succ, i64_w, i32_w]
            rfl
          refine pure_ (i := 2) (N := some 61) (v := ?_) (a' := ?_) #[true, true, true, false, false, false, false, false, false, false, false, false, false] rfl rfl (by kernel_rfl) (fun _ _ _ h => h) (Or.inl ⟨by rfl, ?_⟩) ?_ ?_
          rotate_left
          · intro w'
            go_simp
            with_reducible rfl
          rotate_left
          · simp only [Act.put, List.setIfInBounds_toArray, List.set_cons_zero, List.set_cons_succ, i64_w, i32_w]
            rfl
          refine pure_ (i := 3) (N := some 62) (v := ?_) (a' := ?_) #[true, true, true, true, false, false, false, false, false, false, false, false, false] rfl rfl (by kernel_rfl) (fun _ _ _ h => h) (Or.inl ⟨by rfl, ?_⟩) ?_ ?_
          rotate_left
          · intro w'
            go_simp
            with_reducible rfl
          rotate_left
          · simp only [Act.put, List.setIfInBounds_toArray, List.set_cons_zero, List.set_cons_succ, i64_w, i32_w]
            rfl
          refine pure_ (i := 4) (N := some 63) (v := ?_) (a' := ?_) #[true, true, true, true, true, false, false, false, false, false, false, false, false] rfl rfl (by kernel_rfl) (fun _ _ _ h => h) (Or.inl ⟨by rfl, ?_⟩) ?_ ?_
          rotate_left
          · intro w'
            go_simp
            with_reducible rfl
          rotate_left
          · simp only [Act.put, List.setIfInBounds_toArray, List.set_cons_zero, List.set_cons_succ, i64_w, i32_w]
            rfl
          refine take_ (i := 5) (N := some 64) (v := ?_) (a' := ?_) #[true, true, true, true, true, true, false, false, false, false, false, false, false] rfl rfl (by kernel_rfl) (fun _ _ _ h => h) (Or.inl ⟨by rfl, ?_⟩) hHeld ?_ ?_
          rotate_left
          · rintro w' ⟨s0, s1, s2⟩
            go_simp
            with_reducible rfl
          rotate_left
          · simp only [Act.put, List.setIfInBounds_toArray, List.set_cons_zero, List.set_cons_succ, i64_w, i32_w]
            rfl
          refine pure_ (i := 6) (N := some 65) (v := ?_) (a' := ?_) #[true, true, true, true, true, true, true, false, false, false, false, false, false] rfl rfl (by kernel_rfl) (fun _ _ _ h => h) (Or.inl ⟨by rfl, ?_⟩) ?_ ?_
          rotate_left
          · intro w'
            go_simp
            with_reducible rfl
          rotate_left
          · simp only [Act.put, List.setIfInBounds_toArray, List.set_cons_zero, List.set_cons_succ, i64_w, i32_w]
            rfl
          refine pure_ (i := 7) (N := some 66) (v := ?_) (a' := ?_) #[true, true, true, true, true, true, true, true, false, false, false, false, false] rfl rfl (by kernel_rfl) (fun _ _ _ h => h) (Or.inl ⟨by rfl, ?_⟩) ?_ ?_
          rotate_left
          · intro w'
            go_simp
            with_reducible rfl
          rotate_left
          · simp only [Act.put, List.setIfInBounds_toArray, List.set_cons_zero, List.set_cons_succ, i64_w, i32_w]
            rfl
          refine take_ (i := 8) (N := some 67) (v := ?_) (a' := ?_) #[true, true, true, true, true, true, true, true, true, false, false, false, false] rfl rfl (by kernel_rfl) (fun _ _ _ h => h) (Or.inl ⟨by rfl, ?_⟩) hHeld ?_ ?_
          rotate_left
          · rintro w' ⟨s0, s1, s2⟩
            go_simp
            with_reducible rfl
          rotate_left
          · simp only [Act.put, List.setIfInBounds_toArray, List.set_cons_zero, List.set_cons_succ, i64_w, i32_w]
            rfl
          refine pure_ (i := 9) (N := some 68) (v := ?_) (a' := ?_) #[true, true, true, true, true, true, true, true, true, true, false, false, false] rfl rfl (by kernel_rfl) (fun _ _ _ h => h) (Or.inl ⟨by rfl, ?_⟩) ?_ ?_
          rotate_left
          · intro w'
            go_simp
            with_reducible rfl
          rotate_left
          · simp only [Act.put, List.setIfInBounds_toArray, List.set_cons_zero, List.set_cons_succ, i64_w, i32_w]
            rfl
          refine pure_ (i := 10) (N := some 69) (v := ?_) (a' := ?_) #[true, true, true, true, true, true, true, true, true, true, true, false, false] rfl rfl (by kernel_rfl) (fun _ _ _ h => h) (Or.inl ⟨by rfl, ?_⟩) ?_ ?_
          rotate_left
          · intro w'
            go_simp
            with_reducible rfl
          rotate_left
          · simp only [Act.put, List.setIfInBounds_toArray, List.set_cons_zero, List.set_cons_succ, i64_w, i32_w]
            rfl
          refine pure_ (i := 11) (N := some 70) (v := ?_) (a' := ?_) #[true, true, true, true, true, true, true, true, true, true, true, true, false] rfl rfl (by kernel_rfl) (fun _ _ _ h => h) (Or.inl ⟨by rfl, ?_⟩) ?_ ?_
          rotate_left
          · intro w'
            go_simp
            with_reducible rfl
          rotate_left
          · simp only [Act.put, List.setIfInBounds_toArray, List.set_cons_zero, List.set_cons_succ, i64_w, i32_w]
            rfl
          refine last_ (i := 12) (N := none) #[true, true, true, true, true, true, true, true, true, true, true, true, true] rfl rfl (by kernel_rfl) (by decide) (fun K hK => ?_)
          refine skip_ (w1 := ?_) (by rfl) rfl ?_ ?_
          rotate_left
          · go_simp
            rfl
          refine hK.out _ _ ?_
          clear hK K
          refine done_ (by kernel_rfl) ?_
          have nC := Aside0.mk ((C0.out.drewN 1).frame p.f0 hpn0 hf ⟨wrap64 ((rd_T57 l0_2 p.f0).f0 - 1), (rd_T57 l0_2 p.f0).f1⟩ (.int .i64 (wrap64 ((rd_T57 l0_2 p.f0).f0 - 1))) 0 (Or.inl ⟨rfl, rfl, rfl⟩))
          clear hcb0 hcb1 hcb2 hcb3
          clear C0 hpc0 HP HF hfc0 hfz
          have C0 := nC
          clear nC
          have C0 : Aside0 (Cst w ((w6.setCell ⟨gf, p.f0.toNat * 2, none⟩ (.int .i64 (wrap64 ((rd_T57 l0_2 p.f0).f0 - 1)))).drew) b #[.int .i64 a0_0, .slice (some ⟨gs, 0, none⟩) l0_1.length cap1, .slice (some ⟨gf, 0, none⟩) l0_2.length cap2, .int .i64 a0_3] r #[.int .i64 0, .slice none 0 0, .slice none 0 0, .int .i64 0] r #[.int .i64 0, .slice none 0 0, .slice none 0 0, .int .i64 0] gs l0_1.length cap1 (some ⟨gf, 0, none⟩) l0_2.length cap2 a1 gp m cpp l0_1 (l0_2.set p.f0.toNat ⟨wrap64 ((rd_T57 l0_2 p.f0).f0 - 1), (rd_T57 l0_2 p.f0).f1⟩)) := ⟨C0.out⟩
          generalize (w6.setCell ⟨gf, p.f0.toNat * 2, none⟩ (.int .i64 (wrap64 ((rd_T57 l0_2 p.f0).f0 - 1)))).drew = W8 at C0 ⊢
          generalize hfsx : l0_2.set p.f0.toNat ⟨wrap64 ((rd_T57 l0_2 p.f0).f0 - 1), (rd_T57 l0_2 p.f0).f1⟩ = fs1 at C0
          have HFS := Aside0.mk hfsx
          have HFL := Aside0.mk (show fs1.length = l0_2.length by rw [← hfsx]; exact List.length_set)
          clear hfsx
          have hcb0 := (blk_cell C0.out.bk 0).trans rfl
          have hcb1 := (blk_cell C0.out.bk 1).trans rfl
          have hcb2 := (blk_cell C0.out.bk 2).trans rfl
          have hcb3 := (blk_cell C0.out.bk 3).trans rfl
          have hfz := fun i => blk_frozen C0.out.bk i
          go_upto_region 13 with (fail)
          have nC := Aside0.mk (C0.out.boxb GB.out HRB.out HRB.out 3 (.int .i64 (incC a0_3)) #[.int .i64 a0_0, .slice (some ⟨gs, 0, none⟩) l0_1.length cap1, .slice (some ⟨gf, 0, none⟩) l0_2.length cap2, .int .i64 (incC a0_3)] rfl)
          clear hcb0 hcb1 hcb2 hcb3
          clear C0 hfz
          have C0 := nC
          clear nC
          have C0 : Aside0 (Cst w (W8.setCell ⟨b, 3, none⟩ (.int .i64 (if 1048576 < wrap64 (a0_3 + 1) then 1048576 else wrap64 (a0_3 + 1)))) b #[.int .i64 a0_0, .slice (some ⟨gs, 0, none⟩) l0_1.length cap1, .slice (some ⟨gf, 0, none⟩) l0_2.length cap2, .int .i64 (if 1048576 < wrap64 (a0_3 + 1) then 1048576 else wrap64 (a0_3 + 1))] r #[.int .i64 0, .slice none 0 0, .slice none 0 0, .int .i64 0] r #[.int .i64 0, .slice none 0 0, .slice none 0 0, .int .i64 0] gs l0_1.length cap1 (some ⟨gf, 0, none⟩) l0_2.length cap2 a1 gp m cpp l0_1 fs1) := ⟨C0.out⟩
          generalize W8.setCell ⟨b, 3, none⟩ (.int .i64 (if 1048576 < wrap64 (a0_3 + 1) then 1048576 else wrap64 (a0_3 + 1))) = W9 at C0 ⊢
          generalize hcpx : (if 1048576 < wrap64 (a0_3 + 1) then 1048576 else wrap64 (a0_3 + 1)) = cp at C0 ⊢
          have HCP := Aside0.mk (show wCopies p.f0 a0_3 = cp by unfold wCopies incC mn; rw [if_pos hpn0]; exact hcpx)
          clear hcpx
          have HWF := Aside0.mk (show wFS l0_2 p.f0 fr a3 = fs1.set fr.toNat ⟨1, a3⟩ by unfold wFS; rw [if_pos hpn0, HFS.out])
          have hfl1 : fr < (fs1.length : Int) := by rw [HFL.out]; exact hfl
          have HP := Aside0.mk (C0.out.pageAt a2 hj0 hj1 hk0 (by first | (rw [← HMM.out]; exact hk1) | (rw [setPage_rowlen _ _ _ _ hj0 hj1, ← HMM.out]; exact hk1)))
          rw [HPP.out] at HP
          have hpc0 := HP.out.c0
          have hpz := HP.out.fz (a2.toNat * 2)
          go_upto_region 14 with (fail)
          have nC := Aside0.mk (C0.out.page a2 hj0 hj1 hk0 (by rw [← HMM.out]; exact hk1) ⟨fr, p.f1⟩ (.int .i64 fr) 0 (Or.inl ⟨rfl, rfl, by rw [HPP.out]⟩))
          clear C0 hpc0 hpz HP
          have C0 : Aside0 (Cst w (W9.setCell ⟨gp, a2.toNat * 2, none⟩ (.int .i64 fr)) b #[.int .i64 a0_0, .slice (some ⟨gs, 0, none⟩) l0_1.length cap1, .slice (some ⟨gf, 0, none⟩) l0_2.length cap2, .int .i64 cp] r #[.int .i64 0, .slice none 0 0, .slice none 0 0, .int .i64 0] r #[.int .i64 0, .slice none 0 0, .slice none 0 0, .int .i64 0] gs l0_1.length cap1 (some ⟨gf, 0, none⟩) l0_2.length cap2 a1 gp m cpp (setPage l0_1 a1 a2 ⟨fr, p.f1⟩) fs1) := ⟨nC.out⟩
          clear nC
          generalize W9.setCell ⟨gp, a2.toNat * 2, none⟩ (.int .i64 fr) = W10 at C0 ⊢
          have HF := Aside0.mk (C0.out.frameAt fr hf0 hfl1)
          have hfc0 := HF.out.c0
          have hfz := HF.out.fz (fr.toNat * 2)
          have hcb2 := (blk_cell C0.out.bk 2).trans rfl
          go_upto_region 15 with (fail)
          have nC := Aside0.mk (C0.out.frame fr hf0 hfl1 ⟨1, (rd_T57 fs1 fr).f1⟩ (.int .i64 1) 0 (Or.inl ⟨rfl, rfl, rfl⟩))
          clear C0 hfc0 hfz HF hcb2
          have C0 : Aside0 (Cst w (W10.setCell ⟨gf, fr.toNat * 2, none⟩ (.int .i64 1)) b #[.int .i64 a0_0, .slice (some ⟨gs, 0, none⟩) l0_1.length cap1, .slice (some ⟨gf, 0, none⟩) l0_2.length cap2, .int .i64 cp] r #[.int .i64 0, .slice none 0 0, .slice none 0 0, .int .i64 0] r #[.int .i64 0, .slice none 0 0, .slice none 0 0, .int .i64 0] gs l0_1.length cap1 (some ⟨gf, 0, none⟩) l0_2.length cap2 a1 gp m cpp (setPage l0_1 a1 a2 ⟨fr, p.f1⟩) (fs1.set fr.toNat ⟨1, (rd_T57 fs1 fr).f1⟩)) := ⟨nC.out⟩
          clear nC
          generalize W10.setCell ⟨gf, fr.toNat * 2, none⟩ (.int .i64 1) = W11 at C0 ⊢
          have hfl2 : fr < ((fs1.set fr.toNat ⟨1, (rd_T57 fs1 fr).f1⟩).length : Int) := by rw [List.length_set]; exact hfl1
          have HP := Aside0.mk (C0.out.pageAt a2 hj0 hj1 hk0 (by rw [setPage_rowlen _ _ _ _ hj0 hj1, ← HMM.out]; exact hk1))
          rw [setPage_pg _ _ _ _ hj0 hj1 hk0 (by rw [← HMM.out]; exact hk1)] at HP
          have hpc1 := HP.out.c1
          have hpz := HP.out.fz (a2.toNat * 2 + 1)
          go_upto_region 16 with (fail)
          have nC := Aside0.mk (C0.out.page a2 hj0 hj1 hk0 (by rw [setPage_rowlen _ _ _ _ hj0 hj1, ← HMM.out]; exact hk1) ⟨fr, true⟩ (.bool true) 1 (Or.inr ⟨rfl, rfl, (by rw [setPage_pg _ _ _ _ hj0 hj1 hk0 (by rw [← HMM.out]; exact hk1)])⟩))
          clear C0 hpc1 hpz HP
          rw [setPage_twice _ _ _ _ _ hj0 hj1] at nC
          have C0 : Aside0 (Cst w (W11.setCell ⟨gp, a2.toNat * 2 + 1, none⟩ (.bool true)) b #[.int .i64 a0_0, .slice (some ⟨gs, 0, none⟩) l0_1.length cap1, .slice (some ⟨gf, 0, none⟩) l0_2.length cap2, .int .i64 cp] r #[.int .i64 0, .slice none 0 0, .slice none 0 0, .int .i64 0] r #[.int .i64 0, .slice none 0 0, .slice none 0 0, .int .i64 0] gs l0_1.length cap1 (some ⟨gf, 0, none⟩) l0_2.length cap2 a1 gp m cpp (setPage l0_1 a1 a2 ⟨fr, true⟩) (fs1.set fr.toNat ⟨1, (rd_T57 fs1 fr).f1⟩)) := ⟨nC.out⟩
          clear nC
          generalize W11.setCell ⟨gp, a2.toNat * 2 + 1, none⟩ (.bool true) = W12 at C0 ⊢
          have HP := Aside0.mk (C0.out.pageAt a2 hj0 hj1 hk0 (by rw [setPage_rowlen _ _ _ _ hj0 hj1, ← HMM.out]; exact hk1))
          rw [setPage_pg _ _ _ _ hj0 hj1 hk0 (by rw [← HMM.out]; exact hk1)] at HP
          have hpc0 := HP.out.c0
          have HF := Aside0.mk (C0.out.frameAt fr hf0 hfl2)
          have hfc1 := HF.out.c1
          have hfz := HF.out.fz (fr.toNat * 2 + 1)
          have hcb2 := (blk_cell C0.out.bk 2).trans rfl
          refine start_ (n := 10) (S := fun w' => w'.cell? ⟨b, 2, none⟩ = some (.slice (some ⟨gf, 0, none⟩) l0_2.length cap2) ∧ w'.cell? ⟨gp, a2.toNat * 2, none⟩ = some (.int .i64 fr)) (ds := [9]) #[false, false, false, false, false, false, false, false, false, false] (by kernel_rfl) rfl rfl ⟨hcb2, hpc0⟩ (fun hHeld => ?_)
          refine pure_ (i := 0) (N := some 88) (v := ?_) (a' := ?_) #[true, false, false, false, false, false, false, false, false, false] rfl rfl (by kernel_rfl) (fun _ _ _ h => h) (Or.inl ⟨by rfl, ?_⟩) ?_ ?_
          rotate_left
          · intro w'
            go_simp
            with_reducible rfl
          rotate_left
          · simp only [Act.put, List.setIfInBounds_toArray, List.set_cons_zero, List.set_cons_succ, i64_w, i32_w]
            rfl
          refine take_ (i := 1) (N := some 89) (v := ?_) (a' := ?_) #[true, true, false, false, false, false, false, false, false, false] rfl rfl (by kernel_rfl) (fun _ _ _ h => h) (Or.inl ⟨by rfl, ?_⟩) hHeld ?_ ?_
          rotate_left
          · rintro w' ⟨s0, s1⟩
            go_simp
            with_reducible rfl
          rotate_left
          · simp only [Act.put, List.setIfInBounds_toArray, List.set_cons_zero, List.set_cons_succ, i64_w, i32_w]
            rfl
          refine pure_ (i := 2) (N := some 90) (v := ?_) (a' := ?_) #[true, true, true, false, false, false, false, false, false, false] rfl rfl (by kernel_rfl) (fun _ _ _ h => h) (Or.inl ⟨by rfl, ?_⟩) ?_ ?_
          rotate_left
          · intro w'
            go_simp
            with_reducible rfl
          rotate_left
          · simp only [Act.put, List.setIfInBounds_toArray, List.set_cons_zero, List.set_cons_succ, i64_w, i32_w]
            rfl
          refine pure_ (i := 3) (N := some 91) (v := ?_) (a' := ?_) #[true, true, true, true, false, false, false, false, false, false] rfl rfl (by kernel_rfl) (fun _ _ _ h => h) (Or.inl ⟨by rfl, ?_⟩) ?_ ?_
          rotate_left
          · intro w'
            go_simp
            with_reducible rfl
          rotate_left
          · simp only [Act.put, List.setIfInBounds_toArray, List.set_cons_zero, List.set_cons_succ, i64_w, i32_w]
            rfl
          refine pure_ (i := 4) (N := some 92) (v := ?_) (a' := ?_) #[true, true, true, true, true, false, false, false, false, false] rfl rfl (by kernel_rfl) (fun _ _ _ h => h) (Or.inl ⟨by rfl, ?_⟩) ?_ ?_
          rotate_left
          · intro w'
            go_simp
            with_reducible rfl
          rotate_left
          · simp only [Act.put, List.setIfInBounds_toArray, List.set_cons_zero, List.set_cons_succ, i64_w, i32_w]
            rfl
          refine take_ (i := 5) (N := some 93) (v := ?_) (a' := ?_) #[true, true, true, true, true, true, false, false, false, false] rfl rfl (by kernel_rfl) (fun _ _ _ h => h) (Or.inl ⟨by rfl, ?_⟩) hHeld ?_ ?_
          rotate_left
          · rintro w' ⟨s0, s1⟩
            go_simp
            with_reducible rfl
          rotate_left
          · simp only [Act.put, List.setIfInBounds_toArray, List.set_cons_zero, List.set_cons_succ, i64_w, i32_w]
            rfl
          refine pure_ (i := 6) (N := some 94) (v := ?_) (a' := ?_) #[true, true, true, true, true, true, true, false, false, false] rfl rfl (by kernel_rfl) (fun _ _ _ h => h) (Or.inl ⟨by rfl, ?_⟩) ?_ ?_
          rotate_left
          · intro w'
            go_simp
            with_reducible rfl
          rotate_left
          · simp only [Act.put, List.setIfInBounds_toArray, List.set_cons_zero, List.set_cons_succ, i64_w, i32_w]
            rfl
          refine pure_ (i := 7) (N := some 95) (v := ?_) (a' := ?_) #[true, true, true, true, true, true, true, true, false, false] rfl rfl (by kernel_rfl) (fun _ _ _ h => h) (Or.inl ⟨by rfl, ?_⟩) ?_ ?_
          rotate_left
          · intro w'
            go_simp
            with_reducible rfl
          rotate_left
          · simp only [Act.put, List.setIfInBounds_toArray, List.set_cons_zero, List.set_cons_succ, i64_w, i32_w]
            rfl
          refine pure_ (i := 8) (N := some 96) (v := ?_) (a' := ?_) #[true, true, true, true, true, true, true, true, true, false] rfl rfl (by kernel_rfl) (fun _ _ _ h => h) (Or.inl ⟨by rfl, ?_⟩) ?_ ?_
          rotate_left
          · intro w'
            go_simp
            with_reducible rfl
          rotate_left
          · simp only [Act.put, List.setIfInBounds_toArray, List.set_cons_zero, List.set_cons_succ, i64_w, i32_w]
            rfl
          refine last_ (i := 9) (N := none) #[true, true, true, true, true, true, true, true, true, true] rfl rfl (by kernel_rfl) (by decide) (fun K hK => ?_)
          refine skip_ (w1 := ?_) (by rfl) rfl ?_ ?_
          rotate_left
          · go_simp
            rfl
          refine hK.out _ _ ?_
          clear hK K
          refine done_ (by kernel_rfl) ?_
          have nC := Aside0.mk ((C0.out.drewN 1).frame fr hf0 hfl2 ⟨1, a3⟩ (.int .i64 a3) 1 (Or.inr ⟨rfl, rfl, (by rw [rd57_set fs1 fr hf0 hfl1])⟩))
          clear C0 hpc0 HP HF hfc1 hfz hcb2
          have C0 : Aside0 (Cst w ((W12.setCell ⟨gf, fr.toNat * 2 + 1, none⟩ (.int .i64 a3)).drew) b #[.int .i64 a0_0, .slice (some ⟨gs, 0, none⟩) l0_1.length cap1, .slice (some ⟨gf, 0, none⟩) l0_2.length cap2, .int .i64 cp] r #[.int .i64 0, .slice none 0 0, .slice none 0 0, .int .i64 0] r #[.int .i64 0, .slice none 0 0, .slice none 0 0, .int .i64 0] gs l0_1.length cap1 (some ⟨gf, 0, none⟩) l0_2.length cap2 a1 gp m cpp (setPage l0_1 a1 a2 ⟨fr, true⟩) ((fs1.set fr.toNat ⟨1, (rd_T57 fs1 fr).f1⟩).set fr.toNat ⟨1, a3⟩)) := ⟨nC.out⟩
          clear nC
          generalize (W12.setCell ⟨gf, fr.toNat * 2 + 1, none⟩ (.int .i64 a3)).drew = W13 at C0 ⊢
          rw [List.set_set] at C0
          have CM := Aside0.mk C0.out.cm
          have BK := Aside0.mk C0.out.bk
          have BR := Aside0.mk C0.out.br
          have hcb0 := (blk_cell BK.out 0).trans rfl
          have hcb1 := (blk_cell BK.out 1).trans rfl
          have hcb2 := (blk_cell BK.out 2).trans rfl
          have hcb3 := (blk_cell BK.out 3).trans rfl
          have hfb := fun j => blk_frozen BK.out j
          have hcr0 := (blk_cell BR.out 0).trans rfl
          have hcr1 := (blk_cell BR.out 1).trans rfl
          have hcr2 := (blk_cell BR.out 2).trans rfl
          have hcr3 := (blk_cell BR.out 3).trans rfl
          have hfr := fun j => blk_frozen BR.out j
          go_wp2
          refine bodyPost_ret (results_ct rfl _ _ r 27 #[.int .i64 a0_0, .slice (some ⟨gs, 0, none⟩) l0_1.length cap1, .slice (some ⟨gf, 0, none⟩) l0_2.length cap2, .int .i64 cp] (0, 0) _ rfl (set4_blk BR.out _ _ _ _) Try.underlying27 rfl (by kernel_rfl)) rfl ?_
          rw [HWF.out, HCP.out]
          have hE := CM.out.set4 BR.out (by have := GB.out; have := GR.out; omega) (.int .i64 a0_0) (.slice (some ⟨gs, 0, none⟩) l0_1.length cap1) (.slice (some ⟨gf, 0, none⟩) l0_2.length cap2) (.int .i64 cp)
          exact ⟨_, _, rfl, hE.sp, hE.fr, hE.hb⟩
      · have hr := HR.out
        rw [if_neg (by rintro (h | h); exact hpn h; exact hcn h)] at hr
        simp only [Option.some.injEq, Prod.mk.injEq] at hr
        obtain ⟨rfl, rfl, rfl, rfl, rfl⟩ := hr
        clear HR
        have e3 : decide (1 < (rd_T57 l0_2 p.f0).f0) = false := decide_eq_false hcn
        clear hcn
        go_quiet (fail)
        have nC := Aside0.mk (C0.out.drewN nq)
        clear hcb0 hcb1 hcb2 hcb3
        clear C0 hgc hpc0 hpc1 hfc0 HP
        have C0 := nC
        clear nC
        generalize W.drewN nq = W11 at C0 ⊢
        go_upto_region 15 with (fail)
        have HP := Aside0.mk (C0.out.pageAt a2 hj0 hj1 hk0 (by rw [← HMM.out]; exact hk1))
        rw [HPP.out] at HP
        have hpc1 := HP.out.c1
        have hpz := HP.out.fz (a2.toNat * 2 + 1)
        go_upto_region 16 with (fail)
        have nC := Aside0.mk (C0.out.page a2 hj0 hj1 hk0 (by rw [← HMM.out]; exact hk1) ⟨p.f0, true⟩ (.bool true) 1 (Or.inr ⟨rfl, rfl, (by rw [HPP.out])⟩))
        clear C0 hpc1 hpz HP
        have C0 : Aside0 (Cst w (W11.setCell ⟨gp, a2.toNat * 2 + 1, none⟩ (.bool true)) b #[.int .i64 a0_0, .slice (some ⟨gs, 0, none⟩) l0_1.length cap1, .slice (some ⟨gf, 0, none⟩) l0_2.length cap2, .int .i64 a0_3] r #[.int .i64 0, .slice none 0 0, .slice none 0 0, .int .i64 0] r #[.int .i64 0, .slice none 0 0, .slice none 0 0, .int .i64 0] gs l0_1.length cap1 (some ⟨gf, 0, none⟩) l0_2.length cap2 a1 gp m cpp (setPage l0_1 a1 a2 ⟨p.f0, true⟩) l0_2) := ⟨nC.out⟩
        clear nC
        generalize W11.setCell ⟨gp, a2.toNat * 2 + 1, none⟩ (.bool true) = W12 at C0 ⊢
        have HP := Aside0.mk (C0.out.pageAt a2 hj0 hj1 hk0 (by rw [setPage_rowlen _ _ _ _ hj0 hj1, ← HMM.out]; exact hk1))
        rw [setPage_pg _ _ _ _ hj0 hj1 hk0 (by rw [← HMM.out]; exact hk1)] at HP
        have hpc0 := HP.out.c0
        have HF := Aside0.mk (C0.out.frameAt p.f0 hpn0 hf)
        have hfc1 := HF.out.c1
        have hfz := HF.out.fz (p.f0.toNat * 2 + 1)
        have hcb2 := (blk_cell C0.out.bk 2).trans rfl
        refine start_ (n := 10) (S := fun w' => w'.cell? ⟨b, 2, none⟩ = some (.slice (some ⟨gf, 0, none⟩) l0_2.length cap2) ∧ w'.cell? ⟨gp, a2.toNat * 2, none⟩ = some (.int .i64 p.f0)) (ds := [9]) #[false, false, false, false, false, false, false, false, false, false] (by kernel_rfl) rfl rfl ⟨hcb2, hpc0⟩ (fun hHeld => ?_)
        refine pure_ (i := 0) (N := some 88) (v := ?_) (a' := ?_) #[true, false, false, false, false, false, false, false, false, false] rfl rfl (by kernel_rfl) (fun _ _ _ h => h) (Or.inl ⟨by rfl, ?_⟩) ?_ ?_
        rotate_left
        · intro w'
          go_simp
          with_reducible rfl
        rotate_left
        · simp only [Act.put, List.setIfInBounds_toArray, List.set_cons_zero, List.set_cons_succ, i64_w, i32_w]
          rfl
        refine take_ (i := 1) (N := some 89) (v := ?_) (a' := ?_) #[true, true, false, false, false, false, false, false, false, false] rfl rfl (by kernel_rfl) (fun _ _ _ h => h) (Or.inl ⟨by rfl, ?_⟩) hHeld ?_ ?_
        rotate_left
        · rintro w' ⟨s0, s1⟩
          go_simp
          with_reducible rfl
        rotate_left
        · simp only [Act.put, List.setIfInBounds_toArray, List.set_cons_zero, List.set_cons_succ, i64_w, i32_w]
          rfl
        refine pure_ (i := 2) (N := some 90) (v := ?_) (a' := ?_) #[true, true, true, false, false, false, false, false, false, false] rfl rfl (by kernel_rfl) (fun _ _ _ h => h) (Or.inl ⟨by rfl, ?_⟩) ?_ ?_
        rotate_left
        · intro w'
          go_simp
          with_reducible rfl
        rotate_left
        · simp only [Act.put, List.setIfInBounds_toArray, List.set_cons_zero, List.set_cons_succ, i64_w, i32_w]
          rfl
        refine pure_ (i := 3) (N := some 91) (v := ?_) (a' := ?_) #[true, true, true, true, false, false, false, false, false, false] rfl rfl (by kernel_rfl) (fun _ _ _ h => h) (Or.inl ⟨by rfl, ?_⟩) ?_ ?_
        rotate_left
        · intro w'
          go_simp
          with_reducible rfl
        rotate_left
        · simp only [Act.put, List.setIfInBounds_toArray, List.set_cons_zero, List.set_cons_succ, i64_w, i32_w]
          rfl
        refine pure_ (i := 4) (N := some 92) (v := ?_) (a' := ?_) #[true, true, true, true, true, false, false, false, false, false] rfl rfl (by kernel_rfl) (fun _ _ _ h => h) (Or.inl ⟨by rfl, ?_⟩) ?_ ?_
        rotate_left
        · intro w'
          go_simp
          with_reducible rfl
        rotate_left
        · simp only [Act.put, List.setIfInBounds_toArray, List.set_cons_zero, List.set_cons_succ, i64_w, i32_w]
          rfl
        refine take_ (i := 5) (N := some 93) (v := ?_) (a' := ?_) #[true, true, true, true, true, true, false, false, false, false] rfl rfl (by kernel_rfl) (fun _ _ _ h => h) (Or.inl ⟨by rfl, ?_⟩) hHeld ?_ ?_
        rotate_left
        · rintro w' ⟨s0, s1⟩
          go_simp
          with_reducible rfl
        rotate_left
        · simp only [Act.put, List.setIfInBounds_toArray, List.set_cons_zero, List.set_cons_succ, i64_w, i32_w]
          rfl
        refine pure_ (i := 6) (N := some 94) (v := ?_) (a' := ?_) #[true, true, true, true, true, true, true, false, false, false] rfl rfl (by kernel_rfl) (fun _ _ _ h => h) (Or.inl ⟨by rfl, ?_⟩) ?_ ?_
        rotate_left
        · intro w'
          go_simp
          with_reducible rfl
        rotate_left
        · simp only [Act.put, List.setIfInBounds_toArray, List.set_cons_zero, List.set_cons_succ, i64_w, i32_w]
          rfl
        refine pure_ (i := 7) (N := some 95) (v := ?_) (a' := ?_) #[true, true, true, true, true, true, true, true, false, false] rfl rfl (by kernel_rfl) (fun _ _ _ h => h) (Or.inl ⟨by rfl, ?_⟩) ?_ ?_
        rotate_left
        · intro w'
          go_simp
          with_reducible rfl
        rotate_left
        · simp only [Act.put, List.setIfInBounds_toArray, List.set_cons_zero, List.set_cons_succ, i64_w, i32_w]
          rfl
        refine pure_ (i := 8) (N := some 96) (v := ?_) (a' := ?_) #[true, true, true, true, true, true, true, true, true, false] rfl rfl (by kernel_rfl) (fun _ _ _ h => h) (Or.inl ⟨by rfl, ?_⟩) ?_ ?_
        rotate_left
        · intro w'
          go_simp
          with_reducible rfl
        rotate_left
        · simp only [Act.put, List.setIfInBounds_toArray, List.set_cons_zero, List.set_cons_succ, i64_w, i32_w]
          rfl
        refine last_ (i := 9) (N := none) #[true, true, true, true, true, true, true, true, true, true] rfl rfl (by kernel_rfl) (by decide) (fun K hK => ?_)
        refine skip_ (w1 := ?_) (by rfl) rfl ?_ ?_
        rotate_left
        · go_simp
          rfl
        refine hK.out _ _ ?_
        clear hK K
        refine done_ (by kernel_rfl) ?_
        have nC := Aside0.mk ((C0.out.drewN 1).frame p.f0 hpn0 hf ⟨(rd_T57 l0_2 p.f0).f0, a3⟩ (.int .i64 a3) 1 (Or.inr ⟨rfl, rfl, rfl⟩))
        clear C0 hpc0 HP HF hfc1 hfz hcb2
        have C0 : Aside0 (Cst w ((W12.setCell ⟨gf, p.f0.toNat * 2 + 1, none⟩ (.int .i64 a3)).drew) b #[.int .i64 a0_0, .slice (some ⟨gs, 0, none⟩) l0_1.length cap1, .slice (some ⟨gf, 0, none⟩) l0_2.length cap2, .int .i64 a0_3] r #[.int .i64 0, .slice none 0 0, .slice none 0 0, .int .i64 0] r #[.int .i64 0, .slice none 0 0, .slice none 0 0, .int .i64 0] gs l0_1.length cap1 (some ⟨gf, 0, none⟩) l0_2.length cap2 a1 gp m cpp (setPage l0_1 a1 a2 ⟨p.f0, true⟩) (l0_2.set p.f0.toNat ⟨(rd_T57 l0_2 p.f0).f0, a3⟩)) := ⟨nC.out⟩
        clear nC
        generalize (W12.setCell ⟨gf, p.f0.toNat * 2 + 1, none⟩ (.int .i64 a3)).drew = W13 at C0 ⊢
        have CM := Aside0.mk C0.out.cm
        have BK := Aside0.mk C0.out.bk
        have BR := Aside0.mk C0.out.br
        have hcb0 := (blk_cell BK.out 0).trans rfl
        have hcb1 := (blk_cell BK.out 1).trans rfl
        have hcb2 := (blk_cell BK.out 2).trans rfl
        have hcb3 := (blk_cell BK.out 3).trans rfl
        have hfb := fun j => blk_frozen BK.out j
        have hcr0 := (blk_cell BR.out 0).trans rfl
        have hcr1 := (blk_cell BR.out 1).trans rfl
        have hcr2 := (blk_cell BR.out 2).trans rfl
        have hcr3 := (blk_cell BR.out 3).trans rfl
        have hfr := fun j => blk_frozen BR.out j
        go_wp2
        refine bodyPost_ret (results_ct rfl _ _ r 27 #[.int .i64 a0_0, .slice (some ⟨gs, 0, none⟩) l0_1.length cap1, .slice (some ⟨gf, 0, none⟩) l0_2.length cap2, .int .i64 a0_3] (0, 0) _ rfl (set4_blk BR.out _ _ _ _) Try.underlying27 rfl (by kernel_rfl)) rfl ?_
        have hE := CM.out.set4 BR.out (by have := GB.out; have := GR.out; omega) (.int .i64 a0_0) (.slice (some ⟨gs, 0, none⟩) l0_1.length cap1) (.slice (some ⟨gf, 0, none⟩) l0_2.length cap2) (.int .i64 a0_3)
        exact ⟨_, _, rfl, hE.sp, hE.fr, hE.hb⟩
  · rw [if_neg c] at h
    simp only [Option.some.injEq, Prod.mk.injEq] at h
    obtain ⟨rfl, rfl, rfl, rfl, rfl⟩ := h
    have c4b0 : (t == 0) = false := beq_eq_false_iff_ne.mpr c
    have c4b1 : (t != 0) = true := bne_iff_ne.mpr c
    clear c
    go_enter Try.func12, Try.ntmps12
    go_upto_region 1 with (first | ((with_reducible refine gate_dst (N := 4) rfl ?_); refine box_event rfl (N := 4) rfl (cs := #[.int .i64 a0_0, .slice A0_1 l0_1.length c0_1, .slice A0_2 l0_2.length c0_2, .int .i64 a0_3]) (t := 27) (by first | (go_simp; done) | (go_simp; rfl)) ?_; intro b hb0 w1 hbox hB1; have GB := Aside0.mk (show w.heap.size ≤ b by rw [hb0]; exact Nat.le_refl _); clear hb0) | ((with_reducible refine gate_dst (N := 8) rfl ?_); refine box_event rfl (N := 8) rfl (cs := #[.int .i64 0, .slice none 0 0, .slice none 0 0, .int .i64 0]) (t := 27) (by first | (go_simp; done) | (go_simp; rfl)) ?_; intro r hr0 w2 hres hB2; have GR := Aside0.mk (show b < r by rw [hr0]; exact blk_lt hbox); clear hr0))
    have BK := Aside0.mk (blk_below hbox hB2)
    have BR := Aside0.mk hres
    have HB := Aside0.mk (below_step hB1 hB2)
    clear hbox hB1 hB2 hres
    have hcb0 := (blk_cell BK.out 0).trans rfl
    have hcb1 := (blk_cell BK.out 1).trans rfl
    have hcb2 := (blk_cell BK.out 2).trans rfl
    have hcb3 := (blk_cell BK.out 3).trans rfl
    go_upto_region 2 with ((with_reducible refine gate_callee (f := 31) rfl ?_); refine goesL_ (some 16) rfl rfl Try.func31 (by kernel_rfl) rfl #[.agg #[.int .i64 a0_0, .slice A0_1 l0_1.length c0_1, .slice A0_2 l0_2.length c0_2, .int .i64 a0_3], .int .i64 a1, .int .i64 a2] rfl (by (try simp only [List.map_toArray, List.map_cons, List.map_nil]); first | done | rfl) ?_; (with_reducible refine (cow_at.calls k a0_0 _ _ l0_1 _ _ l0_2 a0_3 a1 a2 t _ ?side1 ?side2 ?side3 ?side4 HT.out).mono ?_); (case side1 => exact Kd.C_below HR0_1.out HB.out); (case side2 => exact HC0_1.out); (case side3 => exact Kd.C_below HR0_2.out HB.out); (case side4 => exact HC0_2.out); rintro e w3 ⟨rfl, hb3⟩; refine ⟨_, rfl, ?_⟩)
    have n1 := Aside0.mk (blk_below BK.out hb3)
    have n2 := Aside0.mk (blk_below BR.out hb3)
    have n3 := Aside0.mk (below_step HB.out hb3)
    clear BK BR HB hb3 hcb0 hcb1 hcb2 hcb3
    have BK := n1
    have BR := n2
    have HB := n3
    clear n1 n2 n3
    have hcr0 := (blk_cell BR.out 0).trans rfl
    have hcr1 := (blk_cell BR.out 1).trans rfl
    have hcr2 := (blk_cell BR.out 2).trans rfl
    have hcr3 := (blk_cell BR.out 3).trans rfl
    have hfr := fun j => blk_frozen BR.out j
    go_wp2
    refine bodyPost_ret (results_ct rfl _ _ r 27 #[.int .i64 0, .slice none 0 0, .slice none 0 0, .int .i64 0] (0, 0) _ rfl (set4_blk BR.out _ _ _ _) Try.underlying27 rfl (by kernel_rfl)) rfl ?_
    exact ⟨_, _, rfl, Kd.S_nil _ _ _ _ _, Kd.R_nil _ _ _ _ _, set4_below HB.out (by have := GB.out; have := GR.out; omega) _ _ _ _⟩
end Go.Proofs.Yteldbkdfphiogaa.Pr
