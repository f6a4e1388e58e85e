-- Written by a program of this session (a changed copy of the kit's printer). Not trusted: Lean checks it.
import Derived.Test.YteldbkdfphiogaaM0
import Derived.Test.YteldbkdfphiogaaFcowWrite
import Derived.Test.YteldbkdfphiogaaFcowFork
import Derived.Test.YteldbkdfphiogaaFcowExit
import Derived.Test.YteldbkdfphiogaaFcowUnmap
import Derived.Test.YteldbkdfphiogaaFcowUsed
import Derived.Test.YteldbkdfphiogaaFcowRead
import Derived.Test.YteldbkdfphiogaaFcowNew
import Derived.Test.YteldbkdfphiogaaFcowCheck
namespace Go.Proofs.Yteldbkdfphiogaa.Pr
open Go.RowKit Go.Proofs.YteldbkdfphiogaaW.PrintWords Go.Proofs.YteldbkdfphiogaaW.PrintLast Go.Proofs.YteldbkdfphiogaaW.PrintMore
attribute [local go_sem] max2_int min2_int max_two min_two max_three min_three max_four min_four
set_option linter.unusedVariables false
set_option linter.unusedSimpArgs false
/-! ### estoverslaw25_awake: function 10 -/
def M0 : Int × List S62 × List S57 × Int := (2, [⟨true, [⟨-1, false⟩, ⟨-1, false⟩]⟩], [⟨0, 0⟩, ⟨0, 0⟩, ⟨0, 0⟩], 0)
def M1 : Int × List S62 × List S57 × Int := (2, [⟨true, [⟨-1, false⟩, ⟨0, true⟩]⟩], [⟨1, 7⟩, ⟨0, 0⟩, ⟨0, 0⟩], 0)
def M2 : Int × List S62 × List S57 × Int := (2, [⟨true, [⟨-1, false⟩, ⟨0, false⟩]⟩, ⟨true, [⟨-1, false⟩, ⟨0, false⟩]⟩], [⟨2, 7⟩, ⟨0, 0⟩, ⟨0, 0⟩], 0)
def M3 : Int × List S62 × List S57 × Int := (2, [⟨true, [⟨-1, false⟩, ⟨0, false⟩]⟩, ⟨true, [⟨-1, false⟩, ⟨1, true⟩]⟩], [⟨1, 7⟩, ⟨1, 8⟩, ⟨0, 0⟩], 1)
def M4 : Int × List S62 × List S57 × Int := (2, [⟨true, [⟨-1, false⟩, ⟨0, true⟩]⟩, ⟨true, [⟨-1, false⟩, ⟨1, true⟩]⟩], [⟨1, 9⟩, ⟨1, 8⟩, ⟨0, 0⟩], 1)
def M5 : Int × List S62 × List S57 × Int := (2, [⟨true, [⟨-1, false⟩, ⟨0, true⟩]⟩, ⟨true, [⟨2, true⟩, ⟨1, true⟩]⟩], [⟨1, 9⟩, ⟨1, 8⟩, ⟨1, 5⟩], 1)
def M7 : Int × List S62 × List S57 × Int := (2, [⟨true, [⟨-1, false⟩, ⟨0, true⟩]⟩, ⟨false, []⟩], [⟨1, 9⟩, ⟨0, 0⟩, ⟨0, 0⟩], 1)
def M8 : Int × List S62 × List S57 × Int := (2, [⟨true, [⟨1, true⟩, ⟨0, true⟩]⟩, ⟨false, []⟩], [⟨1, 9⟩, ⟨1, 6⟩, ⟨0, 0⟩], 1)
theorem aw0 : cow_New.f 40 3 2 = some (2, M0.2.1, M0.2.2.1, 0, 0) := by kernel_rfl
theorem aw1 : cow_Write.f 40 2 M0.2.1 M0.2.2.1 0 0 1 7 = some (2, M1.2.1, M1.2.2.1, 0, 0) := by kernel_rfl
theorem aw2 : cow_Fork.f 40 2 M1.2.1 M1.2.2.1 0 0 = some (2, M2.2.1, M2.2.2.1, 0, 1, 0) := by kernel_rfl
theorem aw3 : cow_Write.f 40 2 M2.2.1 M2.2.2.1 0 1 1 8 = some (2, M3.2.1, M3.2.2.1, 1, 0) := by kernel_rfl
theorem aw4 : cow_Read.f 40 2 M3.2.1 M3.2.2.1 1 0 1 = some (7, 0) := by kernel_rfl
theorem aw5 : cow_Read.f 40 2 M3.2.1 M3.2.2.1 1 1 1 = some (8, 0) := by kernel_rfl
theorem aw6 : cow_Write.f 40 2 M3.2.1 M3.2.2.1 1 0 1 9 = some (2, M4.2.1, M4.2.2.1, 1, 0) := by kernel_rfl
theorem aw7 : cow_Write.f 40 2 M4.2.1 M4.2.2.1 1 1 0 5 = some (2, M5.2.1, M5.2.2.1, 1, 0) := by kernel_rfl
theorem aw8 : cow_Write.f 40 2 M5.2.1 M5.2.2.1 1 0 0 6 = some (0, [], [], 0, 16) := by kernel_rfl
theorem aw9 : cow_Exit.f 40 2 M5.2.1 M5.2.2.1 1 1 = some (2, M7.2.1, M7.2.2.1, 1, 0) := by kernel_rfl
theorem aw10 : cow_Write.f 40 2 M7.2.1 M7.2.2.1 1 0 0 6 = some (2, M8.2.1, M8.2.2.1, 1, 0) := by kernel_rfl
theorem aw11 : cow_Used.f 40 2 M2.2.1 M2.2.2.1 0 = some 1 := by kernel_rfl
theorem aw12 : cow_Used.f 40 2 M5.2.1 M5.2.2.1 1 = some 3 := by kernel_rfl
theorem aw13 : cow_Check.f 40 2 M8.2.1 M8.2.2.1 1 = some 0 := by kernel_rfl
/-! ### a machine in a box, and the machines of the fixed example -/
structure MB (w0 W : World) (b : Nat) (sz : Int) (ss : List S62) (fs : List S57) (cp : Int) : Prop where
  mk :: (out : ∃ (A1 : Option Addr) (c1 : Nat) (A2 : Option Addr) (c2 : Nat), W.heap[b]? = some (.cells #[.int .i64 sz, .slice A1 ss.length c1, .slice A2 fs.length c2, .int .i64 cp] 27 (0, 0)) ∧ CowM w0 W (.slice A1 ss.length c1) (.slice A2 fs.length c2) ss fs ∧ w0.heap.size ≤ b)
theorem MB.below {w0 W W1 : World} {b : Nat} {sz : Int} {ss : List S62} {fs : List S57} {cp : Int} (h : MB w0 W b sz ss fs cp) (hb : Below W.heap.size W W1) : MB w0 W1 b sz ss fs cp := by
  obtain ⟨A1, c1, A2, c2, h1, h2, h3⟩ := h.out
  exact ⟨A1, c1, A2, c2, blk_below h1 hb, h2.below hb, h3⟩
/-- A machine that has come out of a call, laid into a box of its own. -/
theorem MB.new {w0 W W1 W2 : World} {d : Nat} {A1 : Option Addr} {c1 : Nat} {A2 : Option Addr} {c2 : Nat} {sz : Int} {ss : List S62} {fs : List S57} {cp : Int} (hB : Below w0.heap.size w0 W) (hb : Below W.heap.size W W1) (hS : Kd.S k62 62 W1 W.heap.size (fun _ => True) (.slice A1 ss.length c1) ss) (hR : Kd.R k57 57 W1 W.heap.size (fun _ => True) (.slice A2 fs.length c2) fs) (hd : W1.heap.size ≤ d) {cs : Array Value} (hbox : W2.heap[d]? = some (.cells cs 27 (0, 0))) (hb2 : Below W1.heap.size W1 W2) (hcs : cs = #[.int .i64 0, .slice none 0 0, .slice none 0 0, .int .i64 0]) :
    MB w0 (set4 W2 d (.int .i64 sz) (.slice A1 ss.length c1) (.slice A2 fs.length c2) (.int .i64 cp)) d sz ss fs cp ∧ Below W.heap.size W (set4 W2 d (.int .i64 sz) (.slice A1 ss.length c1) (.slice A2 fs.length c2) (.int .i64 cp)) ∧ Below w0.heap.size w0 (set4 W2 d (.int .i64 sz) (.slice A1 ss.length c1) (.slice A2 fs.length c2) (.int .i64 cp)) := by
  subst hcs
  have hdW : W.heap.size ≤ d := Nat.le_trans hb.size hd
  have hd0 : w0.heap.size ≤ d := Nat.le_trans hB.size hdW
  have hB2 := below_step hB (below_step hb hb2)
  exact ⟨⟨A1, c1, A2, c2, set4_blk hbox _ _ _ _, ⟨set4_S (Kd.S_lower (Kd.S_below hS hb2) hB.size) hbox (by decide) _ _ _ _, set4_R (Kd.R_lower (Kd.R_below hR hb2) hB.size) hbox (by decide) _ _ _ _, set4_below hB2 hd0 _ _ _ _⟩, hd0⟩, set4_below (below_step hb hb2) hdW _ _ _ _, set4_below hB2 hd0 _ _ _ _⟩

def estoverslaw25_awake.f (k : Nat) : Option Bool := some true
theorem estoverslaw25_awake.mono : ∀ k, LeO (estoverslaw25_awake.f k) (estoverslaw25_awake.f (k + 1)) := fun _ => LeO.refl _
set_option maxRecDepth 100000 in
set_option maxHeartbeats 8000000 in
theorem estoverslaw25_awake.walk (w : World) : Calls Try.prog 10 #[] w fun e w' => e = .returned (.bool true) ∧ Below w.heap.size w w' := by
  have hu27 := Try.underlying27
  have hu62 := Try.underlying62
  have hu64 := Try.underlying64
  have HB := Aside0.mk (Below.refl w.heap.size w)
  go_enter Try.func10, Try.ntmps10
  go_upto_region 2 with (first | ((with_reducible refine gate_callee (f := 11) rfl ?_); refine goesL_ (some 26) rfl rfl Try.func11 (by kernel_rfl) rfl #[.int .i64 3, .int .i64 2] rfl (by (try simp only [List.map_toArray, List.map_cons, List.map_nil]); first | done | rfl) ?_; (with_reducible refine (cow_New.calls 40 3 2 2 M0.2.1 M0.2.2.1 0 0 _ aw0).mono ?_); rintro e w3 ⟨v1, v2, rfl, ho1, ho2, hb3⟩; refine ⟨_, rfl, ?_⟩; obtain ⟨A1, c1, rfl⟩ := Kd.S_slice ho1; obtain ⟨A2, c2, rfl⟩ := Kd.R_slice ho2; skip) | ((with_reducible refine gate_dst (N := 1) rfl ?_); refine box_event rfl (N := 1) rfl (cs := #[.int .i64 0, .slice none 0 0, .slice none 0 0, .int .i64 0]) (t := 27) (by first | (go_simp; done) | (go_simp; rfl)) ?_; intro d hd0 w5 hbd hb5; have GD := Aside0.mk (show w3.heap.size ≤ d by rw [hd0]; exact Nat.le_refl _); clear hd0; have hq0 := (blk_cell hbd 0).trans rfl; have hq1 := (blk_cell hbd 1).trans rfl; have hq2 := (blk_cell hbd 2).trans rfl; have hq3 := (blk_cell hbd 3).trans rfl; have hqf := fun j => blk_frozen hbd j))
  have hN := MB.new (sz := 2) (cp := 0) HB.out hb3 ho1 ho2 GD.out hbd hb5 rfl
  have nX := Aside0.mk hN.1
  have nB := Aside0.mk hN.2.2
  clear HB hN hb3 ho1 ho2 GD hbd hb5 hq0 hq1 hq2 hq3 hqf
  have X0 := nX
  have HB := nB
  clear nX nB
  unfold set4 at HB X0
  generalize (((w5.setCell ⟨d, 0, none⟩ (.int .i64 2)).setCell ⟨d, 1, none⟩ (.slice A1 M0.2.1.length c1)).setCell ⟨d, 2, none⟩ (.slice A2 M0.2.2.1.length c2)).setCell ⟨d, 3, none⟩ (.int .i64 0) = W1 at HB X0 ⊢
  obtain ⟨B1, k1, B2, k2, hbk, hbm, _⟩ := X0.out.out
  have hcb0 := (blk_cell hbk 0).trans rfl
  have hcb1 := (blk_cell hbk 1).trans rfl
  have hcb2 := (blk_cell hbk 2).trans rfl
  have hcb3 := (blk_cell hbk 3).trans rfl
  go_upto_region 3 with (first | ((with_reducible refine gate_callee (f := 12) rfl ?_); refine goesL_ (some 31) rfl rfl Try.func12 (by kernel_rfl) rfl #[.agg #[.int .i64 2, .slice B1 M0.2.1.length k1, .slice B2 M0.2.2.1.length k2, .int .i64 0], .int .i64 0, .int .i64 1, .int .i64 7] rfl (by (try simp only [List.map_toArray, List.map_cons, List.map_nil]); first | done | rfl) ?_; (with_reducible refine (cow_Write.calls 40 2 _ _ M0.2.1 _ _ M0.2.2.1 0 0 1 7 2 M1.2.1 M1.2.2.1 0 0 _ (Kd.S_reads' hbm.sp).2.2 (Kd.S_reads' hbm.sp).2.1 (Kd.R_reads' hbm.fr).2.2 (Kd.R_reads' hbm.fr).2.1 aw1).mono ?_); rintro e w3 ⟨v1, v2, rfl, ho1, ho2, hb3⟩; refine ⟨_, rfl, ?_⟩; obtain ⟨A1, c1, rfl⟩ := Kd.S_slice ho1; obtain ⟨A2, c2, rfl⟩ := Kd.R_slice ho2; clear hbk hbm hcb0 hcb1 hcb2 hcb3; skip) | ((with_reducible refine gate_dst (N := 3) rfl ?_); refine box_event rfl (N := 3) rfl (cs := #[.int .i64 0, .slice none 0 0, .slice none 0 0, .int .i64 0]) (t := 27) (by first | (go_simp; done) | (go_simp; rfl)) ?_; intro d hd0 w5 hbd hb5; have GD := Aside0.mk (show w3.heap.size ≤ d by rw [hd0]; exact Nat.le_refl _); clear hd0; have hq0 := (blk_cell hbd 0).trans rfl; have hq1 := (blk_cell hbd 1).trans rfl; have hq2 := (blk_cell hbd 2).trans rfl; have hq3 := (blk_cell hbd 3).trans rfl; have hqf := fun j => blk_frozen hbd j))
  have hN := MB.new (sz := 2) (cp := 0) HB.out hb3 ho1 ho2 GD.out hbd hb5 rfl
  have n0 := Aside0.mk (X0.out.below hN.2.1)
  have nX := Aside0.mk hN.1
  have nB := Aside0.mk hN.2.2
  clear HB hN hb3 ho1 ho2 GD hbd hb5 hq0 hq1 hq2 hq3 hqf X0
  have X0 := n0
  have X1 := nX
  have HB := nB
  clear nX nB n0
  unfold set4 at HB X0 X1
  generalize (((w5.setCell ⟨d, 0, none⟩ (.int .i64 2)).setCell ⟨d, 1, none⟩ (.slice A1 M1.2.1.length c1)).setCell ⟨d, 2, none⟩ (.slice A2 M1.2.2.1.length c2)).setCell ⟨d, 3, none⟩ (.int .i64 0) = W2 at HB X0 X1 ⊢
  clear X0
  obtain ⟨B1, k1, B2, k2, hbk, hbm, _⟩ := X1.out.out
  have hcb0 := (blk_cell hbk 0).trans rfl
  have hcb1 := (blk_cell hbk 1).trans rfl
  have hcb2 := (blk_cell hbk 2).trans rfl
  have hcb3 := (blk_cell hbk 3).trans rfl
  go_upto_region 4 with (first | ((with_reducible refine gate_callee (f := 13) rfl ?_); refine goesL_ (some 36) rfl rfl Try.func13 (by kernel_rfl) rfl #[.agg #[.int .i64 2, .slice B1 M1.2.1.length k1, .slice B2 M1.2.2.1.length k2, .int .i64 0], .int .i64 0] rfl (by (try simp only [List.map_toArray, List.map_cons, List.map_nil]); first | done | rfl) ?_; (with_reducible refine (cow_Fork.calls 40 2 _ _ M1.2.1 _ _ M1.2.2.1 0 0 2 M2.2.1 M2.2.2.1 0 1 0 _ (Kd.S_reads' hbm.sp).2.2 (Kd.S_reads' hbm.sp).2.1 (Kd.R_reads' hbm.fr).2.2 (Kd.R_reads' hbm.fr).2.1 aw2).mono ?_); rintro e w3 ⟨v1, v2, rfl, ho1, ho2, hb3⟩; refine ⟨_, rfl, ?_⟩; obtain ⟨A1, c1, rfl⟩ := Kd.S_slice ho1; obtain ⟨A2, c2, rfl⟩ := Kd.R_slice ho2; clear hbk hbm hcb0 hcb1 hcb2 hcb3; skip) | ((with_reducible refine gate_dst (N := 5) rfl ?_); refine box_event rfl (N := 5) rfl (cs := #[.int .i64 0, .slice none 0 0, .slice none 0 0, .int .i64 0]) (t := 27) (by first | (go_simp; done) | (go_simp; rfl)) ?_; intro d hd0 w5 hbd hb5; have GD := Aside0.mk (show w3.heap.size ≤ d by rw [hd0]; exact Nat.le_refl _); clear hd0; have hq0 := (blk_cell hbd 0).trans rfl; have hq1 := (blk_cell hbd 1).trans rfl; have hq2 := (blk_cell hbd 2).trans rfl; have hq3 := (blk_cell hbd 3).trans rfl; have hqf := fun j => blk_frozen hbd j))
  have hN := MB.new (sz := 2) (cp := 0) HB.out hb3 ho1 ho2 GD.out hbd hb5 rfl
  have n1 := Aside0.mk (X1.out.below hN.2.1)
  have nX := Aside0.mk hN.1
  have nB := Aside0.mk hN.2.2
  clear HB hN hb3 ho1 ho2 GD hbd hb5 hq0 hq1 hq2 hq3 hqf X1
  have X1 := n1
  have X2 := nX
  have HB := nB
  clear nX nB n1
  unfold set4 at HB X1 X2
  generalize (((w5.setCell ⟨d, 0, none⟩ (.int .i64 2)).setCell ⟨d, 1, none⟩ (.slice A1 M2.2.1.length c1)).setCell ⟨d, 2, none⟩ (.slice A2 M2.2.2.1.length c2)).setCell ⟨d, 3, none⟩ (.int .i64 0) = W3 at HB X1 X2 ⊢
  clear X1
  obtain ⟨B1, k1, B2, k2, hbk, hbm, _⟩ := X2.out.out
  have hcb0 := (blk_cell hbk 0).trans rfl
  have hcb1 := (blk_cell hbk 1).trans rfl
  have hcb2 := (blk_cell hbk 2).trans rfl
  have hcb3 := (blk_cell hbk 3).trans rfl
  go_upto_region 5 with (first | ((with_reducible refine gate_callee (f := 12) rfl ?_); refine goesL_ (some 42) rfl rfl Try.func12 (by kernel_rfl) rfl #[.agg #[.int .i64 2, .slice B1 M2.2.1.length k1, .slice B2 M2.2.2.1.length k2, .int .i64 0], .int .i64 1, .int .i64 1, .int .i64 8] rfl (by (try simp only [List.map_toArray, List.map_cons, List.map_nil]); first | done | rfl) ?_; (with_reducible refine (cow_Write.calls 40 2 _ _ M2.2.1 _ _ M2.2.2.1 0 1 1 8 2 M3.2.1 M3.2.2.1 1 0 _ (Kd.S_reads' hbm.sp).2.2 (Kd.S_reads' hbm.sp).2.1 (Kd.R_reads' hbm.fr).2.2 (Kd.R_reads' hbm.fr).2.1 aw3).mono ?_); rintro e w3 ⟨v1, v2, rfl, ho1, ho2, hb3⟩; refine ⟨_, rfl, ?_⟩; obtain ⟨A1, c1, rfl⟩ := Kd.S_slice ho1; obtain ⟨A2, c2, rfl⟩ := Kd.R_slice ho2; clear hbk hbm hcb0 hcb1 hcb2 hcb3; skip) | ((with_reducible refine gate_dst (N := 8) rfl ?_); refine box_event rfl (N := 8) rfl (cs := #[.int .i64 0, .slice none 0 0, .slice none 0 0, .int .i64 0]) (t := 27) (by first | (go_simp; done) | (go_simp; rfl)) ?_; intro d hd0 w5 hbd hb5; have GD := Aside0.mk (show w3.heap.size ≤ d by rw [hd0]; exact Nat.le_refl _); clear hd0; have hq0 := (blk_cell hbd 0).trans rfl; have hq1 := (blk_cell hbd 1).trans rfl; have hq2 := (blk_cell hbd 2).trans rfl; have hq3 := (blk_cell hbd 3).trans rfl; have hqf := fun j => blk_frozen hbd j))
  have hN := MB.new (sz := 2) (cp := 1) HB.out hb3 ho1 ho2 GD.out hbd hb5 rfl
  have n2 := Aside0.mk (X2.out.below hN.2.1)
  have nX := Aside0.mk hN.1
  have nB := Aside0.mk hN.2.2
  clear HB hN hb3 ho1 ho2 GD hbd hb5 hq0 hq1 hq2 hq3 hqf X2
  have X2 := n2
  have X3 := nX
  have HB := nB
  clear nX nB n2
  unfold set4 at HB X2 X3
  generalize (((w5.setCell ⟨d, 0, none⟩ (.int .i64 2)).setCell ⟨d, 1, none⟩ (.slice A1 M3.2.1.length c1)).setCell ⟨d, 2, none⟩ (.slice A2 M3.2.2.1.length c2)).setCell ⟨d, 3, none⟩ (.int .i64 1) = W4 at HB X2 X3 ⊢
  obtain ⟨B1, k1, B2, k2, hbk, hbm, _⟩ := X3.out.out
  have hcb0 := (blk_cell hbk 0).trans rfl
  have hcb1 := (blk_cell hbk 1).trans rfl
  have hcb2 := (blk_cell hbk 2).trans rfl
  have hcb3 := (blk_cell hbk 3).trans rfl
  go_upto_region 6 with ((with_reducible refine gate_callee (f := 26) rfl ?_); refine goesL_ (some 47) rfl rfl Try.func26 (by kernel_rfl) rfl #[.agg #[.int .i64 2, .slice B1 M3.2.1.length k1, .slice B2 M3.2.2.1.length k2, .int .i64 1], .int .i64 0, .int .i64 1] rfl (by (try simp only [List.map_toArray, List.map_cons, List.map_nil]); first | done | rfl) ?_; (with_reducible refine (cow_Read.calls 40 2 _ _ M3.2.1 _ _ M3.2.2.1 1 0 1 7 0 _ (Kd.S_reads' hbm.sp).2.2 (Kd.S_reads' hbm.sp).2.1 (Kd.R_reads' hbm.fr).2.2 (Kd.R_reads' hbm.fr).2.1 aw4).mono ?_); rintro e w3 ⟨rfl, hb3⟩; refine ⟨_, rfl, ?_⟩; clear hbk hbm hcb0 hcb1 hcb2 hcb3)
  have n2 := Aside0.mk (X2.out.below hb3)
  have n3 := Aside0.mk (X3.out.below hb3)
  have nB := Aside0.mk (below_step HB.out hb3)
  clear HB hb3 X2 X3
  have X2 := n2
  have X3 := n3
  have HB := nB
  clear nB n2 n3
  obtain ⟨B1, k1, B2, k2, hbk, hbm, _⟩ := X3.out.out
  have hcb0 := (blk_cell hbk 0).trans rfl
  have hcb1 := (blk_cell hbk 1).trans rfl
  have hcb2 := (blk_cell hbk 2).trans rfl
  have hcb3 := (blk_cell hbk 3).trans rfl
  go_upto_region 7 with ((with_reducible refine gate_callee (f := 26) rfl ?_); refine goesL_ (some 52) rfl rfl Try.func26 (by kernel_rfl) rfl #[.agg #[.int .i64 2, .slice B1 M3.2.1.length k1, .slice B2 M3.2.2.1.length k2, .int .i64 1], .int .i64 1, .int .i64 1] rfl (by (try simp only [List.map_toArray, List.map_cons, List.map_nil]); first | done | rfl) ?_; (with_reducible refine (cow_Read.calls 40 2 _ _ M3.2.1 _ _ M3.2.2.1 1 1 1 8 0 _ (Kd.S_reads' hbm.sp).2.2 (Kd.S_reads' hbm.sp).2.1 (Kd.R_reads' hbm.fr).2.2 (Kd.R_reads' hbm.fr).2.1 aw5).mono ?_); rintro e w3 ⟨rfl, hb3⟩; refine ⟨_, rfl, ?_⟩; clear hbk hbm hcb0 hcb1 hcb2 hcb3)
  have n2 := Aside0.mk (X2.out.below hb3)
  have n3 := Aside0.mk (X3.out.below hb3)
  have nB := Aside0.mk (below_step HB.out hb3)
  clear HB hb3 X2 X3
  have X2 := n2
  have X3 := n3
  have HB := nB
  clear nB n2 n3
  obtain ⟨B1, k1, B2, k2, hbk, hbm, _⟩ := X3.out.out
  have hcb0 := (blk_cell hbk 0).trans rfl
  have hcb1 := (blk_cell hbk 1).trans rfl
  have hcb2 := (blk_cell hbk 2).trans rfl
  have hcb3 := (blk_cell hbk 3).trans rfl
  go_upto_region 8 with (first | ((with_reducible refine gate_callee (f := 12) rfl ?_); refine goesL_ (some 57) rfl rfl Try.func12 (by kernel_rfl) rfl #[.agg #[.int .i64 2, .slice B1 M3.2.1.length k1, .slice B2 M3.2.2.1.length k2, .int .i64 1], .int .i64 0, .int .i64 1, .int .i64 9] rfl (by (try simp only [List.map_toArray, List.map_cons, List.map_nil]); first | done | rfl) ?_; (with_reducible refine (cow_Write.calls 40 2 _ _ M3.2.1 _ _ M3.2.2.1 1 0 1 9 2 M4.2.1 M4.2.2.1 1 0 _ (Kd.S_reads' hbm.sp).2.2 (Kd.S_reads' hbm.sp).2.1 (Kd.R_reads' hbm.fr).2.2 (Kd.R_reads' hbm.fr).2.1 aw6).mono ?_); rintro e w3 ⟨v1, v2, rfl, ho1, ho2, hb3⟩; refine ⟨_, rfl, ?_⟩; obtain ⟨A1, c1, rfl⟩ := Kd.S_slice ho1; obtain ⟨A2, c2, rfl⟩ := Kd.R_slice ho2; clear hbk hbm hcb0 hcb1 hcb2 hcb3; skip) | ((with_reducible refine gate_dst (N := 14) rfl ?_); refine box_event rfl (N := 14) rfl (cs := #[.int .i64 0, .slice none 0 0, .slice none 0 0, .int .i64 0]) (t := 27) (by first | (go_simp; done) | (go_simp; rfl)) ?_; intro d hd0 w5 hbd hb5; have GD := Aside0.mk (show w3.heap.size ≤ d by rw [hd0]; exact Nat.le_refl _); clear hd0; have hq0 := (blk_cell hbd 0).trans rfl; have hq1 := (blk_cell hbd 1).trans rfl; have hq2 := (blk_cell hbd 2).trans rfl; have hq3 := (blk_cell hbd 3).trans rfl; have hqf := fun j => blk_frozen hbd j))
  have hN := MB.new (sz := 2) (cp := 1) HB.out hb3 ho1 ho2 GD.out hbd hb5 rfl
  have n2 := Aside0.mk (X2.out.below hN.2.1)
  have n3 := Aside0.mk (X3.out.below hN.2.1)
  have nX := Aside0.mk hN.1
  have nB := Aside0.mk hN.2.2
  clear HB hN hb3 ho1 ho2 GD hbd hb5 hq0 hq1 hq2 hq3 hqf X2 X3
  have X2 := n2
  have X3 := n3
  have X4 := nX
  have HB := nB
  clear nX nB n2 n3
  unfold set4 at HB X2 X3 X4
  generalize (((w5.setCell ⟨d, 0, none⟩ (.int .i64 2)).setCell ⟨d, 1, none⟩ (.slice A1 M4.2.1.length c1)).setCell ⟨d, 2, none⟩ (.slice A2 M4.2.2.1.length c2)).setCell ⟨d, 3, none⟩ (.int .i64 1) = W7 at HB X2 X3 X4 ⊢
  obtain ⟨B1, k1, B2, k2, hbk, hbm, _⟩ := X4.out.out
  have hcb0 := (blk_cell hbk 0).trans rfl
  have hcb1 := (blk_cell hbk 1).trans rfl
  have hcb2 := (blk_cell hbk 2).trans rfl
  have hcb3 := (blk_cell hbk 3).trans rfl
  go_upto_region 9 with (first | ((with_reducible refine gate_callee (f := 12) rfl ?_); refine goesL_ (some 62) rfl rfl Try.func12 (by kernel_rfl) rfl #[.agg #[.int .i64 2, .slice B1 M4.2.1.length k1, .slice B2 M4.2.2.1.length k2, .int .i64 1], .int .i64 1, .int .i64 0, .int .i64 5] rfl (by (try simp only [List.map_toArray, List.map_cons, List.map_nil]); first | done | rfl) ?_; (with_reducible refine (cow_Write.calls 40 2 _ _ M4.2.1 _ _ M4.2.2.1 1 1 0 5 2 M5.2.1 M5.2.2.1 1 0 _ (Kd.S_reads' hbm.sp).2.2 (Kd.S_reads' hbm.sp).2.1 (Kd.R_reads' hbm.fr).2.2 (Kd.R_reads' hbm.fr).2.1 aw7).mono ?_); rintro e w3 ⟨v1, v2, rfl, ho1, ho2, hb3⟩; refine ⟨_, rfl, ?_⟩; obtain ⟨A1, c1, rfl⟩ := Kd.S_slice ho1; obtain ⟨A2, c2, rfl⟩ := Kd.R_slice ho2; clear hbk hbm hcb0 hcb1 hcb2 hcb3; skip) | ((with_reducible refine gate_dst (N := 16) rfl ?_); refine box_event rfl (N := 16) rfl (cs := #[.int .i64 0, .slice none 0 0, .slice none 0 0, .int .i64 0]) (t := 27) (by first | (go_simp; done) | (go_simp; rfl)) ?_; intro d hd0 w5 hbd hb5; have GD := Aside0.mk (show w3.heap.size ≤ d by rw [hd0]; exact Nat.le_refl _); clear hd0; have hq0 := (blk_cell hbd 0).trans rfl; have hq1 := (blk_cell hbd 1).trans rfl; have hq2 := (blk_cell hbd 2).trans rfl; have hq3 := (blk_cell hbd 3).trans rfl; have hqf := fun j => blk_frozen hbd j))
  have hN := MB.new (sz := 2) (cp := 1) HB.out hb3 ho1 ho2 GD.out hbd hb5 rfl
  have n2 := Aside0.mk (X2.out.below hN.2.1)
  have n3 := Aside0.mk (X3.out.below hN.2.1)
  have n4 := Aside0.mk (X4.out.below hN.2.1)
  have nX := Aside0.mk hN.1
  have nB := Aside0.mk hN.2.2
  clear HB hN hb3 ho1 ho2 GD hbd hb5 hq0 hq1 hq2 hq3 hqf X2 X3 X4
  have X2 := n2
  have X3 := n3
  have X4 := n4
  have X5 := nX
  have HB := nB
  clear nX nB n2 n3 n4
  unfold set4 at HB X2 X3 X4 X5
  generalize (((w5.setCell ⟨d, 0, none⟩ (.int .i64 2)).setCell ⟨d, 1, none⟩ (.slice A1 M5.2.1.length c1)).setCell ⟨d, 2, none⟩ (.slice A2 M5.2.2.1.length c2)).setCell ⟨d, 3, none⟩ (.int .i64 1) = W8 at HB X2 X3 X4 X5 ⊢
  obtain ⟨B1, k1, B2, k2, hbk, hbm, _⟩ := X5.out.out
  have hcb0 := (blk_cell hbk 0).trans rfl
  have hcb1 := (blk_cell hbk 1).trans rfl
  have hcb2 := (blk_cell hbk 2).trans rfl
  have hcb3 := (blk_cell hbk 3).trans rfl
  go_upto_region 10 with (first | ((with_reducible refine gate_callee (f := 12) rfl ?_); refine goesL_ (some 67) rfl rfl Try.func12 (by kernel_rfl) rfl #[.agg #[.int .i64 2, .slice B1 M5.2.1.length k1, .slice B2 M5.2.2.1.length k2, .int .i64 1], .int .i64 0, .int .i64 0, .int .i64 6] rfl (by (try simp only [List.map_toArray, List.map_cons, List.map_nil]); first | done | rfl) ?_; (with_reducible refine (cow_Write.calls 40 2 _ _ M5.2.1 _ _ M5.2.2.1 1 0 0 6 0 [] [] 0 16 _ (Kd.S_reads' hbm.sp).2.2 (Kd.S_reads' hbm.sp).2.1 (Kd.R_reads' hbm.fr).2.2 (Kd.R_reads' hbm.fr).2.1 aw8).mono ?_); rintro e w3 ⟨v1, v2, rfl, ho1, ho2, hb3⟩; refine ⟨_, rfl, ?_⟩; obtain ⟨A1, c1, rfl⟩ := Kd.S_slice ho1; obtain ⟨A2, c2, rfl⟩ := Kd.R_slice ho2; clear hbk hbm hcb0 hcb1 hcb2 hcb3; skip) | ((with_reducible refine gate_dst (N := 18) rfl ?_); refine box_event rfl (N := 18) rfl (cs := #[.int .i64 0, .slice none 0 0, .slice none 0 0, .int .i64 0]) (t := 27) (by first | (go_simp; done) | (go_simp; rfl)) ?_; intro d hd0 w5 hbd hb5; have GD := Aside0.mk (show w3.heap.size ≤ d by rw [hd0]; exact Nat.le_refl _); clear hd0; have hq0 := (blk_cell hbd 0).trans rfl; have hq1 := (blk_cell hbd 1).trans rfl; have hq2 := (blk_cell hbd 2).trans rfl; have hq3 := (blk_cell hbd 3).trans rfl; have hqf := fun j => blk_frozen hbd j))
  have hN := MB.new (sz := 0) (cp := 0) HB.out hb3 ho1 ho2 GD.out hbd hb5 rfl
  have n2 := Aside0.mk (X2.out.below hN.2.1)
  have n3 := Aside0.mk (X3.out.below hN.2.1)
  have n4 := Aside0.mk (X4.out.below hN.2.1)
  have n5 := Aside0.mk (X5.out.below hN.2.1)
  have nX := Aside0.mk hN.1
  have nB := Aside0.mk hN.2.2
  clear HB hN hb3 ho1 ho2 GD hbd hb5 hq0 hq1 hq2 hq3 hqf X2 X3 X4 X5
  have X2 := n2
  have X3 := n3
  have X4 := n4
  have X5 := n5
  have X6 := nX
  have HB := nB
  clear nX nB n2 n3 n4 n5
  unfold set4 at HB X2 X3 X4 X5 X6
  simp only [List.length_nil] at HB X2 X3 X4 X5 X6
  generalize (((w5.setCell ⟨d, 0, none⟩ (.int .i64 0)).setCell ⟨d, 1, none⟩ (.slice A1 0 c1)).setCell ⟨d, 2, none⟩ (.slice A2 0 c2)).setCell ⟨d, 3, none⟩ (.int .i64 0) = W9 at HB X2 X3 X4 X5 X6 ⊢
  clear X6
  obtain ⟨B1, k1, B2, k2, hbk, hbm, _⟩ := X5.out.out
  have hcb0 := (blk_cell hbk 0).trans rfl
  have hcb1 := (blk_cell hbk 1).trans rfl
  have hcb2 := (blk_cell hbk 2).trans rfl
  have hcb3 := (blk_cell hbk 3).trans rfl
  go_upto_region 11 with (first | ((with_reducible refine gate_callee (f := 14) rfl ?_); refine goesL_ (some 72) rfl rfl Try.func14 (by kernel_rfl) rfl #[.agg #[.int .i64 2, .slice B1 M5.2.1.length k1, .slice B2 M5.2.2.1.length k2, .int .i64 1], .int .i64 1] rfl (by (try simp only [List.map_toArray, List.map_cons, List.map_nil]); first | done | rfl) ?_; (with_reducible refine (cow_Exit.calls 40 2 _ _ M5.2.1 _ _ M5.2.2.1 1 1 2 M7.2.1 M7.2.2.1 1 0 _ (Kd.S_reads' hbm.sp).2.2 (Kd.S_reads' hbm.sp).2.1 (Kd.R_reads' hbm.fr).2.2 (Kd.R_reads' hbm.fr).2.1 aw9).mono ?_); rintro e w3 ⟨v1, v2, rfl, ho1, ho2, hb3⟩; refine ⟨_, rfl, ?_⟩; obtain ⟨A1, c1, rfl⟩ := Kd.S_slice ho1; obtain ⟨A2, c2, rfl⟩ := Kd.R_slice ho2; clear hbk hbm hcb0 hcb1 hcb2 hcb3; skip) | ((with_reducible refine gate_dst (N := 20) rfl ?_); refine box_event rfl (N := 20) rfl (cs := #[.int .i64 0, .slice none 0 0, .slice none 0 0, .int .i64 0]) (t := 27) (by first | (go_simp; done) | (go_simp; rfl)) ?_; intro d hd0 w5 hbd hb5; have GD := Aside0.mk (show w3.heap.size ≤ d by rw [hd0]; exact Nat.le_refl _); clear hd0; have hq0 := (blk_cell hbd 0).trans rfl; have hq1 := (blk_cell hbd 1).trans rfl; have hq2 := (blk_cell hbd 2).trans rfl; have hq3 := (blk_cell hbd 3).trans rfl; have hqf := fun j => blk_frozen hbd j))
  have hN := MB.new (sz := 2) (cp := 1) HB.out hb3 ho1 ho2 GD.out hbd hb5 rfl
  have n2 := Aside0.mk (X2.out.below hN.2.1)
  have n3 := Aside0.mk (X3.out.below hN.2.1)
  have n4 := Aside0.mk (X4.out.below hN.2.1)
  have n5 := Aside0.mk (X5.out.below hN.2.1)
  have nX := Aside0.mk hN.1
  have nB := Aside0.mk hN.2.2
  clear HB hN hb3 ho1 ho2 GD hbd hb5 hq0 hq1 hq2 hq3 hqf X2 X3 X4 X5
  have X2 := n2
  have X3 := n3
  have X4 := n4
  have X5 := n5
  have X7 := nX
  have HB := nB
  clear nX nB n2 n3 n4 n5
  unfold set4 at HB X2 X3 X4 X5 X7
  generalize (((w5.setCell ⟨d, 0, none⟩ (.int .i64 2)).setCell ⟨d, 1, none⟩ (.slice A1 M7.2.1.length c1)).setCell ⟨d, 2, none⟩ (.slice A2 M7.2.2.1.length c2)).setCell ⟨d, 3, none⟩ (.int .i64 1) = W10 at HB X2 X3 X4 X5 X7 ⊢
  obtain ⟨B1, k1, B2, k2, hbk, hbm, _⟩ := X7.out.out
  have hcb0 := (blk_cell hbk 0).trans rfl
  have hcb1 := (blk_cell hbk 1).trans rfl
  have hcb2 := (blk_cell hbk 2).trans rfl
  have hcb3 := (blk_cell hbk 3).trans rfl
  go_upto_region 12 with (first | ((with_reducible refine gate_callee (f := 12) rfl ?_); refine goesL_ (some 77) rfl rfl Try.func12 (by kernel_rfl) rfl #[.agg #[.int .i64 2, .slice B1 M7.2.1.length k1, .slice B2 M7.2.2.1.length k2, .int .i64 1], .int .i64 0, .int .i64 0, .int .i64 6] rfl (by (try simp only [List.map_toArray, List.map_cons, List.map_nil]); first | done | rfl) ?_; (with_reducible refine (cow_Write.calls 40 2 _ _ M7.2.1 _ _ M7.2.2.1 1 0 0 6 2 M8.2.1 M8.2.2.1 1 0 _ (Kd.S_reads' hbm.sp).2.2 (Kd.S_reads' hbm.sp).2.1 (Kd.R_reads' hbm.fr).2.2 (Kd.R_reads' hbm.fr).2.1 aw10).mono ?_); rintro e w3 ⟨v1, v2, rfl, ho1, ho2, hb3⟩; refine ⟨_, rfl, ?_⟩; obtain ⟨A1, c1, rfl⟩ := Kd.S_slice ho1; obtain ⟨A2, c2, rfl⟩ := Kd.R_slice ho2; clear hbk hbm hcb0 hcb1 hcb2 hcb3; skip) | ((with_reducible refine gate_dst (N := 22) rfl ?_); refine box_event rfl (N := 22) rfl (cs := #[.int .i64 0, .slice none 0 0, .slice none 0 0, .int .i64 0]) (t := 27) (by first | (go_simp; done) | (go_simp; rfl)) ?_; intro d hd0 w5 hbd hb5; have GD := Aside0.mk (show w3.heap.size ≤ d by rw [hd0]; exact Nat.le_refl _); clear hd0; have hq0 := (blk_cell hbd 0).trans rfl; have hq1 := (blk_cell hbd 1).trans rfl; have hq2 := (blk_cell hbd 2).trans rfl; have hq3 := (blk_cell hbd 3).trans rfl; have hqf := fun j => blk_frozen hbd j))
  have hN := MB.new (sz := 2) (cp := 1) HB.out hb3 ho1 ho2 GD.out hbd hb5 rfl
  have n2 := Aside0.mk (X2.out.below hN.2.1)
  have n3 := Aside0.mk (X3.out.below hN.2.1)
  have n4 := Aside0.mk (X4.out.below hN.2.1)
  have n5 := Aside0.mk (X5.out.below hN.2.1)
  have n7 := Aside0.mk (X7.out.below hN.2.1)
  have nX := Aside0.mk hN.1
  have nB := Aside0.mk hN.2.2
  clear HB hN hb3 ho1 ho2 GD hbd hb5 hq0 hq1 hq2 hq3 hqf X2 X3 X4 X5 X7
  have X2 := n2
  have X3 := n3
  have X4 := n4
  have X5 := n5
  have X7 := n7
  have X8 := nX
  have HB := nB
  clear nX nB n2 n3 n4 n5 n7
  unfold set4 at HB X2 X3 X4 X5 X7 X8
  generalize (((w5.setCell ⟨d, 0, none⟩ (.int .i64 2)).setCell ⟨d, 1, none⟩ (.slice A1 M8.2.1.length c1)).setCell ⟨d, 2, none⟩ (.slice A2 M8.2.2.1.length c2)).setCell ⟨d, 3, none⟩ (.int .i64 1) = W11 at HB X2 X3 X4 X5 X7 X8 ⊢
  clear X7
  go_upto_region 13 with (fail)
  obtain ⟨B21, k21, B22, k22, hk2, hm2, _⟩ := X2.out.out
  obtain ⟨B51, k51, B52, k52, hk5, hm5, _⟩ := X5.out.out
  obtain ⟨B81, k81, B82, k82, hk8, hm8, _⟩ := X8.out.out
  obtain ⟨B31, k31, B32, k32, hk3, hm3, _⟩ := X3.out.out
  obtain ⟨B41, k41, B42, k42, hk4, hm4, _⟩ := X4.out.out
  have hl2 : M8.2.1.length = 2 := rfl
  obtain ⟨gs, cap8, e8, hs1, hs2, _⟩ := Kd.S_form hm8.sp (by decide)
  simp only [Value.slice.injEq] at e8
  obtain ⟨rfl, _, rfl⟩ := e8
  obtain ⟨gp, cp8, hg1, hP⟩ := hm8.page 0 0 (by decide) (by decide) (by decide) (by decide)
  have hp0 : W11.cell? ⟨gp, 0, none⟩ = some (.int .i64 1) := hP.c0
  have hp1 : W11.cell? ⟨gp, 1, none⟩ = some (.bool true) := hP.c1
  have hgp : W11.cell? ⟨gs, 1, none⟩ = some (.slice (some ⟨gp, 0, none⟩) 2 cp8) := hg1
  have HGP := Aside0.mk hgp
  have HP0 := Aside0.mk hp0
  have HP1 := Aside0.mk hp1
  clear hgp hp0 hp1 hP hg1
  have K2 := Aside0.mk hk2
  have L2 := Aside0.mk hm2
  have K5 := Aside0.mk hk5
  have L5 := Aside0.mk hm5
  have K8 := Aside0.mk hk8
  have L8 := Aside0.mk hm8
  have K3 := Aside0.mk hk3
  have L3 := Aside0.mk hm3
  have K4 := Aside0.mk hk4
  have L4 := Aside0.mk hm4
  clear hk2 hk5 hk8 hk3 hk4 hm2 hm5 hm8 hm3 hm4 hs1 hs2 X2 X5 X8 X3 X4 hl2
  have hx20 := (blk_cell K2.out 0).trans rfl
  have hx21 := (blk_cell K2.out 1).trans rfl
  have hx22 := (blk_cell K2.out 2).trans rfl
  have hx23 := (blk_cell K2.out 3).trans rfl
  have hl1 : M8.2.1.length = 2 := rfl
  go_wp2_with (first | (go_at_call 15; (with_reducible refine (cow_Used.calls 40 2 _ _ M2.2.1 _ _ M2.2.2.1 0 1 _ (Kd.S_reads' L2.out.sp).2.2 (Kd.S_reads' L2.out.sp).2.1 (Kd.R_reads' L2.out.fr).2.2 (Kd.R_reads' L2.out.fr).2.1 aw11).mono ?_); rintro e wA ⟨rfl, hbA⟩; clear hx20 hx21 hx22 hx23; have hx33 := (blk_cell (blk_below K3.out hbA) 3).trans rfl; have hx43 := (blk_cell (blk_below K4.out hbA) 3).trans rfl; have hx50 := (blk_cell (blk_below K5.out hbA) 0).trans rfl; have hx51 := (blk_cell (blk_below K5.out hbA) 1).trans rfl; have hx52 := (blk_cell (blk_below K5.out hbA) 2).trans rfl; have hx53 := (blk_cell (blk_below K5.out hbA) 3).trans rfl) | (go_at_call 15; (with_reducible refine (cow_Used.calls 40 2 _ _ M5.2.1 _ _ M5.2.2.1 1 3 _ (Kd.C_below (Kd.S_reads' L5.out.sp).2.2 hbA) (Kd.S_reads' L5.out.sp).2.1 (Kd.C_below (Kd.R_reads' L5.out.fr).2.2 hbA) (Kd.R_reads' L5.out.fr).2.1 aw12).mono ?_); rintro e wB ⟨rfl, hbB0⟩; have hbB := below_step hbA hbB0; clear hx33 hx43 hx50 hx51 hx52 hx53 hbA hbB0; have hx80 := (blk_cell (blk_below K8.out hbB) 0).trans rfl; have hx81 := (blk_cell (blk_below K8.out hbB) 1).trans rfl; have hx82 := (blk_cell (blk_below K8.out hbB) 2).trans rfl; have hx83 := (blk_cell (blk_below K8.out hbB) 3).trans rfl; have hgp := (hbB.cell (World.block_lt_of_cell? _ _ HGP.out)).trans HGP.out; have hp0 := (hbB.cell (World.block_lt_of_cell? _ _ HP0.out)).trans HP0.out; have hp1 := (hbB.cell (World.block_lt_of_cell? _ _ HP1.out)).trans HP1.out) | (go_at_call 23; (refine (cow_Check.calls 40 2 _ _ M8.2.1 _ _ M8.2.2.1 1 0 _ (Kd.C_below (Kd.S_reads' L8.out.sp).2.2 hbB) (Kd.S_reads' L8.out.sp).2.1 (Kd.C_below (Kd.R_reads' L8.out.fr).2.2 hbB) (Kd.R_reads' L8.out.fr).2.1 aw13).mono ?_); rintro e wC ⟨rfl, hbC0⟩; have hbC := below_step hbB hbC0; clear hx80 hx81 hx82 hx83 hgp hp0 hp1))
  go_ret
  exact ⟨rfl, below_step HB.out hbC⟩

theorem estoverslaw25_awake.calls (k : Nat) (r : Bool) (w : World) (h : estoverslaw25_awake.f k = some r) : Calls Try.prog 10 #[] w fun e w' => e = .returned (.bool r) ∧ Below w.heap.size w w' := by
  obtain rfl := Option.some.inj h
  exact estoverslaw25_awake.walk w

end Go.Proofs.Yteldbkdfphiogaa.Pr
