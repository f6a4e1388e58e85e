-- Written by a program of this session (a changed copy of the kit's printer). Not trusted: Lean checks it.
import Derived.Test.YteldbkdfphiogaaM0
import Derived.Test.YteldbkdfphiogaaFapiCowFrame54
import Derived.Test.YteldbkdfphiogaaFapiCowPage36
import Derived.Test.YteldbkdfphiogaaFapiCowSpace
namespace Go.Proofs.Yteldbkdfphiogaa.Pr
open Go.RowKit Go.Proofs.YteldbkdfphiogaaW.PrintWords Go.Proofs.YteldbkdfphiogaaW.PrintLast Go.Proofs.YteldbkdfphiogaaW.PrintMore
attribute [local go_sem] max2_int min2_int max_two min_two max_three min_three max_four min_four   -- for this text's walks alone
set_option linter.unusedVariables false
set_option linter.unusedSimpArgs false
/-! ### cow_own: function 32 -/
theorem Kd.raw_of {α : Type} {d : Kd α} {e : TypeId} {w : World} {base : Nat} {ok : Nat → Prop} {v : Value} {xs : List α} (h : d.R e w base ok v xs) : ∃ rows : List (List Value), (Kd.raw d.sz).R e w base (fun _ => True) v rows ∧ rows.length = xs.length ∧ ∀ (j : Nat) (x : α) (cs : List Value), xs[j]? = some x → rows[j]? = some cs → d.M w base (fun k => ok k ∧ some k ≠ v.ownBlock) x cs := by
  obtain ⟨h0, inner, ho, hr⟩ := h
  have hlen : ((List.range xs.length).map fun j => (inner.drop (j * d.sz)).take d.sz).length = xs.length := by simp
  refine ⟨(List.range xs.length).map fun j => (inner.drop (j * d.sz)).take d.sz, ⟨fun _ _ => trivial, inner, by rw [hlen]; exact ho, by rw [hlen]; exact hr.1, fun j p hj => ?_⟩, hlen, fun j x cs hx hc => ?_⟩
  · rw [List.getElem?_map] at hj
    obtain ⟨i, hi, rfl⟩ := Option.map_eq_some_iff.1 hj
    obtain ⟨h1, h2⟩ := List.getElem?_eq_some_iff.1 hi
    simp only [List.length_range] at h1
    simp only [List.getElem_range] at h2
    subst h2
    have hM := hr.2 j xs[j] (List.getElem?_eq_getElem h1)
    exact ⟨rfl, d.K_len (d.K_of_M hM), d.K_one (d.K_of_M hM)⟩
  · rw [List.getElem?_map] at hc
    obtain ⟨i, hi, rfl⟩ := Option.map_eq_some_iff.1 hc
    obtain ⟨h1, h2⟩ := List.getElem?_eq_some_iff.1 hi
    simp only [List.length_range] at h1
    simp only [List.getElem_range] at h2
    subst h2
    exact hr.2 j x hx
theorem Kd.of_raw {α : Type} {d : Kd α} {e : TypeId} {w : World} {base : Nat} {v : Value} {xs : List α} {rows : List (List Value)} (h : (Kd.raw d.sz).R e w base (fun _ => True) v rows) (hl : rows.length = xs.length) (hne : ∀ q ∈ d.E, q ≠ e) {f : Nat → Nat} (hM : ∀ (j : Nat) (x : α) (cs : List Value), xs[j]? = some x → rows[j]? = some cs → d.M w base (fun k => f k = j) x cs) : Kd.S d e w base (fun _ => True) v xs := by
  obtain ⟨h0, inner, ho, hr⟩ := h
  have hlz : xs.zipIdx.length = xs.length := List.length_zipIdx
  refine ⟨f, fun _ _ => trivial, inner, by rw [hlz, ← hl]; exact ho, by rw [hlz, ← hl]; exact hr.1, fun j p hj => ?_⟩
  rw [List.getElem?_zipIdx, Nat.zero_add] at hj
  obtain ⟨x, hx, rfl⟩ := Option.map_eq_some_iff.1 hj
  have hj2 : j < rows.length := by rw [hl]; exact (List.getElem?_eq_some_iff.1 hx).1
  have h1 := hr.2 j _ (List.getElem?_eq_getElem hj2)
  have h2 := hM j x _ hx (List.getElem?_eq_getElem hj2)
  rw [← h1.1] at h2
  refine d.M_mono (fun k hk => ?_) (d.M_bound h2)
  refine ⟨⟨trivial, fun he => ?_⟩, hk.1⟩
  obtain ⟨_, _, _, q, hq, cells, hc⟩ := hk
  obtain ⟨cells2, hc2⟩ := own_typed ho k he.symm
  rw [hc] at hc2
  injection hc2 with hc2
  injection hc2 with _ hc3
  exact hne q hq hc3
def set4 (w : World) (r : Nat) (v0 v1 v2 v3 : Value) : World := (((w.setCell ⟨r, 0, none⟩ v0).setCell ⟨r, 1, none⟩ v1).setCell ⟨r, 2, none⟩ v2).setCell ⟨r, 3, none⟩ v3
theorem set4_heap (w : World) (r : Nat) (v0 v1 v2 v3 : Value) (k : Nat) (h : k ≠ r) : (set4 w r v0 v1 v2 v3).heap[k]? = w.heap[k]? := by
  unfold set4
  rw [Below.heap_setCell _ _ _ _ h, Below.heap_setCell _ _ _ _ h, Below.heap_setCell _ _ _ _ h, Below.heap_setCell _ _ _ _ h]
theorem set4_below {w0 w : World} {r : Nat} (h : Below w0.heap.size w0 w) (hr : w0.heap.size ≤ r) (v0 v1 v2 v3 : Value) : Below w0.heap.size w0 (set4 w r v0 v1 v2 v3) := below_set (below_set (below_set (below_set h hr) hr) hr) hr
theorem set4_S {α : Type} {d : Kd α} {e : TypeId} {w : World} {base r : Nat} {v : Value} {xs : List α} {cs : Array Value} {t : TypeId} (h : Kd.S d e w base (fun _ => True) v xs) (hr : w.heap[r]? = some (.cells cs t (0, 0))) (ht : ∀ q ∈ e :: d.E, q ≠ t) (v0 v1 v2 v3 : Value) : Kd.S d e (set4 w r v0 v1 v2 v3) base (fun _ => True) v xs :=
  Kd.S_mono (Kd.S_step (Kd.S_types h hr ht) (fun k hk _ => set4_heap w r v0 v1 v2 v3 k hk.2)) (fun _ _ => trivial)
theorem set4_R {α : Type} {d : Kd α} {e : TypeId} {w : World} {base r : Nat} {v : Value} {xs : List α} {cs : Array Value} {t : TypeId} (h : Kd.R d e w base (fun _ => True) v xs) (hr : w.heap[r]? = some (.cells cs t (0, 0))) (ht : ∀ q ∈ e :: d.E, q ≠ t) (v0 v1 v2 v3 : Value) : Kd.R d e (set4 w r v0 v1 v2 v3) base (fun _ => True) v xs :=
  Kd.R_mono (Kd.R_step (Kd.R_types h hr ht) (fun k hk _ => set4_heap w r v0 v1 v2 v3 k hk.2)) (fun _ _ => trivial)
theorem set4_blk {w : World} {r : Nat} {a0 a1 a2 a3 : Value} {t : TypeId} (h : w.heap[r]? = some (.cells #[a0, a1, a2, a3] t (0, 0))) (v0 v1 v2 v3 : Value) : (set4 w r v0 v1 v2 v3).heap[r]? = some (.cells #[v0, v1, v2, v3] t (0, 0)) :=
  blk_put (blk_put (blk_put (blk_put h 0 v0 rfl) 1 v1 rfl) 2 v2 rfl) 3 v3 rfl
def cow_own.f (a0_0 : Int) (l0_1 : List (S62)) (l0_2 : List (S57)) (a0_3 : Int) : Option (Int × List (S62) × List (S57) × Int) := if l0_1.length < 4398046511104 ∧ l0_2.length < 8796093022208 ∧ ∀ x ∈ l0_1, x.f1.length < 8796093022208 then some (a0_0, l0_1, l0_2, a0_3) else none
set_option maxRecDepth 100000 in
set_option maxHeartbeats 4000000 in
theorem cow_own.calls (a0_0 : Int) (A0_1 : Option Addr) (c0_1 : Nat) (l0_1 : List (S62)) (A0_2 : Option Addr) (c0_2 : Nat) (l0_2 : List (S57)) (a0_3 : Int) (r1 : Int) (r2 : List (S62)) (r3 : List (S57)) (r4 : Int) (w : World) (hr0_1 : Kd.C k62 w A0_1 l0_1.length l0_1) (hc0_1 : l0_1.length ≤ c0_1) (hr0_2 : Kd.C k57 w A0_2 l0_2.length l0_2) (hc0_2 : l0_2.length ≤ c0_2) (h : cow_own.f a0_0 l0_1 l0_2 a0_3 = some (r1, r2, r3, r4)) :
    Calls Try.prog 32 #[.agg #[.int .i64 a0_0, .slice A0_1 l0_1.length c0_1, .slice A0_2 l0_2.length c0_2, .int .i64 a0_3]] w fun e w' => ∃ v1_ v2_ : Value, e = .returned (.agg #[.int .i64 r1, v1_, v2_, .int .i64 r4]) ∧ Kd.S k62 62 w' w.heap.size (fun _ => True) v1_ r2 ∧ Kd.R k57 57 w' w.heap.size (fun _ => True) v2_ r3 ∧ Below w.heap.size w w' := by
  unfold cow_own.f at h
  split at h
  case isFalse => cases h
  rename_i hbnd
  simp only [Option.some.injEq, Prod.mk.injEq] at h
  obtain ⟨rfl, rfl, rfl, rfl⟩ := h
  have HBND := Aside0.mk hbnd
  have HR1 := Aside0.mk hr0_1
  have HR2 := Aside0.mk hr0_2
  have HC1 := Aside0.mk hc0_1
  have HC2 := Aside0.mk hc0_2
  clear hbnd hr0_1 hr0_2 hc0_1 hc0_2
  have hu27 := Try.underlying27
  have hu62 := Try.underlying62
  go_enter Try.func32, Try.ntmps32
  go_upto_region 1 with (first | ((with_reducible refine gate_dst (N := 1) rfl ?_); refine box_event rfl (N := 1) rfl (cs := #[.int .i64 a0_0, .slice A0_1 l0_1.length c0_1, .slice A0_2 l0_2.length c0_2, .int .i64 a0_3]) (t := 27) (by first | (go_simp; done) | (go_simp; rfl)) ?_; intro b hb0 w1 hbox hB1) | ((with_reducible refine gate_dst (N := 2) rfl ?_); refine box_event rfl (N := 2) rfl (cs := #[.int .i64 0, .slice none 0 0, .slice none 0 0, .int .i64 0]) (t := 27) (by first | (go_simp; done) | (go_simp; rfl)) ?_; intro r hr0 w2 hres hB2))
  have BK := Aside0.mk (blk_drew (blk_below hbox hB2))
  have BR := Aside0.mk (blk_drew hres)
  have HB := Aside0.mk (below_drew1 (below_step hB1 hB2))
  have GB := Aside0.mk (show w.heap.size ≤ b by omega)
  have GR := Aside0.mk (show b < r by rw [hr0]; exact blk_lt hbox)
  clear hbox hB1 hB2 hres hb0 hr0
  refine start_ (n := 10) (S := fun w' => w'.cell? ⟨b, 1, none⟩ = some (.slice A0_1 l0_1.length c0_1) ∧ w'.cell? ⟨b, 2, none⟩ = some (.slice A0_2 l0_2.length c0_2)) (ds := [7, 9]) #[false, false, false, false, false, false, false, false, false, false] (by kernel_rfl) rfl rfl ⟨(blk_cell BK.out 1).trans rfl, (blk_cell BK.out 2).trans rfl⟩ (fun hHeld => ?_)
  refine pure_ (i := 0) (N := some 4) (v := ?_) (a' := ?_) #[true, false, false, false, false, false, false, false, false, false] rfl rfl (by kernel_rfl) (fun _ _ _ h => h) (Or.inl ⟨by rfl, ?_⟩) ?_ ?_
  rotate_left
  · intro w'
    go_simp
    with_reducible rfl
  rotate_left
  · simp only [Act.put, List.setIfInBounds_toArray, List.set_cons_zero, List.set_cons_succ, i64_w, i32_w]
    rfl
  refine take_ (i := 1) (N := some 5) (v := ?_) (a' := ?_) #[true, true, false, false, false, false, false, false, false, false] rfl rfl (by kernel_rfl) (fun _ _ _ h => h) (Or.inl ⟨by rfl, ?_⟩) hHeld ?_ ?_
  rotate_left
  · rintro w' ⟨s0, s1⟩
    go_simp
    with_reducible rfl
  rotate_left
  · simp only [Act.put, List.setIfInBounds_toArray, List.set_cons_zero, List.set_cons_succ, i64_w, i32_w]
    rfl
  refine pure_ (i := 3) (N := some 7) (v := ?_) (a' := ?_) #[true, true, false, true, false, false, false, false, false, false] rfl rfl (by kernel_rfl) (fun _ _ _ h => h) (Or.inl ⟨by rfl, ?_⟩) ?_ ?_
  rotate_left
  · intro w'
    go_simp
    with_reducible rfl
  rotate_left
  · simp only [Act.put, List.setIfInBounds_toArray, List.set_cons_zero, List.set_cons_succ, i64_w, i32_w]
    rfl
  refine take_ (i := 4) (N := some 8) (v := ?_) (a' := ?_) #[true, true, false, true, true, false, false, false, false, false] rfl rfl (by kernel_rfl) (fun _ _ _ h => h) (Or.inl ⟨by rfl, ?_⟩) hHeld ?_ ?_
  rotate_left
  · rintro w' ⟨s0, s1⟩
    go_simp
    with_reducible rfl
  rotate_left
  · simp only [Act.put, List.setIfInBounds_toArray, List.set_cons_zero, List.set_cons_succ, i64_w, i32_w]
    rfl
  refine one_ (i := 2) (N := some 6) #[true, true, true, true, true, false, false, false, false, false] rfl rfl (by kernel_rfl) (by decide) (fun K hK => ?_)
  refine goes_ Try.func53 (by kernel_rfl) rfl #[.slice A0_1 l0_1.length c0_1] (by rfl) rfl rfl (by (try simp only [List.map_toArray, List.map_cons, List.map_nil]); first | done | rfl) ?_
  have h53 := ReadsRow.imp_ (R' := k62.K w) (show ReadsRow (k62.K w) k62.sz w A0_1 l0_1.length l0_1 from HR1.out) HB.out (fun _ _ h => h)
  with_reducible refine (api_CowSpace.calls A0_1 c0_1 l0_1 l0_1 w _ h53 HC1.out (by unfold api_CowSpace.f; rw [if_pos HBND.out.1])).mono ?_
  rintro e w3 ⟨v1, rfl, ho1, hb3⟩
  refine ⟨_, rfl, ?_⟩
  obtain ⟨A1, c1, rfl⟩ := Kd.R_slice ho1
  have HO1 := Aside0.mk (Kd.R_lower ho1 HB.out.size)
  have n1 := Aside0.mk (blk_below BK.out hb3)
  have n2 := Aside0.mk (blk_below BR.out hb3)
  have n3 := Aside0.mk (below_step HB.out hb3)
  clear BK BR HB ho1 hb3 h53
  have BK := n1
  have BR := n2
  have HB := n3
  clear n1 n2 n3
  refine hK.out _ _ ⟨(blk_cell BK.out 1).trans rfl, (blk_cell BK.out 2).trans rfl⟩ (fun hHeld => ?_)
  clear hK K
  refine norm_ (a' := ?_) ?_ ?_
  rotate_left
  · show Act.put _ (some 6) _ = _
    simp only [Act.put, List.setIfInBounds_toArray, List.set_cons_zero, List.set_cons_succ, i64_w, i32_w]
    rfl
  refine pure_ (i := 6) (N := some 10) (v := ?_) (a' := ?_) #[true, true, true, true, true, false, true, false, false, false] rfl rfl (by kernel_rfl) (fun _ _ _ h => h) (Or.inl ⟨by rfl, ?_⟩) ?_ ?_
  rotate_left
  · intro w'
    go_simp
    with_reducible rfl
  rotate_left
  · simp only [Act.put, List.setIfInBounds_toArray, List.set_cons_zero, List.set_cons_succ, i64_w, i32_w]
    rfl
  refine one_ (i := 5) (N := some 9) #[true, true, true, true, true, true, true, false, false, false] rfl rfl (by kernel_rfl) (by decide) (fun K hK => ?_)
  refine goes_ Try.func54 (by kernel_rfl) rfl #[.slice A0_2 l0_2.length c0_2] (by rfl) rfl rfl (by (try simp only [List.map_toArray, List.map_cons, List.map_nil]); first | done | rfl) ?_
  with_reducible refine (api_CowFrame_54.calls A0_2 c0_2 l0_2 l0_2 _ (Kd.C_below HR2.out HB.out) HC2.out (by unfold api_CowFrame_54.f; rw [if_pos HBND.out.2.1])).mono ?_
  rintro e w4 ⟨v2, rfl, ho2, hb4⟩
  refine ⟨_, rfl, ?_⟩
  obtain ⟨A2, c2, rfl⟩ := Kd.R_slice ho2
  have HO2 := Aside0.mk (Kd.R_lower ho2 HB.out.size)
  have n1 := Aside0.mk (blk_below BK.out hb4)
  have n2 := Aside0.mk (blk_below BR.out hb4)
  have n3 := Aside0.mk (below_step HB.out hb4)
  have n4 := Aside0.mk (Kd.R_below HO1.out hb4)
  clear BK BR HB HO1 ho2 hb4
  have BK := n1
  have BR := n2
  have HB := n3
  have HO1 := n4
  clear n1 n2 n3 n4
  refine hK.out _ _ ⟨(blk_cell BK.out 1).trans rfl, (blk_cell BK.out 2).trans rfl⟩ (fun hHeld => ?_)
  clear hK K
  refine norm_ (a' := ?_) ?_ ?_
  rotate_left
  · show Act.put _ (some 9) _ = _
    simp only [Act.put, List.setIfInBounds_toArray, List.set_cons_zero, List.set_cons_succ, i64_w, i32_w]
    rfl
  have hf7 := blk_frozen BK.out 1
  refine last_ (i := 7) (N := none) #[true, true, true, true, true, true, true, true, false, false] rfl rfl (by kernel_rfl) (by decide) (fun K hK => ?_)
  refine skip_ (w1 := ?_) (by rfl) rfl ?_ ?_
  rotate_left
  · go_simp
    rfl
  refine hK.out _ _ ?_
  clear hK K
  have n1 := Aside0.mk (blk_put BK.out 1 (.slice A1 l0_1.length c1) (cs' := #[.int .i64 a0_0, .slice A1 l0_1.length c1, .slice A0_2 l0_2.length c0_2, .int .i64 a0_3]) rfl)
  have n2 := Aside0.mk (blk_far BR.out (p := ⟨b, 1, none⟩) (by have := GR.out; show r ≠ b; omega) (.slice A1 l0_1.length c1))
  have n3 := Aside0.mk (below_set (j := 1) (v := .slice A1 l0_1.length c1) HB.out GB.out)
  have n4 := Aside0.mk (Kd.R_far (p := ⟨b, 1, none⟩) (Kd.R_types HO1.out BK.out (by show ∀ q ∈ [62], q ≠ 27; decide)) (fun k hk => hk.2) (.slice A1 l0_1.length c1))
  have n5 := Aside0.mk (Kd.R_far (p := ⟨b, 1, none⟩) (Kd.R_types HO2.out BK.out (by decide)) (fun k hk => hk.2) (.slice A1 l0_1.length c1))
  clear BK BR HB HO1 HO2 hf7
  have BK := n1
  have BR := n2
  have HB := n3
  have HO1 := n4
  have HO2 := n5
  clear n1 n2 n3 n4 n5
  refine pure_ (i := 8) (N := some 11) (v := ?_) (a' := ?_) #[true, true, true, true, true, true, true, true, true, false] rfl rfl (by kernel_rfl) (fun _ _ _ h => h) (Or.inl ⟨by rfl, ?_⟩) ?_ ?_
  rotate_left
  · intro w'
    go_simp
    with_reducible rfl
  rotate_left
  · simp only [Act.put, List.setIfInBounds_toArray, List.set_cons_zero, List.set_cons_succ, i64_w, i32_w]
    rfl
  have hf9 := blk_frozen BK.out 2
  refine last_ (i := 9) (N := none) #[true, true, true, true, true, true, true, true, true, true] rfl rfl (by kernel_rfl) (by decide) (fun K hK => ?_)
  refine skip_ (w1 := ?_) (by rfl) rfl ?_ ?_
  rotate_left
  · go_simp
    rfl
  refine hK.out _ _ ?_
  clear hK K
  have n1 := Aside0.mk (blk_put BK.out 2 (.slice A2 l0_2.length c2) (cs' := #[.int .i64 a0_0, .slice A1 l0_1.length c1, .slice A2 l0_2.length c2, .int .i64 a0_3]) rfl)
  have n2 := Aside0.mk (blk_far BR.out (p := ⟨b, 2, none⟩) (by have := GR.out; show r ≠ b; omega) (.slice A2 l0_2.length c2))
  have n3 := Aside0.mk (below_set (j := 2) (v := .slice A2 l0_2.length c2) HB.out GB.out)
  have n4 := Aside0.mk (Kd.R_far (p := ⟨b, 2, none⟩) (Kd.R_types HO1.out BK.out (by show ∀ q ∈ [62], q ≠ 27; decide)) (fun k hk => hk.2) (.slice A2 l0_2.length c2))
  have n5 := Aside0.mk (Kd.R_far (p := ⟨b, 2, none⟩) (Kd.R_types HO2.out BK.out (by decide)) (fun k hk => hk.2) (.slice A2 l0_2.length c2))
  clear BK BR HB HO1 HO2 hf9
  have BK := n1
  have BR := n2
  have HB := n3
  have HO1 := n4
  have HO2 := n5
  clear n1 n2 n3 n4 n5
  refine done_ (by kernel_rfl) ?_
  obtain ⟨rows0, hraw0, hrl0, hrm0⟩ := Kd.raw_of HO1.out
  have HRW := Aside0.mk (show (Kd.raw 2).R 62 _ w.heap.size (fun _ => True) (.slice A1 l0_1.length c1) rows0 from hraw0)
  have HRL := Aside0.mk hrl0
  have HRM := Aside0.mk (show ∀ (j : Nat) (x : S62) (cs : List Value), l0_1[j]? = some x → rows0[j]? = some cs → k62.K w x cs from hrm0)
  clear hraw0 hrl0 hrm0 HO1
  have HO2' := Aside0.mk (Kd.R_mono HO2.out (fun _ _ => trivial : ∀ k, _ → True))
  clear HO2
  have hcb := (blk_cell BK.out 1).trans rfl
  go_wp2
  go_loopw [15] (fun v15 wr => ∃ (i : Nat) (rows : List (List Value)) (f : Nat → Nat), v15 = .int .i64 i ∧ i ≤ l0_1.length ∧ Aside0 ((Kd.raw 2).R 62 wr w.heap.size (fun _ => True) (.slice A1 l0_1.length c1) rows) ∧ Aside0 (rows.length = l0_1.length) ∧ Aside0 (∀ (j : Nat) (x : S62) (cs : List Value), l0_1[j]? = some x → rows[j]? = some cs → (j < i → k62.M wr w.heap.size (fun k => f k = j) x cs) ∧ (i ≤ j → k62.K w x cs)) ∧ Aside0 (k57.R 57 wr w.heap.size (fun _ => True) (.slice A2 l0_2.length c2) l0_2) ∧ Aside0 (Below w.heap.size w wr) ∧ Aside0 (wr.heap[b]? = some (.cells #[.int .i64 a0_0, .slice A1 l0_1.length c1, .slice A2 l0_2.length c2, .int .i64 a0_3] 27 (0, 0))) ∧ Aside0 (wr.heap[r]? = some (.cells #[.int .i64 0, .slice none 0 0, .slice none 0 0, .int .i64 0] 27 (0, 0)))) (fun v _ => l0_1.length - (intOf v).toNat)
  case atStart => exact ⟨0, rows0, fun _ => 0, rfl, Nat.zero_le _, HRW, HRL, ⟨fun j x cs h1 h2 => ⟨fun h => by omega, fun _ => HRM.out j x cs h1 h2⟩⟩, HO2', HB, BK, BR⟩
  case round =>
    clear HRW HRL HRM HO2' HB BK BR hcb
    rename_i wr
    obtain ⟨i, rows, f, rfl, hi, HRW, HRL, HRM, HO2, HB, BK, BR⟩ := hrel
    have hcb := (blk_cell BK.out 1).trans rfl
    by_cases hlt : i < l0_1.length
    · obtain ⟨g, cap, hg, hg1, hg2, cells0, hg3⟩ := Kd.R_form HRW.out (by rw [HRL.out]; omega)
      rw [HRL.out] at hg
      simp only [Value.slice.injEq] at hg
      obtain ⟨rfl, _, rfl⟩ := hg
      obtain ⟨x, hx⟩ : ∃ x, l0_1[i]? = some x := ⟨_, List.getElem?_eq_getElem hlt⟩
      obtain ⟨c, hcl, hcM, hcc, hfz⟩ := Kd.R_elem HRW.out [] (i : Int) (by omega) (by omega)
      have hrc : rows[i]? = some c := by
        have h1 : c = rows.getD i [] := hcM.1
        rw [h1, List.getD_eq_getElem?_getD, List.getElem?_eq_getElem (show i < rows.length by rw [HRL.out]; exact hlt)]
        rfl
      obtain ⟨A', c', rfl, hl', hC'⟩ := k62_open ((HRM.out i x c hx hrc).2 (Nat.le_refl _))
      have hcx : wr.cell? ⟨g, i * 2 + 1, none⟩ = some (.slice A' x.f1.length c') := hcc 1 _ rfl
      have HCX := Aside0.mk hcx
      have hfz1 : wr.frozen? ⟨g, i * 2 + 1, none⟩ = false := hfz 1
      have d0 : (0 : Int) ≤ (i : Int) := by omega
      have d1 : (i : Int) < (l0_1.length : Int) := by omega
      have HCC := Aside0.mk hcc
      have HCP := Aside0.mk hC'
      have HLP := Aside0.mk hl'
      have HX := Aside0.mk hx
      have HRC := Aside0.mk hrc
      have HG3 := Aside0.mk (show ∃ cells, wr.heap[g]? = some (.cells cells 62 (0, 0)) from ⟨cells0, hg3⟩)
      clear hcc hC' hl' hx hrc hg3 hcM hcl hfz
      have HMEM := Aside0.mk (HBND.out.2.2 x (List.mem_of_getElem? HX.out))
      go_wp2
      refine start_ (n := 13) (S := fun w' => w'.cell? ⟨b, 1, none⟩ = some (.slice (some ⟨g, 0, none⟩) l0_1.length c1) ∧ w'.cell? ⟨g, i * 2 + 1, none⟩ = some (.slice A' x.f1.length c')) (ds := [12]) #[false, false, false, false, false, false, false, false, false, false, false, false, false] (by kernel_rfl) rfl rfl ⟨hcb, hcx⟩ (fun hHeld => ?_)
      refine pure_ (i := 0) (N := some 18) (v := ?_) (a' := ?_) #[true, false, false, false, false, false, false, false, false, false, false, false, false] rfl rfl (by kernel_rfl) (fun _ _ _ h => h) (Or.inl ⟨by rfl, ?_⟩) ?_ ?_
      rotate_left
      · intro w'
        go_simp
        with_reducible rfl
      rotate_left
      · simp only [Act.put, List.setIfInBounds_toArray, List.set_cons_zero, List.set_cons_succ, i64_w, i32_w]
        rfl
      refine take_ (i := 1) (N := some 19) (v := ?_) (a' := ?_) #[true, true, false, false, false, false, false, false, false, false, false, false, false] rfl rfl (by kernel_rfl) (fun _ _ _ h => h) (Or.inl ⟨by rfl, ?_⟩) hHeld ?_ ?_
      rotate_left
      · rintro w' ⟨s0, s1⟩
        go_simp
        with_reducible rfl
      rotate_left
      · simp only [Act.put, List.setIfInBounds_toArray, List.set_cons_zero, List.set_cons_succ, i64_w, i32_w]
        rfl
      refine pure_ (i := 2) (N := some 20) (v := ?_) (a' := ?_) #[true, true, true, false, false, false, false, false, false, false, false, false, false] rfl rfl (by kernel_rfl) (fun _ _ _ h => h) (Or.inl ⟨by rfl, ?_⟩) ?_ ?_
      rotate_left
      · intro w'
        go_simp
        with_reducible rfl
      rotate_left
      · simp only [Act.put, List.setIfInBounds_toArray, List.set_cons_zero, List.set_cons_succ, i64_w, i32_w]
        rfl
      refine pure_ (i := 3) (N := some 21) (v := ?_) (a' := ?_) #[true, true, true, true, false, false, false, false, false, false, false, false, false] rfl rfl (by kernel_rfl) (fun _ _ _ h => h) (Or.inl ⟨by rfl, ?_⟩) ?_ ?_
      rotate_left
      · intro w'
        go_simp
        with_reducible rfl
      rotate_left
      · simp only [Act.put, List.setIfInBounds_toArray, List.set_cons_zero, List.set_cons_succ, i64_w, i32_w]
        rfl
      refine take_ (i := 4) (N := some 22) (v := ?_) (a' := ?_) #[true, true, true, true, true, false, false, false, false, false, false, false, false] rfl rfl (by kernel_rfl) (fun _ _ _ h => h) (Or.inl ⟨by rfl, ?_⟩) hHeld ?_ ?_
      rotate_left
      · rintro w' ⟨s0, s1⟩
        go_simp
        with_reducible rfl
      rotate_left
      · simp only [Act.put, List.setIfInBounds_toArray, List.set_cons_zero, List.set_cons_succ, i64_w, i32_w]
        rfl
      refine pure_ (i := 5) (N := some 23) (v := ?_) (a' := ?_) #[true, true, true, true, true, true, false, false, false, false, false, false, false] rfl rfl (by kernel_rfl) (fun _ _ _ h => h) (Or.inl ⟨by rfl, ?_⟩) ?_ ?_
      rotate_left
      · intro w'
        go_simp
        with_reducible rfl
      rotate_left
      · simp only [Act.put, List.setIfInBounds_toArray, List.set_cons_zero, List.set_cons_succ, i64_w, i32_w]
        rfl
      refine pure_ (i := 6) (N := some 24) (v := ?_) (a' := ?_) #[true, true, true, true, true, true, true, false, false, false, false, false, false] rfl rfl (by kernel_rfl) (fun _ _ _ h => h) (Or.inl ⟨by rfl, ?_⟩) ?_ ?_
      rotate_left
      · intro w'
        go_simp
        with_reducible rfl
      rotate_left
      · simp only [Act.put, List.setIfInBounds_toArray, List.set_cons_zero, List.set_cons_succ, i64_w, i32_w]
        rfl
      refine pure_ (i := 7) (N := some 25) (v := ?_) (a' := ?_) #[true, true, true, true, true, true, true, true, false, false, false, false, false] rfl rfl (by kernel_rfl) (fun _ _ _ h => h) (Or.inl ⟨by rfl, ?_⟩) ?_ ?_
      rotate_left
      · intro w'
        go_simp
        with_reducible rfl
      rotate_left
      · simp only [Act.put, List.setIfInBounds_toArray, List.set_cons_zero, List.set_cons_succ, i64_w, i32_w]
        rfl
      refine take_ (i := 8) (N := some 26) (v := ?_) (a' := ?_) #[true, true, true, true, true, true, true, true, true, false, false, false, false] rfl rfl (by kernel_rfl) (fun _ _ _ h => h) (Or.inl ⟨by rfl, ?_⟩) hHeld ?_ ?_
      rotate_left
      · rintro w' ⟨s0, s1⟩
        go_simp
        with_reducible rfl
      rotate_left
      · simp only [Act.put, List.setIfInBounds_toArray, List.set_cons_zero, List.set_cons_succ, i64_w, i32_w]
        rfl
      refine one_ (i := 9) (N := some 27) #[true, true, true, true, true, true, true, true, true, true, false, false, false] rfl rfl (by kernel_rfl) (by decide) (fun K hK => ?_)
      have HBd := below_drew1 HB.out
      refine goes_ Try.func36 (by kernel_rfl) rfl #[.slice A' x.f1.length c'] (by rfl) rfl rfl (by (try simp only [List.map_toArray, List.map_cons, List.map_nil]); first | done | rfl) ?_
      with_reducible refine (api_CowPage_36.calls A' c' x.f1 x.f1 _ (Kd.C_below HCP.out HBd) HLP.out (by unfold api_CowPage_36.f; rw [if_pos HMEM.out])).mono ?_
      rintro e w5 ⟨v3, rfl, ho3, hb5⟩
      refine ⟨_, rfl, ?_⟩
      obtain ⟨A3, c3, rfl⟩ := Kd.R_slice ho3
      have HO3 := Aside0.mk ho3
      have HRW5 := Aside0.mk (Kd.R_below (Kd.R_drew HRW.out) hb5)
      have HO25 := Aside0.mk (Kd.R_below (Kd.R_drew HO2.out) hb5)
      have BK5 := Aside0.mk (blk_below (blk_drew BK.out) hb5)
      have BR5 := Aside0.mk (blk_below (blk_drew BR.out) hb5)
      have HB5 := Aside0.mk (below_step HBd hb5)
      have hcx5 := (hb5.cell (World.block_lt_of_cell? _ _ hcx)).trans hcx
      have HG5 := Aside0.mk (show ∃ cells, w5.heap[g]? = some (.cells cells 62 (0, 0)) from by obtain ⟨cells, hh⟩ := HG3.out; exact ⟨cells, blk_below (blk_drew hh) hb5⟩)
      have HW5 := Aside0.mk hb5
      clear ho3 hb5 HBd
      refine hK.out _ _ ⟨(blk_cell BK5.out 1).trans rfl, hcx5⟩ (fun hHeld => ?_)
      clear hK K
      refine norm_ (a' := ?_) ?_ ?_
      rotate_left
      · show Act.put _ (some 27) _ = _
        simp only [Act.put, List.setIfInBounds_toArray, List.set_cons_zero, List.set_cons_succ, i64_w, i32_w]
        rfl
      refine pure_ (i := 10) (N := some 28) (v := ?_) (a' := ?_) #[true, true, true, true, true, true, true, true, true, true, true, false, false] rfl rfl (by kernel_rfl) (fun _ _ _ h => h) (Or.inl ⟨by rfl, ?_⟩) ?_ ?_
      rotate_left
      · intro w'
        go_simp
        with_reducible rfl
      rotate_left
      · simp only [Act.put, List.setIfInBounds_toArray, List.set_cons_zero, List.set_cons_succ, i64_w, i32_w]
        rfl
      refine pure_ (i := 11) (N := some 29) (v := ?_) (a' := ?_) #[true, true, true, true, true, true, true, true, true, true, true, true, false] rfl rfl (by kernel_rfl) (fun _ _ _ h => h) (Or.inl ⟨by rfl, ?_⟩) ?_ ?_
      rotate_left
      · intro w'
        go_simp
        with_reducible rfl
      rotate_left
      · simp only [Act.put, List.setIfInBounds_toArray, List.set_cons_zero, List.set_cons_succ, i64_w, i32_w]
        rfl
      have hfz5 : w5.frozen? ⟨g, i * 2 + 1, none⟩ = false := by obtain ⟨cells, hh⟩ := HG5.out; exact blk_frozen hh _
      refine last_ (i := 12) (N := none) #[true, true, true, true, true, true, true, true, true, true, true, true, true] rfl rfl (by kernel_rfl) (by decide) (fun K hK => ?_)
      refine skip_ (w1 := ?_) (by rfl) rfl ?_ ?_
      rotate_left
      · go_simp
        rfl
      refine hK.out _ _ ?_
      clear hK K
      refine done_ (by kernel_rfl) ?_
      go_wp2
      refine ⟨⟨i + 1, rows.set i [.bool x.f0, .slice A3 x.f1.length c3], fun k => if wr.heap.size ≤ k then i else f k, ?_, hlt, ?_, ⟨by rw [List.length_set]; exact HRL.out⟩, ⟨fun j y cs hy hc => ?_⟩, ?_, ?_, ?_, ?_⟩, ?_⟩
      · have e1 : wrap64 ((i : Int) + 1) = ((i + 1 : Nat) : Int) := by have := HBND.out.1; unfold wrap64; omega
        rw [e1]
      · exact ⟨(Kd.R_seg HRW5.out (i : Int) (by omega) (by omega) (c := [.bool x.f0, .slice A' x.f1.length c']) (seg := [.slice A3 x.f1.length c3]) (j := 1) rfl (fun j u hu => (HW5.out.cell (World.block_lt_of_cell? _ _ (HCC.out j u hu))).trans (HCC.out j u hu)) (by show 1 + 1 ≤ 2; omega) (x' := [.bool x.f0, .slice A3 x.f1.length c3]) (okp := fun _ => False) ⟨rfl, rfl, by simp [Value.oneCell']⟩ (fun _ h => h.elim)).1⟩
      · obtain ⟨gc, hgc⟩ := HG5.out
        by_cases hji : j = i
        · subst hji
          rw [List.getElem?_set_self (by rw [HRL.out]; exact hlt)] at hc
          obtain rfl := Option.some.inj hc
          rw [HX.out] at hy
          obtain rfl := Option.some.inj hy
          refine ⟨fun _ => k62_mkM _ _ _ x ?_, fun h => by omega⟩
          refine Kd.R_mono (Kd.R_far (p := ⟨g, j * 2 + 1, none⟩) (Kd.R_types (Kd.R_lower (Kd.R_bound HO3.out) HB.out.size) hgc (by decide)) (fun k hk => hk.2) _) (fun k hk => ?_)
          show (if wr.heap.size ≤ k then j else f k) = j
          rw [if_pos (show wr.heap.size ≤ k from hk.1.2.1)]
        · rw [List.getElem?_set_ne (fun h => hji h.symm)] at hc
          obtain ⟨h1, h2⟩ := HRM.out j y cs hy hc
          refine ⟨fun h => ?_, fun h => h2 (by omega)⟩
          refine k62.M_mono (fun k hk => ?_) (k62.M_move (fun k hk => ?_) (k62.M_bound (h1 (by omega))))
          · show (if wr.heap.size ≤ k then i else f k) = j
            rw [if_neg (by have := hk.2.2.1; omega)]
            exact hk.1
          · have hkg : k ≠ g := by
              rintro rfl
              obtain ⟨_, _, hlt3, q, hq, cells, hh⟩ := hk
              have h5 : w5.heap[k]? = wr.heap[k]? := HW5.out.block k hlt3
              rw [hgc, hh] at h5
              injection h5 with h5
              injection h5 with _ h6
              rw [← h6] at hq
              exact absurd hq (by decide)
            exact (Below.heap_setCell _ _ _ _ hkg).trans (HW5.out.block k hk.2.2.1)
      · obtain ⟨gc, hgc⟩ := HG5.out
        exact ⟨Kd.R_mono (Kd.R_far (p := ⟨g, i * 2 + 1, none⟩) (Kd.R_types HO25.out hgc (by decide)) (fun k hk => hk.2) _) (fun _ _ => trivial)⟩
      · exact ⟨below_set HB5.out hg1⟩
      · obtain ⟨gc, hgc⟩ := HG5.out
        exact ⟨blk_far BK5.out (p := ⟨g, i * 2 + 1, none⟩) (blk_ne BK5.out hgc (by decide)) _⟩
      · obtain ⟨gc, hgc⟩ := HG5.out
        exact ⟨blk_far BR5.out (p := ⟨g, i * 2 + 1, none⟩) (blk_ne BR5.out hgc (by decide)) _⟩
      · have e1 : wrap64 ((i : Int) + 1) = ((i + 1 : Nat) : Int) := by have := HBND.out.1; unfold wrap64; omega
        rw [e1]
        simp [intOf]
        omega
    · have hcb0 := (blk_cell BK.out 0).trans rfl
      have hcb2 := (blk_cell BK.out 2).trans rfl
      have hcb3 := (blk_cell BK.out 3).trans rfl
      have hfr := fun j => blk_frozen BR.out j
      have hr0 := (blk_cell BR.out 0).trans rfl
      have hr1 := (blk_cell BR.out 1).trans rfl
      have hr2 := (blk_cell BR.out 2).trans rfl
      have hr3 := (blk_cell BR.out 3).trans rfl
      go_wp2
      refine bodyPost_ret (results_cell_row rfl _ _ r 27 #[.int .i64 a0_0, .slice A1 l0_1.length c1, .slice A2 l0_2.length c2, .int .i64 a0_3] (0, 0) _ rfl (set4_blk BR.out _ _ _ _) Try.underlying27 rfl (by kernel_rfl)) rfl ?_
      have hin : i = l0_1.length := by omega
      refine ⟨_, _, rfl, set4_S (Kd.of_raw (d := k62) HRW.out HRL.out (by decide) (f := f) (fun j x cs h1 h2 => (HRM.out j x cs h1 h2).1 (by have := (List.getElem?_eq_some_iff.1 h1).1; omega))) BR.out (by decide) _ _ _ _, set4_R HO2.out BR.out (by decide) _ _ _ _, set4_below HB.out (by have := GB.out; have := GR.out; omega) _ _ _ _⟩
/-! ### what an own machine is, and stores into it -/
def setPage (ss : List S62) (j k : Int) (p : S64) : List S62 := ss.set j.toNat ⟨(rd_T62 ss j).f0, (rd_T62 ss j).f1.set k.toNat p⟩
structure CowM (w0 W : World) (v1 v2 : Value) (ss : List S62) (fs : List S57) : Prop where
  sp : Kd.S k62 62 W w0.heap.size (fun _ => True) v1 ss
  fr : Kd.R k57 57 W w0.heap.size (fun _ => True) v2 fs
  hb : Below w0.heap.size w0 W
theorem CowM.below {w0 W W1 : World} {v1 v2 : Value} {ss : List S62} {fs : List S57} (h : CowM w0 W v1 v2 ss fs) (hb : Below W.heap.size W W1) : CowM w0 W1 v1 v2 ss fs :=
  ⟨Kd.S_below h.sp hb, Kd.R_below h.fr hb, below_step h.hb hb⟩
theorem CowM.set4 {w0 W : World} {v1 v2 : Value} {ss : List S62} {fs : List S57} (h : CowM w0 W v1 v2 ss fs) {r : Nat} {cs : Array Value} (hr : W.heap[r]? = some (.cells cs 27 (0, 0))) (hl : w0.heap.size ≤ r) (a b c d : Value) : CowM w0 (set4 W r a b c d) v1 v2 ss fs :=
  ⟨set4_S h.sp hr (by decide) _ _ _ _, set4_R h.fr hr (by decide) _ _ _ _, set4_below h.hb hl _ _ _ _⟩
theorem CowM.off {w0 W : World} {v1 v2 : Value} {ss : List S62} {fs : List S57} (h : CowM w0 W v1 v2 ss fs) {r : Nat} {cs : Array Value} (hr : W.heap[r]? = some (.cells cs 27 (0, 0))) (hl : w0.heap.size ≤ r) (i : Nat) (u : Value) : CowM w0 (W.setCell ⟨r, i, none⟩ u) v1 v2 ss fs :=
  ⟨Kd.S_mono (Kd.S_far (p := ⟨r, i, none⟩) (Kd.S_types h.sp hr (by decide)) (fun k hk => hk.2) u) (fun _ _ => trivial), Kd.R_mono (Kd.R_far (p := ⟨r, i, none⟩) (Kd.R_types h.fr hr (by decide)) (fun k hk => hk.2) u) (fun _ _ => trivial), below_set h.hb hl⟩
structure PageAt (w0 W : World) (gp : Nat) (k : Int) (p : S64) : Prop where
  c0 : W.cell? ⟨gp, k.toNat * 2, none⟩ = some (.int .i64 p.f0)
  c1 : W.cell? ⟨gp, k.toNat * 2 + 1, none⟩ = some (.bool p.f1)
  ty : ∃ cells, W.heap[gp]? = some (.cells cells 64 (0, 0))
  lo : w0.heap.size ≤ gp
theorem PageAt.fz {w0 W : World} {gp : Nat} {k : Int} {p : S64} (h : PageAt w0 W gp k p) (i : Nat) : W.frozen? ⟨gp, i, none⟩ = false := by
  obtain ⟨cells, hh⟩ := h.ty
  exact blk_frozen hh i
structure FrameAt (w0 W : World) (gf : Nat) (i : Int) (f : S57) : Prop where
  c0 : W.cell? ⟨gf, i.toNat * 2, none⟩ = some (.int .i64 f.f0)
  c1 : W.cell? ⟨gf, i.toNat * 2 + 1, none⟩ = some (.int .i64 f.f1)
  ty : ∃ cells, W.heap[gf]? = some (.cells cells 57 (0, 0))
  lo : w0.heap.size ≤ gf
theorem FrameAt.fz {w0 W : World} {gp : Nat} {k : Int} {p : S57} (h : FrameAt w0 W gp k p) (i : Nat) : W.frozen? ⟨gp, i, none⟩ = false := by
  obtain ⟨cells, hh⟩ := h.ty
  exact blk_frozen hh i
theorem add0 (g i : Nat) : (⟨g, 0, none⟩ : Addr).add i = ⟨g, i, none⟩ := by
  unfold Addr.add
  split <;> simp_all
section
variable {w0 W : World} {gs n c1 : Nat} {v2 : Value} {ss : List S62} {fs : List S57}
theorem CowM.space (h : CowM w0 W (.slice (some ⟨gs, 0, none⟩) n c1) v2 ss fs) (j : Int) (j0 : 0 ≤ j) (j1 : j < n) : ∃ Ap cp, W.cell? ⟨gs, j.toNat * 2, none⟩ = some (.bool (rd_T62 ss j).f0) ∧ W.cell? ⟨gs, j.toNat * 2 + 1, none⟩ = some (.slice Ap (rd_T62 ss j).f1.length cp) ∧ (rd_T62 ss j).f1.length ≤ cp ∧ k64.C W Ap (rd_T62 ss j).f1.length (rd_T62 ss j).f1 := by
  obtain ⟨_, _, hC⟩ := Kd.S_reads' h.sp
  obtain ⟨ad, A1, cc, e, h1, h2, h3, h4⟩ := at_T62 hC j j0 (by have := (Kd.S_reads' h.sp).1; omega)
  obtain rfl : ad = ⟨gs, 0, none⟩ := (Option.some.inj e).symm
  rw [add0] at h1 h2
  exact ⟨A1, cc, h1, h2, h3, h4⟩
theorem CowM.page (h : CowM w0 W (.slice (some ⟨gs, 0, none⟩) n c1) v2 ss fs) (j k : Int) (j0 : 0 ≤ j) (j1 : j < n) (k0 : 0 ≤ k) (k1 : k < ((rd_T62 ss j).f1.length : Int)) : ∃ gp cp, W.cell? ⟨gs, j.toNat * 2 + 1, none⟩ = some (.slice (some ⟨gp, 0, none⟩) (rd_T62 ss j).f1.length cp) ∧ PageAt w0 W gp k (rd_T64 (rd_T62 ss j).f1 k) := by
  obtain ⟨c, hcl, hM, hcc⟩ := Kd.S_get h.sp z62 j j0 j1
  obtain ⟨v, rfl, hR⟩ := k62_openM hM
  obtain ⟨gp, cp, rfl, g1, g2, cells, g3⟩ := Kd.R_form hR (by have : (rd_T62 ss j).f1 = (ss.getD j.toNat z62).f1 := rfl; rw [this] at k1; omega)
  obtain ⟨c2, _, hM2, hcc2, _⟩ := Kd.R_elem hR z64 k k0 k1
  obtain rfl := k64_openM hM2
  have e1 := hcc 1 _ rfl
  rw [add0] at e1
  exact ⟨gp, cp, e1, ⟨hcc2 0 _ rfl, hcc2 1 _ rfl, ⟨cells, g3⟩, g1⟩⟩
theorem CowM.page_put (h : CowM w0 W (.slice (some ⟨gs, 0, none⟩) n c1) v2 ss fs) (j k : Int) (j0 : 0 ≤ j) (j1 : j < n) (k0 : 0 ≤ k) (k1 : k < ((rd_T62 ss j).f1.length : Int)) {gp m cp : Nat} (hc : W.cell? ⟨gs, j.toNat * 2 + 1, none⟩ = some (.slice (some ⟨gp, 0, none⟩) m cp)) (p : S64) (u : Value) (i : Nat)
    (hi : (i = 0 ∧ u = .int .i64 p.f0 ∧ p.f1 = (rd_T64 (rd_T62 ss j).f1 k).f1) ∨ (i = 1 ∧ u = .bool p.f1 ∧ p.f0 = (rd_T64 (rd_T62 ss j).f1 k).f0)) :
    CowM w0 (W.setCell ⟨gp, k.toNat * 2 + i, none⟩ u) (.slice (some ⟨gs, 0, none⟩) n c1) v2 (setPage ss j k p) fs ∧ (W.setCell ⟨gp, k.toNat * 2 + i, none⟩ u).cell? ⟨gs, j.toNat * 2 + 1, none⟩ = some (.slice (some ⟨gp, 0, none⟩) m cp) := by
  obtain ⟨oki, c, hcl, hM, hcc, hoki, hback⟩ := Kd.S_borrow h.sp z62 j j0 j1
  obtain ⟨v, rfl, hR⟩ := k62_openM hM
  have e1 := hcc 1 _ rfl
  rw [add0] at e1
  obtain rfl : v = .slice (some ⟨gp, 0, none⟩) m cp := by rw [show j.toNat * k62.sz + 1 = j.toNat * 2 + 1 from rfl, hc] at e1; exact (Option.some.inj e1).symm
  obtain ⟨hm, _, _⟩ := Kd.R_reads' hR
  have hm2 : m = (rd_T62 ss j).f1.length := hm
  obtain ⟨c2, hc2, hM2, hcc2, _⟩ := Kd.R_elem hR z64 k k0 (by omega)
  obtain rfl := k64_openM hM2
  have key : k64.R 64 (W.setCells gp (k.toNat * k64.sz + i) [u]) w0.heap.size oki (.slice (some ⟨gp, 0, none⟩) m cp) ((ss.getD j.toNat z62).f1.set k.toNat p) ∧ W.grownBy (W.setCells gp (k.toNat * k64.sz + i) [u]) (some gp) := by
    refine Kd.R_seg hR k k0 (by omega) (seg := [u]) (j := i) hc2 hcc2 (by rcases hi with ⟨rfl, _⟩ | ⟨rfl, _⟩ <;> first | exact (show 0 + 1 ≤ 2 by decide) | exact (show 1 + 1 ≤ 2 by decide)) (x' := p) (okp := fun _ => False) ?_ (fun _ h => h.elim)
    rcases hi with ⟨rfl, rfl, e⟩ | ⟨rfl, rfl, e⟩
    · have := k64_mkM (W) w0.heap.size (fun _ => False) p
      rw [e] at this
      exact this
    · have := k64_mkM (W) w0.heap.size (fun _ => False) p
      rw [e] at this
      exact this
  obtain ⟨hR1, hgr⟩ := key
  have hty := Kd.R_typed hR
  have hob : (Value.slice (some ⟨gp, 0, none⟩) m cp).ownBlock = some gp := by simp [Value.ownBlock]
  have hlo := Kd.R_base hR gp hob
  have hne : gs ≠ gp := by
    rintro rfl
    have := (hoki gs (hR.1 gs hob)).2
    exact this (by simp [Value.ownBlock])
  refine ⟨⟨hback hgr (fun q hq => by cases hq; exact hR.1 gp hob) (k62_mkM _ _ _ ⟨(rd_T62 ss j).f0, (rd_T62 ss j).f1.set k.toNat p⟩ hR1), ?_, below_set h.hb hlo⟩, ?_⟩
  · exact Kd.R_over' (v := .slice (some ⟨gp, 0, none⟩) m cp) (e' := 64) h.fr hty (by decide) (by rw [hob]; exact hgr)
  · exact (cell_far (p := ⟨gp, k.toNat * 2 + i, none⟩) hne u).trans hc
end
section
variable {w0 W : World} {v1 : Value} {A2 : Option Addr} {n c2 : Nat} {ss : List S62} {fs : List S57}
theorem CowM.frame (h : CowM w0 W v1 (.slice A2 n c2) ss fs) (i : Int) (i0 : 0 ≤ i) (i1 : i < (fs.length : Int)) : ∃ gf, A2 = some ⟨gf, 0, none⟩ ∧ FrameAt w0 W gf i (rd_T57 fs i) := by
  obtain ⟨gf, cf, e, g1, g2, cells, g3⟩ := Kd.R_form h.fr (by omega)
  simp only [Value.slice.injEq] at e
  obtain ⟨rfl, rfl, rfl⟩ := e
  obtain ⟨c, _, hM, hcc, _⟩ := Kd.R_elem h.fr z57 i i0 i1
  obtain rfl := k57_openM hM
  exact ⟨gf, rfl, ⟨hcc 0 _ rfl, hcc 1 _ rfl, ⟨cells, g3⟩, g1⟩⟩
theorem CowM.frame_put {gf : Nat} (h : CowM w0 W v1 (.slice (some ⟨gf, 0, none⟩) n c2) ss fs) (i : Int) (i0 : 0 ≤ i) (i1 : i < (fs.length : Int)) (f : S57) (u : Value) (q : Nat)
    (hi : (q = 0 ∧ u = .int .i64 f.f0 ∧ f.f1 = (rd_T57 fs i).f1) ∨ (q = 1 ∧ u = .int .i64 f.f1 ∧ f.f0 = (rd_T57 fs i).f0)) :
    CowM w0 (W.setCell ⟨gf, i.toNat * 2 + q, none⟩ u) v1 (.slice (some ⟨gf, 0, none⟩) n c2) ss (fs.set i.toNat f) := by
  obtain ⟨hm, _, _⟩ := Kd.R_reads' h.fr
  obtain ⟨c, hc2, hM, hcc, _⟩ := Kd.R_elem h.fr z57 i i0 (by omega)
  obtain rfl := k57_openM hM
  have key : k57.R 57 (W.setCells gf (i.toNat * k57.sz + q) [u]) w0.heap.size (fun _ => True) (.slice (some ⟨gf, 0, none⟩) n c2) (fs.set i.toNat f) ∧ W.grownBy (W.setCells gf (i.toNat * k57.sz + q) [u]) (some gf) := by
    refine Kd.R_seg h.fr i i0 (by omega) (seg := [u]) (j := q) hc2 hcc (by rcases hi with ⟨rfl, _⟩ | ⟨rfl, _⟩ <;> first | exact (show 0 + 1 ≤ 2 by decide) | exact (show 1 + 1 ≤ 2 by decide)) (x' := f) (okp := fun _ => False) ?_ (fun _ h => h.elim)
    rcases hi with ⟨rfl, rfl, e⟩ | ⟨rfl, rfl, e⟩
    · have := k57_mkM (W) w0.heap.size (fun _ => False) f
      rw [e] at this
      exact this
    · have := k57_mkM (W) w0.heap.size (fun _ => False) f
      rw [e] at this
      exact this
  have hob : (Value.slice (some ⟨gf, 0, none⟩) n c2).ownBlock = some gf := by simp [Value.ownBlock]
  exact ⟨Kd.S_over' (v := .slice (some ⟨gf, 0, none⟩) n c2) (e' := 57) h.sp (Kd.R_typed h.fr) (by decide) (by rw [hob]; exact key.2), key.1, below_set h.hb (Kd.R_base h.fr gf hob)⟩
end
theorem rd62_set (ss : List S62) (j : Int) (j0 : 0 ≤ j) (j1 : j < (ss.length : Int)) (x : S62) : rd_T62 (ss.set j.toNat x) j = x := by
  unfold rd_T62
  rw [List.getD_eq_getElem?_getD, List.getElem?_set_self (by omega)]
  rfl
theorem rd64_set (ps : List S64) (j : Int) (j0 : 0 ≤ j) (j1 : j < (ps.length : Int)) (x : S64) : rd_T64 (ps.set j.toNat x) j = x := by
  unfold rd_T64
  rw [List.getD_eq_getElem?_getD, List.getElem?_set_self (by omega)]
  rfl
theorem rd57_set (fs : List S57) (j : Int) (j0 : 0 ≤ j) (j1 : j < (fs.length : Int)) (x : S57) : rd_T57 (fs.set j.toNat x) j = x := by
  unfold rd_T57
  rw [List.getD_eq_getElem?_getD, List.getElem?_set_self (by omega)]
  rfl
theorem setPage_len (ss : List S62) (j k : Int) (p : S64) : (setPage ss j k p).length = ss.length := List.length_set
theorem setPage_row (ss : List S62) (j k : Int) (p : S64) (j0 : 0 ≤ j) (j1 : j < (ss.length : Int)) : rd_T62 (setPage ss j k p) j = ⟨(rd_T62 ss j).f0, (rd_T62 ss j).f1.set k.toNat p⟩ := rd62_set ss j j0 j1 _
theorem setPage_rowlen (ss : List S62) (j k : Int) (p : S64) (j0 : 0 ≤ j) (j1 : j < (ss.length : Int)) : (rd_T62 (setPage ss j k p) j).f1.length = (rd_T62 ss j).f1.length := by rw [setPage_row ss j k p j0 j1]; exact List.length_set
theorem setPage_pg (ss : List S62) (j k : Int) (p : S64) (j0 : 0 ≤ j) (j1 : j < (ss.length : Int)) (k0 : 0 ≤ k) (k1 : k < ((rd_T62 ss j).f1.length : Int)) : rd_T64 (rd_T62 (setPage ss j k p) j).f1 k = p := by
  rw [setPage_row ss j k p j0 j1]
  exact rd64_set _ k k0 k1 p
theorem setPage_twice (ss : List S62) (j k : Int) (p q : S64) (j0 : 0 ≤ j) (j1 : j < (ss.length : Int)) : setPage (setPage ss j k p) j k q = setPage ss j k q := by
  rw [setPage, setPage_row ss j k p j0 j1, setPage, setPage]
  simp only [List.set_set]
section
variable {w0 W : World} {gs n c1 : Nat} {v2 : Value} {ss : List S62} {fs : List S57}
theorem CowM.len (h : CowM w0 W (.slice (some ⟨gs, 0, none⟩) n c1) v2 ss fs) : n = ss.length := (Kd.S_reads' h.sp).1
/-- A whole page stored. -/
theorem CowM.page_put2 (h : CowM w0 W (.slice (some ⟨gs, 0, none⟩) n c1) v2 ss fs) (j k : Int) (j0 : 0 ≤ j) (j1 : j < n) (k0 : 0 ≤ k) (k1 : k < ((rd_T62 ss j).f1.length : Int)) {gp m cp : Nat} (hc : W.cell? ⟨gs, j.toNat * 2 + 1, none⟩ = some (.slice (some ⟨gp, 0, none⟩) m cp)) (p : S64) :
    CowM w0 ((W.setCell ⟨gp, k.toNat * 2, none⟩ (.int .i64 p.f0)).setCell ⟨gp, k.toNat * 2 + 1, none⟩ (.bool p.f1)) (.slice (some ⟨gs, 0, none⟩) n c1) v2 (setPage ss j k p) fs ∧ ((W.setCell ⟨gp, k.toNat * 2, none⟩ (.int .i64 p.f0)).setCell ⟨gp, k.toNat * 2 + 1, none⟩ (.bool p.f1)).cell? ⟨gs, j.toNat * 2 + 1, none⟩ = some (.slice (some ⟨gp, 0, none⟩) m cp) := by
  have hl := h.len
  obtain ⟨h1, h2⟩ := h.page_put j k j0 j1 k0 k1 hc ⟨p.f0, (rd_T64 (rd_T62 ss j).f1 k).f1⟩ (.int .i64 p.f0) 0 (Or.inl ⟨rfl, rfl, rfl⟩)
  have h3 := h1.page_put j k j0 j1 k0 (by rw [setPage_rowlen _ _ _ _ j0 (by omega)]; exact k1) h2 p (.bool p.f1) 1 (Or.inr ⟨rfl, rfl, by rw [setPage_pg _ _ _ _ j0 (by omega) k0 k1]⟩)
  rw [setPage_twice _ _ _ _ _ j0 (by omega)] at h3
  exact h3
theorem PageAt.box {gp b : Nat} {k : Int} {p : S64} {cs : Array Value} (h : PageAt w0 W gp k p) (hb : W.heap[b]? = some (.cells cs 27 (0, 0))) : b ≠ gp := by
  obtain ⟨cells, hh⟩ := h.ty
  exact blk_ne hb hh (by decide)
theorem FrameAt.box {gp b : Nat} {k : Int} {p : S57} {cs : Array Value} (h : FrameAt w0 W gp k p) (hb : W.heap[b]? = some (.cells cs 27 (0, 0))) : b ≠ gp := by
  obtain ⟨cells, hh⟩ := h.ty
  exact blk_ne hb hh (by decide)
end
theorem CowM.drewN {w0 W : World} {v1 v2 : Value} {ss : List S62} {fs : List S57} (h : CowM w0 W v1 v2 ss fs) (m : Nat) : CowM w0 (W.drewN m) v1 v2 ss fs := h.below (pw_below_drewN (Below.refl _ _) m)
/-! ### cow.clear, function 37: what it does to an own machine -/
def clearF (fs : List S57) (f : Int) : List S57 := if 0 ≤ f then fs.set f.toNat ⟨wrap64 ((rd_T57 fs f).f0 - 1), if wrap64 ((rd_T57 fs f).f0 - 1) = 0 then 0 else (rd_T57 fs f).f1⟩ else fs
theorem CowM.page_at {w0 W : World} {gs n c1 : Nat} {v2 : Value} {ss : List S62} {fs : List S57} (h : CowM w0 W (.slice (some ⟨gs, 0, none⟩) n c1) v2 ss fs) (j k : Int) (j0 : 0 ≤ j) (j1 : j < n) (k0 : 0 ≤ k) (k1 : k < ((rd_T62 ss j).f1.length : Int)) {gp m cpp : Nat} (hc : W.cell? ⟨gs, j.toNat * 2 + 1, none⟩ = some (.slice (some ⟨gp, 0, none⟩) m cpp)) : PageAt w0 W gp k (rd_T64 (rd_T62 ss j).f1 k) := by
  obtain ⟨gp', cpp', hc', hP⟩ := h.page j k j0 j1 k0 k1
  rw [hc] at hc'
  simp only [Option.some.injEq, Value.slice.injEq, Addr.mk.injEq] at hc'
  obtain ⟨⟨rfl, _, _⟩, rfl, rfl⟩ := hc'
  exact hP
theorem CowM.frame_at {w0 W : World} {v1 : Value} {gf n c2 : Nat} {ss : List S62} {fs : List S57} (h : CowM w0 W v1 (.slice (some ⟨gf, 0, none⟩) n c2) ss fs) (i : Int) (i0 : 0 ≤ i) (i1 : i < (fs.length : Int)) : FrameAt w0 W gf i (rd_T57 fs i) := by
  obtain ⟨gf', e, hF⟩ := h.frame i i0 i1
  simp only [Option.some.injEq, Addr.mk.injEq] at e
  obtain ⟨rfl, _⟩ := e
  exact hF
set_option maxRecDepth 100000 in
set_option maxHeartbeats 4000000 in
theorem cow_clear.calls {w0 W : World} {gs n c1 n2 c2 : Nat} {A2 : Option Addr} {ss : List S62} {fs : List S57} (size cp : Int) (h : CowM w0 W (.slice (some ⟨gs, 0, none⟩) n c1) (.slice A2 n2 c2) ss fs) (j k : Int) (j0 : 0 ≤ j) (j1 : j < n) (k0 : 0 ≤ k) (k1 : k < ((rd_T62 ss j).f1.length : Int)) {gp m cpp : Nat} (hc : W.cell? ⟨gs, j.toNat * 2 + 1, none⟩ = some (.slice (some ⟨gp, 0, none⟩) m cpp)) (hf : (rd_T64 (rd_T62 ss j).f1 k).f0 < (fs.length : Int)) (hfl : (fs.length : Int) ≤ 1000000000) :
    Calls Try.prog 37 #[.agg #[.int .i64 size, .slice (some ⟨gs, 0, none⟩) n c1, .slice A2 n2 c2, .int .i64 cp], .pointer (some ⟨gp, k.toNat * 2, none⟩)] W fun e W' => (∃ v, e = .returned v) ∧ CowM w0 W' (.slice (some ⟨gs, 0, none⟩) n c1) (.slice A2 n2 c2) (setPage ss j k ⟨-1, false⟩) (clearF fs (rd_T64 (rd_T62 ss j).f1 k).f0) ∧ W'.cell? ⟨gs, j.toNat * 2 + 1, none⟩ = some (.slice (some ⟨gp, 0, none⟩) m cpp) ∧ ∀ (b : Nat) (cs : Array Value), W.heap[b]? = some (Obj.cells cs 27 (0, 0)) → W'.heap[b]? = some (Obj.cells cs 27 (0, 0)) := by
  have H := Aside0.mk h
  have HC := Aside0.mk hc
  obtain ⟨gp', cpp', hc', hP⟩ := h.page j k j0 j1 k0 k1
  rw [hc] at hc'
  simp only [Option.some.injEq, Value.slice.injEq, Addr.mk.injEq] at hc'
  obtain ⟨⟨rfl, _, _⟩, rfl, rfl⟩ := hc'
  have HP := Aside0.mk hP
  clear h hc hP
  generalize hp : rd_T64 (rd_T62 ss j).f1 k = p at hf HP
  have HPP := Aside0.mk hp
  clear hp
  have hu27 := Try.underlying27
  have hu57 := Try.underlying57
  have hu64 := Try.underlying64
  go_enter Try.func37, Try.ntmps37
  go_upto_region 1 with (first | ((with_reducible refine gate_dst (N := 2) rfl ?_); refine box_event rfl (N := 2) rfl (cs := #[.int .i64 size, .slice (some ⟨gs, 0, none⟩) n c1, .slice A2 n2 c2, .int .i64 cp]) (t := 27) (by first | (go_simp; done) | (go_simp; rfl)) ?_; intro b hb0 w1 hbox hB1))
  have H1 := Aside0.mk (H.out.below hB1)
  have HC1 := Aside0.mk ((hB1.cell (World.block_lt_of_cell? _ _ HC.out)).trans HC.out)
  have HB := Aside0.mk hB1
  have BK := Aside0.mk hbox
  have hc0 : w1.cell? ⟨gp, k.toNat * 2, none⟩ = some (.int .i64 p.f0) := (hB1.cell (World.block_lt_of_cell? _ _ HP.out.c0)).trans HP.out.c0
  have hc1' : w1.cell? ⟨gp, k.toNat * 2 + 1, none⟩ = some (.bool p.f1) := (hB1.cell (World.block_lt_of_cell? _ _ HP.out.c1)).trans HP.out.c1
  have hty : ∃ cells, w1.heap[gp]? = some (.cells cells 64 (0, 0)) := by
    obtain ⟨cells, hh⟩ := HP.out.ty
    exact ⟨cells, blk_below hh hB1⟩
  have hz0 : w1.frozen? ⟨gp, k.toNat * 2, none⟩ = false := by obtain ⟨cells, hh⟩ := hty; exact blk_frozen hh _
  have hz1 : w1.frozen? ⟨gp, k.toNat * 2 + 1, none⟩ = false := by obtain ⟨cells, hh⟩ := hty; exact blk_frozen hh _
  have hcb2 : w1.cell? ⟨b, 2, none⟩ = some (.slice A2 n2 c2) := (blk_cell hbox 2).trans rfl
  clear H HC hB1 hbox hb0
  by_cases hf0 : 0 ≤ p.f0
  · obtain ⟨gf, rfl, hF⟩ := H1.out.frame p.f0 hf0 hf
    have hn2 : n2 = fs.length := (Kd.R_reads' H1.out.fr).1
    have hf00 := hF.c0
    have d1 : decide (0 ≤ p.f0) = true := decide_eq_true hf0
    have d2 : decide (p.f0 < (n2 : Int)) = true := decide_eq_true (by omega)
    have hfz0 := hF.fz (p.f0.toNat * 2)
    have hfz1 := hF.fz (p.f0.toNat * 2 + 1)
    have BX := Aside0.mk (show ∀ (b' : Nat) (cs : Array Value), W.heap[b']? = some (Obj.cells cs 27 (0, 0)) → w1.heap[b']? = some (Obj.cells cs 27 (0, 0)) from fun b' cs hb' => blk_below hb' HB.out)
    have HGF := Aside0.mk (show ∀ (b' : Nat) (cs : Array Value), w1.heap[b']? = some (Obj.cells cs 27 (0, 0)) → b' ≠ gf from fun b' cs hb' => hF.box hb')
    have HGG := Aside0.mk (show gs ≠ gf from by
      obtain ⟨cells, hh⟩ := hF.ty
      obtain ⟨cells2, hh2⟩ := Kd.S_typed H1.out.sp gs (by simp [Value.ownBlock])
      exact blk_ne hh2 hh (by decide))
    go_wp2
    go_quiet (fail)
    go_upto_region 4 with (fail)
    have H2 := Aside0.mk ((H1.out.drewN nq).frame_put p.f0 hf0 hf ⟨wrap64 ((rd_T57 fs p.f0).f0 - 1), (rd_T57 fs p.f0).f1⟩ (.int .i64 (wrap64 ((rd_T57 fs p.f0).f0 - 1))) 0 (Or.inl ⟨rfl, rfl, rfl⟩))
    have HC2 := Aside0.mk (show ((w1.drewN nq).setCell ⟨gf, p.f0.toNat * 2, none⟩ (.int .i64 (wrap64 ((rd_T57 fs p.f0).f0 - 1)))).cell? ⟨gs, j.toNat * 2 + 1, none⟩ = _ from (cell_far (W := w1.drewN nq) (p := ⟨gf, p.f0.toNat * 2, none⟩) (a := ⟨gs, j.toNat * 2 + 1, none⟩) HGG.out _).trans HC1.out)
    have BX2 := Aside0.mk (show ∀ (b' : Nat) (cs : Array Value), W.heap[b']? = some (Obj.cells cs 27 (0, 0)) → ((w1.drewN nq).setCell ⟨gf, p.f0.toNat * 2, none⟩ (.int .i64 (wrap64 ((rd_T57 fs p.f0).f0 - 1)))).heap[b']? = some (Obj.cells cs 27 (0, 0)) from fun b' cs hb' => blk_far (w := w1.drewN nq) (p := ⟨gf, p.f0.toNat * 2, none⟩) (BX.out b' cs hb') (HGF.out b' cs (BX.out b' cs hb')) _)
    rw [show p.f0.toNat * 2 + 0 = p.f0.toNat * 2 from rfl] at H2
    clear hf00 hfz0 hfz1 hc0 hc1' hz0 hz1 hcb2 hty BX HC1 H1
    generalize (w1.drewN nq).setCell ⟨gf, p.f0.toNat * 2, none⟩ (.int .i64 (wrap64 ((rd_T57 fs p.f0).f0 - 1))) = W2 at H2 HC2 BX2 ⊢
    have hl1 : ∀ (x : S57), p.f0 < ((fs.set p.f0.toNat x).length : Int) := fun x => by rw [List.length_set]; exact hf
    have hF2 := H2.out.frame_at p.f0 hf0 (hl1 _)
    rw [rd57_set fs p.f0 hf0 hf] at hF2
    have hP2 := H2.out.page_at j k j0 j1 k0 k1 HC2.out
    rw [HPP.out] at hP2
    have hf00 := hF2.c0
    have hfz1 := hF2.fz (p.f0.toNat * 2 + 1)
    have hf01 := hF2.c1
    have hp0 := hP2.c0
    have hp1 := hP2.c1
    have hz0 := hP2.fz (k.toNat * 2)
    have hz1 := hP2.fz (k.toNat * 2 + 1)
    have H1l := Aside0.mk hl1
    have HGS := Aside0.mk hP2.ty
    have HF2 := Aside0.mk hF2
    clear hF2 hP2 hl1 hF
    have HW := Aside0.mk (show clearF fs p.f0 = fs.set p.f0.toNat ⟨wrap64 ((rd_T57 fs p.f0).f0 - 1), if wrap64 ((rd_T57 fs p.f0).f0 - 1) = 0 then 0 else (rd_T57 fs p.f0).f1⟩ from if_pos hf0)
    generalize wrap64 ((rd_T57 fs p.f0).f0 - 1) = q at *
    by_cases hq : q = 0
    · subst hq
      go_upto_region 6 with (fail)
      have H3 := Aside0.mk (H2.out.frame_put p.f0 hf0 (H1l.out _) ⟨0, 0⟩ (.int .i64 0) 1 (Or.inr ⟨rfl, rfl, by rw [rd57_set fs p.f0 hf0 hf]⟩))
      have HC3 := Aside0.mk (show (W2.setCell ⟨gf, p.f0.toNat * 2 + 1, none⟩ (.int .i64 0)).cell? ⟨gs, j.toNat * 2 + 1, none⟩ = _ from (cell_far (p := ⟨gf, p.f0.toNat * 2 + 1, none⟩) (a := ⟨gs, j.toNat * 2 + 1, none⟩) HGG.out _).trans HC2.out)
      have BX3 := Aside0.mk (show ∀ (b' : Nat) (cs : Array Value), W.heap[b']? = some (Obj.cells cs 27 (0, 0)) → (W2.setCell ⟨gf, p.f0.toNat * 2 + 1, none⟩ (.int .i64 0)).heap[b']? = some (Obj.cells cs 27 (0, 0)) from fun b' cs hb' => blk_far (p := ⟨gf, p.f0.toNat * 2 + 1, none⟩) (BX2.out b' cs hb') (HF2.out.box (BX2.out b' cs hb')) _)
      rw [List.set_set] at H3
      clear hf00 hf01 hfz1 hz0 hz1 hp0 hp1 HGS H2 HC2 BX2 HF2
      generalize W2.setCell ⟨gf, p.f0.toNat * 2 + 1, none⟩ (.int .i64 0) = W3 at H3 HC3 BX3 ⊢
      have hP3 := H3.out.page_at j k j0 j1 k0 k1 HC3.out
      rw [HPP.out] at hP3
      have hp0 := hP3.c0
      have hp1 := hP3.c1
      have hz0 := hP3.fz (k.toNat * 2)
      have hz1 := hP3.fz (k.toNat * 2 + 1)
      have HGS := Aside0.mk hP3.ty
      clear hP3
      go_wp2
      go_end0
      have h2 := H3.out.page_put2 j k j0 j1 k0 k1 HC3.out ⟨-1, false⟩
      obtain ⟨cells, hh⟩ := HGS.out
      refine ⟨⟨_, rfl⟩, by rw [HW.out, if_pos trivial, ← hn2]; exact h2.1, h2.2, fun b' cs hb' => ?_⟩
      have h3 := BX3.out b' cs hb'
      have hne := blk_ne h3 hh (by decide)
      exact blk_far (blk_far h3 (p := ⟨gp, k.toNat * 2, none⟩) hne _) (p := ⟨gp, k.toNat * 2 + 1, none⟩) hne _
    · have e0 : (q == 0) = false := beq_eq_false_iff_ne.mpr hq
      have HQ := Aside0.mk hq
      clear hq
      go_wp2
      go_end0
      have h2 := H2.out.page_put2 j k j0 j1 k0 k1 HC2.out ⟨-1, false⟩
      obtain ⟨cells, hh⟩ := HGS.out
      refine ⟨⟨_, rfl⟩, by rw [HW.out, if_neg HQ.out, ← hn2]; exact h2.1, h2.2, fun b' cs hb' => ?_⟩
      have h3 := BX2.out b' cs hb'
      have hne := blk_ne h3 hh (by decide)
      exact blk_far (blk_far h3 (p := ⟨gp, k.toNat * 2, none⟩) hne _) (p := ⟨gp, k.toNat * 2 + 1, none⟩) hne _
  · go_wp2
    go_end0
    have h2 := H1.out.page_put2 j k j0 j1 k0 k1 HC1.out ⟨-1, false⟩
    obtain ⟨cells, hh⟩ := hty
    refine ⟨⟨_, rfl⟩, by unfold clearF; rw [if_neg (by omega)]; exact h2.1, h2.2, fun b' cs hb' => ?_⟩
    have h3 := blk_below hb' HB.out
    have hne := blk_ne h3 hh (by decide)
    exact blk_far (blk_far h3 (p := ⟨gp, k.toNat * 2, none⟩) hne _) (p := ⟨gp, k.toNat * 2 + 1, none⟩) hne _
def okC (ss : List S62) (fs : List S57) : Prop := ss.length ≤ 1000 ∧ fs.length ≤ 1000 ∧ ∀ x ∈ ss, x.f1.length ≤ 1000
def okP (ss : List S62) (fs : List S57) (j k : Int) : Prop := okC ss fs ∧ 0 ≤ j ∧ j < (ss.length : Int) ∧ 0 ≤ k ∧ k < ((rd_T62 ss j).f1.length : Int) ∧ (rd_T64 (rd_T62 ss j).f1 k).f0 < (fs.length : Int)
instance (ss : List S62) (fs : List S57) : Decidable (okC ss fs) := by unfold okC; infer_instance
instance (ss : List S62) (fs : List S57) (j k : Int) : Decidable (okP ss fs j k) := by unfold okP; infer_instance
theorem own_of_ok {a0 a3 : Int} {ss : List S62} {fs : List S57} (h : okC ss fs) : cow_own.f a0 ss fs a3 = some (a0, ss, fs, a3) := by
  unfold cow_own.f
  rw [if_pos ⟨by have := h.1; omega, by have := h.2.1; omega, fun x hx => by have := h.2.2 x hx; omega⟩]

theorem CowM.space_zero {w0 W : World} {gs n c1 : Nat} {v2 : Value} {ss : List S62} {fs : List S57} (h : CowM w0 W (.slice (some ⟨gs, 0, none⟩) n c1) v2 ss fs) (j : Int) (j0 : 0 ≤ j) (j1 : j < n) :
    CowM w0 ((W.setCell ⟨gs, j.toNat * 2, none⟩ (.bool false)).setCell ⟨gs, j.toNat * 2 + 1, none⟩ (.slice none 0 0)) (.slice (some ⟨gs, 0, none⟩) n c1) v2 (ss.set j.toNat ⟨false, []⟩) fs := by
  have hS : Kd.S k62 62 W w0.heap.size (fun k => True ∧ ¬ (fun _ => False : Nat → Prop) k) (.slice (some ⟨gs, 0, none⟩) n c1) ss := Kd.S_mono h.sp (fun _ _ => ⟨trivial, fun h => h⟩)
  obtain ⟨oki, c, hcl, hM, hcc, hfr, hoki, hH⟩ := Kd.S_elem hS z62 j j0 j1
  have hlo := Kd.S_base h.sp gs (by simp [Value.ownBlock])
  have key := Kd.S_seg (ok := fun _ => True) (okg := fun _ => False) hH j0 j1 (seg := [.bool false, .slice none 0 0]) (j := 0) (by show 0 + 2 ≤ 2; decide) (x' := (⟨false, []⟩ : S62)) (okp := fun _ => False) (by
    have e : (List.take 0 c ++ [Value.bool false, Value.slice none 0 0] ++ List.drop (0 + [Value.bool false, Value.slice none 0 0].length) c) = [Value.bool false, Value.slice none 0 0] := by
      have hcl2 : c.length = 2 := hcl
      have hd : List.drop 2 c = [] := List.drop_eq_nil_of_le (by omega)
      show [] ++ _ ++ List.drop 2 c = _
      rw [hd]; rfl
    rw [e]
    exact k62_mkM _ _ _ ⟨false, []⟩ (Kd.R_nil _ _ _ _ _)) (fun _ h => h.elim) (fun _ h => h.elim)
  have hob : (Value.slice (some ⟨gs, 0, none⟩) n c1).ownBlock = some gs := by simp [Value.ownBlock]
  refine ⟨key.1, ?_, below_set (below_set h.hb hlo) hlo⟩
  exact Kd.R_over' (v := .slice (some ⟨gs, 0, none⟩) n c1) (e' := 62) h.fr (Kd.S_typed h.sp) (by decide) (by rw [hob]; exact key.2)
/-! ### what Exit leaves -/
def exitN (j : Int) (ss : List S62) (fs : List S57) : Nat → List S62 × List S57
  | 0 => (ss, fs)
  | i + 1 => (setPage (exitN j ss fs i).1 j i ⟨-1, false⟩, clearF (exitN j ss fs i).2 (rd_T64 (rd_T62 (exitN j ss fs i).1 j).f1 i).f0)
theorem clearF_len (fs : List S57) (f : Int) : (clearF fs f).length = fs.length := by
  unfold clearF
  split
  · exact List.length_set
  · rfl
theorem exitN_inv (j : Int) (ss : List S62) (fs : List S57) (j0 : 0 ≤ j) (j1 : j < (ss.length : Int)) : ∀ i : Nat, (exitN j ss fs i).1.length = ss.length ∧ (exitN j ss fs i).2.length = fs.length ∧ (rd_T62 (exitN j ss fs i).1 j).f0 = (rd_T62 ss j).f0 ∧ (rd_T62 (exitN j ss fs i).1 j).f1.length = (rd_T62 ss j).f1.length ∧ ∀ k : Nat, i ≤ k → rd_T64 (rd_T62 (exitN j ss fs i).1 j).f1 k = rd_T64 (rd_T62 ss j).f1 k
  | 0 => ⟨rfl, rfl, rfl, rfl, fun _ _ => rfl⟩
  | i + 1 => by
    obtain ⟨h1, h2, h3, h4, h5⟩ := exitN_inv j ss fs j0 j1 i
    refine ⟨(setPage_len _ _ _ _).trans h1, (clearF_len _ _).trans h2, ?_, (setPage_rowlen _ _ _ _ j0 (by rw [h1]; exact j1)).trans h4, fun k hk => ?_⟩
    · show (rd_T62 (setPage (exitN j ss fs i).1 j i ⟨-1, false⟩) j).f0 = _
      rw [setPage_row _ _ _ _ j0 (by rw [h1]; exact j1)]
      exact h3
    · show rd_T64 (rd_T62 (setPage (exitN j ss fs i).1 j i ⟨-1, false⟩) j).f1 k = _
      rw [setPage_row _ _ _ _ j0 (by rw [h1]; exact j1), ← h5 k (by omega)]
      unfold rd_T64
      rw [List.getD_eq_getElem?_getD, List.getD_eq_getElem?_getD, List.getElem?_set_ne (by omega)]
def okE (ss : List S62) (fs : List S57) (j : Int) : Prop := okC ss fs ∧ 0 ≤ j ∧ j < (ss.length : Int) ∧ 0 < (rd_T62 ss j).f1.length ∧ ∀ k, k < (rd_T62 ss j).f1.length → (rd_T64 (rd_T62 ss j).f1 (k : Int)).f0 < (fs.length : Int)
instance (ss : List S62) (fs : List S57) (j : Int) : Decidable (okE ss fs j) := by unfold okE; infer_instance
def exitSS (ss : List S62) (fs : List S57) (j : Int) : List S62 := (exitN j ss fs (rd_T62 ss j).f1.length).1.set j.toNat ⟨false, []⟩
def exitFS (ss : List S62) (fs : List S57) (j : Int) : List S57 := (exitN j ss fs (rd_T62 ss j).f1.length).2
/-! ### the state of a walk over an own machine: the machine, the way to row j's pages, three boxes -/
structure Cst (w0 W : World) (b : Nat) (cb : Array Value) (r : Nat) (cr : Array Value) (o : Nat) (co : Array Value) (gs n c1 : Nat) (A2 : Option Addr) (n2 c2 : Nat) (j : Int) (gp m cpp : Nat) (ss : List S62) (fs : List S57) : Prop where
  cm : CowM w0 W (.slice (some ⟨gs, 0, none⟩) n c1) (.slice A2 n2 c2) ss fs
  hc : W.cell? ⟨gs, j.toNat * 2 + 1, none⟩ = some (.slice (some ⟨gp, 0, none⟩) m cpp)
  bk : W.heap[b]? = some (.cells cb 27 (0, 0))
  br : W.heap[r]? = some (.cells cr 27 (0, 0))
  bo : W.heap[o]? = some (.cells co 27 (0, 0))
section
variable {w0 W : World} {b r o : Nat} {cb cr co : Array Value} {gs n c1 : Nat} {A2 : Option Addr} {n2 c2 : Nat} {j : Int} {gp m cpp : Nat} {ss : List S62} {fs : List S57}
theorem Cst.below {W1 : World} (h : Cst w0 W b cb r cr o co gs n c1 A2 n2 c2 j gp m cpp ss fs) (hb : Below W.heap.size W W1) : Cst w0 W1 b cb r cr o co gs n c1 A2 n2 c2 j gp m cpp ss fs :=
  ⟨h.cm.below hb, (hb.cell (World.block_lt_of_cell? _ _ h.hc)).trans h.hc, blk_below h.bk hb, blk_below h.br hb, blk_below h.bo hb⟩
theorem Cst.drewN (h : Cst w0 W b cb r cr o co gs n c1 A2 n2 c2 j gp m cpp ss fs) (k : Nat) : Cst w0 (W.drewN k) b cb r cr o co gs n c1 A2 n2 c2 j gp m cpp ss fs := h.below (pw_below_drewN (Below.refl _ _) k)
theorem Cst.page (h : Cst w0 W b cb r cr o co gs n c1 A2 n2 c2 j gp m cpp ss fs) (k : Int) (j0 : 0 ≤ j) (j1 : j < n) (k0 : 0 ≤ k) (k1 : k < ((rd_T62 ss j).f1.length : Int)) (p : S64) (u : Value) (i : Nat)
    (hi : (i = 0 ∧ u = .int .i64 p.f0 ∧ p.f1 = (rd_T64 (rd_T62 ss j).f1 k).f1) ∨ (i = 1 ∧ u = .bool p.f1 ∧ p.f0 = (rd_T64 (rd_T62 ss j).f1 k).f0)) :
    Cst w0 (W.setCell ⟨gp, k.toNat * 2 + i, none⟩ u) b cb r cr o co gs n c1 A2 n2 c2 j gp m cpp (setPage ss j k p) fs := by
  have h1 := h.cm.page_put j k j0 j1 k0 k1 h.hc p u i hi
  have hp := h.cm.page_at j k j0 j1 k0 k1 h.hc
  exact ⟨h1.1, h1.2, blk_far h.bk (p := ⟨gp, k.toNat * 2 + i, none⟩) (hp.box h.bk) u, blk_far h.br (p := ⟨gp, k.toNat * 2 + i, none⟩) (hp.box h.br) u, blk_far h.bo (p := ⟨gp, k.toNat * 2 + i, none⟩) (hp.box h.bo) u⟩
theorem Cst.pageAt (h : Cst w0 W b cb r cr o co gs n c1 A2 n2 c2 j gp m cpp ss fs) (k : Int) (j0 : 0 ≤ j) (j1 : j < n) (k0 : 0 ≤ k) (k1 : k < ((rd_T62 ss j).f1.length : Int)) : PageAt w0 W gp k (rd_T64 (rd_T62 ss j).f1 k) := h.cm.page_at j k j0 j1 k0 k1 h.hc
theorem Cst.gs_ne (h : Cst w0 W b cb r cr o co gs n c1 A2 n2 c2 j gp m cpp ss fs) : gs ≠ b := by
  obtain ⟨cells, hh⟩ := Kd.S_typed h.cm.sp gs (by simp [Value.ownBlock])
  exact (blk_ne h.bk hh (by decide)).symm
theorem Cst.boxb (h : Cst w0 W b cb r cr o co gs n c1 A2 n2 c2 j gp m cpp ss fs) (hb : w0.heap.size ≤ b) (hr : r ≠ b) (ho : o ≠ b) (i : Nat) (u : Value) (cb' : Array Value) (hcb : cb.setIfInBounds i u = cb') :
    Cst w0 (W.setCell ⟨b, i, none⟩ u) b cb' r cr o co gs n c1 A2 n2 c2 j gp m cpp ss fs :=
  ⟨h.cm.off h.bk hb i u, (cell_far (p := ⟨b, i, none⟩) (a := ⟨gs, j.toNat * 2 + 1, none⟩) h.gs_ne u).trans h.hc, by rw [← hcb]; exact blk_set h.bk i u, blk_far h.br (p := ⟨b, i, none⟩) hr u, blk_far h.bo (p := ⟨b, i, none⟩) ho u⟩
theorem Cst.len (h : Cst w0 W b cb r cr o co gs n c1 A2 n2 c2 j gp m cpp ss fs) : n = ss.length := h.cm.len
end
section
variable {w0 W : World} {b r o : Nat} {cb cr co : Array Value} {gs n c1 gf n2 c2 : Nat} {j : Int} {gp m cpp : Nat} {ss : List S62} {fs : List S57}
theorem Cst.frameAt (h : Cst w0 W b cb r cr o co gs n c1 (some ⟨gf, 0, none⟩) n2 c2 j gp m cpp ss fs) (i : Int) (i0 : 0 ≤ i) (i1 : i < (fs.length : Int)) : FrameAt w0 W gf i (rd_T57 fs i) := h.cm.frame_at i i0 i1
theorem Cst.frame (h : Cst w0 W b cb r cr o co gs n c1 (some ⟨gf, 0, none⟩) n2 c2 j gp m cpp ss fs) (i : Int) (i0 : 0 ≤ i) (i1 : i < (fs.length : Int)) (f : S57) (u : Value) (q : Nat)
    (hi : (q = 0 ∧ u = .int .i64 f.f0 ∧ f.f1 = (rd_T57 fs i).f1) ∨ (q = 1 ∧ u = .int .i64 f.f1 ∧ f.f0 = (rd_T57 fs i).f0)) :
    Cst w0 (W.setCell ⟨gf, i.toNat * 2 + q, none⟩ u) b cb r cr o co gs n c1 (some ⟨gf, 0, none⟩) n2 c2 j gp m cpp ss (fs.set i.toNat f) := by
  have hF := h.frameAt i i0 i1
  have hg : gs ≠ gf := by
    obtain ⟨cells, hh⟩ := hF.ty
    obtain ⟨cells2, hh2⟩ := Kd.S_typed h.cm.sp gs (by simp [Value.ownBlock])
    exact blk_ne hh2 hh (by decide)
  exact ⟨h.cm.frame_put i i0 i1 f u q hi, (cell_far (p := ⟨gf, i.toNat * 2 + q, none⟩) (a := ⟨gs, j.toNat * 2 + 1, none⟩) hg u).trans h.hc, blk_far h.bk (p := ⟨gf, i.toNat * 2 + q, none⟩) (hF.box h.bk) u, blk_far h.br (p := ⟨gf, i.toNat * 2 + q, none⟩) (hF.box h.br) u, blk_far h.bo (p := ⟨gf, i.toNat * 2 + q, none⟩) (hF.box h.bo) u⟩
end
def incC (cp : Int) : Int := mn (wrap64 (cp + 1)) 1048576
/-- What a write of word x into page (j, k) leaves: the frame's copy (fr: the free frame), or the word in place. -/
def wFS (fs : List S57) (f fr x : Int) : List S57 := (if 0 ≤ f then fs.set f.toNat ⟨wrap64 ((rd_T57 fs f).f0 - 1), (rd_T57 fs f).f1⟩ else fs).set fr.toNat ⟨1, x⟩
def wCopies (f cp : Int) : Int := if 0 ≤ f then incC cp else cp
def incF (fs : List S57) (f : Int) : List S57 := if 0 ≤ f then fs.set f.toNat ⟨wrap64 ((rd_T57 fs f).f0 + 1), (rd_T57 fs f).f1⟩ else fs
theorem incF_len (fs : List S57) (f : Int) : (incF fs f).length = fs.length := by
  unfold incF
  split
  · exact List.length_set
  · rfl
/-- Row j's first i pages shared once more. -/
def forkN (j : Int) (ss : List S62) (fs : List S57) : Nat → List S62 × List S57
  | 0 => (ss, fs)
  | i + 1 => (setPage (forkN j ss fs i).1 j i ⟨(rd_T64 (rd_T62 (forkN j ss fs i).1 j).f1 i).f0, false⟩, incF (forkN j ss fs i).2 (rd_T64 (rd_T62 (forkN j ss fs i).1 j).f1 i).f0)
theorem forkN_inv (j : Int) (ss : List S62) (fs : List S57) (j0 : 0 ≤ j) (j1 : j < (ss.length : Int)) : ∀ i : Nat, (forkN j ss fs i).1.length = ss.length ∧ (forkN j ss fs i).2.length = fs.length ∧ (rd_T62 (forkN j ss fs i).1 j).f0 = (rd_T62 ss j).f0 ∧ (rd_T62 (forkN j ss fs i).1 j).f1.length = (rd_T62 ss j).f1.length ∧ ∀ k : Nat, i ≤ k → rd_T64 (rd_T62 (forkN j ss fs i).1 j).f1 k = rd_T64 (rd_T62 ss j).f1 k
  | 0 => ⟨rfl, rfl, rfl, rfl, fun _ _ => rfl⟩
  | i + 1 => by
    obtain ⟨h1, h2, h3, h4, h5⟩ := forkN_inv j ss fs j0 j1 i
    refine ⟨(setPage_len _ _ _ _).trans h1, (incF_len _ _).trans h2, ?_, (setPage_rowlen _ _ _ _ j0 (by rw [h1]; exact j1)).trans h4, fun k hk => ?_⟩
    · show (rd_T62 (setPage (forkN j ss fs i).1 j i _) j).f0 = _
      rw [setPage_row _ _ _ _ j0 (by rw [h1]; exact j1)]
      exact h3
    · show rd_T64 (rd_T62 (setPage (forkN j ss fs i).1 j i _) j).f1 k = _
      rw [setPage_row _ _ _ _ j0 (by rw [h1]; exact j1), ← h5 k (by omega)]
      unfold rd_T64
      rw [List.getD_eq_getElem?_getD, List.getElem?_set_ne (by omega), ← List.getD_eq_getElem?_getD]
def forkSS (ss : List S62) (fs : List S57) (j : Int) : List S62 := (forkN j ss fs (rd_T62 ss j).f1.length).1 ++ [⟨true, (rd_T62 (forkN j ss fs (rd_T62 ss j).f1.length).1 j).f1⟩]
def forkFS (ss : List S62) (fs : List S57) (j : Int) : List S57 := (forkN j ss fs (rd_T62 ss j).f1.length).2

/-! ### estoversref25.unmap, function 59: what it does to an own machine -/
set_option maxRecDepth 100000 in
set_option maxHeartbeats 4000000 in
theorem ref_unmap.calls {w0 W : World} {gs n c1 n2 c2 : Nat} {A2 : Option Addr} {ss : List S62} {fs : List S57} (size cp : Int) (h : CowM w0 W (.slice (some ⟨gs, 0, none⟩) n c1) (.slice A2 n2 c2) ss fs) {r o : Nat} {cr co : Array Value} (hr : W.heap[r]? = some (.cells cr 27 (0, 0))) (ho : W.heap[o]? = some (.cells co 27 (0, 0))) (j k : Int) (j0 : 0 ≤ j) (j1 : j < (ss.length : Int)) (k0 : 0 ≤ k) (k1 : k < ((rd_T62 ss j).f1.length : Int)) (hf : (rd_T64 (rd_T62 ss j).f1 k).f0 < (fs.length : Int)) (hfl : (fs.length : Int) ≤ 1000000000) :
    Calls Try.prog 59 #[.agg #[.int .i64 size, .slice (some ⟨gs, 0, none⟩) n c1, .slice A2 n2 c2, .int .i64 cp], .int .i64 j, .int .i64 k] W fun e W' => (∃ v, e = .returned v) ∧ CowM w0 W' (.slice (some ⟨gs, 0, none⟩) n c1) (.slice A2 n2 c2) (setPage ss j k ⟨-1, false⟩) (clearF fs (rd_T64 (rd_T62 ss j).f1 k).f0) ∧ W'.heap[r]? = some (.cells cr 27 (0, 0)) ∧ W'.heap[o]? = some (.cells co 27 (0, 0)) := by
  obtain ⟨gp, cpp, hc, hP⟩ := h.page j k j0 (by rw [h.len]; exact j1) k0 k1
  have hn := h.len
  have hn2 : n2 = fs.length := (Kd.R_reads' h.fr).1
  obtain ⟨m, hm⟩ : ∃ m : Nat, m = (rd_T62 ss j).f1.length := ⟨_, rfl⟩
  rw [← hm] at hc k1
  have HMM := Aside0.mk hm
  have HNN := Aside0.mk hn
  have HN2 := Aside0.mk hn2
  have H := Aside0.mk h
  have HR := Aside0.mk hr
  have HO := Aside0.mk ho
  have HC := Aside0.mk hc
  have hj1 : j < (n : Int) := by rw [hn]; exact j1
  have hf2 : (rd_T64 (rd_T62 ss j).f1 k).f0 < (n2 : Int) := by rw [hn2]; exact hf
  have HF1 := Aside0.mk hf
  have HJ1 := Aside0.mk j1
  have HFL := Aside0.mk (show (n2 : Int) ≤ 1000000000 by rw [hn2]; exact hfl)
  clear h hr ho hc hP hm hn hn2 hf j1 hfl
  generalize hp : rd_T64 (rd_T62 ss j).f1 k = p at *
  have HPP := Aside0.mk hp
  clear hp
  have hu27 := Try.underlying27
  have hu57 := Try.underlying57
  have hu62 := Try.underlying62
  have hu64 := Try.underlying64
  have hfl := HFL.out
  go_enter Try.func59, Try.ntmps59
  go_upto_region 1 with (first | ((with_reducible refine gate_dst (N := 3) rfl ?_); refine box_event rfl (N := 3) rfl (cs := #[.int .i64 size, .slice (some ⟨gs, 0, none⟩) n c1, .slice A2 n2 c2, .int .i64 cp]) (t := 27) (by first | (go_simp; done) | (go_simp; rfl)) ?_; intro b hb0 w1 hbox hB1; clear hb0))
  have C0 : Aside0 (Cst w0 w1 b #[.int .i64 size, .slice (some ⟨gs, 0, none⟩) n c1, .slice A2 n2 c2, .int .i64 cp] r cr o co gs n c1 A2 n2 c2 j gp m cpp ss fs) := ⟨⟨H.out.below hB1, (hB1.cell (World.block_lt_of_cell? _ _ HC.out)).trans HC.out, hbox, blk_below HR.out hB1, blk_below HO.out hB1⟩⟩
  clear H HR HO HC hB1 hbox
  have hcb1 := (blk_cell C0.out.bk 1).trans rfl
  have hgc := C0.out.hc
  have HP := C0.out.pageAt k j0 hj1 k0 (by rw [← HMM.out]; exact k1)
  rw [HPP.out] at HP
  have hpc0 := HP.c0
  have hpc1 := HP.c1
  have hpz0 := HP.fz (k.toNat * 2)
  have hpz1 := HP.fz (k.toNat * 2 + 1)
  clear HP
  go_upto_region 3 with (fail)
  have nC := C0.out.page k j0 hj1 k0 (by rw [← HMM.out]; exact k1) ⟨-1, p.f1⟩ (.int .i64 (-1)) 0 (Or.inl ⟨rfl, rfl, by rw [HPP.out]⟩)
  have nC := nC.page k j0 hj1 k0 (by rw [setPage_rowlen _ _ _ _ j0 HJ1.out, ← HMM.out]; exact k1) ⟨-1, false⟩ (.bool false) 1 (Or.inr ⟨rfl, rfl, by rw [setPage_pg _ _ _ _ j0 HJ1.out k0 (by rw [← HMM.out]; exact k1)]⟩)
  rw [setPage_twice _ _ _ _ _ j0 HJ1.out] at nC
  have C1 : Aside0 (Cst w0 ((w1.setCell ⟨gp, k.toNat * 2, none⟩ (.int .i64 (-1))).setCell ⟨gp, k.toNat * 2 + 1, none⟩ (.bool false)) b #[.int .i64 size, .slice (some ⟨gs, 0, none⟩) n c1, .slice A2 n2 c2, .int .i64 cp] r cr o co gs n c1 A2 n2 c2 j gp m cpp (setPage ss j k ⟨-1, false⟩) fs) := ⟨nC⟩
  clear nC C0 hcb1 hgc hpc0 hpc1 hpz0 hpz1
  generalize (w1.setCell ⟨gp, k.toNat * 2, none⟩ (.int .i64 (-1))).setCell ⟨gp, k.toNat * 2 + 1, none⟩ (.bool false) = W2 at C1 ⊢
  by_cases hf0 : 0 ≤ p.f0
  · obtain ⟨gf, rfl, hF⟩ := C1.out.cm.frame p.f0 hf0 HF1.out
    have q0 : decide (0 ≤ p.f0) = true := decide_eq_true hf0
    have q1 : decide (p.f0 < (n2 : Int)) = true := decide_eq_true hf2
    have hfc0 := hF.c0
    have hfz := hF.fz (p.f0.toNat * 2)
    have hcb2 := (blk_cell C1.out.bk 2).trans rfl
    have HW := Aside0.mk (show clearF fs p.f0 = fs.set p.f0.toNat ⟨wrap64 ((rd_T57 fs p.f0).f0 - 1), if wrap64 ((rd_T57 fs p.f0).f0 - 1) = 0 then 0 else (rd_T57 fs p.f0).f1⟩ from if_pos hf0)
    clear hF
    go_upto_region 4 with (fail)
    refine start_ (n := 13) (S := fun w' => w'.cell? ⟨b, 2, none⟩ = some (.slice (some ⟨gf, 0, none⟩) n2 c2) ∧ w'.cell? ⟨gf, p.f0.toNat * 2, none⟩ = some (.int .i64 (rd_T57 fs p.f0).f0)) (ds := [12]) #[false, false, false, false, false, false, false, false, false, false, false, false, false] (by kernel_rfl) rfl rfl ⟨hcb2, hfc0⟩ (fun hHeld => ?_)
    refine pure_ (i := 0) (N := some 28) (v := ?_) (a' := ?_) #[true, false, false, false, false, false, false, false, false, false, false, false, false] rfl rfl (by kernel_rfl) (fun _ _ _ h => h) (Or.inl ⟨by rfl, ?_⟩) ?_ ?_
    rotate_left
    · intro w'
      go_simp
      with_reducible rfl
    rotate_left
    · simp only [Act.put, List.setIfInBounds_toArray, List.set_cons_zero, List.set_cons_succ, i64_w, i32_w]
      rfl
    refine take_ (i := 1) (N := some 29) (v := ?_) (a' := ?_) #[true, true, false, false, false, false, false, false, false, false, false, false, false] rfl rfl (by kernel_rfl) (fun _ _ _ h => h) (Or.inl ⟨by rfl, ?_⟩) hHeld ?_ ?_
    rotate_left
    · rintro w' ⟨s0, s1⟩
      go_simp
      with_reducible rfl
    rotate_left
    · simp only [Act.put, List.setIfInBounds_toArray, List.set_cons_zero, List.set_cons_succ, i64_w, i32_w]
      rfl
    refine pure_ (i := 2) (N := some 30) (v := ?_) (a' := ?_) #[true, true, true, false, false, false, false, false, false, false, false, false, false] rfl rfl (by kernel_rfl) (fun _ _ _ h => h) (Or.inl ⟨by rfl, ?_⟩) ?_ ?_
    rotate_left
    · intro w'
      go_simp
      with_reducible rfl
    rotate_left
    · simp only [Act.put, List.setIfInBounds_toArray, List.set_cons_zero, List.set_cons_succ, i64_w, i32_w]
      rfl
    refine pure_ (i := 3) (N := some 31) (v := ?_) (a' := ?_) #[true, true, true, true, false, false, false, false, false, false, false, false, false] rfl rfl (by kernel_rfl) (fun _ _ _ h => h) (Or.inl ⟨by rfl, ?_⟩) ?_ ?_
    rotate_left
    · intro w'
      go_simp
      with_reducible rfl
    rotate_left
    · simp only [Act.put, List.setIfInBounds_toArray, List.set_cons_zero, List.set_cons_succ, i64_w, i32_w]
      rfl
    refine take_ (i := 4) (N := some 32) (v := ?_) (a' := ?_) #[true, true, true, true, true, false, false, false, false, false, false, false, false] rfl rfl (by kernel_rfl) (fun _ _ _ h => h) (Or.inl ⟨by rfl, ?_⟩) hHeld ?_ ?_
    rotate_left
    · rintro w' ⟨s0, s1⟩
      go_simp
      with_reducible rfl
    rotate_left
    · simp only [Act.put, List.setIfInBounds_toArray, List.set_cons_zero, List.set_cons_succ, i64_w, i32_w]
      rfl
    refine pure_ (i := 5) (N := some 33) (v := ?_) (a' := ?_) #[true, true, true, true, true, true, false, false, false, false, false, false, false] rfl rfl (by kernel_rfl) (fun _ _ _ h => h) (Or.inl ⟨by rfl, ?_⟩) ?_ ?_
    rotate_left
    · intro w'
      go_simp
      with_reducible rfl
    rotate_left
    · simp only [Act.put, List.setIfInBounds_toArray, List.set_cons_zero, List.set_cons_succ, i64_w, i32_w]
      rfl
    refine pure_ (i := 6) (N := some 34) (v := ?_) (a' := ?_) #[true, true, true, true, true, true, true, false, false, false, false, false, false] rfl rfl (by kernel_rfl) (fun _ _ _ h => h) (Or.inl ⟨by rfl, ?_⟩) ?_ ?_
    rotate_left
    · intro w'
      go_simp
      with_reducible rfl
    rotate_left
    · simp only [Act.put, List.setIfInBounds_toArray, List.set_cons_zero, List.set_cons_succ, i64_w, i32_w]
      rfl
    refine pure_ (i := 7) (N := some 35) (v := ?_) (a' := ?_) #[true, true, true, true, true, true, true, true, false, false, false, false, false] rfl rfl (by kernel_rfl) (fun _ _ _ h => h) (Or.inl ⟨by rfl, ?_⟩) ?_ ?_
    rotate_left
    · intro w'
      go_simp
      with_reducible rfl
    rotate_left
    · simp only [Act.put, List.setIfInBounds_toArray, List.set_cons_zero, List.set_cons_succ, i64_w, i32_w]
      rfl
    refine take_ (i := 8) (N := some 36) (v := ?_) (a' := ?_) #[true, true, true, true, true, true, true, true, true, false, false, false, false] rfl rfl (by kernel_rfl) (fun _ _ _ h => h) (Or.inl ⟨by rfl, ?_⟩) hHeld ?_ ?_
    rotate_left
    · rintro w' ⟨s0, s1⟩
      go_simp
      with_reducible rfl
    rotate_left
    · simp only [Act.put, List.setIfInBounds_toArray, List.set_cons_zero, List.set_cons_succ, i64_w, i32_w]
      rfl
    refine pure_ (i := 9) (N := some 37) (v := ?_) (a' := ?_) #[true, true, true, true, true, true, true, true, true, true, false, false, false] rfl rfl (by kernel_rfl) (fun _ _ _ h => h) (Or.inl ⟨by rfl, ?_⟩) ?_ ?_
    rotate_left
    · intro w'
      go_simp
      with_reducible rfl
    rotate_left
    · simp only [Act.put, List.setIfInBounds_toArray, List.set_cons_zero, List.set_cons_succ, i64_w, i32_w]
      rfl
    refine pure_ (i := 10) (N := some 38) (v := ?_) (a' := ?_) #[true, true, true, true, true, true, true, true, true, true, true, false, false] rfl rfl (by kernel_rfl) (fun _ _ _ h => h) (Or.inl ⟨by rfl, ?_⟩) ?_ ?_
    rotate_left
    · intro w'
      go_simp
      with_reducible rfl
    rotate_left
    · simp only [Act.put, List.setIfInBounds_toArray, List.set_cons_zero, List.set_cons_succ, i64_w, i32_w]
      rfl
    refine pure_ (i := 11) (N := some 39) (v := ?_) (a' := ?_) #[true, true, true, true, true, true, true, true, true, true, true, true, false] rfl rfl (by kernel_rfl) (fun _ _ _ h => h) (Or.inl ⟨by rfl, ?_⟩) ?_ ?_
    rotate_left
    · intro w'
      go_simp
      with_reducible rfl
    rotate_left
    · simp only [Act.put, List.setIfInBounds_toArray, List.set_cons_zero, List.set_cons_succ, i64_w, i32_w]
      rfl
    refine last_ (i := 12) (N := none) #[true, true, true, true, true, true, true, true, true, true, true, true, true] rfl rfl (by kernel_rfl) (by decide) (fun K hK => ?_)
    refine skip_ (w1 := ?_) (by rfl) rfl ?_ ?_
    rotate_left
    · go_simp
      rfl
    refine hK.out _ _ ?_
    clear hK K
    refine done_ (by kernel_rfl) ?_
    have C2 : Aside0 (Cst w0 ((W2.setCell ⟨gf, p.f0.toNat * 2, none⟩ (.int .i64 (wrap64 ((rd_T57 fs p.f0).f0 - 1)))).drew) b #[.int .i64 size, .slice (some ⟨gs, 0, none⟩) n c1, .slice (some ⟨gf, 0, none⟩) n2 c2, .int .i64 cp] r cr o co gs n c1 (some ⟨gf, 0, none⟩) n2 c2 j gp m cpp (setPage ss j k ⟨-1, false⟩) (fs.set p.f0.toNat ⟨wrap64 ((rd_T57 fs p.f0).f0 - 1), (rd_T57 fs p.f0).f1⟩)) := ⟨(C1.out.drewN 1).frame p.f0 hf0 HF1.out ⟨wrap64 ((rd_T57 fs p.f0).f0 - 1), (rd_T57 fs p.f0).f1⟩ (.int .i64 (wrap64 ((rd_T57 fs p.f0).f0 - 1))) 0 (Or.inl ⟨rfl, rfl, rfl⟩)⟩
    clear C1 hfc0 hfz hcb2
    generalize (W2.setCell ⟨gf, p.f0.toNat * 2, none⟩ (.int .i64 (wrap64 ((rd_T57 fs p.f0).f0 - 1)))).drew = W3 at C2 ⊢
    generalize wrap64 ((rd_T57 fs p.f0).f0 - 1) = q at *
    have HL := Aside0.mk (show p.f0 < ((fs.set p.f0.toNat ⟨q, (rd_T57 fs p.f0).f1⟩).length : Int) by rw [List.length_set]; exact HF1.out)
    have hF := C2.out.frameAt p.f0 hf0 HL.out
    rw [rd57_set fs p.f0 hf0 HF1.out] at hF
    have hfc0 := hF.c0
    have hfc1 := hF.c1
    have hfz1 := hF.fz (p.f0.toNat * 2 + 1)
    have hcb2 := (blk_cell C2.out.bk 2).trans rfl
    clear hF
    by_cases hq : q = 0
    · subst hq
      go_wp2
      go_end0
      have C3 := C2.out.frame p.f0 hf0 HL.out ⟨0, 0⟩ (.int .i64 0) 1 (Or.inr ⟨rfl, rfl, by rw [rd57_set fs p.f0 hf0 HF1.out]⟩)
      rw [List.set_set] at C3
      refine ⟨⟨_, rfl⟩, by rw [HW.out]; first | (rw [if_pos rfl]; exact C3.cm) | (rw [if_pos trivial]; exact C3.cm), C3.br, C3.bo⟩
    · have e0 : (q == 0) = false := beq_eq_false_iff_ne.mpr hq
      have HQ := Aside0.mk hq
      clear hq
      go_wp2
      go_end0
      exact ⟨⟨_, rfl⟩, by rw [HW.out, if_neg HQ.out]; exact C2.out.cm, C2.out.br, C2.out.bo⟩
  · have q0 : decide (0 ≤ p.f0) = false := decide_eq_false hf0
    have HW := Aside0.mk (show clearF fs p.f0 = fs from if_neg hf0)
    go_wp2
    go_end0
    exact ⟨⟨_, rfl⟩, by rw [HW.out]; exact C1.out.cm, C1.out.br, C1.out.bo⟩

def okX (ss : List S62) (fs : List S57) (z0 : Int) (j : Int) : Prop := okE ss fs j ∧ z0 = ((rd_T62 ss j).f1.length : Int)
instance (ss : List S62) (fs : List S57) (z0 j : Int) : Decidable (okX ss fs z0 j) := by unfold okX; infer_instance
end Go.Proofs.Yteldbkdfphiogaa.Pr
