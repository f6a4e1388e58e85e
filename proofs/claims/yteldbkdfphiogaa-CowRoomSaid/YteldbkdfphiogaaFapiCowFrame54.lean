-- Written by a program of this session (a changed copy of the kit's printer). Not trusted: Lean checks it.
import Derived.Test.YteldbkdfphiogaaM0
namespace Go.Proofs.Yteldbkdfphiogaa.Pr
open Go.RowKit Go.Proofs.YteldbkdfphiogaaW.PrintWords Go.Proofs.YteldbkdfphiogaaW.PrintLast Go.Proofs.YteldbkdfphiogaaW.PrintMore
attribute [local go_sem] max2_int min2_int max_two min_two max_three min_three max_four min_four   -- for this text's walks alone
set_option linter.unusedVariables false
set_option linter.unusedSimpArgs false
/-! ### api_CowFrame_54: function 54 -/
def api_CowFrame_54.f (l0 : List S57) : Option (List S57) := if l0.length < 8796093022208 then some l0 else none
set_option maxRecDepth 100000 in
set_option maxHeartbeats 2000000 in
theorem api_CowFrame_54.calls (A0 : Option Addr) (c0 : Nat) (l0 : List S57) (r : List S57) (w : World) (hr0 : Kd.C k57 w A0 l0.length l0) (hc0 : l0.length ≤ c0) (h : api_CowFrame_54.f l0 = some r) :
    Calls Try.prog 54 #[.slice A0 l0.length c0] w fun e w' => ∃ v0_ : Value, e = .returned (v0_) ∧ Kd.R k57 57 w' w.heap.size (fun _ => True) v0_ r ∧ Below w.heap.size w w' := by
  unfold api_CowFrame_54.f at h
  by_cases c : l0.length < 8796093022208
  · rw [if_pos c] at h
    obtain rfl := Option.some.inj h
    have LM := Aside0.mk c
    have HR0 := Aside0.mk hr0
    have HB := Aside0.mk (Below.refl w.heap.size w)
    cases A0 with
    | none =>
      have hn : l0 = [] := by
        cases l0 with
        | nil => rfl
        | cons x xs =>
          obtain ⟨ad, e, _⟩ := hr0.2.2 (by simp)
          cases e
      subst hn
      clear hr0 hc0 h c
      have hq := fun W n c => run_eql_slice_nil (P := Try.prog) W 25 57 none n c Try.underlying25
      go_enter Try.func54, Try.ntmps54
      go_wp2
      go_ret
      exact ⟨_, rfl, Kd.R_nil _ _ _ _ _, HB.out⟩
    | some ad =>
      clear hr0 hc0 h c
      have hq := fun W n c => run_eql_slice_nil (P := Try.prog) W 25 57 (some ad) n c Try.underlying25
      go_enter Try.func54, Try.ntmps54
      go_wp2_with (first | ((with_reducible refine gate_dst (N := 5) rfl ?_); refine Kd.R_lit k57 _ 57 rfl (N := 5) rfl (xs := ([] : List S57)) (inner := []) (ok := fun _ => True) (okp := fun _ => True) (by first | (go_simp; done) | (go_simp; rfl)) (Reps.none _ _) (fun _ hk => hk) trivial (Below.refl _ _) (Nat.le_refl _) (by simp) ?_; intro v5 w2 ho hb hg_ hnew_; clear hg_ hnew_; have HO := Aside0.mk (Kd.R_lower ho (below_size HB.out)); have HB2 := Aside0.mk (below_step HB.out hb); clear ho hb HB) | ((with_reducible refine gate_builtin (b := .append) (xs := #[.tmp 5, .tmp 6]) rfl ?_); at_builtin; refine Kd.R_append_rows k57 (w0 := w) w.heap.size rfl (.tmp 5) (.tmp 6) 25 57 (.agg #[(.int .i64 0), (.int .i64 0)]) 16 rfl Try.underlying25 info57 rfl (by decide) (by omega) v5 [] l0 _ _ _ (fun _ => True) (fun _ => False) rfl rfl HO.out (Kd.C_below HR0.out HB2.out) (fun _ _ h => by rw [k57_open h]; exact k57_mkM _ _ _ _) (fun _ h => h.elim) (fun _ _ => trivial) HB2.out (below_size HB2.out) (by have := LM.out; simp; omega) ?_; intro v7 w3 ho hb hg hat; simp only [List.nil_append] at ho; have HO3 := Aside0.mk ho; have HB3 := Aside0.mk hb; clear ho hb hg hat))
      go_ret
      exact ⟨_, rfl, HO3.out, HB3.out⟩
  · rw [if_neg c] at h; cases h
end Go.Proofs.Yteldbkdfphiogaa.Pr
