/- ProtectionOpens: for every input the law returns true, and each argument reads afterwards as it read before. No condition. -/
import Derived.Test.YtilcbkengmggdaaRa
import Derived.Test.YtilcbkengmggdaaPOpens
import Derived.Test.YtilcbkengmggdaaFestoverslaw20ProtectionOpens
set_option linter.unusedVariables false
namespace Go.Proofs.Ytilcbkengmggdaa.protectionOpens
open Go.ChangeShapes Go.WideShapes Go.ChangeAt Go.RowKit Go.Proofs.YtilcbkengmggdaaW Go.Proofs.YtilcbkengmggdaaW.PrintWords Go.Proofs.Ytilcbkengmggdaa.Pr
open Go.ChangeMaps (open_string shut_string)
theorem own : ownKnob Try.prog.godebug = none := by kernel_rfl
theorem laidOut : laidOutB Try.prog = true := by kernel_rfl
theorem opens41 : Opens Try.prog 41 k41 := by
  intro H enc w base spare held fuel cs x h
  obtain ⟨hl, hf⟩ := fields_one Try.underlying41 (by kernel_rfl) (by kernel_rfl) h
  match cs, hl with
  | [e0, e1, e2, e3, e4], _ =>
    obtain ⟨n0, y0, h0⟩ := hf 0 _ _ rfl rfl
    obtain ⟨n1, y1, h1⟩ := hf 1 _ _ rfl rfl
    obtain ⟨n2, y2, h2⟩ := hf 2 _ _ rfl rfl
    obtain ⟨n3, y3, h3⟩ := hf 3 _ _ rfl rfl
    obtain ⟨n4, y4, h4⟩ := hf 4 _ _ rfl rfl
    obtain ⟨a0, q0, _⟩ := DataW.trod_int Try.underlying3 h0
    obtain ⟨a1, q1, _⟩ := DataW.trod_int Try.underlying3 h1
    obtain ⟨a2, q2, _⟩ := DataW.trod_int Try.underlying3 h2
    obtain ⟨a3, q3, _⟩ := DataW.trod_int Try.underlying3 h3
    obtain ⟨a4, q4, _⟩ := DataW.trod_int Try.underlying3 h4
    obtain rfl := (List.cons.inj q0).1
    obtain rfl := (List.cons.inj q1).1
    obtain rfl := (List.cons.inj q2).1
    obtain rfl := (List.cons.inj q3).1
    obtain rfl := (List.cons.inj q4).1
    exact ⟨⟨a0, a1, a2, a3, a4⟩, k41_mk w ⟨a0, a1, a2, a3, a4⟩⟩
set_option maxRecDepth 100000 in
theorem lifted (os : Os) (started : os.Started) (H : Type) (enc : TypeId × Value → H) :
    ReturnsInHanded {} Try.checked os 8 .any (Rows.protectionOpensSpec.pre6 enc Try.prog Try.f8 Rows.protectionOpensRow.domain false) (Rows.protectionOpensSpec.post enc Try.prog Try.f8 false true false false) := by
  refine returnsInHanded_of_change_sized (C := Try.checked) own started (by kernel_rfl) Try.func8
    (ChangeSpec.witness6 (enc := enc) (C := Try.checked) false ⟨#[], #[.slice none 0 0, .slice none 0 0, .int .i64 0], []⟩ 8 (by kernel_rfl) (by kernel_rfl) (by kernel_rfl) (by kernel_rfl)) ?_
  intro W base args ds gs before hval0 hW hcnd hsz0 _
  have hval : ∀ (j : Nat) t v, Try.f8.params[j]? = some t → args[j]? = some v → Value.okWide Try.prog W .any base t v := hval0
  have hW' := hW
  obtain ⟨p, q, hA0, hV, rfl, hfz, hnd⟩ := hW
  have hA : DataW.TrodAll enc Try.prog W 0 (fun _ => true) true Try.f8.params.toList args.toList ds p := hA0
  rw [Try.params8] at hA hval
  obtain ⟨v0, vs0, d0, ds0, p0, q0, hargs, rfl, rfl, h0, r0⟩ := trodAll_cons hA
  obtain ⟨v1, vs1, d1, ds1, p1, q1, rfl, rfl, rfl, h1, r1⟩ := trodAll_cons r0
  obtain ⟨v2, vs2, d2, ds2, p2, q2, rfl, rfl, rfl, h2, r2⟩ := trodAll_cons r1
  obtain ⟨rfl, rfl, rfl⟩ := trodAll_nil r2
  obtain rfl : args = #[v0, v1, v2] := by cases args; simp_all
  obtain ⟨rfl, rfl⟩ := trodVars_none hV
  have k0 := h0
  have lt0 : ∀ x ∈ p0, x.block < W.heap.size := by obtain ⟨m, hm⟩ := k0; exact DataW.trod_lt m _ _ _ hm
  obtain ⟨a0, len0, cap0, rfl⟩ := okWide_slice Try.underlying22 (hval 0 22 v0 rfl rfl)
  obtain ⟨fu0, hf0⟩ := h0
  obtain ⟨A0, c0, l0, hcs0, hl0, hC0⟩ := open_row Try.underlying22 opens41 (by kernel_rfl) (fun _ => true) hf0
  simp [Value.cells] at hcs0
  obtain ⟨rfl, rfl, rfl⟩ := hcs0
  have k1 := h1
  have lt1 : ∀ x ∈ p1, x.block < W.heap.size := by obtain ⟨m, hm⟩ := k1; exact DataW.trod_lt m _ _ _ hm
  obtain ⟨a1, len1, cap1, rfl⟩ := okWide_slice Try.underlying25 (hval 1 25 v1 rfl rfl)
  obtain ⟨fu1, hf1⟩ := h1
  obtain ⟨A1, c1, l1, hcs1, hl1, hC1⟩ := open_row Try.underlying25 (opens_int Try.underlying3) (by kernel_rfl) (fun _ => true) hf1
  simp [Value.cells] at hcs1
  obtain ⟨rfl, rfl, rfl⟩ := hcs1
  have k2 := h2
  have lt2 : ∀ x ∈ p2, x.block < W.heap.size := by obtain ⟨m, hm⟩ := k2; exact DataW.trod_lt m _ _ _ hm
  obtain ⟨a2, rfl, rfl, rfl, w2⟩ := open_int Try.underlying3 (hval 2 3 v2 rfl rfl) h2
  obtain ⟨k, h⟩ := opens_pure l0 l1 a2
  refine (estoverslaw20_ProtectionOpens.calls k _ _ l0 _ _ l1 a2 true W hC0 hl0 hC1 hl1 h).mono fun e W' ⟨he, bel⟩ => ?_
  subst he
  exact ⟨_, rfl, _, _, _, [], _, [], hW', trodAll_mk1 (shut_bool Try.underlying4 _), (trodAll_cons_mk (Below.trod laidOut (by kernel_rfl) (of_decide_eq_true (by kernel_rfl)) k0 bel lt0) (trodAll_cons_mk (Below.trod laidOut (by kernel_rfl) (of_decide_eq_true (by kernel_rfl)) k1 bel lt1) (trodAll_cons_mk (Below.trod laidOut (by kernel_rfl) (of_decide_eq_true (by kernel_rfl)) k2 bel lt2) trodAll_mk0))), rfl, bel.frame _, fun h => by cases h⟩
theorem over : Rows.protectionOpensRow.holds Try.pinned (OpenSpec.ofChange Rows.protectionOpensSpec) :=
  OpenClaim.holds_of_wide 8 Try.f8 rfl rfl rfl rfl rfl rfl rfl ⟨rfl, rfl, rfl, rfl, rfl⟩ rfl rfl rfl rfl rfl (by kernel_rfl) Try.func8 (by kernel_rfl)
    (of_decide_eq_true (by kernel_rfl)) (by unfold Func.isWrapper; first | (rw [if_pos (by decide +kernel)]; kernel_rfl) | (rw [if_neg (by decide +kernel)]; exact ⟨rfl, rfl⟩))
    (fun os started H enc _ => lifted os started H enc)
theorem proved : Rows.ProtectionOpensSaid := over
#print axioms proved
end Go.Proofs.Ytilcbkengmggdaa.protectionOpens
namespace Go.Proofs.Ytilcbkengmggdaa
/-- The row, under a short name, for the claim. -/
theorem protectionOpens_holds : Rows.ProtectionOpensSaid := protectionOpens.proved
end Go.Proofs.Ytilcbkengmggdaa
