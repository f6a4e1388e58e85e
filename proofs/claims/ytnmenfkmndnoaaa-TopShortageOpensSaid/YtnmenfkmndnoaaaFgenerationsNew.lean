-- Written by a program of this session (a changed copy of the kit's printer). Not trusted: Lean checks it.
import Derived.Test.YtnmenfkmndnoaaaM0
namespace Go.Proofs.Ytnmenfkmndnoaaa.Pr
open Go.RowKit Go.Proofs.YtnmenfkmndnoaaaW.PrintWords Go.Proofs.YtnmenfkmndnoaaaW.PrintLast Go.Proofs.YtnmenfkmndnoaaaW.PrintMore
attribute [local go_sem] max2_int min2_int max_two min_two max_three min_three max_four min_four
set_option linter.unusedVariables false
set_option linter.unusedSimpArgs false
def generations_New.f  : Option ((List (List Int))):=if 4≤11728124029610 then (some (List.replicate 4 [])) else (none)
set_option maxHeartbeats 8000000 in
set_option maxRecDepth 100000 in
theorem generations_New.calls  (r : List (List Int)) (w : World) (h : generations_New.f  = some r) :
 Calls Try.prog 25 #[] w fun e w' => ∃ v0_ : Value,e = .returned (v0_)∧Kd.S (Kd.slice 3 (Kd.int .i64)) 50 w' w.heap.size (fun _ => True) v0_ r∧Below w.heap.size w w':=by
 have HB:=Aside0.mk (Below.refl w.heap.size w);have H : (if 4≤11728124029610 then (some (List.replicate 4 [])) else (none)) = some r:=h;clear h;by_cases c1 : 4≤11728124029610
 rotate_left
 · rw [if_neg c1] at H;exact absurd H (by simp)
 rw [if_pos c1] at H;have c1b0:=eq_true c1;have c1b1 : decide (4≤11728124029610) = true:=decide_eq_true c1;clear c1;obtain ⟨y454,hy454⟩ : ∃ y_ : List (List Int),y_ = (List.replicate 4 []):=⟨_,rfl⟩
 replace H : (some y454) = some r:=by first | (rw [hy454];with_reducible exact H) | (have H2_:=(Option.bind_some _ _).symm.trans H;rw [hy454];with_reducible exact H2_) | (have H2_:=(Option.bind_some _ _).symm.trans H;with_reducible exact H2_) | with_reducible exact H | (rw [hy454];exact H) | exact H
 have Ny454:=Aside0.mk hy454;clear hy454;obtain rfl:=Option.some.inj H
 go_enter Try.func25,Try.ntmps25
 go_wp2_with (first | ((with_reducible refine gate_dst (N:=1) rfl ?_);refine Kd.S_make (Kd.slice 3 (Kd.int .i64)) _ 50 rfl (N:=1) rfl 45 _ _ rfl 4 rfl rfl Try.underlying45 (.slice none 0 0) 24 info50 rfl (by decide) (by omega) [] (ok:=fun _ => True) (okp:=fun _ => True) ⟨_,rfl,Kd.R_nil _ _ _ _ _⟩ (fun _ hk => hk) trivial (by omega) (by omega) (Below.refl _ _) (Nat.le_refl _) ?_;intro v455 w2 ho3 hb hg_ hnew_;clear hg_ hnew_;(first | rw [← Ny454.out] at ho3 | (simp only [Int.reduceToNat] at ho3;rw [← Ny454.out] at ho3));have n0_:=Aside0.mk (Kd.S_lower ho3 (below_size (by repeat (first | (with_reducible first | exact HB.out | apply b0_ | apply b1_ | apply b2_) | exact HB.out))));have n1_:=Aside0.mk (below_step (by repeat (first | (with_reducible first | exact HB.out | apply b0_ | apply b1_ | apply b2_) | exact HB.out)) hb);clear HB;have HO456:=n0_;have HB:=n1_;clear n0_ n1_;clear hb ho3))
 go_ret;exact ⟨_,by first | rfl | (simp [errW_none,errW_some] <;> rfl) | (simp [*,errW_none,errW_some] <;> rfl),by (with_reducible repeat (first | apply Kd.S_alloc | apply Kd.S_drewN | apply Kd.S_drew));exact HO456.out,by repeat (first | (with_reducible first | exact HB.out | apply b0_ | apply b1_ | apply b2_) | exact HB.out)⟩
end Go.Proofs.Ytnmenfkmndnoaaa.Pr
