-- Written by a program of this session (a changed copy of the kit's printer). Not trusted: Lean checks it.
import Derived.Test.YtnmenfkmndnoaaaM0
import Derived.Test.YtnmenfkmndnoaaaT4
namespace Go.Proofs.Ytnmenfkmndnoaaa.Pr
open Go.RowKit Go.Proofs.YtnmenfkmndnoaaaW.PrintWords Go.Proofs.YtnmenfkmndnoaaaW.PrintLast Go.Proofs.YtnmenfkmndnoaaaW.PrintMore
attribute [local go_sem] max2_int min2_int max_two min_two max_three min_three max_four min_four
set_option linter.unusedVariables false
set_option linter.unusedSimpArgs false
def generations_Check.f (l0 : List (List Int)) : Option Int:=if l0 = [[],[],[],[]]∨l0 = [[7],[],[],[]] then some 0 else none
theorem generations_Check.calls (A0 : Option Addr) (c0 : Nat) (l0 : List (List Int)) (r : Int) (w : World) (hr0 : Kd.C (Kd.slice 3 (Kd.int .i64)) w A0 l0.length l0) (hc0 : l0.length≤c0) (h : generations_Check.f l0 = some r) :
 Calls Try.prog 56 #[.slice A0 l0.length c0] w fun e w' => e = .returned (.int .i64 r)∧Below w.heap.size w w':=by
 unfold generations_Check.f at h
 by_cases c : l0 = [[],[],[],[]]∨l0 = [[7],[],[],[]]
 rotate_left
 · rw [if_neg c] at h;cases h
 rw [if_pos c] at h;obtain rfl:=Option.some.inj h
 rcases c with rfl | rfl
 · exact Gen.Check_calls Gen.e0 (Or.inl rfl) A0 c0 w hr0
 · exact Gen.Check_calls Gen.e1 (Or.inr rfl) A0 c0 w hr0
end Go.Proofs.Ytnmenfkmndnoaaa.Pr
