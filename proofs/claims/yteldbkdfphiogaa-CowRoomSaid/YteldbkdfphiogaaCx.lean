/- Machines as one value, steps without an error, and the run that CowAlone looks at. -/
import Derived.Test.YteldbkdfphiogaaFcowCheck
import Derived.Test.YteldbkdfphiogaaFcowExit
import Derived.Test.YteldbkdfphiogaaFcowFork
import Derived.Test.YteldbkdfphiogaaFcowNew
import Derived.Test.YteldbkdfphiogaaFcowUsed
import Derived.Test.YteldbkdfphiogaaFcowWrite
set_option linter.unusedVariables false
set_option linter.unusedSimpArgs false
namespace Go.Proofs.Yteldbkdfphiogaa.Pr
open Go.RowKit Go.Proofs.YteldbkdfphiogaaW.PrintWords Go.Proofs.YteldbkdfphiogaaW.PrintLast Go.Proofs.YteldbkdfphiogaaW.PrintMore
abbrev Mc : Type:=Int × List S62 × List S57 × Int
def nNew (n m : Int) (c : Mc) : Prop:=∃ k,cow_New.f k n m = some (c.1,c.2.1,c.2.2.1,c.2.2.2,0)
def nWrite (c : Mc) (s p x : Int) (d : Mc) : Prop:=∃ k,cow_Write.f k c.1 c.2.1 c.2.2.1 c.2.2.2 s p x = some (d.1,d.2.1,d.2.2.1,d.2.2.2,0)
def nFork (c : Mc) (s : Int) (d : Mc) (ch : Int) : Prop:=∃ k,cow_Fork.f k c.1 c.2.1 c.2.2.1 c.2.2.2 s = some (d.1,d.2.1,d.2.2.1,d.2.2.2,ch,0)
def nExit (c : Mc) (s : Int) (d : Mc) : Prop:=∃ k,cow_Exit.f k c.1 c.2.1 c.2.2.1 c.2.2.2 s = some (d.1,d.2.1,d.2.2.1,d.2.2.2,0)
def nUsed (c : Mc) (n : Int) : Prop:=∃ k,cow_Used.f k c.1 c.2.1 c.2.2.1 c.2.2.2 = some n
def nCheck (c : Mc) (n : Int) : Prop:=∃ k,cow_Check.f k c.1 c.2.1 c.2.2.1 c.2.2.2 = some n
structure AloneRun (l0 : List Int) (K : Nat) (c d e : Nat→Mc) : Prop where
  new : nNew (2 * (l0.length : Int)) (l0.length : Int) (c 0)
  wr1 : ∀ j : Nat,j < l0.length→nWrite (c j) 0 (j : Int) (rd l0 (j : Int)) (c (j + 1))
  cd : d 0 = c l0.length
  fe : ∀ j : Nat,j < K→∃ (m : Mc) (ch : Int),nFork (d j) 0 m ch∧nExit m ch (d (j + 1))
  us1 : nUsed (d K) (l0.length : Int)
  de : e 0 = d K
  wr2 : ∀ j : Nat,j < l0.length→nWrite (e j) 0 (j : Int) (rd l0 (j : Int)) (e (j + 1))
  us2 : nUsed (e l0.length) (l0.length : Int)
  cp : (e l0.length).2.2.2 = 0
end Go.Proofs.Yteldbkdfphiogaa.Pr
