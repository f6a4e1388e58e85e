/- A step of a script, and the run that CowRoom looks at. -/
import Derived.Test.YteldbkdfphiogaaCx
import Derived.Test.YteldbkdfphiogaaFestoverslaw25play
set_option linter.unusedVariables false
set_option linter.unusedSimpArgs false
namespace Go.Proofs.Yteldbkdfphiogaa.Pr
open Go.RowKit Go.Proofs.YteldbkdfphiogaaW.PrintWords Go.Proofs.YteldbkdfphiogaaW.PrintLast Go.Proofs.YteldbkdfphiogaaW.PrintMore
def nPlay (c : Mc) (o : S40) (d : Mc) (x e : Int) : Prop:=∃ k,estoverslaw25_play.f k c.1 c.2.1 c.2.2.1 c.2.2.2 o.f0 o.f1 o.f2 o.f3 = some (d.1,d.2.1,d.2.2.1,d.2.2.2,x,e)
structure RoomRun (n : Nat) (l1 : List S40) (c : Nat→Mc) : Prop where
  new : nNew ((n : Int) * 8) (n : Int) (c 0)
  play : ∀ j : Nat,j < l1.length→∃ (d : Mc) (x e : Int),nPlay (c j) (rd_T40 l1 (j : Int)) d x e∧e≠16∧((e = 0∧0≤(rd_T40 l1 (j : Int)).f0∧(rd_T40 l1 (j : Int)).f0≤3∧c (j + 1) = d)∨(¬ (e = 0∧0≤(rd_T40 l1 (j : Int)).f0∧(rd_T40 l1 (j : Int)).f0≤3)∧c (j + 1) = c j))
  chk : nCheck (c l1.length) 0
end Go.Proofs.Yteldbkdfphiogaa.Pr
