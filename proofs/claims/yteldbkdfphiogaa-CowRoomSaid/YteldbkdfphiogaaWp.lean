/- Machines in boxes. -/
import Derived.Test.YteldbkdfphiogaaCx
import Derived.Test.YteldbkdfphiogaaFestoverslaw25awake
set_option linter.unusedVariables false
set_option linter.unusedSimpArgs false
namespace Go.Proofs.Yteldbkdfphiogaa.Pr
open Go.RowKit Go.Proofs.YteldbkdfphiogaaW.PrintWords Go.Proofs.YteldbkdfphiogaaW.PrintLast Go.Proofs.YteldbkdfphiogaaW.PrintMore
attribute [local go_sem] max2_int min2_int max_two min_two max_three min_three max_four min_four
theorem MB.put {w0 W W1 : World} {b : Nat} {sz cp sz' cp' : Int} {ss ss' : List S62} {fs fs' : List S57} {A1 : Option Addr} {c1 : Nat} {A2 : Option Addr} {c2 : Nat} (h : MB w0 W b sz ss fs cp) (hB : Below w0.heap.size w0 W) (hb : Below W.heap.size W W1) (hS : Kd.S k62 62 W1 W.heap.size (fun _ => True) (.slice A1 ss'.length c1) ss') (hR : Kd.R k57 57 W1 W.heap.size (fun _ => True) (.slice A2 fs'.length c2) fs') :
    MB w0 (set4 W1 b (.int .i64 sz') (.slice A1 ss'.length c1) (.slice A2 fs'.length c2) (.int .i64 cp')) b sz' ss' fs' cp'∧Below w0.heap.size w0 (set4 W1 b (.int .i64 sz') (.slice A1 ss'.length c1) (.slice A2 fs'.length c2) (.int .i64 cp')):=by
  obtain ⟨B1,k1,B2,k2,h1,h2,h3⟩:=h.out
  have hbox:=blk_below h1 hb
  exact ⟨⟨A1,c1,A2,c2,set4_blk hbox _ _ _ _,⟨set4_S (Kd.S_lower hS hB.size) hbox (by decide) _ _ _ _,set4_R (Kd.R_lower hR hB.size) hbox (by decide) _ _ _ _,set4_below (below_step hB hb) h3 _ _ _ _⟩,h3⟩,set4_below (below_step hB hb) h3 _ _ _ _⟩
theorem MB.far {w0 W : World} {b b2 : Nat} {sz cp : Int} {ss : List S62} {fs : List S57} (h : MB w0 W b sz ss fs cp) (hne : b≠b2) {cs : Array Value} (h2 : W.heap[b2]? = some (.cells cs 27 (0,0))) (hl : w0.heap.size≤b2) (v0 v1 v2 v3 : Value) : MB w0 (set4 W b2 v0 v1 v2 v3) b sz ss fs cp:=by
  obtain ⟨B1,k1,B2,k2,h1,hm,h3⟩:=h.out
  exact ⟨B1,k1,B2,k2,by rw [set4_heap _ _ _ _ _ _ _ hne];exact h1,hm.set4 h2 hl _ _ _ _,h3⟩
def MX (w0 W : World) (b : Nat) (c : Mc) : Prop:=MB w0 W b c.1 c.2.1 c.2.2.1 c.2.2.2
theorem CowM.played {w0 W W1 : World} {B1 : Option Addr} {k1 : Nat} {B2 : Option Addr} {k2 : Nat} {ss ss' : List S62} {fs fs' : List S57} {z z' q q' : Int} {v1 v2 : Value} (h : CowM w0 W (.slice B1 ss.length k1) (.slice B2 fs.length k2) ss fs) (hb : Below W.heap.size W W1) (hd : (v1 = .slice B1 ss.length k1∧v2 = .slice B2 fs.length k2∧z' = z∧ss' = ss∧fs' = fs∧q' = q)∨(Kd.S k62 62 W1 W.heap.size (fun _ => True) v1 ss'∧Kd.R k57 57 W1 W.heap.size (fun _ => True) v2 fs')) :
    ∃ A1 c1 A2 c2,v1 = .slice A1 ss'.length c1∧v2 = .slice A2 fs'.length c2∧CowM w0 W1 (.slice A1 ss'.length c1) (.slice A2 fs'.length c2) ss' fs':=by
  rcases hd with ⟨rfl,rfl,_,rfl,rfl,_⟩ | ⟨hS,hR⟩
  · exact ⟨B1,k1,B2,k2,rfl,rfl,h.below hb⟩
  · obtain ⟨A1,c1,rfl⟩:=Kd.S_slice hS
    obtain ⟨A2,c2,rfl⟩:=Kd.R_slice hR
    exact ⟨A1,c1,A2,c2,rfl,rfl,⟨Kd.S_lower hS h.hb.size,Kd.R_lower hR h.hb.size,below_step h.hb hb⟩⟩
theorem MB.newM {w0 W1 W2 : World} {d : Nat} {A1 : Option Addr} {c1 : Nat} {A2 : Option Addr} {c2 : Nat} {sz : Int} {ss : List S62} {fs : List S57} {cp : Int} (hm : CowM w0 W1 (.slice A1 ss.length c1) (.slice A2 fs.length c2) ss fs) (hd : W1.heap.size≤d) {cs : Array Value} (hbox : W2.heap[d]? = some (.cells cs 27 (0,0))) (hb2 : Below W1.heap.size W1 W2) (hcs : cs = #[.int .i64 0,.slice none 0 0,.slice none 0 0,.int .i64 0]) :
    MB w0 (set4 W2 d (.int .i64 sz) (.slice A1 ss.length c1) (.slice A2 fs.length c2) (.int .i64 cp)) d sz ss fs cp∧Below W1.heap.size W1 (set4 W2 d (.int .i64 sz) (.slice A1 ss.length c1) (.slice A2 fs.length c2) (.int .i64 cp))∧Below w0.heap.size w0 (set4 W2 d (.int .i64 sz) (.slice A1 ss.length c1) (.slice A2 fs.length c2) (.int .i64 cp)):=by
  subst hcs
  have hd0 : w0.heap.size≤d:=Nat.le_trans hm.hb.size hd
  exact ⟨⟨A1,c1,A2,c2,set4_blk hbox _ _ _ _,(hm.below hb2).set4 hbox hd0 _ _ _ _,hd0⟩,set4_below hb2 hd _ _ _ _,set4_below (below_step hm.hb hb2) hd0 _ _ _ _⟩
theorem MB.putM {w0 W : World} {b : Nat} {sz cp sz' cp' : Int} {ss ss' : List S62} {fs fs' : List S57} {A1 : Option Addr} {c1 : Nat} {A2 : Option Addr} {c2 : Nat} (h : MB w0 W b sz ss fs cp) (hm : CowM w0 W (.slice A1 ss'.length c1) (.slice A2 fs'.length c2) ss' fs') :
    MB w0 (set4 W b (.int .i64 sz') (.slice A1 ss'.length c1) (.slice A2 fs'.length c2) (.int .i64 cp')) b sz' ss' fs' cp'∧Below w0.heap.size w0 (set4 W b (.int .i64 sz') (.slice A1 ss'.length c1) (.slice A2 fs'.length c2) (.int .i64 cp')):=by
  obtain ⟨B1,k1,B2,k2,h1,h2,h3⟩:=h.out
  exact ⟨⟨A1,c1,A2,c2,set4_blk h1 _ _ _ _,hm.set4 h1 h3 _ _ _ _,h3⟩,set4_below hm.hb h3 _ _ _ _⟩
end Go.Proofs.Yteldbkdfphiogaa.Pr
