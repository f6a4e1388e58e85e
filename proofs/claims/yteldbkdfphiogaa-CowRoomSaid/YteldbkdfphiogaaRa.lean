/- Arguments that came in, read as plain data of a kind; for the rows. -/
import Derived.Test.YteldbkdfphiogaaRows
import Derived.Test.YteldbkdfphiogaaV
import Derived.Deep.Slices
import Derived.Deep.Fields
import Derived.ChangeSame
import Derived.WalkKit
import Derived.ProofKit
import Derived.OpenShut
import Derived.ShutString
import Derived.ChangeOld
import Derived.Below
import Derived.Carry
import Derived.SizedLaws
set_option linter.unusedVariables false
namespace Go.Proofs.YteldbkdfphiogaaW
open Go.ChangeShapes Go.WideShapes Go.Deep Go.RowKit PrintWords
def Opens (P : Program) (t : TypeId) {α : Type} (d : Kd α) : Prop :=
  ∀ {H : Type} (enc : TypeId × Value→H) (w : World) (base : Nat) (spare : Nat→Bool) (held : Bool) (fuel : Nat) (cs : List Value) (x : DataW H × List MemPlace),DataW.trod enc P w base spare held fuel t cs = some x→∃ y : α,d.K w y cs
theorem opens_int {P : Program} {t : TypeId} {k : IntKind} (ht : P.underlying t = some (.int k)) : Opens P t (Kd.int k):=by
  intro H enc w base spare held fuel cs x h
  obtain ⟨n,rfl,_⟩:=DataW.trod_int ht h
  exact ⟨n,rfl⟩
theorem opens_bool {P : Program} {t : TypeId} (ht : P.underlying t = some .bool) : Opens P t Kd.bool:=by
  intro H enc w base spare held fuel cs x h
  obtain ⟨b,rfl,_⟩:=DataW.trod_bool ht h
  exact ⟨b,rfl⟩
theorem fields_one {P : Program} {H : Type} {enc : TypeId × Value→H} {w : World} {base : Nat} {spare : Nat→Bool} {held : Bool} {t : TypeId} {fs : Array Field} {fuel : Nat} {cs : List Value} {x : DataW H × List MemPlace} (ht : P.underlying t = some (.struct fs)) (hone : oneCellFields P fs = true) (hC : P.cellsOf t = fs.size) (h : DataW.trod enc P w base spare held fuel t cs = some x) :
    cs.length = fs.size∧∀ (j : Nat) (f : Field) (v : Value),fs[j]? = some f→cs[j]? = some v→∃ (n : Nat) (y : DataW H × List MemPlace),DataW.trod enc P w base spare held n f.type [v] = some y:=by
  obtain ⟨ys,n',hn',hy,hlen,hyl,hf⟩:=DataW.trod_struct ht h
  refine ⟨hlen.trans hC,fun j f v hj hv => ?_⟩
  obtain ⟨ho,hk⟩:=hone_of hone j f hj
  have h1:=hf j f hj
  rw [ho,hk] at h1
  obtain ⟨hjl,e⟩:=List.getElem?_eq_some_iff.1 hv
  have hone' : (cs.drop j).take 1 = [v]:=by
    rw [List.drop_eq_getElem_cons hjl,e]
    rfl
  rw [hone'] at h1
  have hjl2 : j < ys.length:=by rw [hyl];exact (Array.getElem?_eq_some_iff.1 hj).1
  rw [List.getElem?_eq_getElem hjl2] at h1
  exact ⟨n',_,h1⟩
theorem list_of {α : Type} (Q : Nat→α→Prop) : ∀ n : Nat,(∀ i,i < n→∃ y,Q i y)→∃ l : List α,l.length = n∧∀ i y,l[i]? = some y→Q i y
  | 0,_ => ⟨[],rfl,fun i y h => by simp at h⟩
  | n + 1,h => by
    obtain ⟨l,hl,hq⟩:=list_of Q n (fun i hi => h i (by omega))
    obtain ⟨y,hy⟩:=h n (by omega)
    refine ⟨l ++ [y],by simp [hl],fun i z hz => ?_⟩
    rcases Nat.lt_or_ge i l.length with c | c
    · rw [List.getElem?_append_left c] at hz
      exact hq i z hz
    · have : i = l.length:=by
        have:=(List.getElem?_eq_some_iff.1 hz).1
        simp at this
        omega
      subst this
      have e : y = z:=by simpa using hz
      rw [← e,hl]
      exact hy
theorem open_row {P : Program} {t e : TypeId} {α : Type} {d : Kd α} (ht : P.underlying t = some (.slice e)) (hd : Opens P e d) (hC : P.cellsOf e = d.sz) {H : Type} {enc : TypeId × Value→H} {w : World} {base : Nat} {held : Bool} {fuel : Nat} {cs : List Value} {x : DataW H × List MemPlace} (spare : Nat→Bool) (h : DataW.trod enc P w base spare held fuel t cs = some x) :
    ∃ (A : Option Addr) (cap : Nat) (l : List α),cs = [.slice A l.length cap]∧l.length≤cap∧Kd.C d w A l.length l:=by
  rcases open_slice ht h with ⟨h0,_⟩ | ⟨a,len,cap,m,n,D,Pl,hcs,hb,hl,hm,hmm,hx,hi⟩
  · exact ⟨none,0,[],by simpa using h0,Nat.le_refl _,rfl,by simp,fun h => by simp at h⟩
  · have hlm : len≤m:=by rw [hmm];split <;> omega
    obtain ⟨l,hll,hq⟩:=list_of (fun i (y : α) => ∃ c : List Value,c.length = d.sz∧d.K w y c∧∀ j u,c[j]? = some u→w.cell? (a.add (i * d.sz + j)) = some u) len (fun i hi2 => by
      obtain ⟨cs',hc,ht'⟩:=hi i (by omega)
      obtain ⟨y,hy⟩:=hd enc w base spare held n cs' _ ht'
      obtain ⟨_,hcl,hat⟩:=World.cells?_some hc
      refine ⟨y,cs',d.K_len hy,hy,fun j u hu => ?_⟩
      have hj:=(List.getElem?_eq_some_iff.1 hu).1
      have:=hat j (by omega)
      rw [hC] at this
      rw [← Go.Deep.add_add,this,hu])
    refine ⟨some a,cap,l,by rw [hll];exact hcs,by omega,rfl,by unfold maxLen at hm;omega,fun hn => ⟨a,rfl,fun j p hj => ?_⟩⟩
    exact hq j p hj
theorem len1_of {α : Type} : ∀ l : List α,l.length = 1→∃ e0,l = [e0]
  | [e0],_ => ⟨e0,rfl⟩
theorem len2_of {α : Type} : ∀ l : List α,l.length = 2→∃ e0 e1,l = [e0,e1]
  | [e0,e1],_ => ⟨e0,e1,rfl⟩
theorem len3_of {α : Type} : ∀ l : List α,l.length = 3→∃ e0 e1 e2,l = [e0,e1,e2]
  | [e0,e1,e2],_ => ⟨e0,e1,e2,rfl⟩
theorem len4_of {α : Type} : ∀ l : List α,l.length = 4→∃ e0 e1 e2 e3,l = [e0,e1,e2,e3]
  | [e0,e1,e2,e3],_ => ⟨e0,e1,e2,e3,rfl⟩
theorem len5_of {α : Type} : ∀ l : List α,l.length = 5→∃ e0 e1 e2 e3 e4,l = [e0,e1,e2,e3,e4]
  | [e0,e1,e2,e3,e4],_ => ⟨e0,e1,e2,e3,e4,rfl⟩
theorem len6_of {α : Type} : ∀ l : List α,l.length = 6→∃ e0 e1 e2 e3 e4 e5,l = [e0,e1,e2,e3,e4,e5]
  | [e0,e1,e2,e3,e4,e5],_ => ⟨e0,e1,e2,e3,e4,e5,rfl⟩
theorem len7_of {α : Type} : ∀ l : List α,l.length = 7→∃ e0 e1 e2 e3 e4 e5 e6,l = [e0,e1,e2,e3,e4,e5,e6]
  | [e0,e1,e2,e3,e4,e5,e6],_ => ⟨e0,e1,e2,e3,e4,e5,e6,rfl⟩
theorem len8_of {α : Type} : ∀ l : List α,l.length = 8→∃ e0 e1 e2 e3 e4 e5 e6 e7,l = [e0,e1,e2,e3,e4,e5,e6,e7]
  | [e0,e1,e2,e3,e4,e5,e6,e7],_ => ⟨e0,e1,e2,e3,e4,e5,e6,e7,rfl⟩
end Go.Proofs.YteldbkdfphiogaaW
