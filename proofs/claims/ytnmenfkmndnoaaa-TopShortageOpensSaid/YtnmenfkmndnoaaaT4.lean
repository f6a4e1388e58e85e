/- generations.Check and Where, as their callers want them: at the lists of the fixed example. -/
import Derived.Test.YtnmenfkmndnoaaaM0
import Derived.Test.YtnmenfkmndnoaaaT3
set_option linter.unusedVariables false
set_option linter.unusedSimpArgs false
namespace Go.Proofs.Ytnmenfkmndnoaaa.Gen
open Go.RowKit Go.Shelf Go.Proofs.YtnmenfkmndnoaaaW.PrintWords
attribute [local go_sem] Oper.semAt_some
def raw (ls : List (List I64)) : List (List Int):=ls.map fun zs => zs.map (·.1)
theorem nest_of {w : World} {A : Option Addr} (ls : List (List I64)) (hr0 : Kd.C (Kd.slice 3 (Kd.int .i64)) w A ls.length (raw ls)) (hp : 0 < ls.length) : ∃ ad,A = some ad∧Nest w.heap.size w ad ls:=by
  obtain ⟨ad,rfl,hc⟩:=hr0.2.2 hp
  have key : ∀ j,j < ls.length→∃ sv,w.cell? (ad.add j) = some sv∧Ints w.heap.size w sv (ls[j]?.getD []):=by
    intro j hj
    obtain ⟨c,hl,hK,hcell⟩:=hc j (ls[j].map (·.1)) (by simp [raw,hj])
    obtain ⟨A2,c2,rfl,hle,h2⟩:=hK
    have h5:=hcell 0 _ rfl
    rw [show j * (Kd.slice 3 (Kd.int .i64)).sz + 0 = j by show j * 1 + 0 = j;omega] at h5
    refine ⟨_,h5,?_⟩
    rw [List.getElem?_eq_getElem hj,Option.getD_some]
    generalize ls[j] = zs at h2 hle
    by_cases hz : zs = []
    · subst hz
      exact .inl ⟨A2,c2,rfl,rfl⟩
    · have hz0 : 0 < zs.length:=List.length_pos_iff.2 hz
      obtain ⟨ad2,rfl,h3⟩:=h2.2.2 (by simpa using hz0)
      have h4 : ∀ i,i < zs.length→w.cell? (ad2.add i) = some (.int .i64 (zs[i]?.getD i0).1):=by
        intro i hi
        obtain ⟨c,_,hK,hcell⟩:=h3 i (zs[i].1) (by simp [hi])
        obtain rfl : c = [.int .i64 zs[i].1]:=hK
        have:=hcell 0 _ rfl
        rw [show i * (Kd.int .i64).sz + 0 = i by show i * 1 + 0 = i;omega] at this
        rw [List.getElem?_eq_getElem hi]
        exact this
      refine .inr ⟨ad2,c2,by simp,?_,h4⟩
      have:=World.block_lt_of_cell? _ _ (h4 0 hz0)
      rwa [add_block] at this
  obtain ⟨sv,h1,_⟩:=key 0 hp
  have:=World.block_lt_of_cell? _ _ h1
  rw [add_block] at this
  exact ⟨ad,rfl,this,key⟩
def e0 : List (List I64):=[[],[],[],[]]
def e1 : List (List I64):=[[⟨7,by decide⟩],[],[],[]]
theorem Check_calls (ls : List (List I64)) (h : ls = e0∨ls = e1) (A0 : Option Addr) (c0 : Nat) (w : World) (hr0 : Kd.C (Kd.slice 3 (Kd.int .i64)) w A0 ls.length (raw ls)) :
    Calls Try.prog 56 #[.slice A0 ls.length c0] w fun e w' => e = .returned (.int .i64 0)∧Below w.heap.size w w':=by
  have hl : ls.length = 4:=by rcases h with rfl | rfl <;> rfl
  obtain ⟨ad,rfl,hN⟩:=nest_of ls hr0 (by omega)
  refine (callsIn_wide (n:=8)).1 (Check_in Fence.wide 8 trivial trivial trivial trivial trivial rfl (by omega) ad c0 ls hl ?_ ?_ ?_ w hN)
  · intro k
    rcases h with rfl | rfl
    · match k with
      | 0 | 1 | 2 | 3 => decide
      | k + 4 => simp [e0]
    · match k with
      | 0 | 1 | 2 | 3 => decide
      | k + 4 => simp [e1]
  · rcases h with rfl | rfl <;> decide
  · rcases h with rfl | rfl <;> rfl
theorem ages_calls (ls : List (List I64)) (h : ls = e0∨ls = e1) (ad : Addr) (c0 : Nat) (w : World) (hN : Nest w.heap.size w ad ls) :
    Calls Try.prog 58 #[.slice (some ad) ls.length c0] w fun e W' => e = .returned (.map (some w.heap.size))∧W'.ownsMap Try.prog 3 (plainElem (H:=Unit) Try.prog 3) w.heap.size (flt ls ls.length).length (agesD (flt ls ls.length))∧Below w.heap.size w W':=by
  refine (callsIn_wide (n:=8)).1 (ages_in Fence.wide 8 trivial trivial trivial rfl (by omega) ad c0 ls ?_ ?_ ?_ w hN)
  · rcases h with rfl | rfl <;> decide
  · intro k
    rcases h with rfl | rfl
    · match k with
      | 0 | 1 | 2 | 3 => decide
      | k + 4 => simp [e0]
    · match k with
      | 0 | 1 | 2 | 3 => decide
      | k + 4 => simp [e1]
  · rcases h with rfl | rfl <;> decide
theorem ages0 (A0 : Option Addr) (c0 : Nat) (l0 : List (List Int)) (w : World) (h : l0 = [[],[],[],[]]) (hr0 : Kd.C (Kd.slice 3 (Kd.int .i64)) w A0 l0.length l0) :
    Calls Try.prog 58 #[.slice A0 l0.length c0] w fun e W' => e = .returned (.map (some w.heap.size))∧W'.ownsMap Try.prog 3 (plainElem (H:=Unit) Try.prog 3) w.heap.size 0 (.map [])∧Below w.heap.size w W':=by
  subst h
  obtain ⟨ad,rfl,hN⟩:=nest_of e0 hr0 (by decide)
  exact ages_calls e0 (Or.inl rfl) ad c0 w hN
theorem ages1 (A0 : Option Addr) (c0 : Nat) (l0 : List (List Int)) (w : World) (h : l0 = [[7],[],[],[]]) (hr0 : Kd.C (Kd.slice 3 (Kd.int .i64)) w A0 l0.length l0) :
    Calls Try.prog 58 #[.slice A0 l0.length c0] w fun e W' => e = .returned (.map (some w.heap.size))∧W'.ownsMap Try.prog 3 (plainElem (H:=Unit) Try.prog 3) w.heap.size 1 (.map [(.int .i64 7,.lit (.int .i64 0))])∧Below w.heap.size w W':=by
  subst h
  obtain ⟨ad,rfl,hN⟩:=nest_of e1 hr0 (by decide)
  exact ages_calls e1 (Or.inr rfl) ad c0 w hN
theorem has_nil (k : Lit) : Maps.has (DataW.map [] : DU) k = false:=rfl
theorem has_one : Maps.has (DataW.map [(.int .i64 7,.lit (.int .i64 0))] : DU) (.int .i64 7) = true:=rfl
theorem at_one {c : Int} (h : (DataW.map [(.int .i64 7,.lit (.int .i64 0))] : DU).atKey (.int .i64 7) (.lit (.int .i64 0)) = .lit (.int .i64 c)) : c = 0:=by
  have h2 : (DataW.lit (.int .i64 0) : DU) = .lit (.int .i64 c):=h
  injection h2 with h2
  injection h2 with _ h2
  exact h2.symm
theorem key7 : keyOf Try.prog 3 (.int .i64 7) = some (.int .i64 7):=Maps.keyOf_int_mk Try.underlying3 (by decide)
end Go.Proofs.Ytnmenfkmndnoaaa.Gen
