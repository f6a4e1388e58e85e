import Derived.RangeFuncNested
import Derived.RangeFuncBound
import Derived.RangeFuncCalls
import Derived.RangeFuncBox
import Derived.RangeFuncLeaves
import Derived.Shelf.Abstract
import Derived.Shelf.RegionOpen
import Derived.WalkKit
import Derived.OwnWalkIn
import Derived.TacticsInMore
import Derived.LoopNIn
import Derived.LoopIn
import Derived.Maps.OwnIn
import Derived.Maps.OwnSet
import Derived.Maps.OwnOps
import Derived.Test.YtnmenfkmndnoaaaProg
set_option linter.unusedVariables false
set_option linter.unusedSimpArgs false
namespace Go.Proofs.Ytnmenfkmndnoaaa.Gen
open Go.RowKit Go.Shelf
attribute [local go_sem] Oper.semAt_some
abbrev I64:={ x : Int // 0≤x∧x < 256 }
def i0 : I64:=⟨0,by decide⟩
def ag (k : Nat) : I64:=if h : k < 256 then ⟨k,by omega⟩ else i0
theorem wf_small (x : Int) (h0 : -1000000000000000000≤x) (h1 : x≤1000000000000000000) : (Lit.int .i64 x).wf = true:=by
  have:=wrap64_wf x
  rwa [show wrap64 x = x by unfold wrap64;omega] at this
theorem I64.wf (x : I64) : (Lit.int .i64 x.1).wf = true:=wf_small x.1 (by have:=x.2;omega) (by have:=x.2;omega)
theorem ag_val (k : Nat) (h : k < 256) : (ag k).1 = (k : Int):=by
  unfold ag
  rw [dif_pos h]
def Ints (n₀ : Nat) (W : World) (sv : Value) (zs : List I64) : Prop :=
  (∃ A c,sv = .slice A 0 c∧zs = [])∨∃ (ad : Addr) (cap : Nat),sv = .slice (some ad) zs.length cap∧ad.block < n₀∧∀ j,j < zs.length→W.cell? (ad.add j) = some (.int .i64 (zs[j]?.getD i0).1)
theorem add_block (ad : Addr) (k : Nat) : (ad.add k).block = ad.block:=by unfold Addr.add;split <;> rfl
theorem Ints.below {n₀ : Nat} {A B : World} (h : Below n₀ A B) {sv : Value} {zs : List I64} : Ints n₀ A sv zs→Ints n₀ B sv zs
  | .inl e => .inl e
  | .inr ⟨ad,cap,e,hb,hc⟩ => .inr ⟨ad,cap,e,hb,fun j hj => (h.cell (p:=ad.add j) (by rw [add_block];exact hb)).trans (hc j hj)⟩
def Nest (n₀ : Nat) (W : World) (ad : Addr) (ls : List (List I64)) : Prop:=ad.block < n₀∧∀ j,j < ls.length→∃ sv,W.cell? (ad.add j) = some sv∧Ints n₀ W sv (ls[j]?.getD [])
theorem Nest.below {n₀ : Nat} {A B : World} (h : Below n₀ A B) {ad : Addr} {ls : List (List I64)} (hn : Nest n₀ A ad ls) : Nest n₀ B ad ls :=
  ⟨hn.1,fun j hj => by obtain ⟨sv,h1,h2⟩:=hn.2 j hj;exact ⟨sv,(h.cell (p:=ad.add j) (by rw [add_block];exact hn.1)).trans h1,h2.below h⟩⟩
def upto {α : Type} (f : Nat→α) (k : Nat) : List α:=(List.range k).map f
theorem upto_succ {α : Type} (f : Nat→α) (k : Nat) : upto f (k + 1) = upto f k ++ [f k]:=by simp [upto,List.range_succ]
theorem upto_length {α : Type} (f : Nat→α) (k : Nat) : (upto f k).length = k:=by simp [upto]
def prs (ls : List (List I64)) (k m : Nat) : List (I64 × I64):=upto (fun j => (ag k,(ls[k]?.getD [])[j]?.getD i0)) m
def flt (ls : List (List I64)) : Nat→List (I64 × I64)
  | 0 => []
  | k + 1 => flt ls k ++ prs ls k (ls[k]?.getD []).length
theorem flt_mono (ls : List (List I64)) (k m : Nat) (hk : k < ls.length) (hm : m≤(ls[k]?.getD []).length) : (flt ls k ++ prs ls k m).length≤(flt ls ls.length).length:=by
  have h1 : ∀ d,(flt ls (k + 1)).length≤(flt ls (k + 1 + d)).length:=by
    intro d
    induction d with
    | zero => exact Nat.le_refl _
    | succ d ih => rw [show k + 1 + (d + 1) = (k + 1 + d) + 1 by omega,show flt ls (k + 1 + d + 1) = flt ls (k + 1 + d) ++ prs ls (k + 1 + d) (ls[k + 1 + d]?.getD []).length from rfl,List.length_append];omega
  have h2:=h1 (ls.length - (k + 1))
  rw [show k + 1 + (ls.length - (k + 1)) = ls.length by omega,flt,List.length_append] at h2
  rw [List.length_append]
  simp only [prs,upto_length] at h2 ⊢
  omega
set_option maxRecDepth 100000 in
set_option maxHeartbeats 4000000 in
theorem all1_in (F : Fence) (n : Nat) (h7 : F.fn 86) (hro : F.round = none) (hn : 1≤n) (l Bs n₀ : Nat) (ad : Addr) (cap : Nat) (ls : List (List I64)) (hl : ls.length≤256) (hls : ∀ k : Nat,(ls[k]?.getD []).length≤1000000) (J Jx : List (I64 × I64)→World→Prop)
    (hY : ∀ pre x W,J pre W→pre.length < (flt ls ls.length).length→YieldAt F (n - 1) Try.prog l #[.int .i64 x.1.1,.int .i64 x.2.1] W fun e W' =>
      (e = .returned (.bool true)∧J (pre ++ [x]) W'∧Below n₀ W W')∨(e = .returned (.bool false)∧Jx (pre ++ [x]) W'))
    (W : World) (hBs : W.cell? ⟨Bs,0,none⟩ = some (.slice (some ad) ls.length cap)) (hc : Nest n₀ W ad ls) (h0 : J [] W) :
    CallsIn F n Try.prog 86 #[.func (.yield l) #[] #[],.pointer (some ⟨Bs,0,none⟩)] W fun e W' => (∃ v,e = .returned v) ∧
      ((∃ ys,ys = flt ls ls.length∧J ys W')∨(∃ pre,(∃ k m,k < ls.length∧m≤(ls[k]?.getD []).length∧pre = flt ls k ++ prs ls k m)∧Jx pre W')):=by
  refine callsIn_of_wp Try.func86 rfl h7 ?_ hro
  simp only [Try.ntmps86,List.size_toArray,List.length_cons,List.length_nil,Nat.reduceAdd,Nat.reduceSub,Array.replicate_succ,Array.replicate_zero,List.push_toArray,List.append_toArray,List.nil_append,List.cons_append]
  gi_wp2
  gi_loopw [9] (fun i wr => ∃ k : Nat,k≤ls.length∧i = .int .i64 k∧J (flt ls k) wr∧Below n₀ W wr)
    (fun i _ => ls.length - (intOf i).toNat)
  case atStart => exact ⟨0,Nat.zero_le _,rfl,h0,Below.refl _ _⟩
  case round =>
    obtain ⟨k,hk,rfl,hJs,hnx⟩:=hrel
    have ek : 0≤(k : Int):=by omega
    by_cases hlt : k < ls.length
    · obtain ⟨sv,hsv,hiv⟩:=hc.2 k hlt
      have hcx:=(hnx.cell (p:=ad.add k) (by rw [add_block];exact hc.1)).trans hsv
      have hag:=ag_val k (by omega)
      have hls2:=hls k
      have hfm:=flt_mono ls k
      have ep : ∀ m,prs ls k m = upto (fun j => (ag k,(ls[k]?.getD [])[j]?.getD i0)) m:=fun _ => rfl
      have ef : flt ls (k + 1) = flt ls k ++ prs ls k (ls[k]?.getD []).length:=rfl
      obtain ⟨zs,ezs⟩ : ∃ zs,ls[k]?.getD [] = zs:=⟨_,rfl⟩
      rw [ezs] at hiv hls2 ef
      simp only [ezs] at ep hfm
      rcases hiv.below hnx with ⟨A2,c2,rfl,hz⟩ | ⟨ad2,cap2,rfl,hb2,hc2⟩
      · gi_wp2
        gi_loopw [16] (fun i wr => i = .int .i64 0∧J (flt ls k) wr∧Below n₀ W wr) (fun _ _ => 0)
        case atStart => exact ⟨rfl,hJs,hnx⟩
        case round =>
          obtain ⟨rfl,hJ2,hn2⟩:=hrel
          gi_wp2
          go_roundw
          case rel => exact ⟨k + 1,by omega,by simp,by rw [ef,hz,ep];simpa [upto] using hJ2,hn2⟩
          case measure => simp [intOf];omega
      · gi_wp2
        gi_loopw [16] (fun i wr => ∃ m : Nat,m≤zs.length∧i = .int .i64 m∧J (flt ls k ++ prs ls k m) wr∧Below n₀ W wr) (fun i _ => zs.length - (intOf i).toNat)
        case atStart => exact ⟨0,Nat.zero_le _,rfl,by rw [ep];simpa [upto] using hJs,hnx⟩
        case round =>
          rename_i wr2
          obtain ⟨m,hm,rfl,hJ2,hn2⟩:=hrel
          by_cases hlt2 : m < zs.length
          · obtain ⟨fn,tmps,assign,body,hy,hR⟩:=hY _ (ag k,zs[m]?.getD i0) _ hJ2 (by have:=hfm (m + 1) hlt (by omega);rw [ep,upto_succ,← List.append_assoc,List.length_append,← ep] at this;simp only [List.length_cons,List.length_nil] at this;omega)
            dsimp only at hy
            obtain ⟨x,ex⟩ : ∃ x,zs[m]?.getD i0 = x:=⟨_,rfl⟩
            rw [ex] at hy
            rw [hag] at hy
            have hcm:=(hn2.cell (p:=ad2.add m) (by rw [add_block];exact hb2)).trans ((hnx.cell (p:=ad2.add m) (by rw [add_block];exact hb2)).symm.trans (hc2 m hlt2))
            rw [ex] at hcm
            gi_wp2
            refine hR.mono ?_
            rintro e W3 (⟨rfl,hJ3,hk3⟩ | ⟨rfl,hJx3⟩)
            · gi_wp2
              go_roundw
              case rel => exact ⟨m + 1,by omega,by simp,by rw [ep,upto_succ,← List.append_assoc,← ep];exact hJ3,hn2.trans hk3⟩
              case measure => simp [intOf];omega
            · gi_wp2
              refine bodyPost_ret (results_none rfl _ _ _) rfl ?_
              exact ⟨⟨_,rfl⟩,.inr ⟨_,⟨k,m + 1,hlt,by rw [ezs];omega,by rw [ep (m + 1),upto_succ,← List.append_assoc,← ep]⟩,hJx3⟩⟩
          · obtain rfl : m = zs.length:=by omega
            gi_wp2
            go_roundw
            case rel => exact ⟨k + 1,by omega,by simp,by rw [ef];exact hJ2,hn2⟩
            case measure => simp [intOf];omega
    · obtain rfl : k = ls.length:=by omega
      gi_wp2
      go_end0
      exact ⟨⟨_,rfl⟩,.inl ⟨_,rfl,hJs⟩⟩
set_option maxHeartbeats 1000000 in
theorem all_in (F : Fence) (n : Nat) (h : F.fn 60) (hro : F.round = none) (a : Option Addr) (len cap : Nat) (w : World) :
    CallsIn F n Try.prog 60 #[.slice a len cap] w fun e w' => e = .returned (.func (.func 86) #[] #[.pointer (some ⟨w.heap.size,0,none⟩)])∧w' = w.alloc (.cells #[.slice a len cap] 45):=by
  refine callsIn_of_wp Try.func60 rfl h ?_ hro
  simp only [Try.ntmps60,List.size_toArray,List.length_cons,List.length_nil,Nat.reduceAdd,Nat.reduceSub,Array.replicate_succ,Array.replicate_zero,List.push_toArray,List.append_toArray,List.nil_append,List.cons_append]
  gi_wp2
  go_ret
  exact ⟨rfl,rfl⟩
theorem all_stops (F : Fence) (n : Nat) (h : F.fn 86) (hro : F.round = none) (hn : 1≤n) (Bs n₀ : Nat) (ad : Addr) (cap : Nat) (ls : List (List I64)) (hl : ls.length≤256) (hls : ∀ k : Nat,(ls[k]?.getD []).length≤1000000) (w : World) (hBs : Bs < w.heap.size) (hn₀ : n₀≤w.heap.size)
    (hc : w.cell? ⟨Bs,0,none⟩ = some (.slice (some ad) ls.length cap)) (hI : Nest n₀ w ad ls) :
    SeqStopsK F n Try.prog 86 #[.pointer (some ⟨Bs,0,none⟩)] (fun x : I64 × I64 => #[Value.int .i64 x.1.1,Value.int .i64 x.2.1]) (Below n₀) (fun ys => ys = flt ls ls.length) (fun _ => True) (flt ls ls.length).length w:=fun l J Jx W hW _ _ hY h0 =>
  (all1_in F n h hro hn l Bs n₀ ad cap ls hl hls J Jx hY W ((hW.cell (p:=⟨Bs,0,none⟩) hBs).trans hc) (hI.below (hW.mono hn₀)) h0).mono fun e W' ⟨he,hj⟩ => ⟨he,hj.imp id (fun ⟨pre,_,h⟩ => ⟨pre,trivial,h⟩)⟩
end Go.Proofs.Ytnmenfkmndnoaaa.Gen
