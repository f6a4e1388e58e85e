-- Written by a program of this session (a changed copy of the kit's printer). Not trusted: Lean checks it.
import Derived.Test.YtnmenfkmndnoaaaProg
import Derived.Below
import Derived.Deep.Draws
import Derived.Deep.AppendLies
import Derived.Maps.AppendAt
import Derived.OwnWalk
import Derived.Laws.BytesArg
import Derived.Laws.MakeOwn
import Derived.Laws.OwnMore
import Derived.Deep.OwnRows
import Derived.Tactics
import Derived.Lib.ConvBytes
import Derived.Laws.Slices
import Derived.WalkKit
import Derived.KernelRfl
import Derived.RowKit3
import Derived.Deep.LoopGhost
import Derived.Deep.QuietTactic
import Derived.BigQuiet
import Derived.WideLaws
import Derived.Deep.DeepCutAuto
import Derived.Deep.CutBlock
import Derived.Deep.RegionHeld3
import Derived.Laws.Rows
import Derived.Lib.AppendStr
import Derived.ArgAppend
import Derived.Laws.IdiomCopy
import Derived.OrdersHeld
import Derived.Laws.BitsLemmas
import Derived.RowKit
import Derived.Outline
import Derived.Deep.DeepMust
import Derived.Lib.LazyBuf
import Derived.Test.YtnmenfkmndnoaaaV
namespace Go.Proofs.Ytnmenfkmndnoaaa.Pr
open Go.RowKit Go.Proofs.YtnmenfkmndnoaaaW.PrintWords Go.Proofs.YtnmenfkmndnoaaaW.PrintLast Go.Proofs.YtnmenfkmndnoaaaW.PrintMore
attribute [local go_sem] max2_int min2_int max_two min_two max_three min_three max_four min_four
set_option linter.unusedVariables false
set_option linter.unusedSimpArgs false
abbrev T0:=true
abbrev F0:=false
theorem z0_ {α : Type} (l : List α) (i : Nat) (a : α) : l.toArray.setIfInBounds i a = (l.set i a).toArray:=List.setIfInBounds_toArray ..
theorem z1_ {α : Type} {a b : α} {l : List α} : (a :: l).set 0 b = b :: l:=rfl
theorem z2_ {α : Type} {a b : α} {l : List α} {n : Nat} : (a :: l).set (n + 1) b = a :: l.set n b:=rfl
theorem z3_ {α β : Type} {f : α→β} {l : List α} : l.toArray.map f = (l.map f).toArray:=by simp
theorem z4_ {α β : Type} {f : α→β} {a : α} {l : List α} : (a :: l).map f = f a :: l.map f:=rfl
theorem z5_ {α β : Type} {f : α→β} : ([] : List α).map f = []:=rfl
theorem z6_ {α : Type} {l : List α} {i : Nat} : (l.drop i).length = l.length - i:=List.length_drop
theorem z7_ {α : Type} {l : List α} {i : Nat} : (l.take i).length = min i l.length:=List.length_take
theorem b0_ {w W : World} (h : Below w.heap.size w W) (o : Obj) : Below w.heap.size w (W.alloc o):=below_alloc h o
theorem b1_ {B : Nat} {w W : World} (h : Below B w W) (n : Nat) : Below B w (W.drewN n):=pw_below_drewN h n
theorem q4_ {w : World} {u : Nat} {t : TypeId} {a b c d : Value} (h : w.heap[u]? = some (.cells #[a,b,c,d] t (0,0))) : w.cell? ⟨u,0,none⟩ = some a∧w.cell? ⟨u,1,none⟩ = some b∧w.cell? ⟨u,2,none⟩ = some c∧w.cell? ⟨u,3,none⟩ = some d∧w.frozen? ⟨u,0,none⟩ = false∧w.frozen? ⟨u,1,none⟩ = false∧w.frozen? ⟨u,2,none⟩ = false∧w.frozen? ⟨u,3,none⟩ = false:=⟨(blk_cell h 0).trans rfl,(blk_cell h 1).trans rfl,(blk_cell h 2).trans rfl,(blk_cell h 3).trans rfl,blk_frozen h 0,blk_frozen h 1,blk_frozen h 2,blk_frozen h 3⟩
theorem q5_ {w : World} {u : Nat} {t : TypeId} {a b c d e : Value} (h : w.heap[u]? = some (.cells #[a,b,c,d,e] t (0,0))) : w.cell? ⟨u,0,none⟩ = some a∧w.cell? ⟨u,1,none⟩ = some b∧w.cell? ⟨u,2,none⟩ = some c∧w.cell? ⟨u,3,none⟩ = some d∧w.cell? ⟨u,4,none⟩ = some e∧w.frozen? ⟨u,0,none⟩ = false∧w.frozen? ⟨u,1,none⟩ = false∧w.frozen? ⟨u,2,none⟩ = false∧w.frozen? ⟨u,3,none⟩ = false∧w.frozen? ⟨u,4,none⟩ = false:=⟨(blk_cell h 0).trans rfl,(blk_cell h 1).trans rfl,(blk_cell h 2).trans rfl,(blk_cell h 3).trans rfl,(blk_cell h 4).trans rfl,blk_frozen h 0,blk_frozen h 1,blk_frozen h 2,blk_frozen h 3,blk_frozen h 4⟩
theorem q7_ {w : World} {u : Nat} {t : TypeId} {a b c d e f g : Value} (h : w.heap[u]? = some (.cells #[a,b,c,d,e,f,g] t (0,0))) : w.cell? ⟨u,0,none⟩ = some a∧w.cell? ⟨u,1,none⟩ = some b∧w.cell? ⟨u,2,none⟩ = some c∧w.cell? ⟨u,3,none⟩ = some d∧w.cell? ⟨u,4,none⟩ = some e∧w.cell? ⟨u,5,none⟩ = some f∧w.cell? ⟨u,6,none⟩ = some g∧w.frozen? ⟨u,0,none⟩ = false∧w.frozen? ⟨u,1,none⟩ = false∧w.frozen? ⟨u,2,none⟩ = false∧w.frozen? ⟨u,3,none⟩ = false∧w.frozen? ⟨u,4,none⟩ = false∧w.frozen? ⟨u,5,none⟩ = false∧w.frozen? ⟨u,6,none⟩ = false:=⟨(blk_cell h 0).trans rfl,(blk_cell h 1).trans rfl,(blk_cell h 2).trans rfl,(blk_cell h 3).trans rfl,(blk_cell h 4).trans rfl,(blk_cell h 5).trans rfl,(blk_cell h 6).trans rfl,blk_frozen h 0,blk_frozen h 1,blk_frozen h 2,blk_frozen h 3,blk_frozen h 4,blk_frozen h 5,blk_frozen h 6⟩
theorem b2_ {base : Nat} {w W : World} (h : Below base w W) : Below base w W.drew:=below_drew1 h
def errW : Option Int→Value
 | none => .nilIface
 | some c => .iface 0 (.int .i64 c)
theorem errW_none : errW none = .nilIface:=rfl
theorem errW_some (c : Int) : errW (some c) = .iface 0 (.int .i64 c):=rfl
theorem info3 : (Try.prog.info? 3).map (fun i => (i.zero,i.size,i.bytes)) = some (some (.int .i64 0),1,8):=by kernel_rfl
theorem info30 : (Try.prog.info? 30).map (fun i => (i.zero,i.size,i.bytes)) = some (some (.agg #[(.int .i64 0),(.int .i64 0),(.int .i64 0),(.int .i64 0),(.int .i64 0)]),5,40):=by kernel_rfl
theorem info34 : (Try.prog.info? 34).map (fun i => (i.zero,i.size,i.bytes)) = some (some (.agg #[(.int .i64 0),(.int .i64 0),(.int .i64 0),(.int .i64 0),(.int .i64 0),(.bool false),(.bool false)]),7,48):=by kernel_rfl
theorem info50 : (Try.prog.info? 50).map (fun i => (i.zero,i.size,i.bytes)) = some (some (.slice none 0 0),1,24):=by kernel_rfl
structure S30 where
 f0 : Int
 f1 : Int
 f2 : Int
 f3 : Int
 f4 : Int
def z30 : S30:=⟨(0 : Int),(0 : Int),(0 : Int),(0 : Int),(0 : Int)⟩
def k30 : Kd S30:=Kd.iso (Kd.pair (Kd.int .i64) (Kd.pair (Kd.int .i64) (Kd.pair (Kd.int .i64) (Kd.pair (Kd.int .i64) (Kd.int .i64))))) (fun x : S30 => (x.f0,x.f1,x.f2,x.f3,x.f4))
theorem k30_open {w : World} {x : S30} {cs : List Value} (h : k30.K w x cs) : cs = [.int .i64 x.f0,.int .i64 x.f1,.int .i64 x.f2,.int .i64 x.f3,.int .i64 x.f4]:=by
 obtain ⟨_,_,rfl,rfl,⟨_,_,rfl,rfl,⟨_,_,rfl,rfl,⟨_,_,rfl,rfl,rfl⟩⟩⟩⟩:=h
 exact rfl
theorem k30_openM {w : World} {base : Nat} {ok : Nat→Prop} {x : S30} {cs : List Value} (h : k30.M w base ok x cs) : cs = [.int .i64 x.f0,.int .i64 x.f1,.int .i64 x.f2,.int .i64 x.f3,.int .i64 x.f4]:=by
 obtain ⟨_,_,rfl,rfl,⟨_,_,rfl,rfl,⟨_,_,rfl,rfl,⟨_,_,rfl,rfl,rfl⟩⟩⟩⟩:=h
 exact rfl
theorem k30_mk (w : World) (x : S30)  : k30.K w x [.int .i64 x.f0,.int .i64 x.f1,.int .i64 x.f2,.int .i64 x.f3,.int .i64 x.f4]:=⟨[.int .i64 x.f0],[.int .i64 x.f1,.int .i64 x.f2,.int .i64 x.f3,.int .i64 x.f4],rfl,rfl,⟨[.int .i64 x.f1],[.int .i64 x.f2,.int .i64 x.f3,.int .i64 x.f4],rfl,rfl,⟨[.int .i64 x.f2],[.int .i64 x.f3,.int .i64 x.f4],rfl,rfl,⟨[.int .i64 x.f3],[.int .i64 x.f4],rfl,rfl,rfl⟩⟩⟩⟩
theorem k30_mkM (w : World) (base : Nat) (ok : Nat→Prop) (x : S30)  : k30.M w base ok x [.int .i64 x.f0,.int .i64 x.f1,.int .i64 x.f2,.int .i64 x.f3,.int .i64 x.f4]:=⟨[.int .i64 x.f0],[.int .i64 x.f1,.int .i64 x.f2,.int .i64 x.f3,.int .i64 x.f4],rfl,rfl,⟨[.int .i64 x.f1],[.int .i64 x.f2,.int .i64 x.f3,.int .i64 x.f4],rfl,rfl,⟨[.int .i64 x.f2],[.int .i64 x.f3,.int .i64 x.f4],rfl,rfl,⟨[.int .i64 x.f3],[.int .i64 x.f4],rfl,rfl,rfl⟩⟩⟩⟩
def rd_T30 (xs : List S30) (i : Int) : S30:=xs.getD i.toNat z30
theorem at_T30 {w : World} {A : Option Addr} {n : Nat} {xs : List S30} (h : Kd.C k30 w A n xs) (i : Int) (h0 : 0≤i) (h1 : i < n) : ∃ ad , A = some ad∧w.cell? (ad.add (i.toNat * 5)) = some (.int .i64 (rd_T30 xs i).f0)∧w.cell? ⟨(ad.add (i.toNat * 5)).block,(ad.add (i.toNat * 5)).off + 1,none⟩ = some (.int .i64 (rd_T30 xs i).f1)∧w.cell? ⟨(ad.add (i.toNat * 5)).block,(ad.add (i.toNat * 5)).off + 2,none⟩ = some (.int .i64 (rd_T30 xs i).f2)∧w.cell? ⟨(ad.add (i.toNat * 5)).block,(ad.add (i.toNat * 5)).off + 3,none⟩ = some (.int .i64 (rd_T30 xs i).f3)∧w.cell? ⟨(ad.add (i.toNat * 5)).block,(ad.add (i.toNat * 5)).off + 4,none⟩ = some (.int .i64 (rd_T30 xs i).f4):=by
 obtain ⟨ad,c,e,_,hK,hc0⟩:=Kd.C_get h z30 i h0 h1
 have hc : ∀ j u,c[j]? = some u→w.cell? (ad.add (i.toNat * 5 + j)) = some u:=hc0
 obtain rfl:=k30_open hK
 exact ⟨ad,e,hc 0 _ rfl,by rw [← add_field _ _ 1 (by omega)];exact hc 1 _ rfl,by rw [← add_field _ _ 2 (by omega)];exact hc 2 _ rfl,by rw [← add_field _ _ 3 (by omega)];exact hc 3 _ rfl,by rw [← add_field _ _ 4 (by omega)];exact hc 4 _ rfl⟩
structure S34 where
 f0 : Int
 f1 : Int
 f2 : Int
 f3 : Int
 f4 : Int
 f5 : Bool
 f6 : Bool
def z34 : S34:=⟨(0 : Int),(0 : Int),(0 : Int),(0 : Int),(0 : Int),false,false⟩
def k34 : Kd S34:=Kd.iso (Kd.pair (Kd.int .i64) (Kd.pair (Kd.int .i64) (Kd.pair (Kd.int .i64) (Kd.pair (Kd.int .i64) (Kd.pair (Kd.int .i64) (Kd.pair Kd.bool Kd.bool)))))) (fun x : S34 => (x.f0,x.f1,x.f2,x.f3,x.f4,x.f5,x.f6))
theorem k34_open {w : World} {x : S34} {cs : List Value} (h : k34.K w x cs) : cs = [.int .i64 x.f0,.int .i64 x.f1,.int .i64 x.f2,.int .i64 x.f3,.int .i64 x.f4,.bool x.f5,.bool x.f6]:=by
 obtain ⟨_,_,rfl,rfl,⟨_,_,rfl,rfl,⟨_,_,rfl,rfl,⟨_,_,rfl,rfl,⟨_,_,rfl,rfl,⟨_,_,rfl,rfl,rfl⟩⟩⟩⟩⟩⟩:=h
 exact rfl
theorem k34_openM {w : World} {base : Nat} {ok : Nat→Prop} {x : S34} {cs : List Value} (h : k34.M w base ok x cs) : cs = [.int .i64 x.f0,.int .i64 x.f1,.int .i64 x.f2,.int .i64 x.f3,.int .i64 x.f4,.bool x.f5,.bool x.f6]:=by
 obtain ⟨_,_,rfl,rfl,⟨_,_,rfl,rfl,⟨_,_,rfl,rfl,⟨_,_,rfl,rfl,⟨_,_,rfl,rfl,⟨_,_,rfl,rfl,rfl⟩⟩⟩⟩⟩⟩:=h
 exact rfl
theorem k34_mk (w : World) (x : S34)  : k34.K w x [.int .i64 x.f0,.int .i64 x.f1,.int .i64 x.f2,.int .i64 x.f3,.int .i64 x.f4,.bool x.f5,.bool x.f6]:=⟨[.int .i64 x.f0],[.int .i64 x.f1,.int .i64 x.f2,.int .i64 x.f3,.int .i64 x.f4,.bool x.f5,.bool x.f6],rfl,rfl,⟨[.int .i64 x.f1],[.int .i64 x.f2,.int .i64 x.f3,.int .i64 x.f4,.bool x.f5,.bool x.f6],rfl,rfl,⟨[.int .i64 x.f2],[.int .i64 x.f3,.int .i64 x.f4,.bool x.f5,.bool x.f6],rfl,rfl,⟨[.int .i64 x.f3],[.int .i64 x.f4,.bool x.f5,.bool x.f6],rfl,rfl,⟨[.int .i64 x.f4],[.bool x.f5,.bool x.f6],rfl,rfl,⟨[.bool x.f5],[.bool x.f6],rfl,rfl,rfl⟩⟩⟩⟩⟩⟩
theorem k34_mkM (w : World) (base : Nat) (ok : Nat→Prop) (x : S34)  : k34.M w base ok x [.int .i64 x.f0,.int .i64 x.f1,.int .i64 x.f2,.int .i64 x.f3,.int .i64 x.f4,.bool x.f5,.bool x.f6]:=⟨[.int .i64 x.f0],[.int .i64 x.f1,.int .i64 x.f2,.int .i64 x.f3,.int .i64 x.f4,.bool x.f5,.bool x.f6],rfl,rfl,⟨[.int .i64 x.f1],[.int .i64 x.f2,.int .i64 x.f3,.int .i64 x.f4,.bool x.f5,.bool x.f6],rfl,rfl,⟨[.int .i64 x.f2],[.int .i64 x.f3,.int .i64 x.f4,.bool x.f5,.bool x.f6],rfl,rfl,⟨[.int .i64 x.f3],[.int .i64 x.f4,.bool x.f5,.bool x.f6],rfl,rfl,⟨[.int .i64 x.f4],[.bool x.f5,.bool x.f6],rfl,rfl,⟨[.bool x.f5],[.bool x.f6],rfl,rfl,rfl⟩⟩⟩⟩⟩⟩
def rd_T34 (xs : List S34) (i : Int) : S34:=xs.getD i.toNat z34
theorem at_T34 {w : World} {A : Option Addr} {n : Nat} {xs : List S34} (h : Kd.C k34 w A n xs) (i : Int) (h0 : 0≤i) (h1 : i < n) : ∃ ad , A = some ad∧w.cell? (ad.add (i.toNat * 7)) = some (.int .i64 (rd_T34 xs i).f0)∧w.cell? ⟨(ad.add (i.toNat * 7)).block,(ad.add (i.toNat * 7)).off + 1,none⟩ = some (.int .i64 (rd_T34 xs i).f1)∧w.cell? ⟨(ad.add (i.toNat * 7)).block,(ad.add (i.toNat * 7)).off + 2,none⟩ = some (.int .i64 (rd_T34 xs i).f2)∧w.cell? ⟨(ad.add (i.toNat * 7)).block,(ad.add (i.toNat * 7)).off + 3,none⟩ = some (.int .i64 (rd_T34 xs i).f3)∧w.cell? ⟨(ad.add (i.toNat * 7)).block,(ad.add (i.toNat * 7)).off + 4,none⟩ = some (.int .i64 (rd_T34 xs i).f4)∧w.cell? ⟨(ad.add (i.toNat * 7)).block,(ad.add (i.toNat * 7)).off + 5,none⟩ = some (.bool (rd_T34 xs i).f5)∧w.cell? ⟨(ad.add (i.toNat * 7)).block,(ad.add (i.toNat * 7)).off + 6,none⟩ = some (.bool (rd_T34 xs i).f6):=by
 obtain ⟨ad,c,e,_,hK,hc0⟩:=Kd.C_get h z34 i h0 h1
 have hc : ∀ j u,c[j]? = some u→w.cell? (ad.add (i.toNat * 7 + j)) = some u:=hc0
 obtain rfl:=k34_open hK
 exact ⟨ad,e,hc 0 _ rfl,by rw [← add_field _ _ 1 (by omega)];exact hc 1 _ rfl,by rw [← add_field _ _ 2 (by omega)];exact hc 2 _ rfl,by rw [← add_field _ _ 3 (by omega)];exact hc 3 _ rfl,by rw [← add_field _ _ 4 (by omega)];exact hc 4 _ rfl,by rw [← add_field _ _ 5 (by omega)];exact hc 5 _ rfl,by rw [← add_field _ _ 6 (by omega)];exact hc 6 _ rfl⟩
def rd_L4 (xs : List (List S34)) (i : Int) : (List S34):=xs.getD i.toNat ([] : List S34)
theorem at_L4 {w : World} {A : Option Addr} {n : Nat} {xs : List (List S34)} (h : Kd.C (Kd.slice 34 k34) w A n xs) (i : Int) (h0 : 0≤i) (h1 : i < n) : ∃ ad A0 c0,A = some ad∧w.cell? (ad.add i.toNat) = some (.slice A0 (rd_L4 xs i).length c0)∧(rd_L4 xs i).length≤c0∧k34.C w A0 (rd_L4 xs i).length (rd_L4 xs i):=by
 obtain ⟨ad,c,e,_,hK,hc0⟩:=Kd.C_get h ([] : List S34) i h0 h1
 have hc : ∀ j u,c[j]? = some u→w.cell? (ad.add (i.toNat * 1 + j)) = some u:=hc0
 obtain ⟨A0,c0,rfl,l0,g0⟩:=hK
 exact ⟨ad,A0,c0,e,by have hq:=hc 0 _ rfl;rwa [Nat.mul_one,Nat.add_zero] at hq,l0,g0⟩
def rd_L5 (xs : List (List S30)) (i : Int) : (List S30):=xs.getD i.toNat ([] : List S30)
theorem at_L5 {w : World} {A : Option Addr} {n : Nat} {xs : List (List S30)} (h : Kd.C (Kd.slice 30 k30) w A n xs) (i : Int) (h0 : 0≤i) (h1 : i < n) : ∃ ad A0 c0,A = some ad∧w.cell? (ad.add i.toNat) = some (.slice A0 (rd_L5 xs i).length c0)∧(rd_L5 xs i).length≤c0∧k30.C w A0 (rd_L5 xs i).length (rd_L5 xs i):=by
 obtain ⟨ad,c,e,_,hK,hc0⟩:=Kd.C_get h ([] : List S30) i h0 h1
 have hc : ∀ j u,c[j]? = some u→w.cell? (ad.add (i.toNat * 1 + j)) = some u:=hc0
 obtain ⟨A0,c0,rfl,l0,g0⟩:=hK
 exact ⟨ad,A0,c0,e,by have hq:=hc 0 _ rfl;rwa [Nat.mul_one,Nat.add_zero] at hq,l0,g0⟩
def rd_L7 (xs : List (List Int)) (i : Int) : (List Int):=xs.getD i.toNat ([] : List Int)
theorem at_L7 {w : World} {A : Option Addr} {n : Nat} {xs : List (List Int)} (h : Kd.C (Kd.slice 3 (Kd.int .i64)) w A n xs) (i : Int) (h0 : 0≤i) (h1 : i < n) : ∃ ad A0 c0,A = some ad∧w.cell? (ad.add i.toNat) = some (.slice A0 (rd_L7 xs i).length c0)∧(rd_L7 xs i).length≤c0∧(Kd.int .i64).C w A0 (rd_L7 xs i).length (rd_L7 xs i):=by
 obtain ⟨ad,c,e,_,hK,hc0⟩:=Kd.C_get h ([] : List Int) i h0 h1
 have hc : ∀ j u,c[j]? = some u→w.cell? (ad.add (i.toNat * 1 + j)) = some u:=hc0
 obtain ⟨A0,c0,rfl,l0,g0⟩:=hK
 exact ⟨ad,A0,c0,e,by have hq:=hc 0 _ rfl;rwa [Nat.mul_one,Nat.add_zero] at hq,l0,g0⟩
end Go.Proofs.Ytnmenfkmndnoaaa.Pr
