-- The words of the printed texts (laid by the kit's print for this seat), without those that nothing here names. Not trusted: Lean checks it.
import Derived.Test.YtnmenfkmndnoaaaV
section
set_option linter.unusedVariables false
set_option linter.unusedSimpArgs false
namespace Go.Proofs.YtnmenfkmndnoaaaW.PrintWords
open Go.RowKit
section
variable {P : Program} {ops : Array Oper} {rest : List Oper} {o : Oper} {a : Act} {Q : Exit→Act→World→Prop}
end
section
variable {P : Program}
end
section
variable {P : Program} {ops : Array Oper} {rest : List Oper} {o : Oper} {a : Act} {Q : Exit→Act→World→Prop}
end
section
variable {P : Program} {ops : Array Oper} {rest : List Oper} {o : Oper} {a : Act} {Q : Exit→Act→World→Prop}
end
section
variable {P : Program} {ops : Array Oper} {o : Oper} {a : Act} {Q : Exit→Act→World→Prop} {K : Act→World→Prop}
end
section
variable {α : Type} {enc : α→Value} {d : α}
end
section
variable {α : Type} {P : Program} {ops : Array Oper} {rest : List Oper} {o : Oper} {a : Act} {Q : Exit→Act→World→Prop}
end
section
variable {P : Program}
end
section
variable {α : Type} {R R' : α→List Value→Prop} {e : TypeId} {size : Nat} {w w1 : World} {base : Nat} {v : Value} {ps : List α}
end
section
variable {P : Program} {ops : Array Oper} {rest : List Oper} {o : Oper} {a : Act} {Q : Exit→Act→World→Prop} {α : Type} {R : α→List Value→Prop}
end
section
variable {P : Program} {ops : Array Oper} {o : Oper} {a : Act} {Q : Exit→Act→World→Prop} {K : Act→World→Prop} {α : Type} {R : α→List Value→Prop}
end
section
variable {α : Type} {P : Program}
end
section
variable {P : Program} {ops : Array Oper} {rest : List Oper} {o : Oper} {a : Act} {Q : Exit→Act→World→Prop}
end
namespace Kd
section
variable {α : Type} {d : Kd α} {e : Nat} {w w1 : World} {base : Nat} {ok ok' : Nat→Prop} {v : Value} {xs : List α}
end
section
variable {P : Program} {ops : Array Oper} {rest : List Oper} {o : Oper} {a : Act} {Q : Exit→Act→World→Prop} {α : Type}
end
section
variable {P : Program} {ops : Array Oper} {o : Oper} {a : Act} {Q : Exit→Act→World→Prop} {Kc : Act→World→Prop} {α : Type}
end
end Kd
namespace Kd
section
variable {α : Type} {F : Kd α→Kd α} {sz : Nat} {E : List Nat} {hs : ∀ n,(upto F sz E n).sz = sz} {hE : ∀ n q,q ∈ (upto F sz E n).E→q ∈ E}
end
end Kd
namespace Kd
theorem R_after {α : Type} {d : Kd α} {e base : Nat} {ok : Nat→Prop} {W w1 : World} {u v v1 : Value} {xs : List α} (h : d.R e W base (fun k => ok k∧some k≠v.ownBlock) u xs) (hg : W.grownBy w1 v.ownBlock) (hat : v1.ownBlock = v.ownBlock∨∃ b,v1.ownBlock = some b∧W.heap.size≤b) : d.R e w1 base (fun k => ok k∧some k≠v1.ownBlock) u xs:=by
  refine R_mono (R_move (R_bound h) (fun k hk => hg.block k hk.2.2.1 hk.1.2)) (fun k hk => ⟨hk.1.1,?_⟩)
  rcases hat with hat | ⟨b,hb,hle⟩
  · rw [hat];exact hk.1.2
  · rw [hb]
    intro he
    injection he with he
    have:=hk.2.2.1
    omega
theorem M_row {α : Type} {d : Kd α} {e base : Nat} {ok : Nat→Prop} {w : World} {v : Value} {xs : List α} (h : d.R e w base ok v xs) : (slice e d).M w base ok xs [v]:=⟨v,rfl,h⟩
end Kd
namespace Kd
section
variable {α β : Type} {d : Kd α} {d' : Kd β} {e e' : Nat} {w w1 W : World} {base b b' : Nat} {ok ok' okv oku : Nat→Prop} {v u : Value} {xs : List α} {ys : List β}
end
section
variable {w W : World} {A : Option Addr} {n : Nat}
variable {α : Type} {enc : α→Value} {h1 : ∀ x,(enc x).oneCell' = true} {e base g cap : Nat} {ok : Nat→Prop} {xs : List α}
end
section
variable {P : Program} {ops : Array Oper} {rest : List Oper} {o : Oper} {a : Act} {Q : Exit→Act→World→Prop}
variable {α : Type}
end
end Kd
section
variable {P : Program}
end
section
variable {w w1 : World} {base n size : Nat} {e : TypeId} {v : Value} {xs : List Value}
end
section
variable {P : Program}
end
namespace Kd
section
variable {α : Type} {d : Kd α} {e : Nat} {w w1 W : World} {base : Nat} {ok ok' : Nat→Prop} {v : Value} {xs : List α}
end
section
variable {P : Program} {ops : Array Oper} {rest : List Oper} {o : Oper} {a : Act} {Q' : Exit→Act→World→Prop} {Kc : Act→World→Prop} {α : Type}
end
end Kd
namespace Kd
section
variable {α : Type} {d : Kd α} {e e' : Nat} {w w1 W : World} {base : Nat} {ok : Nat→Prop} {u v : Value} {xs : List α}
theorem R_apart' (h : d.R e W base ok u xs) (hty : ∀ k,v.ownBlock = some k→∃ cells,W.heap[k]? = some (.cells cells e' (0,0))) (ht : ∀ q,q ∈ e :: d.E→q≠e') : d.R e W base (fun k => ok k∧some k≠v.ownBlock) u xs:=by
  refine R_mono (R_bound h) (fun k hk => ⟨hk.1,fun he => ?_⟩)
  obtain ⟨_,_,_,q,hq,cells,hc⟩:=hk
  obtain ⟨cells',hc'⟩:=hty k he.symm
  rw [hc] at hc'
  injection hc' with hc'
  injection hc' with _ hc'
  exact ht q hq hc'
theorem fresh' (hlt : ∀ k,u.ownBlock = some k→k < W.heap.size) : ∀ k,W.heap.size≤k→some k≠u.ownBlock:=fun k hk he => by have:=hlt k he.symm;omega
end
end Kd
namespace Kd
section
variable {α : Type} {d : Kd α} {e base g n cap : Nat} {ok okp : Nat→Prop} {W : World} {xs : List α}
end
end Kd
namespace Kd
section
variable {α : Type} {F : Kd α→Kd α} {sz : Nat} {E : List Nat} {hs : ∀ n,(upto F sz E n).sz = sz} {hE : ∀ n q,q ∈ (upto F sz E n).E→q ∈ E}
end
end Kd
namespace Kd
section
variable {P : Program} {ops : Array Oper} {rest : List Oper} {o : Oper} {a : Act} {Q : Exit→Act→World→Prop} {α : Type}
end
end Kd
namespace Kd
section
variable {P : Program} {ops : Array Oper} {rest : List Oper} {o : Oper} {a : Act} {Q : Exit→Act→World→Prop} {α : Type}
end
end Kd
namespace Kd
section
variable {α : Type} {k : Kd α} {w : World} {A : Option Addr} {xs : List α} {m c : Nat}
end
end Kd
section
variable {P : Program}
end
namespace Kd
section
variable {α β : Type} {d : Kd α} {d' : Kd β} {e e' base base' n : Nat} {ok ok' : Nat→Prop} {w W w1 W1 : World} {v u : Value} {xs : List α} {ys : List β} {A : Option Addr} {c : Nat}
end
section
variable {α : Type} {enc : α→Value} {h1 : ∀ x,(enc x).oneCell' = true} {w W : World} {A : Option Addr} {n g : Nat} {xs : List α}
end
end Kd
namespace Kd
section
variable {α : Type} {d : Kd α} {e base g : Nat} {ok : Nat→Prop} {w w1 : World} {v : Value} {xs : List α} {o : Obj}
end
end Kd
section
variable {P : Program} {ops : Array Oper} {rest : List Oper} {o : Oper} {a : Act} {Q : Exit→Act→World→Prop}
end
namespace Kd
section
variable {α : Type} {enc : α→Value} {h1 : ∀ x,(enc x).oneCell' = true} {e base g n cap : Nat} {ok : Nat→Prop} {W : World} {xs : List α}
end
end Kd
section
variable {P : Program} {ops : Array Oper} {rest : List Oper} {o : Oper} {a : Act} {Q : Exit→Act→World→Prop}
end
namespace Kd
section
variable {α : Type} {enc : α→Value} {h1 : ∀ x,(enc x).oneCell' = true} {e base g n cap : Nat} {ok : Nat→Prop} {W : World} {xs : List α}
end
end Kd
section
variable {P : Program} {ops : Array Oper} {rest : List Oper} {o : Oper} {a : Act} {Q : Exit→Act→World→Prop} {W : World}
end
section
variable {P : Program} {ops : Array Oper} {o : Oper} {a : Act} {Q : Exit→Act→World→Prop} {Kc : Act→World→Prop}
namespace Kd
variable {α : Type}
end Kd
end
section
variable {P : Program} {tmps : Array Value} {w : World}
end
namespace Kd
section
variable {P : Program} {α : Type}
end
section
variable {P : Program} {ops : Array Oper} {rest : List Oper} {o : Oper} {a : Act} {Q : Exit→Act→World→Prop} {Kc : Act→World→Prop} {α : Type}
end
end Kd
end Go.Proofs.YtnmenfkmndnoaaaW.PrintWords
end
section
namespace Go.Proofs.YtnmenfkmndnoaaaW.PrintLast
section
variable {P : Program} {ops : Array Oper} {Q : Exit→Act→World→Prop} {md : Region.Mode} {S : World→Prop} {ds : List Nat}
end
section
variable {P : Program} {ops : Array Oper} {Q : Exit→Act→World→Prop} {md : Region.Mode} {S : World→Prop} {ds : List Nat}
end
end Go.Proofs.YtnmenfkmndnoaaaW.PrintLast
end
section
namespace Go.Proofs.YtnmenfkmndnoaaaW.PrintLast
open Go.Proofs.YtnmenfkmndnoaaaW.PrintWords (Aside0)
section
variable {md : Region.Mode} {ops : Array Oper} {T : Bool × List (List Nat × List Nat)} {l l' li lj lk : Array Bool} {ds : List Nat} {i j k : Nat}
end
end Go.Proofs.YtnmenfkmndnoaaaW.PrintLast
end
section
namespace Go.Proofs.YtnmenfkmndnoaaaW.PrintLast
section
variable {P : Program} {ops : Array Oper} {Q : Exit→Act→World→Prop} {md : Region.Mode} {S : World→Prop} {ds : List Nat} {T : Bool × List (List Nat × List Nat)}
end
end Go.Proofs.YtnmenfkmndnoaaaW.PrintLast
end
section
namespace Go.Proofs.YtnmenfkmndnoaaaW.PrintWords
open Go.RowKit
namespace Kd
section
variable {α : Type} {d : Kd α} {e base g o n cap : Nat} {ok okp : Nat→Prop} {w W : World} {v : Value} {xs : List α}
end
section
variable {α : Type} {enc : α→Value} {h1 : ∀ x,(enc x).oneCell' = true} {e base g o n cap : Nat} {ok : Nat→Prop} {W : World} {xs : List α}
end
end Kd
end Go.Proofs.YtnmenfkmndnoaaaW.PrintWords
end
section
namespace Go.Proofs.YtnmenfkmndnoaaaW.PrintWords
open Go.RowKit
namespace Kd
section
variable {α β : Type} {d : Kd α} {d' : Kd β} {e e' : Nat} {w w1 W : World} {base b : Nat} {ok ok' okv oku : Nat→Prop} {u v : Value} {xs : List α} {ys : List β}
theorem zip_at {xs : List α} {j : Nat} {p : α} (h : xs[j]? = some p) : xs.zipIdx[j]? = some (p,j):=by rw [List.getElem?_zipIdx,h,Nat.zero_add];rfl
theorem S_R (h : S d e w base ok v xs) : d.R e w base ok v xs:=by
  obtain ⟨f,h0,inner,ho,hr⟩:=h
  rw [List.length_zipIdx] at ho
  exact ⟨h0,inner,ho,by have:=hr.1;rw [List.length_zipIdx] at this;exact this,fun j p hj => d.M_mono (fun _ hk => hk.1) (hr.2 j (p,j) (zip_at hj))⟩
theorem R_head {ad : Addr} {n cap : Nat} (h : d.R e w base ok (.slice (some ad) n cap) xs) : ∃ g,ad = ⟨g,0,none⟩:=by
  obtain ⟨_,inner,ho,hr⟩:=h
  rcases ho.2 with ⟨hv,_⟩ | ⟨g,cap',cur,hv,_⟩
  · cases hv
  · injection hv with ha _ _
    injection ha with ha
    exact ⟨g,ha⟩
theorem R_getA {ad : Addr} {n cap : Nat} (h : d.R e W base ok (.slice (some ad) n cap) xs) (z : α) (i : Int) (h0 : 0≤i) (h1 : i < n) :
    ∃ c,c.length = d.sz∧d.M W base (fun k => ok k∧some k≠(Value.slice (some ad) n cap).ownBlock) (xs.getD i.toNat z) c∧∀ j u,c[j]? = some u→W.cell? (ad.add (i.toNat * d.sz + j)) = some u:=by
  obtain ⟨g,rfl⟩:=R_head h
  obtain ⟨c,hcl,hM,hcc,_⟩:=R_elem h z i h0 h1
  refine ⟨c,hcl,d.M_mono (fun k hk => ⟨hk.1,fun he => hk.2 (by simpa [Value.ownBlock] using he)⟩) hM,fun j u hu => ?_⟩
  rw [add_at,Nat.zero_add]
  exact hcc j u hu
theorem S_typed (h : S d e w base ok v xs) : ∀ k,v.ownBlock = some k→∃ cells,w.heap[k]? = some (.cells cells e (0,0)):=R_typed (S_R h)
theorem S_lt (h : S d e w base ok v xs) : ∀ k,v.ownBlock = some k→k < w.heap.size:=R_lt (S_R h)
theorem S_base (h : S d e w base ok v xs) : ∀ k,v.ownBlock = some k→base≤k:=R_base (S_R h)
theorem S_elder' (h : S d e W base ok u xs) (hbase : ∀ k,v.ownBlock = some k→W.heap.size≤k) (hb : Below W.heap.size W w1) : S d e w1 base (fun k => ok k∧some k≠v.ownBlock) u xs:=by
  obtain ⟨f,h⟩:=h
  exact ⟨f,R_elder' h hbase hb⟩
theorem S_new' (h : S d e w1 W.heap.size ok v xs) (hlt : ∀ k,u.ownBlock = some k→k < W.heap.size) : S d e w1 W.heap.size (fun k => ok k∧some k≠u.ownBlock) v xs:=by
  obtain ⟨f,h⟩:=h
  exact ⟨f,R_new' h hlt⟩
end
section
variable {α β : Type} {d : Kd α} {d' : Kd β} {e e' g : Nat} {w w1 W : World} {base b : Nat} {ok ok' okv oku : Nat→Prop} {u v : Value} {xs : List α} {ys : List β}
theorem S_form (h : S d e w base ok v xs) (hp : 0 < xs.length) : ∃ g cap,v = .slice (some ⟨g,0,none⟩) xs.length cap∧base≤g∧g < w.heap.size∧∃ cells,w.heap[g]? = some (.cells cells e (0,0)):=R_form (S_R h) hp
theorem S_slice (h : S d e w base ok v xs) : ∃ A c,v = .slice A xs.length c:=R_slice (S_R h)
theorem S_reads' {A : Option Addr} {n c : Nat} (h : S d e w base ok (.slice A n c) xs) : n = xs.length∧n≤c∧d.C w A xs.length xs:=R_reads' (S_R h)
theorem S_get {ad : Addr} {n cap : Nat} (h : S d e W base ok (.slice (some ad) n cap) xs) (z : α) (i : Int) (h0 : 0≤i) (h1 : i < n) :
    ∃ c,c.length = d.sz∧d.M W base (fun k => ok k∧some k≠(Value.slice (some ad) n cap).ownBlock) (xs.getD i.toNat z) c∧∀ j u,c[j]? = some u→W.cell? (ad.add (i.toNat * d.sz + j)) = some u:=R_getA (S_R h) z i h0 h1
end
section
variable {P : Program} {ops : Array Oper} {rest : List Oper} {o : Oper} {a : Act} {Q : Exit→Act→World→Prop} {Kc : Act→World→Prop} {α : Type}
end
section
variable {α β : Type} {d : Kd α} {e e' g n cap : Nat} {w w1 W : World} {base : Nat} {ok ok' oki okp : Nat→Prop} {u v : Value} {xs : List α} {i : Int} {c : List Value}
theorem S_lend (h : S d e W base ok (.slice (some ⟨g,0,none⟩) n cap) xs) (z : α) (i : Int) (h0 : 0≤i) (h1 : i < n) :
    ∃ (oki : Nat→Prop) (c : List Value),c.length = d.sz∧d.M W base oki (xs.getD i.toNat z) c∧(∀ j u,c[j]? = some u→W.cell? ⟨g,i.toNat * d.sz + j,none⟩ = some u)∧(∀ k,oki k→ok k∧k≠g)∧H d e W base ok (.slice (some ⟨g,0,none⟩) n cap) xs i oki c:=by
  obtain ⟨f,hR⟩:=h
  have hn:=(R_reads' hR).1
  rw [List.length_zipIdx] at hn
  have hgo : some g = (Value.slice (some ⟨g,0,none⟩) n cap).ownBlock:=by simp [Value.ownBlock]
  obtain ⟨hok0,inner,ho,hr⟩:=hR
  have hil : i.toNat < xs.length:=by omega
  have hlen : inner.length = xs.length * d.sz:=by have:=hr.1;rw [List.length_zipIdx] at this;exact this
  have hseg : i.toNat * d.sz + d.sz≤inner.length:=by rw [hlen,← Nat.succ_mul];exact Nat.mul_le_mul_right _ hil
  have hM:=hr.2 i.toNat _ (zip_at (List.getElem?_eq_getElem hil))
  have hkg : ∀ k,some k≠(Value.slice (some ⟨g,0,none⟩) n cap).ownBlock→k≠g:=fun k hk he => hk (by rw [he];exact hgo)
  refine ⟨fun k => (ok k∧k≠g)∧f k = i.toNat,(inner.drop (i.toNat * d.sz)).take d.sz,by rw [List.length_take,List.length_drop];omega,?_,fun j u hu => ?_,fun k hk => hk.1,fun k hk => hk.1.1,f,fun k hk => ⟨hok0 k hk,fun h2 => h2.1.2 ?_⟩,inner,ho,hr.1,fun m p hm => ?_⟩
  · rw [List.getD_eq_getElem?_getD,List.getElem?_eq_getElem hil]
    exact d.M_mono (fun k hk => ⟨⟨hk.1.1,hkg k hk.1.2⟩,hk.2⟩) hM
  · rw [List.getElem?_take] at hu
    split at hu
    · rw [List.getElem?_drop] at hu
      have:=ho.cells (g:=g) hgo.symm _ u hu
      rwa [add_plain] at this
    · cases hu
  · rw [← hgo] at hk;injection hk with hk;exact hk.symm
  · have hold:=hr.2 m p hm
    have hp2 : p.2 = m:=by
      rw [List.getElem?_zipIdx,Nat.zero_add] at hm
      obtain ⟨q,_,rfl⟩:=Option.map_eq_some_iff.1 hm
      rfl
    refine ⟨fun hx => ?_,fun hx => d.M_mono (fun k hk => ⟨⟨⟨hk.1.1,fun h2 => hx ?_⟩,hk.1.2⟩,hk.2⟩) hold⟩
    · have hmi : m = i.toNat:=by omega
      subst hmi
      exact ⟨rfl,d.K_len (d.K_of_M hM),d.K_one (d.K_of_M hM)⟩
    · rw [← hk.2];exact h2.2
open Classical in
theorem H_back (h : H d e w base ok v xs i oki c) {x' : α} (hM : d.M w base okp x' c) (hok : ∀ k,okp k→oki k) : S d e w base ok v (xs.set i.toNat x'):=by
  obtain ⟨ho,f,h0,inner,hown,hr⟩:=h
  refine ⟨fun k => if oki k then i.toNat else f k,fun k hk => (h0 k hk).1,inner,by rw [List.length_zipIdx,List.length_set];rw [List.length_zipIdx] at hown;exact hown,by have:=hr.1;rw [List.length_zipIdx] at this;rw [List.length_zipIdx,List.length_set];exact this,fun m p hm => ?_⟩
  rw [List.getElem?_zipIdx,Nat.zero_add] at hm
  obtain ⟨q,hq,rfl⟩:=Option.map_eq_some_iff.1 hm
  have hml : m < xs.length:=by
    have:=(List.getElem?_eq_some_iff.1 hq).1
    rwa [List.length_set] at this
  by_cases hmi : m = i.toNat
  · subst hmi
    rw [List.getElem?_set_self hml] at hq
    injection hq with hq
    subst hq
    have hc:=((hr.2 i.toNat _ (zip_at (List.getElem?_eq_getElem hml))).1 rfl).1
    show d.M w base _ x' ((inner.drop (i.toNat * d.sz)).take d.sz)
    rw [show (inner.drop (i.toNat * d.sz)).take d.sz = c from hc]
    exact d.M_mono (fun k hk => ⟨⟨ho k (hok k hk),fun he => (h0 k he.symm).2 (hok k hk)⟩,if_pos (hok k hk)⟩) hM
  · rw [List.getElem?_set_ne (Ne.symm hmi)] at hq
    exact d.M_mono (fun k hk => ⟨⟨hk.1.1.1,hk.1.2⟩,(if_neg hk.1.1.2).trans hk.2⟩) ((hr.2 m (q,m) (zip_at hq)).2 hmi)
theorem H_widen (h : H d e w base ok v xs i oki c) : H d e w base ok v xs i (fun k => oki k∨ok k∧w.heap.size≤k) c:=by
  obtain ⟨ho,f,h⟩:=h
  exact ⟨fun k hk => hk.elim (ho k) (fun h2 => h2.1),f,R_mono (R_bound h) (fun k hk => ⟨hk.1.1,fun h2 => h2.elim hk.1.2 (fun h3 => by have:=hk.2.2.1;omega)⟩)⟩
theorem H_step (h : H d e w base ok v xs i oki c) (hm : ∀ k,ok k→¬ oki k→k < w.heap.size→w1.heap[k]? = w.heap[k]?) : H d e w1 base ok v xs i oki c:=by
  obtain ⟨ho,f,h⟩:=h
  exact ⟨ho,f,R_step h (fun k hk hlt => hm k hk.1 hk.2 hlt)⟩
theorem H_grown (h : H d e w base ok v xs i oki c) {row : Option Nat} (hg : w.grownBy w1 row) (hrow : ∀ k,row = some k→oki k) : H d e w1 base ok v xs i oki c :=
  H_step h (fun k _ hn hlt => hg.block k hlt (fun he => hn (hrow k he.symm)))
theorem H_below (h : H d e w base ok v xs i oki c) (hb : Below w.heap.size w w1) : H d e w1 base ok v xs i oki c:=H_step h (fun k _ _ hlt => hb.block k hlt)
theorem H_alloc (h : H d e w base ok v xs i oki c) (o : Obj) : H d e (w.alloc o) base ok v xs i oki c:=H_below h (below_alloc (Below.refl _ _) o)
theorem H_drew (h : H d e w base ok v xs i oki c) : H d e w.drew base ok v xs i oki c:=H_below h (below_drew (Below.refl _ _))
theorem H_drewN (h : H d e w base ok v xs i oki c) (m : Nat) : H d e (w.drewN m) base ok v xs i oki c:=H_below h (pw_below_drewN (Below.refl _ _) m)
theorem H_mono (h : H d e w base ok v xs i oki c) (hok : ∀ k,ok k→ok' k) : H d e w base ok' v xs i oki c:=by
  obtain ⟨ho,f,h⟩:=h
  exact ⟨fun k hk => hok k (ho k hk),f,R_mono h (fun k hk => ⟨hok k hk.1,hk.2⟩)⟩
theorem H_more {okg : Nat→Prop} (h : H d e w base (fun k => ok k∧¬ okg k) v xs i oki c) (hg : ∀ k,okg k→ok k) : H d e w base ok v xs i (fun k => oki k∨okg k) c:=by
  obtain ⟨ho,f,h⟩:=h
  exact ⟨fun k hk => hk.elim (fun h2 => (ho k h2).1) (hg k),f,R_mono h (fun k hk => ⟨hk.1.1,fun h2 => h2.elim hk.2 hk.1.2⟩)⟩
theorem S_elem (h : S d e W base ok (.slice (some ⟨g,0,none⟩) n cap) xs) (z : α) (i : Int) (h0 : 0≤i) (h1 : i < n) :
    ∃ (oki : Nat→Prop) (c : List Value),c.length = d.sz∧d.M W base oki (xs.getD i.toNat z) c∧(∀ j u,c[j]? = some u→W.cell? ⟨g,i.toNat * d.sz + j,none⟩ = some u)∧(∀ j,W.frozen? ⟨g,i.toNat * d.sz + j,none⟩ = false)∧(∀ k,oki k→ok k∧k≠g)∧H d e W base ok (.slice (some ⟨g,0,none⟩) n cap) xs i oki c:=by
  obtain ⟨_,_,_,_,hfr⟩:=R_elem (S_R h) z i h0 h1
  obtain ⟨oki,c,hcl,hM,hcc,hoki,hH⟩:=S_lend h z i h0 h1
  exact ⟨oki,c,hcl,hM,hcc,hfr,hoki,hH⟩
theorem H_raw (h : H d e W base ok (.slice (some ⟨g,0,none⟩) n cap) xs i oki c) (h0 : 0≤i) (h1 : i < n) :
    ∃ rows : List (List Value),rows.length = xs.length∧(raw d.sz).R e W base (fun _ => True) (.slice (some ⟨g,0,none⟩) n cap) rows∧c.length = d.sz∧(∀ u ∈ c,u.oneCell' = true)∧(∀ j u,c[j]? = some u→W.cell? ⟨g,i.toNat * d.sz + j,none⟩ = some u) ∧
      ∀ w1 c',W.grownBy w1 (some g)→(raw d.sz).R e w1 base (fun _ => True) (.slice (some ⟨g,0,none⟩) n cap) (rows.set i.toNat c')→H d e w1 base ok (.slice (some ⟨g,0,none⟩) n cap) xs i oki c':=by
  obtain ⟨hoo,f,hR⟩:=h
  have hn:=(R_reads' hR).1
  rw [List.length_zipIdx] at hn
  have hgo : some g = (Value.slice (some ⟨g,0,none⟩) n cap).ownBlock:=by simp [Value.ownBlock]
  obtain ⟨hok0,inner,ho,hr⟩:=hR
  have hil : i.toNat < xs.length:=by omega
  have hlen : inner.length = xs.length * d.sz:=by have:=hr.1;rw [List.length_zipIdx] at this;exact this
  have hkg : ∀ k,some k≠(Value.slice (some ⟨g,0,none⟩) n cap).ownBlock→k≠g:=fun k hk he => hk (by rw [he];exact hgo)
  have hci:=(hr.2 i.toNat _ (zip_at (List.getElem?_eq_getElem hil))).1 rfl
  rw [hci.1] at hci
  have hc:=((hr.2 i.toNat _ (zip_at (List.getElem?_eq_getElem hil))).1 rfl).1
  refine ⟨(List.range xs.length).map fun j => (inner.drop (j * d.sz)).take d.sz,by rw [List.length_map,List.length_range],⟨fun _ _ => trivial,inner,?_,?_,fun j p hj => ?_⟩,hci.2.1,hci.2.2,fun j u hu => ?_,fun w1 c' hg hraw => ?_⟩
  · rw [List.length_map,List.length_range];rw [List.length_zipIdx] at ho;exact ho
  · rw [List.length_map,List.length_range];exact hlen
  · rw [List.getElem?_map] at hj
    obtain ⟨j',hj',rfl⟩:=Option.map_eq_some_iff.1 hj
    obtain ⟨hl,he⟩:=List.getElem?_eq_some_iff.1 hj'
    rw [List.getElem_range] at he
    subst he
    rw [List.length_range] at hl
    have hm:=(gap f d i.toNat c).K_of_M (hr.2 j _ (zip_at (List.getElem?_eq_getElem hl)))
    exact ⟨rfl,(gap f d i.toNat c).K_len hm,(gap f d i.toNat c).K_one hm⟩
  · rw [← hc,List.getElem?_take] at hu
    split at hu
    · rw [List.getElem?_drop] at hu
      have:=ho.cells (g:=g) hgo.symm _ u hu
      rwa [add_plain] at this
    · cases hu
  · obtain ⟨_,inner',ho',hr'⟩:=hraw
    have hl' : inner'.length = xs.length * d.sz:=by have:=hr'.1;rw [List.length_set,List.length_map,List.length_range] at this;exact this
    rw [List.length_set,List.length_map,List.length_range] at ho'
    refine ⟨hoo,f,hok0,inner',by rw [List.length_zipIdx];exact ho',by rw [List.length_zipIdx];exact hl',fun m p hm => ?_⟩
    rw [List.getElem?_zipIdx,Nat.zero_add] at hm
    obtain ⟨q,hq,rfl⟩:=Option.map_eq_some_iff.1 hm
    have hml : m < xs.length:=(List.getElem?_eq_some_iff.1 hq).1
    have hold:=hr.2 m (q,m) (zip_at hq)
    refine ⟨fun hx => ?_,fun hx => ?_⟩
    · have hx' : m = i.toNat:=hx
      subst hx'
      exact hr'.2 i.toNat c' (List.getElem?_set_self (by rw [List.length_map,List.length_range];exact hml))
    · have hx' : m≠i.toNat:=hx
      have hcm:=(hr'.2 m ((inner.drop (m * d.sz)).take d.sz) (by
        rw [List.getElem?_set_ne (Ne.symm hx'),List.getElem?_map,List.getElem?_eq_getElem (by rw [List.length_range];exact hml),List.getElem_range]
        rfl)).1
      show d.M w1 base _ q ((inner'.drop (m * d.sz)).take d.sz)
      rw [show (inner'.drop (m * d.sz)).take d.sz = _ from hcm]
      exact d.M_mono (fun k hk => hk.1) (d.M_move (w1:=w1) (fun k hk => hg.block k hk.2.2.1 (fun he => hkg k hk.1.1.2 (by injection he))) (d.M_bound (hold.2 hx)))
theorem H_seg (h : H d e W base ok (.slice (some ⟨g,0,none⟩) n cap) xs i oki c) (h0 : 0≤i) (h1 : i < n) {seg : List Value} {j : Nat} (hj : j + seg.length≤d.sz) (hone : ∀ q ∈ seg,q.oneCell' = true) :
    H d e (W.setCells g (i.toNat * d.sz + j) seg) base ok (.slice (some ⟨g,0,none⟩) n cap) xs i oki (c.take j ++ seg ++ c.drop (j + seg.length))∧W.grownBy (W.setCells g (i.toNat * d.sz + j) seg) (some g):=by
  obtain ⟨rows,_,hraw,hcl,hco,hcc,hback⟩:=H_raw h h0 h1
  obtain ⟨h2,h3⟩:=R_seg hraw i h0 h1 (c:=c) (seg:=seg) (j:=j) (x':=c.take j ++ seg ++ c.drop (j + seg.length)) (okp:=fun _ => False) hcl hcc hj
    ⟨rfl,by
      show (c.take j ++ seg ++ c.drop (j + seg.length)).length = d.sz
      simp only [List.length_append,List.length_take,List.length_drop];omega,fun u hu => by
      rcases List.mem_append.1 hu with hu | hu
      · rcases List.mem_append.1 hu with hu | hu
        · exact hco u (List.mem_of_mem_take hu)
        · exact hone u hu
      · exact hco u (List.mem_of_mem_drop hu)⟩ (fun _ hk => hk.elim)
  exact ⟨hback _ _ h3 h2,h3⟩
theorem S_seg {okg : Nat→Prop} (hH : H d e W base (fun k => ok k∧¬ okg k) (.slice (some ⟨g,0,none⟩) n cap) xs i oki c) (h0 : 0≤i) (h1 : i < n) {seg : List Value} {j : Nat} (hj : j + seg.length≤d.sz)
    {x' : α} (hM : d.M W base okp x' (c.take j ++ seg ++ c.drop (j + seg.length))) (hokp : ∀ k,okp k→oki k∨okg k) (hg : ∀ k,okg k→ok k∧k≠g) :
    S d e (W.setCells g (i.toNat * d.sz + j) seg) base ok (.slice (some ⟨g,0,none⟩) n cap) (xs.set i.toNat x')∧W.grownBy (W.setCells g (i.toNat * d.sz + j) seg) (some g):=by
  have hne : ∀ k,oki k∨okg k→k≠g:=by
    intro k hk he
    subst he
    rcases hk with hk | hk
    · obtain ⟨_,f,hR⟩:=hH
      exact (hR.1 k (by simp [Value.ownBlock])).2 hk
    · exact (hg k hk).2 rfl
  obtain ⟨h2,h3⟩:=H_seg (H_more hH (fun k hk => (hg k hk).1)) h0 h1 hj (fun q hq => d.K_one (d.K_of_M hM) q (List.mem_append_left _ (List.mem_append_right _ hq)))
  exact ⟨H_back h2 (M_step hM (fun k hk hlt => h3.block k hlt (fun he => hne k (hokp k hk) (by injection he)))) hokp,h3⟩
end
section
variable {P : Program} {ops : Array Oper} {rest : List Oper} {o : Oper} {a : Act} {Q : Exit→Act→World→Prop} {α : Type}
end
end Kd
end Go.Proofs.YtnmenfkmndnoaaaW.PrintWords
end
section
namespace Go.Proofs.YtnmenfkmndnoaaaW.PrintWords
open Go.RowKit
namespace Kd
section
variable {α : Type} {n : Nat} {d : Kd α} {hs : 0 < d.sz} {w : World} {base : Nat} {ok : Nat→Prop} {xs : List α} {cs : List Value}
end
section
variable {α : Type} {n : Nat} {enc : α→Value} {h1 : ∀ x,(enc x).oneCell' = true} {hs : 0 < (scalar enc h1).sz} {w : World} {base : Nat} {ok : Nat→Prop} {xs : List α} {cs : List Value}
end
end Kd
end Go.Proofs.YtnmenfkmndnoaaaW.PrintWords
end
section
namespace Go.Proofs.YtnmenfkmndnoaaaW.PrintWords
open Go.RowKit
section
variable {P : Program}
end
namespace Kd
section
variable {P : Program} {ops : Array Oper} {rest : List Oper} {o : Oper} {a : Act} {Q : Exit→Act→World→Prop} {Kc : Act→World→Prop} {α : Type}
end
section
variable {α : Type} {d : Kd α} {e : Nat} {w : World} {base : Nat} {ok : Nat→Prop} {v : Value} {xs : List α}
end
section
variable {P : Program} {ops : Array Oper} {rest : List Oper} {o : Oper} {a : Act} {Q : Exit→Act→World→Prop} {Kc : Act→World→Prop} {α : Type}
end
end Kd
end Go.Proofs.YtnmenfkmndnoaaaW.PrintWords
end
section
namespace Go.Proofs.YtnmenfkmndnoaaaW.PrintWords
open Go.RowKit
namespace Kd
section
variable {α : Type} {d : Kd α} {e base g n c : Nat} {ok : Nat→Prop} {w w0 W : World} {A : Option Addr} {xs : List α}
end
end Kd
end Go.Proofs.YtnmenfkmndnoaaaW.PrintWords
end
section
namespace Go.Proofs.YtnmenfkmndnoaaaW.PrintWords
open Go.RowKit
section
variable {w W W2 : World} {S S2 S' : Nat→Prop}
end
namespace Kd
section
variable {α : Type} {d : Kd α} {e base n c : Nat} {ok oki S S2 : Nat→Prop} {w w0 W W1 W2 : World} {v : Value} {A : Option Addr} {xs : List α} {i : Int} {cs : List Value}
end
end Kd
end Go.Proofs.YtnmenfkmndnoaaaW.PrintWords
end
section
namespace Go.Proofs.YtnmenfkmndnoaaaW.PrintWords
open Go.RowKit
namespace Foot
variable {P Q : World→Prop} {W W1 : World} {ok ok' : Nat→Prop}
end Foot
namespace Kd
section
variable {α β : Type} {d : Kd α} {e base n n' cc g N : Nat} {ok ok' okp S : Nat→Prop} {w w0 w1 W W1 : World} {A A' : Option Addr} {u v v1 : Value} {xs : List α} {xs' : List β} {d' : Kd β} {x : α} {c : List Value}
end
end Kd
end Go.Proofs.YtnmenfkmndnoaaaW.PrintWords
end
section
namespace Go.Proofs.YtnmenfkmndnoaaaW.PrintWords
open Go.RowKit
namespace Kd
section
variable {α : Type} {d : Kd α} {e base n cc g : Nat} {ok ok' okp S : Nat→Prop} {w w1 W W1 : World} {A : Option Addr} {u v v1 : Value} {xs : List α} {x : α} {c : List Value}
end
end Kd
end Go.Proofs.YtnmenfkmndnoaaaW.PrintWords
end
section
namespace Go.Proofs.YtnmenfkmndnoaaaW.PrintWords
open Go.RowKit
namespace Kd
section
variable {α : Type} {d : Kd α} {W : World} {g n : Nat} {S ok : Nat→Prop} {A : Option Addr} {ad : Addr} {xs : List α}
end
end Kd
end Go.Proofs.YtnmenfkmndnoaaaW.PrintWords
end
section
namespace Go.Proofs.YtnmenfkmndnoaaaW.PrintWords
open Go.RowKit
section
variable {w w' u : World} {m B g : Nat} {o : Obj} {row : Option Nat} {S : Nat→Prop} {a : Addr} {v : Value}
end
namespace Kd
section
variable {α : Type} {d : Kd α} {e base n m : Nat} {ok : Nat→Prop} {w w' : World} {v : Value} {A : Option Addr} {xs : List α}
end
end Kd
end Go.Proofs.YtnmenfkmndnoaaaW.PrintWords
end
section
namespace Go.Proofs.YtnmenfkmndnoaaaW.PrintWords
open Go.RowKit
section
variable {P : Program} {d : Nat} {xs ys : Array Value} {f : Field} {fs : List Field} {a b : Value} {r s : Bool} {w : World}
end
end Go.Proofs.YtnmenfkmndnoaaaW.PrintWords
end
section
namespace Go.Proofs.YtnmenfkmndnoaaaW.PrintWords
end Go.Proofs.YtnmenfkmndnoaaaW.PrintWords
end
section
namespace Go.Proofs.YtnmenfkmndnoaaaW.PrintLast
section
variable {P : Program} {ops : Array Oper} {Q : Exit→Act→World→Prop} {md : Region.Mode} {T : Bool × List (List Nat × List Nat)} {B : List Nat} {O : List Nat} {b : Nat→Bool} {i j n : Nat}
end
end Go.Proofs.YtnmenfkmndnoaaaW.PrintLast
end
section
namespace Go.Proofs.YtnmenfkmndnoaaaW.PrintWords
open Go.RowKit
end Go.Proofs.YtnmenfkmndnoaaaW.PrintWords
namespace Go.Proofs.YtnmenfkmndnoaaaW.PrintLast
section
variable {ops : Array Oper} {a : Act} {o og : Oper} {g : Nat} {t : Tmp} {u : Bool}
end
end Go.Proofs.YtnmenfkmndnoaaaW.PrintLast
end
section
namespace Go.Proofs.YtnmenfkmndnoaaaW.PrintWords
open Go.RowKit
section
variable {P : Program} {ops : Array Oper} {rest : List Oper} {o : Oper} {a : Act} {Q : Exit→Act→World→Prop} {W : World}
end
end Go.Proofs.YtnmenfkmndnoaaaW.PrintWords
end
section
namespace Go.Proofs.YtnmenfkmndnoaaaW.PrintWords
open Go.RowKit
namespace Kd
section
variable {α : Type} {d : Kd α} {e base n cap g : Nat} {ok ok' okp : Nat→Prop} {w w1 W : World} {v v1 : Value} {xs ys : List α}
end
section
variable {P : Program} {ops : Array Oper} {rest : List Oper} {o : Oper} {a : Act} {Q : Exit→Act→World→Prop} {Kc : Act→World→Prop} {α : Type}
end
end Kd
end Go.Proofs.YtnmenfkmndnoaaaW.PrintWords
end
section
namespace Go.Proofs.YtnmenfkmndnoaaaW.PrintMore
open Go.RowKit Go.Proofs.YtnmenfkmndnoaaaW.PrintWords
namespace Kd
open Go.Proofs.YtnmenfkmndnoaaaW.PrintWords.Kd
end Kd
namespace Kd
open Go.Proofs.YtnmenfkmndnoaaaW.PrintWords.Kd
section
variable {α : Type} {d : Kd α} {e base g N : Nat} {ok : Nat→Prop} {W w1 : World} {u v : Value} {xs : List α}
end
end Kd
end Go.Proofs.YtnmenfkmndnoaaaW.PrintMore
namespace Go.Proofs.YtnmenfkmndnoaaaW.PrintWords
open Go.RowKit
section
variable {P : Program} {ops : Array Oper} {rest : List Oper} {o : Oper} {a : Act} {Q : Exit→Act→World→Prop} {W : World}
end
namespace Kd
section
variable {α : Type} {d : Kd α} {e base : Nat} {ok : Nat→Prop} {W w1 : World} {v : Value} {xs : List α}
end
section
variable {α : Type} {d : Kd α} {e base g n cap : Nat} {ok oki okp : Nat→Prop} {W : World} {xs : List α} {i : Int} {c : List Value}
theorem H_at (h : H d e W base ok (.slice (some ⟨g,0,none⟩) n cap) xs i oki c) (h0 : 0≤i) (h1 : i < n) : (∀ j u,c[j]? = some u→W.cell? ⟨g,i.toNat * d.sz + j,none⟩ = some u)∧∀ j,W.frozen? ⟨g,i.toNat * d.sz + j,none⟩ = false:=by
  obtain ⟨rows,_,hraw,_,_,hcc,_⟩:=H_raw h h0 h1
  obtain ⟨_,_,_,_,hfr⟩:=R_elem hraw [] i h0 h1
  exact ⟨hcc,hfr⟩
theorem S_seg0 (hH : H d e W base ok (.slice (some ⟨g,0,none⟩) n cap) xs i oki c) (h0 : 0≤i) (h1 : i < n) {seg : List Value} {j : Nat} (hj : j + seg.length≤d.sz)
    {x' : α} (hM : d.M W base okp x' (c.take j ++ seg ++ c.drop (j + seg.length))) (hokp : ∀ k,okp k→oki k) :
    S d e (W.setCells g (i.toNat * d.sz + j) seg) base ok (.slice (some ⟨g,0,none⟩) n cap) (xs.set i.toNat x')∧W.grownBy (W.setCells g (i.toNat * d.sz + j) seg) (some g) :=
  S_seg (okg:=fun _ => False) (H_mono hH (fun _ hk => ⟨hk,fun h => h⟩)) h0 h1 hj hM (fun k hk => .inl (hokp k hk)) (fun _ hk => hk.elim)
end
section
variable {α : Type} {d : Kd α} {e base b b' g N : Nat} {ok ok1 : Nat→Prop} {W W2 w1 : World} {u v : Value} {xs ys : List α} {S : Nat→Prop}
end
end Kd
end Go.Proofs.YtnmenfkmndnoaaaW.PrintWords
namespace Go.Proofs.YtnmenfkmndnoaaaW.PrintWords
open Go.RowKit
namespace Kd
section
variable {α β : Type} {d : Kd α} {e base base' n m c g N' lo hi : Nat} {ok ok' S : Nat→Prop} {w W w1 : World} {A : Option Addr} {ad : Addr} {u v v1 : Value} {xs : List α}
end
end Kd
end Go.Proofs.YtnmenfkmndnoaaaW.PrintWords
end
section
namespace Go.Proofs.YtnmenfkmndnoaaaW.PrintWords
open Go.ChangeShapes Go.WideShapes
end Go.Proofs.YtnmenfkmndnoaaaW.PrintWords
end
