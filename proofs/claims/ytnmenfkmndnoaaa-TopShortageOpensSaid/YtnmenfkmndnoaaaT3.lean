/- generations.Check: no error at lists of different frames. -/
import Derived.Test.YtnmenfkmndnoaaaT2
set_option linter.unusedVariables false
set_option linter.unusedSimpArgs false
namespace Go.Proofs.Ytnmenfkmndnoaaa.Gen
open Go.RowKit Go.Shelf
attribute [local go_sem] Oper.semAt_some
theorem Ints.mono {n₀ n₁ : Nat} {W : World} {sv : Value} {zs : List I64} (hn : n₀≤n₁) : Ints n₀ W sv zs→Ints n₁ W sv zs
  | .inl e => .inl e
  | .inr ⟨ad,cap,e,hb,hc⟩ => .inr ⟨ad,cap,e,by omega,hc⟩
theorem Nest.mono {n₀ n₁ : Nat} {W : World} {ad : Addr} {ls : List (List I64)} (hn : n₀≤n₁) (h : Nest n₀ W ad ls) : Nest n₁ W ad ls :=
  ⟨by have:=h.1;omega,fun j hj => by obtain ⟨sv,h1,h2⟩:=h.2 j hj;exact ⟨sv,h1,h2.mono hn⟩⟩
theorem isFrame_in (F : Fence) (n : Nat) (h : F.fn 57) (hro : F.round = none) (x : I64) (w : World) : CallsIn F n Try.prog 57 #[.int .i64 x.1] w fun e w' => e = .returned (.bool true)∧w' = w:=by
  have h0:=x.2.1
  have h1:=x.2.2
  refine callsIn_of_wp Try.func57 rfl h ?_ hro
  simp only [Try.ntmps57,List.size_toArray,List.length_cons,List.length_nil,Nat.reduceAdd,Nat.reduceSub,Array.replicate_succ,Array.replicate_zero,List.push_toArray,List.append_toArray,List.nil_append,List.cons_append]
  gi_wp2
  go_ret
  exact ⟨rfl,rfl⟩
set_option maxRecDepth 100000 in
set_option maxHeartbeats 4000000 in
theorem Check_in (F : Fence) (n : Nat) (h56 : F.fn 56) (h57 : F.fn 57) (h58 : F.fn 58) (h60 : F.fn 60) (h86 : F.fn 86) (hro : F.round = none) (hn : 5≤n) (ad : Addr) (cap : Nat) (ls : List (List I64)) (hl : ls.length = 4) (hls : ∀ k : Nat,(ls[k]?.getD []).length≤1000000) (hlen : (flt ls ls.length).length≤1000000) (hd : Maps.size (agesD (flt ls ls.length)) = (flt ls ls.length).length) (w : World) (hI : Nest w.heap.size w ad ls) :
    CallsIn F n Try.prog 56 #[.slice (some ad) ls.length cap] w fun e W' => e = .returned (.int .i64 0)∧Below w.heap.size w W':=by
  have h1 : 1≤n:=by omega
  have hlm : (flt ls ls.length).length≤maxLen:=Nat.le_trans hlen (by decide)
  refine callsIn_of_wp_marks Try.func56 rfl h56 ?_ hro
  simp only [Try.ntmps56,List.size_toArray,List.length_cons,List.length_nil,Nat.reduceAdd,Nat.reduceSub,Array.replicate_succ,Array.replicate_zero,List.push_toArray,List.append_toArray,List.nil_append,List.cons_append]
  gi_wp2_with (gi_at_call 60;refine (all_in F (n - 1) h60 hro _ _ _ _).mono ?_;rintro e w' ⟨rfl,rfl⟩)
  have q0:=((Boxed.new w 3 (.int .i64 0)).alloc (.cells #[.int .i64 0] 3)).alloc (.cells #[.slice (some ad) 4 cap] 45)
  have q1:=(Boxed.new (w.alloc (.cells #[.int .i64 0] 3)) 3 (.int .i64 0)).alloc (.cells #[.slice (some ad) 4 cap] 45)
  have q2:=Boxed.new ((w.alloc (.cells #[.int .i64 0] 3)).alloc (.cells #[.int .i64 0] 3)) 45 (.slice (some ad) 4 cap)
  simp only [World.size_alloc] at q1 q2
  have hB0 : Below w.heap.size w (((w.alloc (.cells #[.int .i64 0] 3)).alloc (.cells #[.int .i64 0] 3)).alloc (.cells #[.slice (some ad) 4 cap] 45)):=(((Below.refl _ w).alloc (Nat.le_refl _) _).alloc (by simp) _).alloc (by simp;omega) _
  refine wpIn_rangeFunc_ownF hro h1 (gf:=86) (lb:=#[.pointer (some ⟨w.heap.size + 1 + 1,0,none⟩)]) rfl h86 (enters_of Try.func86 (by kernel_rfl) rfl)
    (all_stops F (n - 1) h86 hro (by omega) (w.heap.size + 1 + 1) w.heap.size ad cap ls (by omega) hls _ (by simp) (by simp;omega) (by rw [hl];exact q2.cell) (hI.below hB0)) belowK_t (belowK_b (by simp;omega)) (Below.refl _ _) (fun _ => rfl)
    (fun pre W => (W.cell? ⟨w.heap.size,0,none⟩ = some (.int .i64 0)∧W.frozen? ⟨w.heap.size,0,none⟩ = false∧W.cell? ⟨w.heap.size + 1,0,none⟩ = some (.int .i64 (pre.length : Int))∧W.frozen? ⟨w.heap.size + 1,0,none⟩ = false)∧Below w.heap.size w W)
    (fun _ _ _ => False)
    (OwnFrom.and (Own.from (fun s A B row hs hg hr => ⟨cell_kept hs.1 hg hr,(frozen_kept hs.1 hg hr).trans hs.2.1,cell_kept hs.2.2.1 hg hr,(frozen_kept hs.2.2.1 hg hr).trans hs.2.2.2⟩) _) (ownFrom_below (Nat.le_refl _) (by simp;omega)))
    (fun _ _ _ _ _ hs _ _ => hs)
    ⟨⟨q0.cell,q0.frozen,q1.cell,q1.frozen⟩,hB0⟩
    (fun x => { tmps:=#[.slice (some ad) 4 cap,undef,.pointer (some ⟨w.heap.size,0,none⟩),.pointer (some ⟨w.heap.size + 1,0,none⟩),undef,.int .i64 x.2.1,.slice (some ad) 4 cap,.int .i64 4,.bool false,.slice (some ad) 4 cap,.func (.func 86) #[] #[.pointer (some ⟨w.heap.size + 1 + 1,0,none⟩)],.int .i64 x.1.1,.int .i64 x.2.1,undef,undef,undef,undef,undef,undef,undef,undef,undef,undef],defers:=[] }) ?assign ?body ?done ?stop
  case assign =>
    intro l x W K hK
    gi_wp2
    exact hK
  case body =>
    rintro l pre x W ⟨⟨hc,hf,hcn,hfn⟩,hB⟩ hlt
    have h2 : 1≤n - 1 - 1:=by omega
    have hm : (pre.length : Int) < 1000000000000000000:=by omega
    gi_wp2_with (gi_at_call 57;refine (CallsIn.inRound l (isFrame_in F _ h57 hro _ _)).mono ?_;rintro e w' ⟨rfl,rfl⟩)
    exact ⟨(KeepsOthers.setCell _ _ _),(Below.refl w.heap.size w').setCell (p:=⟨w.heap.size + 1,0,none⟩) (by simp) _,⟨(World.cell?_setCell_other _ _ _ _ (by simp)).trans hc,by rw [World.frozen?_setCell];exact hf,by rw [World.cell?_setCell_same' _ _ _ (by rw [hcn];rfl)];simp,by rw [World.frozen?_setCell];exact hfn⟩,hB.setCell (p:=⟨w.heap.size + 1,0,none⟩) (by simp) _⟩
  case done =>
    rintro D ys W hD rfl ⟨⟨hc,hf,hcn,hfn⟩,hB⟩ hK
    have hI2 : Nest W.drew.heap.size W.drew ad ls:=((hI.below hB).mono hB.size).below ((Below.refl _ W).drew)
    have hag:=ages_in F (n - 1) h58 h60 h86 hro (by omega) ad cap ls (by omega) hls hlm _ hI2
    rw [hl] at hag hd hcn
    have hlt1 : w.heap.size + 1 < W.drew.heap.size:=World.block_lt_of_cell? (w:=W.drew) _ hcn
    have hlt0 : w.heap.size < W.drew.heap.size:=by have : w.heap.size + 1 < W.heap.size:=hlt1;show w.heap.size < W.heap.size;omega
    have hltD : D < W.drew.heap.size:=(Array.getElem?_eq_some_iff.1 hK).1
    have hmx : Try.prog.follows .mixedOrders = true:=by kernel_rfl
    gi_wp2
    gi_region_with_o (gi_at_call 58;refine hag.mono ?_;rintro e w' ⟨rfl,hown,hB2⟩;have hln : (Builtin.len_ #[80] 3 #[.map (some W.heap.size)]).run Try.prog w' = .ok (.int .i64 ((flt ls 4).length : Int)) w':=(by have:=hown.len Try.underlying80 3;rw [hd] at this;exact this);have hc2:=(hB2.cell (p:=⟨w.heap.size,0,none⟩) hlt0).trans hc;have hf2:=(hB2.frozen (p:=⟨w.heap.size,0,none⟩) hlt0).trans hf;have hK2:=(hB2.block D hltD).trans hK;have hcn2:=(hB2.cell (p:=⟨w.heap.size + 1,0,none⟩) hlt1).trans hcn)
    all_goals gi_wp2
    all_goals
      have hK':=(KeepsOthers.setCell w' ⟨w.heap.size,0,none⟩ (.int .i64 0)).same D _ hK2 rfl
      refine ⟨by simp,.inl ⟨_,_,rfl,run_takeDeferred hK',?_⟩⟩
      have hc5:=cell_kept (World.cell?_setCell_same' w' ⟨w.heap.size,0,none⟩ (.int .i64 0) (by rw [hc2];rfl)) (grownBy_putObj' _ D (.deferred none)) (fun r e => by cases e;exact ⟨_,hK',rfl⟩)
      refine ⟨.int .i64 0,?_,rfl,((hB.drew.trans (hB2.mono hB.size)).setCell (p:=⟨w.heap.size,0,none⟩) (Nat.le_refl _) _).trans (belowK_b (w:=w) (Nat.le_refl _) _ D _ _ (by simp at hD;omega) hK' rfl rfl)⟩
      simp [results,Try.f56,go_sem,hc5]
  case stop =>
    rintro D c pre W _ _ h _
    exact h.elim
end Go.Proofs.Ytnmenfkmndnoaaa.Gen
