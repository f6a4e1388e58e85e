/- generations.ages: the map of the frames' lists. -/
import Derived.Test.YtnmenfkmndnoaaaT1
set_option linter.unusedVariables false
set_option linter.unusedSimpArgs false
namespace Go.Proofs.Ytnmenfkmndnoaaa.Gen
open Go.RowKit Go.Shelf
attribute [local go_sem] Oper.semAt_some
abbrev DU:=DataW Unit
def agesD (xs : List (I64 × I64)) : DU:=xs.foldl (fun D x => D.put (.int .i64 x.2.1) (.lit (.int .i64 x.1.1))) (.map [])
theorem agesD_snoc (pre : List (I64 × I64)) (x : I64 × I64) : agesD (pre ++ [x]) = (agesD pre).put (.int .i64 x.2.1) (.lit (.int .i64 x.1.1)):=by simp [agesD]
set_option maxRecDepth 100000 in
set_option maxHeartbeats 4000000 in
theorem ages_in (F : Fence) (n : Nat) (h58 : F.fn 58) (h60 : F.fn 60) (h86 : F.fn 86) (hro : F.round = none) (hn : 3≤n) (ad : Addr) (cap : Nat) (ls : List (List I64)) (hl : ls.length≤256) (hls : ∀ k : Nat,(ls[k]?.getD []).length≤1000000) (hlen : (flt ls ls.length).length≤maxLen) (w : World) (hI : Nest w.heap.size w ad ls) :
    CallsIn F n Try.prog 58 #[.slice (some ad) ls.length cap] w fun e W' => e = .returned (.map (some w.heap.size))∧W'.ownsMap Try.prog 3 (plainElem (H:=Unit) Try.prog 3) w.heap.size (flt ls ls.length).length (agesD (flt ls ls.length))∧Below w.heap.size w W':=by
  have h1 : 1≤n:=by omega
  have hmm:=@run_makeMap Try.prog
  refine callsIn_of_wp_marks Try.func58 rfl h58 ?_ hro
  simp only [Try.ntmps58,List.size_toArray,List.length_cons,List.length_nil,Nat.reduceAdd,Nat.reduceSub,Array.replicate_succ,Array.replicate_zero,List.push_toArray,List.append_toArray,List.nil_append,List.cons_append]
  gi_wp2_with (gi_at_call 60;refine (all_in F (n - 1) h60 hro _ _ _ _).mono ?_;rintro e w' ⟨rfl,rfl⟩)
  have hm0:=World.ownsMap_made w Try.prog 3 (plainElem (H:=Unit) Try.prog 3)
  have bS:=(Boxed.new (w.alloc (.map #[] 0)) 80 (.map (some w.heap.size))).alloc (.cells #[.slice (some ad) ls.length cap] 45)
  have bN:=Boxed.new ((w.alloc (.map #[] 0)).alloc (.cells #[.map (some w.heap.size)] 80)) 45 (.slice (some ad) ls.length cap)
  simp only [World.size_alloc] at bS bN
  have hB0 : Below w.heap.size w (((w.alloc (.map #[] 0)).alloc (.cells #[.map (some w.heap.size)] 80)).alloc (.cells #[.slice (some ad) ls.length cap] 45)):=(((Below.refl _ w).alloc (Nat.le_refl _) _).alloc (by simp) _).alloc (by simp;omega) _
  refine wpIn_rangeFunc_ownG hro h1 (gf:=86) (lb:=#[.pointer (some ⟨w.heap.size + 1 + 1,0,none⟩)]) rfl h86 (enters_of Try.func86 (by kernel_rfl) rfl)
    (all_stops F (n - 1) h86 hro (by omega) (w.heap.size + 1 + 1) w.heap.size ad cap ls hl hls _ (by simp) (by simp;omega) bN.cell (hI.below hB0)) belowK_t (belowK_b (by simp;omega)) (Below.refl _ _) (fun _ => rfl)
    (fun pre W => (W.cell? ⟨w.heap.size + 1,0,none⟩ = some (.map (some w.heap.size))∧W.ownsMap Try.prog 3 (plainElem (H:=Unit) Try.prog 3) w.heap.size pre.length (agesD pre))∧Below w.heap.size w W)
    (fun _ _ _ => False)
    (OwnFrom.and (fun s A B row hs hg hr => ⟨cell_kept hs.1 hg (fun r e => (hr r e).2),hs.2.kept hg (fun e => by have:=(hr _ e.symm).1;simp at this;omega)⟩) (ownFrom_below (Nat.le_refl _) (by simp;omega)))
    (fun _ _ _ _ _ hs _ _ => hs)
    ⟨⟨bS.cell,(hm0.alloc _).alloc _⟩,hB0⟩
    (fun x => { tmps:=#[.slice (some ad) ls.length cap,undef,.map none,.pointer (some ⟨w.heap.size + 1,0,none⟩),.int .i64 x.1.1,.int .i64 x.2.1,.map (some w.heap.size),.slice (some ad) ls.length cap,.func (.func 86) #[] #[.pointer (some ⟨w.heap.size + 1 + 1,0,none⟩)],.int .i64 x.1.1,.int .i64 x.2.1,undef,undef,undef,undef],defers:=[] }) ?assign ?body ?done ?stop
  case assign =>
    intro l x W K hK
    gi_wp2
    exact hK
  case body =>
    rintro l pre x W ⟨⟨hc,hown⟩,hB⟩ hlt
    have hkey:=Maps.keyOf_int_mk Try.underlying3 x.2.wf
    gi_wp2_with (gi_at_mapUpdate;refine wpListIn_mapUpdate_own _ rfl _ _ _ 80 rfl 3 3 (Maps.int_keyed Try.underlying3) Try.underlying80 _ w.heap.size pre.length _ rfl hown (by omega) _ _ _ rfl rfl hkey _ [] (plainElem_int Try.underlying3 x.1.wf) ?_;intro w1 hown1 hgrow1)
    obtain ⟨es,ck,hh,_⟩:=hown
    exact ⟨KeepsFrom.of_grownBy hgrow1 (fun j e => by cases e;simp;omega),(Below.refl _ W).grown hgrow1 hB.size (fun k e => by cases e;exact Nat.le_refl _),
      ⟨cell_kept hc hgrow1 (fun r e => by cases e;exact ⟨_,hh,rfl⟩),by rw [agesD_snoc,List.length_append];exact hown1⟩,hB.grown hgrow1 hB.size (fun k e => by cases e;exact Nat.le_refl _)⟩
  case done =>
    rintro D ys W hD rfl ⟨⟨hc,hown⟩,hB⟩ hK
    gi_wp2
    refine ⟨by simp,.inl ⟨_,_,rfl,run_takeDeferred hK,?_⟩⟩
    exact ⟨_,results_tmp rfl _ _ _,rfl,hown.kept (grownBy_putObj' _ D _) (fun e => by cases e;simp at hD;omega),hB.trans (belowK_b (w:=w) (Nat.le_refl _) W D _ _ (by simp at hD;omega) hK rfl rfl)⟩
  case stop =>
    rintro D c pre W _ _ h _
    exact h.elim
end Go.Proofs.Ytnmenfkmndnoaaa.Gen
