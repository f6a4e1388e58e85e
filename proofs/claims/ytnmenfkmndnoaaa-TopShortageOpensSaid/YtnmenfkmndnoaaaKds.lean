/- What the program's functions answer to a question. -/
import Derived.Test.YtnmenfkmndnoaaaKjs
import Derived.Test.YtnmenfkmndnoaaaM2
import Derived.Test.YtnmenfkmndnoaaaM3s
set_option linter.unusedVariables false
set_option linter.unusedSimpArgs false
namespace Go.Proofs.Ytnmenfkmndnoaaa.Pr
open Go.RowKit Go.Proofs.YtnmenfkmndnoaaaW.PrintWords Go.Proofs.YtnmenfkmndnoaaaW.PrintLast Go.Proofs.YtnmenfkmndnoaaaW.PrintMore
theorem ev_bind {α β : Type} {g : Nat→Option α} {F : α→Option β} {r : α} {v : β} (h : Ev g r) (hF : F r = some v) : Ev (fun k => (g k).bind F) v:=by
  obtain ⟨K,hK⟩:=h
  exact ⟨K,fun k hk => by dsimp only;rw [hK k hk];exact hF⟩
section
variable {l0 : List S34} {l1 : List S30} {s : Int} {kn : Bool} {a b c : List Bool} {e : Int}
theorem Reason_ok (h : Ev (fun k => reclaimplan_ask.f k l0 l1 s) (0,a,b,c)) (i : Int) : Ev (fun k => reclaimplan_Reason.f k l0 l1 s i kn) (if 0≤i∧i < (l0.length : Int) then qReason s kn a b (rd_T34 l0 i) else -1):=by
  refine ev_bind h ?_
  dsimp only
  rw [if_pos rfl]
  by_cases c1 : i < 0
  · rw [if_pos c1,if_neg (by omega)]
  · rw [if_neg c1]
    by_cases c2 : (l0.length : Int)≤i
    · rw [if_pos c2,if_neg (by omega)]
    · rw [if_neg c2,if_pos (by omega)]
theorem Reason_bad (h : Ev (fun k => reclaimplan_ask.f k l0 l1 s) (e,[],[],[])) (he : e≠0) (i : Int) : Ev (fun k => reclaimplan_Reason.f k l0 l1 s i kn) (-1) :=
  ev_bind h (by dsimp only;rw [if_neg he])
theorem Next_ok (h : Ev (fun k => reclaimplan_ask.f k l0 l1 s) (0,a,b,c)) : Ev (fun k => reclaimplan_Next.f k l0 l1 s kn) (nRun l0 s kn a b c l0.length 0 (-1,false)).1 :=
  ev_bind h (by dsimp only;rw [if_pos rfl])
theorem Next_bad (h : Ev (fun k => reclaimplan_ask.f k l0 l1 s) (e,[],[],[])) (he : e≠0) : Ev (fun k => reclaimplan_Next.f k l0 l1 s kn) (-1) :=
  ev_bind h (by dsimp only;rw [if_neg he])
theorem Useful_ok (h : Ev (fun k => reclaimplan_ask.f k l0 l1 s) (0,a,b,c)) : Ev (fun k => reclaimplan_Useful.f k l0 l1 s kn) (l0.foldl (uStep s kn a b) 0) :=
  ev_bind h (by dsimp only;rw [if_pos rfl])
theorem Useful_bad (h : Ev (fun k => reclaimplan_ask.f k l0 l1 s) (e,[],[],[])) (he : e≠0) : Ev (fun k => reclaimplan_Useful.f k l0 l1 s kn) 0 :=
  ev_bind h (by dsimp only;rw [if_neg he])
theorem Transit_ok (h : Ev (fun k => reclaimplan_ask.f k l0 l1 s) (0,a,b,c)) : Ev (fun k => reclaimplan_Transit.f k l0 l1 s kn) (l0.any fun p => qReason s kn a b p == 8) :=
  ev_bind h (by dsimp only;rw [if_pos rfl])
theorem Transit_bad (h : Ev (fun k => reclaimplan_ask.f k l0 l1 s) (e,[],[],[])) (he : e≠0) : Ev (fun k => reclaimplan_Transit.f k l0 l1 s kn) false :=
  ev_bind h (by dsimp only;rw [if_neg he])
theorem Verify_ok (h : Ev (fun k => reclaimplan_ask.f k l0 l1 s) (0,a,b,c)) (w : List S34) : Ev (fun k => reclaimplan_Verify.f k l0 l1 s kn w) (vAnswer l0 w s kn a b) :=
  ev_bind h (by dsimp only;rw [if_pos rfl])
theorem Verify_bad (h : Ev (fun k => reclaimplan_ask.f k l0 l1 s) (e,[],[],[])) (he : e≠0) (w : List S34) : Ev (fun k => reclaimplan_Verify.f k l0 l1 s kn w) e :=
  ev_bind h (by dsimp only;rw [if_neg he])
end
def wPg (s : Int) (kn : Bool) (a b : List Bool) (p : S34) : S34:=⟨p.f0,p.f1,p.f2,qReason s kn a b p,p.f4,p.f5,p.f6⟩
def wOf (s : Int) (kn : Bool) (a b : List Bool) (l0 : List S34) : List S34:=l0.map (wPg s kn a b)
theorem rd34_set (xs : List S34) (i j : Int) (v : S34) (hi0 : 0≤i) (hi1 : i < (xs.length : Int)) (hj0 : 0≤j) : rd_T34 (xs.set i.toNat v) j = if j = i then v else rd_T34 xs j:=by
  unfold rd_T34
  rw [List.getD_eq_getElem?_getD,List.getD_eq_getElem?_getD,List.getElem?_set]
  by_cases h : j = i
  · rw [if_pos h,if_pos (by omega),if_pos (by omega)];rfl
  · rw [if_neg h,if_neg (by omega)]
theorem rd34_ext {x y : List S34} (hl : x.length = y.length) (h : ∀ j : Int,0≤j→j < (x.length : Int)→rd_T34 x j = rd_T34 y j) : x = y:=by
  refine List.ext_getElem hl (fun n h1 h2 => ?_)
  have:=h n (by omega) (by omega)
  rw [rd34_get _ _ h1,rd34_get _ _ h2] at this
  exact this
theorem rd34_map (g : S34→S34) (l : List S34) (j : Int) (h0 : 0≤j) (h1 : j < (l.length : Int)) : rd_T34 (l.map g) j = g (rd_T34 l j):=by
  obtain ⟨n,rfl⟩ : ∃ n : Nat,j = n:=⟨j.toNat,by omega⟩
  rw [rd34_get _ n (by simp;omega),rd34_get _ n (by omega)]
  simp
theorem wRun_length (l0 : List S34) (s : Int) (kn : Bool) (a b : List Bool) : ∀ (n : Nat) (x : Int) (rs : List S34),(wRun l0 s kn a b n x rs).length = rs.length
  | 0,_,_ => rfl
  | n + 1,x,rs => by rw [wRun,wRun_length l0 s kn a b n (x + 1)];simp [wStep]
theorem wRun_rd (l0 : List S34) (s : Int) (kn : Bool) (a b : List Bool) : ∀ (n : Nat) (x : Int) (rs : List S34),0≤x→x + n = (rs.length : Int)→(∀ j,x≤j→j < (rs.length : Int)→rd_T34 rs j = rd_T34 l0 j)→∀ j,0≤j→j < (rs.length : Int)→rd_T34 (wRun l0 s kn a b n x rs) j = if x≤j then wPg s kn a b (rd_T34 l0 j) else rd_T34 rs j
  | 0,x,rs,h0,h1,h2,j,h3,h4 => by rw [if_neg (by omega)];rfl
  | n + 1,x,rs,h0,h1,h2,j,h3,h4 => by
    have hl : (wStep l0 s kn a b x rs).length = rs.length:=by simp [wStep]
    have hr : ∀ y,0≤y→rd_T34 (wStep l0 s kn a b x rs) y = if y = x then wPg s kn a b (rd_T34 l0 x) else rd_T34 rs y:=by
      intro y hy
      unfold wStep
      rw [rd34_set _ _ _ _ h0 (by omega) hy]
      by_cases e : y = x
      · rw [if_pos e,if_pos e,h2 x (by omega) (by omega)];rfl
      · rw [if_neg e,if_neg e]
    rw [wRun,wRun_rd l0 s kn a b n (x + 1) _ (by omega) (by omega) (fun y h5 h6 => by rw [hr y (by omega),if_neg (by omega)];exact h2 y (by omega) (by omega)) j h3 (by omega),hr j h3]
    by_cases e : j = x
    · rw [if_neg (by omega),if_pos e,if_pos (by omega),e]
    · by_cases e2 : x≤j
      · rw [if_pos (by omega),if_pos e2]
      · rw [if_neg (by omega),if_neg e,if_neg e2]
theorem wRun_eq (l0 : List S34) (s : Int) (kn : Bool) (a b : List Bool) : wRun l0 s kn a b l0.length 0 l0 = wOf s kn a b l0:=by
  refine rd34_ext (by rw [wRun_length,wOf,List.length_map]) (fun j h0 h1 => ?_)
  rw [wRun_length] at h1
  rw [wRun_rd l0 s kn a b l0.length 0 l0 (by omega) (by omega) (fun _ _ _ => rfl) j h0 h1,if_pos h0,wOf,rd34_map _ _ _ h0 h1]
section
variable {l0 : List S34} {l1 : List S30} {s : Int} {kn : Bool} {a b c : List Bool} {e : Int}
theorem Witness_ok (h : Ev (fun k => reclaimplan_ask.f k l0 l1 s) (0,a,b,c)) : Ev (fun k => reclaimplan_Witness.f k l0 l1 s kn) (wOf s kn a b l0) :=
  ev_bind h (by dsimp only;rw [if_pos rfl,wRun_eq])
theorem Witness_bad (h : Ev (fun k => reclaimplan_ask.f k l0 l1 s) (e,[],[],[])) (he : e≠0) : Ev (fun k => reclaimplan_Witness.f k l0 l1 s kn) [] :=
  ev_bind h (by dsimp only;rw [if_neg he])
end
end Go.Proofs.Ytnmenfkmndnoaaa.Pr
