/- TopShortageOpens: for every input the law returns true, and each argument reads afterwards as it read before. No condition. -/
import Derived.Test.YtnmenfkmndnoaaaRa
import Derived.Test.YtnmenfkmndnoaaaPTopShortageOpenss
import Derived.Test.YtnmenfkmndnoaaaFestoverstopTopShortageOpens
set_option linter.unusedVariables false
namespace Go.Proofs.Ytnmenfkmndnoaaa.topShortageOpens
open Go.ChangeShapes Go.WideShapes Go.ChangeAt Go.RowKit Go.Proofs.YtnmenfkmndnoaaaW Go.Proofs.YtnmenfkmndnoaaaW.PrintWords Go.Proofs.Ytnmenfkmndnoaaa.Pr
open Go.ChangeMaps (open_string shut_string)
theorem own : ownKnob Try.prog.godebug = none:=by kernel_rfl
theorem laidOut : laidOutB Try.prog = true:=by kernel_rfl
theorem opens30 : Opens Try.prog 30 k30:=by
  intro H enc w base spare held fuel cs x h
  obtain ⟨hl,hf⟩:=fields_one Try.underlying30 (by kernel_rfl) (by kernel_rfl) h
  match cs,hl with
  | [e0,e1,e2,e3,e4],_ =>
    obtain ⟨n0,y0,h0⟩:=hf 0 _ _ rfl rfl
    obtain ⟨n1,y1,h1⟩:=hf 1 _ _ rfl rfl
    obtain ⟨n2,y2,h2⟩:=hf 2 _ _ rfl rfl
    obtain ⟨n3,y3,h3⟩:=hf 3 _ _ rfl rfl
    obtain ⟨n4,y4,h4⟩:=hf 4 _ _ rfl rfl
    obtain ⟨a0,q0,_⟩:=DataW.trod_int Try.underlying3 h0
    obtain ⟨a1,q1,_⟩:=DataW.trod_int Try.underlying3 h1
    obtain ⟨a2,q2,_⟩:=DataW.trod_int Try.underlying3 h2
    obtain ⟨a3,q3,_⟩:=DataW.trod_int Try.underlying3 h3
    obtain ⟨a4,q4,_⟩:=DataW.trod_int Try.underlying3 h4
    obtain rfl:=(List.cons.inj q0).1
    obtain rfl:=(List.cons.inj q1).1
    obtain rfl:=(List.cons.inj q2).1
    obtain rfl:=(List.cons.inj q3).1
    obtain rfl:=(List.cons.inj q4).1
    exact ⟨⟨a0,a1,a2,a3,a4⟩,k30_mk w ⟨a0,a1,a2,a3,a4⟩⟩
theorem opens34 : Opens Try.prog 34 k34:=by
  intro H enc w base spare held fuel cs x h
  obtain ⟨hl,hf⟩:=fields_one Try.underlying34 (by kernel_rfl) (by kernel_rfl) h
  match cs,hl with
  | [e0,e1,e2,e3,e4,e5,e6],_ =>
    obtain ⟨n0,y0,h0⟩:=hf 0 _ _ rfl rfl
    obtain ⟨n1,y1,h1⟩:=hf 1 _ _ rfl rfl
    obtain ⟨n2,y2,h2⟩:=hf 2 _ _ rfl rfl
    obtain ⟨n3,y3,h3⟩:=hf 3 _ _ rfl rfl
    obtain ⟨n4,y4,h4⟩:=hf 4 _ _ rfl rfl
    obtain ⟨n5,y5,h5⟩:=hf 5 _ _ rfl rfl
    obtain ⟨n6,y6,h6⟩:=hf 6 _ _ rfl rfl
    obtain ⟨a0,q0,_⟩:=DataW.trod_int Try.underlying3 h0
    obtain ⟨a1,q1,_⟩:=DataW.trod_int Try.underlying3 h1
    obtain ⟨a2,q2,_⟩:=DataW.trod_int Try.underlying3 h2
    obtain ⟨a3,q3,_⟩:=DataW.trod_int Try.underlying3 h3
    obtain ⟨a4,q4,_⟩:=DataW.trod_int Try.underlying3 h4
    obtain ⟨a5,q5,_⟩:=DataW.trod_bool Try.underlying4 h5
    obtain ⟨a6,q6,_⟩:=DataW.trod_bool Try.underlying4 h6
    obtain rfl:=(List.cons.inj q0).1
    obtain rfl:=(List.cons.inj q1).1
    obtain rfl:=(List.cons.inj q2).1
    obtain rfl:=(List.cons.inj q3).1
    obtain rfl:=(List.cons.inj q4).1
    obtain rfl:=(List.cons.inj q5).1
    obtain rfl:=(List.cons.inj q6).1
    exact ⟨⟨a0,a1,a2,a3,a4,a5,a6⟩,k34_mk w ⟨a0,a1,a2,a3,a4,a5,a6⟩⟩
set_option maxRecDepth 100000 in
theorem lifted (os : Os) (started : os.Started) (H : Type) (enc : TypeId × Value→H) :
    ReturnsInHanded {} Try.checked os 3 .any (Rows.topShortageOpensSpec.pre6 enc Try.prog Try.f3 Rows.topShortageOpensRow.domain false) (Rows.topShortageOpensSpec.post enc Try.prog Try.f3 false true false false):=by
  refine returnsInHanded_of_change_sized (C:=Try.checked) own started (by kernel_rfl) Try.func3
    (ChangeSpec.witness6 (enc:=enc) (C:=Try.checked) false ⟨#[],#[.slice none 0 0,.int .i64 0],[]⟩ 8 (by kernel_rfl) (by kernel_rfl) (by kernel_rfl) (by kernel_rfl)) ?_
  intro W base args ds gs before hval0 hW hcnd hsz0 _
  have hval : ∀ (j : Nat) t v,Try.f3.params[j]? = some t→args[j]? = some v→Value.okWide Try.prog W .any base t v:=hval0
  have hW':=hW
  obtain ⟨p,q,hA0,hV,rfl,hfz,hnd⟩:=hW
  have hA : DataW.TrodAll enc Try.prog W 0 (fun _ => true) true Try.f3.params.toList args.toList ds p:=hA0
  rw [Try.params3] at hA hval
  obtain ⟨v0,vs0,d0,ds0,p0,q0,hargs,rfl,rfl,h0,r0⟩:=trodAll_cons hA
  obtain ⟨v1,vs1,d1,ds1,p1,q1,rfl,rfl,rfl,h1,r1⟩:=trodAll_cons r0
  obtain ⟨rfl,rfl,rfl⟩:=trodAll_nil r1
  obtain rfl : args = #[v0,v1]:=by cases args;simp_all
  obtain ⟨rfl,rfl⟩:=trodVars_none hV
  have k0:=h0
  have lt0 : ∀ x ∈ p0,x.block < W.heap.size:=by obtain ⟨m,hm⟩:=k0;exact DataW.trod_lt m _ _ _ hm
  obtain ⟨a0,len0,cap0,rfl⟩:=okWide_slice Try.underlying22 (hval 0 22 v0 rfl rfl)
  obtain ⟨fu0,hf0⟩:=h0
  obtain ⟨A0,c0,l0,hcs0,hl0,hC0⟩:=open_row Try.underlying22 opens30 (by kernel_rfl) (fun _ => true) hf0
  simp [Value.cells] at hcs0
  obtain ⟨rfl,rfl,rfl⟩:=hcs0
  have k1:=h1
  have lt1 : ∀ x ∈ p1,x.block < W.heap.size:=by obtain ⟨m,hm⟩:=k1;exact DataW.trod_lt m _ _ _ hm
  obtain ⟨a1,rfl,rfl,rfl,w1⟩:=open_int Try.underlying3 (hval 1 3 v1 rfl rfl) h1
  obtain ⟨k,h⟩:=short_pure l0 a1
  refine (estoverstop_TopShortageOpens.calls k _ _ l0 a1 true W hC0 hl0 h).mono fun e W' ⟨he,bel⟩ => ?_
  subst he
  exact ⟨_,rfl,_,_,_,[],_,[],hW',trodAll_mk1 (shut_bool Try.underlying4 _),(trodAll_cons_mk (Below.trod laidOut (by kernel_rfl) (of_decide_eq_true (by kernel_rfl)) k0 bel lt0) (trodAll_cons_mk (Below.trod laidOut (by kernel_rfl) (of_decide_eq_true (by kernel_rfl)) k1 bel lt1) trodAll_mk0)),rfl,bel.frame _,fun h => by cases h⟩
theorem over : Rows.topShortageOpensRow.holds Try.pinned (OpenSpec.ofChange Rows.topShortageOpensSpec) :=
  OpenClaim.holds_of_wide 3 Try.f3 rfl rfl rfl rfl rfl rfl rfl ⟨rfl,rfl,rfl,rfl,rfl⟩ rfl rfl rfl rfl rfl (by kernel_rfl) Try.func3 (by kernel_rfl)
    (of_decide_eq_true (by kernel_rfl)) (by unfold Func.isWrapper;first | (rw [if_pos (by decide +kernel)];kernel_rfl) | (rw [if_neg (by decide +kernel)];exact ⟨rfl,rfl⟩))
    (fun os started H enc _ => lifted os started H enc)
theorem proved : Rows.TopShortageOpensSaid:=over
#print axioms proved
end Go.Proofs.Ytnmenfkmndnoaaa.topShortageOpens
namespace Go.Proofs.Ytnmenfkmndnoaaa
theorem topShortageOpens_holds : Rows.TopShortageOpensSaid:=topShortageOpens.proved
end Go.Proofs.Ytnmenfkmndnoaaa
