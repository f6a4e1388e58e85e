/- CowRoom: for every input the law returns true, and each argument reads afterwards as it read before. No condition. -/
import Derived.Test.YteldbkdfphiogaaRa
import Derived.Test.YteldbkdfphiogaaWr
set_option linter.unusedVariables false
namespace Go.Proofs.Yteldbkdfphiogaa.cowRoom
open Go.ChangeShapes Go.WideShapes Go.ChangeAt Go.RowKit Go.Proofs.YteldbkdfphiogaaW Go.Proofs.YteldbkdfphiogaaW.PrintWords Go.Proofs.Yteldbkdfphiogaa.Pr
open Go.ChangeMaps (open_string shut_string)
theorem own : ownKnob Try.prog.godebug = none:=by kernel_rfl
theorem laidOut : laidOutB Try.prog = true:=by kernel_rfl
theorem opens40 : Opens Try.prog 40 k40:=by
  intro H enc w base spare held fuel cs x h
  obtain ⟨hl,hf⟩:=fields_one Try.underlying40 (by kernel_rfl) (by kernel_rfl) h
  match cs,hl with
  | [e0,e1,e2,e3],_ =>
    obtain ⟨n0,y0,h0⟩:=hf 0 _ _ rfl rfl
    obtain ⟨n1,y1,h1⟩:=hf 1 _ _ rfl rfl
    obtain ⟨n2,y2,h2⟩:=hf 2 _ _ rfl rfl
    obtain ⟨n3,y3,h3⟩:=hf 3 _ _ rfl rfl
    obtain ⟨a0,q0,_⟩:=DataW.trod_int Try.underlying3 h0
    obtain ⟨a1,q1,_⟩:=DataW.trod_int Try.underlying3 h1
    obtain ⟨a2,q2,_⟩:=DataW.trod_int Try.underlying3 h2
    obtain ⟨a3,q3,_⟩:=DataW.trod_int Try.underlying3 h3
    obtain rfl:=(List.cons.inj q0).1
    obtain rfl:=(List.cons.inj q1).1
    obtain rfl:=(List.cons.inj q2).1
    obtain rfl:=(List.cons.inj q3).1
    exact ⟨⟨a0,a1,a2,a3⟩,k40_mk w ⟨a0,a1,a2,a3⟩⟩
set_option maxRecDepth 100000 in
theorem lifted (os : Os) (started : os.Started) (H : Type) (enc : TypeId × Value→H) :
    ReturnsInHanded {} Try.checked os 9 .any (Rows.cowRoomSpec.pre6 enc Try.prog Try.f9 Rows.cowRoomRow.domain false) (Rows.cowRoomSpec.post enc Try.prog Try.f9 false true false false):=by
  refine returnsInHanded_of_change_sized (C:=Try.checked) own started (by kernel_rfl) Try.func9
    (ChangeSpec.witness6 (enc:=enc) (C:=Try.checked) false ⟨#[],#[.int .u8 0,.slice none 0 0],[]⟩ 8 (by kernel_rfl) (by kernel_rfl) (by kernel_rfl) (by kernel_rfl)) ?_
  intro W base args ds gs before hval0 hW hcnd hsz0 _
  have hval : ∀ (j : Nat) t v,Try.f9.params[j]? = some t→args[j]? = some v→Value.okWide Try.prog W .any base t v:=hval0
  have hW':=hW
  obtain ⟨p,q,hA0,hV,rfl,hfz,hnd⟩:=hW
  have hA : DataW.TrodAll enc Try.prog W 0 (fun _ => true) true Try.f9.params.toList args.toList ds p:=hA0
  rw [Try.params9] at hA hval
  obtain ⟨v0,vs0,d0,ds0,p0,q0,hargs,rfl,rfl,h0,r0⟩:=trodAll_cons hA
  obtain ⟨v1,vs1,d1,ds1,p1,q1,rfl,rfl,rfl,h1,r1⟩:=trodAll_cons r0
  obtain ⟨rfl,rfl,rfl⟩:=trodAll_nil r1
  obtain rfl : args = #[v0,v1]:=by cases args;simp_all
  obtain ⟨rfl,rfl⟩:=trodVars_none hV
  have k0:=h0
  have lt0 : ∀ x ∈ p0,x.block < W.heap.size:=by obtain ⟨m,hm⟩:=k0;exact DataW.trod_lt m _ _ _ hm
  obtain ⟨a0,rfl,rfl,rfl,w0⟩:=open_int Try.underlying5 (hval 0 5 v0 rfl rfl) h0
  have k1:=h1
  have lt1 : ∀ x ∈ p1,x.block < W.heap.size:=by obtain ⟨m,hm⟩:=k1;exact DataW.trod_lt m _ _ _ hm
  obtain ⟨a1,len1,cap1,rfl⟩:=okWide_slice Try.underlying37 (hval 1 37 v1 rfl rfl)
  obtain ⟨fu1,hf1⟩:=h1
  obtain ⟨A1,c1,l1,hcs1,hl1,hC1⟩:=open_row Try.underlying37 opens40 (by kernel_rfl) (fun _ => true) hf1
  simp [Value.cells] at hcs1
  obtain ⟨rfl,rfl,rfl⟩:=hcs1
  have h:=bounds_u8 w0
  refine (estoverslaw25_CowRoom.calls a0 _ _ l1 true W hC1 hl1 h rfl).mono fun e W' ⟨he,bel⟩ => ?_
  subst he
  exact ⟨_,rfl,_,_,_,[],_,[],hW',trodAll_mk1 (shut_bool Try.underlying4 _),(trodAll_cons_mk (Below.trod laidOut (by kernel_rfl) (of_decide_eq_true (by kernel_rfl)) k0 bel lt0) (trodAll_cons_mk (Below.trod laidOut (by kernel_rfl) (of_decide_eq_true (by kernel_rfl)) k1 bel lt1) trodAll_mk0)),rfl,bel.frame _,fun h => by cases h⟩
theorem over : Rows.cowRoomRow.holds Try.pinned (OpenSpec.ofChange Rows.cowRoomSpec) :=
  OpenClaim.holds_of_wide 9 Try.f9 rfl rfl rfl rfl rfl rfl rfl ⟨rfl,rfl,rfl,rfl,rfl⟩ rfl rfl rfl rfl rfl (by kernel_rfl) Try.func9 (by kernel_rfl)
    (of_decide_eq_true (by kernel_rfl)) (by unfold Func.isWrapper;first | (rw [if_pos (by decide +kernel)];kernel_rfl) | (rw [if_neg (by decide +kernel)];exact ⟨rfl,rfl⟩))
    (fun os started H enc _ => lifted os started H enc)
theorem proved : Rows.CowRoomSaid:=over
end Go.Proofs.Yteldbkdfphiogaa.cowRoom
namespace Go.Proofs.Yteldbkdfphiogaa
theorem cowRoom_holds : Rows.CowRoomSaid:=cowRoom.proved
end Go.Proofs.Yteldbkdfphiogaa
