/- The plain statement of ReclaimplanVerifies. -/
import Derived.Test.YtnmenfkmndnoaaaKc
import Derived.Test.YtnmenfkmndnoaaaKd
import Derived.Test.YtnmenfkmndnoaaaFestoverslaw39ReclaimplanVerifies
set_option linter.unusedVariables false
set_option linter.unusedSimpArgs false
namespace Go.Proofs.Ytnmenfkmndnoaaa.Pr
open Go.RowKit Go.Proofs.YtnmenfkmndnoaaaW.PrintWords Go.Proofs.YtnmenfkmndnoaaaW.PrintLast Go.Proofs.YtnmenfkmndnoaaaW.PrintMore
section
variable {l0 : List S34} {l1 : List S30} {s : Int} {kn : Bool} {a b c : List Bool}
theorem hol_ev (h : AskSt l0 l1 s a b c) (kn : Bool) (p : S34) (hp : PgOk (l1.length : Int) p) (r : Int) : Ev (fun k => estoversref39_holds.f k p.f0 p.f1 p.f2 p.f3 p.f4 p.f5 p.f6 l1 (lvOf l1.length l0) s kn r) (qHolds s kn a b p r):=by
  obtain ⟨K1,H1⟩:=out_ev h p hp
  obtain ⟨K2,H2⟩:=(gua_ev h p hp).1
  dsimp only at H1 H2
  have j0 : ∀ f k,K2 + 1≤k→estoversref39_holds.j0 k l1 (lvOf l1.length l0) s r f p.f0 p.f1 p.f2 p.f3 p.f4 p.f5 p.f6 = some (if f = true then false else if r = 11 then qGua b p else r == p.f3):=by
    intro f k hk
    obtain ⟨m,rfl⟩ : ∃ m,k = m + 1:=⟨k - 1,by omega⟩
    simp only [estoversref39_holds.j0]
    rw [H2 m (by omega)]
    cases f with
    | true => rfl
    | false =>
      rw [if_neg Bool.false_ne_true,if_neg Bool.false_ne_true]
      by_cases c1 : r = 11
      · rw [if_pos c1,if_pos c1];rfl
      · rw [if_neg c1,if_neg c1]
  refine ev0 (K1 + K2 + 2) (fun k hk => ?_)
  unfold estoversref39_holds.f qHolds
  rw [H1 k (by omega),j0 _ k (by omega),j0 _ k (by omega)]
  by_cases c1 : r = 13
  · rw [if_pos c1,if_pos c1];rfl
  · rw [if_neg c1,if_neg c1]
    by_cases c2 : r = 12
    · rw [if_pos c2,if_pos c2];cases kn <;> rfl
    · rw [if_neg c2,if_neg c2]
      by_cases c3 : r = 11
      · subst c3;cases h6 : p.f6 <;> simp
      · by_cases c4 : r = 0
        · subst c4;cases h6 : p.f6 <;> simp
        · by_cases c5 : r = 8
          · subst c5;cases p.f6 <;> simp
          · have e : (r == p.f3) = (p.f3 == r):=by rw [Bool.eq_iff_iff,beq_iff_eq,beq_iff_eq];exact eq_comm
            cases p.f6 <;> simp [c3,c4,c5,e]
theorem vDiff_comm (p q : S34) : vDiff q p = (!(p.f0 == q.f0) || (!(p.f1 == q.f1) || (!(p.f2 == q.f2) || (!(p.f4 == q.f4) || (!(p.f5 == q.f5) || !(p.f6 == q.f6)))))):=by
  have e : ∀ x y : Int,(x == y) = (y == x):=fun x y => by rw [Bool.eq_iff_iff,beq_iff_eq,beq_iff_eq];exact eq_comm
  have e2 : ∀ x y : Bool,(x == y) = (y == x):=fun x y => by cases x <;> cases y <;> rfl
  unfold vDiff
  rw [e q.f0,e q.f1,e q.f2,e q.f4,e2 q.f5,e2 q.f6]
theorem rVerify_l1 (h : AskSt l0 l1 s a b c) (w : List S34) (hw : w.length = l0.length) : ∀ (d : Nat) (i : Int),0≤i→i + d = (l0.length : Int)→Ev (fun k => estoversref39_Verify.l1 k l0 l1 s kn w (lvOf l1.length l0) i) (if vHoldB l0 w s kn a b d i = false then 19 else 0):=by
  have hf:=h.few
  intro d
  induction d with
  | zero =>
    intro i h0 hi
    refine ev1 0 (fun k _ => ?_)
    simp only [estoversref39_Verify.l1]
    rw [if_neg (by omega)]
    rfl
  | succ d ih =>
    intro i h0 hi
    have hlt : i < (l0.length : Int):=by omega
    obtain ⟨K3,hK3⟩:=hol_ev h kn _ (h.pages _ (rd34_mem l0 i h0 hlt)) (rd_T34 w i).f3
    obtain ⟨K,hK⟩:=ih (i + 1) (by omega) (by omega)
    dsimp only at hK3 hK
    refine ev1 (K + K3) (fun k hk => ?_)
    simp only [estoversref39_Verify.l1]
    rw [show vHoldB l0 w s kn a b (d + 1) i = (qHolds s kn a b (rd_T34 l0 i) (rd_T34 w i).f3 && vHoldB l0 w s kn a b d (i + 1)) from rfl,if_pos hlt,if_pos h0,if_pos (by omega),hK3 k (by omega)]
    simp only [Option.bind_some]
    cases qHolds s kn a b (rd_T34 l0 i) (rd_T34 w i).f3 with
    | true => rw [if_pos rfl,wr64 (by omega) (by omega),hK k (by omega),Bool.true_and]
    | false => rw [if_neg Bool.false_ne_true,if_pos (by simp)]
theorem rVerify_l0 (h : AskSt l0 l1 s a b c) (w : List S34) (hw : w.length = l0.length) : ∀ (d : Nat) (i : Int),0≤i→i + d = (l0.length : Int)→Ev (fun k => estoversref39_Verify.l0 k l0 l1 s kn w i) (if vSameB l0 w d i = false then 3 else if vHoldB l0 w s kn a b l0.length 0 = false then 19 else 0):=by
  have hf:=h.few
  intro d
  induction d with
  | zero =>
    intro i h0 hi
    obtain ⟨K,hK⟩:=rVerify_l1 (kn:=kn) h w hw l0.length 0 (by omega) (by omega)
    obtain ⟨K2,hK2⟩:=leaving_ev h
    dsimp only at hK hK2
    refine ev1 (K + K2) (fun k hk => ?_)
    simp only [estoversref39_Verify.l0]
    rw [if_neg (by omega),hK2 k (by omega)]
    simp only [Option.bind_some]
    rw [hK k (by omega)]
    rfl
  | succ d ih =>
    intro i h0 hi
    have hlt : i < (l0.length : Int):=by omega
    obtain ⟨K,hK⟩:=ih (i + 1) (by omega) (by omega)
    dsimp only at hK
    refine ev1 K (fun k hk => ?_)
    simp only [estoversref39_Verify.l0]
    rw [show vSameB l0 w (d + 1) i = (!(vDiff (rd_T34 w i) (rd_T34 l0 i)) && vSameB l0 w d (i + 1)) from rfl,if_pos hlt,if_pos h0,if_pos (by omega),← vDiff_comm]
    cases vDiff (rd_T34 w i) (rd_T34 l0 i) with
    | true => rw [if_pos rfl,if_pos (by simp)]
    | false => rw [if_neg Bool.false_ne_true,wr64 (by omega) (by omega),hK k (by omega),Bool.not_false,Bool.true_and]
theorem rVerify_ok (h : AskSt l0 l1 s a b c) (w : List S34) : Ev (fun k => estoversref39_Verify.f k l0 l1 s kn w) (vAnswer l0 w s kn a b):=by
  obtain ⟨K,hK⟩:=rchk_ev l0 l1 h.few
  dsimp only at hK
  have hz:=h.zero
  have hs:=h.sc
  unfold ScOk at hs
  by_cases hw : w.length = l0.length
  · obtain ⟨K2,hK2⟩:=rVerify_l0 (kn:=kn) h w hw l0.length 0 (by omega) (by omega)
    dsimp only at hK2
    refine ev0 (K + K2 + 1) (fun k hk => ?_)
    obtain ⟨m,rfl⟩ : ∃ m,k = m + 1:=⟨k - 1,by omega⟩
    unfold estoversref39_Verify.f vAnswer
    rw [hK _ (by omega)]
    simp only [Option.bind_some,estoversref39_Verify.j0]
    rw [if_pos hz,if_neg (by omega),if_neg (by simp;omega),if_pos (by omega),hK2 m (by omega),if_neg (not_not_intro hw)]
  · refine ev0 (K + 1) (fun k hk => ?_)
    obtain ⟨m,rfl⟩ : ∃ m,k = m + 1:=⟨k - 1,by omega⟩
    unfold estoversref39_Verify.f vAnswer
    rw [hK _ (by omega)]
    simp only [Option.bind_some,estoversref39_Verify.j0]
    rw [if_pos hz,if_neg (by omega),if_neg (by simp;omega),if_neg (by omega),if_pos hw]
theorem rVerify_bad (hn : l0.length < 1000000) (h : ¬ (pchk l0 l1 = 0∧ScOk (l1.length : Int) s)) (w : List S34) : Ev (fun k => estoversref39_Verify.f k l0 l1 s kn w) (if pchk l0 l1 = 0 then 2 else pchk l0 l1):=by
  obtain ⟨K,hK⟩:=rchk_ev l0 l1 hn
  dsimp only at hK
  refine ev0 (K + 1) (fun k hk => ?_)
  obtain ⟨m,rfl⟩ : ∃ m,k = m + 1:=⟨k - 1,by omega⟩
  unfold estoversref39_Verify.f
  rw [hK _ (by omega)]
  simp only [Option.bind_some,estoversref39_Verify.j0]
  by_cases c : pchk l0 l1 = 0
  · rw [if_pos c,if_pos c]
    by_cases c2 : s < -1
    · rw [if_pos c2,if_pos trivial]
    · rw [if_neg c2,if_pos (decide_eq_true (Classical.byContradiction fun c3 => h ⟨c,by unfold ScOk;omega⟩))]
  · rw [if_neg c,if_neg c]
end
theorem verifies_pure (l0 : List S34) (l1 : List S30) (s : Int) (kn : Bool) (w : List S34) : ∃ k,estoverslaw39_ReclaimplanVerifies.f k l0 l1 s kn w = some true:=by
  obtain ⟨K,hK⟩:=awake_ev
  dsimp only at hK
  have jt : ∀ k,K + 1≤k→estoverslaw39_ReclaimplanVerifies.j0 k w true l0 l1 s kn = some true:=by
    intro k hk
    obtain ⟨m,rfl⟩ : ∃ m,k = m + 1:=⟨k - 1,by omega⟩
    simp only [estoverslaw39_ReclaimplanVerifies.j0]
    rw [if_pos trivial,hK m (by omega)]
    rfl
  by_cases c : l0.length≤300∧l1.length≤40
  · have key : ∃ r,Ev (fun k => reclaimplan_Verify.f k l0 l1 s kn w) r∧Ev (fun k => estoversref39_Verify.f k l0 l1 s kn w) r:=by
      rcases ask_cases l0 l1 s (by omega) with ⟨a,b,c,h1,h2⟩ | ⟨h,e,h1,h2,h3⟩
      · exact ⟨_,Verify_ok h1 w,rVerify_ok h2 w⟩
      · exact ⟨_,Verify_bad h1 h2 w,by rw [h3];exact rVerify_bad (by omega) h w⟩
    obtain ⟨r,⟨K1,H1⟩,⟨K2,H2⟩⟩:=key
    dsimp only at H1 H2
    refine ⟨K + K1 + K2 + 2,?_⟩
    unfold estoverslaw39_ReclaimplanVerifies.f estoverslaw39_Few.f
    rw [hK _ (by omega),few_f]
    simp only [Option.bind_some]
    rw [if_pos (by trivial),decide_eq_true c,if_pos (by trivial)]
    by_cases c2 : (w.length : Int) > 300
    · rw [decide_eq_true c2];exact jt _ (by omega)
    · rw [decide_eq_false c2]
      simp only [estoverslaw39_ReclaimplanVerifies.j0]
      rw [if_neg (by simp),H1 _ (by omega),H2 _ (by omega)]
      simp
  · refine ⟨K + 2,?_⟩
    unfold estoverslaw39_ReclaimplanVerifies.f estoverslaw39_Few.f
    rw [hK _ (by omega),few_f]
    simp only [Option.bind_some]
    rw [if_pos (by trivial),decide_eq_false c,if_neg (by simp)]
    exact jt _ (by omega)
end Go.Proofs.Ytnmenfkmndnoaaa.Pr
