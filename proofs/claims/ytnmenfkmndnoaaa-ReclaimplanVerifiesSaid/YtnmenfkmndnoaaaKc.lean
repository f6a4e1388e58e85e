/- The reference's parts of a question: leaving pages, outside, guarded, reason, holds. -/
import Derived.Test.YtnmenfkmndnoaaaKb
import Derived.Test.YtnmenfkmndnoaaaFestoversref39Leaving
import Derived.Test.YtnmenfkmndnoaaaFestoversref39guarded
import Derived.Test.YtnmenfkmndnoaaaFestoversref39outside
import Derived.Test.YtnmenfkmndnoaaaFestoversref39reason
set_option linter.unusedVariables false
set_option linter.unusedSimpArgs false
namespace Go.Proofs.Ytnmenfkmndnoaaa.Pr
open Go.RowKit Go.Proofs.YtnmenfkmndnoaaaW.PrintWords Go.Proofs.YtnmenfkmndnoaaaW.PrintLast Go.Proofs.YtnmenfkmndnoaaaW.PrintMore
theorem leaving_l0 (n : Nat) (l0 : List S34) (hl : l0.length < 1000000) (hp : ∀ p ∈ l0,p.f1 < (n : Int)) : ∀ (d : Nat) (i : Int) (a : List Int),0≤i→i + d = (l0.length : Int)→a.length = n→Ev (fun k => estoversref39_Leaving.l0 k l0 a i) ((l0.drop i.toNat).foldl lvStep a):=by
  intro d
  induction d with
  | zero =>
    intro i a h0 hi ha
    refine ev1 0 (fun k _ => ?_)
    simp only [estoversref39_Leaving.l0]
    rw [if_neg (by omega),List.drop_eq_nil_of_le (by omega)]
    rfl
  | succ d ih =>
    intro i a h0 hi ha
    have hlt : i < (l0.length : Int):=by omega
    have hpi:=hp _ (rd34_mem l0 i h0 hlt)
    obtain ⟨K,hK⟩:=ih (i + 1) (lvStep a (rd_T34 l0 i)) (by omega) (by omega) (by rw [lvStep_length,ha])
    rw [drop_rd34 l0 i h0 hlt,List.foldl_cons]
    dsimp only at hK
    refine ev1 (K + 1) (fun k hk => ?_)
    obtain ⟨m,rfl⟩ : ∃ m,k = m + 1:=⟨k - 1,by omega⟩
    simp only [estoversref39_Leaving.l0,estoversref39_Leaving.j1]
    rw [if_pos hlt,if_pos h0,show wrap64 (i + 1) = i + 1 from wr64 (by omega) (by omega)]
    have hK':=hK m (by omega)
    unfold lvStep at hK' ⊢
    cases c6 : (rd_T34 l0 i).f6 with
    | false =>
      rw [if_neg (by simp [c6])] at hK'
      rw [if_neg Bool.false_ne_true,if_neg Bool.false_ne_true,if_neg (by simp)]
      exact hK'
    | true =>
      rw [if_pos rfl]
      by_cases c : (rd_T34 l0 i).f1≥0
      · rw [if_pos ⟨c6,c⟩] at hK'
        rw [if_pos (decide_eq_true c),if_pos h0,if_pos hlt,if_pos c,if_pos (by omega),if_pos ⟨rfl,c⟩]
        exact hK'
      · rw [if_neg (fun h => c h.2)] at hK'
        rw [if_neg (by simpa using c),if_neg (fun h => c h.2)]
        exact hK'
theorem leaving_ev {l0 : List S34} {l1 : List S30} {s : Int} {a b c : List Bool} (h : AskSt l0 l1 s a b c) : Ev (fun k => estoversref39_Leaving.f k l0 l1) (lvOf l1.length l0):=by
  obtain ⟨K,hK⟩:=leaving_l0 l1.length l0 h.few (fun p hp => (h.pages p hp).2.2.2.1) l0.length 0 (List.replicate l1.length 0) (by omega) (by omega) (by simp)
  refine ev0 K (fun k hk => ?_)
  unfold estoversref39_Leaving.f
  have:=h.valid.len8
  rw [if_pos (by omega),if_pos (by omega)]
  exact hK k hk
theorem bool_of {b b' : Bool} {P : Prop} (h : b = true↔P) (h' : b' = true↔P) : b = b':=by rw [Bool.eq_iff_iff,h,h']
theorem out_ev {l0 : List S34} {l1 : List S30} {s : Int} {a b c : List Bool} (h : AskSt l0 l1 s a b c) (p : S34) (hp : PgOk (l1.length : Int) p) : Ev (fun k => estoversref39_outside.f k p.f0 p.f1 p.f2 p.f3 p.f4 p.f5 p.f6 l1 s) (qOut s a p):=by
  obtain ⟨bi,⟨K,hK⟩,hb⟩:=inside19_ev l1 p.f1 s
  dsimp only at hK
  refine ev0 K (fun k hk => ?_)
  unfold estoversref39_outside.f qOut
  by_cases c1 : s≥0
  · rw [if_pos c1,decide_eq_true (show 0≤s from c1)]
    by_cases c2 : p.f1 < 0
    · rw [if_pos c2,decide_eq_true c2];rfl
    · rw [if_neg c2,decide_eq_false c2,hK k hk]
      obtain rfl : bi = rdOf false a p.f1:=bool_of (hb.trans ⟨fun h => h.2,fun h2 => ⟨⟨h.valid,by omega,hp.2.2.2.1⟩,h2⟩⟩) (h.ins p.f1 (by omega) hp.2.2.2.1)
      rfl
  · rw [if_neg c1,decide_eq_false (show ¬ 0≤s from c1)];rfl
theorem gua_ev {l0 : List S34} {l1 : List S30} {s : Int} {a b c : List Bool} (h : AskSt l0 l1 s a b c) (p : S34) (hp : PgOk (l1.length : Int) p) : Ev (fun k => estoversref39_guarded.f k p.f0 p.f1 p.f2 p.f3 p.f4 p.f5 p.f6 l1 (lvOf l1.length l0) s false) (qGua b p)∧Ev (fun k => estoversref39_guarded.f k p.f0 p.f1 p.f2 p.f3 p.f4 p.f5 p.f6 l1 (lvOf l1.length l0) s true) (qGua c p):=by
  by_cases c1 : p.f1≥0
  · obtain ⟨K,hK⟩:=h.gd p.f1 c1 hp.2.2.2.1
    obtain ⟨K2,hK2⟩:=h.sf p.f1 c1 hp.2.2.2.1
    dsimp only at hK hK2
    constructor
    · refine ev0 K (fun k hk => ?_)
      unfold estoversref39_guarded.f qGua
      rw [if_pos c1,decide_eq_true (show 0≤p.f1 from c1),hK k hk];rfl
    · refine ev0 K2 (fun k hk => ?_)
      unfold estoversref39_guarded.f qGua
      rw [if_pos c1,decide_eq_true (show 0≤p.f1 from c1),hK2 k hk];rfl
  · constructor <;>
    · refine ev0 0 (fun k hk => ?_)
      unfold estoversref39_guarded.f qGua
      rw [if_neg c1,decide_eq_false (show ¬ 0≤p.f1 from c1)];rfl
theorem rea_ev {l0 : List S34} {l1 : List S30} {s : Int} {a b c : List Bool} (h : AskSt l0 l1 s a b c) (kn : Bool) (p : S34) (hp : PgOk (l1.length : Int) p) : Ev (fun k => estoversref39_reason.f k p.f0 p.f1 p.f2 p.f3 p.f4 p.f5 p.f6 l1 (lvOf l1.length l0) s kn) (qReason s kn a b p):=by
  obtain ⟨K1,H1⟩:=out_ev h p hp
  obtain ⟨K2,H2⟩:=(gua_ev h p hp).1
  dsimp only at H1 H2
  have j1 : ∀ f k,K2 + 1≤k→estoversref39_reason.j1 k l1 (lvOf l1.length l0) s f p.f0 p.f1 p.f2 p.f3 p.f4 p.f5 p.f6 = some (if f = true then p.f3 else if qGua b p = true then 11 else p.f3):=by
    intro f k hk
    obtain ⟨m,rfl⟩ : ∃ m,k = m + 1:=⟨k - 1,by omega⟩
    simp only [estoversref39_reason.j1]
    rw [H2 m (by omega)]
    simp only [Option.bind_some]
    cases f <;> cases qGua b p <;> rfl
  have j0 : ∀ f k,K2 + 2≤k→estoversref39_reason.j0 k l1 (lvOf l1.length l0) s f p.f0 p.f1 p.f2 p.f3 p.f4 p.f5 p.f6 = some (if f = true then 12 else if p.f6 = true then 8 else if ¬ p.f3 = 0∧¬ p.f3 = 8 then p.f3 else if qGua b p = true then 11 else p.f3):=by
    intro f k hk
    obtain ⟨m,rfl⟩ : ∃ m,k = m + 1:=⟨k - 1,by omega⟩
    simp only [estoversref39_reason.j0]
    rw [j1 _ m (by omega),j1 _ m (by omega)]
    cases f with
    | true => rfl
    | false =>
      rw [if_neg Bool.false_ne_true,if_neg Bool.false_ne_true]
      cases h6 : p.f6 with
      | true => rfl
      | false =>
        by_cases c1 : p.f3 = 0 <;> by_cases c2 : p.f3 = 8 <;> simp [c1,c2]
  refine ev0 (K1 + K2 + 3) (fun k hk => ?_)
  unfold estoversref39_reason.f qReason
  rw [H1 k (by omega)]
  simp only [Option.bind_some]
  rw [j0 _ k (by omega),j0 _ k (by omega)]
  cases qOut s a p with
  | true => rfl
  | false =>
    rw [if_neg Bool.false_ne_true,if_neg Bool.false_ne_true]
    cases kn with
    | true => rfl
    | false => rfl
section
variable {l0 : List S34} {l1 : List S30} {s : Int} {kn : Bool} {a b c : List Bool}
theorem quest_ok (h : AskSt l0 l1 s a b c) : Ev (fun k => estoversref39_Question.f k l0 l1 s) true:=by
  obtain ⟨b,hb,h2⟩:=quest_ev l0 l1 s h.few
  obtain rfl:=h2.2 ⟨h.zero,h.sc⟩
  exact hb
theorem quest_bad (hn : l0.length < 1000000) (h : ¬ (pchk l0 l1 = 0∧ScOk (l1.length : Int) s)) : Ev (fun k => estoversref39_Question.f k l0 l1 s) false:=by
  obtain ⟨b,hb,h2⟩:=quest_ev l0 l1 s hn
  cases b with
  | true => exact absurd (h2.1 rfl) h
  | false => exact hb
end
end Go.Proofs.Ytnmenfkmndnoaaa.Pr
