/- The plain statement of ProtectionAdds: the shares of an account's children add up to at most its own. -/
import Derived.Test.YtilcbkengmggdaaQi
import Derived.Test.YtilcbkengmggdaaQj
import Derived.Test.YtilcbkengmggdaaFestoverslaw20ProtectionAdds
set_option linter.unusedVariables false
set_option linter.unusedSimpArgs false
namespace Go.Proofs.Ytilcbkengmggdaa.Pr
open Go.RowKit Go.Proofs.YtilcbkengmggdaaW.PrintWords Go.Proofs.YtilcbkengmggdaaW.PrintLast Go.Proofs.YtilcbkengmggdaaW.PrintMore
theorem ks_mul (l : List S41) (f : Int → Int) (a x : Int) : ∀ m : Nat, ks l (fun j => a * f j) x m = a * ks l f x m
  | 0 => by rw [ks_zero', ks_zero']; simp
  | m + 1 => by
    rw [ks_succ, ks_succ, ks_mul l f a x m, Int.mul_add]
    by_cases c : 1 ≤ m ∧ (rd_T41 l m).f0 = x
    · rw [if_pos c, if_pos c]
    · rw [if_neg c, if_neg c]; simp
theorem eff_le {l : List S41} (hV : Valid l) {q : List Int} (hq : IsEff l q) (c : Int) (h0 : 0 < c) (h1 : c < (l.length : Int)) : 0 ≤ rd q c ∧ rd q c ≤ wa l c := by
  have htc := (hV.tree c (by omega) h1).2 h0
  have hw := wa_bd hV.amts c (by omega) h1
  have hg := hq.2.2.2 (rd_T41 l c).f0
  have e := hq.2.2.1 c h0 h1
  unfold EffAt at e
  rw [e]
  unfold sh
  split
  · rename_i ht
    have := share_bd hw.1 hw.2 hg.1 hg.2 ht
    omega
  · omega
theorem eff_sum {l : List S41} (hV : Valid l) {q : List Int} (hq : IsEff l q) (x : Int) (h0 : 0 ≤ x) (h1 : x < (l.length : Int)) : ks l (rd q) x l.length ≤ rd q x := by
  have hg := hq.2.2.2 x
  by_cases c : ks l (wa l) x l.length > rd q x
  · have hT : 0 < ks l (wa l) x l.length := by omega
    have e1 : ks l (rd q) x l.length = ks l (fun j => wa l j * rd q x / ks l (wa l) x l.length) x l.length := by
      refine ks_congr l x l.length (fun j h2 h3 h4 => ?_)
      have e := hq.2.2.1 j (by omega) h3
      unfold EffAt at e
      rw [e, h4]
      unfold sh
      rw [if_pos c]
    have e2 : ks l (wa l) x l.length * ks l (fun j => wa l j * rd q x / ks l (wa l) x l.length) x l.length ≤ ks l (wa l) x l.length * rd q x := by
      rw [← ks_mul l _ (ks l (wa l) x l.length) x l.length, Int.mul_comm (ks l (wa l) x l.length) (rd q x), ← ks_mul l (wa l) (rd q x) x l.length]
      refine ks_le l x l.length (fun j h2 h3 h4 => ?_)
      rw [Int.mul_comm (rd q x) (wa l j)]
      exact Int.mul_ediv_self_le (by omega)
    rw [e1]
    exact Int.le_of_mul_le_mul_left e2 hT
  · have : ks l (rd q) x l.length ≤ ks l (wa l) x l.length := ks_le l x l.length (fun j h2 h3 h4 => (eff_le hV hq j (by omega) h3).2)
    omega
theorem adds_l1 (q s : List Int) (hq : q.length ≤ 8) (hs : s.length = q.length) (h : ∀ x : Int, 0 ≤ x → x < (q.length : Int) → rd s x ≤ rd q x) : ∀ (d : Nat) (i : Int), 0 ≤ i → i + d = (q.length : Int) → Ev (fun k => estoverslaw20_ProtectionAdds.l1 k q s (s.length : Int) i) true := by
  intro d
  induction d with
  | zero => intro i h0 hi; exact ev1 0 (fun k _ => by simp only [estoverslaw20_ProtectionAdds.l1]; rw [if_neg (by omega)])
  | succ d ih =>
    intro i h0 hi
    obtain ⟨K, hK⟩ := ih (i + 1) (by omega) (by omega)
    have := h i h0 (by omega)
    refine ev1 K (fun k hk => ?_)
    simp only [estoverslaw20_ProtectionAdds.l1]
    rw [if_pos (by omega), if_pos h0, if_pos (by omega), if_pos (by omega), if_neg (by omega), wr64 (by omega) (by omega)]
    exact hK k hk
theorem adds_l0 (l : List S41) (hV : Valid l) (q : List Int) (hq : IsEff l q) : ∀ (d i : Nat) (s : List Int), 1 ≤ i → i + d = l.length → s.length = l.length → (∀ x : Int, 0 ≤ x → x < (l.length : Int) → rd s x = ks l (rd q) x i) → Ev (fun k => estoverslaw20_ProtectionAdds.l0 k l q s i) true := by
  intro d
  have h8 := hV.len8
  have hql := hq.1
  have hqb : ∀ j : Int, 0 ≤ j → j < (l.length : Int) → 0 ≤ rd q j ∧ rd q j ≤ 1048576 := fun j _ _ => hq.2.2.2 j
  induction d with
  | zero =>
    intro i s hi hd hs hsr
    obtain rfl : i = l.length := by omega
    obtain ⟨K, hK⟩ := adds_l1 q s (by omega) (by omega) (fun x h0 h1 => by rw [hsr x h0 (by omega)]; exact eff_sum hV hq x h0 (by omega)) q.length 0 (by omega) (by omega)
    refine ev1 K (fun k hk => ?_)
    simp only [estoverslaw20_ProtectionAdds.l0]
    rw [if_neg (by omega)]
    exact hK k hk
  | succ d ih =>
    intro i s hi hd hs hsr
    have ht := (hV.tree i (by omega) (by omega)).2 (by omega)
    have hp := hsr (rd_T41 l i).f0 (by omega) (by omega)
    have hb := ksm_bd h8 hqb (rd_T41 l i).f0 i (by omega)
    have hqi := eff_le hV hq i (by omega) (by omega)
    have hqi2 := hqb i (by omega) (by omega)
    have hw : wa l i ≤ (rd_T41 l i).f2 ∧ wa l i ≤ (rd_T41 l i).f1 := by unfold wa mn; split <;> omega
    obtain ⟨K, hK⟩ := ih (i + 1) (s.set (rd_T41 l i).f0.toNat (rd s (rd_T41 l i).f0 + rd q i)) (by omega) (by omega) (by simp [hs]) (fun x h0 h1 => by
      rw [rd_set _ _ _ _ (by omega) (by omega) h0, ks_succ]
      by_cases c : x = (rd_T41 l i).f0
      · rw [if_pos c, if_pos (show 1 ≤ i ∧ (rd_T41 l i).f0 = x from ⟨hi, c.symm⟩), hp, c]
      · rw [if_neg c, if_neg (show ¬ (1 ≤ i ∧ (rd_T41 l i).f0 = x) from fun h => c h.2.symm), hsr x h0 h1]; omega)
    refine ev1 (K + 1) (fun k hk => ?_)
    simp only [estoverslaw20_ProtectionAdds.l0]
    rw [if_pos (by omega), if_pos (by omega), if_pos (by omega), if_neg (by omega), if_neg (by omega), decide_eq_false (by omega)]
    obtain ⟨m, rfl⟩ : ∃ m, k = m + 1 := ⟨k - 1, by omega⟩
    simp only [estoverslaw20_ProtectionAdds.j3]
    rw [if_neg (by simp), if_pos (by omega), if_pos (by omega), if_pos (by omega), if_pos (by omega), if_pos (by omega), wr64 (i := rd s (rd_T41 l i).f0 + rd q i) (by omega) (by omega), wr64 (by omega) (by omega)]
    exact hK m (by omega)
theorem adds_pure (l : List S41) : ∃ k, estoverslaw20_ProtectionAdds.f k l = some true := by
  obtain ⟨K, hK⟩ := awake_ev
  obtain ⟨K1, H1⟩ := check19_ev l
  dsimp only at hK H1
  by_cases c : chk l = 0
  · have hV := (chk_zero l).1 c
    have h1 := hV.len1
    have h8 := hV.len8
    obtain ⟨q, e, ⟨K2, H2⟩, _, he, hq, _⟩ := effective_ev l
    rw [c] at he
    subst he
    have hq := hq rfl
    obtain ⟨K3, H3⟩ := adds_l0 l hV q hq (l.length - 1) 1 (List.replicate l.length 0) (by omega) (by omega) (by simp) (fun x h0 hx => by rw [rd_replicate, ks_low l hV.tree (rd q) x 1 (by omega) (by omega)])
    dsimp only at H2 H3
    have hql := hq.1
    refine ⟨K + K1 + K2 + K3 + 2, ?_⟩
    unfold estoverslaw20_ProtectionAdds.f
    rw [hK _ (by omega), H1 _ (by omega)]
    simp only [Option.bind_some]
    rw [if_pos (by trivial), c, show ((0 : Int) != 0) = false from rfl]
    simp only [estoverslaw20_ProtectionAdds.j0]
    rw [if_neg (by simp), H2 _ (by omega)]
    simp only [Option.bind_some]
    rw [if_pos (by trivial), if_pos (by omega), if_pos (by omega), if_pos (by omega), show (rd q 0 != (rd_T41 l 0).f1) = false by rw [hq.2.1]; simp [uu]]
    simp only [estoverslaw20_ProtectionAdds.j1]
    rw [if_neg (by simp), if_pos (by omega), if_pos (by omega)]
    exact H3 _ (by omega)
  · refine ⟨K + K1 + 1, ?_⟩
    unfold estoverslaw20_ProtectionAdds.f
    rw [hK _ (by omega), H1 _ (by omega)]
    simp only [Option.bind_some]
    rw [if_pos (by trivial), show (chk l != 0) = true by simpa using c]
    simp only [estoverslaw20_ProtectionAdds.j0]
    rw [if_pos (by trivial), hK _ (by omega)]
    rfl
end Go.Proofs.Ytilcbkengmggdaa.Pr
