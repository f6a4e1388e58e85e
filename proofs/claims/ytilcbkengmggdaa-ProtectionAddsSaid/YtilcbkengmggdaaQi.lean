/- Effective in the program and in the reference: one list. -/
import Derived.Test.YtilcbkengmggdaaQc
import Derived.Test.YtilcbkengmggdaaFestoversref20Effective
import Derived.Test.YtilcbkengmggdaaM1
set_option linter.unusedVariables false
set_option linter.unusedSimpArgs false
namespace Go.Proofs.Ytilcbkengmggdaa.Pr
open Go.RowKit Go.Proofs.YtilcbkengmggdaaW.PrintWords Go.Proofs.YtilcbkengmggdaaW.PrintLast Go.Proofs.YtilcbkengmggdaaW.PrintMore
/-- a guarantee, scaled down where more is promised than there is -/
def sh (w g t : Int) : Int := if t > g then w * g / t else w
def EffAt (l : List S41) (e : List Int) (c : Int) : Prop := rd e c = sh (wa l c) (rd e (rd_T41 l c).f0) (ks l (wa l) (rd_T41 l c).f0 l.length)
def IsEff (l : List S41) (e : List Int) : Prop := e.length = l.length ∧ rd e 0 = uu l 0 ∧ (∀ c : Int, 0 < c → c < (l.length : Int) → EffAt l e c) ∧ eff_bd e
theorem isEff_uniq {l : List S41} (ht : TreeFrom l 0) {a b : List Int} (h : IsEff l a) (h' : IsEff l b) : a = b := by
  refine rd_ext (by rw [h.1, h'.1]) ?_
  intro j h0 h1
  refine up_ind ht (P := fun c => rd a c = rd b c) (by rw [h.2.1, h'.2.1]) ?_ j h0 (by have := h.1; omega)
  intro c hc0 hc1 _ _ ih
  have e := h.2.2.1 c hc0 hc1
  have e' := h'.2.2.1 c hc0 hc1
  unfold EffAt at e e'
  rw [e, e', ih]
theorem sh_eq {l : List S41} (ha : AmtFrom l 0) {c : Int} (h0 : 0 ≤ c) (h1 : c < (l.length : Int)) {g t : Int} (hg0 : 0 ≤ g) (hg1 : g ≤ 1048576) : (t > g → wrap64 (Int.tdiv (wrap64 (wa l c * g)) t) = sh (wa l c) g t) ∧ (¬ t > g → wa l c = sh (wa l c) g t) ∧ 0 ≤ sh (wa l c) g t ∧ sh (wa l c) g t ≤ 1048576 := by
  have hw := wa_bd ha c h0 h1
  unfold sh
  refine ⟨fun h => ?_, fun h => by rw [if_neg h], ?_⟩
  · rw [if_pos h]; exact (share_bd hw.1 hw.2 hg0 hg1 h).1
  · by_cases h : t > g
    · rw [if_pos h]
      have := share_bd hw.1 hw.2 hg0 hg1 h
      omega
    · rw [if_neg h]; exact hw
theorem sums_spec (l : List S41) (hV : Valid l) : ∀ (m : Nat) (s : List Int), m + 1 ≤ l.length → s.length = l.length → (∀ x : Int, 0 ≤ x → x < (l.length : Int) → rd s x = ks l (wa l) x l.length - ks l (wa l) x (m + 1)) → (eff_sums l m s).length = l.length ∧ ∀ x : Int, 0 ≤ x → x < (l.length : Int) → rd (eff_sums l m s) x = ks l (wa l) x l.length
  | 0, s, _, hs, h => ⟨hs, fun x h0 h1 => by
      have := h x h0 h1
      rw [ks_low l hV.tree (wa l) x (0 + 1) (by have := hV.len1; omega) (by omega)] at this
      rw [eff_sums, this]; omega⟩
  | m + 1, s, hm, hs, h => by
    have h8 := hV.len8
    have ht := (hV.tree ((m + 1 : Nat) : Int) (by omega) (by omega)).2 (by omega)
    have hp := h (rd_T41 l ((m + 1 : Nat) : Int)).f0 (by omega) (by omega)
    have hw := wa_bd hV.amts ((m + 1 : Nat) : Int) (by omega) (by omega)
    have hb1 := ksm_bd h8 (wa_bd hV.amts) (rd_T41 l ((m + 1 : Nat) : Int)).f0 l.length (by omega)
    have hb2 := ksm_bd h8 (wa_bd hV.amts) (rd_T41 l ((m + 1 : Nat) : Int)).f0 (m + 1 + 1) (by omega)
    have e : wrap64 (rd s (rd_T41 l ((m + 1 : Nat) : Int)).f0 + mn (rd_T41 l ((m + 1 : Nat) : Int)).f2 (rd_T41 l ((m + 1 : Nat) : Int)).f1) = rd s (rd_T41 l ((m + 1 : Nat) : Int)).f0 + wa l ((m + 1 : Nat) : Int) := wr64 (by unfold wa at hw; omega) (by unfold wa at hw; omega)
    rw [eff_sums, e]
    refine sums_spec l hV m _ (by omega) (by simp [hs]) (fun x h0 h1 => ?_)
    have hx := h x h0 h1
    rw [ks_succ] at hx
    rw [rd_set _ _ _ _ (by omega) (by omega) h0]
    by_cases c : x = (rd_T41 l ((m + 1 : Nat) : Int)).f0
    · rw [if_pos c]
      rw [if_pos (show 1 ≤ m + 1 ∧ (rd_T41 l ((m + 1 : Nat) : Int)).f0 = x from ⟨by omega, c.symm⟩)] at hx
      rw [← c]; omega
    · rw [if_neg c]
      rw [if_neg (show ¬ (1 ≤ m + 1 ∧ (rd_T41 l ((m + 1 : Nat) : Int)).f0 = x) from fun h => c h.2.symm)] at hx
      omega
theorem pass_spec (l : List S41) (hV : Valid l) (t : List Int) (ht : ∀ x : Int, 0 ≤ x → x < (l.length : Int) → rd t x = ks l (wa l) x l.length) : ∀ (d : Nat) (x : Int) (r : List Int), 1 ≤ x → x + d = (l.length : Int) → r.length = l.length → rd r 0 = uu l 0 → eff_bd r → (∀ c : Int, 0 < c → c < x → EffAt l r c) → IsEff l (eff_pass l t d x r)
  | 0, x, r, h1, hx, hl, h0, hb, hr => ⟨hl, h0, fun c h2 h3 => hr c h2 (by omega), hb⟩
  | d + 1, x, r, h1, hx, hl, h0, hb, hr => by
    have htr := (hV.tree x (by omega) (by omega)).2 (by omega)
    have hg := hb (rd_T41 l x).f0
    have htp := ht (rd_T41 l x).f0 (by omega) (by omega)
    have hs := sh_eq hV.amts (c := x) (by omega) (by omega) (t := rd t (rd_T41 l x).f0) hg.1 hg.2
    have hset : ∀ j : Int, 0 ≤ j → rd (eff_step l t r x) j = if j = x then sh (wa l x) (rd r (rd_T41 l x).f0) (rd t (rd_T41 l x).f0) else rd r j := by
      intro j hj
      unfold eff_step
      by_cases c : rd t (rd_T41 l x).f0 > rd r (rd_T41 l x).f0
      · rw [if_pos c, rd_set _ _ _ _ (by omega) (by simp; omega) hj, rd_set _ _ _ _ (by omega) (by omega) hj]
        by_cases e : j = x
        · rw [if_pos e, if_pos e]; exact hs.1 c
        · rw [if_neg e, if_neg e, if_neg e]
      · rw [if_neg c, rd_set _ _ _ _ (by omega) (by omega) hj]
        by_cases e : j = x
        · rw [if_pos e, if_pos e]; exact hs.2.1 c
        · rw [if_neg e, if_neg e]
    have hw := wa_bd hV.amts x (by omega) (by omega)
    refine pass_spec l hV t ht d (x + 1) (eff_step l t r x) (by omega) (by omega) ?_ ?_ (eff_step_bd l t r x hw.1 hw.2 hb) ?_
    · unfold eff_step; split <;> simp [hl]
    · rw [hset 0 (by omega), if_neg (by omega)]; exact h0
    · intro c hc0 hc1
      have htc := (hV.tree c (by omega) (by omega)).2 hc0
      unfold EffAt
      rw [hset c (by omega), hset (rd_T41 l c).f0 (by omega)]
      by_cases e : c = x
      · rw [if_pos e, e, if_neg (by omega), htp]
      · rw [if_neg e, if_neg (by omega)]
        exact hr c hc0 (by omega)
theorem eff'_spec (l : List S41) (hV : Valid l) : IsEff l (protection_Effective.eff' l) := by
  have h1 := hV.len1
  obtain ⟨hs1, hs2⟩ := sums_spec l hV ((l.length : Int) - 1).toNat (List.replicate l.length 0) (by omega) (by simp) (fun x h0 hx => by
    rw [rd_replicate, show ((l.length : Int) - 1).toNat + 1 = l.length by omega]; omega)
  have hu := uu_bd hV.amts 0 (by omega) (by omega)
  refine pass_spec l hV _ hs2 (l.length - 1) 1 _ (by omega) (by omega) (by simp) ?_ ?_ (fun c h2 h3 => by omega)
  · have := rd_set (List.replicate l.length 0) 0 (rd_T41 l 0).f1 0 (by omega) (by simp; omega) (by omega)
    rw [if_pos rfl] at this
    exact this
  · refine eff_bd_set _ _ _ (fun j => by rw [rd_replicate]; omega) ?_ ?_
    · exact hu.1
    · exact hu.2
-- the reference
/-- what is done: the children of the accounts below x, and of x itself those below c -/
def Ref20At (l : List S41) (a : List Int) (x c : Int) : Prop := a.length = l.length ∧ rd a 0 = uu l 0 ∧ eff_bd a ∧ ∀ y : Int, 0 < y → y < (l.length : Int) → ((rd_T41 l y).f0 < x ∨ ((rd_T41 l y).f0 = x ∧ y < c)) → EffAt l a y
theorem eff20_l1 (l : List S41) (hV : Valid l) (a : List Int) (x : Int) : ∀ (d c : Nat), 1 ≤ c → c + d = l.length → ∃ K, ∀ k, K ≤ k → ∃ k', k ≤ k' + K ∧ estoversref20_Effective.l1 k l a x (ks l (wa l) x c) c = estoversref20_Effective.l2 k' l a x (ks l (wa l) x l.length) (wrap64 (x + 1)) := by
  intro d
  have h8 := hV.len8
  induction d with
  | zero =>
    intro c hc hc2
    obtain rfl : c = l.length := by omega
    refine ⟨1, fun k hk => ?_⟩
    obtain ⟨m, rfl⟩ : ∃ m, k = m + 1 := ⟨k - 1, by omega⟩
    refine ⟨m, by omega, ?_⟩
    simp only [estoversref20_Effective.l1]
    rw [if_neg (by omega)]
  | succ d ih =>
    intro c hc hc2
    obtain ⟨K, hK⟩ := ih (c + 1) (by omega) (by omega)
    have hw := wa_bd hV.amts c (by omega) (by omega)
    have hb := ksm_bd h8 (wa_bd hV.amts) x c (by omega)
    have hww : wa l c = mn (rd_T41 l c).f2 (rd_T41 l c).f1 := rfl
    refine ⟨K + 1, fun k hk => ?_⟩
    obtain ⟨m, rfl⟩ : ∃ m, k = m + 1 := ⟨k - 1, by omega⟩
    obtain ⟨k', hk', e'⟩ := hK m (by omega)
    refine ⟨k', by omega, ?_⟩
    rw [ks_succ] at e'
    simp only [estoversref20_Effective.l1]
    rw [if_pos (by omega), if_pos (by omega)]
    by_cases q : (rd_T41 l c).f0 = x
    · rw [if_pos q, wr64 (i := ks l (wa l) x c + mn (rd_T41 l c).f2 (rd_T41 l c).f1) (by omega) (by omega), wr64 (i := (c : Int) + 1) (by omega) (by omega)]
      rw [if_pos (show 1 ≤ c ∧ (rd_T41 l c).f0 = x from ⟨by omega, q⟩)] at e'
      exact e'
    · rw [if_neg q, wr64 (i := (c : Int) + 1) (by omega) (by omega)]
      rw [if_neg (show ¬ (1 ≤ c ∧ (rd_T41 l c).f0 = x) from fun h => q h.2), Int.add_zero] at e'
      exact e'
theorem eff20_l2 (l : List S41) (hV : Valid l) (x : Int) (hx0 : 0 ≤ x) (hx1 : x < (l.length : Int)) : ∀ (d : Nat) (c : Int) (a : List Int), x < c → c + d = (l.length : Int) → Ref20At l a x c → ∃ q, Ref20At l q (x + 1) 0 ∧ ∃ K, ∀ k, K ≤ k → ∃ k', k ≤ k' + K ∧ estoversref20_Effective.l2 k l a x (ks l (wa l) x l.length) c = estoversref20_Effective.l0 k' l q (x + 1) := by
  intro d
  have h8 := hV.len8
  induction d with
  | zero =>
    intro c a hc hd hR
    refine ⟨a, ⟨hR.1, hR.2.1, hR.2.2.1, fun y h0 h1 h2 => hR.2.2.2 y h0 h1 (by omega)⟩, 1, fun k hk => ?_⟩
    obtain ⟨m, rfl⟩ : ∃ m, k = m + 1 := ⟨k - 1, by omega⟩
    refine ⟨m, by omega, ?_⟩
    simp only [estoversref20_Effective.l2]
    rw [if_neg (by omega), wr64 (by omega) (by omega)]
  | succ d ih =>
    intro c a hc hd hR
    obtain ⟨hal, ha0, hab, har⟩ := hR
    by_cases q : (rd_T41 l c).f0 = x
    · have hw := wa_bd hV.amts c (by omega) (by omega)
      have hg := hab x
      have hs := sh_eq hV.amts (c := c) (by omega) (by omega) (t := ks l (wa l) x l.length) hg.1 hg.2
      have hy : ∀ j : Int, 0 ≤ j → rd (a.set c.toNat (wa l c)) j = if j = c then wa l c else rd a j := fun j hj => rd_set _ _ _ _ (by omega) (by omega) hj
      -- the new list
      have main : ∀ a' : List Int, a'.length = l.length → eff_bd a' → (∀ j : Int, 0 ≤ j → rd a' j = if j = c then sh (wa l c) (rd a x) (ks l (wa l) x l.length) else rd a j) → ∃ q, Ref20At l q (x + 1) 0 ∧ ∃ K, ∀ k, K ≤ k → ∃ k', k ≤ k' + K ∧ estoversref20_Effective.l2 k l a' x (ks l (wa l) x l.length) (c + 1) = estoversref20_Effective.l0 k' l q (x + 1) := by
        intro a' h1 h2 h3
        refine ih (c + 1) a' (by omega) (by omega) ⟨h1, by rw [h3 0 (by omega), if_neg (by omega)]; exact ha0, h2, fun y hy0 hy1 hy2 => ?_⟩
        have hty := (hV.tree y (by omega) hy1).2 hy0
        unfold EffAt
        rw [h3 y (by omega), h3 (rd_T41 l y).f0 (by omega)]
        by_cases e : y = c
        · rw [if_pos e, e, if_neg (by omega), q]
        · rw [if_neg e, if_neg (by omega)]
          exact har y hy0 hy1 (by omega)
      by_cases ct : ks l (wa l) x l.length > rd a x
      · obtain ⟨q', hq', K, hK⟩ := main ((a.set c.toNat (wa l c)).set c.toNat (sh (wa l c) (rd a x) (ks l (wa l) x l.length))) (by simp [hal]) (eff_bd_set _ _ _ (eff_bd_set _ _ _ hab hw.1 hw.2) hs.2.2.1 hs.2.2.2) (fun j hj => by
          rw [rd_set _ _ _ _ (by omega) (by simp; omega) hj, hy j hj]
          by_cases e : j = c
          · rw [if_pos e, if_pos e]
          · rw [if_neg e, if_neg e, if_neg e])
        refine ⟨q', hq', K + 1, fun k hk => ?_⟩
        obtain ⟨m, rfl⟩ : ∃ m, k = m + 1 := ⟨k - 1, by omega⟩
        obtain ⟨k', hk', e'⟩ := hK m (by omega)
        refine ⟨k', by omega, ?_⟩
        simp only [estoversref20_Effective.l2]
        rw [if_pos (by omega), if_pos (by omega), if_pos q, if_pos (by omega)]
        simp only [Option.bind_some]
        rw [show mn (rd_T41 l c).f2 (rd_T41 l c).f1 = wa l c from rfl]
        have e1 : rd (a.set c.toNat (wa l c)) x = rd a x := by rw [hy x hx0, if_neg (by omega)]
        have e2 : rd (a.set c.toNat (wa l c)) c = wa l c := by rw [hy c (by omega), if_pos rfl]
        rw [if_pos (by omega), if_pos (by omega), e1, e2, if_pos ct, if_neg (by omega), hs.1 ct, wr64 (i := c + 1) (by omega) (by omega)]
        exact e'
      · obtain ⟨q', hq', K, hK⟩ := main (a.set c.toNat (wa l c)) (by simp [hal]) (eff_bd_set _ _ _ hab hw.1 hw.2) (fun j hj => by
          rw [hy j hj]
          by_cases e : j = c
          · rw [if_pos e, if_pos e]; exact hs.2.1 ct
          · rw [if_neg e, if_neg e])
        refine ⟨q', hq', K + 1, fun k hk => ?_⟩
        obtain ⟨m, rfl⟩ : ∃ m, k = m + 1 := ⟨k - 1, by omega⟩
        obtain ⟨k', hk', e'⟩ := hK m (by omega)
        refine ⟨k', by omega, ?_⟩
        simp only [estoversref20_Effective.l2]
        rw [if_pos (by omega), if_pos (by omega), if_pos q, if_pos (by omega)]
        simp only [Option.bind_some]
        rw [show mn (rd_T41 l c).f2 (rd_T41 l c).f1 = wa l c from rfl]
        have e1 : rd (a.set c.toNat (wa l c)) x = rd a x := by rw [hy x hx0, if_neg (by omega)]
        rw [if_pos (by omega), if_pos (by omega), e1, if_neg ct, wr64 (i := c + 1) (by omega) (by omega)]
        exact e'
    · obtain ⟨q', hq', K, hK⟩ := ih (c + 1) a (by omega) (by omega) ⟨hal, ha0, hab, fun y hy0 hy1 hy2 => har y hy0 hy1 (by
        rcases hy2 with h | ⟨h, h'⟩
        · exact Or.inl h
        · refine Or.inr ⟨h, ?_⟩
          by_cases e : y = c
          · rw [e] at h; exact absurd h q
          · omega)⟩
      refine ⟨q', hq', K + 1, fun k hk => ?_⟩
      obtain ⟨m, rfl⟩ : ∃ m, k = m + 1 := ⟨k - 1, by omega⟩
      obtain ⟨k', hk', e'⟩ := hK m (by omega)
      refine ⟨k', by omega, ?_⟩
      simp only [estoversref20_Effective.l2]
      rw [if_pos (by omega), if_pos (by omega), if_neg q, wr64 (i := c + 1) (by omega) (by omega)]
      exact e'
theorem eff20_l0 (l : List S41) (hV : Valid l) : ∀ (d : Nat) (x : Nat) (a : List Int), x + d = l.length → Ref20At l a x 0 → ∃ q, Ev (fun k => estoversref20_Effective.l0 k l a x) (q, 0) ∧ IsEff l q := by
  intro d
  have h8 := hV.len8
  induction d with
  | zero =>
    intro x a hx hR
    exact ⟨a, ev1 0 (fun k _ => by simp only [estoversref20_Effective.l0]; rw [if_neg (by omega)]), hR.1, hR.2.1, fun c h0 h1 => hR.2.2.2 c h0 h1 (Or.inl (by have := (hV.tree c (by omega) h1).2 h0; omega)), hR.2.2.1⟩
  | succ d ih =>
    intro x a hx hR
    obtain ⟨q, hq, K2, H2⟩ := eff20_l2 l hV x (by omega) (by omega) d (x + 1) a (by omega) (by omega) ⟨hR.1, hR.2.1, hR.2.2.1, fun y hy0 hy1 hy2 => hR.2.2.2 y hy0 hy1 (by
      rcases hy2 with h | ⟨h, h'⟩
      · exact Or.inl h
      · have := (hV.tree y (by omega) hy1).2 hy0; omega)⟩
    obtain ⟨K1, H1⟩ := eff20_l1 l hV a x d (x + 1) (by omega) (by omega)
    rw [ks_low l hV.tree (wa l) x (x + 1) (by omega) (by omega)] at H1
    obtain ⟨q2, ⟨K3, H3⟩, hq2⟩ := ih (x + 1) q (by omega) hq
    refine ⟨q2, ev1 (K1 + K2 + K3) (fun k hk => ?_), hq2⟩
    simp only [estoversref20_Effective.l0]
    rw [if_pos (by omega)]
    obtain ⟨k', hk', e'⟩ := H1 k (by omega)
    rw [wr64 (i := (x : Int) + 1) (by omega) (by omega)] at e' ⊢
    rw [show ((x + 1 : Nat) : Int) = (x : Int) + 1 by omega] at e'
    rw [e']
    obtain ⟨k2, hk2, e2⟩ := H2 k' (by omega)
    rw [e2]
    have := H3 k2 (by omega)
    rw [show ((x + 1 : Nat) : Int) = (x : Int) + 1 by omega] at this
    exact this
/-- Effective, one answer for both. -/
theorem effective_ev (l : List S41) : ∃ q e, Ev (fun k => protection_Effective.f k l) (q, e) ∧ Ev (fun k => estoversref20_Effective.f k l) (q, e) ∧ e = chk l ∧ (e = 0 → IsEff l q) ∧ (¬ e = 0 → q = []) := by
  obtain ⟨K1, H1⟩ := check_ev l
  obtain ⟨K2, H2⟩ := check19_ev l
  dsimp only at H1 H2
  by_cases c : chk l = 0
  · have hV := (chk_zero l).1 c
    have h1 := hV.len1
    have h8 := hV.len8
    have hu := uu_bd hV.amts 0 (by omega) (by omega)
    obtain ⟨q, ⟨K3, H3⟩, hq⟩ := eff20_l0 l hV l.length 0 ((List.replicate l.length 0).set (0 : Int).toNat (rd_T41 l 0).f1) (by omega) (by
      refine ⟨by simp, ?_, ?_, fun y hy0 hy1 hy2 => ?_⟩
      · have := rd_set (List.replicate l.length 0) 0 (rd_T41 l 0).f1 0 (by omega) (by simp; omega) (by omega)
        rw [if_pos rfl] at this
        exact this
      · exact eff_bd_set _ _ _ (fun j => by rw [rd_replicate]; omega) hu.1 hu.2
      · have := (hV.tree y (by omega) hy1).2 hy0; omega)
    obtain rfl := isEff_uniq hV.tree (eff'_spec l hV) hq
    refine ⟨_, 0, ev0 K1 (fun k hk => ?_), ev0 (K2 + K3) (fun k hk => ?_), c.symm, fun _ => hq, fun h => absurd rfl h⟩
    · unfold protection_Effective.f
      rw [H1 k hk]
      simp only [Option.bind_some]
      rw [if_pos c]
    · unfold estoversref20_Effective.f
      rw [H2 k (by omega)]
      simp only [Option.bind_some]
      rw [if_pos c, if_pos (by omega), if_pos (by omega), if_pos (by omega), if_pos (by simp; omega)]
      exact H3 k (by omega)
  · refine ⟨[], chk l, ev0 K1 (fun k hk => ?_), ev0 K2 (fun k hk => ?_), rfl, fun h => absurd h c, fun _ => rfl⟩
    · unfold protection_Effective.f
      rw [H1 k hk]
      simp only [Option.bind_some]
      rw [if_neg c]
    · unfold estoversref20_Effective.f
      rw [H2 k hk]
      simp only [Option.bind_some]
      rw [if_neg c]
end Go.Proofs.Ytilcbkengmggdaa.Pr
