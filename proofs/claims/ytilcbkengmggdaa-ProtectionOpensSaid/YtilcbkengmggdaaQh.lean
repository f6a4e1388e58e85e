/- Overcommit and Effective in the program and in the reference. -/
import Derived.Test.YtilcbkengmggdaaQd
import Derived.Test.YtilcbkengmggdaaFestoversref20Effective
import Derived.Test.YtilcbkengmggdaaFestoversref20Overcommit
import Derived.Test.YtilcbkengmggdaaM1
import Derived.Test.YtilcbkengmggdaaM2
set_option linter.unusedVariables false
set_option linter.unusedSimpArgs false
namespace Go.Proofs.Ytilcbkengmggdaa.Pr
open Go.RowKit Go.Proofs.YtilcbkengmggdaaW.PrintWords Go.Proofs.YtilcbkengmggdaaW.PrintLast Go.Proofs.YtilcbkengmggdaaW.PrintMore
/-- who promises too much -/
def OverAt (l : List S41) (fr x : Int) : Prop := (x = 0 ∧ fr < ks l (mi l) x l.length) ∨ (0 < x ∧ mi l x < ks l (mi l) x l.length)
def OverRes (l : List S41) (fr i r : Int) : Prop := (r = -1 ∧ ∀ j, i ≤ j → j < (l.length : Int) → ¬ OverAt l fr j) ∨ (i ≤ r ∧ r < (l.length : Int) ∧ OverAt l fr r ∧ ∀ j, i ≤ j → j < r → ¬ OverAt l fr j)
theorem overRes_uniq {l : List S41} {fr i r r' : Int} (hi : 0 ≤ i) (h : OverRes l fr i r) (h' : OverRes l fr i r') : r = r' := by
  rcases h with ⟨h1, h2⟩ | ⟨h1, h2, h3, h4⟩ <;> rcases h' with ⟨h1', h2'⟩ | ⟨h1', h2', h3', h4'⟩
  · omega
  · exact absurd h3' (h2 _ h1' h2')
  · exact absurd h3 (h2' _ h1 h2)
  · by_cases c : r < r'
    · exact absurd h3 (h4' _ h1 c)
    · by_cases c2 : r' < r
      · exact absurd h3' (h4 _ h1' c2)
      · omega
theorem overRes_step {l : List S41} {fr i r : Int} (hi : i < (l.length : Int)) (hn : ¬ OverAt l fr i) (h : OverRes l fr (i + 1) r) : OverRes l fr i r := by
  have q : ∀ P : Int → Prop, (∀ j, i + 1 ≤ j → P j) → P i → ∀ j, i ≤ j → P j := fun P h1 h2 j h3 => by
    by_cases e : j = i
    · rw [e]; exact h2
    · exact h1 j (by omega)
  rcases h with ⟨h1, h2⟩ | ⟨h1, h2, h3, h4⟩
  · exact Or.inl ⟨h1, q (fun j => j < (l.length : Int) → ¬ OverAt l fr j) h2 (fun _ => hn)⟩
  · exact Or.inr ⟨by omega, h2, h3, q (fun j => j < r → ¬ OverAt l fr j) h4 (fun _ => hn)⟩
theorem overRes_hit {l : List S41} {fr i : Int} (hi : i < (l.length : Int)) (h : OverAt l fr i) : OverRes l fr i i := Or.inr ⟨by omega, hi, h, fun j h1 h2 => by omega⟩
theorem rd_drop (l : List S41) (j : Int) (h : 0 ≤ j) : rd_T41 (l.drop 1) j = rd_T41 l (j + 1) := by
  unfold rd_T41
  rw [List.getD_eq_getElem?_getD, List.getD_eq_getElem?_getD, List.getElem?_drop, show 1 + j.toNat = (j + 1).toNat by omega]
theorem over_l1 (l : List S41) (hV : Valid l) (fr : Int) (s : List Int) (hs : s.length = l.length) (hsr : ∀ x : Int, 0 ≤ x → x < (l.length : Int) → rd s x = ks l (mi l) x l.length) : ∀ (d : Nat) (i : Int), 0 ≤ i → i + d = (l.length : Int) → ∃ r, Ev (fun k => protection_Overcommit.l1 k l fr s (s.length : Int) i) (r, 0) ∧ OverRes l fr i r := by
  intro d
  have h8 := hV.len8
  induction d with
  | zero =>
    intro i h0 hi
    exact ⟨-1, ev1 0 (fun k _ => by simp only [protection_Overcommit.l1]; rw [if_neg (by omega)]), Or.inl ⟨rfl, fun j h1 h2 => by omega⟩⟩
  | succ d ih =>
    intro i h0 hi
    have hlt : i < (l.length : Int) := by omega
    obtain ⟨r, ⟨K, hK⟩, hr⟩ := ih (i + 1) (by omega) (by omega)
    have hsi := hsr i h0 hlt
    have j3 : ∀ c : Bool, ∀ k, K + 1 ≤ k → protection_Overcommit.j3 k l fr i s (s.length : Int) i c = some (if c = true then (i, 0) else (r, 0)) := by
      intro c k hk
      obtain ⟨m, rfl⟩ : ∃ m, k = m + 1 := ⟨k - 1, by omega⟩
      simp only [protection_Overcommit.j3]
      cases c with
      | true => rfl
      | false => rw [if_neg (by simp), if_neg (by simp), wr64 (by omega) (by omega)]; exact hK m (by omega)
    have key : ∀ c : Bool, (c = true ↔ OverAt l fr i) → (∀ k, K + 1 ≤ k → protection_Overcommit.l1 (k + 1) l fr s (s.length : Int) i = protection_Overcommit.j3 k l fr i s (s.length : Int) i c) → ∃ r, Ev (fun k => protection_Overcommit.l1 k l fr s (s.length : Int) i) (r, 0) ∧ OverRes l fr i r := by
      intro c hc h1
      refine ⟨if c = true then i else r, ev1 (K + 1) (fun k hk => by rw [h1 k hk, j3 c k hk]; cases c <;> rfl), ?_⟩
      cases c with
      | true => exact overRes_hit hlt (hc.1 rfl)
      | false => exact overRes_step hlt (fun h => by simpa using hc.2 h) hr
    by_cases c0 : i = 0
    · by_cases c1 : rd s i > fr
      · refine key true (by simp; exact Or.inl ⟨c0, by omega⟩) (fun k hk => ?_)
        simp only [protection_Overcommit.l1]
        rw [if_pos (by omega), if_pos h0, if_pos (by omega), if_pos c0, if_pos c1]
      · refine key false (by simp; unfold OverAt; omega) (fun k hk => ?_)
        simp only [protection_Overcommit.l1]
        rw [if_pos (by omega), if_pos h0, if_pos (by omega), if_pos c0, if_neg c1, if_neg (by omega)]
    · refine key (decide (rd s i > (rd_T41 l i).f2)) (by rw [decide_eq_true_iff]; unfold OverAt; have hmm : mi l i = (rd_T41 l i).f2 := rfl; exact ⟨fun h => Or.inr ⟨by omega, by omega⟩, fun h => by omega⟩) (fun k hk => ?_)
      simp only [protection_Overcommit.l1]
      rw [if_pos (by omega), if_pos h0, if_pos (by omega), if_neg c0, if_pos (by omega), if_pos (by omega)]
theorem over_l0 (l : List S41) (hV : Valid l) (fr : Int) : ∀ (d i : Nat) (s : List Int), 1 ≤ i → i + d = l.length → s.length = l.length → (∀ x : Int, 0 ≤ x → x < (l.length : Int) → rd s x = ks l (mi l) x i) → ∃ r, Ev (fun k => protection_Overcommit.l0 k l fr s (l.drop 1) ((l.drop 1).length : Int) ((i : Int) - 1)) (r, 0) ∧ OverRes l fr 0 r := by
  intro d
  have h8 := hV.len8
  have hdl : (l.drop 1).length = l.length - 1 := by simp
  induction d with
  | zero =>
    intro i s hi hd hs hsr
    obtain rfl : i = l.length := by omega
    obtain ⟨r, ⟨K, hK⟩, hr⟩ := over_l1 l hV fr s hs hsr l.length 0 (by omega) (by omega)
    refine ⟨r, ev1 K (fun k hk => ?_), hr⟩
    simp only [protection_Overcommit.l0]
    rw [if_neg (by omega)]
    exact hK k hk
  | succ d ih =>
    intro i s hi hd hs hsr
    have ht := (hV.tree i (by omega) (by omega)).2 (by omega)
    have hm := mi_bd hV.amts i (by omega) (by omega)
    have hb := ksm_bd h8 (mi_bd hV.amts) (rd_T41 l i).f0 i (by omega)
    have hp := hsr (rd_T41 l i).f0 (by omega) (by omega)
    have e : rd_T41 (l.drop 1) ((i : Int) - 1) = rd_T41 l i := by rw [rd_drop l _ (by omega)]; congr 1; omega
    have hmm : mi l i = (rd_T41 l i).f2 := rfl
    obtain ⟨r, ⟨K, hK⟩, hr⟩ := ih (i + 1) (s.set (rd_T41 l i).f0.toNat (rd s (rd_T41 l i).f0 + (rd_T41 l i).f2)) (by omega) (by omega) (by simp [hs]) (fun x h0 h1 => by
      rw [rd_set _ _ _ _ (by omega) (by omega) h0, ks_succ]
      by_cases c : x = (rd_T41 l i).f0
      · rw [if_pos c, if_pos (show 1 ≤ i ∧ (rd_T41 l i).f0 = x from ⟨hi, c.symm⟩), hp, c]; rfl
      · rw [if_neg c, if_neg (show ¬ (1 ≤ i ∧ (rd_T41 l i).f0 = x) from fun h => c h.2.symm), hsr x h0 h1]; omega)
    refine ⟨r, ev1 K (fun k hk => ?_), hr⟩
    simp only [protection_Overcommit.l0]
    rw [if_pos (by omega), if_pos (by omega), if_pos (by omega), e, if_pos (by omega), if_pos (by omega), wr64 (i := rd s (rd_T41 l i).f0 + (rd_T41 l i).f2) (by omega) (by omega), wr64 (by omega) (by omega)]
    have := hK k hk
    rw [show ((i + 1 : Nat) : Int) - 1 = (i : Int) - 1 + 1 by omega] at this
    exact this
theorem over20_l0 (l : List S41) (hV : Valid l) (fr : Int) : ∀ (d : Nat) (i : Nat), i + d = l.length → ∃ r, Ev (fun k => estoversref20_Overcommit.l0 k l fr i) (r, 0) ∧ OverRes l fr i r := by
  intro d
  have h8 := hV.len8
  induction d with
  | zero =>
    intro i hi
    exact ⟨-1, ev1 0 (fun k _ => by simp only [estoversref20_Overcommit.l0]; rw [if_neg (by omega)]), Or.inl ⟨rfl, fun j h1 h2 => by omega⟩⟩
  | succ d ih =>
    intro i hi
    obtain ⟨r, ⟨K, hK⟩, hr⟩ := ih (i + 1) (by omega)
    have j3 : ∀ c : Bool, ∀ k, K + 1 ≤ k → estoversref20_Overcommit.j3 k l fr i c = some (if c = true then ((i : Int), 0) else (r, 0)) := by
      intro c k hk
      obtain ⟨m, rfl⟩ : ∃ m, k = m + 1 := ⟨k - 1, by omega⟩
      simp only [estoversref20_Overcommit.j3]
      cases c with
      | true => rfl
      | false => rw [if_neg (by simp), if_neg (by simp), wr64 (by omega) (by omega)]; exact hK m (by omega)
    -- the inner loop
    have l1 : ∀ (d2 c : Nat), i + 1 ≤ c → c + d2 = l.length → ∃ b : Bool, (b = true ↔ OverAt l fr i) ∧ ∃ K', ∀ k, K' ≤ k → ∃ k', k ≤ k' + K' ∧ estoversref20_Overcommit.l1 k l fr i (ks l (mi l) i c) c = estoversref20_Overcommit.j3 k' l fr i b := by
      intro d2
      induction d2 with
      | zero =>
        intro c hc hc2
        obtain rfl : c = l.length := by omega
        by_cases c0 : (i : Int) = 0
        · by_cases c1 : ks l (mi l) i l.length > fr
          · refine ⟨true, by simp; exact Or.inl ⟨c0, by omega⟩, 1, fun k hk => ?_⟩
            obtain ⟨m, rfl⟩ : ∃ m, k = m + 1 := ⟨k - 1, by omega⟩
            refine ⟨m, by omega, ?_⟩
            simp only [estoversref20_Overcommit.l1]
            rw [if_neg (by omega), if_pos c0, if_pos c1]
          · refine ⟨false, by simp; unfold OverAt; omega, 1, fun k hk => ?_⟩
            obtain ⟨m, rfl⟩ : ∃ m, k = m + 1 := ⟨k - 1, by omega⟩
            refine ⟨m, by omega, ?_⟩
            simp only [estoversref20_Overcommit.l1]
            rw [if_neg (by omega), if_pos c0, if_neg c1, if_neg (by omega)]
        · refine ⟨decide (ks l (mi l) i l.length > (rd_T41 l i).f2), ?_, 1, fun k hk => ?_⟩
          · rw [decide_eq_true_iff]
            unfold OverAt
            have hmm : mi l i = (rd_T41 l i).f2 := rfl
            constructor
            · intro h; exact Or.inr ⟨by omega, by omega⟩
            · intro h; omega
          · obtain ⟨m, rfl⟩ : ∃ m, k = m + 1 := ⟨k - 1, by omega⟩
            refine ⟨m, by omega, ?_⟩
            simp only [estoversref20_Overcommit.l1]
            rw [if_neg (by omega), if_neg c0, if_pos (by omega), if_pos (by omega), if_pos (by omega)]
      | succ d2 ih2 =>
        intro c hc hc2
        obtain ⟨b, hb, K', hK'⟩ := ih2 (c + 1) (by omega) (by omega)
        have hm := mi_bd hV.amts c (by omega) (by omega)
        have hbb := ksm_bd h8 (mi_bd hV.amts) i c (by omega)
        have hmm : mi l c = (rd_T41 l c).f2 := rfl
        refine ⟨b, hb, K' + 1, fun k hk => ?_⟩
        obtain ⟨m, rfl⟩ : ∃ m, k = m + 1 := ⟨k - 1, by omega⟩
        obtain ⟨k', hk', e'⟩ := hK' m (by omega)
        refine ⟨k', by omega, ?_⟩
        rw [ks_succ] at e'
        simp only [estoversref20_Overcommit.l1]
        rw [if_pos (by omega), if_pos (by omega)]
        by_cases q : (rd_T41 l c).f0 = (i : Int)
        · rw [if_pos q, wr64 (by omega) (by omega), wr64 (by omega) (by omega)]
          rw [if_pos (show 1 ≤ c ∧ (rd_T41 l c).f0 = (i : Int) from ⟨by omega, q⟩)] at e'
          exact e'
        · rw [if_neg q, wr64 (by omega) (by omega)]
          rw [if_neg (show ¬ (1 ≤ c ∧ (rd_T41 l c).f0 = (i : Int)) from fun h => q h.2), Int.add_zero] at e'
          exact e'
    obtain ⟨b, hb, K', hK'⟩ := l1 (l.length - (i + 1)) (i + 1) (by omega) (by omega)
    rw [ks_low l hV.tree (mi l) i (i + 1) (by omega) (by omega)] at hK'
    refine ⟨if b = true then (i : Int) else r, ev1 (K + K' + 1) (fun k hk => ?_), ?_⟩
    · simp only [estoversref20_Overcommit.l0]
      rw [if_pos (by omega), wr64 (by omega) (by omega)]
      obtain ⟨k', hk', e'⟩ := hK' k (by omega)
      rw [show ((i + 1 : Nat) : Int) = (i : Int) + 1 by omega] at e'
      rw [e', j3 b k' (by omega)]
      cases b <;> rfl
    · cases b with
      | true => exact overRes_hit (by omega) (hb.1 rfl)
      | false => exact overRes_step (by omega) (fun h => by simpa using hb.2 h) hr
theorem overcommit_ev (l : List S41) (fr : Int) : ∃ r e, Ev (fun k => protection_Overcommit.f k l fr) (r, e) ∧ Ev (fun k => estoversref20_Overcommit.f k l fr) (r, e) ∧ (e = 0 → Valid l ∧ 0 ≤ fr ∧ fr ≤ 1048576 ∧ OverRes l fr 0 r) := by
  obtain ⟨K1, H1⟩ := check_ev l
  obtain ⟨K2, H2⟩ := check19_ev l
  dsimp only at H1 H2
  by_cases c : chk l = 0
  · have hV := (chk_zero l).1 c
    have j1 : ∀ k, 1 ≤ k → protection_Overcommit.j0 k l fr true = some (0, 2) := by
      intro k hk
      obtain ⟨m, rfl⟩ : ∃ m, k = m + 1 := ⟨k - 1, by omega⟩
      simp only [protection_Overcommit.j0]
      rw [if_pos (by trivial)]
    have j2 : ∀ k, 1 ≤ k → estoversref20_Overcommit.j0 k l fr true = some (0, 2) := by
      intro k hk
      obtain ⟨m, rfl⟩ : ∃ m, k = m + 1 := ⟨k - 1, by omega⟩
      simp only [estoversref20_Overcommit.j0]
      rw [if_pos (by trivial)]
    by_cases c2 : fr < 0 ∨ fr > 1048576
    · refine ⟨0, 2, ev0 (K1 + 1) (fun k hk => ?_), ev0 (K2 + 1) (fun k hk => ?_), fun h => by omega⟩
      · unfold protection_Overcommit.f
        rw [H1 k (by omega)]
        simp only [Option.bind_some]
        rw [if_pos c]
        by_cases c3 : fr < 0
        · rw [if_pos c3]; exact j1 k (by omega)
        · rw [if_neg c3, decide_eq_true (by omega)]; exact j1 k (by omega)
      · unfold estoversref20_Overcommit.f
        rw [H2 k (by omega)]
        simp only [Option.bind_some]
        rw [if_pos c]
        by_cases c3 : fr < 0
        · rw [if_pos c3]; exact j2 k (by omega)
        · rw [if_neg c3, decide_eq_true (by omega)]; exact j2 k (by omega)
    · have h1 := hV.len1
      have h8 := hV.len8
      obtain ⟨r, ⟨K3, H3⟩, hr⟩ := over_l0 l hV fr (l.length - 1) 1 (List.replicate l.length 0) (by omega) (by omega) (by simp) (fun x h0 hx => by rw [rd_replicate, ks_low l hV.tree (mi l) x 1 (by omega) (by omega)])
      obtain ⟨r', ⟨K4, H4⟩, hr'⟩ := over20_l0 l hV fr l.length 0 (by omega)
      obtain rfl := overRes_uniq (by omega) hr hr'
      refine ⟨r, 0, ev0 (K1 + K3 + 1) (fun k hk => ?_), ev0 (K2 + K4 + 1) (fun k hk => ?_), fun _ => ⟨hV, by omega, by omega, hr⟩⟩
      · unfold protection_Overcommit.f
        rw [H1 k (by omega)]
        simp only [Option.bind_some]
        rw [if_pos c, if_neg (by omega), decide_eq_false (by omega)]
        obtain ⟨m, rfl⟩ : ∃ m, k = m + 1 := ⟨k - 1, by omega⟩
        simp only [protection_Overcommit.j0]
        rw [if_neg (by simp), if_pos (by omega), if_pos (by omega), if_pos (by omega)]
        exact H3 m (by omega)
      · unfold estoversref20_Overcommit.f
        rw [H2 k (by omega)]
        simp only [Option.bind_some]
        rw [if_pos c, if_neg (by omega), decide_eq_false (by omega)]
        obtain ⟨m, rfl⟩ : ∃ m, k = m + 1 := ⟨k - 1, by omega⟩
        simp only [estoversref20_Overcommit.j0]
        rw [if_neg (by simp)]
        exact H4 m (by omega)
  · refine ⟨0, chk l, ev0 K1 (fun k hk => ?_), ev0 K2 (fun k hk => ?_), fun h => absurd h c⟩
    · unfold protection_Overcommit.f
      rw [H1 k (by omega)]
      simp only [Option.bind_some]
      rw [if_neg c]
    · unfold estoversref20_Overcommit.f
      rw [H2 k (by omega)]
      simp only [Option.bind_some]
      rw [if_neg c]
end Go.Proofs.Ytilcbkengmggdaa.Pr
