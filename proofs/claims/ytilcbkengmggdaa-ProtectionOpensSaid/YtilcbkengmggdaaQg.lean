/- Own, Open, Overcommit in the program and in the reference. -/
import Derived.Test.YtilcbkengmggdaaQf
import Derived.Test.YtilcbkengmggdaaFestoversref19Own
import Derived.Test.YtilcbkengmggdaaFestoversref20Open
import Derived.Test.YtilcbkengmggdaaFestoversref20Overcommit
import Derived.Test.YtilcbkengmggdaaM2
set_option linter.unusedVariables false
set_option linter.unusedSimpArgs false
namespace Go.Proofs.Ytilcbkengmggdaa.Pr
open Go.RowKit Go.Proofs.YtilcbkengmggdaaW.PrintWords Go.Proofs.YtilcbkengmggdaaW.PrintLast Go.Proofs.YtilcbkengmggdaaW.PrintMore
theorem mset {P : Prop} {α : Type} [Decidable P] {a b : α} (h : P) : (if P then a else b) = a := if_pos h
def ownOf (l : List S41) (x : Int) : Int := uu l x - ks l (uu l) x l.length
theorem ownOf_bd {l : List S41} (hV : Valid l) {x : Int} (h0 : 0 ≤ x) (h1 : x < (l.length : Int)) : 0 ≤ ownOf l x ∧ ownOf l x ≤ 1048576 := by
  have a := hV.owns x h0 h1
  have b := uu_bd hV.amts x h0 h1
  have c := ksu_bd hV.len8 hV.amts x l.length (by omega)
  unfold ownOf
  have e : uu l x = (rd_T41 l x).f1 := rfl
  omega
theorem Own_ev (l : List S41) (hV : Valid l) (x : Int) (h0 : 0 ≤ x) (h1 : x < (l.length : Int)) : Ev (fun k => accounts_Own.f k l x) (ownOf l x) ∧ Ev (fun k => estoversref19_Own.f k l x) (ownOf l x) := by
  obtain ⟨b, ⟨K1, H1⟩, ⟨K2, H2⟩, hb⟩ := has_ev l x
  obtain rfl := hb.2 ⟨hV, h0, h1⟩
  obtain ⟨r, ⟨K3, H3⟩, hr⟩ := own_f l hV.len8 hV.tree hV.amts
  obtain ⟨K4, H4⟩ := kids_f l hV.len1 hV.len8 hV.amts x
  dsimp only at H1 H2 H3 H4
  have e := hr.2 x h0 h1
  rw [if_pos h1] at e
  have hb := ownOf_bd hV h0 h1
  have hu : uu l x = (rd_T41 l x).f1 := rfl
  constructor
  · refine ev0 (K1 + K3) (fun k hk => ?_)
    unfold accounts_Own.f
    rw [H1 k (by omega)]
    simp only [Option.bind_some]
    rw [if_pos (by trivial), H3 k (by omega)]
    simp only [Option.bind_some]
    rw [if_pos h0, if_pos (by have := hr.1; omega), e]
    rfl
  · refine ev0 (K2 + K4) (fun k hk => ?_)
    unfold estoversref19_Own.f
    rw [H2 k (by omega)]
    simp only [Option.bind_some]
    rw [if_pos (by trivial), if_pos h0, if_pos h1, H4 k (by omega)]
    simp only [Option.bind_some]
    rw [wr64 (by unfold ownOf at hb; omega) (by unfold ownOf at hb; omega)]
    rfl
-- Open
/-- may pages of x be taken, for the scope s? -/
def Takes (l : List S41) (v q : List Int) (s x : Int) : Prop := rd v x < ownOf l x ∧ ¬ Gd l q (mx s 0) false x
theorem open_l0 (l : List S41) (v q : List Int) (s : Int) (hL : LvOk l v) (hq : IsIn l v q) (hs0 : -1 ≤ s) (hs1 : s < (l.length : Int)) : ∀ (d : Nat) (i : Int), 0 ≤ i → i + d = (l.length : Int) → ∃ r, Ev (fun k => protection_Open.l0 k l v s (l.length : Int) i) r ∧ Ev (fun k => estoversref20_Open.l0 k l v s i) r ∧ ((r = -1 ∧ ∀ j, i ≤ j → j < (l.length : Int) → ¬ Takes l v q s j) ∨ (i ≤ r ∧ r < (l.length : Int) ∧ Takes l v q s r)) := by
  intro d
  have h8 := hL.1.len8
  induction d with
  | zero =>
    intro i h0 hi
    exact ⟨-1, ev1 0 (fun k _ => by simp only [protection_Open.l0]; rw [if_neg (by omega)]), ev1 0 (fun k _ => by simp only [estoversref20_Open.l0]; rw [if_neg (by omega)]), Or.inl ⟨rfl, fun j h1 h2 => by omega⟩⟩
  | succ d ih =>
    intro i h0 hi
    have hlt : i < (l.length : Int) := by omega
    have hvl := hL.2.1
    obtain ⟨r, ⟨K, hK⟩, ⟨K', hK'⟩, hr⟩ := ih (i + 1) (by omega) (by omega)
    obtain ⟨⟨K1, H1⟩, ⟨K2, H2⟩⟩ := Own_ev l hL.1 i h0 hlt
    obtain ⟨b, ⟨K3, H3⟩, ⟨K4, H4⟩, _, hb⟩ := guarded_ev l v i s false
    have hb := hb q hL ⟨h0, hlt, hs0, hs1⟩ hq
    obtain ⟨bi, ⟨K5, H5⟩, hbi⟩ := inside19_ev l i s
    dsimp only at hK hK' H1 H2 H3 H4 H5
    have j1 : ∀ c : Bool, ∀ k, K + 1 ≤ k → protection_Open.j1 k l v s i (l.length : Int) i c = some (if c = true then i else r) := by
      intro c k hk
      obtain ⟨m, rfl⟩ : ∃ m, k = m + 1 := ⟨k - 1, by omega⟩
      simp only [protection_Open.j1]
      cases c with
      | true => rfl
      | false => rw [if_neg (by simp), if_neg (by simp), wr64 (by omega) (by omega)]; exact hK m (by omega)
    have j2 : ∀ c : Bool, ∀ k, K' + 1 ≤ k → estoversref20_Open.j2 k l v s i c = some (if c = true then i else r) := by
      intro c k hk
      obtain ⟨m, rfl⟩ : ∃ m, k = m + 1 := ⟨k - 1, by omega⟩
      simp only [estoversref20_Open.j2]
      cases c with
      | true => rfl
      | false => rw [if_neg (by simp), if_neg (by simp), wr64 (by omega) (by omega)]; exact hK' m (by omega)
    have hbx : b = false → bi = true := by
      intro h
      rw [hbi]
      refine ⟨⟨hL.1, h0, hlt⟩, Classical.byContradiction fun hn => ?_⟩
      have hg : Gd l q (mx s 0) false i := by
        refine Or.inr fun ha => hn ?_
        by_cases c : s = -1
        · exact Or.inl c
        · rw [show mx s 0 = s by unfold mx; split <;> omega] at ha
          exact Or.inr ha
      rw [hb.2 hg] at h
      cases h
    have key : ∀ c : Bool, (c = true ↔ Takes l v q s i) → (∀ k, K + K1 + K3 + 1 ≤ k → protection_Open.l0 (k + 1) l v s (l.length : Int) i = protection_Open.j1 k l v s i (l.length : Int) i c) → (∀ k, K' + K2 + K4 + K5 + 1 ≤ k → estoversref20_Open.l0 (k + 1) l v s i = estoversref20_Open.j2 k l v s i c) → ∃ r, Ev (fun k => protection_Open.l0 k l v s (l.length : Int) i) r ∧ Ev (fun k => estoversref20_Open.l0 k l v s i) r ∧ ((r = -1 ∧ ∀ j, i ≤ j → j < (l.length : Int) → ¬ Takes l v q s j) ∨ (i ≤ r ∧ r < (l.length : Int) ∧ Takes l v q s r)) := by
      intro c hc h1 h2
      refine ⟨if c = true then i else r, ev1 (K + K1 + K3 + 1) (fun k hk => by rw [h1 k hk]; exact j1 c k (by omega)), ev1 (K' + K2 + K4 + K5 + 1) (fun k hk => by rw [h2 k hk]; exact j2 c k (by omega)), ?_⟩
      cases c with
      | true => exact Or.inr ⟨by simp, by simpa using hlt, by simpa using hc.1 rfl⟩
      | false =>
        rcases hr with ⟨h3, h4⟩ | ⟨h3, h4, h5⟩
        · refine Or.inl ⟨by simpa using h3, fun j h6 h7 => ?_⟩
          by_cases e : j = i
          · rw [e]; exact fun h8 => by simpa using hc.2 h8
          · exact h4 j (by omega) h7
        · exact Or.inr ⟨by simp; omega, by simpa using h4, by simpa using h5⟩
    by_cases c1 : ownOf l i > rd v i
    · refine key (!b) (by unfold Takes; rw [← hb]; cases b <;> simp [c1]) (fun k hk => ?_) (fun k hk => ?_)
      · simp only [protection_Open.l0]
        rw [if_pos hlt, H1 k (by omega)]
        simp only [Option.bind_some]
        rw [if_pos h0, if_pos (by omega), if_pos c1, H3 k (by omega)]
        rfl
      · simp only [estoversref20_Open.l0]
        rw [if_pos hlt, H5 k (by omega)]
        simp only [Option.bind_some]
        cases bi with
        | true =>
          rw [if_pos (by trivial), H2 k (by omega)]
          simp only [Option.bind_some]
          rw [if_pos h0, if_pos (by omega), if_pos c1, H4 k (by omega)]
          rfl
        | false =>
          rw [if_neg (by simp)]
          cases b with
          | true => rfl
          | false => exact absurd (hbx rfl) (by simp)
    · refine key false (by unfold Takes; simp; omega) (fun k hk => ?_) (fun k hk => ?_)
      · simp only [protection_Open.l0]
        rw [if_pos hlt, H1 k (by omega)]
        simp only [Option.bind_some]
        rw [if_pos h0, if_pos (by omega), if_neg c1]
      · simp only [estoversref20_Open.l0]
        rw [if_pos hlt, H5 k (by omega)]
        simp only [Option.bind_some]
        cases bi with
        | true =>
          rw [if_pos (by trivial), H2 k (by omega)]
          simp only [Option.bind_some]
          rw [if_pos h0, if_pos (by omega), if_neg c1]
        | false => rw [if_neg (by simp)]
theorem open_l0_bad (l : List S41) (v : List Int) (s : Int) (hL : LvOk l v) (hs : ¬ (-1 ≤ s ∧ s < (l.length : Int))) : ∀ (d : Nat) (i : Int), 0 ≤ i → i + d = (l.length : Int) → Ev (fun k => protection_Open.l0 k l v s (l.length : Int) i) (-1) := by
  intro d
  have h8 := hL.1.len8
  induction d with
  | zero =>
    intro i h0 hi
    exact ev1 0 (fun k _ => by simp only [protection_Open.l0]; rw [if_neg (by omega)])
  | succ d ih =>
    intro i h0 hi
    have hlt : i < (l.length : Int) := by omega
    have hvl := hL.2.1
    obtain ⟨K, hK⟩ := ih (i + 1) (by omega) (by omega)
    obtain ⟨⟨K1, H1⟩, _⟩ := Own_ev l hL.1 i h0 hlt
    obtain ⟨K3, H3⟩ := guarded_bad l v i s false (fun h => hs ⟨h.2.2.2.1, h.2.2.2.2⟩)
    dsimp only at hK H1 H3
    have j1 : ∀ k, K + 1 ≤ k → protection_Open.j1 k l v s i (l.length : Int) i false = some (-1) := by
      intro k hk
      obtain ⟨m, rfl⟩ : ∃ m, k = m + 1 := ⟨k - 1, by omega⟩
      simp only [protection_Open.j1]
      rw [if_neg (by simp), wr64 (by omega) (by omega)]; exact hK m (by omega)
    refine ev1 (K + K1 + K3 + 1) (fun k hk => ?_)
    simp only [protection_Open.l0]
    rw [if_pos hlt, H1 k (by omega)]
    simp only [Option.bind_some]
    rw [if_pos h0, if_pos (by omega), H3 k (by omega)]
    simp only [Option.bind_some, Bool.not_true]
    rw [j1 k (by omega)]
    split <;> rfl
theorem open_ev (l : List S41) (v : List Int) (s : Int) : ∃ r, Ev (fun k => protection_Open.f k l v s) r ∧ Ev (fun k => estoversref20_Open.f k l v s) r ∧ ∀ q, LvOk l v → -1 ≤ s → s < (l.length : Int) → IsIn l v q → ((r = -1 ∧ ∀ j, 0 ≤ j → j < (l.length : Int) → ¬ Takes l v q s j) ∨ (0 ≤ r ∧ r < (l.length : Int) ∧ Takes l v q s r)) := by
  obtain ⟨b, ⟨K1, H1⟩, ⟨K2, H2⟩, hb⟩ := valid_ev l v
  dsimp only at H1 H2
  have jt : ∀ k, 1 ≤ k → estoversref20_Open.j0 k l v s true = some (-1) := by
    intro k hk
    obtain ⟨m, rfl⟩ : ∃ m, k = m + 1 := ⟨k - 1, by omega⟩
    simp only [estoversref20_Open.j0]
    rw [if_pos (by trivial)]
  cases b with
  | false =>
    refine ⟨-1, ev0 K1 (fun k hk => ?_), ev0 (K2 + 1) (fun k hk => ?_), fun q h => absurd (hb.2 h) (by simp)⟩
    · unfold protection_Open.f; rw [H1 k hk]; rfl
    · unfold estoversref20_Open.f; rw [H2 k (by omega)]; simp only [Option.bind_some]; rw [if_neg (by simp)]; exact jt k (by omega)
  | true =>
    have hL := hb.1 rfl
    by_cases hs : -1 ≤ s ∧ s < (l.length : Int)
    · obtain ⟨q, _, _, hq, _⟩ := sums_ev l v hL
      obtain ⟨r, ⟨K3, H3⟩, ⟨K4, H4⟩, hr⟩ := open_l0 l v q s hL hq hs.1 hs.2 l.length 0 (by omega) (by omega)
      refine ⟨r, ev0 (K1 + K3) (fun k hk => ?_), ev0 (K2 + K4 + 1) (fun k hk => ?_), fun q' _ _ _ hq' => by obtain rfl := isIn_uniq hL.1.tree hq hq'; exact hr⟩
      · unfold protection_Open.f; rw [H1 k (by omega)]; simp only [Option.bind_some]; rw [if_pos (by trivial)]; exact H3 k (by omega)
      · unfold estoversref20_Open.f; rw [H2 k (by omega)]; simp only [Option.bind_some]; rw [if_pos (by trivial), if_neg (by omega), decide_eq_false (by omega)]
        obtain ⟨m, rfl⟩ : ∃ m, k = m + 1 := ⟨k - 1, by omega⟩
        simp only [estoversref20_Open.j0]
        rw [if_neg (by simp)]
        exact H4 m (by omega)
    · obtain ⟨K3, H3⟩ := open_l0_bad l v s hL hs l.length 0 (by omega) (by omega)
      refine ⟨-1, ev0 (K1 + K3) (fun k hk => ?_), ev0 (K2 + 1) (fun k hk => ?_), fun q _ h1 h2 => absurd ⟨h1, h2⟩ hs⟩
      · unfold protection_Open.f; rw [H1 k (by omega)]; simp only [Option.bind_some]; rw [if_pos (by trivial)]; exact H3 k (by omega)
      · unfold estoversref20_Open.f; rw [H2 k (by omega)]; simp only [Option.bind_some]; rw [if_pos (by trivial)]
        by_cases c : s < -1
        · rw [if_pos c]; exact jt k (by omega)
        · rw [if_neg c, decide_eq_true (by omega)]; exact jt k (by omega)
end Go.Proofs.Ytilcbkengmggdaa.Pr
