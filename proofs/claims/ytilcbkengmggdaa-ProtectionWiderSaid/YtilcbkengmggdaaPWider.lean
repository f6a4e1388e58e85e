/- The plain statement of ProtectionWider: who is guarded for a scope is guarded for every wider one, and by every higher floor. -/
import Derived.Test.YtilcbkengmggdaaQf
import Derived.Test.YtilcbkengmggdaaQj
import Derived.Test.YtilcbkengmggdaaFestoverslaw20ProtectionWider
set_option linter.unusedVariables false
set_option linter.unusedSimpArgs false
namespace Go.Proofs.Ytilcbkengmggdaa.Pr
open Go.RowKit Go.Proofs.YtilcbkengmggdaaW.PrintWords Go.Proofs.YtilcbkengmggdaaW.PrintLast Go.Proofs.YtilcbkengmggdaaW.PrintMore
def LowFrom (l : List S41) (v : List Int) (i : Int) : Prop := ∀ j, i ≤ j → j < (l.length : Int) → (rd_T41 l j).f2 ≤ (rd_T41 l j).f3 ∧ 0 ≤ rd v j ∧ rd v j ≤ (rd_T41 l j).f1
theorem gd_wider {l : List S41} {q : List Int} {e e' : Int} {low : Bool} {x : Int} (he : e' ≤ e) (ha : Anc l e x) (h : Gd l q e low x) : Gd l q e' low x := by
  rcases h with ⟨y, h1, h2, h3⟩ | h
  · exact Or.inl ⟨y, h1, by omega, h3⟩
  · exact absurd ha h
theorem gd_low {l : List S41} (ht : TreeFrom l 0) {v q : List Int} (hl : LowFrom l v 0) {e x : Int} (he : 0 ≤ e) (hx : x < (l.length : Int)) (h : Gd l q e false x) : Gd l q e true x := by
  rcases h with ⟨y, h1, h2, h3⟩ | h
  · refine Or.inl ⟨y, h1, h2, ?_⟩
    have := (hl y (by omega) (by have := h1.le ht hx; omega)).1
    unfold GP at h3 ⊢
    simp only [Bool.false_eq_true, if_false] at h3
    rw [if_pos rfl]
    omega
  · exact Or.inr h
theorem wider_l1 (l : List S41) (v q : List Int) (x : Int) (hL : LvOk l v) (hq : IsIn l v q) (hl : LowFrom l v 0) (hx0 : 0 ≤ x) (hx1 : x < (l.length : Int)) :
    (∀ before : Bool, (before = true → Gd l q 0 false x) → Ev (fun k => estoverslaw20_ProtectionWider.l1 k l v x before (-1)) true) ∧
    ∀ s : Int, 0 ≤ s → s < (l.length : Int) → Anc l s x → ∀ before : Bool, (before = true → Gd l q s false x) → Ev (fun k => estoverslaw20_ProtectionWider.l1 k l v x before s) true := by
  have hV := hL.1
  -- one round
  have round : ∀ s : Int, -1 ≤ s → s < (l.length : Int) → ∀ before : Bool, (before = true → Gd l q (mx s 0) false x) → (s = -1 ∨ ∀ b : Bool, (b = true → Gd l q (mx s 0) false x) → Ev (fun k => estoverslaw20_ProtectionWider.l1 k l v x b (rd_T41 l s).f0) true) → Ev (fun k => estoverslaw20_ProtectionWider.l1 k l v x before s) true := by
    intro s hs0 hs1 before hbef hnext
    obtain ⟨g, ⟨K1, H1⟩, _, _, hg⟩ := guarded_ev l v x s false
    obtain ⟨g', ⟨K2, H2⟩, _, _, hg'⟩ := guarded_ev l v x s true
    have hg := hg q hL ⟨hx0, hx1, hs0, hs1⟩ hq
    have hg' := hg' q hL ⟨hx0, hx1, hs0, hs1⟩ hq
    have hmx : 0 ≤ mx s 0 := by unfold mx; split <;> omega
    dsimp only at H1 H2
    have hj : ∃ K, ∀ k, K ≤ k → estoverslaw20_ProtectionWider.j4 k l v x s g false = some true := by
      rcases hnext with h | h
      · refine ⟨1, fun k hk => ?_⟩
        obtain ⟨m, rfl⟩ : ∃ m, k = m + 1 := ⟨k - 1, by omega⟩
        simp only [estoverslaw20_ProtectionWider.j4]
        rw [if_neg (by simp), if_pos h]
      · by_cases c : s = -1
        · refine ⟨1, fun k hk => ?_⟩
          obtain ⟨m, rfl⟩ : ∃ m, k = m + 1 := ⟨k - 1, by omega⟩
          simp only [estoverslaw20_ProtectionWider.j4]
          rw [if_neg (by simp), if_pos c]
        · obtain ⟨K, hK⟩ := h g hg.1
          refine ⟨K + 1, fun k hk => ?_⟩
          obtain ⟨m, rfl⟩ : ∃ m, k = m + 1 := ⟨k - 1, by omega⟩
          simp only [estoverslaw20_ProtectionWider.j4]
          rw [if_neg (by simp), if_neg c, if_pos (by omega), if_pos hs1]
          exact hK m (by omega)
    obtain ⟨K3, H3⟩ := hj
    refine ev1 (K1 + K2 + K3) (fun k hk => ?_)
    simp only [estoverslaw20_ProtectionWider.l1]
    rw [if_pos (by omega), H1 k (by omega)]
    simp only [Option.bind_some]
    cases g with
    | true =>
      have e : g' = true := hg'.2 (gd_low hV.tree hl hmx hx1 (hg.1 rfl))
      rw [e] at H2
      rw [H2 k (by omega)]
      simp only [Option.bind_some, Bool.not_true]
      cases before with
      | true => rw [if_pos (by trivial), if_pos (by trivial)]; exact H3 k (by omega)
      | false => rw [if_neg (by simp), if_pos (by trivial)]; exact H3 k (by omega)
    | false =>
      cases before with
      | true => exact absurd (hg.2 (hbef rfl)) (by simp)
      | false => rw [if_neg (by simp), if_neg (by simp)]; exact H3 k (by omega)
  have hroot : ∀ before : Bool, (before = true → Gd l q 0 false x) → Ev (fun k => estoverslaw20_ProtectionWider.l1 k l v x before (-1)) true := by
    intro before hb
    exact round (-1) (by omega) (by omega) before (by rw [show mx (-1) 0 = 0 from rfl]; exact hb) (Or.inl rfl)
  refine ⟨hroot, ?_⟩
  refine up_ind hV.tree (P := fun s => Anc l s x → ∀ before : Bool, (before = true → Gd l q s false x) → Ev (fun k => estoverslaw20_ProtectionWider.l1 k l v x before s) true) ?_ ?_
  · intro ha before hb
    have hr0 : (rd_T41 l 0).f0 = -1 := (hV.tree 0 (by omega) (by omega)).1 rfl
    refine round 0 (by omega) (by omega) before (by rw [show mx 0 0 = 0 from rfl]; exact hb) (Or.inr fun b hb2 => ?_)
    rw [hr0]
    exact hroot b hb2
  · intro s hs0 hs1 hp0 hp1 ih ha before hb
    have hm : mx s 0 = s := by unfold mx; split <;> omega
    refine round s (by omega) hs1 before (by rw [hm]; exact hb) (Or.inr fun b hb2 => ?_)
    rw [hm] at hb2
    have ha2 : Anc l (rd_T41 l s).f0 x := by
      have key : ∀ c, Anc l s c → Anc l (rd_T41 l s).f0 c := by
        intro c h
        induction h with
        | here => exact Anc.up hs0 Anc.here
        | up h1 _ ih => exact Anc.up h1 ih
      exact key x ha
    exact ih ha2 b (fun h => gd_wider (by omega) ha (hb2 h))
theorem wider_l0 (l : List S41) (v : List Int) (x : Int) (hV : Valid l) (hvl : v.length = l.length) (hx0 : 0 ≤ x) (hx1 : x < (l.length : Int)) (hl1 : LowFrom l v 0 → Ev (fun k => estoverslaw20_ProtectionWider.l1 k l v x false x) true) : ∀ (d : Nat) (i : Int), 0 ≤ i → i + d = (l.length : Int) → (∀ j, 0 ≤ j → j < i → (rd_T41 l j).f2 ≤ (rd_T41 l j).f3 ∧ 0 ≤ rd v j ∧ rd v j ≤ (rd_T41 l j).f1) → Ev (fun k => estoverslaw20_ProtectionWider.l0 k l v x (l.length : Int) i) true := by
  intro d
  have h8 := hV.len8
  induction d with
  | zero =>
    intro i h0 hi hd
    obtain ⟨K, hK⟩ := hl1 (fun j h1 h2 => hd j h1 (by omega))
    refine ev1 K (fun k hk => ?_)
    simp only [estoverslaw20_ProtectionWider.l0]
    rw [if_neg (by omega)]
    exact hK k hk
  | succ d ih =>
    intro i h0 hi hd
    have hlt : i < (l.length : Int) := by omega
    have jt : ∀ k, 1 ≤ k → estoverslaw20_ProtectionWider.j2 k l v x (l.length : Int) i true = some true := by
      intro k hk
      obtain ⟨m, rfl⟩ : ∃ m, k = m + 1 := ⟨k - 1, by omega⟩
      simp only [estoverslaw20_ProtectionWider.j2]
      rw [if_pos (by trivial)]
    by_cases c : (rd_T41 l i).f2 ≤ (rd_T41 l i).f3 ∧ 0 ≤ rd v i ∧ rd v i ≤ (rd_T41 l i).f1
    · obtain ⟨K, hK⟩ := ih (i + 1) (by omega) (by omega) (fun j h1 h2 => by
        by_cases e : j = i
        · rw [e]; exact c
        · exact hd j h1 (by omega))
      refine ev1 (K + 1) (fun k hk => ?_)
      simp only [estoverslaw20_ProtectionWider.l0]
      rw [if_pos hlt, if_pos h0, if_pos hlt, if_neg (by omega), if_pos (by omega), if_neg (by omega), decide_eq_false (by omega)]
      obtain ⟨m, rfl⟩ : ∃ m, k = m + 1 := ⟨k - 1, by omega⟩
      simp only [estoverslaw20_ProtectionWider.j2]
      rw [if_neg (by simp), wr64 (by omega) (by omega)]
      exact hK m (by omega)
    · refine ev1 1 (fun k hk => ?_)
      simp only [estoverslaw20_ProtectionWider.l0]
      rw [if_pos hlt, if_pos h0, if_pos hlt]
      by_cases c1 : (rd_T41 l i).f3 < (rd_T41 l i).f2
      · rw [if_pos c1]; exact jt k hk
      · rw [if_neg c1, if_pos (by omega)]
        by_cases c2 : rd v i < 0
        · rw [if_pos c2]; exact jt k hk
        · rw [if_neg c2, decide_eq_true (by omega)]; exact jt k hk
theorem wider_pure (l : List S41) (v : List Int) (x : Int) : ∃ k, estoverslaw20_ProtectionWider.f k l v x = some true := by
  obtain ⟨K, hK⟩ := awake_ev
  obtain ⟨K1, H1⟩ := check19_ev l
  dsimp only at hK H1
  have hj : ∀ k, K + 1 ≤ k → estoverslaw20_ProtectionWider.j0 k l v x true = some true := by
    intro k hk
    obtain ⟨m, rfl⟩ : ∃ m, k = m + 1 := ⟨k - 1, by omega⟩
    simp only [estoverslaw20_ProtectionWider.j0]
    rw [if_pos (by trivial), hK m (by omega)]
    rfl
  by_cases c : chk l = 0 ∧ v.length = l.length ∧ 0 ≤ x ∧ x < (l.length : Int)
  · obtain ⟨c0, c1, hx0, hx1⟩ := c
    have hV := (chk_zero l).1 c0
    obtain ⟨K2, H2⟩ := wider_l0 l v x hV c1 hx0 hx1 (fun hl => by
      have hL : LvOk l v := ⟨hV, c1, fun j h0 h1 => by
        have a := hl j h0 (by omega)
        have b := (hV.amts j h0 (by omega)).1
        unfold amt at b ⊢
        omega⟩
      obtain ⟨q, _, _, hq, _⟩ := sums_ev l v hL
      exact (wider_l1 l v q x hL hq hl hx0 hx1).2 x hx0 hx1 Anc.here false (fun h => by cases h)) l.length 0 (by omega) (by omega) (fun j h0 h1 => by omega)
    dsimp only at H2
    refine ⟨K + K1 + K2 + 1, ?_⟩
    unfold estoverslaw20_ProtectionWider.f
    rw [hK _ (by omega), H1 _ (by omega)]
    simp only [Option.bind_some]
    rw [if_pos (by trivial), if_pos c0, if_pos (by omega), if_neg (by omega), decide_eq_false (by omega)]
    simp only [estoverslaw20_ProtectionWider.j0]
    rw [if_neg (by simp)]
    exact H2 _ (by omega)
  · refine ⟨K + K1 + 1, ?_⟩
    unfold estoverslaw20_ProtectionWider.f
    rw [hK _ (by omega), H1 _ (by omega)]
    simp only [Option.bind_some]
    rw [if_pos (by trivial)]
    by_cases c1 : chk l = 0
    · rw [if_pos c1]
      by_cases c2 : (v.length : Int) = (l.length : Int)
      · rw [if_pos c2]
        by_cases c3 : x < 0
        · rw [if_pos c3]; exact hj _ (by omega)
        · rw [if_neg c3, decide_eq_true (Classical.byContradiction fun h => c ⟨c1, by omega, by omega, by omega⟩)]; exact hj _ (by omega)
      · rw [if_neg c2]; exact hj _ (by omega)
    · rw [if_neg c1]; exact hj _ (by omega)
end Go.Proofs.Ytilcbkengmggdaa.Pr
