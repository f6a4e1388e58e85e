/- The plain statement of ProtectionOpens: where no account promises too much and more is left in a scope than is guaranteed, some account has pages that may be taken. -/
import Derived.Test.YtilcbkengmggdaaQg
import Derived.Test.YtilcbkengmggdaaQh
import Derived.Test.YtilcbkengmggdaaQj
import Derived.Test.YtilcbkengmggdaaFestoverslaw20ProtectionOpens
import Derived.Test.YtilcbkengmggdaaM2
set_option linter.unusedVariables false
set_option linter.unusedSimpArgs false
namespace Go.Proofs.Ytilcbkengmggdaa.Pr
open Go.RowKit Go.Proofs.YtilcbkengmggdaaW.PrintWords Go.Proofs.YtilcbkengmggdaaW.PrintLast Go.Proofs.YtilcbkengmggdaaW.PrintMore
theorem ks_sub (l : List S41) (f g : Int → Int) (x : Int) : ∀ m : Nat, ks l (fun j => f j - g j) x m = ks l f x m - ks l g x m
  | 0 => by rw [ks_zero', ks_zero', ks_zero']; rfl
  | m + 1 => by
    rw [ks_succ, ks_succ, ks_succ, ks_sub l f g x m]
    by_cases c : 1 ≤ m ∧ (rd_T41 l m).f0 = x
    · rw [if_pos c, if_pos c, if_pos c]; omega
    · rw [if_neg c, if_neg c, if_neg c]; omega
theorem Anc.between {l : List S41} (ht : TreeFrom l 0) {x y c : Int} (hx : Anc l x c) (hy : Anc l y c) (hc : c < (l.length : Int)) (h : x ≤ y) : Anc l x y := by
  induction hy with
  | here => exact hx
  | up h1 h2 ih =>
    have htc := (ht _ (by omega) hc).2 h1
    rcases anc_iff.1 hx with e | ⟨_, e⟩
    · have := h2.le ht (by omega); omega
    · exact ih e (by omega)
theorem anc_trans {l : List S41} {x y c : Int} (hx : Anc l x y) (hy : Anc l y c) : Anc l x c := by
  induction hy with
  | here => exact hx
  | up h1 _ ih => exact Anc.up h1 ih
/-- what no account promises too much says -/
def NoOver (l : List S41) (fr : Int) : Prop := ∀ j, 0 ≤ j → j < (l.length : Int) → ¬ OverAt l fr j
theorem takes_exists {l : List S41} (hV : Valid l) {v q : List Int} (hL : LvOk l v) (hq : IsIn l v q) (hown : ∀ j : Int, 0 ≤ j → j < (l.length : Int) → rd v j ≤ ownOf l j) {fr : Int} (hno : NoOver l fr) : ∀ (d : Nat) (s : Int), 0 ≤ s → s < (l.length : Int) → (l.length : Int) - s ≤ d → (if s = 0 then fr else mi l s) < uu l s - rd q s → ∃ j, 0 ≤ j ∧ j < (l.length : Int) ∧ Anc l s j ∧ Takes l v q s j := by
  intro d
  induction d with
  | zero => intro s h0 h1 h2; omega
  | succ d ih =>
    intro s h0 h1 h2 hr
    have hm : mx s 0 = s := by unfold mx; split <;> omega
    by_cases c : rd v s < ownOf l s
    · refine ⟨s, h0, h1, Anc.here, c, ?_⟩
      rw [hm, gd_end hV.tree h1 (by omega)]
      exact fun h => h rfl
    · have hs := hown s h0 h1
      have hqs := hq.2 s h0 h1
      have hover := hno s h0 h1
      -- some child has more left than it is promised
      have hch : ∃ c : Int, 1 ≤ c ∧ c < (l.length : Int) ∧ (rd_T41 l c).f0 = s ∧ mi l c < uu l c - rd q c := by
        refine Classical.byContradiction fun hn => ?_
        have hle := ks_le l (f := fun j => uu l j - rd q j) (g := mi l) s l.length (fun j h3 h4 h5 => Classical.byContradiction fun h6 => hn ⟨j, h3, h4, h5, by omega⟩)
        rw [ks_sub] at hle
        unfold ownOf at c hs
        unfold OverAt at hover
        by_cases e : s = 0
        · rw [if_pos e] at hr; omega
        · rw [if_neg e] at hr; omega
      obtain ⟨c, hc1, hc2, hc3, hc4⟩ := hch
      have htc := (hV.tree c (by omega) hc2).2 (by omega)
      obtain ⟨j, hj0, hj1, hja, hjt⟩ := ih c (by omega) hc2 (by omega) (by rw [if_neg (by omega)]; exact hc4)
      have hsc : Anc l s c := Anc.up (by omega) (by rw [hc3]; exact Anc.here)
      refine ⟨j, hj0, hj1, anc_trans hsc hja, hjt.1, ?_⟩
      have hmc : mx c 0 = c := by unfold mx; split <;> omega
      have hn := hjt.2
      rw [hmc] at hn
      rw [hm]
      rintro (⟨y, hy1, hy2, hy3⟩ | h)
      · by_cases e : c < y
        · exact hn (Or.inl ⟨y, hy1, e, hy3⟩)
        · have hyc := Anc.between hV.tree hy1 hja hj1 (by omega)
          rcases anc_iff.1 hyc with e2 | ⟨_, e2⟩
          · rw [e2] at hy3
            unfold GP at hy3
            simp only [Bool.false_eq_true, if_false] at hy3
            unfold uu mi at hc4
            omega
          · have := e2.le hV.tree (by omega); omega
      · exact h (anc_trans hsc hja)
theorem opens_l1 (l : List S41) (v q : List Int) (fr : Int) (hL : LvOk l v) (hq : IsIn l v q) (hqb : ∀ x : Int, 0 ≤ x → x < (l.length : Int) → 0 ≤ rd q x ∧ rd q x ≤ 268435456) (hown : ∀ j : Int, 0 ≤ j → j < (l.length : Int) → rd v j ≤ ownOf l j) (hno : NoOver l fr) : ∀ (d : Nat) (s : Int), 0 ≤ s → s + d = (l.length : Int) → Ev (fun k => estoverslaw20_ProtectionOpens.l1 k l v fr q (l.length : Int) s) true := by
  intro d
  have hV := hL.1
  have h8 := hV.len8
  have hql := hq.1
  have hvl := hL.2.1
  induction d with
  | zero => intro s h0 hi; exact ev1 0 (fun k _ => by simp only [estoverslaw20_ProtectionOpens.l1]; rw [if_neg (by omega)])
  | succ d ih =>
    intro s h0 hi
    have hlt : s < (l.length : Int) := by omega
    obtain ⟨K, hK⟩ := ih (s + 1) (by omega) (by omega)
    have hu := (hV.amts s h0 hlt).1
    unfold amt at hu
    have hqs := hqb s h0 hlt
    have w : wrap64 ((rd_T41 l s).f1 - rd q s) = (rd_T41 l s).f1 - rd q s := wr64 (by omega) (by omega)
    have j6 : ∀ k, K + 1 ≤ k → estoverslaw20_ProtectionOpens.j6 k l v fr q (l.length : Int) s false = some true := by
      intro k hk
      obtain ⟨m, rfl⟩ : ∃ m, k = m + 1 := ⟨k - 1, by omega⟩
      simp only [estoverslaw20_ProtectionOpens.j6]
      rw [if_neg (by simp), wr64 (by omega) (by omega)]
      exact hK m (by omega)
    have j5 : ∀ fl : Int, fl = (if s = 0 then fr else mi l s) → Ev (fun k => estoverslaw20_ProtectionOpens.j5 k l v fr q s fl (l.length : Int) s) true := by
      intro fl hfl
      by_cases c : (rd_T41 l s).f1 - rd q s ≤ fl
      · refine ev1 K (fun k hk => ?_)
        simp only [estoverslaw20_ProtectionOpens.j5]
        rw [if_pos h0, if_pos hlt, if_pos (by omega), w, if_pos c, wr64 (by omega) (by omega)]
        exact hK k hk
      · obtain ⟨j, hj0, hj1, _, hjt⟩ := takes_exists hV hL hq hown hno l.length s h0 hlt (by omega) (by rw [← hfl]; unfold uu; omega)
        obtain ⟨r, ⟨K1, H1⟩, _, hr⟩ := open_ev l v s
        have hr := hr q hL (by omega) hlt hq
        obtain ⟨hr0, hr1, hrt⟩ : 0 ≤ r ∧ r < (l.length : Int) ∧ Takes l v q s r := by
          rcases hr with ⟨_, h⟩ | h
          · exact absurd hjt (h j hj0 hj1)
          · exact h
        obtain ⟨bi, ⟨K2, H2⟩, hbi⟩ := inside19_ev l r s
        have hm : mx s 0 = s := by unfold mx; split <;> omega
        have hanc : Anc l s r := Classical.byContradiction fun h => hrt.2 (Or.inr (by rw [hm]; exact h))
        obtain rfl := hbi.2 ⟨⟨hV, hr0, hr1⟩, Or.inr hanc⟩
        obtain ⟨_, ⟨K3, H3⟩⟩ := Own_ev l hV r hr0 hr1
        obtain ⟨g, ⟨K4, H4⟩, _, _, hg⟩ := guarded_ev l v r s false
        have hg := hg q hL ⟨hr0, hr1, by omega, hlt⟩ hq
        have hgf : g = false := by
          cases g with
          | true => exact absurd (hg.1 rfl) hrt.2
          | false => rfl
        subst hgf
        dsimp only at H1 H2 H3 H4
        have ht1 := hrt.1
        refine ev1 (K + K1 + K2 + K3 + K4 + 1) (fun k hk => ?_)
        simp only [estoverslaw20_ProtectionOpens.j5]
        rw [if_pos h0, if_pos hlt, if_pos (by omega), w, if_neg c, H1 k (by omega)]
        simp only [Option.bind_some]
        rw [if_neg (by omega), if_neg (by omega), H2 k (by omega)]
        simp only [Option.bind_some]
        rw [if_pos (by trivial), H3 k (by omega)]
        simp only [Option.bind_some]
        rw [if_pos hr0, if_pos (by omega), if_neg (by omega), H4 k (by omega)]
        simp only [Option.bind_some]
        exact j6 k (by omega)
    by_cases c : s = 0
    · obtain ⟨K2, H2⟩ := j5 fr (by rw [if_pos c])
      refine ev1 K2 (fun k hk => ?_)
      simp only [estoverslaw20_ProtectionOpens.l1]
      rw [if_pos hlt, if_pos h0, if_pos hlt, if_pos c]
      exact H2 k hk
    · obtain ⟨K2, H2⟩ := j5 (mi l s) (by rw [if_neg c])
      refine ev1 K2 (fun k hk => ?_)
      simp only [estoverslaw20_ProtectionOpens.l1]
      rw [if_pos hlt, if_pos h0, if_pos hlt, if_neg c]
      exact H2 k hk
theorem opens_tail (l : List S41) (v : List Int) (fr : Int) (hV : Valid l) (hvl : v.length = l.length) (hown : ∀ j : Int, 0 ≤ j → j < (l.length : Int) → 0 ≤ rd v j ∧ rd v j ≤ ownOf l j) : ∃ K, ∀ k, K ≤ k → ((protection_Overcommit.f k l fr).bind fun bt372 => (if bt372.2 = 0 then (estoverslaw20_ProtectionOpens.j3 k l v fr (bt372.1 != (-1))) else (estoverslaw20_ProtectionOpens.j3 k l v fr true))) = some true := by
  have hL : LvOk l v := ⟨hV, hvl, fun j h0 h1 => by
    have a := hown j h0 (by omega)
    have b := ownOf_bd hV h0 (by omega)
    exact ⟨a.1, by omega⟩⟩
  obtain ⟨r, e, ⟨K1, H1⟩, _, hr⟩ := overcommit_ev l fr
  dsimp only at H1
  have jt : ∀ k, 1 ≤ k → estoverslaw20_ProtectionOpens.j3 k l v fr true = some true := by
    intro k hk
    obtain ⟨m, rfl⟩ : ∃ m, k = m + 1 := ⟨k - 1, by omega⟩
    simp only [estoverslaw20_ProtectionOpens.j3]
    rw [if_pos (by trivial)]
  by_cases c : e = 0
  · by_cases c2 : r = -1
    · obtain ⟨_, _, _, hres⟩ := hr c
      have hno : NoOver l fr := by
        rcases hres with ⟨_, h⟩ | ⟨h, _⟩
        · exact h
        · omega
      obtain ⟨b, ⟨K2, H2⟩, _, hb⟩ := valid_ev l v
      obtain rfl := hb.2 hL
      obtain ⟨q, ⟨K3, H3⟩, _, hq, hqb⟩ := sums_ev l v hL
      obtain ⟨K4, H4⟩ := opens_l1 l v q fr hL hq hqb (fun j h0 h1 => (hown j h0 h1).2) hno l.length 0 (by omega) (by omega)
      dsimp only at H2 H3 H4
      refine ⟨K1 + K2 + K3 + K4 + 1, fun k hk => ?_⟩
      rw [H1 k (by omega)]
      simp only [Option.bind_some]
      rw [if_pos c, c2, show ((-1 : Int) != -1) = false from rfl]
      obtain ⟨m, rfl⟩ : ∃ m, k = m + 1 := ⟨k - 1, by omega⟩
      simp only [estoverslaw20_ProtectionOpens.j3, protection_Inside.f]
      rw [if_neg (by simp), H2 m (by omega)]
      simp only [Option.bind_some]
      rw [if_pos (by trivial), H3 m (by omega)]
      simp only [Option.bind_some]
      rw [if_pos (by have := hq.1; omega)]
      exact H4 m (by omega)
    · refine ⟨K1 + 1, fun k hk => ?_⟩
      rw [H1 k (by omega)]
      simp only [Option.bind_some]
      rw [if_pos c, show (r != -1) = true by simpa using c2]
      exact jt k (by omega)
  · refine ⟨K1 + 1, fun k hk => ?_⟩
    rw [H1 k (by omega)]
    simp only [Option.bind_some]
    rw [if_neg c]
    exact jt k (by omega)
theorem opens_l0 (l : List S41) (v : List Int) (fr : Int) (hV : Valid l) (hvl : v.length = l.length) : ∀ (d : Nat) (i : Int), 0 ≤ i → i + d = (l.length : Int) → (∀ j, 0 ≤ j → j < i → 0 ≤ rd v j ∧ rd v j ≤ ownOf l j) → Ev (fun k => estoverslaw20_ProtectionOpens.l0 k l v fr (v.length : Int) i) true := by
  intro d
  have h8 := hV.len8
  induction d with
  | zero =>
    intro i h0 hi hd
    obtain ⟨K, hK⟩ := opens_tail l v fr hV hvl (fun j h1 h2 => hd j h1 (by omega))
    refine ev1 K (fun k hk => ?_)
    simp only [estoverslaw20_ProtectionOpens.l0]
    rw [if_neg (by omega)]
    exact hK k hk
  | succ d ih =>
    intro i h0 hi hd
    have hlt : i < (l.length : Int) := by omega
    obtain ⟨_, ⟨K1, H1⟩⟩ := Own_ev l hV i h0 hlt
    dsimp only at H1
    have jt : ∀ k, 1 ≤ k → estoverslaw20_ProtectionOpens.j2 k l v fr (v.length : Int) i true = some true := by
      intro k hk
      obtain ⟨m, rfl⟩ : ∃ m, k = m + 1 := ⟨k - 1, by omega⟩
      simp only [estoverslaw20_ProtectionOpens.j2]
      rw [if_pos (by trivial)]
    by_cases c : 0 ≤ rd v i ∧ rd v i ≤ ownOf l i
    · obtain ⟨K, hK⟩ := ih (i + 1) (by omega) (by omega) (fun j h1 h2 => by
        by_cases e : j = i
        · rw [e]; exact c
        · exact hd j h1 (by omega))
      refine ev1 (K + K1 + 1) (fun k hk => ?_)
      simp only [estoverslaw20_ProtectionOpens.l0]
      rw [if_pos (by omega), if_pos h0, if_pos (by omega), if_neg (by omega), H1 k (by omega)]
      simp only [Option.bind_some]
      rw [decide_eq_false (by omega)]
      obtain ⟨m, rfl⟩ : ∃ m, k = m + 1 := ⟨k - 1, by omega⟩
      simp only [estoverslaw20_ProtectionOpens.j2]
      rw [if_neg (by simp), wr64 (by omega) (by omega)]
      exact hK m (by omega)
    · refine ev1 (K1 + 1) (fun k hk => ?_)
      simp only [estoverslaw20_ProtectionOpens.l0]
      rw [if_pos (by omega), if_pos h0, if_pos (by omega)]
      by_cases c2 : rd v i < 0
      · rw [if_pos c2]; exact jt k (by omega)
      · rw [if_neg c2, H1 k (by omega)]
        simp only [Option.bind_some]
        rw [decide_eq_true (by omega)]
        exact jt k (by omega)
theorem opens_pure (l : List S41) (v : List Int) (fr : Int) : ∃ k, estoverslaw20_ProtectionOpens.f k l v fr = some true := by
  obtain ⟨K, hK⟩ := awake_ev
  obtain ⟨K1, H1⟩ := check19_ev l
  dsimp only at hK H1
  by_cases c : chk l = 0 ∧ v.length = l.length
  · have hV := (chk_zero l).1 c.1
    obtain ⟨K2, H2⟩ := opens_l0 l v fr hV c.2 l.length 0 (by omega) (by omega) (fun j h0 h1 => by omega)
    dsimp only at H2
    refine ⟨K + K1 + K2 + 1, ?_⟩
    unfold estoverslaw20_ProtectionOpens.f
    rw [hK _ (by omega), H1 _ (by omega)]
    simp only [Option.bind_some]
    rw [if_pos (by trivial), if_pos c.1, show ((v.length : Int) != (l.length : Int)) = false by simp [c.2]]
    simp only [estoverslaw20_ProtectionOpens.j0]
    rw [if_neg (by simp)]
    exact H2 _ (by omega)
  · have hj : ∀ k, K + 1 ≤ k → estoverslaw20_ProtectionOpens.j0 k l v fr true = some true := by
      intro k hk
      obtain ⟨m, rfl⟩ : ∃ m, k = m + 1 := ⟨k - 1, by omega⟩
      simp only [estoverslaw20_ProtectionOpens.j0]
      rw [if_pos (by trivial), hK m (by omega)]
      rfl
    refine ⟨K + K1 + 1, ?_⟩
    unfold estoverslaw20_ProtectionOpens.f
    rw [hK _ (by omega), H1 _ (by omega)]
    simp only [Option.bind_some]
    rw [if_pos (by trivial)]
    by_cases c1 : chk l = 0
    · rw [if_pos c1, show ((v.length : Int) != (l.length : Int)) = true by simp; omega]; exact hj _ (by omega)
    · rw [if_neg c1]; exact hj _ (by omega)
end Go.Proofs.Ytilcbkengmggdaa.Pr
