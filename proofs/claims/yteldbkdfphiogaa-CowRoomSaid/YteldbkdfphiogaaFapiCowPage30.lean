-- Written by a program of this session (a changed copy of the kit's printer). Not trusted: Lean checks it.
import Derived.Test.YteldbkdfphiogaaM0
namespace Go.Proofs.Yteldbkdfphiogaa.Pr
open Go.RowKit Go.Proofs.YteldbkdfphiogaaW.PrintWords Go.Proofs.YteldbkdfphiogaaW.PrintLast Go.Proofs.YteldbkdfphiogaaW.PrintMore
attribute [local go_sem] max2_int min2_int max_two min_two max_three min_three max_four min_four   -- for this text's walks alone
set_option linter.unusedVariables false
set_option linter.unusedSimpArgs false
/-! ### api_CowPage_30: function 30 -/
theorem maskN64 (a : Nat) (ha : a < 18446744073709551616) : bits .and .u64 (a : Int) 4294967295 = ((a % 4294967296 : Nat) : Int) := by
  have h := bits_and_u64_nat a 4294967295 ha (by omega)
  have e : a &&& 4294967295 = a % 4294967296 := Nat.and_two_pow_sub_one_eq_mod a 32
  rw [e] at h
  exact h
theorem wrapN64 (a : Nat) (ha : a < 18446744073709551616) : IntKind.u64.wrap (a : Int) = (a : Int) := by rw [IntKind.wrap_u64]; omega
theorem bits_Mul64_one (y : Nat) (hy : y ≤ 1000000) (w : World) : Calls Try.prog 61 #[.int .u64 1, .int .u64 y] w fun e w' => e = .returned (.tuple #[.int .u64 0, .int .u64 y]) ∧ w = w' := by
  have hy' : y < 18446744073709551616 := by omega
  have h1 : bits .and .u64 1 4294967295 = 1 := maskN64 1 (by omega)
  have h0 : bits .and .u64 0 4294967295 = 0 := maskN64 0 (by omega)
  have h2 := maskN64 y hy'
  have hy0 : y % 4294967296 = y := Nat.mod_eq_of_lt (by omega)
  rw [hy0] at h2
  have hy1 : (y : Int) / 4294967296 = 0 := by omega
  have hy2 : (1 : Int) / 4294967296 = 0 := by omega
  have hy3 : (0 : Int) / 4294967296 = 0 := by omega
  have b0 : (0 : Int) ≤ (y : Int) := by omega
  have b1 : (y : Int) ≤ 1000000 := by omega
  have hw := wrapN64 y hy'
  have hw0 : IntKind.u64.wrap 0 = 0 := wrapN64 0 (by omega)
  go_enter Try.func61, Try.ntmps61
  go_wp2
  try simp only [h1, Int.one_mul, hw, hy1, hw0, h0, hy3, Int.add_zero]
  go_ret2
  exact ⟨rfl, rfl⟩
theorem bits_Mul_one (y : Nat) (hy : y ≤ 1000000) (w : World) : Calls Try.prog 52 #[.int .u64 1, .int .u64 y] w fun e w' => e = .returned (.tuple #[.int .u64 0, .int .u64 y]) ∧ w = w' := by
  go_enter Try.func52, Try.ntmps52
  go_wp2_with (go_at_call 61; refine (bits_Mul64_one y hy _).mono ?_; rintro e w' ⟨rfl, rfl⟩)
  go_ret2
  exact ⟨rfl, rfl⟩
/-! ### copy between rows of elements of several cells -/
theorem run_copy_rows (w : World) (dT sT ty elem : TypeId) (g o dLen dCap : Nat) (a : Addr) (sLen sCap sz : Nat) (cur : Array Value) (t : TypeId) (cs : List Value)
    (hu : Try.prog.underlying dT = some (.slice elem)) (hs : (Try.prog.info? elem).map (·.size) = some sz)
    (hg : w.heap[g]? = some (.cells cur t (0, 0))) (hn : cs.length = Nat.min sLen dLen * sz)
    (hsrc : ∀ j v, cs[j]? = some v → w.cell? (a.add j) = some v) (hfit : o + cs.length ≤ cur.size) (h1 : ∀ v ∈ cs, v.oneCell' = true) :
    (Builtin.copy_ #[dT, sT] ty #[.slice (some ⟨g, o, none⟩) dLen dCap, .slice (some a) sLen sCap]).run Try.prog w =
      .ok (goInt (Nat.min sLen dLen)) (w.setRow g (cur.toList.take o ++ cs ++ cur.toList.drop (o + cs.length)).toArray) := by
  have hl := run_loadCells_list (P := Try.prog) w a cs hsrc
  have hst := run_storeCells_at Try.prog g o t cs 0 cur w hg (by simpa using hfit) h1
  cases hq : Try.prog.info? elem with
  | none => simp [hq] at hs
  | some i =>
    have hi : i.size = sz := by simpa [hq] using hs
    simp [Builtin.copy_, run_underlying hu, Builtin.lenOf, Builtin.firstCells, sizeOf, typeInfo, hq, hi, ← hn, hl, hst]
theorem exec_copy {o : Oper} {a : Act} {w : World} (d s : Operand) (ho : o.op = .call { callee := .builtin .copy, args := #[d, s], argTypes := #[60, 60] })
    (g off dLen dCap : Nat) (ad : Addr) (sLen sCap : Nat) (hd : a.eval d = .slice (some ⟨g, off, none⟩) dLen dCap) (hs : a.eval s = .slice (some ad) sLen sCap)
    (cur : Array Value) (t : TypeId) (hg : w.heap[g]? = some (.cells cur t (0, 0))) (cs : List Value) (hn : cs.length = Nat.min sLen dLen * 2)
    (hsrc : ∀ j v, cs[j]? = some v → w.cell? (ad.add j) = some v) (hfit : off + cs.length ≤ cur.size) (h1 : ∀ v ∈ cs, v.oneCell' = true) :
    (execOp a.eval o).run Try.prog w = .ok (.value (goInt (Nat.min sLen dLen))) (w.setRow g (cur.toList.take off ++ cs ++ cur.toList.drop (off + cs.length)).toArray) := by
  have hrun := run_copy_rows w 60 60 o.type 64 g off dLen dCap ad sLen sCap 2 cur t cs Try.underlying60 (by kernel_rfl) hg hn hsrc hfit h1
  unfold execOp
  simp [ho, resolve, invoke, builtin, hd, hs, hrun, Result.andThen]
def pat (p : S64) : Nat → List Value
  | 0 => []
  | n + 1 => pat p n ++ [.int .i64 p.f0, .bool p.f1]
theorem pat_len (p : S64) : ∀ n, (pat p n).length = n * 2
  | 0 => rfl
  | n + 1 => by rw [pat, List.length_append, pat_len p n]; simp; omega
theorem pat_add (p : S64) (n : Nat) : ∀ m, pat p n ++ pat p m = pat p (n + m)
  | 0 => by simp [pat]
  | m + 1 => by rw [pat, ← List.append_assoc, pat_add p n m]; rfl
theorem pat_one (p : S64) : ∀ n, ∀ v ∈ pat p n, v.oneCell' = true
  | 0 => by simp [pat]
  | n + 1 => by
    intro v hv
    rw [pat, List.mem_append] at hv
    rcases hv with hv | hv
    · exact pat_one p n v hv
    · simp at hv
      rcases hv with rfl | rfl <;> rfl
theorem pat_take (p : S64) (n m : Nat) (h : m ≤ n) : (pat p n).take (m * 2) = pat p m := by
  obtain ⟨k, rfl⟩ : ∃ k, n = m + k := ⟨n - m, by omega⟩
  rw [← pat_add, List.take_append_of_le_length (by rw [pat_len]; omega), List.take_of_length_le (by rw [pat_len]; omega)]
theorem pat_elem (p : S64) (n j : Nat) (h : j < n) : ((pat p n).drop (j * 2)).take 2 = [.int .i64 p.f0, .bool p.f1] := by
  obtain ⟨k, rfl⟩ : ∃ k, n = j + (1 + k) := ⟨n - j - 1, by omega⟩
  rw [← pat_add, List.drop_append_of_le_length (by rw [pat_len]; omega), List.drop_of_length_le (by rw [pat_len]; omega), List.nil_append, ← pat_add, List.take_append_of_le_length (by rw [pat_len]; omega)]
  rfl
/-- A block that begins with n times p is n pages. -/
theorem rows_of_pat {w : World} {base g cap N : Nat} {cur : Array Value} {p : S64} (hb : base ≤ g) (hg : w.heap[g]? = some (.cells cur 64 (0, 0))) (hN : N ≤ cap) (hc : cap ≤ maxLen) (hs : cur.size = cap * 2) (ht : cur.toList.take (N * 2) = pat p N) :
    Kd.R k64 64 w base (fun _ => True) (.slice (some ⟨g, 0, none⟩) N cap) (List.replicate N p) := by
  refine ⟨fun _ _ => trivial, pat p N, ⟨by rw [List.length_replicate]; exact pat_len p N, .inr ⟨g, cap, cur, by rw [List.length_replicate], hb, hg, by rw [List.length_replicate]; exact hN, hc, hs, by rw [List.length_replicate]; exact ht⟩⟩, by rw [List.length_replicate]; exact pat_len p N, fun j q hj => ?_⟩
  have hjN : j < N := by have := (List.getElem?_eq_some_iff.1 hj).1; rwa [List.length_replicate] at this
  rw [List.getElem?_replicate, if_pos hjN] at hj
  obtain rfl := Option.some.inj hj
  show k64.M w base _ p (((pat p N).drop (j * 2)).take 2)
  rw [pat_elem p N j hjN]
  exact k64_mkM _ _ _ p
def api_CowPage_30.f (l0 : List S64) (a1 : Int) : Option (List S64) := if l0.length = 1 ∧ 1 ≤ a1 ∧ a1 ≤ 512 then some (List.replicate a1.toNat (rd_T64 l0 0)) else none
theorem copy_step {w0 w1 : World} {g cap n m : Nat} {cur : Array Value} (p : S64) (hG : w1.heap[g]? = some (.cells cur 64 (0, 0))) (hs : cur.size = cap * 2) (hb : Below w0.heap.size w0 w1) (hgb : w0.heap.size ≤ g) (ht : cur.toList.take (n * 2) = pat p n) (hfit : n + m ≤ cap) :
    ∃ cur' : Array Value, (w1.setRow g (cur.toList.take (n * 2) ++ pat p m ++ cur.toList.drop (n * 2 + (pat p m).length)).toArray).heap[g]? = some (.cells cur' 64 (0, 0)) ∧ cur'.size = cap * 2 ∧ cur'.toList.take ((n + m) * 2) = pat p (n + m) ∧ Below w0.heap.size w0 (w1.setRow g (cur.toList.take (n * 2) ++ pat p m ++ cur.toList.drop (n * 2 + (pat p m).length)).toArray) := by
  refine ⟨_, setRow_heap w1 g _ _ 64 _ hG, ?_, ?_, below_setRow hb hgb _⟩
  · have hl : cur.toList.length = cap * 2 := by simpa using hs
    simp only [List.size_toArray, List.length_append, List.length_take, List.length_drop, pat_len, hl]
    omega
  · show (cur.toList.take (n * 2) ++ pat p m ++ cur.toList.drop (n * 2 + (pat p m).length)).take ((n + m) * 2) = _
    rw [ht, pat_add, List.take_append_of_le_length (by rw [pat_len]; omega), List.take_of_length_le (by rw [pat_len]; omega)]
theorem pat_src {w1 : World} {g n m : Nat} {cur : Array Value} (p : S64) (hG : w1.heap[g]? = some (.cells cur 64 (0, 0))) (ht : cur.toList.take (n * 2) = pat p n) (hm : m ≤ n) : ∀ (j : Nat) (v : Value), (pat p m)[j]? = some v → w1.cell? ((⟨g, 0, none⟩ : Addr).add j) = some v := by
  intro j v hj
  rw [add_plain, blk_cell hG j, ← Array.getElem?_toList]
  have h1 : (cur.toList.take (m * 2))[j]? = some v := by
    rw [show m * 2 = min (m * 2) (n * 2) by omega, ← List.take_take, ht, pat_take p n m hm]
    exact hj
  rw [List.getElem?_take] at h1
  split at h1
  · exact h1
  · cases h1
section
variable {ops : Array Oper} {rest : List Oper} {o : Oper} {a : Act} {Q : Exit → Act → World → Prop} {Kc : Act → World → Prop} {w0 w1 : World} {g cap n m dLen dCap sLen sCap : Nat} {cur : Array Value} {ad : Addr}
/-- copy of m pages that read as p, behind n pages p of the block. -/
theorem copy_pat (p : S64) (d s : Operand) (hgd : o.guard = none) (ho : o.op = .call { callee := .builtin .copy, args := #[d, s], argTypes := #[60, 60] }) (hd : a.eval d = .slice (some ⟨g, n * 2, none⟩) dLen dCap) (hs : a.eval s = .slice (some ad) sLen sCap) (hm : m = Nat.min sLen dLen)
    (hG : w1.heap[g]? = some (.cells cur 64 (0, 0))) (hz : cur.size = cap * 2) (hb : Below w0.heap.size w0 w1) (hgb : w0.heap.size ≤ g) (ht : cur.toList.take (n * 2) = pat p n) (hfit : n + m ≤ cap) (hsrc : ∀ j v, (pat p m)[j]? = some v → w1.cell? (ad.add j) = some v)
    (h : ∀ (w2 : World) (cur1 : Array Value), w2.heap[g]? = some (.cells cur1 64 (0, 0)) → cur1.size = cap * 2 → cur1.toList.take ((n + m) * 2) = pat p (n + m) → Below w0.heap.size w0 w2 → wpList Try.prog ops Q rest (a.put o.dst (.int .i64 m)) w2) : wpList Try.prog ops Q (o :: rest) a w1 := by
  obtain ⟨cur1, k1, k2, k3, k4⟩ := copy_step p hG hz hb hgb ht hfit
  refine Kd.event_run hgd (exec_copy d s ho g (n * 2) dLen dCap ad sLen sCap hd hs cur 64 hG (pat p m) (by rw [pat_len, hm]) hsrc (by rw [pat_len, hz]; omega) (pat_one p m)) ?_
  rw [← hm]
  exact h _ cur1 k1 k2 k3 k4
theorem copy_pat_step (p : S64) (d s : Operand) (hw : Region.wanted o (yielded ops a.tmps) = true) (ho : o.op = .call { callee := .builtin .copy, args := #[d, s], argTypes := #[60, 60] }) (hd : a.eval d = .slice (some ⟨g, n * 2, none⟩) dLen dCap) (hs : a.eval s = .slice (some ad) sLen sCap) (hm : m = Nat.min sLen dLen)
    (hG : w1.heap[g]? = some (.cells cur 64 (0, 0))) (hz : cur.size = cap * 2) (hb : Below w0.heap.size w0 w1) (hgb : w0.heap.size ≤ g) (ht : cur.toList.take (n * 2) = pat p n) (hfit : n + m ≤ cap) (hsrc : ∀ j v, (pat p m)[j]? = some v → w1.cell? (ad.add j) = some v)
    (h : ∀ (w2 : World) (cur1 : Array Value), w2.heap[g]? = some (.cells cur1 64 (0, 0)) → cur1.size = cap * 2 → cur1.toList.take ((n + m) * 2) = pat p (n + m) → Below w0.heap.size w0 w2 → Kc (a.put o.dst (.int .i64 m)) w2) : if Region.wanted o (yielded ops a.tmps) = true then Oper.wp Try.prog o a w1 Kc Q else Kc (a.put o.dst undef) w1 := by
  obtain ⟨cur1, k1, k2, k3, k4⟩ := copy_step p hG hz hb hgb ht hfit
  refine event_step hw (exec_copy d s ho g (n * 2) dLen dCap ad sLen sCap hd hs cur 64 hG (pat p m) (by rw [pat_len, hm]) hsrc (by rw [pat_len, hz]; omega) (pat_one p m)) ?_
  rw [← hm]
  exact h _ cur1 k1 k2 k3 k4
end
set_option maxRecDepth 100000 in
set_option maxHeartbeats 4000000 in
theorem api_CowPage_30.calls (A0 : Option Addr) (c0 : Nat) (l0 : List S64) (a1 : Int) (r : List S64) (w : World) (hr0 : Kd.C k64 w A0 l0.length l0) (hc0 : l0.length ≤ c0) (h : api_CowPage_30.f l0 a1 = some r) :
    Calls Try.prog 30 #[.slice A0 l0.length c0, .int .i64 a1] w fun e w' => ∃ v0_ : Value, e = .returned (v0_) ∧ Kd.R k64 64 w' w.heap.size (fun _ => True) v0_ r ∧ Below w.heap.size w w' := by
  unfold api_CowPage_30.f at h
  split at h
  case isFalse => cases h
  rename_i hc
  obtain ⟨hl1, hn1, hn2⟩ := hc
  obtain rfl := Option.some.inj h
  obtain ⟨N, rfl⟩ := Int.eq_ofNat_of_zero_le (by omega : 0 ≤ a1)
  obtain ⟨x, rfl⟩ : ∃ x, l0 = [x] := by
    cases l0 with
    | nil => simp at hl1
    | cons x xs => cases xs with
      | nil => exact ⟨x, rfl⟩
      | cons y ys => simp at hl1
  clear h hl1
  obtain ⟨ad, rfl, hh⟩ := hr0.2.2 (by simp)
  obtain ⟨c, hcl, hK, hcell⟩ := hh 0 x rfl
  obtain rfl := k64_open hK
  have HSRC := Aside0.mk (show ∀ (j : Nat) (v : Value), (pat x 1)[j]? = some v → w.cell? (ad.add j) = some v from fun j v hj => by
    have := hcell j v hj
    rw [Nat.zero_mul, Nat.zero_add] at this
    exact this)
  clear hcell hK hcl hh hr0 hc0
  rw [show rd_T64 [x] 0 = x from rfl, show ((N : Int)).toNat = N from rfl]
  have b0 : (0 : Int) ≤ (N : Int) := by omega
  have hN1 : 1 ≤ N := by omega
  have hN2 : N ≤ 512 := by omega
  have e0 : decide ((N : Int) < 0) = false := decide_eq_false (by omega)
  have hu60 := Try.underlying60
  have hu64 := Try.underlying64
  simp only [List.length_cons, List.length_nil, Nat.zero_add]
  go_enter Try.func30, Try.ntmps30
  go_upto_region 7 with (first | (go_at_call 52; refine (bits_Mul_one N (by omega) _).mono ?_; rintro e w' ⟨rfl, rfl⟩) | ((with_reducible refine gate_dst (N := 30) rfl ?_); refine Kd.R_make k64 (w0 := w) w.heap.size 64 rfl (N := 30) rfl 60 _ _ rfl (N : Int) rfl rfl Try.underlying60 (.agg #[(.int .i64 0), (.bool false)]) 16 info64 rfl (by decide) (by decide) z64 (ok := fun _ => True) (okp := fun _ => True) (k64_mkM _ _ _ z64) (fun _ hk => hk) trivial b0 (by show N * 16 ≤ _; omega) (Below.refl _ _) (Nat.le_refl _) ?_; intro v1 w1 ho hb hg_ hnew_; clear hg_ hnew_; obtain ⟨inner, hown⟩ := Kd.R_own ho; simp only [Int.toNat_natCast, List.length_replicate] at hown; obtain ⟨_, hown⟩ := hown; obtain ⟨g, cap, cur, rfl, hgb, hgh, hgn, hgm, hgs, hgt⟩ := hown.resolve_left (fun h => by omega); have HG := Aside0.mk hgh; have HGS := Aside0.mk (show cur.size = cap * 2 from hgs); have HGB := Aside0.mk hgb; have HGM := Aside0.mk hgm; have HBL := Aside0.mk hb; clear ho hown hgh hgs hgt hgb hb hgm))
  go_wp2_with ((with_reducible refine gate_dst (N := 33) rfl ?_); refine copy_pat (w0 := w) (n := 0) (m := 1) x (.tmp 31) (.tmp 32) rfl rfl rfl rfl (show 1 = min 1 N by omega) HG.out HGS.out HBL.out HGB.out (by simp [pat]) (by omega) (fun j v hj => (HBL.out.cell (World.block_lt_of_cell? _ _ (HSRC.out j v hj))).trans (HSRC.out j v hj)) ?_; intro W2 cur1 k1 k2 k3 k4; have n1 := Aside0.mk k1; have n2 := Aside0.mk k2; have n3 := Aside0.mk k3; have n4 := Aside0.mk k4; clear HG HGS HBL HSRC k1 k2 k3 k4)
  go_loopw [8] (fun v8 wr => ∃ (n : Nat) (cur : Array Value), v8 = .int .i64 n ∧ 1 ≤ n ∧ n ≤ N ∧ Aside0 (wr.heap[g]? = some (.cells cur 64 (0, 0))) ∧ Aside0 (cur.size = cap * 2) ∧ Aside0 (cur.toList.take (n * 2) = pat x n) ∧ Aside0 (Below w.heap.size w wr)) (fun v _ => N - (intOf v).toNat)
  case atStart => exact ⟨1, cur1, by rfl, Nat.le_refl _, hN1, n1, n2, n3, n4⟩
  case round =>
    clear n1 n2 n3 n4
    rename_i wr
    obtain ⟨n, cur, rfl, hn1, hn2, HG, HGS, HGT, HBL⟩ := hrel
    by_cases hlt : n < N
    · have f0 : (0 : Int) ≤ (n : Int) := by omega
      have f1 : (n : Int) < (N : Int) := by omega
      have hcut1 : ∀ W, (Instr.slice 60 (.slice (some ⟨g, 0, none⟩) N cap) (some (.int .i64 n)) none none).run Try.prog W = .ok (.slice (some ⟨g, n * 2, none⟩) (N - n) (cap - n)) W := by
        intro W
        have hel : Try.prog.elem 60 = 64 := by kernel_rfl
        have hu : Try.prog.underlying 60 = some (.slice (Try.prog.elem 60)) := by rw [hel]; exact Try.underlying60
        obtain ⟨i0, hi, hzz⟩ := Option.map_eq_some_iff.1 info64
        simp only [Prod.mk.injEq] at hzz
        rw [run_slice_l W 60 (some ⟨g, 0, none⟩) N cap hu .i64 (n : Int) f0 (by omega), hel]
        have hne : ¬ cap = n := by omega
        simp [sizeOf, typeInfo, hi, hzz.2.1, sliced, Result.andThen, hne, add_plain]
      have hcut2 : ∀ W, (Instr.slice 60 (.slice (some ⟨g, 0, none⟩) N cap) none (some (.int .i64 n)) none).run Try.prog W = .ok (.slice (some ⟨g, 0, none⟩) n cap) W := by
        intro W
        have hel : Try.prog.elem 60 = 64 := by kernel_rfl
        have hu : Try.prog.underlying 60 = some (.slice (Try.prog.elem 60)) := by rw [hel]; exact Try.underlying60
        obtain ⟨i0, hi, hzz⟩ := Option.map_eq_some_iff.1 info64
        simp only [Prod.mk.injEq] at hzz
        rw [run_slice_h W 60 (some ⟨g, 0, none⟩) N cap hu .i64 (n : Int) f0 (by omega), hel]
        simp [sizeOf, typeInfo, hi, hzz.2.1, sliced, Result.andThen, add_plain]
      obtain ⟨m, hm⟩ : ∃ m, m = Nat.min n (N - n) := ⟨_, rfl⟩
      have hm1 : m ≤ n := by rw [hm]; exact Nat.min_le_left _ _
      have hm2 : m ≤ N - n := by rw [hm]; exact Nat.min_le_right _ _
      have hm3 : 1 ≤ m := by have : m = min n (N - n) := hm; omega
      have HMM := Aside0.mk hm
      clear hm
      go_upto_region 9 with (fail)
      refine start_ (n := 10) (S := fun _ => True) (ds := [7]) #[false, false, false, false, false, false, false, false, false, false] (by kernel_rfl) rfl rfl trivial (fun hHeld => ?_)
      refine pure_ (i := 0) (N := some 38) (v := ?_) (a' := ?_) #[true, false, false, false, false, false, false, false, false, false] rfl rfl (by kernel_rfl) (fun _ _ _ h => h) (Or.inl ⟨by rfl, ?_⟩) ?_ ?_
      rotate_left
      · intro w'
        go_simp
        with_reducible rfl
      rotate_left
      · simp only [Act.put, List.setIfInBounds_toArray, List.set_cons_zero, List.set_cons_succ, i64_w, i32_w]
        rfl
      refine pure_ (i := 1) (N := some 39) (v := ?_) (a' := ?_) #[true, true, false, false, false, false, false, false, false, false] rfl rfl (by kernel_rfl) (fun _ _ _ h => h) (Or.inl ⟨by rfl, ?_⟩) ?_ ?_
      rotate_left
      · intro w'
        go_simp
        with_reducible rfl
      rotate_left
      · simp only [Act.put, List.setIfInBounds_toArray, List.set_cons_zero, List.set_cons_succ, i64_w, i32_w]
        rfl
      refine pure_ (i := 2) (N := some 40) (v := ?_) (a' := ?_) #[true, true, true, false, false, false, false, false, false, false] rfl rfl (by kernel_rfl) (fun _ _ _ h => h) (Or.inl ⟨by rfl, ?_⟩) ?_ ?_
      rotate_left
      · intro w'
        go_simp
        with_reducible rfl
      rotate_left
      · simp only [Act.put, List.setIfInBounds_toArray, List.set_cons_zero, List.set_cons_succ, i64_w, i32_w]
        rfl
      refine pure_ (i := 3) (N := some 41) (v := ?_) (a' := ?_) #[true, true, true, true, false, false, false, false, false, false] rfl rfl (by kernel_rfl) (fun _ _ _ h => h) (Or.inl ⟨by rfl, ?_⟩) ?_ ?_
      rotate_left
      · intro w'
        go_simp
        with_reducible rfl
      rotate_left
      · simp only [Act.put, List.setIfInBounds_toArray, List.set_cons_zero, List.set_cons_succ, i64_w, i32_w]
        rfl
      refine pure_ (i := 4) (N := some 42) (v := ?_) (a' := ?_) #[true, true, true, true, true, false, false, false, false, false] rfl rfl (by kernel_rfl) (fun _ _ _ h => h) (Or.inl ⟨by rfl, ?_⟩) ?_ ?_
      rotate_left
      · intro w'
        go_simp
        with_reducible rfl
      rotate_left
      · simp only [Act.put, List.setIfInBounds_toArray, List.set_cons_zero, List.set_cons_succ, i64_w, i32_w]
        rfl
      refine pure_ (i := 5) (N := some 43) (v := ?_) (a' := ?_) #[true, true, true, true, true, true, false, false, false, false] rfl rfl (by kernel_rfl) (fun _ _ _ h => h) (Or.inl ⟨by rfl, ?_⟩) ?_ ?_
      rotate_left
      · intro w'
        go_simp
        with_reducible rfl
      rotate_left
      · simp only [Act.put, List.setIfInBounds_toArray, List.set_cons_zero, List.set_cons_succ, i64_w, i32_w]
        rfl
      refine pure_ (i := 6) (N := some 44) (v := ?_) (a' := ?_) #[true, true, true, true, true, true, true, false, false, false] rfl rfl (by kernel_rfl) (fun _ _ _ h => h) (Or.inl ⟨by rfl, ?_⟩) ?_ ?_
      rotate_left
      · intro w'
        go_simp
        with_reducible rfl
      rotate_left
      · simp only [Act.put, List.setIfInBounds_toArray, List.set_cons_zero, List.set_cons_succ, i64_w, i32_w]
        rfl
      refine last_ (i := 7) (N := some 45) #[true, true, true, true, true, true, true, true, false, false] rfl rfl (by kernel_rfl) (by decide) (fun K hK => ?_)
      refine copy_pat_step (w0 := w) (n := n) (m := m) x (.tmp 41) (.tmp 44) (by rfl) rfl rfl rfl HMM.out (blk_drew HG.out) HGS.out (below_drew HBL.out) HGB.out HGT.out (by omega) (pat_src x (blk_drew HG.out) HGT.out hm1) ?_
      intro w2 cur2 k1 k2 k3 k4
      refine hK.out _ _ ?_
      clear hK K
      refine norm_ (a' := ?_) ?_ ?_
      rotate_left
      · show Act.put _ (some 45) _ = _
        simp only [Act.put, List.setIfInBounds_toArray, List.set_cons_zero, List.set_cons_succ, i64_w, i32_w]
        rfl
      have n1 := Aside0.mk k1
      have n2 := Aside0.mk k2
      have n3 := Aside0.mk k3
      have n4 := Aside0.mk k4
      clear HG HGS HBL HGT k1 k2 k3 k4
      refine pure_ (i := 8) (N := some 46) (v := ?_) (a' := ?_) #[true, true, true, true, true, true, true, true, true, false] rfl rfl (by kernel_rfl) (fun _ _ _ h => h) (Or.inl ⟨by rfl, ?_⟩) ?_ ?_
      rotate_left
      · intro w'
        go_simp
        with_reducible rfl
      rotate_left
      · simp only [Act.put, List.setIfInBounds_toArray, List.set_cons_zero, List.set_cons_succ, i64_w, i32_w]
        rfl
      refine pure_ (i := 9) (N := some 8) (v := ?_) (a' := ?_) #[true, true, true, true, true, true, true, true, true, true] rfl rfl (by kernel_rfl) (fun _ _ _ h => h) (Or.inl ⟨by rfl, ?_⟩) ?_ ?_
      rotate_left
      · intro w'
        go_simp
        with_reducible rfl
      rotate_left
      · simp only [Act.put, List.setIfInBounds_toArray, List.set_cons_zero, List.set_cons_succ, i64_w, i32_w]
        rfl
      refine done_ (by kernel_rfl) ?_
      go_wp2
      have e1 : wrap64 ((n : Int) + (m : Int)) = ((n + m : Nat) : Int) := by unfold wrap64; omega
      refine ⟨⟨n + m, cur2, ?_, by omega, by omega, n1, n2, n3, n4⟩, ?_⟩
      · first | rfl | rw [e1] | go_num
      · first | (rw [e1]; simp [intOf]; omega) | (simp [intOf]; omega)
    · obtain rfl : n = N := by omega
      go_wp2
      go_ret
      exact ⟨_, rfl, rows_of_pat HGB.out HG.out hgn HGM.out HGS.out HGT.out, HBL.out⟩
end Go.Proofs.Yteldbkdfphiogaa.Pr
