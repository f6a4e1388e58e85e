/- CowAlone: the walk. -/
import Derived.Test.YteldbkdfphiogaaWp
import Derived.Test.YteldbkdfphiogaaCe
import Derived.OpenShut
set_option linter.unusedVariables false
set_option linter.unusedSimpArgs false
namespace Go.Proofs.Yteldbkdfphiogaa.Pr
open Go.RowKit Go.Proofs.YteldbkdfphiogaaW.PrintWords Go.Proofs.YteldbkdfphiogaaW.PrintLast Go.Proofs.YteldbkdfphiogaaW.PrintMore
attribute [local go_sem] max2_int min2_int max_two min_two max_three min_three max_four min_four
set_option maxRecDepth 100000 in
set_option maxHeartbeats 8000000 in
theorem estoverslaw25_CowAlone.short (A0 : Option Addr) (c0 : Nat) (l0 : List Int) (a1 : Int) (w : World) (h : 8 < l0.length∨l0.length = 0) : Calls Try.prog 3 #[.slice A0 l0.length c0,.int .u8 a1] w fun e w' => e = .returned (.bool true)∧Below w.heap.size w w':=by
  have hu27:=Try.underlying27
  have HB:=Aside0.mk (Below.refl w.heap.size w)
  by_cases h8 : 8 < l0.length
  · have e0 : decide (8 < (l0.length : Int)) = true:=decide_eq_true (by omega)
    have e1 : decide (8 < l0.length) = true:=decide_eq_true h8
    clear h h8
    go_enter Try.func3,Try.ntmps3
    go_wp2_with (first | ((with_reducible refine gate_callee (f:=10) rfl ?_);refine goesL_ (some 16) rfl rfl Try.func10 (by kernel_rfl) rfl #[] rfl (by (try simp only [List.map_toArray,List.map_cons,List.map_nil]);first | done | rfl) ?_;(with_reducible refine (estoverslaw25_awake.calls 0 true _ rfl).mono ?_);rintro e w9 ⟨rfl,hb9⟩;refine ⟨_,rfl,?_⟩;have nB:=Aside0.mk (below_step HB.out hb9);clear HB hb9;have HB:=nB;clear nB) | ((with_reducible refine gate_callee (f:=10) rfl ?_);refine goesL_ (some 28) rfl rfl Try.func10 (by kernel_rfl) rfl #[] rfl (by (try simp only [List.map_toArray,List.map_cons,List.map_nil]);first | done | rfl) ?_;(with_reducible refine (estoverslaw25_awake.calls 0 true _ rfl).mono ?_);rintro e w9 ⟨rfl,hb9⟩;refine ⟨_,rfl,?_⟩;have nB:=Aside0.mk (below_step HB.out hb9);clear HB hb9;have HB:=nB;clear nB))
    go_ret
    exact ⟨rfl,HB.out⟩
  · have h0 : l0.length = 0:=h.resolve_left h8
    rw [h0]
    clear h h8
    go_enter Try.func3,Try.ntmps3
    go_wp2_with (first | ((with_reducible refine gate_callee (f:=10) rfl ?_);refine goesL_ (some 16) rfl rfl Try.func10 (by kernel_rfl) rfl #[] rfl (by (try simp only [List.map_toArray,List.map_cons,List.map_nil]);first | done | rfl) ?_;(with_reducible refine (estoverslaw25_awake.calls 0 true _ rfl).mono ?_);rintro e w9 ⟨rfl,hb9⟩;refine ⟨_,rfl,?_⟩;have nB:=Aside0.mk (below_step HB.out hb9);clear HB hb9;have HB:=nB;clear nB) | ((with_reducible refine gate_callee (f:=10) rfl ?_);refine goesL_ (some 28) rfl rfl Try.func10 (by kernel_rfl) rfl #[] rfl (by (try simp only [List.map_toArray,List.map_cons,List.map_nil]);first | done | rfl) ?_;(with_reducible refine (estoverslaw25_awake.calls 0 true _ rfl).mono ?_);rintro e w9 ⟨rfl,hb9⟩;refine ⟨_,rfl,?_⟩;have nB:=Aside0.mk (below_step HB.out hb9);clear HB hb9;have HB:=nB;clear nB))
    go_ret
    exact ⟨rfl,HB.out⟩
set_option maxRecDepth 100000 in
set_option maxHeartbeats 8000000 in
theorem estoverslaw25_CowAlone.runs (A0 : Option Addr) (c0 : Nat) (l0 : List Int) (a1 : Int) (w : World) (hr0 : Kd.C (Kd.int .i64) w A0 l0.length l0) (h1 : 0 < l0.length) (h8 : l0.length≤8) (K : Nat) (hK8 : K≤8) (hK : Int.tmod (wrap64 a1) 8 = (K : Int)) (c d e : Nat→Mc) (hrun : AloneRun l0 K c d e) : Calls Try.prog 3 #[.slice A0 l0.length c0,.int .u8 a1] w fun e w' => e = .returned (.bool true)∧Below w.heap.size w w':=by
  have hu27:=Try.underlying27
  have HB:=Aside0.mk (Below.refl w.heap.size w)
  have HR0:=Aside0.mk hr0
  have HK:=Aside0.mk hK
  have HRUN:=Aside0.mk hrun
  clear hr0 hK hrun
  have e0 : decide (8 < (l0.length : Int)) = false:=decide_eq_false (by omega)
  have e1 : decide (8 < l0.length) = false:=decide_eq_false (by omega)
  have e2 : ((l0.length : Int) == 0) = false:=beq_eq_false_iff_ne.mpr (by omega)
  have e3 : wrap64 (2 * (l0.length : Int)) = 2 * (l0.length : Int):=by unfold wrap64;omega
  obtain ⟨kn,hn⟩:=HRUN.out.new
  have HNEW:=Aside0.mk hn
  clear hn
  go_enter Try.func3,Try.ntmps3
  go_upto_region 4 with (first | ((with_reducible refine gate_callee (f:=10) rfl ?_);refine goesL_ (some 16) rfl rfl Try.func10 (by kernel_rfl) rfl #[] rfl (by (try simp only [List.map_toArray,List.map_cons,List.map_nil]);first | done | rfl) ?_;(with_reducible refine (estoverslaw25_awake.calls 0 true _ rfl).mono ?_);rintro e w9 ⟨rfl,hb9⟩;refine ⟨_,rfl,?_⟩;have nB:=Aside0.mk (below_step HB.out hb9);clear HB hb9;have HB:=nB;clear nB) | ((with_reducible refine gate_callee (f:=11) rfl ?_);refine goesL_ (some 35) rfl rfl Try.func11 (by kernel_rfl) rfl #[.int .i64 (2 * (l0.length : Int)),.int .i64 (l0.length : Int)] rfl (by (try simp only [e3]);(try simp only [List.map_toArray,List.map_cons,List.map_nil]);first | done | rfl) ?_;(with_reducible refine (cow_New.calls kn (2 * (l0.length : Int)) (l0.length : Int) (c 0).1 (c 0).2.1 (c 0).2.2.1 (c 0).2.2.2 0 _ HNEW.out).mono ?_);rintro e w3 ⟨v1,v2,rfl,ho1,ho2,hb3⟩;refine ⟨_,rfl,?_⟩;obtain ⟨A1,c1,rfl⟩:=Kd.S_slice ho1;obtain ⟨A2,c2,rfl⟩:=Kd.R_slice ho2) | ((with_reducible refine gate_dst (N:=5) rfl ?_);refine box_event rfl (N:=5) rfl (cs:=#[.int .i64 0,.slice none 0 0,.slice none 0 0,.int .i64 0]) (t:=27) (by first | (go_simp;done) | (go_simp;rfl)) ?_;intro b hd0 w5 hbd hb5;have GD:=Aside0.mk (show w3.heap.size≤b by rw [hd0];exact Nat.le_refl _);clear hd0;have hq0:=(blk_cell hbd 0).trans rfl;have hq1:=(blk_cell hbd 1).trans rfl;have hq2:=(blk_cell hbd 2).trans rfl;have hq3:=(blk_cell hbd 3).trans rfl;have hqf:=fun j => blk_frozen hbd j))
  have hN:=MB.new (sz:=(c 0).1) (cp:=(c 0).2.2.2) HB.out hb3 ho1 ho2 GD.out hbd hb5 rfl
  have X:=Aside0.mk (show MX w _ b (c 0) from hN.1)
  have nB:=Aside0.mk hN.2.2
  clear HB hN hb3 ho1 ho2 GD hbd hb5 hq0 hq1 hq2 hq3 hqf
  have HB:=nB
  clear nB
  unfold set4 at HB X
  generalize (((w5.setCell ⟨b,0,none⟩ (.int .i64 (c 0).1)).setCell ⟨b,1,none⟩ (.slice A1 (c 0).2.1.length c1)).setCell ⟨b,2,none⟩ (.slice A2 (c 0).2.2.1.length c2)).setCell ⟨b,3,none⟩ (.int .i64 (c 0).2.2.2) = W1 at HB X ⊢
  go_wp2
  go_loopw [42] (fun v wr => ∃ j : Nat,v = .int .i64 j∧j≤l0.length∧Aside0 (MX w wr b (c j))∧Aside0 (Below w.heap.size w wr)) (fun v _ => l0.length - (intOf v).toNat)
  case atStart => exact ⟨0,rfl,Nat.zero_le _,X,HB⟩
  case round =>
    clear X HB
    rename_i wr
    obtain ⟨j,rfl,hj,X,HB⟩:=hrel
    by_cases hlt : j < l0.length
    · have f0 : (0 : Int)≤(j : Int):=by omega
      have f1 : (j : Int) < (l0.length : Int):=by omega
      obtain ⟨kw,hw⟩:=HRUN.out.wr1 j hlt
      have HW:=Aside0.mk hw
      clear hw
      obtain ⟨ad,ea,hx⟩:=Kd.at_int HR0.out (j : Int) f0 f1
      cases ea
      simp only [Int.toNat_natCast] at hx
      replace hx:=(HB.out.cell (World.block_lt_of_cell? w _ hx)).trans hx
      obtain ⟨B1,k1,B2,k2,hbk,hbm,hge⟩:=X.out.out
      have hcb0:=(blk_cell hbk 0).trans rfl
      have hcb1:=(blk_cell hbk 1).trans rfl
      have hcb2:=(blk_cell hbk 2).trans rfl
      have hcb3:=(blk_cell hbk 3).trans rfl
      go_wp2_with ((with_reducible refine gate_callee (f:=12) rfl ?_);refine goesL_ (some 51) rfl rfl Try.func12 (by kernel_rfl) rfl #[.agg #[.int .i64 (c j).1,.slice B1 (c j).2.1.length k1,.slice B2 (c j).2.2.1.length k2,.int .i64 (c j).2.2.2],.int .i64 0,.int .i64 (j : Int),.int .i64 (rd l0 (j : Int))] rfl (by (try simp only [List.map_toArray,List.map_cons,List.map_nil]);first | done | rfl) ?_;(with_reducible refine (cow_Write.calls kw (c j).1 _ _ (c j).2.1 _ _ (c j).2.2.1 (c j).2.2.2 (0) ((j : Int)) ((rd l0 (j : Int))) (c (j + 1)).1 (c (j + 1)).2.1 (c (j + 1)).2.2.1 (c (j + 1)).2.2.2 0 _ (Kd.S_reads' hbm.sp).2.2 (Kd.S_reads' hbm.sp).2.1 (Kd.R_reads' hbm.fr).2.2 (Kd.R_reads' hbm.fr).2.1 HW.out).mono ?_);rintro e w3 ⟨v1,v2,rfl,ho1,ho2,hb3⟩;refine ⟨_,rfl,?_⟩;obtain ⟨A1,c1,rfl⟩:=Kd.S_slice ho1;obtain ⟨A2,c2,rfl⟩:=Kd.R_slice ho2;clear hcb0 hcb1 hcb2 hcb3;have hdb0:=(blk_cell (blk_below hbk hb3) 0).trans rfl;have hdb1:=(blk_cell (blk_below hbk hb3) 1).trans rfl;have hdb2:=(blk_cell (blk_below hbk hb3) 2).trans rfl;have hdb3:=(blk_cell (blk_below hbk hb3) 3).trans rfl;have hdf:=fun j => blk_frozen (blk_below hbk hb3) j)
      have hN:=MB.put (sz':=(c (j + 1)).1) (cp':=(c (j + 1)).2.2.2) X.out HB.out hb3 ho1 ho2
      refine ⟨⟨j + 1,by first | rfl | go_num,hlt,⟨hN.1⟩,⟨hN.2⟩⟩,?_⟩
      simp [intOf]
      omega
    · have hje : j = l0.length:=by omega
      subst hje
      clear hlt hj
      have Y:=Aside0.mk (show MX w wr b (d 0) by rw [HRUN.out.cd];exact X.out)
      clear X
      go_wp2
      go_loopw [61] (fun v wr => ∃ j : Nat,v = .int .i64 j∧j≤K∧Aside0 (MX w wr b (d j))∧Aside0 (Below w.heap.size w wr)) (fun v _ => K - (intOf v).toNat)
      case atStart => exact ⟨0,rfl,Nat.zero_le _,Y,HB⟩
      case round =>
        clear Y HB
        rename_i wr
        obtain ⟨j,rfl,hj,X,HB⟩:=hrel
        by_cases hlt : j < K
        · have f0 : (0 : Int)≤(j : Int):=by omega
          have f1 : decide ((j : Int) < Int.tmod (wrap64 a1) 8) = true:=decide_eq_true (by rw [HK.out];omega)
          obtain ⟨m,ch,⟨kf,hf⟩,⟨kx,hxx⟩⟩:=HRUN.out.fe j hlt
          have HF:=Aside0.mk hf
          have HX:=Aside0.mk hxx
          clear hf hxx
          obtain ⟨B1,k1,B2,k2,hbk,hbm,hge⟩:=X.out.out
          have hcb0:=(blk_cell hbk 0).trans rfl
          have hcb1:=(blk_cell hbk 1).trans rfl
          have hcb2:=(blk_cell hbk 2).trans rfl
          have hcb3:=(blk_cell hbk 3).trans rfl
          go_upto_region 17 with (first | ((with_reducible refine gate_callee (f:=13) rfl ?_);refine goesL_ (some 65) rfl rfl Try.func13 (by kernel_rfl) rfl #[.agg #[.int .i64 (d j).1,.slice B1 (d j).2.1.length k1,.slice B2 (d j).2.2.1.length k2,.int .i64 (d j).2.2.2],.int .i64 0] rfl (by (try simp only [List.map_toArray,List.map_cons,List.map_nil]);first | done | rfl) ?_;(with_reducible refine (cow_Fork.calls kf (d j).1 _ _ (d j).2.1 _ _ (d j).2.2.1 (d j).2.2.2 (0) m.1 m.2.1 m.2.2.1 m.2.2.2 ch 0 _ (Kd.S_reads' hbm.sp).2.2 (Kd.S_reads' hbm.sp).2.1 (Kd.R_reads' hbm.fr).2.2 (Kd.R_reads' hbm.fr).2.1 HF.out).mono ?_);rintro e w3 ⟨v1,v2,rfl,ho1,ho2,hb3⟩;refine ⟨_,rfl,?_⟩;obtain ⟨A1,c1,rfl⟩:=Kd.S_slice ho1;obtain ⟨A2,c2,rfl⟩:=Kd.R_slice ho2;clear hcb0 hcb1 hcb2 hcb3;skip) | ((with_reducible refine gate_dst (N:=10) rfl ?_);refine box_event rfl (N:=10) rfl (cs:=#[.int .i64 0,.slice none 0 0,.slice none 0 0,.int .i64 0]) (t:=27) (by first | (go_simp;done) | (go_simp;rfl)) ?_;intro g hd0 w5 hbd hb5;have GD:=Aside0.mk (show w3.heap.size≤g by rw [hd0];exact Nat.le_refl _);clear hd0;have hq0:=(blk_cell hbd 0).trans rfl;have hq1:=(blk_cell hbd 1).trans rfl;have hq2:=(blk_cell hbd 2).trans rfl;have hq3:=(blk_cell hbd 3).trans rfl;have hqf:=fun j => blk_frozen hbd j))
          have hN:=MB.new (sz:=m.1) (cp:=m.2.2.2) HB.out hb3 ho1 ho2 GD.out hbd hb5 rfl
          have Y:=Aside0.mk (show MX w _ g m from hN.1)
          have n1:=Aside0.mk (X.out.below hN.2.1)
          have nB:=Aside0.mk hN.2.2
          clear HB hN hb3 ho1 ho2 GD hbd hb5 hq0 hq1 hq2 hq3 hqf X hbk hbm hge
          have HB:=nB
          have X:=n1
          clear nB n1
          unfold set4 at HB X Y
          generalize (((w5.setCell ⟨g,0,none⟩ (.int .i64 m.1)).setCell ⟨g,1,none⟩ (.slice A1 m.2.1.length c1)).setCell ⟨g,2,none⟩ (.slice A2 m.2.2.1.length c2)).setCell ⟨g,3,none⟩ (.int .i64 m.2.2.2) = W2 at HB X Y ⊢
          obtain ⟨B1,k1,B2,k2,hbk,hbm,_⟩:=Y.out.out
          have hcb0:=(blk_cell hbk 0).trans rfl
          have hcb1:=(blk_cell hbk 1).trans rfl
          have hcb2:=(blk_cell hbk 2).trans rfl
          have hcb3:=(blk_cell hbk 3).trans rfl
          obtain ⟨D1,l1,D2,l2,hbo,_,hge⟩:=X.out.out
          go_wp2_with ((with_reducible refine gate_callee (f:=14) rfl ?_);refine goesL_ (some 74) rfl rfl Try.func14 (by kernel_rfl) rfl #[.agg #[.int .i64 m.1,.slice B1 m.2.1.length k1,.slice B2 m.2.2.1.length k2,.int .i64 m.2.2.2],.int .i64 ch] rfl (by (try simp only [List.map_toArray,List.map_cons,List.map_nil]);first | done | rfl) ?_;(with_reducible refine (cow_Exit.calls kx m.1 _ _ m.2.1 _ _ m.2.2.1 m.2.2.2 (ch) (d (j + 1)).1 (d (j + 1)).2.1 (d (j + 1)).2.2.1 (d (j + 1)).2.2.2 0 _ (Kd.S_reads' hbm.sp).2.2 (Kd.S_reads' hbm.sp).2.1 (Kd.R_reads' hbm.fr).2.2 (Kd.R_reads' hbm.fr).2.1 HX.out).mono ?_);rintro e w3 ⟨v1,v2,rfl,ho1,ho2,hb3⟩;refine ⟨_,rfl,?_⟩;obtain ⟨A1,c1,rfl⟩:=Kd.S_slice ho1;obtain ⟨A2,c2,rfl⟩:=Kd.R_slice ho2;clear hcb0 hcb1 hcb2 hcb3;have hdb0:=(blk_cell (blk_below hbo hb3) 0).trans rfl;have hdb1:=(blk_cell (blk_below hbo hb3) 1).trans rfl;have hdb2:=(blk_cell (blk_below hbo hb3) 2).trans rfl;have hdb3:=(blk_cell (blk_below hbo hb3) 3).trans rfl;have hdf:=fun j => blk_frozen (blk_below hbo hb3) j)
          have hN:=MB.put (sz':=(d (j + 1)).1) (cp':=(d (j + 1)).2.2.2) X.out HB.out hb3 ho1 ho2
          refine ⟨⟨j + 1,by first | rfl | go_num,hlt,⟨hN.1⟩,⟨hN.2⟩⟩,?_⟩
          simp [intOf]
          omega
        · have hje : j = K:=by omega
          subst hje
          clear hlt hj
          have f1 : decide ((j : Int) < Int.tmod (wrap64 a1) 8) = false:=decide_eq_false (by rw [HK.out];omega)
          obtain ⟨ku,hu⟩:=HRUN.out.us1
          have HU:=Aside0.mk hu
          clear hu
          obtain ⟨B1,k1,B2,k2,hbk,hbm,hge⟩:=X.out.out
          have hcb0:=(blk_cell hbk 0).trans rfl
          have hcb1:=(blk_cell hbk 1).trans rfl
          have hcb2:=(blk_cell hbk 2).trans rfl
          have hcb3:=(blk_cell hbk 3).trans rfl
          go_wp2_with ((with_reducible refine gate_callee (f:=15) rfl ?_);refine goesL_ (some 81) rfl rfl Try.func15 (by kernel_rfl) rfl #[.agg #[.int .i64 (d j).1,.slice B1 (d j).2.1.length k1,.slice B2 (d j).2.2.1.length k2,.int .i64 (d j).2.2.2]] rfl (by (try simp only [List.map_toArray,List.map_cons,List.map_nil]);first | done | rfl) ?_;(with_reducible refine (cow_Used.calls ku (d j).1 _ _ (d j).2.1 _ _ (d j).2.2.1 (d j).2.2.2 (l0.length : Int) _ (Kd.S_reads' hbm.sp).2.2 (Kd.S_reads' hbm.sp).2.1 (Kd.R_reads' hbm.fr).2.2 (Kd.R_reads' hbm.fr).2.1 HU.out).mono ?_);rintro e w3 ⟨rfl,hb3⟩;refine ⟨_,rfl,?_⟩;clear hcb0 hcb1 hcb2 hcb3)
          have n1:=Aside0.mk (X.out.below hb3)
          have nB:=Aside0.mk (below_step HB.out hb3)
          clear HB X hb3 hbk hbm hge
          have HB:=nB
          have X:=Aside0.mk (show MX w w3 b (e 0) by rw [HRUN.out.de];exact n1.out)
          clear nB n1
          go_loopw [84] (fun v wr => ∃ j : Nat,v = .int .i64 j∧j≤l0.length∧Aside0 (MX w wr b (e j))∧Aside0 (Below w.heap.size w wr)) (fun v _ => l0.length - (intOf v).toNat)
          case atStart => exact ⟨0,rfl,Nat.zero_le _,X,HB⟩
          case round =>
            clear X HB
            rename_i wr
            obtain ⟨j,rfl,hj,X,HB⟩:=hrel
            by_cases hlt : j < l0.length
            · have f0 : (0 : Int)≤(j : Int):=by omega
              have f1 : (j : Int) < (l0.length : Int):=by omega
              obtain ⟨kw,hw⟩:=HRUN.out.wr2 j hlt
              have HW:=Aside0.mk hw
              clear hw
              obtain ⟨ad,ea,hx⟩:=Kd.at_int HR0.out (j : Int) f0 f1
              cases ea
              simp only [Int.toNat_natCast] at hx
              replace hx:=(HB.out.cell (World.block_lt_of_cell? w _ hx)).trans hx
              obtain ⟨B1,k1,B2,k2,hbk,hbm,hge⟩:=X.out.out
              have hcb0:=(blk_cell hbk 0).trans rfl
              have hcb1:=(blk_cell hbk 1).trans rfl
              have hcb2:=(blk_cell hbk 2).trans rfl
              have hcb3:=(blk_cell hbk 3).trans rfl
              go_wp2_with ((with_reducible refine gate_callee (f:=12) rfl ?_);refine goesL_ (some 93) rfl rfl Try.func12 (by kernel_rfl) rfl #[.agg #[.int .i64 (e j).1,.slice B1 (e j).2.1.length k1,.slice B2 (e j).2.2.1.length k2,.int .i64 (e j).2.2.2],.int .i64 0,.int .i64 (j : Int),.int .i64 (rd l0 (j : Int))] rfl (by (try simp only [List.map_toArray,List.map_cons,List.map_nil]);first | done | rfl) ?_;(with_reducible refine (cow_Write.calls kw (e j).1 _ _ (e j).2.1 _ _ (e j).2.2.1 (e j).2.2.2 (0) ((j : Int)) ((rd l0 (j : Int))) (e (j + 1)).1 (e (j + 1)).2.1 (e (j + 1)).2.2.1 (e (j + 1)).2.2.2 0 _ (Kd.S_reads' hbm.sp).2.2 (Kd.S_reads' hbm.sp).2.1 (Kd.R_reads' hbm.fr).2.2 (Kd.R_reads' hbm.fr).2.1 HW.out).mono ?_);rintro e w3 ⟨v1,v2,rfl,ho1,ho2,hb3⟩;refine ⟨_,rfl,?_⟩;obtain ⟨A1,c1,rfl⟩:=Kd.S_slice ho1;obtain ⟨A2,c2,rfl⟩:=Kd.R_slice ho2;clear hcb0 hcb1 hcb2 hcb3;have hdb0:=(blk_cell (blk_below hbk hb3) 0).trans rfl;have hdb1:=(blk_cell (blk_below hbk hb3) 1).trans rfl;have hdb2:=(blk_cell (blk_below hbk hb3) 2).trans rfl;have hdb3:=(blk_cell (blk_below hbk hb3) 3).trans rfl;have hdf:=fun j => blk_frozen (blk_below hbk hb3) j)
              have hN:=MB.put (sz':=(e (j + 1)).1) (cp':=(e (j + 1)).2.2.2) X.out HB.out hb3 ho1 ho2
              refine ⟨⟨j + 1,by first | rfl | go_num,hlt,⟨hN.1⟩,⟨hN.2⟩⟩,?_⟩
              simp [intOf]
              omega
            · have hje : j = l0.length:=by omega
              subst hje
              clear hlt hj
              obtain ⟨ku,hu⟩:=HRUN.out.us2
              have HU:=Aside0.mk hu
              clear hu
              have HCP:=Aside0.mk HRUN.out.cp
              obtain ⟨B1,k1,B2,k2,hbk,hbm,hge⟩:=X.out.out
              have hcb0:=(blk_cell hbk 0).trans rfl
              have hcb1:=(blk_cell hbk 1).trans rfl
              have hcb2:=(blk_cell hbk 2).trans rfl
              have hcb3:=(blk_cell hbk 3).trans rfl
              go_wp2_with (go_at_call 15;(with_reducible refine (cow_Used.calls ku (e l0.length).1 _ _ (e l0.length).2.1 _ _ (e l0.length).2.2.1 (e l0.length).2.2.2 (l0.length : Int) _ (Kd.S_reads' hbm.sp).2.2 (Kd.S_reads' hbm.sp).2.1 (Kd.R_reads' hbm.fr).2.2 (Kd.R_reads' hbm.fr).2.1 HU.out).mono ?_);rintro e w3 ⟨rfl,hb3⟩;clear hcb0 hcb1 hcb2 hcb3;have hdb0:=(blk_cell (blk_below hbk hb3) 0).trans rfl;have hdb1:=(blk_cell (blk_below hbk hb3) 1).trans rfl;have hdb2:=(blk_cell (blk_below hbk hb3) 2).trans rfl;have hdb3:=(blk_cell (blk_below hbk hb3) 3).trans rfl;have hdf:=fun j => blk_frozen (blk_below hbk hb3) j)
              go_ret
              exact ⟨by simp [HCP.out],below_step HB.out hb3⟩
theorem estoverslaw25_CowAlone.walk (a0 : Option Addr) (len0 cap0 : Nat) (z0 : List Int) (a1 : Int) (w : World) (w0 : (a0 = none∧len0 = 0∧cap0 = 0∧z0 = [])∨∃ x,a0 = some x∧len0≤cap0∧cap0≤maxLen∧z0.length = cap0∧(∀ i,i < z0.length→w.cell? (x.add i) = some (.int .i64 (z0.getD i 0)))∧∀ n ∈ z0,(Lit.int .i64 n).wf = true) (w1 : (Lit.int .u8 a1).wf = true) :
    Calls Try.prog 3 #[.slice a0 len0 cap0,.int .u8 a1] w fun e w' => e = .returned (.bool true)∧Below w.heap.size w w':=by
  obtain ⟨l0,rfl,hr0,hm0,hw0,hc0⟩:=ReadsInt.ofRowC w0
  have hC:=Kd.C_of_reads (d:=(0 : Int)) (h1:=fun _ => rfl) hr0
  by_cases h : 8 < l0.length∨l0.length = 0
  · exact estoverslaw25_CowAlone.short _ _ l0 a1 w h
  · have hb : 0≤a1∧a1≤255:=bounds_u8 w1
    have e1 : wrap64 a1 = a1:=by unfold wrap64;omega
    have e2 : Int.tmod (wrap64 a1) 8 = (((a1 % 8).toNat : Nat) : Int):=by
      rw [e1,Int.tmod_eq_emod_of_nonneg hb.1]
      omega
    obtain ⟨c,d,e,hr⟩:=alone_run l0 (by omega) (by omega) (a1 % 8).toNat (by omega)
    exact estoverslaw25_CowAlone.runs _ _ l0 a1 w hC (by omega) (by omega) (a1 % 8).toNat (by omega) e2 c d e hr
end Go.Proofs.Yteldbkdfphiogaa.Pr
