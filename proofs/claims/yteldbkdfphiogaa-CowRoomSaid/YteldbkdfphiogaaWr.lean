/- CowRoom: the walk. -/
import Derived.Test.YteldbkdfphiogaaWp
import Derived.Test.YteldbkdfphiogaaCf
set_option linter.unusedVariables false
set_option linter.unusedSimpArgs false
namespace Go.Proofs.Yteldbkdfphiogaa.Pr
open Go.RowKit Go.Proofs.YteldbkdfphiogaaW.PrintWords Go.Proofs.YteldbkdfphiogaaW.PrintLast Go.Proofs.YteldbkdfphiogaaW.PrintMore
attribute [local go_sem] max2_int min2_int max_two min_two max_three min_three max_four min_four
set_option maxRecDepth 100000 in
set_option maxHeartbeats 8000000 in
theorem estoverslaw25_CowRoom.short (a0 : Int) (A1 : Option Addr) (c1 : Nat) (l1 : List S40) (w : World) (h8 : 40 < l1.length) : Calls Try.prog 9 #[.int .u8 a0,.slice A1 l1.length c1] w fun e w' => e = .returned (.bool true)∧Below w.heap.size w w':=by
  have hu27:=Try.underlying27
  have HB:=Aside0.mk (Below.refl w.heap.size w)
  have e0 : decide (40 < (l1.length : Int)) = true:=decide_eq_true (by omega)
  have e1 : decide (40 < l1.length) = true:=decide_eq_true h8
  clear h8
  go_enter Try.func9,Try.ntmps9
  go_wp2_with (first | ((with_reducible refine gate_callee (f:=10) rfl ?_);refine goesL_ (some 13) rfl rfl Try.func10 (by kernel_rfl) rfl #[] rfl (by (try simp only [List.map_toArray,List.map_cons,List.map_nil]);first | done | rfl) ?_;(with_reducible refine (estoverslaw25_awake.calls 0 true _ rfl).mono ?_);rintro e w9 ⟨rfl,hb9⟩;refine ⟨_,rfl,?_⟩;have nB:=Aside0.mk (below_step HB.out hb9);clear HB hb9;have HB:=nB;clear nB) | ((with_reducible refine gate_callee (f:=10) rfl ?_);refine goesL_ (some 20) rfl rfl Try.func10 (by kernel_rfl) rfl #[] rfl (by (try simp only [List.map_toArray,List.map_cons,List.map_nil]);first | done | rfl) ?_;(with_reducible refine (estoverslaw25_awake.calls 0 true _ rfl).mono ?_);rintro e w9 ⟨rfl,hb9⟩;refine ⟨_,rfl,?_⟩;have nB:=Aside0.mk (below_step HB.out hb9);clear HB hb9;have HB:=nB;clear nB))
  go_ret
  exact ⟨rfl,HB.out⟩
set_option maxRecDepth 100000 in
set_option maxHeartbeats 8000000 in
theorem estoverslaw25_CowRoom.runs (a0 : Int) (A1 : Option Addr) (c1 : Nat) (l1 : List S40) (w : World) (hr0 : Kd.C k40 w A1 l1.length l1) (h8 : l1.length≤40) (n : Nat) (hn4 : n≤4) (hn : wrap64 (1 + Int.tmod (wrap64 a0) 4) = (n : Int)) (c : Nat→Mc) (hrun : RoomRun n l1 c) : Calls Try.prog 9 #[.int .u8 a0,.slice A1 l1.length c1] w fun e w' => e = .returned (.bool true)∧Below w.heap.size w w':=by
  have hu27:=Try.underlying27
  have hu40:=Try.underlying40
  have HB:=Aside0.mk (Below.refl w.heap.size w)
  have HR0:=Aside0.mk hr0
  have HRUN:=Aside0.mk hrun
  clear hr0 hrun
  have e0 : decide (40 < (l1.length : Int)) = false:=decide_eq_false (by omega)
  have e1 : decide (40 < l1.length) = false:=decide_eq_false (by omega)
  have e3 : wrap64 ((n : Int) * 8) = (n : Int) * 8:=by unfold wrap64;omega
  obtain ⟨kn,hnew⟩:=HRUN.out.new
  have HNEW:=Aside0.mk hnew
  clear hnew
  go_enter Try.func9,Try.ntmps9
  go_upto_region 5 with (first | ((with_reducible refine gate_callee (f:=10) rfl ?_);refine goesL_ (some 13) rfl rfl Try.func10 (by kernel_rfl) rfl #[] rfl (by (try simp only [List.map_toArray,List.map_cons,List.map_nil]);first | done | rfl) ?_;(with_reducible refine (estoverslaw25_awake.calls 0 true _ rfl).mono ?_);rintro e w9 ⟨rfl,hb9⟩;refine ⟨_,rfl,?_⟩;have nB:=Aside0.mk (below_step HB.out hb9);clear HB hb9;have HB:=nB;clear nB) | ((with_reducible refine gate_callee (f:=11) rfl ?_);refine goesL_ (some 29) rfl rfl Try.func11 (by kernel_rfl) rfl #[.int .i64 ((n : Int) * 8),.int .i64 (wrap64 (1 + Int.tmod (wrap64 a0) 4))] rfl (by (try simp only [List.map_toArray,List.map_cons,List.map_nil]);first | done | rfl) ?_;rw [hn];(with_reducible refine (cow_New.calls kn ((n : Int) * 8) (n : Int) (c 0).1 (c 0).2.1 (c 0).2.2.1 (c 0).2.2.2 0 _ HNEW.out).mono ?_);rintro e w3 ⟨v1,v2,rfl,ho1,ho2,hb3⟩;refine ⟨_,rfl,?_⟩;obtain ⟨A1,c1,rfl⟩:=Kd.S_slice ho1;obtain ⟨A2,c2,rfl⟩:=Kd.R_slice ho2) | ((with_reducible refine gate_dst (N:=6) rfl ?_);refine box_event rfl (N:=6) rfl (cs:=#[.int .i64 0,.slice none 0 0,.slice none 0 0,.int .i64 0]) (t:=27) (by first | (go_simp;done) | (go_simp;rfl)) ?_;intro b hd0 w5 hbd hb5;have GD:=Aside0.mk (show w3.heap.size≤b by rw [hd0];exact Nat.le_refl _);clear hd0;have hq0:=(blk_cell hbd 0).trans rfl;have hq1:=(blk_cell hbd 1).trans rfl;have hq2:=(blk_cell hbd 2).trans rfl;have hq3:=(blk_cell hbd 3).trans rfl;have hqf:=fun j => blk_frozen hbd j))
  have hN:=MB.new (sz:=(c 0).1) (cp:=(c 0).2.2.2) HB.out hb3 ho1 ho2 GD.out hbd hb5 rfl
  have X:=Aside0.mk (show MX w _ b (c 0) from hN.1)
  have nB:=Aside0.mk hN.2.2
  clear HB hN hb3 ho1 ho2 GD hbd hb5 hq0 hq1 hq2 hq3 hqf
  have HB:=nB
  clear nB
  unfold set4 at HB X
  generalize (((w5.setCell ⟨b,0,none⟩ (.int .i64 (c 0).1)).setCell ⟨b,1,none⟩ (.slice A1 (c 0).2.1.length c1)).setCell ⟨b,2,none⟩ (.slice A2 (c 0).2.2.1.length c2)).setCell ⟨b,3,none⟩ (.int .i64 (c 0).2.2.2) = W1 at HB X ⊢
  go_wp2
  go_loopw [36] (fun v wr => ∃ j : Nat,v = .int .i64 j∧j≤l1.length∧Aside0 (MX w wr b (c j))∧Aside0 (Below w.heap.size w wr)) (fun v _ => l1.length - (intOf v).toNat)
  case atStart => exact ⟨0,rfl,Nat.zero_le _,X,HB⟩
  case round =>
    clear X HB
    rename_i wr
    obtain ⟨j,rfl,hj,X,HB⟩:=hrel
    by_cases hlt : j < l1.length
    · have f0 : (0 : Int)≤(j : Int):=by omega
      have f1 : (j : Int) < (l1.length : Int):=by omega
      obtain ⟨dm,x,e,⟨kp,hp⟩,hne,hst⟩:=HRUN.out.play j hlt
      have HP:=Aside0.mk hp
      have HST:=Aside0.mk hst
      clear hp hst
      have g16 : (e == 16) = false:=beq_eq_false_iff_ne.mpr hne
      clear hne
      obtain ⟨ad,ea,hx0,hx1,hx2,hx3⟩:=at_T40 HR0.out (j : Int) f0 f1
      cases ea
      simp only [Int.toNat_natCast] at hx0 hx1 hx2 hx3
      replace hx0:=(HB.out.cell (World.block_lt_of_cell? w _ hx0)).trans hx0
      replace hx1:=(HB.out.cell (World.block_lt_of_cell? w _ hx1)).trans hx1
      replace hx2:=(HB.out.cell (World.block_lt_of_cell? w _ hx2)).trans hx2
      replace hx3:=(HB.out.cell (World.block_lt_of_cell? w _ hx3)).trans hx3
      generalize ho : rd_T40 l1 (j : Int) = op at HP HST hx0 hx1 hx2 hx3
      go_upto_region 10 with ((with_reducible refine gate_dst (N:=9) rfl ?_);refine box_event rfl (N:=9) rfl (cs:=#[.int .i64 0,.int .i64 0,.int .i64 0,.int .i64 0]) (t:=40) (by first | (go_simp;done) | (go_simp;rfl)) ?_;intro q hq0 wq hbq hBq;have GQ:=Aside0.mk (show wr.heap.size≤q by rw [hq0];exact Nat.le_refl _);clear hq0;have hy0:=(blk_cell hbq 0).trans rfl;have hy1:=(blk_cell hbq 1).trans rfl;have hy2:=(blk_cell hbq 2).trans rfl;have hy3:=(blk_cell hbq 3).trans rfl;have hyf:=fun j => blk_frozen hbq j)
      have hB2:=set4_below hBq GQ.out (.int .i64 op.f0) (.int .i64 op.f1) (.int .i64 op.f2) (.int .i64 op.f3)
      have BQ:=Aside0.mk (set4_blk hbq (.int .i64 op.f0) (.int .i64 op.f1) (.int .i64 op.f2) (.int .i64 op.f3))
      have n1:=Aside0.mk (X.out.below hB2)
      have nB:=Aside0.mk (below_step HB.out hB2)
      clear HB X hB2 hBq hbq hy0 hy1 hy2 hy3 hyf hx0 hx1 hx2 hx3 GQ
      have HB:=nB
      have X:=n1
      clear nB n1
      unfold set4 at HB X BQ
      generalize (((wq.setCell ⟨q,0,none⟩ (.int .i64 op.f0)).setCell ⟨q,1,none⟩ (.int .i64 op.f1)).setCell ⟨q,2,none⟩ (.int .i64 op.f2)).setCell ⟨q,3,none⟩ (.int .i64 op.f3) = W2 at HB X BQ ⊢
      obtain ⟨B1,k1,B2,k2,hbk,hbm,hge⟩:=X.out.out
      have hcb0:=(blk_cell hbk 0).trans rfl
      have hcb1:=(blk_cell hbk 1).trans rfl
      have hcb2:=(blk_cell hbk 2).trans rfl
      have hcb3:=(blk_cell hbk 3).trans rfl
      have hcq0:=(blk_cell BQ.out 0).trans rfl
      have hcq1:=(blk_cell BQ.out 1).trans rfl
      have hcq2:=(blk_cell BQ.out 2).trans rfl
      have hcq3:=(blk_cell BQ.out 3).trans rfl
      go_upto_region 11 with (first | ((with_reducible refine gate_callee (f:=18) rfl ?_);refine goesL_ (some 43) rfl rfl Try.func18 (by kernel_rfl) rfl #[.agg #[.int .i64 (c j).1,.slice B1 (c j).2.1.length k1,.slice B2 (c j).2.2.1.length k2,.int .i64 (c j).2.2.2],.agg #[.int .i64 op.f0,.int .i64 op.f1,.int .i64 op.f2,.int .i64 op.f3]] rfl (by (try simp only [List.map_toArray,List.map_cons,List.map_nil]);first | done | rfl) ?_;(with_reducible refine (estoverslaw25_play.calls kp (c j).1 _ _ (c j).2.1 _ _ (c j).2.2.1 (c j).2.2.2 op.f0 op.f1 op.f2 op.f3 dm.1 dm.2.1 dm.2.2.1 dm.2.2.2 x e _ (Kd.S_reads' hbm.sp).2.2 (Kd.S_reads' hbm.sp).2.1 (Kd.R_reads' hbm.fr).2.2 (Kd.R_reads' hbm.fr).2.1 HP.out).mono ?_);rintro e3 w3 ⟨v1,v2,rfl,hd3,hb3⟩;refine ⟨_,rfl,?_⟩;obtain ⟨A1,c1,A2,c2,rfl,rfl,hm3⟩:=CowM.played hbm hb3 hd3;clear hcb0 hcb1 hcb2 hcb3 hcq0 hcq1 hcq2 hcq3 hd3) | ((with_reducible refine gate_dst (N:=10) rfl ?_);refine box_event rfl (N:=10) rfl (cs:=#[.int .i64 0,.slice none 0 0,.slice none 0 0,.int .i64 0]) (t:=27) (by first | (go_simp;done) | (go_simp;rfl)) ?_;intro d hd0 w5 hbd hb5;have GD:=Aside0.mk (show w3.heap.size≤d by rw [hd0];exact Nat.le_refl _);clear hd0;have hq0:=(blk_cell hbd 0).trans rfl;have hq1:=(blk_cell hbd 1).trans rfl;have hq2:=(blk_cell hbd 2).trans rfl;have hq3:=(blk_cell hbd 3).trans rfl;have hqf:=fun j => blk_frozen hbd j))
      have hN:=MB.newM (sz:=dm.1) (cp:=dm.2.2.2) hm3 GD.out hbd hb5 rfl
      have Y:=Aside0.mk (show MX w _ d dm from hN.1)
      have n1:=Aside0.mk ((X.out.below hb3).below hN.2.1)
      have nQ:=Aside0.mk (blk_below (blk_below BQ.out hb3) hN.2.1)
      have nB:=Aside0.mk hN.2.2
      clear HB hN hb3 hm3 GD hbd hb5 hq0 hq1 hq2 hq3 hqf X hbk hbm hge BQ
      have HB:=nB
      have X:=n1
      have BQ:=nQ
      clear nB n1 nQ
      unfold set4 at HB X Y BQ
      generalize (((w5.setCell ⟨d,0,none⟩ (.int .i64 dm.1)).setCell ⟨d,1,none⟩ (.slice A1 dm.2.1.length c1)).setCell ⟨d,2,none⟩ (.slice A2 dm.2.2.1.length c2)).setCell ⟨d,3,none⟩ (.int .i64 dm.2.2.2) = W3 at HB X Y BQ ⊢
      obtain ⟨B1,k1,B2,k2,hbk,hbm,_⟩:=Y.out.out
      have hcb0:=(blk_cell hbk 0).trans rfl
      have hcb1:=(blk_cell hbk 1).trans rfl
      have hcb2:=(blk_cell hbk 2).trans rfl
      have hcb3:=(blk_cell hbk 3).trans rfl
      have hcq0:=(blk_cell BQ.out 0).trans rfl
      have hcq1:=(blk_cell BQ.out 1).trans rfl
      have hcq2:=(blk_cell BQ.out 2).trans rfl
      have hcq3:=(blk_cell BQ.out 3).trans rfl
      obtain ⟨D1,l1',D2,l2,hbo,_,hge⟩:=X.out.out
      have hco0:=(blk_cell hbo 0).trans rfl
      have hco1:=(blk_cell hbo 1).trans rfl
      have hco2:=(blk_cell hbo 2).trans rfl
      have hco3:=(blk_cell hbo 3).trans rfl
      have hcof:=fun j => blk_frozen hbo j
      rcases HST.out with ⟨h0,h1,h3,hc⟩ | ⟨hno,hc⟩
      · have g0 : (e == 0) = true:=beq_iff_eq.mpr h0
        have g1 : decide (0≤op.f0) = true:=decide_eq_true h1
        have g2 : decide (op.f0≤3) = true:=decide_eq_true h3
        clear h0 h1 h3
        have HC:=Aside0.mk hc
        clear hc
        go_wp2
        have hN:=MB.putM (sz':=dm.1) (cp':=dm.2.2.2) X.out hbm
        refine ⟨⟨j + 1,by first | rfl | go_num,hlt,⟨by rw [HC.out];exact hN.1⟩,⟨hN.2⟩⟩,?_⟩
        simp [intOf]
        omega
      · have HX:=Aside0.mk (show MX w W3 b (c (j + 1)) by rw [hc];exact X.out)
        clear hc
        by_cases h0 : e = 0
        · have g0 : (e == 0) = true:=beq_iff_eq.mpr h0
          by_cases h1 : 0≤op.f0
          · have g1 : decide (0≤op.f0) = true:=decide_eq_true h1
            have g2 : decide (op.f0≤3) = false:=decide_eq_false (fun h3 => hno ⟨h0,h1,h3⟩)
            clear h0 h1 hno
            go_wp2
            refine ⟨⟨j + 1,by first | rfl | go_num,hlt,HX,HB⟩,?_⟩
            simp [intOf]
            omega
          · have g1 : decide (0≤op.f0) = false:=decide_eq_false h1
            clear h0 h1 hno
            go_wp2
            refine ⟨⟨j + 1,by first | rfl | go_num,hlt,HX,HB⟩,?_⟩
            simp [intOf]
            omega
        · have g0 : (e == 0) = false:=beq_eq_false_iff_ne.mpr h0
          clear h0 hno
          go_wp2
          refine ⟨⟨j + 1,by first | rfl | go_num,hlt,HX,HB⟩,?_⟩
          simp [intOf]
          omega
    · have hje : j = l1.length:=by omega
      subst hje
      clear hlt hj
      obtain ⟨ku,hu⟩:=HRUN.out.chk
      have HU:=Aside0.mk hu
      clear hu
      obtain ⟨B1,k1,B2,k2,hbk,hbm,hge⟩:=X.out.out
      have hcb0:=(blk_cell hbk 0).trans rfl
      have hcb1:=(blk_cell hbk 1).trans rfl
      have hcb2:=(blk_cell hbk 2).trans rfl
      have hcb3:=(blk_cell hbk 3).trans rfl
      go_wp2_with ((with_reducible refine gate_callee (f:=23) rfl ?_);refine goesL_ (some 64) rfl rfl Try.func23 (by kernel_rfl) rfl #[.agg #[.int .i64 (c l1.length).1,.slice B1 (c l1.length).2.1.length k1,.slice B2 (c l1.length).2.2.1.length k2,.int .i64 (c l1.length).2.2.2]] rfl (by (try simp only [List.map_toArray,List.map_cons,List.map_nil]);first | done | rfl) ?_;(with_reducible refine (cow_Check.calls ku (c l1.length).1 _ _ (c l1.length).2.1 _ _ (c l1.length).2.2.1 (c l1.length).2.2.2 0 _ (Kd.S_reads' hbm.sp).2.2 (Kd.S_reads' hbm.sp).2.1 (Kd.R_reads' hbm.fr).2.2 (Kd.R_reads' hbm.fr).2.1 HU.out).mono ?_);rintro e w3 ⟨rfl,hb3⟩;refine ⟨_,rfl,?_⟩;clear hcb0 hcb1 hcb2 hcb3)
      go_ret
      exact ⟨rfl,below_step HB.out hb3⟩
theorem estoverslaw25_CowRoom.calls (a0 : Int) (A1 : Option Addr) (c1 : Nat) (l1 : List S40) (r : Bool) (w : World) (hr : Kd.C k40 w A1 l1.length l1) (hc : l1.length≤c1) (h : 0≤a0∧a0≤255) (hb : r = true) :
    Calls Try.prog 9 #[.int .u8 a0,.slice A1 l1.length c1] w fun e w' => e = .returned (.bool r)∧Below w.heap.size w w':=by
  subst hb
  by_cases h8 : 40 < l1.length
  · exact estoverslaw25_CowRoom.short a0 A1 c1 l1 w h8
  · have e1 : wrap64 a0 = a0:=by unfold wrap64;omega
    have e2 : wrap64 (1 + Int.tmod (wrap64 a0) 4) = (((1 + a0 % 4).toNat : Nat) : Int):=by
      rw [e1,Int.tmod_eq_emod_of_nonneg h.1]
      unfold wrap64
      omega
    obtain ⟨c,hr2⟩:=room_run (1 + a0 % 4).toNat (by omega) (by omega) l1
    exact estoverslaw25_CowRoom.runs a0 A1 c1 l1 w hr (by omega) (1 + a0 % 4).toNat (by omega) e2 c hr2
end Go.Proofs.Yteldbkdfphiogaa.Pr
