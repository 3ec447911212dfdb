/- Copies of schedules. No condition. -/
import Derived.Test.YthdeoagoehkcfaaGreatDoorC1
import Derived.Test.YthdeoagoehkcfaaGreatDoorC2
import Derived.Test.YthdeoagoehkcfaaGreatDoorC3
namespace Go.Proofs.YthdeoagoehkcfaaGreatDoor
open Go.RowKit
set_option linter.unusedVariables false
set_option linter.unusedSimpArgs false
set_option maxRecDepth 20000
theorem szMedl_c (m : MedlI) (B : Nat) (w : World) (hm : Med B w m) (hw : m.fit) :
    Calls Tryz.prog 18 #[.agg m.cells.toArray, .int .i64 1048576] w (Ret fun v w' => v = .int .i64 (szMedlF m 1048576) ∧ Ext w w') := by
  obtain ⟨f1, f2, f3, f4⟩ := hw
  have Bhm := hm.1
  have X := Ext.refl w
  refine calls_of (args := [.agg m.cells.toArray, .int .i64 1048576]) Tryz.func18 Tryz.ntmps18 rfl rfl ?_
  refine c_seqR ?_
  refine ops_cons rfl (ow_box rfl rfl ?_)
  intro g4 w3 eg4 b1 x2 zg4
  have lg4 : w.heap.size ≤ g4 := Nat.le_trans X.size (Nat.le_of_eq eg4.symm)
  have pg4hm := Nat.le_trans hm.1 (Nat.le_of_eq eg4.symm)
  replace hm := hm.ext x2
  replace X := Ext.trans X x2; clear x2
  refine ops_cons rfl (ow_assign rfl ?_)
  refine ops_nil ?_
  refine c_seqR ?_
  refine ops_cons rfl (ow_fieldAddrB off40_1 rfl rfl ?_)
  refine ops_cons rfl (ow_loadB b1 ti36 rfl rfl ?_)
  refine ops_cons rfl (ow_move rfl ?_)
  refine ops_cons rfl (ow_call ent49 rfl (ret_mono (szNodes_c _ _ _ _ _ _ hm.sn f1 f4 (by omega)) ?_))
  rintro _ w6 ⟨rfl, x5⟩
  replace hm := hm.ext x5
  replace b1 := b1.ext x5
  replace X := Ext.trans X x5; clear x5
  refine ops_cons rfl (ow_assign rfl ?_)
  refine ops_nil ?_
  refine c_seq ?_
  refine c_seqR ?_
  refine ops_cons rfl (ow_move rfl ?_)
  refine ops_cons rfl (ow_lss2 rfl rfl (fun q1 => ?_) (fun q1 => ?_))
  · skip
    refine ops_nil ?_
    refine c_true rfl ?_
    refine c_seqR ?_
    refine ops_cons rfl (ow_assign rfl ?_)
    refine ops_nil ?_
    refine c_ret ?_
    refine tq_r ?_
    refine fin_ret1 rfl rfl ?_
    refine ⟨congrArg (Value.int .i64) ?_, X⟩
    unfold szMedlF
    first | (rw [if_pos q1]; done) | (rw [if_neg q1, if_pos q2]; done) | (rw [if_neg q1, if_neg q2, if_pos q3]; done) | rw [if_neg q1, if_neg q2, if_neg q3]
  · skip
    have k1 := szN_le q1
    refine ops_nil ?_
    refine c_false rfl ?_
    refine c_skip ?_
    refine tq_n ?_
    refine c_seqR ?_
    refine ops_cons rfl (ow_fieldAddrB off40_2 rfl rfl ?_)
    refine ops_cons rfl (ow_loadB b1 ti37 rfl rfl ?_)
    refine ops_cons rfl (ow_move rfl ?_)
    refine ops_cons rfl (ow_call ent50 rfl (ret_mono (szModesG_c _ _ _ _ _ _ _ hm.sm hm.sx f2 ⟨by omega, k1.1⟩) ?_))
    rintro _ w8 ⟨rfl, x7⟩
    replace hm := hm.ext x7
    replace b1 := b1.ext x7
    replace X := Ext.trans X x7; clear x7
    refine ops_cons rfl (ow_assign rfl ?_)
    refine ops_nil ?_
    refine c_seq ?_
    refine c_seqR ?_
    refine ops_cons rfl (ow_move rfl ?_)
    refine ops_cons rfl (ow_lss2 rfl rfl (fun q2 => ?_) (fun q2 => ?_))
    · skip
      refine ops_nil ?_
      refine c_true rfl ?_
      refine c_seqR ?_
      refine ops_cons rfl (ow_assign rfl ?_)
      refine ops_nil ?_
      refine c_ret ?_
      refine tq_r ?_
      refine fin_ret1 rfl rfl ?_
      refine ⟨congrArg (Value.int .i64) ?_, X⟩
      unfold szMedlF
      first | (rw [if_pos q1]; done) | (rw [if_neg q1, if_pos q2]; done) | (rw [if_neg q1, if_neg q2, if_pos q3]; done) | rw [if_neg q1, if_neg q2, if_neg q3]
    · skip
      have k2 := szM_le2 q2
      refine ops_nil ?_
      refine c_false rfl ?_
      refine c_skip ?_
      refine tq_n ?_
      refine c_seqR ?_
      refine ops_cons rfl (ow_fieldAddrB off40_3 rfl rfl ?_)
      refine ops_cons rfl (ow_loadB b1 ti38 rfl rfl ?_)
      refine ops_cons rfl (ow_move rfl ?_)
      refine ops_cons rfl (ow_call ent51 rfl (ret_mono (szSlots_c _ B _ m.ss _ _ f3 ⟨by omega, by omega⟩) ?_))
      rintro _ w10 ⟨rfl, x9⟩
      replace hm := hm.ext x9
      replace b1 := b1.ext x9
      replace X := Ext.trans X x9; clear x9
      refine ops_cons rfl (ow_assign rfl ?_)
      refine ops_nil ?_
      refine c_seq ?_
      refine c_seqR ?_
      refine ops_cons rfl (ow_move rfl ?_)
      refine ops_cons rfl (ow_lss2 rfl rfl (fun q3 => ?_) (fun q3 => ?_))
      · skip
        refine ops_nil ?_
        refine c_true rfl ?_
        refine c_seqR ?_
        refine ops_cons rfl (ow_assign rfl ?_)
        refine ops_nil ?_
        refine c_ret ?_
        refine tq_r ?_
        refine fin_ret1 rfl rfl ?_
        refine ⟨congrArg (Value.int .i64) ?_, X⟩
        unfold szMedlF
        first | (rw [if_pos q1]; done) | (rw [if_neg q1, if_pos q2]; done) | (rw [if_neg q1, if_neg q2, if_pos q3]; done) | rw [if_neg q1, if_neg q2, if_neg q3]
      · skip
        refine ops_nil ?_
        refine c_false rfl ?_
        refine c_skip ?_
        refine tq_n ?_
        refine c_seqR ?_
        refine ops_cons rfl (ow_move rfl ?_)
        refine ops_cons rfl (ow_assign rfl ?_)
        refine ops_nil ?_
        refine c_ret ?_
        refine fin_ret1 rfl rfl ?_
        refine ⟨congrArg (Value.int .i64) ?_, X⟩
        unfold szMedlF
        first | (rw [if_pos q1]; done) | (rw [if_neg q1, if_pos q2]; done) | (rw [if_neg q1, if_neg q2, if_pos q3]; done) | rw [if_neg q1, if_neg q2, if_neg q3]

theorem toMedl_c (m : MedlI) (B : Nat) (w : World) (hm : Med B w m) (hz : m.small) :
    Calls Tryz.prog 20 #[.agg m.cells.toArray] w (Ret fun v w' => ∃ m', v = .agg m'.cells.toArray ∧ m'.d = m.d ∧ MOwn w' w.heap.size 104 85 2 110 m' ∧ Ext w w') := by
  have hls := hz.ls
  have hlm := hz.lm
  have hln := hz.ln
  have Bhm := hm.1
  have X := Ext.refl w
  refine calls_of (args := [.agg m.cells.toArray]) Tryz.func20 Tryz.ntmps20 rfl rfl ?_
  refine c_seqR ?_
  refine ops_cons rfl (ow_box rfl rfl ?_)
  intro g4 w3 eg4 b1 x2 zg4
  have lg4 : w.heap.size ≤ g4 := Nat.le_trans X.size (Nat.le_of_eq eg4.symm)
  have pg4hm := Nat.le_trans hm.1 (Nat.le_of_eq eg4.symm)
  replace hm := hm.ext x2
  replace X := Ext.trans X x2; clear x2
  refine ops_cons rfl (ow_alloc ti27 ?_)
  intro g8 w7 eg8 b5 x6 zg8
  have lg8 : w.heap.size ≤ g8 := Nat.le_trans X.size (Nat.le_of_eq eg8.symm)
  have pg8hm := Nat.le_trans hm.1 (Nat.le_of_eq eg8.symm)
  have ng8b1 := Nat.lt_of_lt_of_eq b1.lt eg8.symm
  replace hm := hm.ext x6
  replace b1 := b1.ext x6
  replace X := Ext.trans X x6; clear x6
  refine ops_nil ?_
  refine c_seqR ?_
  refine ops_cons rfl (ow_alloc ti27 ?_)
  intro g12 w11 eg12 b9 x10 zg12
  have lg12 : w.heap.size ≤ g12 := Nat.le_trans X.size (Nat.le_of_eq eg12.symm)
  have pg12hm := Nat.le_trans hm.1 (Nat.le_of_eq eg12.symm)
  have ng12b1 := Nat.lt_of_lt_of_eq b1.lt eg12.symm
  have ng12b5 := Nat.lt_of_lt_of_eq b5.lt eg12.symm
  replace hm := hm.ext x10
  replace b1 := b1.ext x10
  replace b5 := b5.ext x10
  replace X := Ext.trans X x10; clear x10
  refine ops_nil ?_
  refine c_seqR ?_
  refine ops_cons rfl (ow_fieldAddrB off40_0 rfl rfl ?_)
  refine ops_cons rfl (ow_loadB b1 ti2 rfl rfl ?_)
  refine ops_cons rfl (ow_fieldAddrB off27_0 rfl rfl ?_)
  refine ops_cons rfl (ow_storeB b9 ti2 rfl rfl rfl rfl rfl rfl ?_)
  intro w14 b16 hg13 z15
  replace hm := hm.grown hg13 (by intro g hg; injection hg; omega)
  replace b1 := b1.grown hg13 (by intro h; injection h; omega)
  replace b5 := b5.grown hg13 (by intro h; injection h; omega)
  replace X := X.grown hg13 X.size (by intro g hg; injection hg; omega)
  clear hg13 b9
  refine ops_nil ?_
  refine c_seqR ?_
  refine ops_cons rfl (ow_fieldAddrB off40_1 rfl rfl ?_)
  refine ops_cons rfl (ow_loadB b1 ti36 rfl rfl ?_)
  refine ops_cons rfl (ow_call ent55 rfl (ret_mono (toNodeS_c _ _ _ _ _ hm.sn hln) ?_))
  rintro _ w18 ⟨A19, c20, rfl, oN, x17⟩
  replace oN := Own.low oN X.size
  replace hm := hm.ext x17
  replace b1 := b1.ext x17
  replace b5 := b5.ext x17
  replace b16 := b16.ext x17
  replace X := Ext.trans X x17; clear x17
  refine ops_cons rfl (ow_fieldAddrB off27_1 rfl rfl ?_)
  refine ops_cons rfl (ow_storeB b16 ti23 rfl rfl rfl rfl rfl rfl ?_)
  intro w22 b24 hg21 z23
  replace hm := hm.grown hg21 (by intro g hg; injection hg; omega)
  replace b1 := b1.grown hg21 (by intro h; injection h; omega)
  replace b5 := b5.grown hg21 (by intro h; injection h; omega)
  replace oN := oN.grownBlk hg21 (Own.neT oN b16 (by decide))
  replace X := X.grown hg21 X.size (by intro g hg; injection hg; omega)
  clear hg21 b16
  refine ops_nil ?_
  refine c_seqR ?_
  refine ops_cons rfl (ow_fieldAddrB off40_2 rfl rfl ?_)
  refine ops_cons rfl (ow_loadB b1 ti37 rfl rfl ?_)
  refine ops_cons rfl (ow_call ent56 rfl (ret_mono (toModes_c _ _ _ _ _ _ hm.sm hm.sx hlm hz.lx) ?_))
  rintro _ w26 ⟨A27, c28, ys, rfl, em, hdj, oM, oMn, x25⟩
  replace oM := Own.low oM X.size
  replace oMn := NOwn.low oMn X.size
  replace hm := hm.ext x25
  replace b1 := b1.ext x25
  replace b5 := b5.ext x25
  replace oN := oN.ext x25
  replace b24 := b24.ext x25
  replace X := Ext.trans X x25; clear x25
  refine ops_cons rfl (ow_fieldAddrB off27_2 rfl rfl ?_)
  refine ops_cons rfl (ow_storeB b24 ti24 rfl rfl rfl rfl rfl rfl ?_)
  intro w30 b32 hg29 z31
  replace hm := hm.grown hg29 (by intro g hg; injection hg; omega)
  replace b1 := b1.grown hg29 (by intro h; injection h; omega)
  replace b5 := b5.grown hg29 (by intro h; injection h; omega)
  replace oN := oN.grownBlk hg29 (Own.neT oN b24 (by decide))
  replace oM := oM.grownBlk hg29 (Own.neT oM b24 (by decide))
  replace oMn := oMn.grownB b24 hg29 (by decide)
  replace X := X.grown hg29 X.size (by intro g hg; injection hg; omega)
  clear hg29 b24
  refine ops_nil ?_
  refine c_seqR ?_
  refine ops_cons rfl (ow_fieldAddrB off40_3 rfl rfl ?_)
  refine ops_cons rfl (ow_loadB b1 ti38 rfl rfl ?_)
  refine ops_cons rfl (ow_call ent57 rfl (ret_mono (toSlotIS_c _ _ _ _ _ hm.ss hls) ?_))
  rintro _ w34 ⟨A35, c36, rfl, oS, x33⟩
  replace oS := Own.low oS X.size
  replace hm := hm.ext x33
  replace b1 := b1.ext x33
  replace b5 := b5.ext x33
  replace oN := oN.ext x33
  replace oM := oM.ext x33
  replace oMn := oMn.ext x33
  replace b32 := b32.ext x33
  replace X := Ext.trans X x33; clear x33
  refine ops_cons rfl (ow_fieldAddrB off27_3 rfl rfl ?_)
  refine ops_cons rfl (ow_storeB b32 ti25 rfl rfl rfl rfl rfl rfl ?_)
  intro w38 b40 hg37 z39
  replace hm := hm.grown hg37 (by intro g hg; injection hg; omega)
  replace b1 := b1.grown hg37 (by intro h; injection h; omega)
  replace b5 := b5.grown hg37 (by intro h; injection h; omega)
  replace oN := oN.grownBlk hg37 (Own.neT oN b32 (by decide))
  replace oM := oM.grownBlk hg37 (Own.neT oM b32 (by decide))
  replace oMn := oMn.grownB b32 hg37 (by decide)
  replace oS := oS.grownBlk hg37 (Own.neT oS b32 (by decide))
  replace X := X.grown hg37 X.size (by intro g hg; injection hg; omega)
  clear hg37 b32
  refine ops_nil ?_
  refine c_seqR ?_
  refine ops_cons rfl (ow_loadAB b40 ti27 rfl rfl ?_)
  refine ops_cons rfl (ow_storeB b5 ti27 rfl rfl rfl rfl rfl rfl ?_)
  intro w42 b44 hg41 z43
  replace hm := hm.grown hg41 (by intro g hg; injection hg; omega)
  replace b1 := b1.grown hg41 (by intro h; injection h; omega)
  replace oN := oN.grownBlk hg41 (Own.neT oN b5 (by decide))
  replace oM := oM.grownBlk hg41 (Own.neT oM b5 (by decide))
  replace oMn := oMn.grownB b5 hg41 (by decide)
  replace oS := oS.grownBlk hg41 (Own.neT oS b5 (by decide))
  replace b40 := b40.grown hg41 (by intro h; injection h; omega)
  replace X := X.grown hg41 X.size (by intro g hg; injection hg; omega)
  clear hg41 b5
  refine ops_nil ?_
  refine c_ret ?_
  refine fin_cell1 rfl rfl b44 ti27 rfl ?_
  exact ⟨⟨m.id, _, m.ns, _, _, ys, _, _, m.ss, _⟩, rfl, congrArg (fun z => (⟨m.id, m.ns, z, m.ss⟩ : MedlD)) em, ⟨oN, oM, oMn, hdj, oS⟩, X⟩

theorem toMedlR_c (m : MedlI) (B : Nat) (w : World) (hm : Med B w m) (hz : m.small) :
    Calls Tryz.prog 20 #[.agg m.cells.toArray] w (Ret fun v w' => ∃ m', v = .agg m'.cells.toArray ∧ m'.d = m.d ∧ Med w'.heap.size w' m' ∧ Ext w w') :=
  ret_mono (toMedl_c m B w hm hz) fun v w' h => by
    obtain ⟨m', h1, h2, h3, h4⟩ := h
    exact ⟨m', h1, h2, h3.med, h4⟩

theorem eqMedl0_c (m : MedlI) (B B2 : Nat) (A2 : Option Addr) (c2 : Nat) (A3 : Option Addr) (ms2 : List ModeI) (c3 : Nat) (A4 : Option Addr) (c4 : Nat) (w : World) (hm : Med B w m) (h2 : Med B2 w (⟨m.id, A2, m.ns, c2, A3, ms2, c3, A4, m.ss, c4⟩ : MedlI)) (em : ms2.map (·.m) = m.ms.map (·.m)) (hz : m.small) :
    Calls Tryz.prog 13 #[.agg m.cells.toArray, .agg (⟨m.id, A2, m.ns, c2, A3, ms2, c3, A4, m.ss, c4⟩ : MedlI).cells.toArray] w (Ret fun v w' => v = .bool true ∧ Ext w w') := by
  have hls := hz.ls
  have hlm := hz.lm
  have hln := hz.ln
  have Bhm := hm.1
  have Bh2 := h2.1
  have X := Ext.refl w
  refine calls_of (args := [.agg m.cells.toArray, .agg (⟨m.id, A2, m.ns, c2, A3, ms2, c3, A4, m.ss, c4⟩ : MedlI).cells.toArray]) Tryz.func13 Tryz.ntmps13 rfl rfl ?_
  refine c_seqR ?_
  refine ops_cons rfl (ow_box rfl rfl ?_)
  intro g4 w3 eg4 b1 x2 zg4
  have lg4 : w.heap.size ≤ g4 := Nat.le_trans X.size (Nat.le_of_eq eg4.symm)
  have pg4hm := Nat.le_trans hm.1 (Nat.le_of_eq eg4.symm)
  have pg4h2 := Nat.le_trans h2.1 (Nat.le_of_eq eg4.symm)
  replace hm := hm.ext x2
  replace h2 := h2.ext x2
  replace X := Ext.trans X x2; clear x2
  refine ops_cons rfl (ow_box rfl rfl ?_)
  intro g8 w7 eg8 b5 x6 zg8
  have lg8 : w.heap.size ≤ g8 := Nat.le_trans X.size (Nat.le_of_eq eg8.symm)
  have pg8hm := Nat.le_trans hm.1 (Nat.le_of_eq eg8.symm)
  have pg8h2 := Nat.le_trans h2.1 (Nat.le_of_eq eg8.symm)
  have ng8b1 := Nat.lt_of_lt_of_eq b1.lt eg8.symm
  replace hm := hm.ext x6
  replace h2 := h2.ext x6
  replace b1 := b1.ext x6
  replace X := Ext.trans X x6; clear x6
  refine ops_cons rfl (ow_assign rfl ?_)
  refine ops_nil ?_
  refine c_seq ?_
  refine c_seqR ?_
  refine ops_cons rfl (ow_fieldAddrB off27_0 rfl rfl ?_)
  refine ops_cons rfl (ow_loadB b1 ti2 rfl rfl ?_)
  refine ops_cons rfl (ow_fieldAddrB off27_0 rfl rfl ?_)
  refine ops_cons rfl (ow_loadB b5 ti2 rfl rfl ?_)
  refine ops_cons rfl (ow_neq2 rfl rfl (fun h9 => absurd h9 (by simp)) (fun h9 => ?_))
  refine ops_nil ?_
  refine c_false rfl ?_
  refine c_skip ?_
  refine tq_n ?_
  refine c_seq ?_
  refine c_seqR ?_
  refine ops_cons rfl (ow_fieldAddrB off27_1 rfl rfl ?_)
  refine ops_cons rfl (ow_loadB b1 ti23 rfl rfl ?_)
  refine ops_cons rfl (ow_fieldAddrB off27_1 rfl rfl ?_)
  refine ops_cons rfl (ow_loadB b5 ti23 rfl rfl ?_)
  refine ops_cons rfl (ow_call ent40 rfl (ret_mono (eqNodeS_c _ _ _ _ _ _ m.ns _ hm.sn h2.sn hln) ?_))
  rintro _ w11 ⟨rfl, x10⟩
  replace hm := hm.ext x10
  replace h2 := h2.ext x10
  replace b1 := b1.ext x10
  replace b5 := b5.ext x10
  replace X := Ext.trans X x10; clear x10
  refine ops_cons rfl (ow_not rfl ?_)
  refine ops_nil ?_
  refine c_false rfl ?_
  refine c_skip ?_
  refine tq_n ?_
  refine c_seq ?_
  refine c_seqR ?_
  refine ops_cons rfl (ow_fieldAddrB off27_2 rfl rfl ?_)
  refine ops_cons rfl (ow_loadB b1 ti24 rfl rfl ?_)
  refine ops_cons rfl (ow_fieldAddrB off27_2 rfl rfl ?_)
  refine ops_cons rfl (ow_loadB b5 ti24 rfl rfl ?_)
  refine ops_cons rfl (ow_call ent41 rfl (ret_mono (eqModes_c _ _ _ _ _ _ _ _ m.ms ms2 _ hm.sm hm.sx h2.sm h2.sx em.symm hlm hz.lx) ?_))
  rintro _ w13 ⟨rfl, x12⟩
  replace hm := hm.ext x12
  replace h2 := h2.ext x12
  replace b1 := b1.ext x12
  replace b5 := b5.ext x12
  replace X := Ext.trans X x12; clear x12
  refine ops_cons rfl (ow_not rfl ?_)
  refine ops_nil ?_
  refine c_false rfl ?_
  refine c_skip ?_
  refine tq_n ?_
  refine c_seq ?_
  refine c_seqR ?_
  refine ops_cons rfl (ow_fieldAddrB off27_3 rfl rfl ?_)
  refine ops_cons rfl (ow_loadB b1 ti25 rfl rfl ?_)
  refine ops_cons rfl (ow_fieldAddrB off27_3 rfl rfl ?_)
  refine ops_cons rfl (ow_loadB b5 ti25 rfl rfl ?_)
  refine ops_cons rfl (ow_call ent42 rfl (ret_mono (eqSlotIS_c _ _ _ _ _ _ m.ss _ hm.ss h2.ss hls) ?_))
  rintro _ w15 ⟨rfl, x14⟩
  replace hm := hm.ext x14
  replace h2 := h2.ext x14
  replace b1 := b1.ext x14
  replace b5 := b5.ext x14
  replace X := Ext.trans X x14; clear x14
  refine ops_cons rfl (ow_not rfl ?_)
  refine ops_nil ?_
  refine c_false rfl ?_
  refine c_skip ?_
  refine tq_n ?_
  refine c_seqR ?_
  refine ops_cons rfl (ow_assign rfl ?_)
  refine ops_nil ?_
  refine c_ret ?_
  refine fin_ret1 rfl rfl ?_
  exact ⟨by rfl, X⟩

theorem eqMedl_c (m m2 : MedlI) (B B2 : Nat) (w : World) (hm : Med B w m) (h2 : Med B2 w m2) (e : m2.d = m.d) (hz : m.small) :
    Calls Tryz.prog 13 #[.agg m.cells.toArray, .agg m2.cells.toArray] w (Ret fun v w' => v = .bool true ∧ Ext w w') := by
  obtain ⟨id2, An2, ns2, cn2, Am2, ms2, cm2, As2, ss2, cs2⟩ := m2
  simp only [MedlI.d, MedlD.mk.injEq] at e
  obtain ⟨rfl, rfl, e3, rfl⟩ := e
  exact eqMedl0_c m B B2 An2 cn2 Am2 ms2 cm2 As2 cs2 w hm h2 e3 hz

end Go.Proofs.YthdeoagoehkcfaaGreatDoor
