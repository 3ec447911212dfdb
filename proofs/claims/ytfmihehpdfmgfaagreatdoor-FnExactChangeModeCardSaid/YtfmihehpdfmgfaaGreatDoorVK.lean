/- The law FnExactChangeMode answers true for all arguments that its row admits, and leaves what was there before as it was. No condition. -/
import Derived.Test.YtfmihehpdfmgfaaGreatDoorL3
import Derived.Test.YtfmihehpdfmgfaaGreatDoorC4
import Derived.Test.YtfmihehpdfmgfaaGreatDoorCS
import Derived.Test.YtfmihehpdfmgfaaGreatDoorLW
import Derived.Test.YtfmihehpdfmgfaaGreatDoorTie
import Derived.Test.YtfmihehpdfmgfaaGreatDoorCards
import Derived.Lay
import Derived.LaidOnce
import Derived.SevenTiedAt
namespace Go.Proofs.YtfmihehpdfmgfaaGreatDoor
open Go.ChangeShapes Go.WideShapes Go.ChangeAt Go.RowKit
set_option linter.unusedVariables false
set_option linter.unusedSimpArgs false
set_option maxRecDepth 20000
theorem law_FnExactChangeMode (m : MedlI) (B : Nat) (s : StateI) (to : Int) (w : World) (hm : Med B w m) (hw : m.fit) (ws : s.ok) (wto : In64 to) :
    Calls Tryz.prog 13 #[.agg m.cells.toArray, .agg s.cells.toArray, .int .i64 to] w (Ret fun v w' => v = .bool true ∧ Ext w w') := by
  have Bhm := hm.1
  have X := Ext.refl w
  refine calls_of (args := [.agg m.cells.toArray, .agg s.cells.toArray, .int .i64 to]) Tryz.func13 Tryz.ntmps13 rfl rfl ?_
  refine c_seqR ?_
  refine ops_cons rfl (ow_box rfl rfl ?_)
  intro gM w2 egM bM x1 zgM
  have lgM : w.heap.size ≤ gM := Nat.le_trans X.size (Nat.le_of_eq egM.symm)
  have pgMhm := Nat.le_trans hm.1 (Nat.le_of_eq egM.symm)
  replace hm := hm.ext x1
  replace X := Ext.trans X x1; clear x1
  refine ops_cons rfl (ow_box rfl rfl ?_)
  intro gS w4 egS bS x3 zgS
  have lgS : w.heap.size ≤ gS := Nat.le_trans X.size (Nat.le_of_eq egS.symm)
  have pgShm := Nat.le_trans hm.1 (Nat.le_of_eq egS.symm)
  have ngSbM := Nat.lt_of_lt_of_eq bM.lt egS.symm
  replace hm := hm.ext x3
  replace bM := bM.ext x3
  replace X := Ext.trans X x3; clear x3
  refine ops_cons rfl (ow_assign rfl ?_)
  refine ops_nil ?_
  refine c_seqR ?_
  refine ops_cons rfl (ow_assign rfl ?_)
  refine ops_nil ?_
  refine c_seqR ?_
  refine ops_cons rfl (ow_loadAB bM ti26 rfl rfl ?_)
  refine ops_cons rfl (ow_move rfl ?_)
  refine ops_cons rfl (ow_call ent14 rfl (ret_mono (szMedl_c m _ _ hm hw) ?_))
  rintro _ w6 ⟨rfl, x5⟩
  replace hm := hm.ext x5
  replace bM := bM.ext x5
  replace bS := bS.ext x5
  replace X := Ext.trans X x5; clear x5
  refine ops_cons rfl (ow_assign rfl ?_)
  refine ops_nil ?_
  refine c_seq ?_
  refine c_seqR ?_
  refine ops_cons rfl (ow_move rfl ?_)
  refine ops_cons rfl (ow_lss2 rfl rfl (fun hq => ?_) (fun hq => ?_))
  · skip
    refine ops_nil ?_
    refine c_true rfl ?_
    refine c_seqR ?_
    refine ops_cons rfl (ow_assign rfl ?_)
    refine ops_nil ?_
    refine c_ret ?_
    refine tq_r ?_
    refine fin_ret1 rfl rfl ?_
    exact ⟨rfl, X⟩
  · skip
    have hz := szMedl_small (by omega) hq
    refine ops_nil ?_
    refine c_false rfl ?_
    refine c_skip ?_
    refine tq_n ?_
    refine c_seqI (fun wz => Blk wz gM 26 m.cells ∧ Blk wz gS 42 s.cells) mixed ?_
    obtain ⟨w7, ew7⟩ : ∃ w2, w2 = World.drew w6 := ⟨_, rfl⟩
    rw [← ew7]
    have xd : Ext w6 w7 := ew7 ▸ Ext.drew w6
    replace hm := hm.ext xd
    replace bM := bM.ext xd
    replace bS := bS.ext xd
    replace X := Ext.trans X xd; clear xd ew7
    refine wi_take 0 rfl (by kernel_rfl) rfl (by kernel_rfl) (listed' := #[true, false, false, false, false, false, false, false, false, false, false, false]) rfl (fun wq sq => ow_loadAB sq.1 ti26 rfl rfl ⟨rfl, rfl⟩) ?_
    refine wi_take 2 rfl (by kernel_rfl) rfl (by kernel_rfl) (listed' := #[true, false, true, false, false, false, false, false, false, false, false, false]) rfl (fun wq sq => ow_loadAB sq.2 ti42 rfl rfl ⟨rfl, rfl⟩) ?_
    refine wi_take 4 rfl (by kernel_rfl) rfl (by kernel_rfl) (listed' := #[true, false, true, false, true, false, false, false, false, false, false, false]) rfl (fun wq sq => ow_move rfl ⟨rfl, rfl⟩) ?_
    refine wi_two 1 9 rfl rfl rfl rfl (by kernel_rfl) (listed' := #[true, true, true, false, true, false, false, false, false, false, false, false]) (listed'' := #[true, false, true, false, true, false, false, false, false, true, false, false]) rfl rfl ⟨bM, bS⟩ ?_ ?_
    · skip
      refine (ow_call ent16 rfl (ret_mono (toMedlR_c m _ _ hm hz) ?_))
      rintro _ w9 ⟨m0, rfl, e0, h0, x8⟩
      have Bh0 := h0.1
      replace hm := hm.ext x8
      replace bM := bM.ext x8
      replace bS := bS.ext x8
      replace X := Ext.trans X x8; clear x8
      have z0 := MedlI.small_of e0 hz
      refine wi_two 3 9 rfl rfl rfl rfl (by kernel_rfl) (listed' := #[true, true, true, true, true, false, false, false, false, false, false, false]) (listed'' := #[true, true, true, false, true, false, false, false, false, true, false, false]) rfl rfl ⟨bM, bS⟩ ?_ ?_
      · skip
        refine (ow_call ent24 rfl (ret_mono (toStateI_c _ _) ?_))
        rintro _ w13 ⟨rfl, x12⟩
        replace hm := hm.ext x12
        replace bM := bM.ext x12
        replace bS := bS.ext x12
        replace h0 := h0.ext x12
        replace X := Ext.trans X x12; clear x12
        refine wi_two 5 9 rfl rfl rfl rfl (by kernel_rfl) (listed' := #[true, true, true, true, true, true, false, false, false, false, false, false]) (listed'' := #[true, true, true, true, true, false, false, false, false, true, false, false]) rfl rfl ⟨bM, bS⟩ ?_ ?_
        · skip
          refine (ow_call ent40 rfl (ret_mono (by have h := sChange_c m0 _ s to _ h0 z0; rw [e0] at h; exact h) ?_))
          rintro _ w15 ⟨rfl, x14⟩
          replace hm := hm.ext x14
          replace bM := bM.ext x14
          replace bS := bS.ext x14
          replace h0 := h0.ext x14
          replace X := Ext.trans X x14; clear x14
          refine wi_take 6 rfl (by kernel_rfl) rfl (by kernel_rfl) (listed' := #[true, true, true, true, true, true, true, false, false, false, false, false]) rfl (fun wq sq => ow_move rfl ⟨rfl, rfl⟩) ?_
          refine wi_take 7 rfl (by kernel_rfl) rfl (by kernel_rfl) (listed' := #[true, true, true, true, true, true, true, true, false, false, false, false]) rfl (fun wq sq => ow_extract rfl rfl ⟨rfl, rfl⟩) ?_
          refine wi_take 8 rfl (by kernel_rfl) rfl (by kernel_rfl) (listed' := #[true, true, true, true, true, true, true, true, true, false, false, false]) rfl (fun wq sq => ow_extract rfl rfl ⟨rfl, rfl⟩) ?_
          refine wi_one 9 rfl rfl (by kernel_rfl) (listed' := #[true, true, true, true, true, true, true, true, true, true, false, false]) rfl ⟨bM, bS⟩ (ow_alloc ti44 ?_)
          intro g19 w18 eg19 b16 x17 zg19
          have lg19 : w.heap.size ≤ g19 := Nat.le_trans X.size (Nat.le_of_eq eg19.symm)
          have pg19hm := Nat.le_trans hm.1 (Nat.le_of_eq eg19.symm)
          have ng19bM := Nat.lt_of_lt_of_eq bM.lt eg19.symm
          have ng19bS := Nat.lt_of_lt_of_eq bS.lt eg19.symm
          replace hm := hm.ext x17
          replace bM := bM.ext x17
          replace bS := bS.ext x17
          replace X := Ext.trans X x17; clear x17
          refine wi_one 10 rfl rfl (by kernel_rfl) (listed' := #[true, true, true, true, true, true, true, true, true, true, true, false]) rfl ⟨bM, bS⟩ (ow_storeB b16 ti44 rfl rfl rfl rfl rfl rfl ?_)
          intro w21 b23 hg20 z22
          replace hm := hm.grown hg20 (by intro g hg; injection hg; omega)
          replace bM := bM.grown hg20 (by intro h; injection h; omega)
          replace bS := bS.grown hg20 (by intro h; injection h; omega)
          replace X := X.grown hg20 X.size (by intro g hg; injection hg; omega)
          clear hg20 b16
          refine wi_take 11 rfl (by kernel_rfl) rfl (by kernel_rfl) (listed' := #[true, true, true, true, true, true, true, true, true, true, true, true]) rfl (fun wq sq => ow_assign rfl ⟨rfl, rfl⟩) ?_
          refine wi_done rfl ⟨bM, bS⟩ (fun aj fj => ⟨_, fj, ?_⟩)
          refine c_seqR ?_
          refine ops_cons rfl (ow_loadAB bM ti26 rfl rfl ?_)
          refine ops_cons rfl (ow_call ent16 rfl (ret_mono (toMedlR_c m _ _ hm hz) ?_))
          rintro _ w25 ⟨m1, rfl, e1, h1, x24⟩
          have Bh1 := h1.1
          replace hm := hm.ext x24
          replace bM := bM.ext x24
          replace bS := bS.ext x24
          replace b23 := b23.ext x24
          replace X := Ext.trans X x24; clear x24
          have z1 := MedlI.small_of e1 hz
          refine ops_cons rfl (ow_alloc ti33 ?_)
          intro gX w29 egX bA x28 zgX
          have lgX : w.heap.size ≤ gX := Nat.le_trans X.size (Nat.le_of_eq egX.symm)
          have pgXhm := Nat.le_trans hm.1 (Nat.le_of_eq egX.symm)
          have ngXbM := Nat.lt_of_lt_of_eq bM.lt egX.symm
          have ngXbS := Nat.lt_of_lt_of_eq bS.lt egX.symm
          have ngXb23 := Nat.lt_of_lt_of_eq b23.lt egX.symm
          have pgXh1 := Nat.le_trans h1.1 (Nat.le_of_eq egX.symm)
          replace hm := hm.ext x28
          replace bM := bM.ext x28
          replace bS := bS.ext x28
          replace b23 := b23.ext x28
          replace h1 := h1.ext x28
          replace X := Ext.trans X x28; clear x28
          refine ops_cons rfl (ow_storeB bA ti33 rfl rfl rfl rfl rfl rfl ?_)
          intro w31 bX hg30 z32
          replace hm := hm.grown hg30 (by intro g hg; injection hg; omega)
          replace bM := bM.grown hg30 (by intro h; injection h; omega)
          replace bS := bS.grown hg30 (by intro h; injection h; omega)
          replace b23 := b23.grown hg30 (by intro h; injection h; omega)
          replace h1 := h1.grown hg30 (by intro g hg; injection hg; omega)
          replace X := X.grown hg30 X.size (by intro g hg; injection hg; omega)
          clear hg30 bA
          refine ops_nil ?_
          refine c_seqI (fun wz => Blk wz gX 33 m1.cells ∧ Blk wz gS 42 s.cells) mixed ?_
          obtain ⟨w33, ew33⟩ : ∃ w2, w2 = World.drew w31 := ⟨_, rfl⟩
          rw [← ew33]
          have xd : Ext w31 w33 := ew33 ▸ Ext.drew w31
          replace hm := hm.ext xd
          replace bM := bM.ext xd
          replace bS := bS.ext xd
          replace b23 := b23.ext xd
          replace h1 := h1.ext xd
          replace bX := bX.ext xd
          replace X := Ext.trans X xd; clear xd ew33
          refine wi_take 0 rfl (by kernel_rfl) rfl (by kernel_rfl) (listed' := #[true, false, false, false, false, false, false, false, false, false, false]) rfl (fun wq sq => ow_loadAB sq.1 ti33 rfl rfl ⟨rfl, rfl⟩) ?_
          refine wi_take 1 rfl (by kernel_rfl) rfl (by kernel_rfl) (listed' := #[true, true, false, false, false, false, false, false, false, false, false]) rfl (fun wq sq => ow_loadAB sq.2 ti42 rfl rfl ⟨rfl, rfl⟩) ?_
          refine wi_take 3 rfl (by kernel_rfl) rfl (by kernel_rfl) (listed' := #[true, true, false, true, false, false, false, false, false, false, false]) rfl (fun wq sq => ow_move rfl ⟨rfl, rfl⟩) ?_
          refine wi_two 2 8 rfl rfl rfl rfl (by kernel_rfl) (listed' := #[true, true, true, true, false, false, false, false, false, false, false]) (listed'' := #[true, true, false, true, false, false, false, false, true, false, false]) rfl rfl ⟨bX, bS⟩ ?_ ?_
          · skip
            refine (ow_call ent24 rfl (ret_mono (toStateI_c _ _) ?_))
            rintro _ w35 ⟨rfl, x34⟩
            replace hm := hm.ext x34
            replace bM := bM.ext x34
            replace bS := bS.ext x34
            replace b23 := b23.ext x34
            replace h1 := h1.ext x34
            replace bX := bX.ext x34
            replace X := Ext.trans X x34; clear x34
            refine wi_two 4 8 rfl rfl rfl rfl (by kernel_rfl) (listed' := #[true, true, true, true, true, false, false, false, false, false, false]) (listed'' := #[true, true, true, true, false, false, false, false, true, false, false]) rfl rfl ⟨bX, bS⟩ ?_ ?_
            · skip
              refine (ow_call ent41 rfl (ret_mono (by have h := iChange_c m1 _ s to _ h1 z1; rw [e1] at h; exact h) ?_))
              rintro _ w37 ⟨rfl, x36⟩
              replace hm := hm.ext x36
              replace bM := bM.ext x36
              replace bS := bS.ext x36
              replace b23 := b23.ext x36
              replace h1 := h1.ext x36
              replace bX := bX.ext x36
              replace X := Ext.trans X x36; clear x36
              refine wi_take 5 rfl (by kernel_rfl) rfl (by kernel_rfl) (listed' := #[true, true, true, true, true, true, false, false, false, false, false]) rfl (fun wq sq => ow_move rfl ⟨rfl, rfl⟩) ?_
              refine wi_take 6 rfl (by kernel_rfl) rfl (by kernel_rfl) (listed' := #[true, true, true, true, true, true, true, false, false, false, false]) rfl (fun wq sq => ow_extract rfl rfl ⟨rfl, rfl⟩) ?_
              refine wi_take 7 rfl (by kernel_rfl) rfl (by kernel_rfl) (listed' := #[true, true, true, true, true, true, true, true, false, false, false]) rfl (fun wq sq => ow_extract rfl rfl ⟨rfl, rfl⟩) ?_
              refine wi_one 8 rfl rfl (by kernel_rfl) (listed' := #[true, true, true, true, true, true, true, true, true, false, false]) rfl ⟨bX, bS⟩ (ow_alloc ti44 ?_)
              intro g41 w40 eg41 b38 x39 zg41
              have lg41 : w.heap.size ≤ g41 := Nat.le_trans X.size (Nat.le_of_eq eg41.symm)
              have pg41hm := Nat.le_trans hm.1 (Nat.le_of_eq eg41.symm)
              have ng41bM := Nat.lt_of_lt_of_eq bM.lt eg41.symm
              have ng41bS := Nat.lt_of_lt_of_eq bS.lt eg41.symm
              have ng41b23 := Nat.lt_of_lt_of_eq b23.lt eg41.symm
              have pg41h1 := Nat.le_trans h1.1 (Nat.le_of_eq eg41.symm)
              have ng41bX := Nat.lt_of_lt_of_eq bX.lt eg41.symm
              replace hm := hm.ext x39
              replace bM := bM.ext x39
              replace bS := bS.ext x39
              replace b23 := b23.ext x39
              replace h1 := h1.ext x39
              replace bX := bX.ext x39
              replace X := Ext.trans X x39; clear x39
              refine wi_one 9 rfl rfl (by kernel_rfl) (listed' := #[true, true, true, true, true, true, true, true, true, true, false]) rfl ⟨bX, bS⟩ (ow_storeB b38 ti44 rfl rfl rfl rfl rfl rfl ?_)
              intro w43 b45 hg42 z44
              replace hm := hm.grown hg42 (by intro g hg; injection hg; omega)
              replace bM := bM.grown hg42 (by intro h; injection h; omega)
              replace bS := bS.grown hg42 (by intro h; injection h; omega)
              replace b23 := b23.grown hg42 (by intro h; injection h; omega)
              replace h1 := h1.grown hg42 (by intro g hg; injection hg; omega)
              replace bX := bX.grown hg42 (by intro h; injection h; omega)
              replace X := X.grown hg42 X.size (by intro g hg; injection hg; omega)
              clear hg42 b38
              refine wi_take 10 rfl (by kernel_rfl) rfl (by kernel_rfl) (listed' := #[true, true, true, true, true, true, true, true, true, true, true]) rfl (fun wq sq => ow_assign rfl ⟨rfl, rfl⟩) ?_
              refine wi_done rfl ⟨bX, bS⟩ (fun aj fj => ⟨_, fj, ?_⟩)
              refine c_seq ?_
              refine c_seqR ?_
              refine ops_cons rfl (ow_loadAB b45 ti44 rfl rfl ?_)
              refine ops_cons rfl (ow_loadAB b23 ti44 rfl rfl ?_)
              refine ops_cons rfl (ow_call ent39 rfl (ret_mono (eqStateI_c _ _) ?_))
              rintro _ w47 ⟨rfl, x46⟩
              replace hm := hm.ext x46
              replace bM := bM.ext x46
              replace bS := bS.ext x46
              replace b23 := b23.ext x46
              replace h1 := h1.ext x46
              replace bX := bX.ext x46
              replace b45 := b45.ext x46
              replace X := Ext.trans X x46; clear x46
              refine ops_cons rfl (ow_not rfl ?_)
              refine ops_cons rfl (ow_move rfl ?_)
              refine ops_want rfl rfl rfl (ow_move rfl ?_)
              refine ops_want rfl rfl rfl (ow_move rfl ?_)
              refine ops_want rfl rfl rfl (ow_neq2 rfl rfl (fun h48 => absurd h48 (by simp)) (fun h48 => ?_))
              refine ops_cons rfl (ow_pick rfl rfl ?_)
              refine ops_nil ?_
              refine c_false rfl ?_
              refine c_skip ?_
              refine tq_n ?_
              refine c_seq ?_
              refine c_seqI (fun wz => Blk wz gX 33 m1.cells ∧ Blk wz gM 26 m.cells) mixed ?_
              obtain ⟨w49, ew49⟩ : ∃ w2, w2 = World.drew w47 := ⟨_, rfl⟩
              rw [← ew49]
              have xd : Ext w47 w49 := ew49 ▸ Ext.drew w47
              replace hm := hm.ext xd
              replace bM := bM.ext xd
              replace bS := bS.ext xd
              replace b23 := b23.ext xd
              replace h1 := h1.ext xd
              replace bX := bX.ext xd
              replace b45 := b45.ext xd
              replace X := Ext.trans X xd; clear xd ew49
              refine wi_take 0 rfl (by kernel_rfl) rfl (by kernel_rfl) (listed' := #[true, false, false, false, false]) rfl (fun wq sq => ow_loadAB sq.1 ti33 rfl rfl ⟨rfl, rfl⟩) ?_
              refine wi_take 1 rfl (by kernel_rfl) rfl (by kernel_rfl) (listed' := #[true, true, false, false, false]) rfl (fun wq sq => ow_loadAB sq.2 ti26 rfl rfl ⟨rfl, rfl⟩) ?_
              refine wi_one 2 rfl rfl (by kernel_rfl) (listed' := #[true, true, true, false, false]) rfl ⟨bX, bM⟩ (ow_call ent16 rfl (ret_mono (toMedlR_c m _ _ hm hz) ?_))
              rintro _ w51 ⟨m2, rfl, e2, h2, x50⟩
              have Bh2 := h2.1
              replace hm := hm.ext x50
              replace bM := bM.ext x50
              replace bS := bS.ext x50
              replace b23 := b23.ext x50
              replace h1 := h1.ext x50
              replace bX := bX.ext x50
              replace b45 := b45.ext x50
              replace X := Ext.trans X x50; clear x50
              have z2 := MedlI.small_of e2 hz
              refine wi_one 3 rfl rfl (by kernel_rfl) (listed' := #[true, true, true, true, false]) rfl ⟨bX, bM⟩ (ow_call ent18 rfl (ret_mono (eqMedl_c m1 m2 _ _ _ h1 h2 (e2.trans e1.symm) z1) ?_))
              rintro _ w55 ⟨rfl, x54⟩
              replace hm := hm.ext x54
              replace bM := bM.ext x54
              replace bS := bS.ext x54
              replace b23 := b23.ext x54
              replace h1 := h1.ext x54
              replace bX := bX.ext x54
              replace b45 := b45.ext x54
              replace h2 := h2.ext x54
              replace X := Ext.trans X x54; clear x54
              refine wi_take 4 rfl (by kernel_rfl) rfl (by kernel_rfl) (listed' := #[true, true, true, true, true]) rfl (fun wq sq => ow_not rfl ⟨rfl, rfl⟩) ?_
              refine wi_done rfl ⟨bX, bM⟩ (fun aj fj => ⟨_, fj, ?_⟩)
              refine c_false rfl ?_
              refine c_skip ?_
              refine tq_n ?_
              refine c_seqR ?_
              refine ops_cons rfl (ow_assign rfl ?_)
              refine ops_nil ?_
              refine c_ret ?_
              refine fin_ret1 rfl rfl ?_
              exact ⟨rfl, X⟩
            · skip
              refine (ow_alloc ti44 ?_)
              intro g59 w58 eg59 b56 x57 zg59
              have lg59 : w.heap.size ≤ g59 := Nat.le_trans X.size (Nat.le_of_eq eg59.symm)
              have pg59hm := Nat.le_trans hm.1 (Nat.le_of_eq eg59.symm)
              have ng59bM := Nat.lt_of_lt_of_eq bM.lt eg59.symm
              have ng59bS := Nat.lt_of_lt_of_eq bS.lt eg59.symm
              have ng59b23 := Nat.lt_of_lt_of_eq b23.lt eg59.symm
              have pg59h1 := Nat.le_trans h1.1 (Nat.le_of_eq eg59.symm)
              have ng59bX := Nat.lt_of_lt_of_eq bX.lt eg59.symm
              replace hm := hm.ext x57
              replace bM := bM.ext x57
              replace bS := bS.ext x57
              replace b23 := b23.ext x57
              replace h1 := h1.ext x57
              replace bX := bX.ext x57
              replace X := Ext.trans X x57; clear x57
              refine wi_one 4 rfl rfl (by kernel_rfl) (listed' := #[true, true, true, true, true, false, false, false, true, false, false]) rfl ⟨bX, bS⟩ (ow_call ent41 rfl (ret_mono (by have h := iChange_c m1 _ s to _ h1 z1; rw [e1] at h; exact h) ?_))
              rintro _ w61 ⟨rfl, x60⟩
              replace hm := hm.ext x60
              replace bM := bM.ext x60
              replace bS := bS.ext x60
              replace b23 := b23.ext x60
              replace h1 := h1.ext x60
              replace bX := bX.ext x60
              replace b56 := b56.ext x60
              replace X := Ext.trans X x60; clear x60
              refine wi_take 5 rfl (by kernel_rfl) rfl (by kernel_rfl) (listed' := #[true, true, true, true, true, true, false, false, true, false, false]) rfl (fun wq sq => ow_move rfl ⟨rfl, rfl⟩) ?_
              refine wi_take 6 rfl (by kernel_rfl) rfl (by kernel_rfl) (listed' := #[true, true, true, true, true, true, true, false, true, false, false]) rfl (fun wq sq => ow_extract rfl rfl ⟨rfl, rfl⟩) ?_
              refine wi_take 7 rfl (by kernel_rfl) rfl (by kernel_rfl) (listed' := #[true, true, true, true, true, true, true, true, true, false, false]) rfl (fun wq sq => ow_extract rfl rfl ⟨rfl, rfl⟩) ?_
              refine wi_one 9 rfl rfl (by kernel_rfl) (listed' := #[true, true, true, true, true, true, true, true, true, true, false]) rfl ⟨bX, bS⟩ (ow_storeB b56 ti44 rfl rfl rfl rfl rfl rfl ?_)
              intro w63 b65 hg62 z64
              replace hm := hm.grown hg62 (by intro g hg; injection hg; omega)
              replace bM := bM.grown hg62 (by intro h; injection h; omega)
              replace bS := bS.grown hg62 (by intro h; injection h; omega)
              replace b23 := b23.grown hg62 (by intro h; injection h; omega)
              replace h1 := h1.grown hg62 (by intro g hg; injection hg; omega)
              replace bX := bX.grown hg62 (by intro h; injection h; omega)
              replace X := X.grown hg62 X.size (by intro g hg; injection hg; omega)
              clear hg62 b56
              refine wi_take 10 rfl (by kernel_rfl) rfl (by kernel_rfl) (listed' := #[true, true, true, true, true, true, true, true, true, true, true]) rfl (fun wq sq => ow_assign rfl ⟨rfl, rfl⟩) ?_
              refine wi_done rfl ⟨bX, bS⟩ (fun aj fj => ⟨_, fj, ?_⟩)
              refine c_seq ?_
              refine c_seqR ?_
              refine ops_cons rfl (ow_loadAB b65 ti44 rfl rfl ?_)
              refine ops_cons rfl (ow_loadAB b23 ti44 rfl rfl ?_)
              refine ops_cons rfl (ow_call ent39 rfl (ret_mono (eqStateI_c _ _) ?_))
              rintro _ w67 ⟨rfl, x66⟩
              replace hm := hm.ext x66
              replace bM := bM.ext x66
              replace bS := bS.ext x66
              replace b23 := b23.ext x66
              replace h1 := h1.ext x66
              replace bX := bX.ext x66
              replace b65 := b65.ext x66
              replace X := Ext.trans X x66; clear x66
              refine ops_cons rfl (ow_not rfl ?_)
              refine ops_cons rfl (ow_move rfl ?_)
              refine ops_want rfl rfl rfl (ow_move rfl ?_)
              refine ops_want rfl rfl rfl (ow_move rfl ?_)
              refine ops_want rfl rfl rfl (ow_neq2 rfl rfl (fun h68 => absurd h68 (by simp)) (fun h68 => ?_))
              refine ops_cons rfl (ow_pick rfl rfl ?_)
              refine ops_nil ?_
              refine c_false rfl ?_
              refine c_skip ?_
              refine tq_n ?_
              refine c_seq ?_
              refine c_seqI (fun wz => Blk wz gX 33 m1.cells ∧ Blk wz gM 26 m.cells) mixed ?_
              obtain ⟨w69, ew69⟩ : ∃ w2, w2 = World.drew w67 := ⟨_, rfl⟩
              rw [← ew69]
              have xd : Ext w67 w69 := ew69 ▸ Ext.drew w67
              replace hm := hm.ext xd
              replace bM := bM.ext xd
              replace bS := bS.ext xd
              replace b23 := b23.ext xd
              replace h1 := h1.ext xd
              replace bX := bX.ext xd
              replace b65 := b65.ext xd
              replace X := Ext.trans X xd; clear xd ew69
              refine wi_take 0 rfl (by kernel_rfl) rfl (by kernel_rfl) (listed' := #[true, false, false, false, false]) rfl (fun wq sq => ow_loadAB sq.1 ti33 rfl rfl ⟨rfl, rfl⟩) ?_
              refine wi_take 1 rfl (by kernel_rfl) rfl (by kernel_rfl) (listed' := #[true, true, false, false, false]) rfl (fun wq sq => ow_loadAB sq.2 ti26 rfl rfl ⟨rfl, rfl⟩) ?_
              refine wi_one 2 rfl rfl (by kernel_rfl) (listed' := #[true, true, true, false, false]) rfl ⟨bX, bM⟩ (ow_call ent16 rfl (ret_mono (toMedlR_c m _ _ hm hz) ?_))
              rintro _ w71 ⟨m2, rfl, e2, h2, x70⟩
              have Bh2 := h2.1
              replace hm := hm.ext x70
              replace bM := bM.ext x70
              replace bS := bS.ext x70
              replace b23 := b23.ext x70
              replace h1 := h1.ext x70
              replace bX := bX.ext x70
              replace b65 := b65.ext x70
              replace X := Ext.trans X x70; clear x70
              have z2 := MedlI.small_of e2 hz
              refine wi_one 3 rfl rfl (by kernel_rfl) (listed' := #[true, true, true, true, false]) rfl ⟨bX, bM⟩ (ow_call ent18 rfl (ret_mono (eqMedl_c m1 m2 _ _ _ h1 h2 (e2.trans e1.symm) z1) ?_))
              rintro _ w75 ⟨rfl, x74⟩
              replace hm := hm.ext x74
              replace bM := bM.ext x74
              replace bS := bS.ext x74
              replace b23 := b23.ext x74
              replace h1 := h1.ext x74
              replace bX := bX.ext x74
              replace b65 := b65.ext x74
              replace h2 := h2.ext x74
              replace X := Ext.trans X x74; clear x74
              refine wi_take 4 rfl (by kernel_rfl) rfl (by kernel_rfl) (listed' := #[true, true, true, true, true]) rfl (fun wq sq => ow_not rfl ⟨rfl, rfl⟩) ?_
              refine wi_done rfl ⟨bX, bM⟩ (fun aj fj => ⟨_, fj, ?_⟩)
              refine c_false rfl ?_
              refine c_skip ?_
              refine tq_n ?_
              refine c_seqR ?_
              refine ops_cons rfl (ow_assign rfl ?_)
              refine ops_nil ?_
              refine c_ret ?_
              refine fin_ret1 rfl rfl ?_
              exact ⟨rfl, X⟩
          · skip
            refine (ow_alloc ti44 ?_)
            intro g79 w78 eg79 b76 x77 zg79
            have lg79 : w.heap.size ≤ g79 := Nat.le_trans X.size (Nat.le_of_eq eg79.symm)
            have pg79hm := Nat.le_trans hm.1 (Nat.le_of_eq eg79.symm)
            have ng79bM := Nat.lt_of_lt_of_eq bM.lt eg79.symm
            have ng79bS := Nat.lt_of_lt_of_eq bS.lt eg79.symm
            have ng79b23 := Nat.lt_of_lt_of_eq b23.lt eg79.symm
            have pg79h1 := Nat.le_trans h1.1 (Nat.le_of_eq eg79.symm)
            have ng79bX := Nat.lt_of_lt_of_eq bX.lt eg79.symm
            replace hm := hm.ext x77
            replace bM := bM.ext x77
            replace bS := bS.ext x77
            replace b23 := b23.ext x77
            replace h1 := h1.ext x77
            replace bX := bX.ext x77
            replace X := Ext.trans X x77; clear x77
            refine wi_one 2 rfl rfl (by kernel_rfl) (listed' := #[true, true, true, true, false, false, false, false, true, false, false]) rfl ⟨bX, bS⟩ (ow_call ent24 rfl (ret_mono (toStateI_c _ _) ?_))
            rintro _ w81 ⟨rfl, x80⟩
            replace hm := hm.ext x80
            replace bM := bM.ext x80
            replace bS := bS.ext x80
            replace b23 := b23.ext x80
            replace h1 := h1.ext x80
            replace bX := bX.ext x80
            replace b76 := b76.ext x80
            replace X := Ext.trans X x80; clear x80
            refine wi_one 4 rfl rfl (by kernel_rfl) (listed' := #[true, true, true, true, true, false, false, false, true, false, false]) rfl ⟨bX, bS⟩ (ow_call ent41 rfl (ret_mono (by have h := iChange_c m1 _ s to _ h1 z1; rw [e1] at h; exact h) ?_))
            rintro _ w83 ⟨rfl, x82⟩
            replace hm := hm.ext x82
            replace bM := bM.ext x82
            replace bS := bS.ext x82
            replace b23 := b23.ext x82
            replace h1 := h1.ext x82
            replace bX := bX.ext x82
            replace b76 := b76.ext x82
            replace X := Ext.trans X x82; clear x82
            refine wi_take 5 rfl (by kernel_rfl) rfl (by kernel_rfl) (listed' := #[true, true, true, true, true, true, false, false, true, false, false]) rfl (fun wq sq => ow_move rfl ⟨rfl, rfl⟩) ?_
            refine wi_take 6 rfl (by kernel_rfl) rfl (by kernel_rfl) (listed' := #[true, true, true, true, true, true, true, false, true, false, false]) rfl (fun wq sq => ow_extract rfl rfl ⟨rfl, rfl⟩) ?_
            refine wi_take 7 rfl (by kernel_rfl) rfl (by kernel_rfl) (listed' := #[true, true, true, true, true, true, true, true, true, false, false]) rfl (fun wq sq => ow_extract rfl rfl ⟨rfl, rfl⟩) ?_
            refine wi_one 9 rfl rfl (by kernel_rfl) (listed' := #[true, true, true, true, true, true, true, true, true, true, false]) rfl ⟨bX, bS⟩ (ow_storeB b76 ti44 rfl rfl rfl rfl rfl rfl ?_)
            intro w85 b87 hg84 z86
            replace hm := hm.grown hg84 (by intro g hg; injection hg; omega)
            replace bM := bM.grown hg84 (by intro h; injection h; omega)
            replace bS := bS.grown hg84 (by intro h; injection h; omega)
            replace b23 := b23.grown hg84 (by intro h; injection h; omega)
            replace h1 := h1.grown hg84 (by intro g hg; injection hg; omega)
            replace bX := bX.grown hg84 (by intro h; injection h; omega)
            replace X := X.grown hg84 X.size (by intro g hg; injection hg; omega)
            clear hg84 b76
            refine wi_take 10 rfl (by kernel_rfl) rfl (by kernel_rfl) (listed' := #[true, true, true, true, true, true, true, true, true, true, true]) rfl (fun wq sq => ow_assign rfl ⟨rfl, rfl⟩) ?_
            refine wi_done rfl ⟨bX, bS⟩ (fun aj fj => ⟨_, fj, ?_⟩)
            refine c_seq ?_
            refine c_seqR ?_
            refine ops_cons rfl (ow_loadAB b87 ti44 rfl rfl ?_)
            refine ops_cons rfl (ow_loadAB b23 ti44 rfl rfl ?_)
            refine ops_cons rfl (ow_call ent39 rfl (ret_mono (eqStateI_c _ _) ?_))
            rintro _ w89 ⟨rfl, x88⟩
            replace hm := hm.ext x88
            replace bM := bM.ext x88
            replace bS := bS.ext x88
            replace b23 := b23.ext x88
            replace h1 := h1.ext x88
            replace bX := bX.ext x88
            replace b87 := b87.ext x88
            replace X := Ext.trans X x88; clear x88
            refine ops_cons rfl (ow_not rfl ?_)
            refine ops_cons rfl (ow_move rfl ?_)
            refine ops_want rfl rfl rfl (ow_move rfl ?_)
            refine ops_want rfl rfl rfl (ow_move rfl ?_)
            refine ops_want rfl rfl rfl (ow_neq2 rfl rfl (fun h90 => absurd h90 (by simp)) (fun h90 => ?_))
            refine ops_cons rfl (ow_pick rfl rfl ?_)
            refine ops_nil ?_
            refine c_false rfl ?_
            refine c_skip ?_
            refine tq_n ?_
            refine c_seq ?_
            refine c_seqI (fun wz => Blk wz gX 33 m1.cells ∧ Blk wz gM 26 m.cells) mixed ?_
            obtain ⟨w91, ew91⟩ : ∃ w2, w2 = World.drew w89 := ⟨_, rfl⟩
            rw [← ew91]
            have xd : Ext w89 w91 := ew91 ▸ Ext.drew w89
            replace hm := hm.ext xd
            replace bM := bM.ext xd
            replace bS := bS.ext xd
            replace b23 := b23.ext xd
            replace h1 := h1.ext xd
            replace bX := bX.ext xd
            replace b87 := b87.ext xd
            replace X := Ext.trans X xd; clear xd ew91
            refine wi_take 0 rfl (by kernel_rfl) rfl (by kernel_rfl) (listed' := #[true, false, false, false, false]) rfl (fun wq sq => ow_loadAB sq.1 ti33 rfl rfl ⟨rfl, rfl⟩) ?_
            refine wi_take 1 rfl (by kernel_rfl) rfl (by kernel_rfl) (listed' := #[true, true, false, false, false]) rfl (fun wq sq => ow_loadAB sq.2 ti26 rfl rfl ⟨rfl, rfl⟩) ?_
            refine wi_one 2 rfl rfl (by kernel_rfl) (listed' := #[true, true, true, false, false]) rfl ⟨bX, bM⟩ (ow_call ent16 rfl (ret_mono (toMedlR_c m _ _ hm hz) ?_))
            rintro _ w93 ⟨m2, rfl, e2, h2, x92⟩
            have Bh2 := h2.1
            replace hm := hm.ext x92
            replace bM := bM.ext x92
            replace bS := bS.ext x92
            replace b23 := b23.ext x92
            replace h1 := h1.ext x92
            replace bX := bX.ext x92
            replace b87 := b87.ext x92
            replace X := Ext.trans X x92; clear x92
            have z2 := MedlI.small_of e2 hz
            refine wi_one 3 rfl rfl (by kernel_rfl) (listed' := #[true, true, true, true, false]) rfl ⟨bX, bM⟩ (ow_call ent18 rfl (ret_mono (eqMedl_c m1 m2 _ _ _ h1 h2 (e2.trans e1.symm) z1) ?_))
            rintro _ w97 ⟨rfl, x96⟩
            replace hm := hm.ext x96
            replace bM := bM.ext x96
            replace bS := bS.ext x96
            replace b23 := b23.ext x96
            replace h1 := h1.ext x96
            replace bX := bX.ext x96
            replace b87 := b87.ext x96
            replace h2 := h2.ext x96
            replace X := Ext.trans X x96; clear x96
            refine wi_take 4 rfl (by kernel_rfl) rfl (by kernel_rfl) (listed' := #[true, true, true, true, true]) rfl (fun wq sq => ow_not rfl ⟨rfl, rfl⟩) ?_
            refine wi_done rfl ⟨bX, bM⟩ (fun aj fj => ⟨_, fj, ?_⟩)
            refine c_false rfl ?_
            refine c_skip ?_
            refine tq_n ?_
            refine c_seqR ?_
            refine ops_cons rfl (ow_assign rfl ?_)
            refine ops_nil ?_
            refine c_ret ?_
            refine fin_ret1 rfl rfl ?_
            exact ⟨rfl, X⟩
        · skip
          refine (ow_alloc ti44 ?_)
          intro g101 w100 eg101 b98 x99 zg101
          have lg101 : w.heap.size ≤ g101 := Nat.le_trans X.size (Nat.le_of_eq eg101.symm)
          have pg101hm := Nat.le_trans hm.1 (Nat.le_of_eq eg101.symm)
          have ng101bM := Nat.lt_of_lt_of_eq bM.lt eg101.symm
          have ng101bS := Nat.lt_of_lt_of_eq bS.lt eg101.symm
          have pg101h0 := Nat.le_trans h0.1 (Nat.le_of_eq eg101.symm)
          replace hm := hm.ext x99
          replace bM := bM.ext x99
          replace bS := bS.ext x99
          replace h0 := h0.ext x99
          replace X := Ext.trans X x99; clear x99
          refine wi_one 5 rfl rfl (by kernel_rfl) (listed' := #[true, true, true, true, true, true, false, false, false, true, false, false]) rfl ⟨bM, bS⟩ (ow_call ent40 rfl (ret_mono (by have h := sChange_c m0 _ s to _ h0 z0; rw [e0] at h; exact h) ?_))
          rintro _ w103 ⟨rfl, x102⟩
          replace hm := hm.ext x102
          replace bM := bM.ext x102
          replace bS := bS.ext x102
          replace h0 := h0.ext x102
          replace b98 := b98.ext x102
          replace X := Ext.trans X x102; clear x102
          refine wi_take 6 rfl (by kernel_rfl) rfl (by kernel_rfl) (listed' := #[true, true, true, true, true, true, true, false, false, true, false, false]) rfl (fun wq sq => ow_move rfl ⟨rfl, rfl⟩) ?_
          refine wi_take 7 rfl (by kernel_rfl) rfl (by kernel_rfl) (listed' := #[true, true, true, true, true, true, true, true, false, true, false, false]) rfl (fun wq sq => ow_extract rfl rfl ⟨rfl, rfl⟩) ?_
          refine wi_take 8 rfl (by kernel_rfl) rfl (by kernel_rfl) (listed' := #[true, true, true, true, true, true, true, true, true, true, false, false]) rfl (fun wq sq => ow_extract rfl rfl ⟨rfl, rfl⟩) ?_
          refine wi_one 10 rfl rfl (by kernel_rfl) (listed' := #[true, true, true, true, true, true, true, true, true, true, true, false]) rfl ⟨bM, bS⟩ (ow_storeB b98 ti44 rfl rfl rfl rfl rfl rfl ?_)
          intro w105 b107 hg104 z106
          replace hm := hm.grown hg104 (by intro g hg; injection hg; omega)
          replace bM := bM.grown hg104 (by intro h; injection h; omega)
          replace bS := bS.grown hg104 (by intro h; injection h; omega)
          replace X := X.grown hg104 X.size (by intro g hg; injection hg; omega)
          clear hg104 b98
          refine wi_take 11 rfl (by kernel_rfl) rfl (by kernel_rfl) (listed' := #[true, true, true, true, true, true, true, true, true, true, true, true]) rfl (fun wq sq => ow_assign rfl ⟨rfl, rfl⟩) ?_
          refine wi_done rfl ⟨bM, bS⟩ (fun aj fj => ⟨_, fj, ?_⟩)
          refine c_seqR ?_
          refine ops_cons rfl (ow_loadAB bM ti26 rfl rfl ?_)
          refine ops_cons rfl (ow_call ent16 rfl (ret_mono (toMedlR_c m _ _ hm hz) ?_))
          rintro _ w109 ⟨m1, rfl, e1, h1, x108⟩
          have Bh1 := h1.1
          replace hm := hm.ext x108
          replace bM := bM.ext x108
          replace bS := bS.ext x108
          replace b107 := b107.ext x108
          replace X := Ext.trans X x108; clear x108
          have z1 := MedlI.small_of e1 hz
          refine ops_cons rfl (ow_alloc ti33 ?_)
          intro gX w113 egX bA x112 zgX
          have lgX : w.heap.size ≤ gX := Nat.le_trans X.size (Nat.le_of_eq egX.symm)
          have pgXhm := Nat.le_trans hm.1 (Nat.le_of_eq egX.symm)
          have ngXbM := Nat.lt_of_lt_of_eq bM.lt egX.symm
          have ngXbS := Nat.lt_of_lt_of_eq bS.lt egX.symm
          have ngXb107 := Nat.lt_of_lt_of_eq b107.lt egX.symm
          have pgXh1 := Nat.le_trans h1.1 (Nat.le_of_eq egX.symm)
          replace hm := hm.ext x112
          replace bM := bM.ext x112
          replace bS := bS.ext x112
          replace b107 := b107.ext x112
          replace h1 := h1.ext x112
          replace X := Ext.trans X x112; clear x112
          refine ops_cons rfl (ow_storeB bA ti33 rfl rfl rfl rfl rfl rfl ?_)
          intro w115 bX hg114 z116
          replace hm := hm.grown hg114 (by intro g hg; injection hg; omega)
          replace bM := bM.grown hg114 (by intro h; injection h; omega)
          replace bS := bS.grown hg114 (by intro h; injection h; omega)
          replace b107 := b107.grown hg114 (by intro h; injection h; omega)
          replace h1 := h1.grown hg114 (by intro g hg; injection hg; omega)
          replace X := X.grown hg114 X.size (by intro g hg; injection hg; omega)
          clear hg114 bA
          refine ops_nil ?_
          refine c_seqI (fun wz => Blk wz gX 33 m1.cells ∧ Blk wz gS 42 s.cells) mixed ?_
          obtain ⟨w117, ew117⟩ : ∃ w2, w2 = World.drew w115 := ⟨_, rfl⟩
          rw [← ew117]
          have xd : Ext w115 w117 := ew117 ▸ Ext.drew w115
          replace hm := hm.ext xd
          replace bM := bM.ext xd
          replace bS := bS.ext xd
          replace b107 := b107.ext xd
          replace h1 := h1.ext xd
          replace bX := bX.ext xd
          replace X := Ext.trans X xd; clear xd ew117
          refine wi_take 0 rfl (by kernel_rfl) rfl (by kernel_rfl) (listed' := #[true, false, false, false, false, false, false, false, false, false, false]) rfl (fun wq sq => ow_loadAB sq.1 ti33 rfl rfl ⟨rfl, rfl⟩) ?_
          refine wi_take 1 rfl (by kernel_rfl) rfl (by kernel_rfl) (listed' := #[true, true, false, false, false, false, false, false, false, false, false]) rfl (fun wq sq => ow_loadAB sq.2 ti42 rfl rfl ⟨rfl, rfl⟩) ?_
          refine wi_take 3 rfl (by kernel_rfl) rfl (by kernel_rfl) (listed' := #[true, true, false, true, false, false, false, false, false, false, false]) rfl (fun wq sq => ow_move rfl ⟨rfl, rfl⟩) ?_
          refine wi_two 2 8 rfl rfl rfl rfl (by kernel_rfl) (listed' := #[true, true, true, true, false, false, false, false, false, false, false]) (listed'' := #[true, true, false, true, false, false, false, false, true, false, false]) rfl rfl ⟨bX, bS⟩ ?_ ?_
          · skip
            refine (ow_call ent24 rfl (ret_mono (toStateI_c _ _) ?_))
            rintro _ w119 ⟨rfl, x118⟩
            replace hm := hm.ext x118
            replace bM := bM.ext x118
            replace bS := bS.ext x118
            replace b107 := b107.ext x118
            replace h1 := h1.ext x118
            replace bX := bX.ext x118
            replace X := Ext.trans X x118; clear x118
            refine wi_two 4 8 rfl rfl rfl rfl (by kernel_rfl) (listed' := #[true, true, true, true, true, false, false, false, false, false, false]) (listed'' := #[true, true, true, true, false, false, false, false, true, false, false]) rfl rfl ⟨bX, bS⟩ ?_ ?_
            · skip
              refine (ow_call ent41 rfl (ret_mono (by have h := iChange_c m1 _ s to _ h1 z1; rw [e1] at h; exact h) ?_))
              rintro _ w121 ⟨rfl, x120⟩
              replace hm := hm.ext x120
              replace bM := bM.ext x120
              replace bS := bS.ext x120
              replace b107 := b107.ext x120
              replace h1 := h1.ext x120
              replace bX := bX.ext x120
              replace X := Ext.trans X x120; clear x120
              refine wi_take 5 rfl (by kernel_rfl) rfl (by kernel_rfl) (listed' := #[true, true, true, true, true, true, false, false, false, false, false]) rfl (fun wq sq => ow_move rfl ⟨rfl, rfl⟩) ?_
              refine wi_take 6 rfl (by kernel_rfl) rfl (by kernel_rfl) (listed' := #[true, true, true, true, true, true, true, false, false, false, false]) rfl (fun wq sq => ow_extract rfl rfl ⟨rfl, rfl⟩) ?_
              refine wi_take 7 rfl (by kernel_rfl) rfl (by kernel_rfl) (listed' := #[true, true, true, true, true, true, true, true, false, false, false]) rfl (fun wq sq => ow_extract rfl rfl ⟨rfl, rfl⟩) ?_
              refine wi_one 8 rfl rfl (by kernel_rfl) (listed' := #[true, true, true, true, true, true, true, true, true, false, false]) rfl ⟨bX, bS⟩ (ow_alloc ti44 ?_)
              intro g125 w124 eg125 b122 x123 zg125
              have lg125 : w.heap.size ≤ g125 := Nat.le_trans X.size (Nat.le_of_eq eg125.symm)
              have pg125hm := Nat.le_trans hm.1 (Nat.le_of_eq eg125.symm)
              have ng125bM := Nat.lt_of_lt_of_eq bM.lt eg125.symm
              have ng125bS := Nat.lt_of_lt_of_eq bS.lt eg125.symm
              have ng125b107 := Nat.lt_of_lt_of_eq b107.lt eg125.symm
              have pg125h1 := Nat.le_trans h1.1 (Nat.le_of_eq eg125.symm)
              have ng125bX := Nat.lt_of_lt_of_eq bX.lt eg125.symm
              replace hm := hm.ext x123
              replace bM := bM.ext x123
              replace bS := bS.ext x123
              replace b107 := b107.ext x123
              replace h1 := h1.ext x123
              replace bX := bX.ext x123
              replace X := Ext.trans X x123; clear x123
              refine wi_one 9 rfl rfl (by kernel_rfl) (listed' := #[true, true, true, true, true, true, true, true, true, true, false]) rfl ⟨bX, bS⟩ (ow_storeB b122 ti44 rfl rfl rfl rfl rfl rfl ?_)
              intro w127 b129 hg126 z128
              replace hm := hm.grown hg126 (by intro g hg; injection hg; omega)
              replace bM := bM.grown hg126 (by intro h; injection h; omega)
              replace bS := bS.grown hg126 (by intro h; injection h; omega)
              replace b107 := b107.grown hg126 (by intro h; injection h; omega)
              replace h1 := h1.grown hg126 (by intro g hg; injection hg; omega)
              replace bX := bX.grown hg126 (by intro h; injection h; omega)
              replace X := X.grown hg126 X.size (by intro g hg; injection hg; omega)
              clear hg126 b122
              refine wi_take 10 rfl (by kernel_rfl) rfl (by kernel_rfl) (listed' := #[true, true, true, true, true, true, true, true, true, true, true]) rfl (fun wq sq => ow_assign rfl ⟨rfl, rfl⟩) ?_
              refine wi_done rfl ⟨bX, bS⟩ (fun aj fj => ⟨_, fj, ?_⟩)
              refine c_seq ?_
              refine c_seqR ?_
              refine ops_cons rfl (ow_loadAB b129 ti44 rfl rfl ?_)
              refine ops_cons rfl (ow_loadAB b107 ti44 rfl rfl ?_)
              refine ops_cons rfl (ow_call ent39 rfl (ret_mono (eqStateI_c _ _) ?_))
              rintro _ w131 ⟨rfl, x130⟩
              replace hm := hm.ext x130
              replace bM := bM.ext x130
              replace bS := bS.ext x130
              replace b107 := b107.ext x130
              replace h1 := h1.ext x130
              replace bX := bX.ext x130
              replace b129 := b129.ext x130
              replace X := Ext.trans X x130; clear x130
              refine ops_cons rfl (ow_not rfl ?_)
              refine ops_cons rfl (ow_move rfl ?_)
              refine ops_want rfl rfl rfl (ow_move rfl ?_)
              refine ops_want rfl rfl rfl (ow_move rfl ?_)
              refine ops_want rfl rfl rfl (ow_neq2 rfl rfl (fun h132 => absurd h132 (by simp)) (fun h132 => ?_))
              refine ops_cons rfl (ow_pick rfl rfl ?_)
              refine ops_nil ?_
              refine c_false rfl ?_
              refine c_skip ?_
              refine tq_n ?_
              refine c_seq ?_
              refine c_seqI (fun wz => Blk wz gX 33 m1.cells ∧ Blk wz gM 26 m.cells) mixed ?_
              obtain ⟨w133, ew133⟩ : ∃ w2, w2 = World.drew w131 := ⟨_, rfl⟩
              rw [← ew133]
              have xd : Ext w131 w133 := ew133 ▸ Ext.drew w131
              replace hm := hm.ext xd
              replace bM := bM.ext xd
              replace bS := bS.ext xd
              replace b107 := b107.ext xd
              replace h1 := h1.ext xd
              replace bX := bX.ext xd
              replace b129 := b129.ext xd
              replace X := Ext.trans X xd; clear xd ew133
              refine wi_take 0 rfl (by kernel_rfl) rfl (by kernel_rfl) (listed' := #[true, false, false, false, false]) rfl (fun wq sq => ow_loadAB sq.1 ti33 rfl rfl ⟨rfl, rfl⟩) ?_
              refine wi_take 1 rfl (by kernel_rfl) rfl (by kernel_rfl) (listed' := #[true, true, false, false, false]) rfl (fun wq sq => ow_loadAB sq.2 ti26 rfl rfl ⟨rfl, rfl⟩) ?_
              refine wi_one 2 rfl rfl (by kernel_rfl) (listed' := #[true, true, true, false, false]) rfl ⟨bX, bM⟩ (ow_call ent16 rfl (ret_mono (toMedlR_c m _ _ hm hz) ?_))
              rintro _ w135 ⟨m2, rfl, e2, h2, x134⟩
              have Bh2 := h2.1
              replace hm := hm.ext x134
              replace bM := bM.ext x134
              replace bS := bS.ext x134
              replace b107 := b107.ext x134
              replace h1 := h1.ext x134
              replace bX := bX.ext x134
              replace b129 := b129.ext x134
              replace X := Ext.trans X x134; clear x134
              have z2 := MedlI.small_of e2 hz
              refine wi_one 3 rfl rfl (by kernel_rfl) (listed' := #[true, true, true, true, false]) rfl ⟨bX, bM⟩ (ow_call ent18 rfl (ret_mono (eqMedl_c m1 m2 _ _ _ h1 h2 (e2.trans e1.symm) z1) ?_))
              rintro _ w139 ⟨rfl, x138⟩
              replace hm := hm.ext x138
              replace bM := bM.ext x138
              replace bS := bS.ext x138
              replace b107 := b107.ext x138
              replace h1 := h1.ext x138
              replace bX := bX.ext x138
              replace b129 := b129.ext x138
              replace h2 := h2.ext x138
              replace X := Ext.trans X x138; clear x138
              refine wi_take 4 rfl (by kernel_rfl) rfl (by kernel_rfl) (listed' := #[true, true, true, true, true]) rfl (fun wq sq => ow_not rfl ⟨rfl, rfl⟩) ?_
              refine wi_done rfl ⟨bX, bM⟩ (fun aj fj => ⟨_, fj, ?_⟩)
              refine c_false rfl ?_
              refine c_skip ?_
              refine tq_n ?_
              refine c_seqR ?_
              refine ops_cons rfl (ow_assign rfl ?_)
              refine ops_nil ?_
              refine c_ret ?_
              refine fin_ret1 rfl rfl ?_
              exact ⟨rfl, X⟩
            · skip
              refine (ow_alloc ti44 ?_)
              intro g143 w142 eg143 b140 x141 zg143
              have lg143 : w.heap.size ≤ g143 := Nat.le_trans X.size (Nat.le_of_eq eg143.symm)
              have pg143hm := Nat.le_trans hm.1 (Nat.le_of_eq eg143.symm)
              have ng143bM := Nat.lt_of_lt_of_eq bM.lt eg143.symm
              have ng143bS := Nat.lt_of_lt_of_eq bS.lt eg143.symm
              have ng143b107 := Nat.lt_of_lt_of_eq b107.lt eg143.symm
              have pg143h1 := Nat.le_trans h1.1 (Nat.le_of_eq eg143.symm)
              have ng143bX := Nat.lt_of_lt_of_eq bX.lt eg143.symm
              replace hm := hm.ext x141
              replace bM := bM.ext x141
              replace bS := bS.ext x141
              replace b107 := b107.ext x141
              replace h1 := h1.ext x141
              replace bX := bX.ext x141
              replace X := Ext.trans X x141; clear x141
              refine wi_one 4 rfl rfl (by kernel_rfl) (listed' := #[true, true, true, true, true, false, false, false, true, false, false]) rfl ⟨bX, bS⟩ (ow_call ent41 rfl (ret_mono (by have h := iChange_c m1 _ s to _ h1 z1; rw [e1] at h; exact h) ?_))
              rintro _ w145 ⟨rfl, x144⟩
              replace hm := hm.ext x144
              replace bM := bM.ext x144
              replace bS := bS.ext x144
              replace b107 := b107.ext x144
              replace h1 := h1.ext x144
              replace bX := bX.ext x144
              replace b140 := b140.ext x144
              replace X := Ext.trans X x144; clear x144
              refine wi_take 5 rfl (by kernel_rfl) rfl (by kernel_rfl) (listed' := #[true, true, true, true, true, true, false, false, true, false, false]) rfl (fun wq sq => ow_move rfl ⟨rfl, rfl⟩) ?_
              refine wi_take 6 rfl (by kernel_rfl) rfl (by kernel_rfl) (listed' := #[true, true, true, true, true, true, true, false, true, false, false]) rfl (fun wq sq => ow_extract rfl rfl ⟨rfl, rfl⟩) ?_
              refine wi_take 7 rfl (by kernel_rfl) rfl (by kernel_rfl) (listed' := #[true, true, true, true, true, true, true, true, true, false, false]) rfl (fun wq sq => ow_extract rfl rfl ⟨rfl, rfl⟩) ?_
              refine wi_one 9 rfl rfl (by kernel_rfl) (listed' := #[true, true, true, true, true, true, true, true, true, true, false]) rfl ⟨bX, bS⟩ (ow_storeB b140 ti44 rfl rfl rfl rfl rfl rfl ?_)
              intro w147 b149 hg146 z148
              replace hm := hm.grown hg146 (by intro g hg; injection hg; omega)
              replace bM := bM.grown hg146 (by intro h; injection h; omega)
              replace bS := bS.grown hg146 (by intro h; injection h; omega)
              replace b107 := b107.grown hg146 (by intro h; injection h; omega)
              replace h1 := h1.grown hg146 (by intro g hg; injection hg; omega)
              replace bX := bX.grown hg146 (by intro h; injection h; omega)
              replace X := X.grown hg146 X.size (by intro g hg; injection hg; omega)
              clear hg146 b140
              refine wi_take 10 rfl (by kernel_rfl) rfl (by kernel_rfl) (listed' := #[true, true, true, true, true, true, true, true, true, true, true]) rfl (fun wq sq => ow_assign rfl ⟨rfl, rfl⟩) ?_
              refine wi_done rfl ⟨bX, bS⟩ (fun aj fj => ⟨_, fj, ?_⟩)
              refine c_seq ?_
              refine c_seqR ?_
              refine ops_cons rfl (ow_loadAB b149 ti44 rfl rfl ?_)
              refine ops_cons rfl (ow_loadAB b107 ti44 rfl rfl ?_)
              refine ops_cons rfl (ow_call ent39 rfl (ret_mono (eqStateI_c _ _) ?_))
              rintro _ w151 ⟨rfl, x150⟩
              replace hm := hm.ext x150
              replace bM := bM.ext x150
              replace bS := bS.ext x150
              replace b107 := b107.ext x150
              replace h1 := h1.ext x150
              replace bX := bX.ext x150
              replace b149 := b149.ext x150
              replace X := Ext.trans X x150; clear x150
              refine ops_cons rfl (ow_not rfl ?_)
              refine ops_cons rfl (ow_move rfl ?_)
              refine ops_want rfl rfl rfl (ow_move rfl ?_)
              refine ops_want rfl rfl rfl (ow_move rfl ?_)
              refine ops_want rfl rfl rfl (ow_neq2 rfl rfl (fun h152 => absurd h152 (by simp)) (fun h152 => ?_))
              refine ops_cons rfl (ow_pick rfl rfl ?_)
              refine ops_nil ?_
              refine c_false rfl ?_
              refine c_skip ?_
              refine tq_n ?_
              refine c_seq ?_
              refine c_seqI (fun wz => Blk wz gX 33 m1.cells ∧ Blk wz gM 26 m.cells) mixed ?_
              obtain ⟨w153, ew153⟩ : ∃ w2, w2 = World.drew w151 := ⟨_, rfl⟩
              rw [← ew153]
              have xd : Ext w151 w153 := ew153 ▸ Ext.drew w151
              replace hm := hm.ext xd
              replace bM := bM.ext xd
              replace bS := bS.ext xd
              replace b107 := b107.ext xd
              replace h1 := h1.ext xd
              replace bX := bX.ext xd
              replace b149 := b149.ext xd
              replace X := Ext.trans X xd; clear xd ew153
              refine wi_take 0 rfl (by kernel_rfl) rfl (by kernel_rfl) (listed' := #[true, false, false, false, false]) rfl (fun wq sq => ow_loadAB sq.1 ti33 rfl rfl ⟨rfl, rfl⟩) ?_
              refine wi_take 1 rfl (by kernel_rfl) rfl (by kernel_rfl) (listed' := #[true, true, false, false, false]) rfl (fun wq sq => ow_loadAB sq.2 ti26 rfl rfl ⟨rfl, rfl⟩) ?_
              refine wi_one 2 rfl rfl (by kernel_rfl) (listed' := #[true, true, true, false, false]) rfl ⟨bX, bM⟩ (ow_call ent16 rfl (ret_mono (toMedlR_c m _ _ hm hz) ?_))
              rintro _ w155 ⟨m2, rfl, e2, h2, x154⟩
              have Bh2 := h2.1
              replace hm := hm.ext x154
              replace bM := bM.ext x154
              replace bS := bS.ext x154
              replace b107 := b107.ext x154
              replace h1 := h1.ext x154
              replace bX := bX.ext x154
              replace b149 := b149.ext x154
              replace X := Ext.trans X x154; clear x154
              have z2 := MedlI.small_of e2 hz
              refine wi_one 3 rfl rfl (by kernel_rfl) (listed' := #[true, true, true, true, false]) rfl ⟨bX, bM⟩ (ow_call ent18 rfl (ret_mono (eqMedl_c m1 m2 _ _ _ h1 h2 (e2.trans e1.symm) z1) ?_))
              rintro _ w159 ⟨rfl, x158⟩
              replace hm := hm.ext x158
              replace bM := bM.ext x158
              replace bS := bS.ext x158
              replace b107 := b107.ext x158
              replace h1 := h1.ext x158
              replace bX := bX.ext x158
              replace b149 := b149.ext x158
              replace h2 := h2.ext x158
              replace X := Ext.trans X x158; clear x158
              refine wi_take 4 rfl (by kernel_rfl) rfl (by kernel_rfl) (listed' := #[true, true, true, true, true]) rfl (fun wq sq => ow_not rfl ⟨rfl, rfl⟩) ?_
              refine wi_done rfl ⟨bX, bM⟩ (fun aj fj => ⟨_, fj, ?_⟩)
              refine c_false rfl ?_
              refine c_skip ?_
              refine tq_n ?_
              refine c_seqR ?_
              refine ops_cons rfl (ow_assign rfl ?_)
              refine ops_nil ?_
              refine c_ret ?_
              refine fin_ret1 rfl rfl ?_
              exact ⟨rfl, X⟩
          · skip
            refine (ow_alloc ti44 ?_)
            intro g163 w162 eg163 b160 x161 zg163
            have lg163 : w.heap.size ≤ g163 := Nat.le_trans X.size (Nat.le_of_eq eg163.symm)
            have pg163hm := Nat.le_trans hm.1 (Nat.le_of_eq eg163.symm)
            have ng163bM := Nat.lt_of_lt_of_eq bM.lt eg163.symm
            have ng163bS := Nat.lt_of_lt_of_eq bS.lt eg163.symm
            have ng163b107 := Nat.lt_of_lt_of_eq b107.lt eg163.symm
            have pg163h1 := Nat.le_trans h1.1 (Nat.le_of_eq eg163.symm)
            have ng163bX := Nat.lt_of_lt_of_eq bX.lt eg163.symm
            replace hm := hm.ext x161
            replace bM := bM.ext x161
            replace bS := bS.ext x161
            replace b107 := b107.ext x161
            replace h1 := h1.ext x161
            replace bX := bX.ext x161
            replace X := Ext.trans X x161; clear x161
            refine wi_one 2 rfl rfl (by kernel_rfl) (listed' := #[true, true, true, true, false, false, false, false, true, false, false]) rfl ⟨bX, bS⟩ (ow_call ent24 rfl (ret_mono (toStateI_c _ _) ?_))
            rintro _ w165 ⟨rfl, x164⟩
            replace hm := hm.ext x164
            replace bM := bM.ext x164
            replace bS := bS.ext x164
            replace b107 := b107.ext x164
            replace h1 := h1.ext x164
            replace bX := bX.ext x164
            replace b160 := b160.ext x164
            replace X := Ext.trans X x164; clear x164
            refine wi_one 4 rfl rfl (by kernel_rfl) (listed' := #[true, true, true, true, true, false, false, false, true, false, false]) rfl ⟨bX, bS⟩ (ow_call ent41 rfl (ret_mono (by have h := iChange_c m1 _ s to _ h1 z1; rw [e1] at h; exact h) ?_))
            rintro _ w167 ⟨rfl, x166⟩
            replace hm := hm.ext x166
            replace bM := bM.ext x166
            replace bS := bS.ext x166
            replace b107 := b107.ext x166
            replace h1 := h1.ext x166
            replace bX := bX.ext x166
            replace b160 := b160.ext x166
            replace X := Ext.trans X x166; clear x166
            refine wi_take 5 rfl (by kernel_rfl) rfl (by kernel_rfl) (listed' := #[true, true, true, true, true, true, false, false, true, false, false]) rfl (fun wq sq => ow_move rfl ⟨rfl, rfl⟩) ?_
            refine wi_take 6 rfl (by kernel_rfl) rfl (by kernel_rfl) (listed' := #[true, true, true, true, true, true, true, false, true, false, false]) rfl (fun wq sq => ow_extract rfl rfl ⟨rfl, rfl⟩) ?_
            refine wi_take 7 rfl (by kernel_rfl) rfl (by kernel_rfl) (listed' := #[true, true, true, true, true, true, true, true, true, false, false]) rfl (fun wq sq => ow_extract rfl rfl ⟨rfl, rfl⟩) ?_
            refine wi_one 9 rfl rfl (by kernel_rfl) (listed' := #[true, true, true, true, true, true, true, true, true, true, false]) rfl ⟨bX, bS⟩ (ow_storeB b160 ti44 rfl rfl rfl rfl rfl rfl ?_)
            intro w169 b171 hg168 z170
            replace hm := hm.grown hg168 (by intro g hg; injection hg; omega)
            replace bM := bM.grown hg168 (by intro h; injection h; omega)
            replace bS := bS.grown hg168 (by intro h; injection h; omega)
            replace b107 := b107.grown hg168 (by intro h; injection h; omega)
            replace h1 := h1.grown hg168 (by intro g hg; injection hg; omega)
            replace bX := bX.grown hg168 (by intro h; injection h; omega)
            replace X := X.grown hg168 X.size (by intro g hg; injection hg; omega)
            clear hg168 b160
            refine wi_take 10 rfl (by kernel_rfl) rfl (by kernel_rfl) (listed' := #[true, true, true, true, true, true, true, true, true, true, true]) rfl (fun wq sq => ow_assign rfl ⟨rfl, rfl⟩) ?_
            refine wi_done rfl ⟨bX, bS⟩ (fun aj fj => ⟨_, fj, ?_⟩)
            refine c_seq ?_
            refine c_seqR ?_
            refine ops_cons rfl (ow_loadAB b171 ti44 rfl rfl ?_)
            refine ops_cons rfl (ow_loadAB b107 ti44 rfl rfl ?_)
            refine ops_cons rfl (ow_call ent39 rfl (ret_mono (eqStateI_c _ _) ?_))
            rintro _ w173 ⟨rfl, x172⟩
            replace hm := hm.ext x172
            replace bM := bM.ext x172
            replace bS := bS.ext x172
            replace b107 := b107.ext x172
            replace h1 := h1.ext x172
            replace bX := bX.ext x172
            replace b171 := b171.ext x172
            replace X := Ext.trans X x172; clear x172
            refine ops_cons rfl (ow_not rfl ?_)
            refine ops_cons rfl (ow_move rfl ?_)
            refine ops_want rfl rfl rfl (ow_move rfl ?_)
            refine ops_want rfl rfl rfl (ow_move rfl ?_)
            refine ops_want rfl rfl rfl (ow_neq2 rfl rfl (fun h174 => absurd h174 (by simp)) (fun h174 => ?_))
            refine ops_cons rfl (ow_pick rfl rfl ?_)
            refine ops_nil ?_
            refine c_false rfl ?_
            refine c_skip ?_
            refine tq_n ?_
            refine c_seq ?_
            refine c_seqI (fun wz => Blk wz gX 33 m1.cells ∧ Blk wz gM 26 m.cells) mixed ?_
            obtain ⟨w175, ew175⟩ : ∃ w2, w2 = World.drew w173 := ⟨_, rfl⟩
            rw [← ew175]
            have xd : Ext w173 w175 := ew175 ▸ Ext.drew w173
            replace hm := hm.ext xd
            replace bM := bM.ext xd
            replace bS := bS.ext xd
            replace b107 := b107.ext xd
            replace h1 := h1.ext xd
            replace bX := bX.ext xd
            replace b171 := b171.ext xd
            replace X := Ext.trans X xd; clear xd ew175
            refine wi_take 0 rfl (by kernel_rfl) rfl (by kernel_rfl) (listed' := #[true, false, false, false, false]) rfl (fun wq sq => ow_loadAB sq.1 ti33 rfl rfl ⟨rfl, rfl⟩) ?_
            refine wi_take 1 rfl (by kernel_rfl) rfl (by kernel_rfl) (listed' := #[true, true, false, false, false]) rfl (fun wq sq => ow_loadAB sq.2 ti26 rfl rfl ⟨rfl, rfl⟩) ?_
            refine wi_one 2 rfl rfl (by kernel_rfl) (listed' := #[true, true, true, false, false]) rfl ⟨bX, bM⟩ (ow_call ent16 rfl (ret_mono (toMedlR_c m _ _ hm hz) ?_))
            rintro _ w177 ⟨m2, rfl, e2, h2, x176⟩
            have Bh2 := h2.1
            replace hm := hm.ext x176
            replace bM := bM.ext x176
            replace bS := bS.ext x176
            replace b107 := b107.ext x176
            replace h1 := h1.ext x176
            replace bX := bX.ext x176
            replace b171 := b171.ext x176
            replace X := Ext.trans X x176; clear x176
            have z2 := MedlI.small_of e2 hz
            refine wi_one 3 rfl rfl (by kernel_rfl) (listed' := #[true, true, true, true, false]) rfl ⟨bX, bM⟩ (ow_call ent18 rfl (ret_mono (eqMedl_c m1 m2 _ _ _ h1 h2 (e2.trans e1.symm) z1) ?_))
            rintro _ w181 ⟨rfl, x180⟩
            replace hm := hm.ext x180
            replace bM := bM.ext x180
            replace bS := bS.ext x180
            replace b107 := b107.ext x180
            replace h1 := h1.ext x180
            replace bX := bX.ext x180
            replace b171 := b171.ext x180
            replace h2 := h2.ext x180
            replace X := Ext.trans X x180; clear x180
            refine wi_take 4 rfl (by kernel_rfl) rfl (by kernel_rfl) (listed' := #[true, true, true, true, true]) rfl (fun wq sq => ow_not rfl ⟨rfl, rfl⟩) ?_
            refine wi_done rfl ⟨bX, bM⟩ (fun aj fj => ⟨_, fj, ?_⟩)
            refine c_false rfl ?_
            refine c_skip ?_
            refine tq_n ?_
            refine c_seqR ?_
            refine ops_cons rfl (ow_assign rfl ?_)
            refine ops_nil ?_
            refine c_ret ?_
            refine fin_ret1 rfl rfl ?_
            exact ⟨rfl, X⟩
      · skip
        refine (ow_alloc ti44 ?_)
        intro g185 w184 eg185 b182 x183 zg185
        have lg185 : w.heap.size ≤ g185 := Nat.le_trans X.size (Nat.le_of_eq eg185.symm)
        have pg185hm := Nat.le_trans hm.1 (Nat.le_of_eq eg185.symm)
        have ng185bM := Nat.lt_of_lt_of_eq bM.lt eg185.symm
        have ng185bS := Nat.lt_of_lt_of_eq bS.lt eg185.symm
        have pg185h0 := Nat.le_trans h0.1 (Nat.le_of_eq eg185.symm)
        replace hm := hm.ext x183
        replace bM := bM.ext x183
        replace bS := bS.ext x183
        replace h0 := h0.ext x183
        replace X := Ext.trans X x183; clear x183
        refine wi_one 3 rfl rfl (by kernel_rfl) (listed' := #[true, true, true, true, true, false, false, false, false, true, false, false]) rfl ⟨bM, bS⟩ (ow_call ent24 rfl (ret_mono (toStateI_c _ _) ?_))
        rintro _ w187 ⟨rfl, x186⟩
        replace hm := hm.ext x186
        replace bM := bM.ext x186
        replace bS := bS.ext x186
        replace h0 := h0.ext x186
        replace b182 := b182.ext x186
        replace X := Ext.trans X x186; clear x186
        refine wi_one 5 rfl rfl (by kernel_rfl) (listed' := #[true, true, true, true, true, true, false, false, false, true, false, false]) rfl ⟨bM, bS⟩ (ow_call ent40 rfl (ret_mono (by have h := sChange_c m0 _ s to _ h0 z0; rw [e0] at h; exact h) ?_))
        rintro _ w189 ⟨rfl, x188⟩
        replace hm := hm.ext x188
        replace bM := bM.ext x188
        replace bS := bS.ext x188
        replace h0 := h0.ext x188
        replace b182 := b182.ext x188
        replace X := Ext.trans X x188; clear x188
        refine wi_take 6 rfl (by kernel_rfl) rfl (by kernel_rfl) (listed' := #[true, true, true, true, true, true, true, false, false, true, false, false]) rfl (fun wq sq => ow_move rfl ⟨rfl, rfl⟩) ?_
        refine wi_take 7 rfl (by kernel_rfl) rfl (by kernel_rfl) (listed' := #[true, true, true, true, true, true, true, true, false, true, false, false]) rfl (fun wq sq => ow_extract rfl rfl ⟨rfl, rfl⟩) ?_
        refine wi_take 8 rfl (by kernel_rfl) rfl (by kernel_rfl) (listed' := #[true, true, true, true, true, true, true, true, true, true, false, false]) rfl (fun wq sq => ow_extract rfl rfl ⟨rfl, rfl⟩) ?_
        refine wi_one 10 rfl rfl (by kernel_rfl) (listed' := #[true, true, true, true, true, true, true, true, true, true, true, false]) rfl ⟨bM, bS⟩ (ow_storeB b182 ti44 rfl rfl rfl rfl rfl rfl ?_)
        intro w191 b193 hg190 z192
        replace hm := hm.grown hg190 (by intro g hg; injection hg; omega)
        replace bM := bM.grown hg190 (by intro h; injection h; omega)
        replace bS := bS.grown hg190 (by intro h; injection h; omega)
        replace X := X.grown hg190 X.size (by intro g hg; injection hg; omega)
        clear hg190 b182
        refine wi_take 11 rfl (by kernel_rfl) rfl (by kernel_rfl) (listed' := #[true, true, true, true, true, true, true, true, true, true, true, true]) rfl (fun wq sq => ow_assign rfl ⟨rfl, rfl⟩) ?_
        refine wi_done rfl ⟨bM, bS⟩ (fun aj fj => ⟨_, fj, ?_⟩)
        refine c_seqR ?_
        refine ops_cons rfl (ow_loadAB bM ti26 rfl rfl ?_)
        refine ops_cons rfl (ow_call ent16 rfl (ret_mono (toMedlR_c m _ _ hm hz) ?_))
        rintro _ w195 ⟨m1, rfl, e1, h1, x194⟩
        have Bh1 := h1.1
        replace hm := hm.ext x194
        replace bM := bM.ext x194
        replace bS := bS.ext x194
        replace b193 := b193.ext x194
        replace X := Ext.trans X x194; clear x194
        have z1 := MedlI.small_of e1 hz
        refine ops_cons rfl (ow_alloc ti33 ?_)
        intro gX w199 egX bA x198 zgX
        have lgX : w.heap.size ≤ gX := Nat.le_trans X.size (Nat.le_of_eq egX.symm)
        have pgXhm := Nat.le_trans hm.1 (Nat.le_of_eq egX.symm)
        have ngXbM := Nat.lt_of_lt_of_eq bM.lt egX.symm
        have ngXbS := Nat.lt_of_lt_of_eq bS.lt egX.symm
        have ngXb193 := Nat.lt_of_lt_of_eq b193.lt egX.symm
        have pgXh1 := Nat.le_trans h1.1 (Nat.le_of_eq egX.symm)
        replace hm := hm.ext x198
        replace bM := bM.ext x198
        replace bS := bS.ext x198
        replace b193 := b193.ext x198
        replace h1 := h1.ext x198
        replace X := Ext.trans X x198; clear x198
        refine ops_cons rfl (ow_storeB bA ti33 rfl rfl rfl rfl rfl rfl ?_)
        intro w201 bX hg200 z202
        replace hm := hm.grown hg200 (by intro g hg; injection hg; omega)
        replace bM := bM.grown hg200 (by intro h; injection h; omega)
        replace bS := bS.grown hg200 (by intro h; injection h; omega)
        replace b193 := b193.grown hg200 (by intro h; injection h; omega)
        replace h1 := h1.grown hg200 (by intro g hg; injection hg; omega)
        replace X := X.grown hg200 X.size (by intro g hg; injection hg; omega)
        clear hg200 bA
        refine ops_nil ?_
        refine c_seqI (fun wz => Blk wz gX 33 m1.cells ∧ Blk wz gS 42 s.cells) mixed ?_
        obtain ⟨w203, ew203⟩ : ∃ w2, w2 = World.drew w201 := ⟨_, rfl⟩
        rw [← ew203]
        have xd : Ext w201 w203 := ew203 ▸ Ext.drew w201
        replace hm := hm.ext xd
        replace bM := bM.ext xd
        replace bS := bS.ext xd
        replace b193 := b193.ext xd
        replace h1 := h1.ext xd
        replace bX := bX.ext xd
        replace X := Ext.trans X xd; clear xd ew203
        refine wi_take 0 rfl (by kernel_rfl) rfl (by kernel_rfl) (listed' := #[true, false, false, false, false, false, false, false, false, false, false]) rfl (fun wq sq => ow_loadAB sq.1 ti33 rfl rfl ⟨rfl, rfl⟩) ?_
        refine wi_take 1 rfl (by kernel_rfl) rfl (by kernel_rfl) (listed' := #[true, true, false, false, false, false, false, false, false, false, false]) rfl (fun wq sq => ow_loadAB sq.2 ti42 rfl rfl ⟨rfl, rfl⟩) ?_
        refine wi_take 3 rfl (by kernel_rfl) rfl (by kernel_rfl) (listed' := #[true, true, false, true, false, false, false, false, false, false, false]) rfl (fun wq sq => ow_move rfl ⟨rfl, rfl⟩) ?_
        refine wi_two 2 8 rfl rfl rfl rfl (by kernel_rfl) (listed' := #[true, true, true, true, false, false, false, false, false, false, false]) (listed'' := #[true, true, false, true, false, false, false, false, true, false, false]) rfl rfl ⟨bX, bS⟩ ?_ ?_
        · skip
          refine (ow_call ent24 rfl (ret_mono (toStateI_c _ _) ?_))
          rintro _ w205 ⟨rfl, x204⟩
          replace hm := hm.ext x204
          replace bM := bM.ext x204
          replace bS := bS.ext x204
          replace b193 := b193.ext x204
          replace h1 := h1.ext x204
          replace bX := bX.ext x204
          replace X := Ext.trans X x204; clear x204
          refine wi_two 4 8 rfl rfl rfl rfl (by kernel_rfl) (listed' := #[true, true, true, true, true, false, false, false, false, false, false]) (listed'' := #[true, true, true, true, false, false, false, false, true, false, false]) rfl rfl ⟨bX, bS⟩ ?_ ?_
          · skip
            refine (ow_call ent41 rfl (ret_mono (by have h := iChange_c m1 _ s to _ h1 z1; rw [e1] at h; exact h) ?_))
            rintro _ w207 ⟨rfl, x206⟩
            replace hm := hm.ext x206
            replace bM := bM.ext x206
            replace bS := bS.ext x206
            replace b193 := b193.ext x206
            replace h1 := h1.ext x206
            replace bX := bX.ext x206
            replace X := Ext.trans X x206; clear x206
            refine wi_take 5 rfl (by kernel_rfl) rfl (by kernel_rfl) (listed' := #[true, true, true, true, true, true, false, false, false, false, false]) rfl (fun wq sq => ow_move rfl ⟨rfl, rfl⟩) ?_
            refine wi_take 6 rfl (by kernel_rfl) rfl (by kernel_rfl) (listed' := #[true, true, true, true, true, true, true, false, false, false, false]) rfl (fun wq sq => ow_extract rfl rfl ⟨rfl, rfl⟩) ?_
            refine wi_take 7 rfl (by kernel_rfl) rfl (by kernel_rfl) (listed' := #[true, true, true, true, true, true, true, true, false, false, false]) rfl (fun wq sq => ow_extract rfl rfl ⟨rfl, rfl⟩) ?_
            refine wi_one 8 rfl rfl (by kernel_rfl) (listed' := #[true, true, true, true, true, true, true, true, true, false, false]) rfl ⟨bX, bS⟩ (ow_alloc ti44 ?_)
            intro g211 w210 eg211 b208 x209 zg211
            have lg211 : w.heap.size ≤ g211 := Nat.le_trans X.size (Nat.le_of_eq eg211.symm)
            have pg211hm := Nat.le_trans hm.1 (Nat.le_of_eq eg211.symm)
            have ng211bM := Nat.lt_of_lt_of_eq bM.lt eg211.symm
            have ng211bS := Nat.lt_of_lt_of_eq bS.lt eg211.symm
            have ng211b193 := Nat.lt_of_lt_of_eq b193.lt eg211.symm
            have pg211h1 := Nat.le_trans h1.1 (Nat.le_of_eq eg211.symm)
            have ng211bX := Nat.lt_of_lt_of_eq bX.lt eg211.symm
            replace hm := hm.ext x209
            replace bM := bM.ext x209
            replace bS := bS.ext x209
            replace b193 := b193.ext x209
            replace h1 := h1.ext x209
            replace bX := bX.ext x209
            replace X := Ext.trans X x209; clear x209
            refine wi_one 9 rfl rfl (by kernel_rfl) (listed' := #[true, true, true, true, true, true, true, true, true, true, false]) rfl ⟨bX, bS⟩ (ow_storeB b208 ti44 rfl rfl rfl rfl rfl rfl ?_)
            intro w213 b215 hg212 z214
            replace hm := hm.grown hg212 (by intro g hg; injection hg; omega)
            replace bM := bM.grown hg212 (by intro h; injection h; omega)
            replace bS := bS.grown hg212 (by intro h; injection h; omega)
            replace b193 := b193.grown hg212 (by intro h; injection h; omega)
            replace h1 := h1.grown hg212 (by intro g hg; injection hg; omega)
            replace bX := bX.grown hg212 (by intro h; injection h; omega)
            replace X := X.grown hg212 X.size (by intro g hg; injection hg; omega)
            clear hg212 b208
            refine wi_take 10 rfl (by kernel_rfl) rfl (by kernel_rfl) (listed' := #[true, true, true, true, true, true, true, true, true, true, true]) rfl (fun wq sq => ow_assign rfl ⟨rfl, rfl⟩) ?_
            refine wi_done rfl ⟨bX, bS⟩ (fun aj fj => ⟨_, fj, ?_⟩)
            refine c_seq ?_
            refine c_seqR ?_
            refine ops_cons rfl (ow_loadAB b215 ti44 rfl rfl ?_)
            refine ops_cons rfl (ow_loadAB b193 ti44 rfl rfl ?_)
            refine ops_cons rfl (ow_call ent39 rfl (ret_mono (eqStateI_c _ _) ?_))
            rintro _ w217 ⟨rfl, x216⟩
            replace hm := hm.ext x216
            replace bM := bM.ext x216
            replace bS := bS.ext x216
            replace b193 := b193.ext x216
            replace h1 := h1.ext x216
            replace bX := bX.ext x216
            replace b215 := b215.ext x216
            replace X := Ext.trans X x216; clear x216
            refine ops_cons rfl (ow_not rfl ?_)
            refine ops_cons rfl (ow_move rfl ?_)
            refine ops_want rfl rfl rfl (ow_move rfl ?_)
            refine ops_want rfl rfl rfl (ow_move rfl ?_)
            refine ops_want rfl rfl rfl (ow_neq2 rfl rfl (fun h218 => absurd h218 (by simp)) (fun h218 => ?_))
            refine ops_cons rfl (ow_pick rfl rfl ?_)
            refine ops_nil ?_
            refine c_false rfl ?_
            refine c_skip ?_
            refine tq_n ?_
            refine c_seq ?_
            refine c_seqI (fun wz => Blk wz gX 33 m1.cells ∧ Blk wz gM 26 m.cells) mixed ?_
            obtain ⟨w219, ew219⟩ : ∃ w2, w2 = World.drew w217 := ⟨_, rfl⟩
            rw [← ew219]
            have xd : Ext w217 w219 := ew219 ▸ Ext.drew w217
            replace hm := hm.ext xd
            replace bM := bM.ext xd
            replace bS := bS.ext xd
            replace b193 := b193.ext xd
            replace h1 := h1.ext xd
            replace bX := bX.ext xd
            replace b215 := b215.ext xd
            replace X := Ext.trans X xd; clear xd ew219
            refine wi_take 0 rfl (by kernel_rfl) rfl (by kernel_rfl) (listed' := #[true, false, false, false, false]) rfl (fun wq sq => ow_loadAB sq.1 ti33 rfl rfl ⟨rfl, rfl⟩) ?_
            refine wi_take 1 rfl (by kernel_rfl) rfl (by kernel_rfl) (listed' := #[true, true, false, false, false]) rfl (fun wq sq => ow_loadAB sq.2 ti26 rfl rfl ⟨rfl, rfl⟩) ?_
            refine wi_one 2 rfl rfl (by kernel_rfl) (listed' := #[true, true, true, false, false]) rfl ⟨bX, bM⟩ (ow_call ent16 rfl (ret_mono (toMedlR_c m _ _ hm hz) ?_))
            rintro _ w221 ⟨m2, rfl, e2, h2, x220⟩
            have Bh2 := h2.1
            replace hm := hm.ext x220
            replace bM := bM.ext x220
            replace bS := bS.ext x220
            replace b193 := b193.ext x220
            replace h1 := h1.ext x220
            replace bX := bX.ext x220
            replace b215 := b215.ext x220
            replace X := Ext.trans X x220; clear x220
            have z2 := MedlI.small_of e2 hz
            refine wi_one 3 rfl rfl (by kernel_rfl) (listed' := #[true, true, true, true, false]) rfl ⟨bX, bM⟩ (ow_call ent18 rfl (ret_mono (eqMedl_c m1 m2 _ _ _ h1 h2 (e2.trans e1.symm) z1) ?_))
            rintro _ w225 ⟨rfl, x224⟩
            replace hm := hm.ext x224
            replace bM := bM.ext x224
            replace bS := bS.ext x224
            replace b193 := b193.ext x224
            replace h1 := h1.ext x224
            replace bX := bX.ext x224
            replace b215 := b215.ext x224
            replace h2 := h2.ext x224
            replace X := Ext.trans X x224; clear x224
            refine wi_take 4 rfl (by kernel_rfl) rfl (by kernel_rfl) (listed' := #[true, true, true, true, true]) rfl (fun wq sq => ow_not rfl ⟨rfl, rfl⟩) ?_
            refine wi_done rfl ⟨bX, bM⟩ (fun aj fj => ⟨_, fj, ?_⟩)
            refine c_false rfl ?_
            refine c_skip ?_
            refine tq_n ?_
            refine c_seqR ?_
            refine ops_cons rfl (ow_assign rfl ?_)
            refine ops_nil ?_
            refine c_ret ?_
            refine fin_ret1 rfl rfl ?_
            exact ⟨rfl, X⟩
          · skip
            refine (ow_alloc ti44 ?_)
            intro g229 w228 eg229 b226 x227 zg229
            have lg229 : w.heap.size ≤ g229 := Nat.le_trans X.size (Nat.le_of_eq eg229.symm)
            have pg229hm := Nat.le_trans hm.1 (Nat.le_of_eq eg229.symm)
            have ng229bM := Nat.lt_of_lt_of_eq bM.lt eg229.symm
            have ng229bS := Nat.lt_of_lt_of_eq bS.lt eg229.symm
            have ng229b193 := Nat.lt_of_lt_of_eq b193.lt eg229.symm
            have pg229h1 := Nat.le_trans h1.1 (Nat.le_of_eq eg229.symm)
            have ng229bX := Nat.lt_of_lt_of_eq bX.lt eg229.symm
            replace hm := hm.ext x227
            replace bM := bM.ext x227
            replace bS := bS.ext x227
            replace b193 := b193.ext x227
            replace h1 := h1.ext x227
            replace bX := bX.ext x227
            replace X := Ext.trans X x227; clear x227
            refine wi_one 4 rfl rfl (by kernel_rfl) (listed' := #[true, true, true, true, true, false, false, false, true, false, false]) rfl ⟨bX, bS⟩ (ow_call ent41 rfl (ret_mono (by have h := iChange_c m1 _ s to _ h1 z1; rw [e1] at h; exact h) ?_))
            rintro _ w231 ⟨rfl, x230⟩
            replace hm := hm.ext x230
            replace bM := bM.ext x230
            replace bS := bS.ext x230
            replace b193 := b193.ext x230
            replace h1 := h1.ext x230
            replace bX := bX.ext x230
            replace b226 := b226.ext x230
            replace X := Ext.trans X x230; clear x230
            refine wi_take 5 rfl (by kernel_rfl) rfl (by kernel_rfl) (listed' := #[true, true, true, true, true, true, false, false, true, false, false]) rfl (fun wq sq => ow_move rfl ⟨rfl, rfl⟩) ?_
            refine wi_take 6 rfl (by kernel_rfl) rfl (by kernel_rfl) (listed' := #[true, true, true, true, true, true, true, false, true, false, false]) rfl (fun wq sq => ow_extract rfl rfl ⟨rfl, rfl⟩) ?_
            refine wi_take 7 rfl (by kernel_rfl) rfl (by kernel_rfl) (listed' := #[true, true, true, true, true, true, true, true, true, false, false]) rfl (fun wq sq => ow_extract rfl rfl ⟨rfl, rfl⟩) ?_
            refine wi_one 9 rfl rfl (by kernel_rfl) (listed' := #[true, true, true, true, true, true, true, true, true, true, false]) rfl ⟨bX, bS⟩ (ow_storeB b226 ti44 rfl rfl rfl rfl rfl rfl ?_)
            intro w233 b235 hg232 z234
            replace hm := hm.grown hg232 (by intro g hg; injection hg; omega)
            replace bM := bM.grown hg232 (by intro h; injection h; omega)
            replace bS := bS.grown hg232 (by intro h; injection h; omega)
            replace b193 := b193.grown hg232 (by intro h; injection h; omega)
            replace h1 := h1.grown hg232 (by intro g hg; injection hg; omega)
            replace bX := bX.grown hg232 (by intro h; injection h; omega)
            replace X := X.grown hg232 X.size (by intro g hg; injection hg; omega)
            clear hg232 b226
            refine wi_take 10 rfl (by kernel_rfl) rfl (by kernel_rfl) (listed' := #[true, true, true, true, true, true, true, true, true, true, true]) rfl (fun wq sq => ow_assign rfl ⟨rfl, rfl⟩) ?_
            refine wi_done rfl ⟨bX, bS⟩ (fun aj fj => ⟨_, fj, ?_⟩)
            refine c_seq ?_
            refine c_seqR ?_
            refine ops_cons rfl (ow_loadAB b235 ti44 rfl rfl ?_)
            refine ops_cons rfl (ow_loadAB b193 ti44 rfl rfl ?_)
            refine ops_cons rfl (ow_call ent39 rfl (ret_mono (eqStateI_c _ _) ?_))
            rintro _ w237 ⟨rfl, x236⟩
            replace hm := hm.ext x236
            replace bM := bM.ext x236
            replace bS := bS.ext x236
            replace b193 := b193.ext x236
            replace h1 := h1.ext x236
            replace bX := bX.ext x236
            replace b235 := b235.ext x236
            replace X := Ext.trans X x236; clear x236
            refine ops_cons rfl (ow_not rfl ?_)
            refine ops_cons rfl (ow_move rfl ?_)
            refine ops_want rfl rfl rfl (ow_move rfl ?_)
            refine ops_want rfl rfl rfl (ow_move rfl ?_)
            refine ops_want rfl rfl rfl (ow_neq2 rfl rfl (fun h238 => absurd h238 (by simp)) (fun h238 => ?_))
            refine ops_cons rfl (ow_pick rfl rfl ?_)
            refine ops_nil ?_
            refine c_false rfl ?_
            refine c_skip ?_
            refine tq_n ?_
            refine c_seq ?_
            refine c_seqI (fun wz => Blk wz gX 33 m1.cells ∧ Blk wz gM 26 m.cells) mixed ?_
            obtain ⟨w239, ew239⟩ : ∃ w2, w2 = World.drew w237 := ⟨_, rfl⟩
            rw [← ew239]
            have xd : Ext w237 w239 := ew239 ▸ Ext.drew w237
            replace hm := hm.ext xd
            replace bM := bM.ext xd
            replace bS := bS.ext xd
            replace b193 := b193.ext xd
            replace h1 := h1.ext xd
            replace bX := bX.ext xd
            replace b235 := b235.ext xd
            replace X := Ext.trans X xd; clear xd ew239
            refine wi_take 0 rfl (by kernel_rfl) rfl (by kernel_rfl) (listed' := #[true, false, false, false, false]) rfl (fun wq sq => ow_loadAB sq.1 ti33 rfl rfl ⟨rfl, rfl⟩) ?_
            refine wi_take 1 rfl (by kernel_rfl) rfl (by kernel_rfl) (listed' := #[true, true, false, false, false]) rfl (fun wq sq => ow_loadAB sq.2 ti26 rfl rfl ⟨rfl, rfl⟩) ?_
            refine wi_one 2 rfl rfl (by kernel_rfl) (listed' := #[true, true, true, false, false]) rfl ⟨bX, bM⟩ (ow_call ent16 rfl (ret_mono (toMedlR_c m _ _ hm hz) ?_))
            rintro _ w241 ⟨m2, rfl, e2, h2, x240⟩
            have Bh2 := h2.1
            replace hm := hm.ext x240
            replace bM := bM.ext x240
            replace bS := bS.ext x240
            replace b193 := b193.ext x240
            replace h1 := h1.ext x240
            replace bX := bX.ext x240
            replace b235 := b235.ext x240
            replace X := Ext.trans X x240; clear x240
            have z2 := MedlI.small_of e2 hz
            refine wi_one 3 rfl rfl (by kernel_rfl) (listed' := #[true, true, true, true, false]) rfl ⟨bX, bM⟩ (ow_call ent18 rfl (ret_mono (eqMedl_c m1 m2 _ _ _ h1 h2 (e2.trans e1.symm) z1) ?_))
            rintro _ w245 ⟨rfl, x244⟩
            replace hm := hm.ext x244
            replace bM := bM.ext x244
            replace bS := bS.ext x244
            replace b193 := b193.ext x244
            replace h1 := h1.ext x244
            replace bX := bX.ext x244
            replace b235 := b235.ext x244
            replace h2 := h2.ext x244
            replace X := Ext.trans X x244; clear x244
            refine wi_take 4 rfl (by kernel_rfl) rfl (by kernel_rfl) (listed' := #[true, true, true, true, true]) rfl (fun wq sq => ow_not rfl ⟨rfl, rfl⟩) ?_
            refine wi_done rfl ⟨bX, bM⟩ (fun aj fj => ⟨_, fj, ?_⟩)
            refine c_false rfl ?_
            refine c_skip ?_
            refine tq_n ?_
            refine c_seqR ?_
            refine ops_cons rfl (ow_assign rfl ?_)
            refine ops_nil ?_
            refine c_ret ?_
            refine fin_ret1 rfl rfl ?_
            exact ⟨rfl, X⟩
        · skip
          refine (ow_alloc ti44 ?_)
          intro g249 w248 eg249 b246 x247 zg249
          have lg249 : w.heap.size ≤ g249 := Nat.le_trans X.size (Nat.le_of_eq eg249.symm)
          have pg249hm := Nat.le_trans hm.1 (Nat.le_of_eq eg249.symm)
          have ng249bM := Nat.lt_of_lt_of_eq bM.lt eg249.symm
          have ng249bS := Nat.lt_of_lt_of_eq bS.lt eg249.symm
          have ng249b193 := Nat.lt_of_lt_of_eq b193.lt eg249.symm
          have pg249h1 := Nat.le_trans h1.1 (Nat.le_of_eq eg249.symm)
          have ng249bX := Nat.lt_of_lt_of_eq bX.lt eg249.symm
          replace hm := hm.ext x247
          replace bM := bM.ext x247
          replace bS := bS.ext x247
          replace b193 := b193.ext x247
          replace h1 := h1.ext x247
          replace bX := bX.ext x247
          replace X := Ext.trans X x247; clear x247
          refine wi_one 2 rfl rfl (by kernel_rfl) (listed' := #[true, true, true, true, false, false, false, false, true, false, false]) rfl ⟨bX, bS⟩ (ow_call ent24 rfl (ret_mono (toStateI_c _ _) ?_))
          rintro _ w251 ⟨rfl, x250⟩
          replace hm := hm.ext x250
          replace bM := bM.ext x250
          replace bS := bS.ext x250
          replace b193 := b193.ext x250
          replace h1 := h1.ext x250
          replace bX := bX.ext x250
          replace b246 := b246.ext x250
          replace X := Ext.trans X x250; clear x250
          refine wi_one 4 rfl rfl (by kernel_rfl) (listed' := #[true, true, true, true, true, false, false, false, true, false, false]) rfl ⟨bX, bS⟩ (ow_call ent41 rfl (ret_mono (by have h := iChange_c m1 _ s to _ h1 z1; rw [e1] at h; exact h) ?_))
          rintro _ w253 ⟨rfl, x252⟩
          replace hm := hm.ext x252
          replace bM := bM.ext x252
          replace bS := bS.ext x252
          replace b193 := b193.ext x252
          replace h1 := h1.ext x252
          replace bX := bX.ext x252
          replace b246 := b246.ext x252
          replace X := Ext.trans X x252; clear x252
          refine wi_take 5 rfl (by kernel_rfl) rfl (by kernel_rfl) (listed' := #[true, true, true, true, true, true, false, false, true, false, false]) rfl (fun wq sq => ow_move rfl ⟨rfl, rfl⟩) ?_
          refine wi_take 6 rfl (by kernel_rfl) rfl (by kernel_rfl) (listed' := #[true, true, true, true, true, true, true, false, true, false, false]) rfl (fun wq sq => ow_extract rfl rfl ⟨rfl, rfl⟩) ?_
          refine wi_take 7 rfl (by kernel_rfl) rfl (by kernel_rfl) (listed' := #[true, true, true, true, true, true, true, true, true, false, false]) rfl (fun wq sq => ow_extract rfl rfl ⟨rfl, rfl⟩) ?_
          refine wi_one 9 rfl rfl (by kernel_rfl) (listed' := #[true, true, true, true, true, true, true, true, true, true, false]) rfl ⟨bX, bS⟩ (ow_storeB b246 ti44 rfl rfl rfl rfl rfl rfl ?_)
          intro w255 b257 hg254 z256
          replace hm := hm.grown hg254 (by intro g hg; injection hg; omega)
          replace bM := bM.grown hg254 (by intro h; injection h; omega)
          replace bS := bS.grown hg254 (by intro h; injection h; omega)
          replace b193 := b193.grown hg254 (by intro h; injection h; omega)
          replace h1 := h1.grown hg254 (by intro g hg; injection hg; omega)
          replace bX := bX.grown hg254 (by intro h; injection h; omega)
          replace X := X.grown hg254 X.size (by intro g hg; injection hg; omega)
          clear hg254 b246
          refine wi_take 10 rfl (by kernel_rfl) rfl (by kernel_rfl) (listed' := #[true, true, true, true, true, true, true, true, true, true, true]) rfl (fun wq sq => ow_assign rfl ⟨rfl, rfl⟩) ?_
          refine wi_done rfl ⟨bX, bS⟩ (fun aj fj => ⟨_, fj, ?_⟩)
          refine c_seq ?_
          refine c_seqR ?_
          refine ops_cons rfl (ow_loadAB b257 ti44 rfl rfl ?_)
          refine ops_cons rfl (ow_loadAB b193 ti44 rfl rfl ?_)
          refine ops_cons rfl (ow_call ent39 rfl (ret_mono (eqStateI_c _ _) ?_))
          rintro _ w259 ⟨rfl, x258⟩
          replace hm := hm.ext x258
          replace bM := bM.ext x258
          replace bS := bS.ext x258
          replace b193 := b193.ext x258
          replace h1 := h1.ext x258
          replace bX := bX.ext x258
          replace b257 := b257.ext x258
          replace X := Ext.trans X x258; clear x258
          refine ops_cons rfl (ow_not rfl ?_)
          refine ops_cons rfl (ow_move rfl ?_)
          refine ops_want rfl rfl rfl (ow_move rfl ?_)
          refine ops_want rfl rfl rfl (ow_move rfl ?_)
          refine ops_want rfl rfl rfl (ow_neq2 rfl rfl (fun h260 => absurd h260 (by simp)) (fun h260 => ?_))
          refine ops_cons rfl (ow_pick rfl rfl ?_)
          refine ops_nil ?_
          refine c_false rfl ?_
          refine c_skip ?_
          refine tq_n ?_
          refine c_seq ?_
          refine c_seqI (fun wz => Blk wz gX 33 m1.cells ∧ Blk wz gM 26 m.cells) mixed ?_
          obtain ⟨w261, ew261⟩ : ∃ w2, w2 = World.drew w259 := ⟨_, rfl⟩
          rw [← ew261]
          have xd : Ext w259 w261 := ew261 ▸ Ext.drew w259
          replace hm := hm.ext xd
          replace bM := bM.ext xd
          replace bS := bS.ext xd
          replace b193 := b193.ext xd
          replace h1 := h1.ext xd
          replace bX := bX.ext xd
          replace b257 := b257.ext xd
          replace X := Ext.trans X xd; clear xd ew261
          refine wi_take 0 rfl (by kernel_rfl) rfl (by kernel_rfl) (listed' := #[true, false, false, false, false]) rfl (fun wq sq => ow_loadAB sq.1 ti33 rfl rfl ⟨rfl, rfl⟩) ?_
          refine wi_take 1 rfl (by kernel_rfl) rfl (by kernel_rfl) (listed' := #[true, true, false, false, false]) rfl (fun wq sq => ow_loadAB sq.2 ti26 rfl rfl ⟨rfl, rfl⟩) ?_
          refine wi_one 2 rfl rfl (by kernel_rfl) (listed' := #[true, true, true, false, false]) rfl ⟨bX, bM⟩ (ow_call ent16 rfl (ret_mono (toMedlR_c m _ _ hm hz) ?_))
          rintro _ w263 ⟨m2, rfl, e2, h2, x262⟩
          have Bh2 := h2.1
          replace hm := hm.ext x262
          replace bM := bM.ext x262
          replace bS := bS.ext x262
          replace b193 := b193.ext x262
          replace h1 := h1.ext x262
          replace bX := bX.ext x262
          replace b257 := b257.ext x262
          replace X := Ext.trans X x262; clear x262
          have z2 := MedlI.small_of e2 hz
          refine wi_one 3 rfl rfl (by kernel_rfl) (listed' := #[true, true, true, true, false]) rfl ⟨bX, bM⟩ (ow_call ent18 rfl (ret_mono (eqMedl_c m1 m2 _ _ _ h1 h2 (e2.trans e1.symm) z1) ?_))
          rintro _ w267 ⟨rfl, x266⟩
          replace hm := hm.ext x266
          replace bM := bM.ext x266
          replace bS := bS.ext x266
          replace b193 := b193.ext x266
          replace h1 := h1.ext x266
          replace bX := bX.ext x266
          replace b257 := b257.ext x266
          replace h2 := h2.ext x266
          replace X := Ext.trans X x266; clear x266
          refine wi_take 4 rfl (by kernel_rfl) rfl (by kernel_rfl) (listed' := #[true, true, true, true, true]) rfl (fun wq sq => ow_not rfl ⟨rfl, rfl⟩) ?_
          refine wi_done rfl ⟨bX, bM⟩ (fun aj fj => ⟨_, fj, ?_⟩)
          refine c_false rfl ?_
          refine c_skip ?_
          refine tq_n ?_
          refine c_seqR ?_
          refine ops_cons rfl (ow_assign rfl ?_)
          refine ops_nil ?_
          refine c_ret ?_
          refine fin_ret1 rfl rfl ?_
          exact ⟨rfl, X⟩
    · skip
      refine (ow_alloc ti44 ?_)
      intro g271 w270 eg271 b268 x269 zg271
      have lg271 : w.heap.size ≤ g271 := Nat.le_trans X.size (Nat.le_of_eq eg271.symm)
      have pg271hm := Nat.le_trans hm.1 (Nat.le_of_eq eg271.symm)
      have ng271bM := Nat.lt_of_lt_of_eq bM.lt eg271.symm
      have ng271bS := Nat.lt_of_lt_of_eq bS.lt eg271.symm
      replace hm := hm.ext x269
      replace bM := bM.ext x269
      replace bS := bS.ext x269
      replace X := Ext.trans X x269; clear x269
      refine wi_one 1 rfl rfl (by kernel_rfl) (listed' := #[true, true, true, false, true, false, false, false, false, true, false, false]) rfl ⟨bM, bS⟩ (ow_call ent16 rfl (ret_mono (toMedlR_c m _ _ hm hz) ?_))
      rintro _ w273 ⟨m0, rfl, e0, h0, x272⟩
      have Bh0 := h0.1
      replace hm := hm.ext x272
      replace bM := bM.ext x272
      replace bS := bS.ext x272
      replace b268 := b268.ext x272
      replace X := Ext.trans X x272; clear x272
      have z0 := MedlI.small_of e0 hz
      refine wi_one 3 rfl rfl (by kernel_rfl) (listed' := #[true, true, true, true, true, false, false, false, false, true, false, false]) rfl ⟨bM, bS⟩ (ow_call ent24 rfl (ret_mono (toStateI_c _ _) ?_))
      rintro _ w277 ⟨rfl, x276⟩
      replace hm := hm.ext x276
      replace bM := bM.ext x276
      replace bS := bS.ext x276
      replace b268 := b268.ext x276
      replace h0 := h0.ext x276
      replace X := Ext.trans X x276; clear x276
      refine wi_one 5 rfl rfl (by kernel_rfl) (listed' := #[true, true, true, true, true, true, false, false, false, true, false, false]) rfl ⟨bM, bS⟩ (ow_call ent40 rfl (ret_mono (by have h := sChange_c m0 _ s to _ h0 z0; rw [e0] at h; exact h) ?_))
      rintro _ w279 ⟨rfl, x278⟩
      replace hm := hm.ext x278
      replace bM := bM.ext x278
      replace bS := bS.ext x278
      replace b268 := b268.ext x278
      replace h0 := h0.ext x278
      replace X := Ext.trans X x278; clear x278
      refine wi_take 6 rfl (by kernel_rfl) rfl (by kernel_rfl) (listed' := #[true, true, true, true, true, true, true, false, false, true, false, false]) rfl (fun wq sq => ow_move rfl ⟨rfl, rfl⟩) ?_
      refine wi_take 7 rfl (by kernel_rfl) rfl (by kernel_rfl) (listed' := #[true, true, true, true, true, true, true, true, false, true, false, false]) rfl (fun wq sq => ow_extract rfl rfl ⟨rfl, rfl⟩) ?_
      refine wi_take 8 rfl (by kernel_rfl) rfl (by kernel_rfl) (listed' := #[true, true, true, true, true, true, true, true, true, true, false, false]) rfl (fun wq sq => ow_extract rfl rfl ⟨rfl, rfl⟩) ?_
      refine wi_one 10 rfl rfl (by kernel_rfl) (listed' := #[true, true, true, true, true, true, true, true, true, true, true, false]) rfl ⟨bM, bS⟩ (ow_storeB b268 ti44 rfl rfl rfl rfl rfl rfl ?_)
      intro w281 b283 hg280 z282
      replace hm := hm.grown hg280 (by intro g hg; injection hg; omega)
      replace bM := bM.grown hg280 (by intro h; injection h; omega)
      replace bS := bS.grown hg280 (by intro h; injection h; omega)
      replace X := X.grown hg280 X.size (by intro g hg; injection hg; omega)
      clear hg280 b268
      refine wi_take 11 rfl (by kernel_rfl) rfl (by kernel_rfl) (listed' := #[true, true, true, true, true, true, true, true, true, true, true, true]) rfl (fun wq sq => ow_assign rfl ⟨rfl, rfl⟩) ?_
      refine wi_done rfl ⟨bM, bS⟩ (fun aj fj => ⟨_, fj, ?_⟩)
      refine c_seqR ?_
      refine ops_cons rfl (ow_loadAB bM ti26 rfl rfl ?_)
      refine ops_cons rfl (ow_call ent16 rfl (ret_mono (toMedlR_c m _ _ hm hz) ?_))
      rintro _ w285 ⟨m1, rfl, e1, h1, x284⟩
      have Bh1 := h1.1
      replace hm := hm.ext x284
      replace bM := bM.ext x284
      replace bS := bS.ext x284
      replace b283 := b283.ext x284
      replace X := Ext.trans X x284; clear x284
      have z1 := MedlI.small_of e1 hz
      refine ops_cons rfl (ow_alloc ti33 ?_)
      intro gX w289 egX bA x288 zgX
      have lgX : w.heap.size ≤ gX := Nat.le_trans X.size (Nat.le_of_eq egX.symm)
      have pgXhm := Nat.le_trans hm.1 (Nat.le_of_eq egX.symm)
      have ngXbM := Nat.lt_of_lt_of_eq bM.lt egX.symm
      have ngXbS := Nat.lt_of_lt_of_eq bS.lt egX.symm
      have ngXb283 := Nat.lt_of_lt_of_eq b283.lt egX.symm
      have pgXh1 := Nat.le_trans h1.1 (Nat.le_of_eq egX.symm)
      replace hm := hm.ext x288
      replace bM := bM.ext x288
      replace bS := bS.ext x288
      replace b283 := b283.ext x288
      replace h1 := h1.ext x288
      replace X := Ext.trans X x288; clear x288
      refine ops_cons rfl (ow_storeB bA ti33 rfl rfl rfl rfl rfl rfl ?_)
      intro w291 bX hg290 z292
      replace hm := hm.grown hg290 (by intro g hg; injection hg; omega)
      replace bM := bM.grown hg290 (by intro h; injection h; omega)
      replace bS := bS.grown hg290 (by intro h; injection h; omega)
      replace b283 := b283.grown hg290 (by intro h; injection h; omega)
      replace h1 := h1.grown hg290 (by intro g hg; injection hg; omega)
      replace X := X.grown hg290 X.size (by intro g hg; injection hg; omega)
      clear hg290 bA
      refine ops_nil ?_
      refine c_seqI (fun wz => Blk wz gX 33 m1.cells ∧ Blk wz gS 42 s.cells) mixed ?_
      obtain ⟨w293, ew293⟩ : ∃ w2, w2 = World.drew w291 := ⟨_, rfl⟩
      rw [← ew293]
      have xd : Ext w291 w293 := ew293 ▸ Ext.drew w291
      replace hm := hm.ext xd
      replace bM := bM.ext xd
      replace bS := bS.ext xd
      replace b283 := b283.ext xd
      replace h1 := h1.ext xd
      replace bX := bX.ext xd
      replace X := Ext.trans X xd; clear xd ew293
      refine wi_take 0 rfl (by kernel_rfl) rfl (by kernel_rfl) (listed' := #[true, false, false, false, false, false, false, false, false, false, false]) rfl (fun wq sq => ow_loadAB sq.1 ti33 rfl rfl ⟨rfl, rfl⟩) ?_
      refine wi_take 1 rfl (by kernel_rfl) rfl (by kernel_rfl) (listed' := #[true, true, false, false, false, false, false, false, false, false, false]) rfl (fun wq sq => ow_loadAB sq.2 ti42 rfl rfl ⟨rfl, rfl⟩) ?_
      refine wi_take 3 rfl (by kernel_rfl) rfl (by kernel_rfl) (listed' := #[true, true, false, true, false, false, false, false, false, false, false]) rfl (fun wq sq => ow_move rfl ⟨rfl, rfl⟩) ?_
      refine wi_two 2 8 rfl rfl rfl rfl (by kernel_rfl) (listed' := #[true, true, true, true, false, false, false, false, false, false, false]) (listed'' := #[true, true, false, true, false, false, false, false, true, false, false]) rfl rfl ⟨bX, bS⟩ ?_ ?_
      · skip
        refine (ow_call ent24 rfl (ret_mono (toStateI_c _ _) ?_))
        rintro _ w295 ⟨rfl, x294⟩
        replace hm := hm.ext x294
        replace bM := bM.ext x294
        replace bS := bS.ext x294
        replace b283 := b283.ext x294
        replace h1 := h1.ext x294
        replace bX := bX.ext x294
        replace X := Ext.trans X x294; clear x294
        refine wi_two 4 8 rfl rfl rfl rfl (by kernel_rfl) (listed' := #[true, true, true, true, true, false, false, false, false, false, false]) (listed'' := #[true, true, true, true, false, false, false, false, true, false, false]) rfl rfl ⟨bX, bS⟩ ?_ ?_
        · skip
          refine (ow_call ent41 rfl (ret_mono (by have h := iChange_c m1 _ s to _ h1 z1; rw [e1] at h; exact h) ?_))
          rintro _ w297 ⟨rfl, x296⟩
          replace hm := hm.ext x296
          replace bM := bM.ext x296
          replace bS := bS.ext x296
          replace b283 := b283.ext x296
          replace h1 := h1.ext x296
          replace bX := bX.ext x296
          replace X := Ext.trans X x296; clear x296
          refine wi_take 5 rfl (by kernel_rfl) rfl (by kernel_rfl) (listed' := #[true, true, true, true, true, true, false, false, false, false, false]) rfl (fun wq sq => ow_move rfl ⟨rfl, rfl⟩) ?_
          refine wi_take 6 rfl (by kernel_rfl) rfl (by kernel_rfl) (listed' := #[true, true, true, true, true, true, true, false, false, false, false]) rfl (fun wq sq => ow_extract rfl rfl ⟨rfl, rfl⟩) ?_
          refine wi_take 7 rfl (by kernel_rfl) rfl (by kernel_rfl) (listed' := #[true, true, true, true, true, true, true, true, false, false, false]) rfl (fun wq sq => ow_extract rfl rfl ⟨rfl, rfl⟩) ?_
          refine wi_one 8 rfl rfl (by kernel_rfl) (listed' := #[true, true, true, true, true, true, true, true, true, false, false]) rfl ⟨bX, bS⟩ (ow_alloc ti44 ?_)
          intro g301 w300 eg301 b298 x299 zg301
          have lg301 : w.heap.size ≤ g301 := Nat.le_trans X.size (Nat.le_of_eq eg301.symm)
          have pg301hm := Nat.le_trans hm.1 (Nat.le_of_eq eg301.symm)
          have ng301bM := Nat.lt_of_lt_of_eq bM.lt eg301.symm
          have ng301bS := Nat.lt_of_lt_of_eq bS.lt eg301.symm
          have ng301b283 := Nat.lt_of_lt_of_eq b283.lt eg301.symm
          have pg301h1 := Nat.le_trans h1.1 (Nat.le_of_eq eg301.symm)
          have ng301bX := Nat.lt_of_lt_of_eq bX.lt eg301.symm
          replace hm := hm.ext x299
          replace bM := bM.ext x299
          replace bS := bS.ext x299
          replace b283 := b283.ext x299
          replace h1 := h1.ext x299
          replace bX := bX.ext x299
          replace X := Ext.trans X x299; clear x299
          refine wi_one 9 rfl rfl (by kernel_rfl) (listed' := #[true, true, true, true, true, true, true, true, true, true, false]) rfl ⟨bX, bS⟩ (ow_storeB b298 ti44 rfl rfl rfl rfl rfl rfl ?_)
          intro w303 b305 hg302 z304
          replace hm := hm.grown hg302 (by intro g hg; injection hg; omega)
          replace bM := bM.grown hg302 (by intro h; injection h; omega)
          replace bS := bS.grown hg302 (by intro h; injection h; omega)
          replace b283 := b283.grown hg302 (by intro h; injection h; omega)
          replace h1 := h1.grown hg302 (by intro g hg; injection hg; omega)
          replace bX := bX.grown hg302 (by intro h; injection h; omega)
          replace X := X.grown hg302 X.size (by intro g hg; injection hg; omega)
          clear hg302 b298
          refine wi_take 10 rfl (by kernel_rfl) rfl (by kernel_rfl) (listed' := #[true, true, true, true, true, true, true, true, true, true, true]) rfl (fun wq sq => ow_assign rfl ⟨rfl, rfl⟩) ?_
          refine wi_done rfl ⟨bX, bS⟩ (fun aj fj => ⟨_, fj, ?_⟩)
          refine c_seq ?_
          refine c_seqR ?_
          refine ops_cons rfl (ow_loadAB b305 ti44 rfl rfl ?_)
          refine ops_cons rfl (ow_loadAB b283 ti44 rfl rfl ?_)
          refine ops_cons rfl (ow_call ent39 rfl (ret_mono (eqStateI_c _ _) ?_))
          rintro _ w307 ⟨rfl, x306⟩
          replace hm := hm.ext x306
          replace bM := bM.ext x306
          replace bS := bS.ext x306
          replace b283 := b283.ext x306
          replace h1 := h1.ext x306
          replace bX := bX.ext x306
          replace b305 := b305.ext x306
          replace X := Ext.trans X x306; clear x306
          refine ops_cons rfl (ow_not rfl ?_)
          refine ops_cons rfl (ow_move rfl ?_)
          refine ops_want rfl rfl rfl (ow_move rfl ?_)
          refine ops_want rfl rfl rfl (ow_move rfl ?_)
          refine ops_want rfl rfl rfl (ow_neq2 rfl rfl (fun h308 => absurd h308 (by simp)) (fun h308 => ?_))
          refine ops_cons rfl (ow_pick rfl rfl ?_)
          refine ops_nil ?_
          refine c_false rfl ?_
          refine c_skip ?_
          refine tq_n ?_
          refine c_seq ?_
          refine c_seqI (fun wz => Blk wz gX 33 m1.cells ∧ Blk wz gM 26 m.cells) mixed ?_
          obtain ⟨w309, ew309⟩ : ∃ w2, w2 = World.drew w307 := ⟨_, rfl⟩
          rw [← ew309]
          have xd : Ext w307 w309 := ew309 ▸ Ext.drew w307
          replace hm := hm.ext xd
          replace bM := bM.ext xd
          replace bS := bS.ext xd
          replace b283 := b283.ext xd
          replace h1 := h1.ext xd
          replace bX := bX.ext xd
          replace b305 := b305.ext xd
          replace X := Ext.trans X xd; clear xd ew309
          refine wi_take 0 rfl (by kernel_rfl) rfl (by kernel_rfl) (listed' := #[true, false, false, false, false]) rfl (fun wq sq => ow_loadAB sq.1 ti33 rfl rfl ⟨rfl, rfl⟩) ?_
          refine wi_take 1 rfl (by kernel_rfl) rfl (by kernel_rfl) (listed' := #[true, true, false, false, false]) rfl (fun wq sq => ow_loadAB sq.2 ti26 rfl rfl ⟨rfl, rfl⟩) ?_
          refine wi_one 2 rfl rfl (by kernel_rfl) (listed' := #[true, true, true, false, false]) rfl ⟨bX, bM⟩ (ow_call ent16 rfl (ret_mono (toMedlR_c m _ _ hm hz) ?_))
          rintro _ w311 ⟨m2, rfl, e2, h2, x310⟩
          have Bh2 := h2.1
          replace hm := hm.ext x310
          replace bM := bM.ext x310
          replace bS := bS.ext x310
          replace b283 := b283.ext x310
          replace h1 := h1.ext x310
          replace bX := bX.ext x310
          replace b305 := b305.ext x310
          replace X := Ext.trans X x310; clear x310
          have z2 := MedlI.small_of e2 hz
          refine wi_one 3 rfl rfl (by kernel_rfl) (listed' := #[true, true, true, true, false]) rfl ⟨bX, bM⟩ (ow_call ent18 rfl (ret_mono (eqMedl_c m1 m2 _ _ _ h1 h2 (e2.trans e1.symm) z1) ?_))
          rintro _ w315 ⟨rfl, x314⟩
          replace hm := hm.ext x314
          replace bM := bM.ext x314
          replace bS := bS.ext x314
          replace b283 := b283.ext x314
          replace h1 := h1.ext x314
          replace bX := bX.ext x314
          replace b305 := b305.ext x314
          replace h2 := h2.ext x314
          replace X := Ext.trans X x314; clear x314
          refine wi_take 4 rfl (by kernel_rfl) rfl (by kernel_rfl) (listed' := #[true, true, true, true, true]) rfl (fun wq sq => ow_not rfl ⟨rfl, rfl⟩) ?_
          refine wi_done rfl ⟨bX, bM⟩ (fun aj fj => ⟨_, fj, ?_⟩)
          refine c_false rfl ?_
          refine c_skip ?_
          refine tq_n ?_
          refine c_seqR ?_
          refine ops_cons rfl (ow_assign rfl ?_)
          refine ops_nil ?_
          refine c_ret ?_
          refine fin_ret1 rfl rfl ?_
          exact ⟨rfl, X⟩
        · skip
          refine (ow_alloc ti44 ?_)
          intro g319 w318 eg319 b316 x317 zg319
          have lg319 : w.heap.size ≤ g319 := Nat.le_trans X.size (Nat.le_of_eq eg319.symm)
          have pg319hm := Nat.le_trans hm.1 (Nat.le_of_eq eg319.symm)
          have ng319bM := Nat.lt_of_lt_of_eq bM.lt eg319.symm
          have ng319bS := Nat.lt_of_lt_of_eq bS.lt eg319.symm
          have ng319b283 := Nat.lt_of_lt_of_eq b283.lt eg319.symm
          have pg319h1 := Nat.le_trans h1.1 (Nat.le_of_eq eg319.symm)
          have ng319bX := Nat.lt_of_lt_of_eq bX.lt eg319.symm
          replace hm := hm.ext x317
          replace bM := bM.ext x317
          replace bS := bS.ext x317
          replace b283 := b283.ext x317
          replace h1 := h1.ext x317
          replace bX := bX.ext x317
          replace X := Ext.trans X x317; clear x317
          refine wi_one 4 rfl rfl (by kernel_rfl) (listed' := #[true, true, true, true, true, false, false, false, true, false, false]) rfl ⟨bX, bS⟩ (ow_call ent41 rfl (ret_mono (by have h := iChange_c m1 _ s to _ h1 z1; rw [e1] at h; exact h) ?_))
          rintro _ w321 ⟨rfl, x320⟩
          replace hm := hm.ext x320
          replace bM := bM.ext x320
          replace bS := bS.ext x320
          replace b283 := b283.ext x320
          replace h1 := h1.ext x320
          replace bX := bX.ext x320
          replace b316 := b316.ext x320
          replace X := Ext.trans X x320; clear x320
          refine wi_take 5 rfl (by kernel_rfl) rfl (by kernel_rfl) (listed' := #[true, true, true, true, true, true, false, false, true, false, false]) rfl (fun wq sq => ow_move rfl ⟨rfl, rfl⟩) ?_
          refine wi_take 6 rfl (by kernel_rfl) rfl (by kernel_rfl) (listed' := #[true, true, true, true, true, true, true, false, true, false, false]) rfl (fun wq sq => ow_extract rfl rfl ⟨rfl, rfl⟩) ?_
          refine wi_take 7 rfl (by kernel_rfl) rfl (by kernel_rfl) (listed' := #[true, true, true, true, true, true, true, true, true, false, false]) rfl (fun wq sq => ow_extract rfl rfl ⟨rfl, rfl⟩) ?_
          refine wi_one 9 rfl rfl (by kernel_rfl) (listed' := #[true, true, true, true, true, true, true, true, true, true, false]) rfl ⟨bX, bS⟩ (ow_storeB b316 ti44 rfl rfl rfl rfl rfl rfl ?_)
          intro w323 b325 hg322 z324
          replace hm := hm.grown hg322 (by intro g hg; injection hg; omega)
          replace bM := bM.grown hg322 (by intro h; injection h; omega)
          replace bS := bS.grown hg322 (by intro h; injection h; omega)
          replace b283 := b283.grown hg322 (by intro h; injection h; omega)
          replace h1 := h1.grown hg322 (by intro g hg; injection hg; omega)
          replace bX := bX.grown hg322 (by intro h; injection h; omega)
          replace X := X.grown hg322 X.size (by intro g hg; injection hg; omega)
          clear hg322 b316
          refine wi_take 10 rfl (by kernel_rfl) rfl (by kernel_rfl) (listed' := #[true, true, true, true, true, true, true, true, true, true, true]) rfl (fun wq sq => ow_assign rfl ⟨rfl, rfl⟩) ?_
          refine wi_done rfl ⟨bX, bS⟩ (fun aj fj => ⟨_, fj, ?_⟩)
          refine c_seq ?_
          refine c_seqR ?_
          refine ops_cons rfl (ow_loadAB b325 ti44 rfl rfl ?_)
          refine ops_cons rfl (ow_loadAB b283 ti44 rfl rfl ?_)
          refine ops_cons rfl (ow_call ent39 rfl (ret_mono (eqStateI_c _ _) ?_))
          rintro _ w327 ⟨rfl, x326⟩
          replace hm := hm.ext x326
          replace bM := bM.ext x326
          replace bS := bS.ext x326
          replace b283 := b283.ext x326
          replace h1 := h1.ext x326
          replace bX := bX.ext x326
          replace b325 := b325.ext x326
          replace X := Ext.trans X x326; clear x326
          refine ops_cons rfl (ow_not rfl ?_)
          refine ops_cons rfl (ow_move rfl ?_)
          refine ops_want rfl rfl rfl (ow_move rfl ?_)
          refine ops_want rfl rfl rfl (ow_move rfl ?_)
          refine ops_want rfl rfl rfl (ow_neq2 rfl rfl (fun h328 => absurd h328 (by simp)) (fun h328 => ?_))
          refine ops_cons rfl (ow_pick rfl rfl ?_)
          refine ops_nil ?_
          refine c_false rfl ?_
          refine c_skip ?_
          refine tq_n ?_
          refine c_seq ?_
          refine c_seqI (fun wz => Blk wz gX 33 m1.cells ∧ Blk wz gM 26 m.cells) mixed ?_
          obtain ⟨w329, ew329⟩ : ∃ w2, w2 = World.drew w327 := ⟨_, rfl⟩
          rw [← ew329]
          have xd : Ext w327 w329 := ew329 ▸ Ext.drew w327
          replace hm := hm.ext xd
          replace bM := bM.ext xd
          replace bS := bS.ext xd
          replace b283 := b283.ext xd
          replace h1 := h1.ext xd
          replace bX := bX.ext xd
          replace b325 := b325.ext xd
          replace X := Ext.trans X xd; clear xd ew329
          refine wi_take 0 rfl (by kernel_rfl) rfl (by kernel_rfl) (listed' := #[true, false, false, false, false]) rfl (fun wq sq => ow_loadAB sq.1 ti33 rfl rfl ⟨rfl, rfl⟩) ?_
          refine wi_take 1 rfl (by kernel_rfl) rfl (by kernel_rfl) (listed' := #[true, true, false, false, false]) rfl (fun wq sq => ow_loadAB sq.2 ti26 rfl rfl ⟨rfl, rfl⟩) ?_
          refine wi_one 2 rfl rfl (by kernel_rfl) (listed' := #[true, true, true, false, false]) rfl ⟨bX, bM⟩ (ow_call ent16 rfl (ret_mono (toMedlR_c m _ _ hm hz) ?_))
          rintro _ w331 ⟨m2, rfl, e2, h2, x330⟩
          have Bh2 := h2.1
          replace hm := hm.ext x330
          replace bM := bM.ext x330
          replace bS := bS.ext x330
          replace b283 := b283.ext x330
          replace h1 := h1.ext x330
          replace bX := bX.ext x330
          replace b325 := b325.ext x330
          replace X := Ext.trans X x330; clear x330
          have z2 := MedlI.small_of e2 hz
          refine wi_one 3 rfl rfl (by kernel_rfl) (listed' := #[true, true, true, true, false]) rfl ⟨bX, bM⟩ (ow_call ent18 rfl (ret_mono (eqMedl_c m1 m2 _ _ _ h1 h2 (e2.trans e1.symm) z1) ?_))
          rintro _ w335 ⟨rfl, x334⟩
          replace hm := hm.ext x334
          replace bM := bM.ext x334
          replace bS := bS.ext x334
          replace b283 := b283.ext x334
          replace h1 := h1.ext x334
          replace bX := bX.ext x334
          replace b325 := b325.ext x334
          replace h2 := h2.ext x334
          replace X := Ext.trans X x334; clear x334
          refine wi_take 4 rfl (by kernel_rfl) rfl (by kernel_rfl) (listed' := #[true, true, true, true, true]) rfl (fun wq sq => ow_not rfl ⟨rfl, rfl⟩) ?_
          refine wi_done rfl ⟨bX, bM⟩ (fun aj fj => ⟨_, fj, ?_⟩)
          refine c_false rfl ?_
          refine c_skip ?_
          refine tq_n ?_
          refine c_seqR ?_
          refine ops_cons rfl (ow_assign rfl ?_)
          refine ops_nil ?_
          refine c_ret ?_
          refine fin_ret1 rfl rfl ?_
          exact ⟨rfl, X⟩
      · skip
        refine (ow_alloc ti44 ?_)
        intro g339 w338 eg339 b336 x337 zg339
        have lg339 : w.heap.size ≤ g339 := Nat.le_trans X.size (Nat.le_of_eq eg339.symm)
        have pg339hm := Nat.le_trans hm.1 (Nat.le_of_eq eg339.symm)
        have ng339bM := Nat.lt_of_lt_of_eq bM.lt eg339.symm
        have ng339bS := Nat.lt_of_lt_of_eq bS.lt eg339.symm
        have ng339b283 := Nat.lt_of_lt_of_eq b283.lt eg339.symm
        have pg339h1 := Nat.le_trans h1.1 (Nat.le_of_eq eg339.symm)
        have ng339bX := Nat.lt_of_lt_of_eq bX.lt eg339.symm
        replace hm := hm.ext x337
        replace bM := bM.ext x337
        replace bS := bS.ext x337
        replace b283 := b283.ext x337
        replace h1 := h1.ext x337
        replace bX := bX.ext x337
        replace X := Ext.trans X x337; clear x337
        refine wi_one 2 rfl rfl (by kernel_rfl) (listed' := #[true, true, true, true, false, false, false, false, true, false, false]) rfl ⟨bX, bS⟩ (ow_call ent24 rfl (ret_mono (toStateI_c _ _) ?_))
        rintro _ w341 ⟨rfl, x340⟩
        replace hm := hm.ext x340
        replace bM := bM.ext x340
        replace bS := bS.ext x340
        replace b283 := b283.ext x340
        replace h1 := h1.ext x340
        replace bX := bX.ext x340
        replace b336 := b336.ext x340
        replace X := Ext.trans X x340; clear x340
        refine wi_one 4 rfl rfl (by kernel_rfl) (listed' := #[true, true, true, true, true, false, false, false, true, false, false]) rfl ⟨bX, bS⟩ (ow_call ent41 rfl (ret_mono (by have h := iChange_c m1 _ s to _ h1 z1; rw [e1] at h; exact h) ?_))
        rintro _ w343 ⟨rfl, x342⟩
        replace hm := hm.ext x342
        replace bM := bM.ext x342
        replace bS := bS.ext x342
        replace b283 := b283.ext x342
        replace h1 := h1.ext x342
        replace bX := bX.ext x342
        replace b336 := b336.ext x342
        replace X := Ext.trans X x342; clear x342
        refine wi_take 5 rfl (by kernel_rfl) rfl (by kernel_rfl) (listed' := #[true, true, true, true, true, true, false, false, true, false, false]) rfl (fun wq sq => ow_move rfl ⟨rfl, rfl⟩) ?_
        refine wi_take 6 rfl (by kernel_rfl) rfl (by kernel_rfl) (listed' := #[true, true, true, true, true, true, true, false, true, false, false]) rfl (fun wq sq => ow_extract rfl rfl ⟨rfl, rfl⟩) ?_
        refine wi_take 7 rfl (by kernel_rfl) rfl (by kernel_rfl) (listed' := #[true, true, true, true, true, true, true, true, true, false, false]) rfl (fun wq sq => ow_extract rfl rfl ⟨rfl, rfl⟩) ?_
        refine wi_one 9 rfl rfl (by kernel_rfl) (listed' := #[true, true, true, true, true, true, true, true, true, true, false]) rfl ⟨bX, bS⟩ (ow_storeB b336 ti44 rfl rfl rfl rfl rfl rfl ?_)
        intro w345 b347 hg344 z346
        replace hm := hm.grown hg344 (by intro g hg; injection hg; omega)
        replace bM := bM.grown hg344 (by intro h; injection h; omega)
        replace bS := bS.grown hg344 (by intro h; injection h; omega)
        replace b283 := b283.grown hg344 (by intro h; injection h; omega)
        replace h1 := h1.grown hg344 (by intro g hg; injection hg; omega)
        replace bX := bX.grown hg344 (by intro h; injection h; omega)
        replace X := X.grown hg344 X.size (by intro g hg; injection hg; omega)
        clear hg344 b336
        refine wi_take 10 rfl (by kernel_rfl) rfl (by kernel_rfl) (listed' := #[true, true, true, true, true, true, true, true, true, true, true]) rfl (fun wq sq => ow_assign rfl ⟨rfl, rfl⟩) ?_
        refine wi_done rfl ⟨bX, bS⟩ (fun aj fj => ⟨_, fj, ?_⟩)
        refine c_seq ?_
        refine c_seqR ?_
        refine ops_cons rfl (ow_loadAB b347 ti44 rfl rfl ?_)
        refine ops_cons rfl (ow_loadAB b283 ti44 rfl rfl ?_)
        refine ops_cons rfl (ow_call ent39 rfl (ret_mono (eqStateI_c _ _) ?_))
        rintro _ w349 ⟨rfl, x348⟩
        replace hm := hm.ext x348
        replace bM := bM.ext x348
        replace bS := bS.ext x348
        replace b283 := b283.ext x348
        replace h1 := h1.ext x348
        replace bX := bX.ext x348
        replace b347 := b347.ext x348
        replace X := Ext.trans X x348; clear x348
        refine ops_cons rfl (ow_not rfl ?_)
        refine ops_cons rfl (ow_move rfl ?_)
        refine ops_want rfl rfl rfl (ow_move rfl ?_)
        refine ops_want rfl rfl rfl (ow_move rfl ?_)
        refine ops_want rfl rfl rfl (ow_neq2 rfl rfl (fun h350 => absurd h350 (by simp)) (fun h350 => ?_))
        refine ops_cons rfl (ow_pick rfl rfl ?_)
        refine ops_nil ?_
        refine c_false rfl ?_
        refine c_skip ?_
        refine tq_n ?_
        refine c_seq ?_
        refine c_seqI (fun wz => Blk wz gX 33 m1.cells ∧ Blk wz gM 26 m.cells) mixed ?_
        obtain ⟨w351, ew351⟩ : ∃ w2, w2 = World.drew w349 := ⟨_, rfl⟩
        rw [← ew351]
        have xd : Ext w349 w351 := ew351 ▸ Ext.drew w349
        replace hm := hm.ext xd
        replace bM := bM.ext xd
        replace bS := bS.ext xd
        replace b283 := b283.ext xd
        replace h1 := h1.ext xd
        replace bX := bX.ext xd
        replace b347 := b347.ext xd
        replace X := Ext.trans X xd; clear xd ew351
        refine wi_take 0 rfl (by kernel_rfl) rfl (by kernel_rfl) (listed' := #[true, false, false, false, false]) rfl (fun wq sq => ow_loadAB sq.1 ti33 rfl rfl ⟨rfl, rfl⟩) ?_
        refine wi_take 1 rfl (by kernel_rfl) rfl (by kernel_rfl) (listed' := #[true, true, false, false, false]) rfl (fun wq sq => ow_loadAB sq.2 ti26 rfl rfl ⟨rfl, rfl⟩) ?_
        refine wi_one 2 rfl rfl (by kernel_rfl) (listed' := #[true, true, true, false, false]) rfl ⟨bX, bM⟩ (ow_call ent16 rfl (ret_mono (toMedlR_c m _ _ hm hz) ?_))
        rintro _ w353 ⟨m2, rfl, e2, h2, x352⟩
        have Bh2 := h2.1
        replace hm := hm.ext x352
        replace bM := bM.ext x352
        replace bS := bS.ext x352
        replace b283 := b283.ext x352
        replace h1 := h1.ext x352
        replace bX := bX.ext x352
        replace b347 := b347.ext x352
        replace X := Ext.trans X x352; clear x352
        have z2 := MedlI.small_of e2 hz
        refine wi_one 3 rfl rfl (by kernel_rfl) (listed' := #[true, true, true, true, false]) rfl ⟨bX, bM⟩ (ow_call ent18 rfl (ret_mono (eqMedl_c m1 m2 _ _ _ h1 h2 (e2.trans e1.symm) z1) ?_))
        rintro _ w357 ⟨rfl, x356⟩
        replace hm := hm.ext x356
        replace bM := bM.ext x356
        replace bS := bS.ext x356
        replace b283 := b283.ext x356
        replace h1 := h1.ext x356
        replace bX := bX.ext x356
        replace b347 := b347.ext x356
        replace h2 := h2.ext x356
        replace X := Ext.trans X x356; clear x356
        refine wi_take 4 rfl (by kernel_rfl) rfl (by kernel_rfl) (listed' := #[true, true, true, true, true]) rfl (fun wq sq => ow_not rfl ⟨rfl, rfl⟩) ?_
        refine wi_done rfl ⟨bX, bM⟩ (fun aj fj => ⟨_, fj, ?_⟩)
        refine c_false rfl ?_
        refine c_skip ?_
        refine tq_n ?_
        refine c_seqR ?_
        refine ops_cons rfl (ow_assign rfl ?_)
        refine ops_nil ?_
        refine c_ret ?_
        refine fin_ret1 rfl rfl ?_
        exact ⟨rfl, X⟩
set_option maxRecDepth 100000

theorem fnExactChangeMode_lifted (os : Os) (started : os.Started) (H : Type) (enc : TypeId × Value → H) :
    ReturnsInHanded {} Tryz.checked os 13 .any (fun w args => (Rows.fnExactChangeModeSpec.pre enc Tryz.prog Tryz.f13 Rows.fnExactChangeModeRow.domain false w args ∧ laidMetH Tryz.prog Rows.fnExactChangeModeRow.laid w) ∧ sizedMet enc Tryz.prog Tryz.f13 (OpenSpec.ofChange Rows.fnExactChangeModeSpec) false w args)
      (Rows.fnExactChangeModeSpec.post enc Tryz.prog Tryz.f13 false true false false) := by
  refine returnsInHanded_of_change_and (C := Tryz.checked) (X := fun w _ => laidMetH Tryz.prog Rows.fnExactChangeModeRow.laid w) (fun _ _ _ hh h => h.of_heap hh) law_own started (by kernel_rfl) Tryz.func13
    (ChangeSpec.witness_shaped (enc := enc) (C := Tryz.checked) (os := os) (X := fun w _ => laidMetH Tryz.prog Rows.fnExactChangeModeRow.laid w) false (World.laidAll Tryz.prog os Rows.fnExactChangeModeRow.laid) #[.agg #[.int .i64 0, .slice none 0 0, .slice none 0 0, .slice none 0 0], .agg #[.int .i64 0, .int .i64 0, .int .i64 0, .int .i64 0, .int .i64 0], .int .i64 0] 8 (World.laidAll_os _ _ _)
      (World.shaped_of_ZipB (by kernel_rfl) (by kernel_rfl)) (by kernel_rfl) (by kernel_rfl) (by kernel_rfl)
      (by rw [MakeChecks.laidMetH_plain _ _ _ (by kernel_rfl)]; exact laidMet_laidAll _ (by kernel_rfl) (by kernel_rfl))) ?_
  intro W base args ds gs before hval0 hW _ _ hL _
  have hval : ∀ (j : Nat) t v, Tryz.f13.params[j]? = some t → args[j]? = some v → Value.okWide Tryz.prog W .any base t v := hval0
  have hW' := hW
  obtain ⟨p, q, hA0, hV, rfl, hfz, hnd⟩ := hW
  have hA : DataW.TrodAll enc Tryz.prog W 0 (fun _ => true) true Tryz.f13.params.toList args.toList ds p := hA0
  rw [Tryz.params13] at hA hval
  obtain ⟨rfl, rfl⟩ := trodVars_none hV
  obtain ⟨v0, vs0, d0, ds0, p0, q0, hargs, rfl, rfl, h0, r0⟩ := trodAll_cons hA
  obtain ⟨v1, vs1, d1, ds1, p1, q1, rfl, rfl, rfl, h1, r1⟩ := trodAll_cons r0
  obtain ⟨v2, vs2, d2, ds2, p2, q2, rfl, rfl, rfl, h2, r2⟩ := trodAll_cons r1
  obtain ⟨rfl, rfl, rfl⟩ := trodAll_nil r2
  obtain rfl : args = #[v0, v1, v2] := by cases args; simp_all
  obtain ⟨cs0, rfl, m0, x0, t0⟩ := agg_of Tryz.underlying26 (hval 0 26 v0 rfl rfl) h0
  obtain ⟨m, rfl, hm, wm⟩ := open_MedlI t0
  obtain ⟨cs1, rfl, m1, x1, t1⟩ := agg_of Tryz.underlying42 (hval 1 42 v1 rfl rfl) h1
  obtain ⟨s, rfl, ws⟩ := open_StateI t1
  obtain ⟨to, rfl, _, _, wfto⟩ := open_int Tryz.underlying2 (hval 2 2 v2 rfl rfl) h2
  have wto : In64 to := by simpa [In64, Lit.wf, IntKind.min, IntKind.max, IntKind.signed, IntKind.bits] using wfto
  refine Calls.mono (law_FnExactChangeMode m _ s to W hm wm ws wto) fun e W' h => ?_
  cases e <;> first | exact h.elim | skip
  obtain ⟨rfl, hb⟩ := h
  exact ⟨_, rfl, law_post law_laid (by kernel_rfl) rfl rfl Tryz.underlying4 (hW') rfl hb⟩

theorem fnExactChangeMode_holds : Rows.FnExactChangeModeSaid :=
  OpenClaim.holds_of_wide 13 Tryz.f13 rfl rfl rfl rfl rfl rfl rfl ⟨rfl, rfl, rfl, rfl, rfl⟩ rfl rfl rfl rfl rfl (by kernel_rfl) Tryz.func13 (by kernel_rfl)
    (of_decide_eq_true (by kernel_rfl)) (by unfold Func.isWrapper; rw [if_neg (of_decide_eq_false (by kernel_rfl))]; exact ⟨rfl, rfl⟩)
    (fun os started H enc _ => fnExactChangeMode_lifted os started H enc)

theorem fnExactChangeMode_card : Rows.FnExactChangeModeCardSaid :=
  Claim7.holds_tied_plain_at .later [] [.data, .pinned] true (true, "8458b1b0d1af341da98c86618066273f9c2061d289ad0ef8c4000ad9f789289f") false fnExactChangeMode_holds (fun _ h => by cases h) (by kernel_rfl) (fun _ h => by cases h) fnExactChangeMode_row_tie rfl ⟨rfl, rfl⟩ law_main rfl
    (fun f fn hf hfn => by
      obtain rfl : f = 13 := Option.some.inj ((show Tryz.prog.funcNamed "loop.example/g00833/laws.FnExactChangeMode" = some 13 by kernel_rfl).symm.trans hf) |>.symm
      obtain rfl : fn = Tryz.f13 := (Option.some.inj (Tryz.func13.symm.trans hfn)).symm
      exact ⟨law_looks, fun j t ht => by
        rw [Tryz.params13] at ht
        have hm : t ∈ [26, 42, 2] := by simpa using Array.mem_of_getElem? ht
        have hall : ([26, 42, 2].all fun u => !Tryz.prog.wantsStandIn u) = true := by kernel_rfl
        exact (show Tryz.prog.wantsStandIn t = false by simpa using List.all_eq_true.1 hall t hm)⟩)
    (by kernel_rfl)
end Go.Proofs.YtfmihehpdfmgfaaGreatDoor
