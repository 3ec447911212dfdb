/- The law FnExactStatesOfCycle answers true for all arguments that its row admits, and leaves what was there before as it was. No condition. -/
import Derived.Test.YthdeoagoehkcfaaGreatDoorS1
import Derived.Test.YthdeoagoehkcfaaGreatDoorC4
import Derived.Test.YthdeoagoehkcfaaGreatDoorCS
import Derived.Test.YthdeoagoehkcfaaGreatDoorK3
import Derived.Test.YthdeoagoehkcfaaGreatDoorLW
import Derived.Test.YthdeoagoehkcfaaGreatDoorTie
import Derived.Test.YthdeoagoehkcfaaGreatDoorCards
import Derived.Lay
import Derived.LaidOnce
import Derived.SevenTiedAt
namespace Go.Proofs.YthdeoagoehkcfaaGreatDoor
open Go.ChangeShapes Go.WideShapes Go.ChangeAt Go.RowKit
set_option linter.unusedVariables false
set_option linter.unusedSimpArgs false
set_option maxRecDepth 20000
theorem law_FnExactStatesOfCycle (m : MedlI) (B : Nat) (s : StateI) (w : World) (hm : Med B w m) (hw : m.fit) (ws : s.ok) :
    Calls Tryz.prog 7 #[.agg m.cells.toArray, .agg s.cells.toArray] w (Ret fun v w' => v = .bool true ∧ Ext w w') := by
  have Bhm := hm.1
  have X := Ext.refl w
  refine calls_of (args := [.agg m.cells.toArray, .agg s.cells.toArray]) Tryz.func7 Tryz.ntmps7 rfl rfl ?_
  refine c_seqR ?_
  refine ops_cons rfl (ow_box rfl rfl ?_)
  intro gM w2 egM bM x1 zgM
  have lgM : w.heap.size ≤ gM := Nat.le_trans X.size (Nat.le_of_eq egM.symm)
  have pgMhm := Nat.le_trans hm.1 (Nat.le_of_eq egM.symm)
  replace hm := hm.ext x1
  replace X := Ext.trans X x1; clear x1
  refine ops_cons rfl (ow_box rfl rfl ?_)
  intro gS w4 egS bS x3 zgS
  have lgS : w.heap.size ≤ gS := Nat.le_trans X.size (Nat.le_of_eq egS.symm)
  have pgShm := Nat.le_trans hm.1 (Nat.le_of_eq egS.symm)
  have ngSbM := Nat.lt_of_lt_of_eq bM.lt egS.symm
  replace hm := hm.ext x3
  replace bM := bM.ext x3
  replace X := Ext.trans X x3; clear x3
  refine ops_cons rfl (ow_assign rfl ?_)
  refine ops_nil ?_
  refine c_seqR ?_
  refine ops_cons rfl (ow_assign rfl ?_)
  refine ops_nil ?_
  refine c_seqR ?_
  refine ops_cons rfl (ow_loadAB bM ti40 rfl rfl ?_)
  refine ops_cons rfl (ow_move rfl ?_)
  refine ops_cons rfl (ow_call ent18 rfl (ret_mono (szMedl_c m _ _ hm hw) ?_))
  rintro _ w6 ⟨rfl, x5⟩
  replace hm := hm.ext x5
  replace bM := bM.ext x5
  replace bS := bS.ext x5
  replace X := Ext.trans X x5; clear x5
  refine ops_cons rfl (ow_assign rfl ?_)
  refine ops_nil ?_
  refine c_seq ?_
  refine c_seqR ?_
  refine ops_cons rfl (ow_move rfl ?_)
  refine ops_cons rfl (ow_lss2 rfl rfl (fun hq => ?_) (fun hq => ?_))
  · skip
    refine ops_nil ?_
    refine c_true rfl ?_
    refine c_seqR ?_
    refine ops_cons rfl (ow_assign rfl ?_)
    refine ops_nil ?_
    refine c_ret ?_
    refine tq_r ?_
    refine fin_ret1 rfl rfl ?_
    exact ⟨rfl, X⟩
  · skip
    have hz := szMedl_small (by omega) hq
    refine ops_nil ?_
    refine c_false rfl ?_
    refine c_skip ?_
    refine tq_n ?_
    refine c_seqI (fun wz => Blk wz gM 40 m.cells ∧ Blk wz gS 51 s.cells) mixed ?_
    obtain ⟨w7, ew7⟩ : ∃ w2, w2 = World.drew w6 := ⟨_, rfl⟩
    rw [← ew7]
    have xd : Ext w6 w7 := ew7 ▸ Ext.drew w6
    replace hm := hm.ext xd
    replace bM := bM.ext xd
    replace bS := bS.ext xd
    replace X := Ext.trans X xd; clear xd ew7
    refine wi_take 0 rfl (by kernel_rfl) rfl (by kernel_rfl) (listed' := #[true, false, false, false, false, false, false, false, false, false]) rfl (fun wq sq => ow_loadAB sq.1 ti40 rfl rfl ⟨rfl, rfl⟩) ?_
    refine wi_take 2 rfl (by kernel_rfl) rfl (by kernel_rfl) (listed' := #[true, false, true, false, false, false, false, false, false, false]) rfl (fun wq sq => ow_loadAB sq.2 ti51 rfl rfl ⟨rfl, rfl⟩) ?_
    refine wi_one 1 rfl rfl (by kernel_rfl) (listed' := #[true, true, true, false, false, false, false, false, false, false]) rfl ⟨bM, bS⟩ (ow_call ent20 rfl (ret_mono (toMedl_c m _ _ hm hz) ?_))
    rintro _ w9 ⟨m0, rfl, e0, oC0, x8⟩
    replace oC0 := MOwn.low oC0 X.size
    replace hm := hm.ext x8
    replace bM := bM.ext x8
    replace bS := bS.ext x8
    replace X := Ext.trans X x8; clear x8
    have z0 := MedlI.small_of e0 hz
    refine wi_one 3 rfl rfl (by kernel_rfl) (listed' := #[true, true, true, true, false, false, false, false, false, false]) rfl ⟨bM, bS⟩ (ow_call ent28 rfl (ret_mono (toStateI_c _ _) ?_))
    rintro _ w13 ⟨rfl, x12⟩
    replace hm := hm.ext x12
    replace bM := bM.ext x12
    replace bS := bS.ext x12
    replace oC0 := oC0.ext x12
    replace X := Ext.trans X x12; clear x12
    refine wi_one 4 rfl rfl (by kernel_rfl) (listed' := #[true, true, true, true, true, false, false, false, false, false]) rfl ⟨bM, bS⟩ (ow_call ent27 rfl (ret_mono (by have h := sStates_c m0 _ s _ oC0.med z0; rw [e0] at h; exact h) ?_))
    rintro _ w15 ⟨A16, c17, rfl, oS, x14⟩
    replace oS := Own.low oS X.size
    replace hm := hm.ext x14
    replace bM := bM.ext x14
    replace bS := bS.ext x14
    replace oC0 := oC0.ext x14
    replace X := Ext.trans X x14; clear x14
    have hlR := statesF_len m s
    have sS := oS.sl
    have BsS := sS.1
    clear oS oC0
    refine wi_take 5 rfl (by kernel_rfl) rfl (by kernel_rfl) (listed' := #[true, true, true, true, true, true, false, false, false, false]) rfl (fun wq sq => ow_move rfl ⟨rfl, rfl⟩) ?_
    refine wi_take 6 rfl (by kernel_rfl) rfl (by kernel_rfl) (listed' := #[true, true, true, true, true, true, true, false, false, false]) rfl (fun wq sq => ow_extract rfl rfl ⟨rfl, rfl⟩) ?_
    refine wi_take 7 rfl (by kernel_rfl) rfl (by kernel_rfl) (listed' := #[true, true, true, true, true, true, true, true, false, false]) rfl (fun wq sq => ow_extract rfl rfl ⟨rfl, rfl⟩) ?_
    refine wi_take 8 rfl (by kernel_rfl) rfl (by kernel_rfl) (listed' := #[true, true, true, true, true, true, true, true, true, false]) rfl (fun wq sq => ow_assign rfl ⟨rfl, rfl⟩) ?_
    refine wi_take 9 rfl (by kernel_rfl) rfl (by kernel_rfl) (listed' := #[true, true, true, true, true, true, true, true, true, true]) rfl (fun wq sq => ow_assign rfl ⟨rfl, rfl⟩) ?_
    refine wi_done rfl ⟨bM, bS⟩ (fun aj fj => ⟨_, fj, ?_⟩)
    refine c_seqR ?_
    refine ops_cons rfl (ow_loadAB bM ti40 rfl rfl ?_)
    have GM := bM.lt
    have GS := bS.lt
    refine ops_cons rfl (ow_call ent20 rfl (ret_mono (toMedl_c m _ _ hm hz) ?_))
    rintro _ w19 ⟨m1, rfl, e1, oX, x18⟩
    have LoX := X.size
    replace hm := hm.ext x18
    replace bM := bM.ext x18
    replace bS := bS.ext x18
    replace sS := sS.ext x18
    replace X := Ext.trans X x18; clear x18
    have z1 := MedlI.small_of e1 hz
    refine ops_cons rfl (ow_alloc ti27 ?_)
    intro gX w23 egX bA x22 zgX
    have lgX : w.heap.size ≤ gX := Nat.le_trans X.size (Nat.le_of_eq egX.symm)
    have pgXhm := Nat.le_trans hm.1 (Nat.le_of_eq egX.symm)
    have ngXbM := Nat.lt_of_lt_of_eq bM.lt egX.symm
    have ngXbS := Nat.lt_of_lt_of_eq bS.lt egX.symm
    have pgXsS := Nat.le_trans sS.1 (Nat.le_of_eq egX.symm)
    replace hm := hm.ext x22
    replace bM := bM.ext x22
    replace bS := bS.ext x22
    replace sS := sS.ext x22
    replace oX := oX.ext x22
    replace X := Ext.trans X x22; clear x22
    refine ops_cons rfl (ow_storeB bA ti27 rfl rfl rfl rfl rfl rfl ?_)
    intro w25 bX hg24 z26
    replace hm := hm.grown hg24 (by intro g hg; injection hg; omega)
    replace bM := bM.grown hg24 (by intro h; injection h; omega)
    replace bS := bS.grown hg24 (by intro h; injection h; omega)
    replace sS := sS.grown hg24 (by intro g hg; injection hg; omega)
    replace oX := oX.grownB bA hg24 ⟨by decide, by decide, by decide, by decide⟩
    replace X := X.grown hg24 X.size (by intro g hg; injection hg; omega)
    clear hg24 bA
    refine ops_nil ?_
    refine c_seqI (fun wz => Blk wz gX 27 m1.cells ∧ Blk wz gS 51 s.cells) mixed ?_
    obtain ⟨w27, ew27⟩ : ∃ w2, w2 = World.drew w25 := ⟨_, rfl⟩
    rw [← ew27]
    have xd : Ext w25 w27 := ew27 ▸ Ext.drew w25
    replace hm := hm.ext xd
    replace bM := bM.ext xd
    replace bS := bS.ext xd
    replace sS := sS.ext xd
    replace oX := oX.ext xd
    replace bX := bX.ext xd
    replace X := Ext.trans X xd; clear xd ew27
    refine wi_take 0 rfl (by kernel_rfl) rfl (by kernel_rfl) (listed' := #[true, false, false, false, false, false, false, false, false]) rfl (fun wq sq => ow_loadAB sq.1 ti27 rfl rfl ⟨rfl, rfl⟩) ?_
    refine wi_take 1 rfl (by kernel_rfl) rfl (by kernel_rfl) (listed' := #[true, true, false, false, false, false, false, false, false]) rfl (fun wq sq => ow_loadAB sq.2 ti51 rfl rfl ⟨rfl, rfl⟩) ?_
    refine wi_one 2 rfl rfl (by kernel_rfl) (listed' := #[true, true, true, false, false, false, false, false, false]) rfl ⟨bX, bS⟩ (ow_call ent28 rfl (ret_mono (toStateI_c _ _) ?_))
    rintro _ w29 ⟨rfl, x28⟩
    replace hm := hm.ext x28
    replace bM := bM.ext x28
    replace bS := bS.ext x28
    replace sS := sS.ext x28
    replace oX := oX.ext x28
    replace bX := bX.ext x28
    replace X := Ext.trans X x28; clear x28
    have LS := sS.1
    have UN := fun g hg => (Own.lt oX.on (g := g) hg).2
    have UM := fun g hg => (Own.lt oX.om (g := g) hg).2
    have UL := fun g hg => (Own.lt oX.os (g := g) hg).2
    have UX := fun y hy g hg => (Own.lt (oX.ox y hy).1 (g := g) hg).2
    refine wi_one 3 rfl rfl (by kernel_rfl) (listed' := #[true, true, true, true, false, false, false, false, false]) rfl ⟨bX, bS⟩ (ow_call ent29 rfl (ret_mono (by have h := iStates_c m1 _ s _ oX.med z1; rw [e1] at h; exact h) ?_))
    rintro _ w31 ⟨A32, c33, rfl, oI, x30⟩
    have LoI := X.size
    replace hm := hm.ext x30
    replace bM := bM.ext x30
    replace bS := bS.ext x30
    replace sS := sS.ext x30
    replace oX := oX.ext x30
    replace bX := bX.ext x30
    replace X := Ext.trans X x30; clear x30
    refine wi_take 4 rfl (by kernel_rfl) rfl (by kernel_rfl) (listed' := #[true, true, true, true, true, false, false, false, false]) rfl (fun wq sq => ow_move rfl ⟨rfl, rfl⟩) ?_
    refine wi_take 5 rfl (by kernel_rfl) rfl (by kernel_rfl) (listed' := #[true, true, true, true, true, true, false, false, false]) rfl (fun wq sq => ow_extract rfl rfl ⟨rfl, rfl⟩) ?_
    refine wi_take 6 rfl (by kernel_rfl) rfl (by kernel_rfl) (listed' := #[true, true, true, true, true, true, true, false, false]) rfl (fun wq sq => ow_extract rfl rfl ⟨rfl, rfl⟩) ?_
    refine wi_take 7 rfl (by kernel_rfl) rfl (by kernel_rfl) (listed' := #[true, true, true, true, true, true, true, true, false]) rfl (fun wq sq => ow_assign rfl ⟨rfl, rfl⟩) ?_
    refine wi_take 8 rfl (by kernel_rfl) rfl (by kernel_rfl) (listed' := #[true, true, true, true, true, true, true, true, true]) rfl (fun wq sq => ow_assign rfl ⟨rfl, rfl⟩) ?_
    refine wi_done rfl ⟨bX, bS⟩ (fun aj fj => ⟨_, fj, ?_⟩)
    refine c_seq ?_
    refine c_seqR ?_
    refine ops_cons rfl (ow_move rfl ?_)
    refine ops_cons rfl (ow_move rfl ?_)
    refine ops_cons rfl (ow_call ent30 rfl (ret_mono (eqStateS_c _ _ _ _ _ _ _ _ (oI).sl sS hlR) ?_))
    rintro _ w35 ⟨rfl, x34⟩
    replace hm := hm.ext x34
    replace bM := bM.ext x34
    replace bS := bS.ext x34
    replace sS := sS.ext x34
    replace oX := oX.ext x34
    replace bX := bX.ext x34
    replace oI := oI.ext x34
    replace X := Ext.trans X x34; clear x34
    refine ops_cons rfl (ow_not rfl ?_)
    refine ops_cons rfl (ow_move rfl ?_)
    refine ops_want rfl rfl rfl (ow_move rfl ?_)
    refine ops_want rfl rfl rfl (ow_move rfl ?_)
    refine ops_want rfl rfl rfl (ow_neq2 rfl rfl (fun h36 => absurd h36 (by simp)) (fun h36 => ?_))
    refine ops_cons rfl (ow_pick rfl rfl ?_)
    refine ops_nil ?_
    refine c_false rfl ?_
    refine c_skip ?_
    refine tq_n ?_
    refine c_seq ?_
    refine c_seqI (fun wz => Blk wz gX 27 m1.cells ∧ Blk wz gM 40 m.cells) mixed ?_
    obtain ⟨w37, ew37⟩ : ∃ w2, w2 = World.drew w35 := ⟨_, rfl⟩
    rw [← ew37]
    have xd : Ext w35 w37 := ew37 ▸ Ext.drew w35
    replace hm := hm.ext xd
    replace bM := bM.ext xd
    replace bS := bS.ext xd
    replace sS := sS.ext xd
    replace oX := oX.ext xd
    replace bX := bX.ext xd
    replace oI := oI.ext xd
    replace X := Ext.trans X xd; clear xd ew37
    refine wi_take 0 rfl (by kernel_rfl) rfl (by kernel_rfl) (listed' := #[true, false, false, false, false]) rfl (fun wq sq => ow_loadAB sq.1 ti27 rfl rfl ⟨rfl, rfl⟩) ?_
    refine wi_take 1 rfl (by kernel_rfl) rfl (by kernel_rfl) (listed' := #[true, true, false, false, false]) rfl (fun wq sq => ow_loadAB sq.2 ti40 rfl rfl ⟨rfl, rfl⟩) ?_
    refine wi_one 2 rfl rfl (by kernel_rfl) (listed' := #[true, true, true, false, false]) rfl ⟨bX, bM⟩ (ow_call ent20 rfl (ret_mono (toMedl_c m _ _ hm hz) ?_))
    rintro _ w39 ⟨m2, rfl, e2, oC2, x38⟩
    replace oC2 := MOwn.low oC2 X.size
    replace hm := hm.ext x38
    replace bM := bM.ext x38
    replace bS := bS.ext x38
    replace sS := sS.ext x38
    replace oX := oX.ext x38
    replace bX := bX.ext x38
    replace oI := oI.ext x38
    replace X := Ext.trans X x38; clear x38
    have z2 := MedlI.small_of e2 hz
    refine wi_one 3 rfl rfl (by kernel_rfl) (listed' := #[true, true, true, true, false]) rfl ⟨bX, bM⟩ (ow_call ent13 rfl (ret_mono (eqMedl_c m1 m2 _ _ _ oX.med oC2.med (e2.trans e1.symm) z1) ?_))
    rintro _ w43 ⟨rfl, x42⟩
    replace hm := hm.ext x42
    replace bM := bM.ext x42
    replace bS := bS.ext x42
    replace sS := sS.ext x42
    replace oX := oX.ext x42
    replace bX := bX.ext x42
    replace oI := oI.ext x42
    replace oC2 := oC2.ext x42
    replace X := Ext.trans X x42; clear x42
    clear oC2
    refine wi_take 4 rfl (by kernel_rfl) rfl (by kernel_rfl) (listed' := #[true, true, true, true, true]) rfl (fun wq sq => ow_not rfl ⟨rfl, rfl⟩) ?_
    refine wi_done rfl ⟨bX, bM⟩ (fun aj fj => ⟨_, fj, ?_⟩)
    refine c_false rfl ?_
    refine c_skip ?_
    refine tq_n ?_
    refine c_seqR ?_
    refine ops_cons rfl (ow_assign rfl ?_)
    refine ops_nil ?_
    refine c_seqR ?_
    refine ops_cons rfl (ow_loadAB bX ti27 rfl rfl ?_)
    refine ops_cons rfl (ow_move rfl ?_)
    refine ops_cons rfl (ow_call ent16 rfl (ret_mono (markMedl_c m1 _ _ 1 _ oX (fun g hg => hg.elim (UN g) (fun h => h.elim (UM g) (UL g))) UX z1 (by omega)) ?_))
    rintro _ wM ⟨rfl, _, yM⟩
    have xM := yM.win
    have xB := xM.below sS.1
    replace hm := hm.below (Below.mono xB (Nat.le_trans Bhm LoX))
    replace bM := bM.below xB GM
    replace bS := bS.below xB GS
    replace sS := sS.below xB
    replace oI := oI.win xM (Nat.le_refl _)
    replace X := Below.trans X (Below.mono xB LoX)
    have hE := endMedl_pos (a := 1) z1 (by omega)
    clear oX
    refine ops_cons rfl (ow_assign rfl ?_)
    refine ops_nil ?_
    refine c_seq ?_
    refine c_seqR ?_
    refine ops_cons rfl (ow_move rfl ?_)
    refine ops_cons rfl (ow_lss2 rfl rfl (fun h44 => absurd h44 (by omega)) (fun h44 => ?_))
    refine ops_cons rfl (ow_move rfl ?_)
    refine ops_want rfl rfl rfl (ow_move rfl ?_)
    refine ops_want rfl rfl rfl (ow_move rfl ?_)
    refine ops_want rfl rfl rfl (ow_call ent30 rfl (ret_mono (eqStateS_c _ _ _ _ _ _ _ _ (oI).sl sS hlR) ?_))
    rintro _ w46 ⟨rfl, x45⟩
    replace hm := hm.ext x45
    replace bM := bM.ext x45
    replace bS := bS.ext x45
    replace sS := sS.ext x45
    replace oI := oI.ext x45
    replace X := Ext.trans X x45; clear x45
    refine ops_want rfl rfl rfl (ow_not rfl ?_)
    refine ops_cons rfl (ow_pick rfl rfl ?_)
    refine ops_cons rfl (ow_move rfl ?_)
    refine ops_want rfl rfl rfl (ow_move rfl ?_)
    refine ops_want rfl rfl rfl (ow_move rfl ?_)
    refine ops_want rfl rfl rfl (ow_neq2 rfl rfl (fun h47 => absurd h47 (by simp)) (fun h47 => ?_))
    refine ops_cons rfl (ow_pick rfl rfl ?_)
    refine ops_nil ?_
    refine c_false rfl ?_
    refine c_skip ?_
    refine tq_n ?_
    refine c_seqR ?_
    refine ops_cons rfl (ow_assign rfl ?_)
    refine ops_nil ?_
    refine c_seqR ?_
    refine ops_cons rfl (ow_move rfl ?_)
    refine ops_cons rfl (ow_move rfl ?_)
    refine ops_cons rfl (ow_call ent31 rfl (ret_mono (markStateI_c _ _ _ _ _ _ oI hlR (by omega)) ?_))
    rintro _ w49 ⟨rfl, oI2, x48⟩
    replace hm := hm.grown x48 (fun g hg => Nat.le_trans Bhm (Nat.le_trans LoI (Own.lt oI hg).1))
    replace bM := bM.grown x48 (fun h => Own.neT oI bM (by decide) h.symm)
    replace bS := bS.grown x48 (fun h => Own.neT oI bS (by decide) h.symm)
    replace sS := sS.grown x48 (fun g hg => Nat.le_trans LS (Own.lt oI hg).1)
    replace X := X.grown x48 X.size (fun g hg => Nat.le_trans LoI (Own.lt oI hg).1); clear x48 oI
    refine ops_cons rfl (ow_assign rfl ?_)
    refine ops_nil ?_
    refine c_seqR ?_
    refine ops_cons rfl (ow_assign rfl ?_)
    refine ops_nil ?_
    refine c_seqR ?_
    refine ops_cons rfl (ow_move rfl ?_)
    refine ops_cons rfl (ow_move rfl ?_)
    refine ops_cons rfl (ow_call ent32 rfl (ret_mono (heldStateI_c _ _ _ _ _ _ (oI2).sl hlR (by omega)) ?_))
    rintro _ w51 ⟨rfl, x50⟩
    replace hm := hm.ext x50
    replace bM := bM.ext x50
    replace bS := bS.ext x50
    replace sS := sS.ext x50
    replace oI2 := oI2.ext x50
    replace X := Ext.trans X x50; clear x50
    refine ops_cons rfl (ow_assign rfl ?_)
    refine ops_nil ?_
    refine c_seq ?_
    refine c_seqR ?_
    refine ops_cons rfl (ow_move rfl ?_)
    refine ops_cons rfl (ow_lss2 rfl rfl (fun h52 => absurd h52 (by omega)) (fun h52 => ?_))
    refine ops_nil ?_
    refine c_false rfl ?_
    refine c_skip ?_
    refine tq_n ?_
    refine c_seq ?_
    refine c_seqR ?_
    refine ops_cons rfl (ow_move rfl ?_)
    refine ops_cons rfl (ow_move rfl ?_)
    refine ops_cons rfl (ow_neq2 rfl rfl (fun h53 => absurd h53 (by simp)) (fun h53 => ?_))
    refine ops_nil ?_
    refine c_false rfl ?_
    refine c_skip ?_
    refine tq_n ?_
    refine c_seqI (fun wz => Blk wz gM 40 m.cells ∧ Blk wz gS 51 s.cells) mixed ?_
    obtain ⟨w54, ew54⟩ : ∃ w2, w2 = World.drew w51 := ⟨_, rfl⟩
    rw [← ew54]
    have xd : Ext w51 w54 := ew54 ▸ Ext.drew w51
    replace hm := hm.ext xd
    replace bM := bM.ext xd
    replace bS := bS.ext xd
    replace sS := sS.ext xd
    replace oI2 := oI2.ext xd
    replace X := Ext.trans X xd; clear xd ew54
    refine wi_take 0 rfl (by kernel_rfl) rfl (by kernel_rfl) (listed' := #[true, false, false, false, false, false, false, false, false, false]) rfl (fun wq sq => ow_loadAB sq.1 ti40 rfl rfl ⟨rfl, rfl⟩) ?_
    refine wi_take 2 rfl (by kernel_rfl) rfl (by kernel_rfl) (listed' := #[true, false, true, false, false, false, false, false, false, false]) rfl (fun wq sq => ow_loadAB sq.2 ti51 rfl rfl ⟨rfl, rfl⟩) ?_
    refine wi_one 1 rfl rfl (by kernel_rfl) (listed' := #[true, true, true, false, false, false, false, false, false, false]) rfl ⟨bM, bS⟩ (ow_call ent20 rfl (ret_mono (toMedl_c m _ _ hm hz) ?_))
    rintro _ w56 ⟨m3, rfl, e3, oC3, x55⟩
    replace oC3 := MOwn.low oC3 X.size
    replace hm := hm.ext x55
    replace bM := bM.ext x55
    replace bS := bS.ext x55
    replace sS := sS.ext x55
    replace oI2 := oI2.ext x55
    replace X := Ext.trans X x55; clear x55
    have z3 := MedlI.small_of e3 hz
    refine wi_one 3 rfl rfl (by kernel_rfl) (listed' := #[true, true, true, true, false, false, false, false, false, false]) rfl ⟨bM, bS⟩ (ow_call ent28 rfl (ret_mono (toStateI_c _ _) ?_))
    rintro _ w60 ⟨rfl, x59⟩
    replace hm := hm.ext x59
    replace bM := bM.ext x59
    replace bS := bS.ext x59
    replace sS := sS.ext x59
    replace oI2 := oI2.ext x59
    replace oC3 := oC3.ext x59
    replace X := Ext.trans X x59; clear x59
    refine wi_one 4 rfl rfl (by kernel_rfl) (listed' := #[true, true, true, true, true, false, false, false, false, false]) rfl ⟨bM, bS⟩ (ow_call ent29 rfl (ret_mono (by have h := iStates_c m3 _ s _ oC3.med z3; rw [e3] at h; exact h) ?_))
    rintro _ w62 ⟨A63, c64, rfl, oJ, x61⟩
    replace oJ := Own.low oJ X.size
    replace hm := hm.ext x61
    replace bM := bM.ext x61
    replace bS := bS.ext x61
    replace sS := sS.ext x61
    replace oI2 := oI2.ext x61
    replace oC3 := oC3.ext x61
    replace X := Ext.trans X x61; clear x61
    clear oC3
    refine wi_take 5 rfl (by kernel_rfl) rfl (by kernel_rfl) (listed' := #[true, true, true, true, true, true, false, false, false, false]) rfl (fun wq sq => ow_move rfl ⟨rfl, rfl⟩) ?_
    refine wi_take 6 rfl (by kernel_rfl) rfl (by kernel_rfl) (listed' := #[true, true, true, true, true, true, true, false, false, false]) rfl (fun wq sq => ow_extract rfl rfl ⟨rfl, rfl⟩) ?_
    refine wi_take 7 rfl (by kernel_rfl) rfl (by kernel_rfl) (listed' := #[true, true, true, true, true, true, true, true, false, false]) rfl (fun wq sq => ow_extract rfl rfl ⟨rfl, rfl⟩) ?_
    refine wi_take 8 rfl (by kernel_rfl) rfl (by kernel_rfl) (listed' := #[true, true, true, true, true, true, true, true, true, false]) rfl (fun wq sq => ow_assign rfl ⟨rfl, rfl⟩) ?_
    refine wi_take 9 rfl (by kernel_rfl) rfl (by kernel_rfl) (listed' := #[true, true, true, true, true, true, true, true, true, true]) rfl (fun wq sq => ow_assign rfl ⟨rfl, rfl⟩) ?_
    refine wi_done rfl ⟨bM, bS⟩ (fun aj fj => ⟨_, fj, ?_⟩)
    refine c_seq ?_
    refine c_seqR ?_
    refine ops_cons rfl (ow_move rfl ?_)
    refine ops_cons rfl (ow_move rfl ?_)
    refine ops_cons rfl (ow_call ent30 rfl (ret_mono (eqStateS_c _ _ _ _ _ _ _ _ (oJ).sl sS hlR) ?_))
    rintro _ w66 ⟨rfl, x65⟩
    replace hm := hm.ext x65
    replace bM := bM.ext x65
    replace bS := bS.ext x65
    replace sS := sS.ext x65
    replace oI2 := oI2.ext x65
    replace oJ := oJ.ext x65
    replace X := Ext.trans X x65; clear x65
    refine ops_cons rfl (ow_not rfl ?_)
    refine ops_cons rfl (ow_move rfl ?_)
    refine ops_want rfl rfl rfl (ow_move rfl ?_)
    refine ops_want rfl rfl rfl (ow_move rfl ?_)
    refine ops_want rfl rfl rfl (ow_neq2 rfl rfl (fun h67 => absurd h67 (by simp)) (fun h67 => ?_))
    refine ops_cons rfl (ow_pick rfl rfl ?_)
    refine ops_nil ?_
    refine c_false rfl ?_
    refine c_skip ?_
    refine tq_n ?_
    refine c_seqR ?_
    refine ops_cons rfl (ow_assign rfl ?_)
    refine ops_nil ?_
    refine c_seqR ?_
    refine ops_cons rfl (ow_move rfl ?_)
    refine ops_cons rfl (ow_move rfl ?_)
    refine ops_cons rfl (ow_call ent32 rfl (ret_mono (heldStateI_c _ _ _ _ _ _ (oI2).sl hlR (by omega)) ?_))
    rintro _ w69 ⟨rfl, x68⟩
    replace hm := hm.ext x68
    replace bM := bM.ext x68
    replace bS := bS.ext x68
    replace sS := sS.ext x68
    replace oI2 := oI2.ext x68
    replace oJ := oJ.ext x68
    replace X := Ext.trans X x68; clear x68
    refine ops_cons rfl (ow_assign rfl ?_)
    refine ops_nil ?_
    refine c_seq ?_
    refine c_seqR ?_
    refine ops_cons rfl (ow_move rfl ?_)
    refine ops_cons rfl (ow_lss2 rfl rfl (fun h70 => absurd h70 (by omega)) (fun h70 => ?_))
    refine ops_nil ?_
    refine c_false rfl ?_
    refine c_skip ?_
    refine tq_n ?_
    refine c_seq ?_
    refine c_seqR ?_
    refine ops_cons rfl (ow_move rfl ?_)
    refine ops_cons rfl (ow_move rfl ?_)
    refine ops_cons rfl (ow_neq2 rfl rfl (fun h71 => absurd h71 (by simp)) (fun h71 => ?_))
    refine ops_nil ?_
    refine c_false rfl ?_
    refine c_skip ?_
    refine tq_n ?_
    refine c_seqR ?_
    refine ops_cons rfl (ow_assign rfl ?_)
    refine ops_nil ?_
    refine c_ret ?_
    refine fin_ret1 rfl rfl ?_
    exact ⟨rfl, X⟩
set_option maxRecDepth 100000

theorem fnExactStatesOfCycle_lifted (os : Os) (started : os.Started) (H : Type) (enc : TypeId × Value → H) :
    ReturnsInHanded {} Tryz.checked os 7 .any (fun w args => (Rows.fnExactStatesOfCycleSpec.pre enc Tryz.prog Tryz.f7 Rows.fnExactStatesOfCycleRow.domain false w args ∧ laidMetH Tryz.prog Rows.fnExactStatesOfCycleRow.laid w) ∧ sizedMet enc Tryz.prog Tryz.f7 (OpenSpec.ofChange Rows.fnExactStatesOfCycleSpec) false w args)
      (Rows.fnExactStatesOfCycleSpec.post enc Tryz.prog Tryz.f7 false true false false) := by
  refine returnsInHanded_of_change_and (C := Tryz.checked) (X := fun w _ => laidMetH Tryz.prog Rows.fnExactStatesOfCycleRow.laid w) (fun _ _ _ hh h => h.of_heap hh) law_own started (by kernel_rfl) Tryz.func7
    (ChangeSpec.witness_shaped (enc := enc) (C := Tryz.checked) (os := os) (X := fun w _ => laidMetH Tryz.prog Rows.fnExactStatesOfCycleRow.laid w) false (World.laidAll Tryz.prog os Rows.fnExactStatesOfCycleRow.laid) #[.agg #[.int .i64 0, .slice none 0 0, .slice none 0 0, .slice none 0 0], .agg #[.int .i64 0, .int .i64 0, .int .i64 0, .int .i64 0, .int .i64 0]] 8 (World.laidAll_os _ _ _)
      (World.shaped_of_ZipB (by kernel_rfl) (by kernel_rfl)) (by kernel_rfl) (by kernel_rfl) (by kernel_rfl)
      (by rw [MakeChecks.laidMetH_plain _ _ _ (by kernel_rfl)]; exact laidMet_laidAll _ (by kernel_rfl) (by kernel_rfl))) ?_
  intro W base args ds gs before hval0 hW _ _ hL _
  have hval : ∀ (j : Nat) t v, Tryz.f7.params[j]? = some t → args[j]? = some v → Value.okWide Tryz.prog W .any base t v := hval0
  have hW' := hW
  obtain ⟨p, q, hA0, hV, rfl, hfz, hnd⟩ := hW
  have hA : DataW.TrodAll enc Tryz.prog W 0 (fun _ => true) true Tryz.f7.params.toList args.toList ds p := hA0
  rw [Tryz.params7] at hA hval
  obtain ⟨rfl, rfl⟩ := trodVars_none hV
  obtain ⟨v0, vs0, d0, ds0, p0, q0, hargs, rfl, rfl, h0, r0⟩ := trodAll_cons hA
  obtain ⟨v1, vs1, d1, ds1, p1, q1, rfl, rfl, rfl, h1, r1⟩ := trodAll_cons r0
  obtain ⟨rfl, rfl, rfl⟩ := trodAll_nil r1
  obtain rfl : args = #[v0, v1] := by cases args; simp_all
  obtain ⟨cs0, rfl, m0, x0, t0⟩ := agg_of Tryz.underlying40 (hval 0 40 v0 rfl rfl) h0
  obtain ⟨m, rfl, hm, wm⟩ := open_MedlI t0
  obtain ⟨cs1, rfl, m1, x1, t1⟩ := agg_of Tryz.underlying51 (hval 1 51 v1 rfl rfl) h1
  obtain ⟨s, rfl, ws⟩ := open_StateI t1
  refine Calls.mono (law_FnExactStatesOfCycle m _ s W hm wm ws) fun e W' h => ?_
  cases e <;> first | exact h.elim | skip
  obtain ⟨rfl, hb⟩ := h
  exact ⟨_, rfl, law_post law_laid (by kernel_rfl) rfl rfl Tryz.underlying4 (hW') rfl hb⟩

theorem fnExactStatesOfCycle_holds : Rows.FnExactStatesOfCycleSaid :=
  OpenClaim.holds_of_wide 7 Tryz.f7 rfl rfl rfl rfl rfl rfl rfl ⟨rfl, rfl, rfl, rfl, rfl⟩ rfl rfl rfl rfl rfl (by kernel_rfl) Tryz.func7 (by kernel_rfl)
    (of_decide_eq_true (by kernel_rfl)) (by unfold Func.isWrapper; rw [if_neg (of_decide_eq_false (by kernel_rfl))]; exact ⟨rfl, rfl⟩)
    (fun os started H enc _ => fnExactStatesOfCycle_lifted os started H enc)

theorem fnExactStatesOfCycle_card : Rows.FnExactStatesOfCycleCardSaid :=
  Claim7.holds_tied_plain_at .later [] [.data, .pinned] true (true, "b6b7e603f212adf66d38a31277ea0e5470f44d1e94511ff54ca58fd51d3f0bd9") false fnExactStatesOfCycle_holds (fun _ h => by cases h) (by kernel_rfl) (fun _ h => by cases h) fnExactStatesOfCycle_row_tie rfl ⟨rfl, rfl⟩ law_main rfl
    (fun f fn hf hfn => by
      obtain rfl : f = 7 := Option.some.inj ((show Tryz.prog.funcNamed "loop.example/g00833/laws.FnExactStatesOfCycle" = some 7 by kernel_rfl).symm.trans hf) |>.symm
      obtain rfl : fn = Tryz.f7 := (Option.some.inj (Tryz.func7.symm.trans hfn)).symm
      exact ⟨law_looks, fun j t ht => by
        rw [Tryz.params7] at ht
        have hm : t ∈ [40, 51] := by simpa using Array.mem_of_getElem? ht
        have hall : ([40, 51].all fun u => !Tryz.prog.wantsStandIn u) = true := by kernel_rfl
        exact (show Tryz.prog.wantsStandIn t = false by simpa using List.all_eq_true.1 hall t hm)⟩)
    (by kernel_rfl)
end Go.Proofs.YthdeoagoehkcfaaGreatDoor
