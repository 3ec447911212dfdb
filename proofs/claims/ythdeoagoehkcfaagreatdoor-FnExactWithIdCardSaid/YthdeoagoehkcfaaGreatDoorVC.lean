/- The law FnExactWithId answers true for all arguments that its row admits, and leaves what was there before as it was. No condition. -/
import Derived.Test.YthdeoagoehkcfaaGreatDoorP2
import Derived.Test.YthdeoagoehkcfaaGreatDoorC4
import Derived.Test.YthdeoagoehkcfaaGreatDoorCS
import Derived.Test.YthdeoagoehkcfaaGreatDoorK3
import Derived.Test.YthdeoagoehkcfaaGreatDoorLW
import Derived.Test.YthdeoagoehkcfaaGreatDoorTie
import Derived.Test.YthdeoagoehkcfaaGreatDoorCards
import Derived.Lay
import Derived.LaidOnce
import Derived.SevenTiedAt
namespace Go.Proofs.YthdeoagoehkcfaaGreatDoor
open Go.ChangeShapes Go.WideShapes Go.ChangeAt Go.RowKit
set_option linter.unusedVariables false
set_option linter.unusedSimpArgs false
set_option maxRecDepth 20000
theorem NOwn.win {lo hi lo' : Nat} {w w' : World} {t : TypeId} {xs : List ModeI} (h : NOwn w lo' t xs) (x : Win lo hi w w') (hl : hi ≤ lo') : NOwn w' lo' t xs := fun y hy => ⟨(h y hy).1.win x hl, (h y hy).2⟩
theorem MOwn.win {lo hi lo' : Nat} {w w' : World} {a b c d : TypeId} {m : MedlI} (h : MOwn w lo' a b c d m) (x : Win lo hi w w') (hl : hi ≤ lo') : MOwn w' lo' a b c d m := ⟨h.on.win x hl, h.om.win x hl, h.ox.win x hl, h.od, h.os.win x hl⟩
theorem law_FnExactWithId (m : MedlI) (B : Nat) (id : Int) (w : World) (hm : Med B w m) (hw : m.fit) (wid : In64 id) :
    Calls Tryz.prog 6 #[.agg m.cells.toArray, .int .i64 id] w (Ret fun v w' => v = .bool true ∧ Ext w w') := by
  have Bhm := hm.1
  have X := Ext.refl w
  refine calls_of (args := [.agg m.cells.toArray, .int .i64 id]) Tryz.func6 Tryz.ntmps6 rfl rfl ?_
  refine c_seqR ?_
  refine ops_cons rfl (ow_box rfl rfl ?_)
  intro gM w2 egM bM x1 zgM
  have lgM : w.heap.size ≤ gM := Nat.le_trans X.size (Nat.le_of_eq egM.symm)
  have pgMhm := Nat.le_trans hm.1 (Nat.le_of_eq egM.symm)
  replace hm := hm.ext x1
  replace X := Ext.trans X x1; clear x1
  refine ops_cons rfl (ow_assign rfl ?_)
  refine ops_nil ?_
  refine c_seqR ?_
  refine ops_cons rfl (ow_assign rfl ?_)
  refine ops_nil ?_
  refine c_seqR ?_
  refine ops_cons rfl (ow_loadAB bM ti40 rfl rfl ?_)
  refine ops_cons rfl (ow_move rfl ?_)
  refine ops_cons rfl (ow_call ent18 rfl (ret_mono (szMedl_c m _ _ hm hw) ?_))
  rintro _ w4 ⟨rfl, x3⟩
  replace hm := hm.ext x3
  replace bM := bM.ext x3
  replace X := Ext.trans X x3; clear x3
  refine ops_cons rfl (ow_assign rfl ?_)
  refine ops_nil ?_
  refine c_seq ?_
  refine c_seqR ?_
  refine ops_cons rfl (ow_move rfl ?_)
  refine ops_cons rfl (ow_lss2 rfl rfl (fun hq => ?_) (fun hq => ?_))
  · skip
    refine ops_nil ?_
    refine c_true rfl ?_
    refine c_seqR ?_
    refine ops_cons rfl (ow_assign rfl ?_)
    refine ops_nil ?_
    refine c_ret ?_
    refine tq_r ?_
    refine fin_ret1 rfl rfl ?_
    exact ⟨rfl, X⟩
  · skip
    have hz := szMedl_small (by omega) hq
    refine ops_nil ?_
    refine c_false rfl ?_
    refine c_skip ?_
    refine tq_n ?_
    refine c_seqR ?_
    refine ops_cons rfl (ow_loadAB bM ti40 rfl rfl ?_)
    refine ops_cons rfl (ow_call ent20 rfl (ret_mono (toMedl_c m _ _ hm hz) ?_))
    rintro _ w6 ⟨mC0, rfl, eC0, oC0, x5⟩
    replace oC0 := MOwn.low oC0 X.size
    replace hm := hm.ext x5
    replace bM := bM.ext x5
    replace X := Ext.trans X x5; clear x5
    have zC0 := MedlI.small_of eC0 hz
    refine ops_cons rfl (ow_move rfl ?_)
    refine ops_cons rfl (ow_call ent25 rfl (ret_mono (by have h := sWithId_c mC0 _ id _ oC0.med zC0; rw [eC0] at h; exact h) ?_))
    rintro _ w10 ⟨mS, rfl, eS, oS, x9⟩
    replace oS := MOwn.low oS X.size
    replace hm := hm.ext x9
    replace bM := bM.ext x9
    replace oC0 := oC0.ext x9
    replace X := Ext.trans X x9; clear x9
    have zS := withId_small eS hz
    have sS := oS.med
    have BsS := sS.1
    have LBS := X.size
    clear oS oC0
    refine ops_cons rfl (ow_move rfl ?_)
    refine ops_cons rfl (ow_extract rfl rfl ?_)
    refine ops_cons rfl (ow_extract rfl rfl ?_)
    refine ops_cons rfl (ow_alloc ti27 ?_)
    intro gS w14 egS bS x13 zgS
    have lgS : w.heap.size ≤ gS := Nat.le_trans X.size (Nat.le_of_eq egS.symm)
    have pgShm := Nat.le_trans hm.1 (Nat.le_of_eq egS.symm)
    have ngSbM := Nat.lt_of_lt_of_eq bM.lt egS.symm
    have pgSsS := Nat.le_trans sS.1 (Nat.le_of_eq egS.symm)
    replace hm := hm.ext x13
    replace bM := bM.ext x13
    replace sS := sS.ext x13
    replace X := Ext.trans X x13; clear x13
    refine ops_cons rfl (ow_storeB bS ti27 rfl rfl rfl rfl rfl rfl ?_)
    intro w16 bS2 hg15 z17
    replace hm := hm.grown hg15 (by intro g hg; injection hg; omega)
    replace bM := bM.grown hg15 (by intro h; injection h; omega)
    replace sS := sS.grown hg15 (by intro g hg; injection hg; omega)
    replace X := X.grown hg15 X.size (by intro g hg; injection hg; omega)
    clear hg15 bS
    refine ops_cons rfl (ow_assign rfl ?_)
    refine ops_nil ?_
    refine c_seqR ?_
    refine ops_cons rfl (ow_loadAB bM ti40 rfl rfl ?_)
    have LSX := sS.1
    refine ops_cons rfl (ow_call ent20 rfl (ret_mono (toMedl_c m _ _ hm hz) ?_))
    rintro _ w19 ⟨mX, rfl, eX, oX, x18⟩
    have LoX := X.size
    replace hm := hm.ext x18
    replace bM := bM.ext x18
    replace sS := sS.ext x18
    replace bS2 := bS2.ext x18
    replace X := Ext.trans X x18; clear x18
    have zX := MedlI.small_of eX hz
    refine ops_cons rfl (ow_alloc ti27 ?_)
    intro gX w23 egX bX x22 zgX
    have lgX : w.heap.size ≤ gX := Nat.le_trans X.size (Nat.le_of_eq egX.symm)
    have pgXhm := Nat.le_trans hm.1 (Nat.le_of_eq egX.symm)
    have ngXbM := Nat.lt_of_lt_of_eq bM.lt egX.symm
    have pgXsS := Nat.le_trans sS.1 (Nat.le_of_eq egX.symm)
    have ngXbS2 := Nat.lt_of_lt_of_eq bS2.lt egX.symm
    replace hm := hm.ext x22
    replace bM := bM.ext x22
    replace sS := sS.ext x22
    replace bS2 := bS2.ext x22
    replace oX := oX.ext x22
    replace X := Ext.trans X x22; clear x22
    refine ops_cons rfl (ow_storeB bX ti27 rfl rfl rfl rfl rfl rfl ?_)
    intro w25 bX2 hg24 z26
    replace hm := hm.grown hg24 (by intro g hg; injection hg; omega)
    replace bM := bM.grown hg24 (by intro h; injection h; omega)
    replace sS := sS.grown hg24 (by intro g hg; injection hg; omega)
    replace bS2 := bS2.grown hg24 (by intro h; injection h; omega)
    replace oX := oX.grownB bX hg24 ⟨by decide, by decide, by decide, by decide⟩
    replace X := X.grown hg24 X.size (by intro g hg; injection hg; omega)
    clear hg24 bX
    refine ops_nil ?_
    refine c_seqR ?_
    refine ops_cons rfl (ow_loadAB bX2 ti27 rfl rfl ?_)
    refine ops_cons rfl (ow_move rfl ?_)
    have LS := sS.1
    have UN := fun g hg => (Own.lt oX.on (g := g) hg).2
    have UM := fun g hg => (Own.lt oX.om (g := g) hg).2
    have UL := fun g hg => (Own.lt oX.os (g := g) hg).2
    have UX := fun y hy g hg => (Own.lt (oX.ox y hy).1 (g := g) hg).2
    refine ops_cons rfl (ow_call ent26 rfl (ret_mono (by have h := iWithId_c mX _ id _ oX.med zX; rw [eX] at h; exact h) ?_))
    rintro _ w28 ⟨mI, rfl, eI, oI, x27⟩
    have LoI := X.size
    replace hm := hm.ext x27
    replace bM := bM.ext x27
    replace sS := sS.ext x27
    replace bS2 := bS2.ext x27
    replace oX := oX.ext x27
    replace bX2 := bX2.ext x27
    replace X := Ext.trans X x27; clear x27
    have zI := withId_small eI hz
    refine ops_cons rfl (ow_move rfl ?_)
    refine ops_cons rfl (ow_extract rfl rfl ?_)
    refine ops_cons rfl (ow_extract rfl rfl ?_)
    refine ops_cons rfl (ow_alloc ti27 ?_)
    intro gI w32 egI bI x31 zgI
    have lgI : w.heap.size ≤ gI := Nat.le_trans X.size (Nat.le_of_eq egI.symm)
    have pgIhm := Nat.le_trans hm.1 (Nat.le_of_eq egI.symm)
    have ngIbM := Nat.lt_of_lt_of_eq bM.lt egI.symm
    have pgIsS := Nat.le_trans sS.1 (Nat.le_of_eq egI.symm)
    have ngIbS2 := Nat.lt_of_lt_of_eq bS2.lt egI.symm
    have ngIbX2 := Nat.lt_of_lt_of_eq bX2.lt egI.symm
    replace hm := hm.ext x31
    replace bM := bM.ext x31
    replace sS := sS.ext x31
    replace bS2 := bS2.ext x31
    replace oX := oX.ext x31
    replace bX2 := bX2.ext x31
    replace oI := oI.ext x31
    replace X := Ext.trans X x31; clear x31
    refine ops_cons rfl (ow_storeB bI ti27 rfl rfl rfl rfl rfl rfl ?_)
    intro w34 bI2 hg33 z35
    replace hm := hm.grown hg33 (by intro g hg; injection hg; omega)
    replace bM := bM.grown hg33 (by intro h; injection h; omega)
    replace sS := sS.grown hg33 (by intro g hg; injection hg; omega)
    replace bS2 := bS2.grown hg33 (by intro h; injection h; omega)
    replace oX := oX.grownB bI hg33 ⟨by decide, by decide, by decide, by decide⟩
    replace bX2 := bX2.grown hg33 (by intro h; injection h; omega)
    replace oI := oI.grownB bI hg33 ⟨by decide, by decide, by decide, by decide⟩
    replace X := X.grown hg33 X.size (by intro g hg; injection hg; omega)
    clear hg33 bI
    refine ops_cons rfl (ow_assign rfl ?_)
    refine ops_nil ?_
    refine c_seq ?_
    refine c_seqR ?_
    refine ops_cons rfl (ow_loadAB bI2 ti27 rfl rfl ?_)
    refine ops_cons rfl (ow_loadAB bS2 ti27 rfl rfl ?_)
    refine ops_cons rfl (ow_call ent13 rfl (ret_mono (eqMedl_c mI mS _ _ _ oI.med sS (eS.trans eI.symm) zI) ?_))
    rintro _ w37 ⟨rfl, x36⟩
    replace hm := hm.ext x36
    replace bM := bM.ext x36
    replace sS := sS.ext x36
    replace bS2 := bS2.ext x36
    replace oX := oX.ext x36
    replace bX2 := bX2.ext x36
    replace oI := oI.ext x36
    replace bI2 := bI2.ext x36
    replace X := Ext.trans X x36; clear x36
    refine ops_cons rfl (ow_not rfl ?_)
    refine ops_cons rfl (ow_move rfl ?_)
    refine ops_want rfl rfl rfl (ow_move rfl ?_)
    refine ops_want rfl rfl rfl (ow_move rfl ?_)
    refine ops_want rfl rfl rfl (ow_neq2 rfl rfl (fun h38 => absurd h38 (by simp)) (fun h38 => ?_))
    refine ops_cons rfl (ow_pick rfl rfl ?_)
    refine ops_nil ?_
    refine c_false rfl ?_
    refine c_skip ?_
    refine tq_n ?_
    refine c_seq ?_
    refine c_seqI (fun wz => Blk wz gX 27 mX.cells ∧ Blk wz gM 40 m.cells) mixed ?_
    obtain ⟨w39, ew39⟩ : ∃ w2, w2 = World.drew w37 := ⟨_, rfl⟩
    rw [← ew39]
    have xd : Ext w37 w39 := ew39 ▸ Ext.drew w37
    replace hm := hm.ext xd
    replace bM := bM.ext xd
    replace sS := sS.ext xd
    replace bS2 := bS2.ext xd
    replace oX := oX.ext xd
    replace bX2 := bX2.ext xd
    replace oI := oI.ext xd
    replace bI2 := bI2.ext xd
    replace X := Ext.trans X xd; clear xd ew39
    refine wi_take 0 rfl (by kernel_rfl) rfl (by kernel_rfl) (listed' := #[true, false, false, false, false]) rfl (fun wq sq => ow_loadAB sq.1 ti27 rfl rfl ⟨rfl, rfl⟩) ?_
    refine wi_take 1 rfl (by kernel_rfl) rfl (by kernel_rfl) (listed' := #[true, true, false, false, false]) rfl (fun wq sq => ow_loadAB sq.2 ti40 rfl rfl ⟨rfl, rfl⟩) ?_
    refine wi_one 2 rfl rfl (by kernel_rfl) (listed' := #[true, true, true, false, false]) rfl ⟨bX2, bM⟩ (ow_call ent20 rfl (ret_mono (toMedl_c m _ _ hm hz) ?_))
    rintro _ w41 ⟨mC1, rfl, eC1, oC1, x40⟩
    replace oC1 := MOwn.low oC1 X.size
    replace hm := hm.ext x40
    replace bM := bM.ext x40
    replace sS := sS.ext x40
    replace bS2 := bS2.ext x40
    replace oX := oX.ext x40
    replace bX2 := bX2.ext x40
    replace oI := oI.ext x40
    replace bI2 := bI2.ext x40
    replace X := Ext.trans X x40; clear x40
    have zC1 := MedlI.small_of eC1 hz
    refine wi_one 3 rfl rfl (by kernel_rfl) (listed' := #[true, true, true, true, false]) rfl ⟨bX2, bM⟩ (ow_call ent13 rfl (ret_mono (eqMedl_c mX mC1 _ _ _ oX.med oC1.med (eC1.trans eX.symm) zX) ?_))
    rintro _ w45 ⟨rfl, x44⟩
    replace hm := hm.ext x44
    replace bM := bM.ext x44
    replace sS := sS.ext x44
    replace bS2 := bS2.ext x44
    replace oX := oX.ext x44
    replace bX2 := bX2.ext x44
    replace oI := oI.ext x44
    replace bI2 := bI2.ext x44
    replace oC1 := oC1.ext x44
    replace X := Ext.trans X x44; clear x44
    clear oC1
    refine wi_take 4 rfl (by kernel_rfl) rfl (by kernel_rfl) (listed' := #[true, true, true, true, true]) rfl (fun wq sq => ow_not rfl ⟨rfl, rfl⟩) ?_
    refine wi_done rfl ⟨bX2, bM⟩ (fun aj fj => ⟨_, fj, ?_⟩)
    refine c_false rfl ?_
    refine c_skip ?_
    refine tq_n ?_
    refine c_seqR ?_
    refine ops_cons rfl (ow_assign rfl ?_)
    refine ops_nil ?_
    refine c_seqR ?_
    refine ops_cons rfl (ow_loadAB bX2 ti27 rfl rfl ?_)
    refine ops_cons rfl (ow_move rfl ?_)
    refine ops_cons rfl (ow_call ent16 rfl (ret_mono (markMedl_c mX _ _ 1 _ (oX.low LSX) (fun g hg => hg.elim (UN g) (fun h => h.elim (UM g) (UL g))) UX zX (by omega)) ?_))
    rintro _ wM ⟨rfl, _, yM⟩
    have xM := yM.win
    have xB := xM.below sS.1
    replace hm := hm.below (Below.mono xB (Nat.le_trans Bhm LBS))
    replace bM := bM.kep yM.kep (by decide)
    replace bS2 := bS2.kep yM.kep (by decide)
    replace bX2 := bX2.kep yM.kep (by decide)
    replace bI2 := bI2.kep yM.kep (by decide)
    replace sS := sS.below xB
    replace oI := oI.win xM (Nat.le_refl _)
    replace X := Below.trans X (Below.mono xB LBS)
    have hE := endMedl_pos (a := 1) zX (by omega)
    clear oX
    refine ops_cons rfl (ow_assign rfl ?_)
    refine ops_nil ?_
    refine c_seq ?_
    refine c_seqR ?_
    refine ops_cons rfl (ow_move rfl ?_)
    refine ops_cons rfl (ow_lss2 rfl rfl (fun h46 => absurd h46 (by omega)) (fun h46 => ?_))
    refine ops_cons rfl (ow_move rfl ?_)
    refine ops_want rfl rfl rfl (ow_loadAB bI2 ti27 rfl rfl ?_)
    refine ops_want rfl rfl rfl (ow_loadAB bS2 ti27 rfl rfl ?_)
    refine ops_want rfl rfl rfl (ow_call ent13 rfl (ret_mono (eqMedl_c mI mS _ _ _ oI.med sS (eS.trans eI.symm) zI) ?_))
    rintro _ w48 ⟨rfl, x47⟩
    replace hm := hm.ext x47
    replace bM := bM.ext x47
    replace sS := sS.ext x47
    replace bS2 := bS2.ext x47
    replace bX2 := bX2.ext x47
    replace oI := oI.ext x47
    replace bI2 := bI2.ext x47
    replace X := Ext.trans X x47; clear x47
    refine ops_want rfl rfl rfl (ow_not rfl ?_)
    refine ops_cons rfl (ow_pick rfl rfl ?_)
    refine ops_cons rfl (ow_move rfl ?_)
    refine ops_want rfl rfl rfl (ow_move rfl ?_)
    refine ops_want rfl rfl rfl (ow_move rfl ?_)
    refine ops_want rfl rfl rfl (ow_neq2 rfl rfl (fun h49 => absurd h49 (by simp)) (fun h49 => ?_))
    refine ops_cons rfl (ow_pick rfl rfl ?_)
    refine ops_nil ?_
    refine c_false rfl ?_
    refine c_skip ?_
    refine tq_n ?_
    refine c_seqR ?_
    refine ops_cons rfl (ow_assign rfl ?_)
    refine ops_nil ?_
    refine c_seqR ?_
    refine ops_cons rfl (ow_loadAB bI2 ti27 rfl rfl ?_)
    refine ops_cons rfl (ow_move rfl ?_)
    refine ops_cons rfl (ow_call ent16 rfl (ret_mono (markMedl_c mI _ _ 1 _ (oI.low LS) (fun g hg => hg.elim (fun h => (Own.lt oI.on h).2) (fun h => h.elim (fun h => (Own.lt oI.om h).2) (fun h => (Own.lt oI.os h).2))) (fun y hy g hg => (Own.lt (oI.ox y hy).1 hg).2) zI (by omega)) ?_))
    rintro _ wN ⟨rfl, oV, yN⟩
    obtain ⟨oN2, oM2, oP2, oS2⟩ := oV
    have xN := yN.win.below sS.1
    replace hm := hm.below (Below.mono xN (Nat.le_trans Bhm LBS))
    replace bM := bM.kep yN.kep (by decide)
    replace bS2 := bS2.kep yN.kep (by decide)
    replace bX2 := bX2.kep yN.kep (by decide)
    replace bI2 := bI2.kep yN.kep (by decide)
    replace sS := sS.below xN
    replace X := Below.trans X (Below.mono xN LBS)
    have hE2 := endMedl_pos (a := 1) zI (by omega)
    clear oI
    refine ops_cons rfl (ow_assign rfl ?_)
    refine ops_nil ?_
    refine c_seqR ?_
    refine ops_cons rfl (ow_assign rfl ?_)
    refine ops_nil ?_
    refine c_seqR ?_
    refine ops_cons rfl (ow_loadAB bI2 ti27 rfl rfl ?_)
    refine ops_cons rfl (ow_move rfl ?_)
    refine ops_cons rfl (ow_call ent17 rfl (ret_mono (heldMedl_c mI _ _ _ _ 1 _ oN2.sl oM2.sl oP2.nexts oS2.sl zI (by omega)) ?_))
    rintro _ w51 ⟨rfl, x50⟩
    replace hm := hm.ext x50
    replace bM := bM.ext x50
    replace sS := sS.ext x50
    replace bS2 := bS2.ext x50
    replace bX2 := bX2.ext x50
    replace bI2 := bI2.ext x50
    replace oN2 := oN2.ext x50
    replace oM2 := oM2.ext x50
    replace oP2 := oP2.ext x50
    replace oS2 := oS2.ext x50
    replace X := Ext.trans X x50; clear x50
    refine ops_cons rfl (ow_assign rfl ?_)
    refine ops_nil ?_
    refine c_seq ?_
    refine c_seqR ?_
    refine ops_cons rfl (ow_move rfl ?_)
    refine ops_cons rfl (ow_lss2 rfl rfl (fun h52 => absurd h52 (by omega)) (fun h52 => ?_))
    refine ops_nil ?_
    refine c_false rfl ?_
    refine c_skip ?_
    refine tq_n ?_
    refine c_seq ?_
    refine c_seqR ?_
    refine ops_cons rfl (ow_move rfl ?_)
    refine ops_cons rfl (ow_move rfl ?_)
    refine ops_cons rfl (ow_neq2 rfl rfl (fun h53 => absurd h53 (by simp)) (fun h53 => ?_))
    refine ops_nil ?_
    refine c_false rfl ?_
    refine c_skip ?_
    refine tq_n ?_
    refine c_seqR ?_
    refine ops_cons rfl (ow_loadAB bM ti40 rfl rfl ?_)
    refine ops_cons rfl (ow_call ent20 rfl (ret_mono (toMedl_c m _ _ hm hz) ?_))
    rintro _ w55 ⟨mC2, rfl, eC2, oC2, x54⟩
    replace oC2 := MOwn.low oC2 X.size
    replace hm := hm.ext x54
    replace bM := bM.ext x54
    replace sS := sS.ext x54
    replace bS2 := bS2.ext x54
    replace bX2 := bX2.ext x54
    replace bI2 := bI2.ext x54
    replace oN2 := oN2.ext x54
    replace oM2 := oM2.ext x54
    replace oP2 := oP2.ext x54
    replace oS2 := oS2.ext x54
    replace X := Ext.trans X x54; clear x54
    have zC2 := MedlI.small_of eC2 hz
    refine ops_cons rfl (ow_move rfl ?_)
    refine ops_cons rfl (ow_call ent26 rfl (ret_mono (by have h := iWithId_c mC2 _ id _ oC2.med zC2; rw [eC2] at h; exact h) ?_))
    rintro _ w59 ⟨mJ, rfl, eJ, oJ, x58⟩
    replace oJ := MOwn.low oJ X.size
    replace hm := hm.ext x58
    replace bM := bM.ext x58
    replace sS := sS.ext x58
    replace bS2 := bS2.ext x58
    replace bX2 := bX2.ext x58
    replace bI2 := bI2.ext x58
    replace oN2 := oN2.ext x58
    replace oM2 := oM2.ext x58
    replace oP2 := oP2.ext x58
    replace oS2 := oS2.ext x58
    replace oC2 := oC2.ext x58
    replace X := Ext.trans X x58; clear x58
    have zJ := withId_small eJ hz
    clear oC2
    refine ops_cons rfl (ow_move rfl ?_)
    refine ops_cons rfl (ow_extract rfl rfl ?_)
    refine ops_cons rfl (ow_extract rfl rfl ?_)
    refine ops_cons rfl (ow_alloc ti27 ?_)
    intro gJ w63 egJ bJ x62 zgJ
    have lgJ : w.heap.size ≤ gJ := Nat.le_trans X.size (Nat.le_of_eq egJ.symm)
    have pgJhm := Nat.le_trans hm.1 (Nat.le_of_eq egJ.symm)
    have ngJbM := Nat.lt_of_lt_of_eq bM.lt egJ.symm
    have pgJsS := Nat.le_trans sS.1 (Nat.le_of_eq egJ.symm)
    have ngJbS2 := Nat.lt_of_lt_of_eq bS2.lt egJ.symm
    have ngJbX2 := Nat.lt_of_lt_of_eq bX2.lt egJ.symm
    have ngJbI2 := Nat.lt_of_lt_of_eq bI2.lt egJ.symm
    replace hm := hm.ext x62
    replace bM := bM.ext x62
    replace sS := sS.ext x62
    replace bS2 := bS2.ext x62
    replace bX2 := bX2.ext x62
    replace bI2 := bI2.ext x62
    replace oN2 := oN2.ext x62
    replace oM2 := oM2.ext x62
    replace oP2 := oP2.ext x62
    replace oS2 := oS2.ext x62
    replace oJ := oJ.ext x62
    replace X := Ext.trans X x62; clear x62
    refine ops_cons rfl (ow_storeB bJ ti27 rfl rfl rfl rfl rfl rfl ?_)
    intro w65 bJ2 hg64 z66
    replace hm := hm.grown hg64 (by intro g hg; injection hg; omega)
    replace bM := bM.grown hg64 (by intro h; injection h; omega)
    replace sS := sS.grown hg64 (by intro g hg; injection hg; omega)
    replace bS2 := bS2.grown hg64 (by intro h; injection h; omega)
    replace bX2 := bX2.grown hg64 (by intro h; injection h; omega)
    replace bI2 := bI2.grown hg64 (by intro h; injection h; omega)
    replace oN2 := oN2.grownBlk hg64 (Own.neT oN2 bJ (by decide))
    replace oM2 := oM2.grownBlk hg64 (Own.neT oM2 bJ (by decide))
    replace oP2 := oP2.grownB bJ hg64 (by decide)
    replace oS2 := oS2.grownBlk hg64 (Own.neT oS2 bJ (by decide))
    replace oJ := oJ.grownB bJ hg64 ⟨by decide, by decide, by decide, by decide⟩
    replace X := X.grown hg64 X.size (by intro g hg; injection hg; omega)
    clear hg64 bJ
    refine ops_cons rfl (ow_assign rfl ?_)
    refine ops_nil ?_
    refine c_seq ?_
    refine c_seqR ?_
    refine ops_cons rfl (ow_loadAB bJ2 ti27 rfl rfl ?_)
    refine ops_cons rfl (ow_loadAB bS2 ti27 rfl rfl ?_)
    refine ops_cons rfl (ow_call ent13 rfl (ret_mono (eqMedl_c mJ mS _ _ _ oJ.med sS (eS.trans eJ.symm) zJ) ?_))
    rintro _ w68 ⟨rfl, x67⟩
    replace hm := hm.ext x67
    replace bM := bM.ext x67
    replace sS := sS.ext x67
    replace bS2 := bS2.ext x67
    replace bX2 := bX2.ext x67
    replace bI2 := bI2.ext x67
    replace oN2 := oN2.ext x67
    replace oM2 := oM2.ext x67
    replace oP2 := oP2.ext x67
    replace oS2 := oS2.ext x67
    replace oJ := oJ.ext x67
    replace bJ2 := bJ2.ext x67
    replace X := Ext.trans X x67; clear x67
    clear oJ
    refine ops_cons rfl (ow_not rfl ?_)
    refine ops_cons rfl (ow_move rfl ?_)
    refine ops_want rfl rfl rfl (ow_move rfl ?_)
    refine ops_want rfl rfl rfl (ow_move rfl ?_)
    refine ops_want rfl rfl rfl (ow_neq2 rfl rfl (fun h69 => absurd h69 (by simp)) (fun h69 => ?_))
    refine ops_cons rfl (ow_pick rfl rfl ?_)
    refine ops_nil ?_
    refine c_false rfl ?_
    refine c_skip ?_
    refine tq_n ?_
    refine c_seqR ?_
    refine ops_cons rfl (ow_assign rfl ?_)
    refine ops_nil ?_
    refine c_seqR ?_
    refine ops_cons rfl (ow_loadAB bI2 ti27 rfl rfl ?_)
    refine ops_cons rfl (ow_move rfl ?_)
    refine ops_cons rfl (ow_call ent17 rfl (ret_mono (heldMedl_c mI _ _ _ _ 1 _ oN2.sl oM2.sl oP2.nexts oS2.sl zI (by omega)) ?_))
    rintro _ w71 ⟨rfl, x70⟩
    replace hm := hm.ext x70
    replace bM := bM.ext x70
    replace sS := sS.ext x70
    replace bS2 := bS2.ext x70
    replace bX2 := bX2.ext x70
    replace bI2 := bI2.ext x70
    replace oN2 := oN2.ext x70
    replace oM2 := oM2.ext x70
    replace oP2 := oP2.ext x70
    replace oS2 := oS2.ext x70
    replace bJ2 := bJ2.ext x70
    replace X := Ext.trans X x70; clear x70
    refine ops_cons rfl (ow_assign rfl ?_)
    refine ops_nil ?_
    refine c_seq ?_
    refine c_seqR ?_
    refine ops_cons rfl (ow_move rfl ?_)
    refine ops_cons rfl (ow_lss2 rfl rfl (fun h72 => absurd h72 (by omega)) (fun h72 => ?_))
    refine ops_nil ?_
    refine c_false rfl ?_
    refine c_skip ?_
    refine tq_n ?_
    refine c_seq ?_
    refine c_seqR ?_
    refine ops_cons rfl (ow_move rfl ?_)
    refine ops_cons rfl (ow_move rfl ?_)
    refine ops_cons rfl (ow_neq2 rfl rfl (fun h73 => absurd h73 (by simp)) (fun h73 => ?_))
    refine ops_nil ?_
    refine c_false rfl ?_
    refine c_skip ?_
    refine tq_n ?_
    refine c_seqR ?_
    refine ops_cons rfl (ow_assign rfl ?_)
    refine ops_nil ?_
    refine c_ret ?_
    refine fin_ret1 rfl rfl ?_
    exact ⟨rfl, X⟩
set_option maxRecDepth 100000

theorem fnExactWithId_lifted (os : Os) (started : os.Started) (H : Type) (enc : TypeId × Value → H) :
    ReturnsInHanded {} Tryz.checked os 6 .any (fun w args => (Rows.fnExactWithIdSpec.pre enc Tryz.prog Tryz.f6 Rows.fnExactWithIdRow.domain false w args ∧ laidMetH Tryz.prog Rows.fnExactWithIdRow.laid w) ∧ sizedMet enc Tryz.prog Tryz.f6 (OpenSpec.ofChange Rows.fnExactWithIdSpec) false w args)
      (Rows.fnExactWithIdSpec.post enc Tryz.prog Tryz.f6 false true false false) := by
  refine returnsInHanded_of_change_and (C := Tryz.checked) (X := fun w _ => laidMetH Tryz.prog Rows.fnExactWithIdRow.laid w) (fun _ _ _ hh h => h.of_heap hh) law_own started (by kernel_rfl) Tryz.func6
    (ChangeSpec.witness_shaped (enc := enc) (C := Tryz.checked) (os := os) (X := fun w _ => laidMetH Tryz.prog Rows.fnExactWithIdRow.laid w) false (World.laidAll Tryz.prog os Rows.fnExactWithIdRow.laid) #[.agg #[.int .i64 0, .slice none 0 0, .slice none 0 0, .slice none 0 0], .int .i64 0] 8 (World.laidAll_os _ _ _)
      (World.shaped_of_ZipB (by kernel_rfl) (by kernel_rfl)) (by kernel_rfl) (by kernel_rfl) (by kernel_rfl)
      (by rw [MakeChecks.laidMetH_plain _ _ _ (by kernel_rfl)]; exact laidMet_laidAll _ (by kernel_rfl) (by kernel_rfl))) ?_
  intro W base args ds gs before hval0 hW _ _ hL _
  have hval : ∀ (j : Nat) t v, Tryz.f6.params[j]? = some t → args[j]? = some v → Value.okWide Tryz.prog W .any base t v := hval0
  have hW' := hW
  obtain ⟨p, q, hA0, hV, rfl, hfz, hnd⟩ := hW
  have hA : DataW.TrodAll enc Tryz.prog W 0 (fun _ => true) true Tryz.f6.params.toList args.toList ds p := hA0
  rw [Tryz.params6] at hA hval
  obtain ⟨rfl, rfl⟩ := trodVars_none hV
  obtain ⟨v0, vs0, d0, ds0, p0, q0, hargs, rfl, rfl, h0, r0⟩ := trodAll_cons hA
  obtain ⟨v1, vs1, d1, ds1, p1, q1, rfl, rfl, rfl, h1, r1⟩ := trodAll_cons r0
  obtain ⟨rfl, rfl, rfl⟩ := trodAll_nil r1
  obtain rfl : args = #[v0, v1] := by cases args; simp_all
  obtain ⟨cs0, rfl, m0, x0, t0⟩ := agg_of Tryz.underlying40 (hval 0 40 v0 rfl rfl) h0
  obtain ⟨m, rfl, hm, wm⟩ := open_MedlI t0
  obtain ⟨id, rfl, _, _, wfid⟩ := open_int Tryz.underlying2 (hval 1 2 v1 rfl rfl) h1
  have wid : In64 id := by simpa [In64, Lit.wf, IntKind.min, IntKind.max, IntKind.signed, IntKind.bits] using wfid
  refine Calls.mono (law_FnExactWithId m _ id W hm wm wid) fun e W' h => ?_
  cases e <;> first | exact h.elim | skip
  obtain ⟨rfl, hb⟩ := h
  exact ⟨_, rfl, law_post law_laid (by kernel_rfl) rfl rfl Tryz.underlying4 (hW') rfl hb⟩

theorem fnExactWithId_holds : Rows.FnExactWithIdSaid :=
  OpenClaim.holds_of_wide 6 Tryz.f6 rfl rfl rfl rfl rfl rfl rfl ⟨rfl, rfl, rfl, rfl, rfl⟩ rfl rfl rfl rfl rfl (by kernel_rfl) Tryz.func6 (by kernel_rfl)
    (of_decide_eq_true (by kernel_rfl)) (by unfold Func.isWrapper; rw [if_neg (of_decide_eq_false (by kernel_rfl))]; exact ⟨rfl, rfl⟩)
    (fun os started H enc _ => fnExactWithId_lifted os started H enc)

theorem fnExactWithId_card : Rows.FnExactWithIdCardSaid :=
  Claim7.holds_tied_plain_at .later [] [.data, .pinned] true (true, "b6b7e603f212adf66d38a31277ea0e5470f44d1e94511ff54ca58fd51d3f0bd9") false fnExactWithId_holds (fun _ h => by cases h) (by kernel_rfl) (fun _ h => by cases h) fnExactWithId_row_tie rfl ⟨rfl, rfl⟩ law_main rfl
    (fun f fn hf hfn => by
      obtain rfl : f = 6 := Option.some.inj ((show Tryz.prog.funcNamed "loop.example/g00833/laws.FnExactWithId" = some 6 by kernel_rfl).symm.trans hf) |>.symm
      obtain rfl : fn = Tryz.f6 := (Option.some.inj (Tryz.func6.symm.trans hfn)).symm
      exact ⟨law_looks, fun j t ht => by
        rw [Tryz.params6] at ht
        have hm : t ∈ [40, 2] := by simpa using Array.mem_of_getElem? ht
        have hall : ([40, 2].all fun u => !Tryz.prog.wantsStandIn u) = true := by kernel_rfl
        exact (show Tryz.prog.wantsStandIn t = false by simpa using List.all_eq_true.1 hall t hm)⟩)
    (by kernel_rfl)
end Go.Proofs.YthdeoagoehkcfaaGreatDoor
