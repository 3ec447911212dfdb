/- The law FnExactDecodeImage answers true for all arguments that its row admits, and leaves what was there before as it was. No condition. -/
import Derived.Test.YtdoibplhbdkapaaGreatDoorDMP22
import Derived.Test.YtdoibplhbdkapaaGreatDoorDMP23
import Derived.Test.YtdoibplhbdkapaaGreatDoorDMP24
import Derived.Test.YtdoibplhbdkapaaGreatDoorTie
import Derived.Test.YtdoibplhbdkapaaGreatDoorCards
import Derived.Lay
import Derived.LaidOnce
import Derived.SevenTiedAt
/- The law FnExactDecodeImage answers true for all arguments that its row admits, and leaves what was there before as it was. No condition. -/
namespace Go.Proofs.YtdoibplhbdkapaaGreatDoor
open Go.ChangeShapes Go.WideShapes Go.ChangeAt Go.RowKit
set_option linter.unusedVariables false
set_option linter.unusedSimpArgs false
set_option maxRecDepth 20000
theorem NOwn.win {lo hi lo' : Nat} {w w' : World} {t : TypeId} {xs : List ModeI} (h : NOwn w lo' t xs) (x : Win lo hi w w') (hl : hi ≤ lo') : NOwn w' lo' t xs := fun y hy => ⟨(h y hy).1.win x hl, (h y hy).2⟩
theorem MOwn.win {lo hi lo' : Nat} {w w' : World} {a b c d : TypeId} {m : MedlI} (h : MOwn w lo' a b c d m) (x : Win lo hi w w') (hl : hi ≤ lo') : MOwn w' lo' a b c d m := ⟨h.on.win x hl, h.om.win x hl, h.ox.win x hl, h.od, h.os.win x hl⟩
theorem law_FnExactDecodeImage (A : Option Addr) (B c : Nat) (xs : List Int) (w : World) (hs : Sl B w A (xs.flatMap eI)) (hm : xs.length ≤ 9223372036854775807) :
    Calls Tryz.prog 4 #[.slice A xs.length c] w (Ret fun v w' => v = .bool true ∧ Ext w w') := by
  have Bhs := hs.1
  have X := Ext.refl w
  refine calls_of (args := [.slice A xs.length c]) Tryz.func4 Tryz.ntmps4 rfl rfl ?_
  refine c_seqR ?_
  refine ops_cons rfl (ow_assign rfl ?_)
  refine ops_nil ?_
  refine c_seq ?_
  refine c_seqR ?_
  refine ops_cons rfl (ow_move rfl ?_)
  refine ops_cons rfl (ow_len Tryz.underlying30 rfl ?_)
  refine ops_cons rfl (ow_gtr2 rfl rfl (fun hz0 => ?_) (fun hz0 => ?_))
  refine ops_nil ?_
  refine c_true rfl ?_
  refine c_seqR ?_
  refine ops_cons rfl (ow_assign rfl ?_)
  refine ops_nil ?_
  refine c_ret ?_
  refine tq_r ?_
  refine fin_ret1 rfl rfl ?_
  exact ⟨rfl, X⟩
  have hl : xs.length ≤ 1048576 := by omega
  refine ops_nil ?_
  refine c_false rfl ?_
  refine c_skip ?_
  refine tq_n ?_
  refine c_seqR ?_
  refine ops_cons rfl (ow_move rfl ?_)
  refine ops_cons rfl (ow_call ent23 rfl (ret_mono (toInt_c _ _ _ _ _ hs hl) ?_))
  rintro _ w2 ⟨A3, c4, rfl, oC0, x1⟩
  replace oC0 := Own.low oC0 X.size
  replace hs := hs.ext x1
  replace X := Ext.trans X x1; clear x1
  refine ops_cons rfl (ow_call ent22 rfl (ret_mono (sDec_c _ _ _ _ _ (oC0).sl hl oC0.cap) ?_))
  rintro _ w6 ⟨mS, rfl, eS, oS, x5⟩
  replace oS := MOwn.low oS X.size
  replace hs := hs.ext x5
  replace oC0 := oC0.ext x5
  replace X := Ext.trans X x5; clear x5
  have zS := decF_small eS
  have sS := oS.med
  have BsS := sS.1
  have LBS := X.size
  clear oS oC0
  refine ops_cons rfl (ow_move rfl ?_)
  refine ops_cons rfl (ow_extract rfl rfl ?_)
  refine ops_cons rfl (ow_extract rfl rfl ?_)
  refine ops_cons rfl (ow_alloc ti28 ?_)
  intro gS w10 egS bS x9 zgS
  have lgS : w.heap.size ≤ gS := Nat.le_trans X.size (Nat.le_of_eq egS.symm)
  have pgShs := Nat.le_trans hs.1 (Nat.le_of_eq egS.symm)
  have pgSsS := Nat.le_trans sS.1 (Nat.le_of_eq egS.symm)
  replace hs := hs.ext x9
  replace sS := sS.ext x9
  replace X := Ext.trans X x9; clear x9
  refine ops_cons rfl (ow_storeB bS ti28 rfl rfl rfl rfl rfl rfl ?_)
  intro w12 bS2 hg11 z13
  replace hs := hs.grown hg11 (by intro g hg; injection hg; omega)
  replace sS := sS.grown hg11 (by intro g hg; injection hg; omega)
  replace X := X.grown hg11 X.size (by intro g hg; injection hg; omega)
  clear hg11 bS
  refine ops_cons rfl (ow_assign rfl ?_)
  refine ops_nil ?_
  refine c_seqR ?_
  refine ops_cons rfl (ow_move rfl ?_)
  have LSX := sS.1
  refine ops_cons rfl (ow_call ent23 rfl (ret_mono (toInt_c _ _ _ _ _ hs hl) ?_))
  rintro _ w15 ⟨A16, c17, rfl, oX, x14⟩
  have LoX := X.size
  replace hs := hs.ext x14
  replace sS := sS.ext x14
  replace bS2 := bS2.ext x14
  replace X := Ext.trans X x14; clear x14
  refine ops_cons rfl (ow_assign rfl ?_)
  refine ops_nil ?_
  refine c_seqR ?_
  refine ops_cons rfl (ow_move rfl ?_)
  have LS := sS.1
  have UX := fun g hg => (Own.lt oX (g := g) hg).2
  refine ops_cons rfl (ow_call ent20 rfl (ret_mono (iDec_c _ _ _ _ _ (oX).sl hl oX.cap) ?_))
  rintro _ w19 ⟨mI, rfl, eI, oI, x18⟩
  have LoI := X.size
  replace hs := hs.ext x18
  replace sS := sS.ext x18
  replace bS2 := bS2.ext x18
  replace oX := oX.ext x18
  replace X := Ext.trans X x18; clear x18
  have zI := decF_small eI
  refine ops_cons rfl (ow_move rfl ?_)
  refine ops_cons rfl (ow_extract rfl rfl ?_)
  refine ops_cons rfl (ow_extract rfl rfl ?_)
  refine ops_cons rfl (ow_alloc ti28 ?_)
  intro gI w23 egI bI x22 zgI
  have lgI : w.heap.size ≤ gI := Nat.le_trans X.size (Nat.le_of_eq egI.symm)
  have pgIhs := Nat.le_trans hs.1 (Nat.le_of_eq egI.symm)
  have pgIsS := Nat.le_trans sS.1 (Nat.le_of_eq egI.symm)
  have ngIbS2 := Nat.lt_of_lt_of_eq bS2.lt egI.symm
  replace hs := hs.ext x22
  replace sS := sS.ext x22
  replace bS2 := bS2.ext x22
  replace oX := oX.ext x22
  replace oI := oI.ext x22
  replace X := Ext.trans X x22; clear x22
  refine ops_cons rfl (ow_storeB bI ti28 rfl rfl rfl rfl rfl rfl ?_)
  intro w25 bI2 hg24 z26
  replace hs := hs.grown hg24 (by intro g hg; injection hg; omega)
  replace sS := sS.grown hg24 (by intro g hg; injection hg; omega)
  replace bS2 := bS2.grown hg24 (by intro h; injection h; omega)
  replace oX := oX.grownBlk hg24 (Own.neT oX bI (by decide))
  replace oI := oI.grownB bI hg24 ⟨by decide, by decide, by decide, by decide⟩
  replace X := X.grown hg24 X.size (by intro g hg; injection hg; omega)
  clear hg24 bI
  refine ops_cons rfl (ow_assign rfl ?_)
  refine ops_nil ?_
  refine c_seq ?_
  refine c_seqR ?_
  refine ops_cons rfl (ow_loadAB bI2 ti28 rfl rfl ?_)
  refine ops_cons rfl (ow_loadAB bS2 ti28 rfl rfl ?_)
  refine ops_cons rfl (ow_call ent24 rfl (ret_mono (eqMedl_c mI mS _ _ _ oI.med sS (eS.trans eI.symm) zI) ?_))
  rintro _ w28 ⟨rfl, x27⟩
  replace hs := hs.ext x27
  replace sS := sS.ext x27
  replace bS2 := bS2.ext x27
  replace oX := oX.ext x27
  replace oI := oI.ext x27
  replace bI2 := bI2.ext x27
  replace X := Ext.trans X x27; clear x27
  refine ops_cons rfl (ow_not rfl ?_)
  refine ops_cons rfl (ow_move rfl ?_)
  refine ops_want rfl rfl rfl (ow_move rfl ?_)
  refine ops_want rfl rfl rfl (ow_move rfl ?_)
  refine ops_want rfl rfl rfl (ow_neq2 rfl rfl (fun h29 => absurd h29 (by simp)) (fun h29 => ?_))
  refine ops_cons rfl (ow_pick rfl rfl ?_)
  refine ops_nil ?_
  refine c_false rfl ?_
  refine c_skip ?_
  refine tq_n ?_
  refine c_seq ?_
  refine c_seqR ?_
  refine ops_cons rfl (ow_move rfl ?_)
  refine ops_cons rfl (ow_move rfl ?_)
  refine ops_cons rfl (ow_call ent23 rfl (ret_mono (toInt_c _ _ _ _ _ hs hl) ?_))
  rintro _ w31 ⟨A32, c33, rfl, oC1, x30⟩
  replace oC1 := Own.low oC1 X.size
  replace hs := hs.ext x30
  replace sS := sS.ext x30
  replace bS2 := bS2.ext x30
  replace oX := oX.ext x30
  replace oI := oI.ext x30
  replace bI2 := bI2.ext x30
  replace X := Ext.trans X x30; clear x30
  refine ops_cons rfl (ow_call ent25 rfl (ret_mono (eqInt_c _ _ _ _ _ _ _ _ (oX).sl (oC1).sl hl) ?_))
  rintro _ w35 ⟨rfl, x34⟩
  replace hs := hs.ext x34
  replace sS := sS.ext x34
  replace bS2 := bS2.ext x34
  replace oX := oX.ext x34
  replace oI := oI.ext x34
  replace bI2 := bI2.ext x34
  replace oC1 := oC1.ext x34
  replace X := Ext.trans X x34; clear x34
  clear oC1
  refine ops_cons rfl (ow_not rfl ?_)
  refine ops_nil ?_
  refine c_false rfl ?_
  refine c_skip ?_
  refine tq_n ?_
  refine c_seqR ?_
  refine ops_cons rfl (ow_assign rfl ?_)
  refine ops_nil ?_
  refine c_seqR ?_
  refine ops_cons rfl (ow_move rfl ?_)
  refine ops_cons rfl (ow_move rfl ?_)
  refine ops_cons rfl (ow_call ent26 rfl (ret_mono (markI_c _ _ _ _ _ _ oX hl (by omega)) ?_))
  rintro _ w37 ⟨rfl, oX2, x36⟩
  replace hs := hs.grown x36 (fun g hg => Nat.le_trans Bhs (Nat.le_trans LoX (Own.lt oX hg).1))
  replace sS := sS.grown x36 (fun g hg => Nat.le_trans LSX (Own.lt oX hg).1)
  replace bS2 := bS2.grown x36 (fun h => Own.neT oX bS2 (by decide) h.symm)
  replace oI := oI.grownX x36 (fun g hg => UX g hg)
  replace bI2 := bI2.grown x36 (fun h => Own.neT oX bI2 (by decide) h.symm)
  replace X := X.grown x36 X.size (fun g hg => Nat.le_trans LoX (Own.lt oX hg).1); clear x36 oX
  clear oX2
  refine ops_cons rfl (ow_assign rfl ?_)
  refine ops_nil ?_
  refine c_seq ?_
  refine c_seqR ?_
  refine ops_cons rfl (ow_move rfl ?_)
  refine ops_cons rfl (ow_lss2 rfl rfl (fun h38 => absurd h38 (by omega)) (fun h38 => ?_))
  refine ops_cons rfl (ow_move rfl ?_)
  refine ops_want rfl rfl rfl (ow_loadAB bI2 ti28 rfl rfl ?_)
  refine ops_want rfl rfl rfl (ow_loadAB bS2 ti28 rfl rfl ?_)
  refine ops_want rfl rfl rfl (ow_call ent24 rfl (ret_mono (eqMedl_c mI mS _ _ _ oI.med sS (eS.trans eI.symm) zI) ?_))
  rintro _ w40 ⟨rfl, x39⟩
  replace hs := hs.ext x39
  replace sS := sS.ext x39
  replace bS2 := bS2.ext x39
  replace oI := oI.ext x39
  replace bI2 := bI2.ext x39
  replace X := Ext.trans X x39; clear x39
  refine ops_want rfl rfl rfl (ow_not rfl ?_)
  refine ops_cons rfl (ow_pick rfl rfl ?_)
  refine ops_cons rfl (ow_move rfl ?_)
  refine ops_want rfl rfl rfl (ow_move rfl ?_)
  refine ops_want rfl rfl rfl (ow_move rfl ?_)
  refine ops_want rfl rfl rfl (ow_neq2 rfl rfl (fun h41 => absurd h41 (by simp)) (fun h41 => ?_))
  refine ops_cons rfl (ow_pick rfl rfl ?_)
  refine ops_nil ?_
  refine c_false rfl ?_
  refine c_skip ?_
  refine tq_n ?_
  refine c_seqR ?_
  refine ops_cons rfl (ow_assign rfl ?_)
  refine ops_nil ?_
  refine c_seqR ?_
  refine ops_cons rfl (ow_loadAB bI2 ti28 rfl rfl ?_)
  refine ops_cons rfl (ow_move rfl ?_)
  refine ops_cons rfl (ow_call ent27 rfl (ret_mono (markMedl_c mI _ _ 1 _ (oI.low LS) (fun g hg => hg.elim (fun h => (Own.lt oI.on h).2) (fun h => h.elim (fun h => (Own.lt oI.om h).2) (fun h => (Own.lt oI.os h).2))) (fun y hy g hg => (Own.lt (oI.ox y hy).1 hg).2) zI (by omega)) ?_))
  rintro _ wN ⟨rfl, oV, yN⟩
  obtain ⟨oN2, oM2, oP2, oS2⟩ := oV
  have xN := yN.win.below sS.1
  replace hs := hs.below (Below.mono xN (Nat.le_trans Bhs LBS))
  replace bS2 := bS2.kep yN.kep (by decide)
  replace bI2 := bI2.kep yN.kep (by decide)
  replace sS := sS.below xN
  replace X := Below.trans X (Below.mono xN LBS)
  have hE2 := endMedl_pos (a := 1) zI (by omega)
  clear oI
  refine ops_cons rfl (ow_assign rfl ?_)
  refine ops_nil ?_
  refine c_seqR ?_
  refine ops_cons rfl (ow_assign rfl ?_)
  refine ops_nil ?_
  refine c_seqR ?_
  refine ops_cons rfl (ow_loadAB bI2 ti28 rfl rfl ?_)
  refine ops_cons rfl (ow_move rfl ?_)
  refine ops_cons rfl (ow_call ent28 rfl (ret_mono (heldMedl_c mI _ _ _ _ 1 _ oN2.sl oM2.sl oP2.nexts oS2.sl zI (by omega)) ?_))
  rintro _ w43 ⟨rfl, x42⟩
  replace hs := hs.ext x42
  replace sS := sS.ext x42
  replace bS2 := bS2.ext x42
  replace bI2 := bI2.ext x42
  replace oN2 := oN2.ext x42
  replace oM2 := oM2.ext x42
  replace oP2 := oP2.ext x42
  replace oS2 := oS2.ext x42
  replace X := Ext.trans X x42; clear x42
  refine ops_cons rfl (ow_assign rfl ?_)
  refine ops_nil ?_
  refine c_seq ?_
  refine c_seqR ?_
  refine ops_cons rfl (ow_move rfl ?_)
  refine ops_cons rfl (ow_lss2 rfl rfl (fun h44 => absurd h44 (by omega)) (fun h44 => ?_))
  refine ops_nil ?_
  refine c_false rfl ?_
  refine c_skip ?_
  refine tq_n ?_
  refine c_seq ?_
  refine c_seqR ?_
  refine ops_cons rfl (ow_move rfl ?_)
  refine ops_cons rfl (ow_move rfl ?_)
  refine ops_cons rfl (ow_neq2 rfl rfl (fun h45 => absurd h45 (by simp)) (fun h45 => ?_))
  refine ops_nil ?_
  refine c_false rfl ?_
  refine c_skip ?_
  refine tq_n ?_
  refine c_seqR ?_
  refine ops_cons rfl (ow_move rfl ?_)
  refine ops_cons rfl (ow_call ent23 rfl (ret_mono (toInt_c _ _ _ _ _ hs hl) ?_))
  rintro _ w47 ⟨A48, c49, rfl, oC2, x46⟩
  replace oC2 := Own.low oC2 X.size
  replace hs := hs.ext x46
  replace sS := sS.ext x46
  replace bS2 := bS2.ext x46
  replace bI2 := bI2.ext x46
  replace oN2 := oN2.ext x46
  replace oM2 := oM2.ext x46
  replace oP2 := oP2.ext x46
  replace oS2 := oS2.ext x46
  replace X := Ext.trans X x46; clear x46
  refine ops_cons rfl (ow_call ent20 rfl (ret_mono (iDec_c _ _ _ _ _ (oC2).sl hl oC2.cap) ?_))
  rintro _ w51 ⟨mJ, rfl, eJ, oJ, x50⟩
  replace oJ := MOwn.low oJ X.size
  replace hs := hs.ext x50
  replace sS := sS.ext x50
  replace bS2 := bS2.ext x50
  replace bI2 := bI2.ext x50
  replace oN2 := oN2.ext x50
  replace oM2 := oM2.ext x50
  replace oP2 := oP2.ext x50
  replace oS2 := oS2.ext x50
  replace oC2 := oC2.ext x50
  replace X := Ext.trans X x50; clear x50
  have zJ := decF_small eJ
  clear oC2
  refine ops_cons rfl (ow_move rfl ?_)
  refine ops_cons rfl (ow_extract rfl rfl ?_)
  refine ops_cons rfl (ow_extract rfl rfl ?_)
  refine ops_cons rfl (ow_alloc ti28 ?_)
  intro gJ w55 egJ bJ x54 zgJ
  have lgJ : w.heap.size ≤ gJ := Nat.le_trans X.size (Nat.le_of_eq egJ.symm)
  have pgJhs := Nat.le_trans hs.1 (Nat.le_of_eq egJ.symm)
  have pgJsS := Nat.le_trans sS.1 (Nat.le_of_eq egJ.symm)
  have ngJbS2 := Nat.lt_of_lt_of_eq bS2.lt egJ.symm
  have ngJbI2 := Nat.lt_of_lt_of_eq bI2.lt egJ.symm
  replace hs := hs.ext x54
  replace sS := sS.ext x54
  replace bS2 := bS2.ext x54
  replace bI2 := bI2.ext x54
  replace oN2 := oN2.ext x54
  replace oM2 := oM2.ext x54
  replace oP2 := oP2.ext x54
  replace oS2 := oS2.ext x54
  replace oJ := oJ.ext x54
  replace X := Ext.trans X x54; clear x54
  refine ops_cons rfl (ow_storeB bJ ti28 rfl rfl rfl rfl rfl rfl ?_)
  intro w57 bJ2 hg56 z58
  replace hs := hs.grown hg56 (by intro g hg; injection hg; omega)
  replace sS := sS.grown hg56 (by intro g hg; injection hg; omega)
  replace bS2 := bS2.grown hg56 (by intro h; injection h; omega)
  replace bI2 := bI2.grown hg56 (by intro h; injection h; omega)
  replace oN2 := oN2.grownBlk hg56 (Own.neT oN2 bJ (by decide))
  replace oM2 := oM2.grownBlk hg56 (Own.neT oM2 bJ (by decide))
  replace oP2 := oP2.grownB bJ hg56 (by decide)
  replace oS2 := oS2.grownBlk hg56 (Own.neT oS2 bJ (by decide))
  replace oJ := oJ.grownB bJ hg56 ⟨by decide, by decide, by decide, by decide⟩
  replace X := X.grown hg56 X.size (by intro g hg; injection hg; omega)
  clear hg56 bJ
  refine ops_cons rfl (ow_assign rfl ?_)
  refine ops_nil ?_
  refine c_seq ?_
  refine c_seqR ?_
  refine ops_cons rfl (ow_loadAB bJ2 ti28 rfl rfl ?_)
  refine ops_cons rfl (ow_loadAB bS2 ti28 rfl rfl ?_)
  refine ops_cons rfl (ow_call ent24 rfl (ret_mono (eqMedl_c mJ mS _ _ _ oJ.med sS (eS.trans eJ.symm) zJ) ?_))
  rintro _ w60 ⟨rfl, x59⟩
  replace hs := hs.ext x59
  replace sS := sS.ext x59
  replace bS2 := bS2.ext x59
  replace bI2 := bI2.ext x59
  replace oN2 := oN2.ext x59
  replace oM2 := oM2.ext x59
  replace oP2 := oP2.ext x59
  replace oS2 := oS2.ext x59
  replace oJ := oJ.ext x59
  replace bJ2 := bJ2.ext x59
  replace X := Ext.trans X x59; clear x59
  clear oJ
  refine ops_cons rfl (ow_not rfl ?_)
  refine ops_cons rfl (ow_move rfl ?_)
  refine ops_want rfl rfl rfl (ow_move rfl ?_)
  refine ops_want rfl rfl rfl (ow_move rfl ?_)
  refine ops_want rfl rfl rfl (ow_neq2 rfl rfl (fun h61 => absurd h61 (by simp)) (fun h61 => ?_))
  refine ops_cons rfl (ow_pick rfl rfl ?_)
  refine ops_nil ?_
  refine c_false rfl ?_
  refine c_skip ?_
  refine tq_n ?_
  refine c_seqR ?_
  refine ops_cons rfl (ow_assign rfl ?_)
  refine ops_nil ?_
  refine c_seqR ?_
  refine ops_cons rfl (ow_loadAB bI2 ti28 rfl rfl ?_)
  refine ops_cons rfl (ow_move rfl ?_)
  refine ops_cons rfl (ow_call ent28 rfl (ret_mono (heldMedl_c mI _ _ _ _ 1 _ oN2.sl oM2.sl oP2.nexts oS2.sl zI (by omega)) ?_))
  rintro _ w63 ⟨rfl, x62⟩
  replace hs := hs.ext x62
  replace sS := sS.ext x62
  replace bS2 := bS2.ext x62
  replace bI2 := bI2.ext x62
  replace oN2 := oN2.ext x62
  replace oM2 := oM2.ext x62
  replace oP2 := oP2.ext x62
  replace oS2 := oS2.ext x62
  replace bJ2 := bJ2.ext x62
  replace X := Ext.trans X x62; clear x62
  refine ops_cons rfl (ow_assign rfl ?_)
  refine ops_nil ?_
  refine c_seq ?_
  refine c_seqR ?_
  refine ops_cons rfl (ow_move rfl ?_)
  refine ops_cons rfl (ow_lss2 rfl rfl (fun h64 => absurd h64 (by omega)) (fun h64 => ?_))
  refine ops_nil ?_
  refine c_false rfl ?_
  refine c_skip ?_
  refine tq_n ?_
  refine c_seq ?_
  refine c_seqR ?_
  refine ops_cons rfl (ow_move rfl ?_)
  refine ops_cons rfl (ow_move rfl ?_)
  refine ops_cons rfl (ow_neq2 rfl rfl (fun h65 => absurd h65 (by simp)) (fun h65 => ?_))
  refine ops_nil ?_
  refine c_false rfl ?_
  refine c_skip ?_
  refine tq_n ?_
  refine c_seqR ?_
  refine ops_cons rfl (ow_assign rfl ?_)
  refine ops_nil ?_
  refine c_ret ?_
  refine fin_ret1 rfl rfl ?_
  exact ⟨rfl, X⟩
set_option maxRecDepth 100000

theorem fnExactDecodeImage_lifted (os : Os) (started : os.Started) (H : Type) (enc : TypeId × Value → H) :
    ReturnsInHanded {} Tryz.checked os 4 .any (fun w args => (Rows.fnExactDecodeImageSpec.pre enc Tryz.prog Tryz.f4 Rows.fnExactDecodeImageRow.domain false w args ∧ laidMetH Tryz.prog Rows.fnExactDecodeImageRow.laid w) ∧ sizedMet enc Tryz.prog Tryz.f4 (OpenSpec.ofChange Rows.fnExactDecodeImageSpec) false w args)
      (Rows.fnExactDecodeImageSpec.post enc Tryz.prog Tryz.f4 false true false false) := by
  refine returnsInHanded_of_change_and (C := Tryz.checked) (X := fun w _ => laidMetH Tryz.prog Rows.fnExactDecodeImageRow.laid w) (fun _ _ _ hh h => h.of_heap hh) law_own started (by kernel_rfl) Tryz.func4
    (ChangeSpec.witness_shaped (enc := enc) (C := Tryz.checked) (os := os) (X := fun w _ => laidMetH Tryz.prog Rows.fnExactDecodeImageRow.laid w) false (World.laidAll Tryz.prog os Rows.fnExactDecodeImageRow.laid) #[.slice none 0 0] 8 (World.laidAll_os _ _ _)
      (World.shaped_of_ZipB (by kernel_rfl) (by kernel_rfl)) (by kernel_rfl) (by kernel_rfl) (by kernel_rfl)
      (by rw [MakeChecks.laidMetH_plain _ _ _ (by kernel_rfl)]; exact laidMet_laidAll _ (by kernel_rfl) (by kernel_rfl))) ?_
  intro W base args ds gs before hval0 hW _ _ hL _
  have hval : ∀ (j : Nat) t v, Tryz.f4.params[j]? = some t → args[j]? = some v → Value.okWide Tryz.prog W .any base t v := hval0
  have hW' := hW
  obtain ⟨p, q, hA0, hV, rfl, hfz, hnd⟩ := hW
  have hA : DataW.TrodAll enc Tryz.prog W 0 (fun _ => true) true Tryz.f4.params.toList args.toList ds p := hA0
  rw [Tryz.params4] at hA hval
  obtain ⟨rfl, rfl⟩ := trodVars_none hV
  obtain ⟨v0, vs0, d0, ds0, p0, q0, hargs, rfl, rfl, h0, r0⟩ := trodAll_cons hA
  obtain ⟨rfl, rfl, rfl⟩ := trodAll_nil r0
  obtain rfl : args = #[v0] := by cases args; simp_all
  obtain ⟨a0, l0, k0, rfl⟩ := okWide_slice Tryz.underlying30 (hval 0 30 v0 rfl rfl)
  obtain ⟨m0, x0, t0⟩ := cell_of rfl h0
  obtain ⟨Axs, xs, cxs, exs, sxs, wxs, lxs⟩ := open_sl (s := 1) Tryz.underlying30 (by kernel_rfl) eI_len (by omega) (fun _ _ _ h => open_i64 Tryz.underlying2 h) t0
  rw [exs]
  refine Calls.mono (law_FnExactDecodeImage _ _ _ xs W sxs lxs) fun e W' h => ?_
  cases e <;> first | exact h.elim | skip
  obtain ⟨rfl, hb⟩ := h
  exact ⟨_, rfl, law_post law_laid (by kernel_rfl) rfl rfl Tryz.underlying4 (by rw [← exs]; exact hW') rfl hb⟩

theorem fnExactDecodeImage_qa : Tryz.pinned.checked.prog.funcNamed Rows.fnExactDecodeImageRow.func = some 4 := by kernel_rfl
theorem fnExactDecodeImage_qb : joinedFacts Tryz.pinned.checked.prog 4 Tryz.f4 Rows.fnExactDecodeImageSpec Rows.fnExactDecodeImageRow = true := by kernel_rfl
theorem fnExactDecodeImage_qc : decide (Func.isInstance Tryz.pinned.checked.prog Tryz.f4 Rows.fnExactDecodeImageRow.origin Rows.fnExactDecodeImageRow.targs) = true := by kernel_rfl
theorem fnExactDecodeImage_holds : Rows.FnExactDecodeImageSaid :=
  OpenClaim.holds_of_wide 4 Tryz.f4 rfl rfl rfl rfl rfl rfl rfl ⟨rfl, rfl, rfl, rfl, rfl⟩ rfl rfl rfl rfl rfl fnExactDecodeImage_qa Tryz.func4 fnExactDecodeImage_qb
    (of_decide_eq_true fnExactDecodeImage_qc) (by unfold Func.isWrapper; rw [if_neg (of_decide_eq_false (by kernel_rfl))]; exact ⟨rfl, rfl⟩)
    (fun os started H enc _ => fnExactDecodeImage_lifted os started H enc)

theorem fnExactDecodeImage_card : Rows.FnExactDecodeImageCardSaid :=
  Claim7.holds_tied_plain_at .later [] [.data, .pinned] true (true, "9d3b8bcd3f057db7ce87d49064bbf274986517e6a2e4614acdb81aa3eaa2e189") false fnExactDecodeImage_holds (fun _ h => by cases h) (by kernel_rfl) (fun _ h => by cases h) fnExactDecodeImage_row_tie rfl ⟨rfl, rfl⟩ law_main rfl
    (fun f fn hf hfn => by
      obtain rfl : f = 4 := Option.some.inj ((show Tryz.prog.funcNamed "loop.example/g00833/laws.FnExactDecodeImage" = some 4 by kernel_rfl).symm.trans hf) |>.symm
      obtain rfl : fn = Tryz.f4 := (Option.some.inj (Tryz.func4.symm.trans hfn)).symm
      exact ⟨law_looks, fun j t ht => by
        rw [Tryz.params4] at ht
        have hm : t ∈ [30] := by simpa using Array.mem_of_getElem? ht
        have hall : ([30].all fun u => !Tryz.prog.wantsStandIn u) = true := by kernel_rfl
        exact (show Tryz.prog.wantsStandIn t = false by simpa using List.all_eq_true.1 hall t hm)⟩)
    (by kernel_rfl)
end Go.Proofs.YtdoibplhbdkapaaGreatDoor
