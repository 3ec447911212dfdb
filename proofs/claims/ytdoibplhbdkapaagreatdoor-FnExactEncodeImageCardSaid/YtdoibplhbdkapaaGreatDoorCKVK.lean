/- The law FnExactEncodeImage answers true for all arguments that its row admits, and leaves what was there before as it was. No condition. -/
import Derived.Test.YtdoibplhbdkapaaGreatDoorCKP15
import Derived.Test.YtdoibplhbdkapaaGreatDoorCKP17
import Derived.Test.YtdoibplhbdkapaaGreatDoorCKP18
import Derived.Test.YtdoibplhbdkapaaGreatDoorCKP19
import Derived.Test.YtdoibplhbdkapaaGreatDoorTie
import Derived.Test.YtdoibplhbdkapaaGreatDoorCards
import Derived.Lay
import Derived.LaidOnce
import Derived.SevenTiedAt
/- The law FnExactEncodeImage answers true for all arguments that its row admits, and leaves what was there before as it was. No condition. -/
namespace Go.Proofs.YtdoibplhbdkapaaGreatDoor
open Go.ChangeShapes Go.WideShapes Go.ChangeAt Go.RowKit
set_option linter.unusedVariables false
set_option linter.unusedSimpArgs false
set_option maxRecDepth 20000
theorem law_FnExactEncodeImage (m : MedlI) (B : Nat) (w : World) (hm : Med B w m) (hw : m.fit) :
    Calls Tryz.prog 10 #[.agg m.cells.toArray] w (Ret fun v w' => v = .bool true ∧ Ext w w') := by
  have Bhm := hm.1
  have X := Ext.refl w
  refine calls_of (args := [.agg m.cells.toArray]) Tryz.func10 Tryz.ntmps10 rfl rfl ?_
  refine c_seqR ?_
  refine ops_cons rfl (ow_box rfl rfl ?_)
  intro gM w2 egM bM x1 zgM
  have lgM : w.heap.size ≤ gM := Nat.le_trans X.size (Nat.le_of_eq egM.symm)
  have pgMhm := Nat.le_trans hm.1 (Nat.le_of_eq egM.symm)
  replace hm := hm.ext x1
  replace X := Ext.trans X x1; clear x1
  refine ops_cons rfl (ow_assign rfl ?_)
  refine ops_nil ?_
  refine c_seqR ?_
  refine ops_cons rfl (ow_assign rfl ?_)
  refine ops_nil ?_
  refine c_seqR ?_
  refine ops_cons rfl (ow_loadAB bM ti81 rfl rfl ?_)
  refine ops_cons rfl (ow_move rfl ?_)
  refine ops_cons rfl (ow_call ent61 rfl (ret_mono (szMedl_c m _ _ hm hw) ?_))
  rintro _ w4 ⟨rfl, x3⟩
  replace hm := hm.ext x3
  replace bM := bM.ext x3
  replace X := Ext.trans X x3; clear x3
  refine ops_cons rfl (ow_assign rfl ?_)
  refine ops_nil ?_
  refine c_seq ?_
  refine c_seqR ?_
  refine ops_cons rfl (ow_move rfl ?_)
  refine ops_cons rfl (ow_lss2 rfl rfl (fun hq => ?_) (fun hq => ?_))
  refine ops_nil ?_
  refine c_true rfl ?_
  refine c_seqR ?_
  refine ops_cons rfl (ow_assign rfl ?_)
  refine ops_nil ?_
  refine c_ret ?_
  refine tq_r ?_
  refine fin_ret1 rfl rfl ?_
  exact ⟨rfl, X⟩
  have hz := szMedl_small (by omega) hq
  refine ops_nil ?_
  refine c_false rfl ?_
  refine c_skip ?_
  refine tq_n ?_
  refine c_seqR ?_
  refine ops_cons rfl (ow_loadAB bM ti81 rfl rfl ?_)
  refine ops_cons rfl (ow_call ent62 rfl (ret_mono (toMedl_c m _ _ hm hz) ?_))
  rintro _ w6 ⟨m0, rfl, e0, oC0, x5⟩
  replace oC0 := MOwn.low oC0 X.size
  replace hm := hm.ext x5
  replace bM := bM.ext x5
  replace X := Ext.trans X x5; clear x5
  have z0 := MedlI.small_of e0 hz
  refine ops_cons rfl (ow_call ent14 rfl (ret_mono (by have h := sEnc_c m0 _  _ oC0.med z0; rw [e0] at h; exact h) ?_))
  rintro _ w10 ⟨A11, c12, rfl, oS, x9⟩
  replace oS := Own.low oS X.size
  replace hm := hm.ext x9
  replace bM := bM.ext x9
  replace oC0 := oC0.ext x9
  replace X := Ext.trans X x9; clear x9
  have hlR := encF_len m
  have sS := oS.sl
  have BsS := sS.1
  clear oS oC0
  refine ops_cons rfl (ow_move rfl ?_)
  refine ops_cons rfl (ow_extract rfl rfl ?_)
  refine ops_cons rfl (ow_extract rfl rfl ?_)
  refine ops_cons rfl (ow_assign rfl ?_)
  refine ops_cons rfl (ow_assign rfl ?_)
  refine ops_nil ?_
  refine c_seqR ?_
  refine ops_cons rfl (ow_loadAB bM ti81 rfl rfl ?_)
  have GM := bM.lt
  refine ops_cons rfl (ow_call ent62 rfl (ret_mono (toMedl_c m _ _ hm hz) ?_))
  rintro _ w14 ⟨m1, rfl, e1, oX, x13⟩
  have LoX := X.size
  replace hm := hm.ext x13
  replace bM := bM.ext x13
  replace sS := sS.ext x13
  replace X := Ext.trans X x13; clear x13
  have z1 := MedlI.small_of e1 hz
  refine ops_cons rfl (ow_alloc ti28 ?_)
  intro gX w18 egX bA x17 zgX
  have lgX : w.heap.size ≤ gX := Nat.le_trans X.size (Nat.le_of_eq egX.symm)
  have pgXhm := Nat.le_trans hm.1 (Nat.le_of_eq egX.symm)
  have ngXbM := Nat.lt_of_lt_of_eq bM.lt egX.symm
  have pgXsS := Nat.le_trans sS.1 (Nat.le_of_eq egX.symm)
  replace hm := hm.ext x17
  replace bM := bM.ext x17
  replace sS := sS.ext x17
  replace oX := oX.ext x17
  replace X := Ext.trans X x17; clear x17
  refine ops_cons rfl (ow_storeB bA ti28 rfl rfl rfl rfl rfl rfl ?_)
  intro w20 bX hg19 z21
  replace hm := hm.grown hg19 (by intro g hg; injection hg; omega)
  replace bM := bM.grown hg19 (by intro h; injection h; omega)
  replace sS := sS.grown hg19 (by intro g hg; injection hg; omega)
  replace oX := oX.grownB bA hg19 ⟨by decide, by decide, by decide, by decide⟩
  replace X := X.grown hg19 X.size (by intro g hg; injection hg; omega)
  clear hg19 bA
  refine ops_nil ?_
  refine c_seqR ?_
  refine ops_cons rfl (ow_loadAB bX ti28 rfl rfl ?_)
  have LS := sS.1
  have UN := fun g hg => (Own.lt oX.on (g := g) hg).2
  have UM := fun g hg => (Own.lt oX.om (g := g) hg).2
  have UL := fun g hg => (Own.lt oX.os (g := g) hg).2
  have UX := fun y hy g hg => (Own.lt (oX.ox y hy).1 (g := g) hg).2
  refine ops_cons rfl (ow_call ent13 rfl (ret_mono (by have h := iEnc_c m1 _  _ oX.med z1; rw [e1] at h; exact h) ?_))
  rintro _ w23 ⟨A24, c25, rfl, oI, x22⟩
  have LoI := X.size
  replace hm := hm.ext x22
  replace bM := bM.ext x22
  replace sS := sS.ext x22
  replace oX := oX.ext x22
  replace bX := bX.ext x22
  replace X := Ext.trans X x22; clear x22
  refine ops_cons rfl (ow_move rfl ?_)
  refine ops_cons rfl (ow_extract rfl rfl ?_)
  refine ops_cons rfl (ow_extract rfl rfl ?_)
  refine ops_cons rfl (ow_assign rfl ?_)
  refine ops_cons rfl (ow_assign rfl ?_)
  refine ops_nil ?_
  refine c_seq ?_
  refine c_seqR ?_
  refine ops_cons rfl (ow_move rfl ?_)
  refine ops_cons rfl (ow_move rfl ?_)
  refine ops_cons rfl (ow_call ent25 rfl (ret_mono (eqInt_c _ _ _ _ _ _ _ _ (oI).sl sS hlR) ?_))
  rintro _ w27 ⟨rfl, x26⟩
  replace hm := hm.ext x26
  replace bM := bM.ext x26
  replace sS := sS.ext x26
  replace oX := oX.ext x26
  replace bX := bX.ext x26
  replace oI := oI.ext x26
  replace X := Ext.trans X x26; clear x26
  refine ops_cons rfl (ow_not rfl ?_)
  refine ops_cons rfl (ow_move rfl ?_)
  refine ops_want rfl rfl rfl (ow_move rfl ?_)
  refine ops_want rfl rfl rfl (ow_move rfl ?_)
  refine ops_want rfl rfl rfl (ow_neq2 rfl rfl (fun h28 => absurd h28 (by simp)) (fun h28 => ?_))
  refine ops_cons rfl (ow_pick rfl rfl ?_)
  refine ops_nil ?_
  refine c_false rfl ?_
  refine c_skip ?_
  refine tq_n ?_
  refine c_seq ?_
  refine c_seqI (fun wz => Blk wz gX 28 m1.cells ∧ Blk wz gM 81 m.cells) mixed ?_
  obtain ⟨w29, ew29⟩ : ∃ wy, wy = World.drew w27 := ⟨_, rfl⟩
  rw [← ew29]
  have xd : Ext w27 w29 := ew29 ▸ Ext.drew w27
  replace hm := hm.ext xd
  replace bM := bM.ext xd
  replace sS := sS.ext xd
  replace oX := oX.ext xd
  replace bX := bX.ext xd
  replace oI := oI.ext xd
  replace X := Ext.trans X xd; clear xd ew29
  refine wi_take 0 rfl (by kernel_rfl) rfl (by kernel_rfl) (listed' := #[true, false, false, false, false]) rfl (fun wq sq => ow_loadAB sq.1 ti28 rfl rfl ⟨rfl, rfl⟩) ?_
  refine wi_take 1 rfl (by kernel_rfl) rfl (by kernel_rfl) (listed' := #[true, true, false, false, false]) rfl (fun wq sq => ow_loadAB sq.2 ti81 rfl rfl ⟨rfl, rfl⟩) ?_
  refine wi_one 2 rfl rfl (by kernel_rfl) (listed' := #[true, true, true, false, false]) rfl ⟨bX, bM⟩ (ow_call ent62 rfl (ret_mono (toMedl_c m _ _ hm hz) ?_))
  rintro _ w31 ⟨m2, rfl, e2, oC2, x30⟩
  replace oC2 := MOwn.low oC2 X.size
  replace hm := hm.ext x30
  replace bM := bM.ext x30
  replace sS := sS.ext x30
  replace oX := oX.ext x30
  replace bX := bX.ext x30
  replace oI := oI.ext x30
  replace X := Ext.trans X x30; clear x30
  have z2 := MedlI.small_of e2 hz
  refine wi_one 3 rfl rfl (by kernel_rfl) (listed' := #[true, true, true, true, false]) rfl ⟨bX, bM⟩ (ow_call ent24 rfl (ret_mono (eqMedl_c m1 m2 _ _ _ oX.med oC2.med (e2.trans e1.symm) z1) ?_))
  rintro _ w35 ⟨rfl, x34⟩
  replace hm := hm.ext x34
  replace bM := bM.ext x34
  replace sS := sS.ext x34
  replace oX := oX.ext x34
  replace bX := bX.ext x34
  replace oI := oI.ext x34
  replace oC2 := oC2.ext x34
  replace X := Ext.trans X x34; clear x34
  clear oC2
  refine wi_take 4 rfl (by kernel_rfl) rfl (by kernel_rfl) (listed' := #[true, true, true, true, true]) rfl (fun wq sq => ow_not rfl ⟨rfl, rfl⟩) ?_
  refine wi_done rfl ⟨bX, bM⟩ (fun aj fj => ⟨_, fj, ?_⟩)
  refine c_false rfl ?_
  refine c_skip ?_
  refine tq_n ?_
  refine c_seqR ?_
  refine ops_cons rfl (ow_assign rfl ?_)
  refine ops_nil ?_
  refine c_seqR ?_
  refine ops_cons rfl (ow_loadAB bX ti28 rfl rfl ?_)
  refine ops_cons rfl (ow_move rfl ?_)
  refine ops_cons rfl (ow_call ent27 rfl (ret_mono (markMedl_c m1 _ _ 1 _ oX (fun g hg => hg.elim (UN g) (fun h => h.elim (UM g) (UL g))) UX z1 (by omega)) ?_))
  rintro _ wM ⟨rfl, _, yM⟩
  have xM := yM.win
  have xB := xM.below sS.1
  replace hm := hm.below (Below.mono xB (Nat.le_trans Bhm LoX))
  replace bM := bM.below xB GM
  replace sS := sS.below xB
  replace oI := oI.win xM (Nat.le_refl _)
  replace X := Below.trans X (Below.mono xB LoX)
  have hE := endMedl_pos (a := 1) z1 (by omega)
  clear oX
  refine ops_cons rfl (ow_assign rfl ?_)
  refine ops_nil ?_
  refine c_seq ?_
  refine c_seqR ?_
  refine ops_cons rfl (ow_move rfl ?_)
  refine ops_cons rfl (ow_lss2 rfl rfl (fun h36 => absurd h36 (by omega)) (fun h36 => ?_))
  refine ops_cons rfl (ow_move rfl ?_)
  refine ops_want rfl rfl rfl (ow_move rfl ?_)
  refine ops_want rfl rfl rfl (ow_move rfl ?_)
  refine ops_want rfl rfl rfl (ow_call ent25 rfl (ret_mono (eqInt_c _ _ _ _ _ _ _ _ (oI).sl sS hlR) ?_))
  rintro _ w38 ⟨rfl, x37⟩
  replace hm := hm.ext x37
  replace bM := bM.ext x37
  replace sS := sS.ext x37
  replace oI := oI.ext x37
  replace X := Ext.trans X x37; clear x37
  refine ops_want rfl rfl rfl (ow_not rfl ?_)
  refine ops_cons rfl (ow_pick rfl rfl ?_)
  refine ops_cons rfl (ow_move rfl ?_)
  refine ops_want rfl rfl rfl (ow_move rfl ?_)
  refine ops_want rfl rfl rfl (ow_move rfl ?_)
  refine ops_want rfl rfl rfl (ow_neq2 rfl rfl (fun h39 => absurd h39 (by simp)) (fun h39 => ?_))
  refine ops_cons rfl (ow_pick rfl rfl ?_)
  refine ops_nil ?_
  refine c_false rfl ?_
  refine c_skip ?_
  refine tq_n ?_
  refine c_seqR ?_
  refine ops_cons rfl (ow_assign rfl ?_)
  refine ops_nil ?_
  refine c_seqR ?_
  refine ops_cons rfl (ow_move rfl ?_)
  refine ops_cons rfl (ow_move rfl ?_)
  refine ops_cons rfl (ow_call ent26 rfl (ret_mono (markI_c _ _ _ _ _ _ oI hlR (by omega)) ?_))
  rintro _ w41 ⟨rfl, oI2, x40⟩
  replace hm := hm.grown x40 (fun g hg => Nat.le_trans Bhm (Nat.le_trans LoI (Own.lt oI hg).1))
  replace bM := bM.grown x40 (fun h => Own.neT oI bM (by decide) h.symm)
  replace sS := sS.grown x40 (fun g hg => Nat.le_trans LS (Own.lt oI hg).1)
  replace X := X.grown x40 X.size (fun g hg => Nat.le_trans LoI (Own.lt oI hg).1); clear x40 oI
  refine ops_cons rfl (ow_assign rfl ?_)
  refine ops_nil ?_
  refine c_seqR ?_
  refine ops_cons rfl (ow_assign rfl ?_)
  refine ops_nil ?_
  refine c_seqR ?_
  refine ops_cons rfl (ow_move rfl ?_)
  refine ops_cons rfl (ow_move rfl ?_)
  refine ops_cons rfl (ow_call ent63 rfl (ret_mono (heldI_c _ _ _ _ _ _ (oI2).sl hlR (by omega)) ?_))
  rintro _ w43 ⟨rfl, x42⟩
  replace hm := hm.ext x42
  replace bM := bM.ext x42
  replace sS := sS.ext x42
  replace oI2 := oI2.ext x42
  replace X := Ext.trans X x42; clear x42
  refine ops_cons rfl (ow_assign rfl ?_)
  refine ops_nil ?_
  refine c_seq ?_
  refine c_seqR ?_
  refine ops_cons rfl (ow_move rfl ?_)
  refine ops_cons rfl (ow_lss2 rfl rfl (fun h44 => absurd h44 (by omega)) (fun h44 => ?_))
  refine ops_nil ?_
  refine c_false rfl ?_
  refine c_skip ?_
  refine tq_n ?_
  refine c_seq ?_
  refine c_seqR ?_
  refine ops_cons rfl (ow_move rfl ?_)
  refine ops_cons rfl (ow_move rfl ?_)
  refine ops_cons rfl (ow_neq2 rfl rfl (fun h45 => absurd h45 (by simp)) (fun h45 => ?_))
  refine ops_nil ?_
  refine c_false rfl ?_
  refine c_skip ?_
  refine tq_n ?_
  refine c_seqR ?_
  refine ops_cons rfl (ow_loadAB bM ti81 rfl rfl ?_)
  refine ops_cons rfl (ow_call ent62 rfl (ret_mono (toMedl_c m _ _ hm hz) ?_))
  rintro _ w47 ⟨m3, rfl, e3, oC3, x46⟩
  replace oC3 := MOwn.low oC3 X.size
  replace hm := hm.ext x46
  replace bM := bM.ext x46
  replace sS := sS.ext x46
  replace oI2 := oI2.ext x46
  replace X := Ext.trans X x46; clear x46
  have z3 := MedlI.small_of e3 hz
  refine ops_cons rfl (ow_call ent13 rfl (ret_mono (by have h := iEnc_c m3 _  _ oC3.med z3; rw [e3] at h; exact h) ?_))
  rintro _ w51 ⟨A52, c53, rfl, oJ, x50⟩
  replace oJ := Own.low oJ X.size
  replace hm := hm.ext x50
  replace bM := bM.ext x50
  replace sS := sS.ext x50
  replace oI2 := oI2.ext x50
  replace oC3 := oC3.ext x50
  replace X := Ext.trans X x50; clear x50
  clear oC3
  refine ops_cons rfl (ow_move rfl ?_)
  refine ops_cons rfl (ow_extract rfl rfl ?_)
  refine ops_cons rfl (ow_extract rfl rfl ?_)
  refine ops_cons rfl (ow_assign rfl ?_)
  refine ops_cons rfl (ow_assign rfl ?_)
  refine ops_nil ?_
  refine c_seq ?_
  refine c_seqR ?_
  refine ops_cons rfl (ow_move rfl ?_)
  refine ops_cons rfl (ow_move rfl ?_)
  refine ops_cons rfl (ow_call ent25 rfl (ret_mono (eqInt_c _ _ _ _ _ _ _ _ (oJ).sl sS hlR) ?_))
  rintro _ w55 ⟨rfl, x54⟩
  replace hm := hm.ext x54
  replace bM := bM.ext x54
  replace sS := sS.ext x54
  replace oI2 := oI2.ext x54
  replace oJ := oJ.ext x54
  replace X := Ext.trans X x54; clear x54
  refine ops_cons rfl (ow_not rfl ?_)
  refine ops_cons rfl (ow_move rfl ?_)
  refine ops_want rfl rfl rfl (ow_move rfl ?_)
  refine ops_want rfl rfl rfl (ow_move rfl ?_)
  refine ops_want rfl rfl rfl (ow_neq2 rfl rfl (fun h56 => absurd h56 (by simp)) (fun h56 => ?_))
  refine ops_cons rfl (ow_pick rfl rfl ?_)
  refine ops_nil ?_
  refine c_false rfl ?_
  refine c_skip ?_
  refine tq_n ?_
  refine c_seqR ?_
  refine ops_cons rfl (ow_assign rfl ?_)
  refine ops_nil ?_
  refine c_seqR ?_
  refine ops_cons rfl (ow_move rfl ?_)
  refine ops_cons rfl (ow_move rfl ?_)
  refine ops_cons rfl (ow_call ent63 rfl (ret_mono (heldI_c _ _ _ _ _ _ (oI2).sl hlR (by omega)) ?_))
  rintro _ w58 ⟨rfl, x57⟩
  replace hm := hm.ext x57
  replace bM := bM.ext x57
  replace sS := sS.ext x57
  replace oI2 := oI2.ext x57
  replace oJ := oJ.ext x57
  replace X := Ext.trans X x57; clear x57
  refine ops_cons rfl (ow_assign rfl ?_)
  refine ops_nil ?_
  refine c_seq ?_
  refine c_seqR ?_
  refine ops_cons rfl (ow_move rfl ?_)
  refine ops_cons rfl (ow_lss2 rfl rfl (fun h59 => absurd h59 (by omega)) (fun h59 => ?_))
  refine ops_nil ?_
  refine c_false rfl ?_
  refine c_skip ?_
  refine tq_n ?_
  refine c_seq ?_
  refine c_seqR ?_
  refine ops_cons rfl (ow_move rfl ?_)
  refine ops_cons rfl (ow_move rfl ?_)
  refine ops_cons rfl (ow_neq2 rfl rfl (fun h60 => absurd h60 (by simp)) (fun h60 => ?_))
  refine ops_nil ?_
  refine c_false rfl ?_
  refine c_skip ?_
  refine tq_n ?_
  refine c_seqR ?_
  refine ops_cons rfl (ow_assign rfl ?_)
  refine ops_nil ?_
  refine c_ret ?_
  refine fin_ret1 rfl rfl ?_
  exact ⟨rfl, X⟩
set_option maxRecDepth 100000

theorem fnExactEncodeImage_lifted (os : Os) (started : os.Started) (H : Type) (enc : TypeId × Value → H) :
    ReturnsInHanded {} Tryz.checked os 10 .any (fun w args => (Rows.fnExactEncodeImageSpec.pre enc Tryz.prog Tryz.f10 Rows.fnExactEncodeImageRow.domain false w args ∧ laidMetH Tryz.prog Rows.fnExactEncodeImageRow.laid w) ∧ sizedMet enc Tryz.prog Tryz.f10 (OpenSpec.ofChange Rows.fnExactEncodeImageSpec) false w args)
      (Rows.fnExactEncodeImageSpec.post enc Tryz.prog Tryz.f10 false true false false) := by
  refine returnsInHanded_of_change_and (C := Tryz.checked) (X := fun w _ => laidMetH Tryz.prog Rows.fnExactEncodeImageRow.laid w) (fun _ _ _ hh h => h.of_heap hh) law_own started (by kernel_rfl) Tryz.func10
    (ChangeSpec.witness_shaped (enc := enc) (C := Tryz.checked) (os := os) (X := fun w _ => laidMetH Tryz.prog Rows.fnExactEncodeImageRow.laid w) false (World.laidAll Tryz.prog os Rows.fnExactEncodeImageRow.laid) #[.agg #[.int .i64 0, .slice none 0 0, .slice none 0 0, .slice none 0 0]] 8 (World.laidAll_os _ _ _)
      (World.shaped_of_ZipB (by kernel_rfl) (by kernel_rfl)) (by kernel_rfl) (by kernel_rfl) (by kernel_rfl)
      (by rw [MakeChecks.laidMetH_plain _ _ _ (by kernel_rfl)]; exact laidMet_laidAll _ (by kernel_rfl) (by kernel_rfl))) ?_
  intro W base args ds gs before hval0 hW _ _ hL _
  have hval : ∀ (j : Nat) t v, Tryz.f10.params[j]? = some t → args[j]? = some v → Value.okWide Tryz.prog W .any base t v := hval0
  have hW' := hW
  obtain ⟨p, q, hA0, hV, rfl, hfz, hnd⟩ := hW
  have hA : DataW.TrodAll enc Tryz.prog W 0 (fun _ => true) true Tryz.f10.params.toList args.toList ds p := hA0
  rw [Tryz.params10] at hA hval
  obtain ⟨rfl, rfl⟩ := trodVars_none hV
  obtain ⟨v0, vs0, d0, ds0, p0, q0, hargs, rfl, rfl, h0, r0⟩ := trodAll_cons hA
  obtain ⟨rfl, rfl, rfl⟩ := trodAll_nil r0
  obtain rfl : args = #[v0] := by cases args; simp_all
  obtain ⟨cs0, rfl, m0, x0, t0⟩ := agg_of Tryz.underlying81 (hval 0 81 v0 rfl rfl) h0
  obtain ⟨m, rfl, hm, wm⟩ := open_MedlI t0
  refine Calls.mono (law_FnExactEncodeImage m _ W hm wm) fun e W' h => ?_
  cases e <;> first | exact h.elim | skip
  obtain ⟨rfl, hb⟩ := h
  exact ⟨_, rfl, law_post law_laid (by kernel_rfl) rfl rfl Tryz.underlying4 (hW') rfl hb⟩

theorem fnExactEncodeImage_qa : Tryz.pinned.checked.prog.funcNamed Rows.fnExactEncodeImageRow.func = some 10 := by kernel_rfl
theorem fnExactEncodeImage_qb : joinedFacts Tryz.pinned.checked.prog 10 Tryz.f10 Rows.fnExactEncodeImageSpec Rows.fnExactEncodeImageRow = true := by kernel_rfl
theorem fnExactEncodeImage_qc : decide (Func.isInstance Tryz.pinned.checked.prog Tryz.f10 Rows.fnExactEncodeImageRow.origin Rows.fnExactEncodeImageRow.targs) = true := by kernel_rfl
theorem fnExactEncodeImage_holds : Rows.FnExactEncodeImageSaid :=
  OpenClaim.holds_of_wide 10 Tryz.f10 rfl rfl rfl rfl rfl rfl rfl ⟨rfl, rfl, rfl, rfl, rfl⟩ rfl rfl rfl rfl rfl fnExactEncodeImage_qa Tryz.func10 fnExactEncodeImage_qb
    (of_decide_eq_true fnExactEncodeImage_qc) (by unfold Func.isWrapper; rw [if_neg (of_decide_eq_false (by kernel_rfl))]; exact ⟨rfl, rfl⟩)
    (fun os started H enc _ => fnExactEncodeImage_lifted os started H enc)

theorem fnExactEncodeImage_card : Rows.FnExactEncodeImageCardSaid :=
  Claim7.holds_tied_plain_at .later [] [.data, .pinned] true (true, "9d3b8bcd3f057db7ce87d49064bbf274986517e6a2e4614acdb81aa3eaa2e189") false fnExactEncodeImage_holds (fun _ h => by cases h) (by kernel_rfl) (fun _ h => by cases h) fnExactEncodeImage_row_tie rfl ⟨rfl, rfl⟩ law_main rfl
    (fun f fn hf hfn => by
      obtain rfl : f = 10 := Option.some.inj ((show Tryz.prog.funcNamed "loop.example/g00833/laws.FnExactEncodeImage" = some 10 by kernel_rfl).symm.trans hf) |>.symm
      obtain rfl : fn = Tryz.f10 := (Option.some.inj (Tryz.func10.symm.trans hfn)).symm
      exact ⟨law_looks, fun j t ht => by
        rw [Tryz.params10] at ht
        have hm : t ∈ [81] := by simpa using Array.mem_of_getElem? ht
        have hall : ([81].all fun u => !Tryz.prog.wantsStandIn u) = true := by kernel_rfl
        exact (show Tryz.prog.wantsStandIn t = false by simpa using List.all_eq_true.1 hall t hm)⟩)
    (by kernel_rfl)
end Go.Proofs.YtdoibplhbdkapaaGreatDoor
