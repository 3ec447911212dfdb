/- The law FnExactSlotStart answers true for all arguments that its row admits, and leaves what was there before as it was. No condition. -/
import Derived.Test.YtfmihehpdfmgfaaGreatDoorL2
import Derived.Test.YtfmihehpdfmgfaaGreatDoorC4
import Derived.Test.YtfmihehpdfmgfaaGreatDoorCS
import Derived.Test.YtfmihehpdfmgfaaGreatDoorLW
import Derived.Test.YtfmihehpdfmgfaaGreatDoorTie
import Derived.Test.YtfmihehpdfmgfaaGreatDoorCards
import Derived.Lay
import Derived.LaidOnce
import Derived.SevenTiedAt
namespace Go.Proofs.YtfmihehpdfmgfaaGreatDoor
open Go.ChangeShapes Go.WideShapes Go.ChangeAt Go.RowKit
set_option linter.unusedVariables false
set_option linter.unusedSimpArgs false
set_option maxRecDepth 20000
theorem law_FnExactSlotStart (m : MedlI) (B : Nat) (s : StateI) (w : World) (hm : Med B w m) (hw : m.fit) (ws : s.ok) :
    Calls Tryz.prog 11 #[.agg m.cells.toArray, .agg s.cells.toArray] w (Ret fun v w' => v = .bool true ∧ Ext w w') := by
  have Bhm := hm.1
  have X := Ext.refl w
  refine calls_of (args := [.agg m.cells.toArray, .agg s.cells.toArray]) Tryz.func11 Tryz.ntmps11 rfl rfl ?_
  refine c_seqR ?_
  refine ops_cons rfl (ow_box rfl rfl ?_)
  intro gM w2 egM bM x1 zgM
  have lgM : w.heap.size ≤ gM := Nat.le_trans X.size (Nat.le_of_eq egM.symm)
  have pgMhm := Nat.le_trans hm.1 (Nat.le_of_eq egM.symm)
  replace hm := hm.ext x1
  replace X := Ext.trans X x1; clear x1
  refine ops_cons rfl (ow_box rfl rfl ?_)
  intro gS w4 egS bS x3 zgS
  have lgS : w.heap.size ≤ gS := Nat.le_trans X.size (Nat.le_of_eq egS.symm)
  have pgShm := Nat.le_trans hm.1 (Nat.le_of_eq egS.symm)
  have ngSbM := Nat.lt_of_lt_of_eq bM.lt egS.symm
  replace hm := hm.ext x3
  replace bM := bM.ext x3
  replace X := Ext.trans X x3; clear x3
  refine ops_cons rfl (ow_assign rfl ?_)
  refine ops_nil ?_
  refine c_seqR ?_
  refine ops_cons rfl (ow_assign rfl ?_)
  refine ops_nil ?_
  refine c_seqR ?_
  refine ops_cons rfl (ow_loadAB bM ti26 rfl rfl ?_)
  refine ops_cons rfl (ow_move rfl ?_)
  refine ops_cons rfl (ow_call ent14 rfl (ret_mono (szMedl_c m _ _ hm hw) ?_))
  rintro _ w6 ⟨rfl, x5⟩
  replace hm := hm.ext x5
  replace bM := bM.ext x5
  replace bS := bS.ext x5
  replace X := Ext.trans X x5; clear x5
  refine ops_cons rfl (ow_assign rfl ?_)
  refine ops_nil ?_
  refine c_seq ?_
  refine c_seqR ?_
  refine ops_cons rfl (ow_move rfl ?_)
  refine ops_cons rfl (ow_lss2 rfl rfl (fun hq => ?_) (fun hq => ?_))
  · skip
    refine ops_nil ?_
    refine c_true rfl ?_
    refine c_seqR ?_
    refine ops_cons rfl (ow_assign rfl ?_)
    refine ops_nil ?_
    refine c_ret ?_
    refine tq_r ?_
    refine fin_ret1 rfl rfl ?_
    exact ⟨rfl, X⟩
  · skip
    have hz := szMedl_small (by omega) hq
    refine ops_nil ?_
    refine c_false rfl ?_
    refine c_skip ?_
    refine tq_n ?_
    refine c_seqI (fun wz => Blk wz gM 26 m.cells ∧ Blk wz gS 42 s.cells) mixed ?_
    obtain ⟨w7, ew7⟩ : ∃ w2, w2 = World.drew w6 := ⟨_, rfl⟩
    rw [← ew7]
    have xd : Ext w6 w7 := ew7 ▸ Ext.drew w6
    replace hm := hm.ext xd
    replace bM := bM.ext xd
    replace bS := bS.ext xd
    replace X := Ext.trans X xd; clear xd ew7
    refine wi_take 0 rfl (by kernel_rfl) rfl (by kernel_rfl) (listed' := #[true, false, false, false, false, false, false, false, false, false]) rfl (fun wq sq => ow_loadAB sq.1 ti26 rfl rfl ⟨rfl, rfl⟩) ?_
    refine wi_take 2 rfl (by kernel_rfl) rfl (by kernel_rfl) (listed' := #[true, false, true, false, false, false, false, false, false, false]) rfl (fun wq sq => ow_loadAB sq.2 ti42 rfl rfl ⟨rfl, rfl⟩) ?_
    refine wi_one 1 rfl rfl (by kernel_rfl) (listed' := #[true, true, true, false, false, false, false, false, false, false]) rfl ⟨bM, bS⟩ (ow_call ent16 rfl (ret_mono (toMedlR_c m _ _ hm hz) ?_))
    rintro _ w9 ⟨m0, rfl, e0, h0, x8⟩
    have Bh0 := h0.1
    replace hm := hm.ext x8
    replace bM := bM.ext x8
    replace bS := bS.ext x8
    replace X := Ext.trans X x8; clear x8
    have z0 := MedlI.small_of e0 hz
    refine wi_one 3 rfl rfl (by kernel_rfl) (listed' := #[true, true, true, true, false, false, false, false, false, false]) rfl ⟨bM, bS⟩ (ow_call ent24 rfl (ret_mono (toStateI_c _ _) ?_))
    rintro _ w13 ⟨rfl, x12⟩
    replace hm := hm.ext x12
    replace bM := bM.ext x12
    replace bS := bS.ext x12
    replace h0 := h0.ext x12
    replace X := Ext.trans X x12; clear x12
    refine wi_one 4 rfl rfl (by kernel_rfl) (listed' := #[true, true, true, true, true, false, false, false, false, false]) rfl ⟨bM, bS⟩ (ow_call ent35 rfl (ret_mono (by have h := specStart_c m0 _ s _ h0 z0; rw [e0] at h; exact h) ?_))
    rintro _ w15 ⟨rfl, x14⟩
    replace hm := hm.ext x14
    replace bM := bM.ext x14
    replace bS := bS.ext x14
    replace h0 := h0.ext x14
    replace X := Ext.trans X x14; clear x14
    refine wi_take 5 rfl (by kernel_rfl) rfl (by kernel_rfl) (listed' := #[true, true, true, true, true, true, false, false, false, false]) rfl (fun wq sq => ow_move rfl ⟨rfl, rfl⟩) ?_
    refine wi_take 6 rfl (by kernel_rfl) rfl (by kernel_rfl) (listed' := #[true, true, true, true, true, true, true, false, false, false]) rfl (fun wq sq => ow_extract rfl rfl ⟨rfl, rfl⟩) ?_
    refine wi_take 7 rfl (by kernel_rfl) rfl (by kernel_rfl) (listed' := #[true, true, true, true, true, true, true, true, false, false]) rfl (fun wq sq => ow_extract rfl rfl ⟨rfl, rfl⟩) ?_
    refine wi_take 8 rfl (by kernel_rfl) rfl (by kernel_rfl) (listed' := #[true, true, true, true, true, true, true, true, true, false]) rfl (fun wq sq => ow_assign rfl ⟨rfl, rfl⟩) ?_
    refine wi_take 9 rfl (by kernel_rfl) rfl (by kernel_rfl) (listed' := #[true, true, true, true, true, true, true, true, true, true]) rfl (fun wq sq => ow_assign rfl ⟨rfl, rfl⟩) ?_
    refine wi_done rfl ⟨bM, bS⟩ (fun aj fj => ⟨_, fj, ?_⟩)
    refine c_seqR ?_
    refine ops_cons rfl (ow_loadAB bM ti26 rfl rfl ?_)
    refine ops_cons rfl (ow_call ent16 rfl (ret_mono (toMedlR_c m _ _ hm hz) ?_))
    rintro _ w17 ⟨m1, rfl, e1, h1, x16⟩
    have Bh1 := h1.1
    replace hm := hm.ext x16
    replace bM := bM.ext x16
    replace bS := bS.ext x16
    replace X := Ext.trans X x16; clear x16
    have z1 := MedlI.small_of e1 hz
    refine ops_cons rfl (ow_alloc ti33 ?_)
    intro gX w21 egX bA x20 zgX
    have lgX : w.heap.size ≤ gX := Nat.le_trans X.size (Nat.le_of_eq egX.symm)
    have pgXhm := Nat.le_trans hm.1 (Nat.le_of_eq egX.symm)
    have ngXbM := Nat.lt_of_lt_of_eq bM.lt egX.symm
    have ngXbS := Nat.lt_of_lt_of_eq bS.lt egX.symm
    have pgXh1 := Nat.le_trans h1.1 (Nat.le_of_eq egX.symm)
    replace hm := hm.ext x20
    replace bM := bM.ext x20
    replace bS := bS.ext x20
    replace h1 := h1.ext x20
    replace X := Ext.trans X x20; clear x20
    refine ops_cons rfl (ow_storeB bA ti33 rfl rfl rfl rfl rfl rfl ?_)
    intro w23 bX hg22 z24
    replace hm := hm.grown hg22 (by intro g hg; injection hg; omega)
    replace bM := bM.grown hg22 (by intro h; injection h; omega)
    replace bS := bS.grown hg22 (by intro h; injection h; omega)
    replace h1 := h1.grown hg22 (by intro g hg; injection hg; omega)
    replace X := X.grown hg22 X.size (by intro g hg; injection hg; omega)
    clear hg22 bA
    refine ops_nil ?_
    refine c_seqI (fun wz => Blk wz gX 33 m1.cells ∧ Blk wz gS 42 s.cells) mixed ?_
    obtain ⟨w25, ew25⟩ : ∃ w2, w2 = World.drew w23 := ⟨_, rfl⟩
    rw [← ew25]
    have xd : Ext w23 w25 := ew25 ▸ Ext.drew w23
    replace hm := hm.ext xd
    replace bM := bM.ext xd
    replace bS := bS.ext xd
    replace h1 := h1.ext xd
    replace bX := bX.ext xd
    replace X := Ext.trans X xd; clear xd ew25
    refine wi_take 0 rfl (by kernel_rfl) rfl (by kernel_rfl) (listed' := #[true, false, false, false, false, false, false, false, false]) rfl (fun wq sq => ow_loadAB sq.1 ti33 rfl rfl ⟨rfl, rfl⟩) ?_
    refine wi_take 1 rfl (by kernel_rfl) rfl (by kernel_rfl) (listed' := #[true, true, false, false, false, false, false, false, false]) rfl (fun wq sq => ow_loadAB sq.2 ti42 rfl rfl ⟨rfl, rfl⟩) ?_
    refine wi_one 2 rfl rfl (by kernel_rfl) (listed' := #[true, true, true, false, false, false, false, false, false]) rfl ⟨bX, bS⟩ (ow_call ent24 rfl (ret_mono (toStateI_c _ _) ?_))
    rintro _ w27 ⟨rfl, x26⟩
    replace hm := hm.ext x26
    replace bM := bM.ext x26
    replace bS := bS.ext x26
    replace h1 := h1.ext x26
    replace bX := bX.ext x26
    replace X := Ext.trans X x26; clear x26
    refine wi_one 3 rfl rfl (by kernel_rfl) (listed' := #[true, true, true, true, false, false, false, false, false]) rfl ⟨bX, bS⟩ (ow_call ent36 rfl (ret_mono (by have h := implStart_c m1 _ s _ h1 z1; rw [e1] at h; exact h) ?_))
    rintro _ w29 ⟨rfl, x28⟩
    replace hm := hm.ext x28
    replace bM := bM.ext x28
    replace bS := bS.ext x28
    replace h1 := h1.ext x28
    replace bX := bX.ext x28
    replace X := Ext.trans X x28; clear x28
    refine wi_take 4 rfl (by kernel_rfl) rfl (by kernel_rfl) (listed' := #[true, true, true, true, true, false, false, false, false]) rfl (fun wq sq => ow_move rfl ⟨rfl, rfl⟩) ?_
    refine wi_take 5 rfl (by kernel_rfl) rfl (by kernel_rfl) (listed' := #[true, true, true, true, true, true, false, false, false]) rfl (fun wq sq => ow_extract rfl rfl ⟨rfl, rfl⟩) ?_
    refine wi_take 6 rfl (by kernel_rfl) rfl (by kernel_rfl) (listed' := #[true, true, true, true, true, true, true, false, false]) rfl (fun wq sq => ow_extract rfl rfl ⟨rfl, rfl⟩) ?_
    refine wi_take 7 rfl (by kernel_rfl) rfl (by kernel_rfl) (listed' := #[true, true, true, true, true, true, true, true, false]) rfl (fun wq sq => ow_assign rfl ⟨rfl, rfl⟩) ?_
    refine wi_take 8 rfl (by kernel_rfl) rfl (by kernel_rfl) (listed' := #[true, true, true, true, true, true, true, true, true]) rfl (fun wq sq => ow_assign rfl ⟨rfl, rfl⟩) ?_
    refine wi_done rfl ⟨bX, bS⟩ (fun aj fj => ⟨_, fj, ?_⟩)
    refine c_seq ?_
    refine c_seqR ?_
    refine ops_cons rfl (ow_move rfl ?_)
    refine ops_cons rfl (ow_move rfl ?_)
    refine ops_cons rfl (ow_neq2 rfl rfl (fun h30 => absurd h30 (by simp)) (fun h30 => ?_))
    refine ops_cons rfl (ow_move rfl ?_)
    refine ops_want rfl rfl rfl (ow_move rfl ?_)
    refine ops_want rfl rfl rfl (ow_move rfl ?_)
    refine ops_want rfl rfl rfl (ow_neq2 rfl rfl (fun h31 => absurd h31 (by simp)) (fun h31 => ?_))
    refine ops_cons rfl (ow_pick rfl rfl ?_)
    refine ops_nil ?_
    refine c_false rfl ?_
    refine c_skip ?_
    refine tq_n ?_
    refine c_seq ?_
    refine c_seqI (fun wz => Blk wz gX 33 m1.cells ∧ Blk wz gM 26 m.cells) mixed ?_
    obtain ⟨w32, ew32⟩ : ∃ w2, w2 = World.drew w29 := ⟨_, rfl⟩
    rw [← ew32]
    have xd : Ext w29 w32 := ew32 ▸ Ext.drew w29
    replace hm := hm.ext xd
    replace bM := bM.ext xd
    replace bS := bS.ext xd
    replace h1 := h1.ext xd
    replace bX := bX.ext xd
    replace X := Ext.trans X xd; clear xd ew32
    refine wi_take 0 rfl (by kernel_rfl) rfl (by kernel_rfl) (listed' := #[true, false, false, false, false]) rfl (fun wq sq => ow_loadAB sq.1 ti33 rfl rfl ⟨rfl, rfl⟩) ?_
    refine wi_take 1 rfl (by kernel_rfl) rfl (by kernel_rfl) (listed' := #[true, true, false, false, false]) rfl (fun wq sq => ow_loadAB sq.2 ti26 rfl rfl ⟨rfl, rfl⟩) ?_
    refine wi_one 2 rfl rfl (by kernel_rfl) (listed' := #[true, true, true, false, false]) rfl ⟨bX, bM⟩ (ow_call ent16 rfl (ret_mono (toMedlR_c m _ _ hm hz) ?_))
    rintro _ w34 ⟨m2, rfl, e2, h2, x33⟩
    have Bh2 := h2.1
    replace hm := hm.ext x33
    replace bM := bM.ext x33
    replace bS := bS.ext x33
    replace h1 := h1.ext x33
    replace bX := bX.ext x33
    replace X := Ext.trans X x33; clear x33
    have z2 := MedlI.small_of e2 hz
    refine wi_one 3 rfl rfl (by kernel_rfl) (listed' := #[true, true, true, true, false]) rfl ⟨bX, bM⟩ (ow_call ent18 rfl (ret_mono (eqMedl_c m1 m2 _ _ _ h1 h2 (e2.trans e1.symm) z1) ?_))
    rintro _ w38 ⟨rfl, x37⟩
    replace hm := hm.ext x37
    replace bM := bM.ext x37
    replace bS := bS.ext x37
    replace h1 := h1.ext x37
    replace bX := bX.ext x37
    replace h2 := h2.ext x37
    replace X := Ext.trans X x37; clear x37
    refine wi_take 4 rfl (by kernel_rfl) rfl (by kernel_rfl) (listed' := #[true, true, true, true, true]) rfl (fun wq sq => ow_not rfl ⟨rfl, rfl⟩) ?_
    refine wi_done rfl ⟨bX, bM⟩ (fun aj fj => ⟨_, fj, ?_⟩)
    refine c_false rfl ?_
    refine c_skip ?_
    refine tq_n ?_
    refine c_seqR ?_
    refine ops_cons rfl (ow_assign rfl ?_)
    refine ops_nil ?_
    refine c_ret ?_
    refine fin_ret1 rfl rfl ?_
    exact ⟨rfl, X⟩
set_option maxRecDepth 100000

theorem fnExactSlotStart_lifted (os : Os) (started : os.Started) (H : Type) (enc : TypeId × Value → H) :
    ReturnsInHanded {} Tryz.checked os 11 .any (fun w args => (Rows.fnExactSlotStartSpec.pre enc Tryz.prog Tryz.f11 Rows.fnExactSlotStartRow.domain false w args ∧ laidMetH Tryz.prog Rows.fnExactSlotStartRow.laid w) ∧ sizedMet enc Tryz.prog Tryz.f11 (OpenSpec.ofChange Rows.fnExactSlotStartSpec) false w args)
      (Rows.fnExactSlotStartSpec.post enc Tryz.prog Tryz.f11 false true false false) := by
  refine returnsInHanded_of_change_and (C := Tryz.checked) (X := fun w _ => laidMetH Tryz.prog Rows.fnExactSlotStartRow.laid w) (fun _ _ _ hh h => h.of_heap hh) law_own started (by kernel_rfl) Tryz.func11
    (ChangeSpec.witness_shaped (enc := enc) (C := Tryz.checked) (os := os) (X := fun w _ => laidMetH Tryz.prog Rows.fnExactSlotStartRow.laid w) false (World.laidAll Tryz.prog os Rows.fnExactSlotStartRow.laid) #[.agg #[.int .i64 0, .slice none 0 0, .slice none 0 0, .slice none 0 0], .agg #[.int .i64 0, .int .i64 0, .int .i64 0, .int .i64 0, .int .i64 0]] 8 (World.laidAll_os _ _ _)
      (World.shaped_of_ZipB (by kernel_rfl) (by kernel_rfl)) (by kernel_rfl) (by kernel_rfl) (by kernel_rfl)
      (by rw [MakeChecks.laidMetH_plain _ _ _ (by kernel_rfl)]; exact laidMet_laidAll _ (by kernel_rfl) (by kernel_rfl))) ?_
  intro W base args ds gs before hval0 hW _ _ hL _
  have hval : ∀ (j : Nat) t v, Tryz.f11.params[j]? = some t → args[j]? = some v → Value.okWide Tryz.prog W .any base t v := hval0
  have hW' := hW
  obtain ⟨p, q, hA0, hV, rfl, hfz, hnd⟩ := hW
  have hA : DataW.TrodAll enc Tryz.prog W 0 (fun _ => true) true Tryz.f11.params.toList args.toList ds p := hA0
  rw [Tryz.params11] at hA hval
  obtain ⟨rfl, rfl⟩ := trodVars_none hV
  obtain ⟨v0, vs0, d0, ds0, p0, q0, hargs, rfl, rfl, h0, r0⟩ := trodAll_cons hA
  obtain ⟨v1, vs1, d1, ds1, p1, q1, rfl, rfl, rfl, h1, r1⟩ := trodAll_cons r0
  obtain ⟨rfl, rfl, rfl⟩ := trodAll_nil r1
  obtain rfl : args = #[v0, v1] := by cases args; simp_all
  obtain ⟨cs0, rfl, m0, x0, t0⟩ := agg_of Tryz.underlying26 (hval 0 26 v0 rfl rfl) h0
  obtain ⟨m, rfl, hm, wm⟩ := open_MedlI t0
  obtain ⟨cs1, rfl, m1, x1, t1⟩ := agg_of Tryz.underlying42 (hval 1 42 v1 rfl rfl) h1
  obtain ⟨s, rfl, ws⟩ := open_StateI t1
  refine Calls.mono (law_FnExactSlotStart m _ s W hm wm ws) fun e W' h => ?_
  cases e <;> first | exact h.elim | skip
  obtain ⟨rfl, hb⟩ := h
  exact ⟨_, rfl, law_post law_laid (by kernel_rfl) rfl rfl Tryz.underlying4 (hW') rfl hb⟩

theorem fnExactSlotStart_holds : Rows.FnExactSlotStartSaid :=
  OpenClaim.holds_of_wide 11 Tryz.f11 rfl rfl rfl rfl rfl rfl rfl ⟨rfl, rfl, rfl, rfl, rfl⟩ rfl rfl rfl rfl rfl (by kernel_rfl) Tryz.func11 (by kernel_rfl)
    (of_decide_eq_true (by kernel_rfl)) (by unfold Func.isWrapper; rw [if_neg (of_decide_eq_false (by kernel_rfl))]; exact ⟨rfl, rfl⟩)
    (fun os started H enc _ => fnExactSlotStart_lifted os started H enc)

theorem fnExactSlotStart_card : Rows.FnExactSlotStartCardSaid :=
  Claim7.holds_tied_plain_at .later [] [.data, .pinned] true (true, "8458b1b0d1af341da98c86618066273f9c2061d289ad0ef8c4000ad9f789289f") false fnExactSlotStart_holds (fun _ h => by cases h) (by kernel_rfl) (fun _ h => by cases h) fnExactSlotStart_row_tie rfl ⟨rfl, rfl⟩ law_main rfl
    (fun f fn hf hfn => by
      obtain rfl : f = 11 := Option.some.inj ((show Tryz.prog.funcNamed "loop.example/g00833/laws.FnExactSlotStart" = some 11 by kernel_rfl).symm.trans hf) |>.symm
      obtain rfl : fn = Tryz.f11 := (Option.some.inj (Tryz.func11.symm.trans hfn)).symm
      exact ⟨law_looks, fun j t ht => by
        rw [Tryz.params11] at ht
        have hm : t ∈ [26, 42] := by simpa using Array.mem_of_getElem? ht
        have hall : ([26, 42].all fun u => !Tryz.prog.wantsStandIn u) = true := by kernel_rfl
        exact (show Tryz.prog.wantsStandIn t = false by simpa using List.all_eq_true.1 hall t hm)⟩)
    (by kernel_rfl)
end Go.Proofs.YtfmihehpdfmgfaaGreatDoor
