/- The law FnExactFirstFault answers true for all arguments that its row admits, and leaves what was there before as it was. No condition. -/
import Derived.Test.YtfmihehpdfmgfaaGreatDoorM3
import Derived.Test.YtfmihehpdfmgfaaGreatDoorC4
import Derived.Test.YtfmihehpdfmgfaaGreatDoorCS
import Derived.Test.YtfmihehpdfmgfaaGreatDoorLW
import Derived.Test.YtfmihehpdfmgfaaGreatDoorTie
import Derived.Test.YtfmihehpdfmgfaaGreatDoorCards
import Derived.Lay
import Derived.LaidOnce
import Derived.SevenTiedAt
namespace Go.Proofs.YtfmihehpdfmgfaaGreatDoor
open Go.ChangeShapes Go.WideShapes Go.ChangeAt Go.RowKit
set_option linter.unusedVariables false
set_option linter.unusedSimpArgs false
set_option maxRecDepth 20000
theorem law_FnExactFirstFault (m : MedlI) (B : Nat) (w : World) (hm : Med B w m) (hw : m.fit) :
    Calls Tryz.prog 3 #[.agg m.cells.toArray] w (Ret fun v w' => v = .bool true ∧ Ext w w') := by
  have Bhm := hm.1
  have X := Ext.refl w
  refine calls_of (args := [.agg m.cells.toArray]) Tryz.func3 Tryz.ntmps3 rfl rfl ?_
  refine c_seqR ?_
  refine ops_cons rfl (ow_box rfl rfl ?_)
  intro gM w2 egM bM x1 zgM
  have lgM : w.heap.size ≤ gM := Nat.le_trans X.size (Nat.le_of_eq egM.symm)
  have pgMhm := Nat.le_trans hm.1 (Nat.le_of_eq egM.symm)
  replace hm := hm.ext x1
  replace X := Ext.trans X x1; clear x1
  refine ops_cons rfl (ow_assign rfl ?_)
  refine ops_nil ?_
  refine c_seqR ?_
  refine ops_cons rfl (ow_assign rfl ?_)
  refine ops_nil ?_
  refine c_seqR ?_
  refine ops_cons rfl (ow_loadAB bM ti26 rfl rfl ?_)
  refine ops_cons rfl (ow_move rfl ?_)
  refine ops_cons rfl (ow_call ent14 rfl (ret_mono (szMedl_c m _ _ hm hw) ?_))
  rintro _ w4 ⟨rfl, x3⟩
  replace hm := hm.ext x3
  replace bM := bM.ext x3
  replace X := Ext.trans X x3; clear x3
  refine ops_cons rfl (ow_assign rfl ?_)
  refine ops_nil ?_
  refine c_seq ?_
  refine c_seqR ?_
  refine ops_cons rfl (ow_move rfl ?_)
  refine ops_cons rfl (ow_lss2 rfl rfl (fun hq => ?_) (fun hq => ?_))
  · skip
    refine ops_nil ?_
    refine c_true rfl ?_
    refine c_seqR ?_
    refine ops_cons rfl (ow_assign rfl ?_)
    refine ops_nil ?_
    refine c_ret ?_
    refine tq_r ?_
    refine fin_ret1 rfl rfl ?_
    exact ⟨rfl, X⟩
  · skip
    have hz := szMedl_small (by omega) hq
    refine ops_nil ?_
    refine c_false rfl ?_
    refine c_skip ?_
    refine tq_n ?_
    refine c_seqR ?_
    refine ops_cons rfl (ow_loadAB bM ti26 rfl rfl ?_)
    refine ops_cons rfl (ow_call ent16 rfl (ret_mono (toMedlR_c m _ _ hm hz) ?_))
    rintro _ w6 ⟨m0, rfl, e0, h0, x5⟩
    have Bh0 := h0.1
    replace hm := hm.ext x5
    replace bM := bM.ext x5
    replace X := Ext.trans X x5; clear x5
    have z0 := MedlI.small_of e0 hz
    refine ops_cons rfl (ow_call ent15 rfl (ret_mono (by have h := sFF_c m0 _  _ h0 z0; rw [e0] at h; exact h) ?_))
    rintro _ w10 ⟨rfl, x9⟩
    replace hm := hm.ext x9
    replace bM := bM.ext x9
    replace h0 := h0.ext x9
    replace X := Ext.trans X x9; clear x9
    refine ops_cons rfl (ow_assign rfl ?_)
    refine ops_nil ?_
    refine c_seqR ?_
    refine ops_cons rfl (ow_loadAB bM ti26 rfl rfl ?_)
    refine ops_cons rfl (ow_call ent16 rfl (ret_mono (toMedlR_c m _ _ hm hz) ?_))
    rintro _ w12 ⟨m1, rfl, e1, h1, x11⟩
    have Bh1 := h1.1
    replace hm := hm.ext x11
    replace bM := bM.ext x11
    replace X := Ext.trans X x11; clear x11
    have z1 := MedlI.small_of e1 hz
    refine ops_cons rfl (ow_alloc ti33 ?_)
    intro gX w16 egX bA x15 zgX
    have lgX : w.heap.size ≤ gX := Nat.le_trans X.size (Nat.le_of_eq egX.symm)
    have pgXhm := Nat.le_trans hm.1 (Nat.le_of_eq egX.symm)
    have ngXbM := Nat.lt_of_lt_of_eq bM.lt egX.symm
    have pgXh1 := Nat.le_trans h1.1 (Nat.le_of_eq egX.symm)
    replace hm := hm.ext x15
    replace bM := bM.ext x15
    replace h1 := h1.ext x15
    replace X := Ext.trans X x15; clear x15
    refine ops_cons rfl (ow_storeB bA ti33 rfl rfl rfl rfl rfl rfl ?_)
    intro w18 bX hg17 z19
    replace hm := hm.grown hg17 (by intro g hg; injection hg; omega)
    replace bM := bM.grown hg17 (by intro h; injection h; omega)
    replace h1 := h1.grown hg17 (by intro g hg; injection hg; omega)
    replace X := X.grown hg17 X.size (by intro g hg; injection hg; omega)
    clear hg17 bA
    refine ops_nil ?_
    refine c_seqR ?_
    refine ops_cons rfl (ow_loadAB bX ti33 rfl rfl ?_)
    refine ops_cons rfl (ow_call ent17 rfl (ret_mono (by have h := iFF_c m1 _  _ h1 z1; rw [e1] at h; exact h) ?_))
    rintro _ w21 ⟨rfl, x20⟩
    replace hm := hm.ext x20
    replace bM := bM.ext x20
    replace h1 := h1.ext x20
    replace bX := bX.ext x20
    replace X := Ext.trans X x20; clear x20
    refine ops_cons rfl (ow_assign rfl ?_)
    refine ops_nil ?_
    refine c_seq ?_
    refine c_seqR ?_
    refine ops_cons rfl (ow_move rfl ?_)
    refine ops_cons rfl (ow_move rfl ?_)
    refine ops_cons rfl (ow_neq2 rfl rfl (fun h22 => absurd h22 (by simp)) (fun h22 => ?_))
    refine ops_nil ?_
    refine c_false rfl ?_
    refine c_skip ?_
    refine tq_n ?_
    refine c_seq ?_
    refine c_seqI (fun wz => Blk wz gX 33 m1.cells ∧ Blk wz gM 26 m.cells) mixed ?_
    obtain ⟨w23, ew23⟩ : ∃ w2, w2 = World.drew w21 := ⟨_, rfl⟩
    rw [← ew23]
    have xd : Ext w21 w23 := ew23 ▸ Ext.drew w21
    replace hm := hm.ext xd
    replace bM := bM.ext xd
    replace h1 := h1.ext xd
    replace bX := bX.ext xd
    replace X := Ext.trans X xd; clear xd ew23
    refine wi_take 0 rfl (by kernel_rfl) rfl (by kernel_rfl) (listed' := #[true, false, false, false, false]) rfl (fun wq sq => ow_loadAB sq.1 ti33 rfl rfl ⟨rfl, rfl⟩) ?_
    refine wi_take 1 rfl (by kernel_rfl) rfl (by kernel_rfl) (listed' := #[true, true, false, false, false]) rfl (fun wq sq => ow_loadAB sq.2 ti26 rfl rfl ⟨rfl, rfl⟩) ?_
    refine wi_one 2 rfl rfl (by kernel_rfl) (listed' := #[true, true, true, false, false]) rfl ⟨bX, bM⟩ (ow_call ent16 rfl (ret_mono (toMedlR_c m _ _ hm hz) ?_))
    rintro _ w25 ⟨m2, rfl, e2, h2, x24⟩
    have Bh2 := h2.1
    replace hm := hm.ext x24
    replace bM := bM.ext x24
    replace h1 := h1.ext x24
    replace bX := bX.ext x24
    replace X := Ext.trans X x24; clear x24
    have z2 := MedlI.small_of e2 hz
    refine wi_one 3 rfl rfl (by kernel_rfl) (listed' := #[true, true, true, true, false]) rfl ⟨bX, bM⟩ (ow_call ent18 rfl (ret_mono (eqMedl_c m1 m2 _ _ _ h1 h2 (e2.trans e1.symm) z1) ?_))
    rintro _ w29 ⟨rfl, x28⟩
    replace hm := hm.ext x28
    replace bM := bM.ext x28
    replace h1 := h1.ext x28
    replace bX := bX.ext x28
    replace h2 := h2.ext x28
    replace X := Ext.trans X x28; clear x28
    refine wi_take 4 rfl (by kernel_rfl) rfl (by kernel_rfl) (listed' := #[true, true, true, true, true]) rfl (fun wq sq => ow_not rfl ⟨rfl, rfl⟩) ?_
    refine wi_done rfl ⟨bX, bM⟩ (fun aj fj => ⟨_, fj, ?_⟩)
    refine c_false rfl ?_
    refine c_skip ?_
    refine tq_n ?_
    refine c_seqR ?_
    refine ops_cons rfl (ow_assign rfl ?_)
    refine ops_nil ?_
    refine c_ret ?_
    refine fin_ret1 rfl rfl ?_
    exact ⟨rfl, X⟩
set_option maxRecDepth 100000

theorem fnExactFirstFault_lifted (os : Os) (started : os.Started) (H : Type) (enc : TypeId × Value → H) :
    ReturnsInHanded {} Tryz.checked os 3 .any (fun w args => (Rows.fnExactFirstFaultSpec.pre enc Tryz.prog Tryz.f3 Rows.fnExactFirstFaultRow.domain false w args ∧ laidMetH Tryz.prog Rows.fnExactFirstFaultRow.laid w) ∧ sizedMet enc Tryz.prog Tryz.f3 (OpenSpec.ofChange Rows.fnExactFirstFaultSpec) false w args)
      (Rows.fnExactFirstFaultSpec.post enc Tryz.prog Tryz.f3 false true false false) := by
  refine returnsInHanded_of_change_and (C := Tryz.checked) (X := fun w _ => laidMetH Tryz.prog Rows.fnExactFirstFaultRow.laid w) (fun _ _ _ hh h => h.of_heap hh) law_own started (by kernel_rfl) Tryz.func3
    (ChangeSpec.witness_shaped (enc := enc) (C := Tryz.checked) (os := os) (X := fun w _ => laidMetH Tryz.prog Rows.fnExactFirstFaultRow.laid w) false (World.laidAll Tryz.prog os Rows.fnExactFirstFaultRow.laid) #[.agg #[.int .i64 0, .slice none 0 0, .slice none 0 0, .slice none 0 0]] 8 (World.laidAll_os _ _ _)
      (World.shaped_of_ZipB (by kernel_rfl) (by kernel_rfl)) (by kernel_rfl) (by kernel_rfl) (by kernel_rfl)
      (by rw [MakeChecks.laidMetH_plain _ _ _ (by kernel_rfl)]; exact laidMet_laidAll _ (by kernel_rfl) (by kernel_rfl))) ?_
  intro W base args ds gs before hval0 hW _ _ hL _
  have hval : ∀ (j : Nat) t v, Tryz.f3.params[j]? = some t → args[j]? = some v → Value.okWide Tryz.prog W .any base t v := hval0
  have hW' := hW
  obtain ⟨p, q, hA0, hV, rfl, hfz, hnd⟩ := hW
  have hA : DataW.TrodAll enc Tryz.prog W 0 (fun _ => true) true Tryz.f3.params.toList args.toList ds p := hA0
  rw [Tryz.params3] at hA hval
  obtain ⟨rfl, rfl⟩ := trodVars_none hV
  obtain ⟨v0, vs0, d0, ds0, p0, q0, hargs, rfl, rfl, h0, r0⟩ := trodAll_cons hA
  obtain ⟨rfl, rfl, rfl⟩ := trodAll_nil r0
  obtain rfl : args = #[v0] := by cases args; simp_all
  obtain ⟨cs0, rfl, m0, x0, t0⟩ := agg_of Tryz.underlying26 (hval 0 26 v0 rfl rfl) h0
  obtain ⟨m, rfl, hm, wm⟩ := open_MedlI t0
  refine Calls.mono (law_FnExactFirstFault m _ W hm wm) fun e W' h => ?_
  cases e <;> first | exact h.elim | skip
  obtain ⟨rfl, hb⟩ := h
  exact ⟨_, rfl, law_post law_laid (by kernel_rfl) rfl rfl Tryz.underlying4 (hW') rfl hb⟩

theorem fnExactFirstFault_holds : Rows.FnExactFirstFaultSaid :=
  OpenClaim.holds_of_wide 3 Tryz.f3 rfl rfl rfl rfl rfl rfl rfl ⟨rfl, rfl, rfl, rfl, rfl⟩ rfl rfl rfl rfl rfl (by kernel_rfl) Tryz.func3 (by kernel_rfl)
    (of_decide_eq_true (by kernel_rfl)) (by unfold Func.isWrapper; rw [if_neg (of_decide_eq_false (by kernel_rfl))]; exact ⟨rfl, rfl⟩)
    (fun os started H enc _ => fnExactFirstFault_lifted os started H enc)

theorem fnExactFirstFault_card : Rows.FnExactFirstFaultCardSaid :=
  Claim7.holds_tied_plain_at .later [] [.data, .pinned] true (true, "8458b1b0d1af341da98c86618066273f9c2061d289ad0ef8c4000ad9f789289f") false fnExactFirstFault_holds (fun _ h => by cases h) (by kernel_rfl) (fun _ h => by cases h) fnExactFirstFault_row_tie rfl ⟨rfl, rfl⟩ law_main rfl
    (fun f fn hf hfn => by
      obtain rfl : f = 3 := Option.some.inj ((show Tryz.prog.funcNamed "loop.example/g00833/laws.FnExactFirstFault" = some 3 by kernel_rfl).symm.trans hf) |>.symm
      obtain rfl : fn = Tryz.f3 := (Option.some.inj (Tryz.func3.symm.trans hfn)).symm
      exact ⟨law_looks, fun j t ht => by
        rw [Tryz.params3] at ht
        have hm : t ∈ [26] := by simpa using Array.mem_of_getElem? ht
        have hall : ([26].all fun u => !Tryz.prog.wantsStandIn u) = true := by kernel_rfl
        exact (show Tryz.prog.wantsStandIn t = false by simpa using List.all_eq_true.1 hall t hm)⟩)
    (by kernel_rfl)
end Go.Proofs.YtfmihehpdfmgfaaGreatDoor
