/- The law FnExactReadModeTable answers true for all arguments that its row admits, and leaves what was there before as it was. No condition. -/
import Derived.Test.YthdeoagoehkcfaaR2
import Derived.Test.YthdeoagoehkcfaaC3
import Derived.Test.YthdeoagoehkcfaaK2
import Derived.Test.YthdeoagoehkcfaaLW
namespace Go.Proofs.Ythdeoagoehkcfaa
open Go.ChangeShapes Go.WideShapes Go.ChangeAt Go.RowKit
set_option linter.unusedVariables false
set_option linter.unusedSimpArgs false
set_option maxRecDepth 20000
theorem law_FnExactReadModeTable (A : Option Addr) (B c : Nat) (xs : List Int) (w : World) (hs : Sl B w A (xs.flatMap eI)) (hm : xs.length ≤ 9223372036854775807) :
    Calls Try.prog 4 #[.slice A xs.length c] w (Ret fun v w' => v = .bool true ∧ Ext w w') := by
  have Bhs := hs.1
  have X := Ext.refl w
  refine calls_of (args := [.slice A xs.length c]) Try.func4 Try.ntmps4 rfl rfl ?_
  refine c_seqR ?_
  refine ops_cons rfl (ow_assign rfl ?_)
  refine ops_nil ?_
  refine c_seq ?_
  refine c_seqR ?_
  refine ops_cons rfl (ow_move rfl ?_)
  refine ops_cons rfl (ow_len Try.underlying22 rfl ?_)
  refine ops_cons rfl (ow_gtr2 rfl rfl (fun hz0 => ?_) (fun hz0 => ?_))
  · skip
    refine ops_nil ?_
    refine c_true rfl ?_
    refine c_seqR ?_
    refine ops_cons rfl (ow_assign rfl ?_)
    refine ops_nil ?_
    refine c_ret ?_
    refine tq_r ?_
    refine fin_ret1 rfl rfl ?_
    exact ⟨rfl, X⟩
  · skip
    have hl : xs.length ≤ 1048576 := by omega
    refine ops_nil ?_
    refine c_false rfl ?_
    refine c_skip ?_
    refine tq_n ?_
    refine c_seqR ?_
    refine ops_cons rfl (ow_move rfl ?_)
    refine ops_cons rfl (ow_call ent9 rfl (ret_mono (toInt_c _ _ _ _ _ hs hl) ?_))
    rintro _ w2 ⟨A3, c4, rfl, oC0, x1⟩
    replace oC0 := Own.low oC0 X.size
    replace hs := hs.ext x1
    replace X := Ext.trans X x1; clear x1
    refine ops_cons rfl (ow_call ent12 rfl (ret_mono (sReadM_c _ _ _ _ _ (oC0).sl hl oC0.cap) ?_))
    rintro _ w6 ⟨A7, c8, yS, rfl, eS, djS, oS, oSn, x5⟩
    replace oS := Own.low oS X.size
    replace oSn := NOwn.low oSn X.size
    replace hs := hs.ext x5
    replace oC0 := oC0.ext x5
    replace X := Ext.trans X x5; clear x5
    have hlS := readMF_small hl eS
    have sS := oS.sl
    have nS := oSn.nexts
    clear oS oSn oC0
    refine ops_cons rfl (ow_move rfl ?_)
    refine ops_cons rfl (ow_extract rfl rfl ?_)
    refine ops_cons rfl (ow_extract rfl rfl ?_)
    refine ops_cons rfl (ow_extract rfl rfl ?_)
    refine ops_cons rfl (ow_assign rfl ?_)
    refine ops_cons rfl (ow_assign rfl ?_)
    refine ops_cons rfl (ow_assign rfl ?_)
    refine ops_nil ?_
    refine c_seqR ?_
    refine ops_cons rfl (ow_move rfl ?_)
    refine ops_cons rfl (ow_call ent9 rfl (ret_mono (toInt_c _ _ _ _ _ hs hl) ?_))
    rintro _ w10 ⟨A11, c12, rfl, oX, x9⟩
    have LoX := X.size
    replace hs := hs.ext x9
    replace sS := sS.ext x9
    replace nS := nS.ext x9
    replace X := Ext.trans X x9; clear x9
    refine ops_cons rfl (ow_assign rfl ?_)
    refine ops_nil ?_
    refine c_seqR ?_
    refine ops_cons rfl (ow_move rfl ?_)
    have LS := sS.1
    have UX := fun g hg => (Own.lt oX (g := g) hg).2
    refine ops_cons rfl (ow_call ent13 rfl (ret_mono (iReadM_c _ _ _ _ _ (oX).sl hl oX.cap) ?_))
    rintro _ w14 ⟨A15, c16, yI, rfl, eI1, djI, oI, oIn, x13⟩
    have LoI := X.size
    replace hs := hs.ext x13
    replace sS := sS.ext x13
    replace nS := nS.ext x13
    replace oX := oX.ext x13
    replace X := Ext.trans X x13; clear x13
    have hlI := readMF_small hl eI1
    refine ops_cons rfl (ow_move rfl ?_)
    refine ops_cons rfl (ow_extract rfl rfl ?_)
    refine ops_cons rfl (ow_extract rfl rfl ?_)
    refine ops_cons rfl (ow_extract rfl rfl ?_)
    refine ops_cons rfl (ow_assign rfl ?_)
    refine ops_cons rfl (ow_assign rfl ?_)
    refine ops_cons rfl (ow_assign rfl ?_)
    refine ops_nil ?_
    refine c_seq ?_
    refine c_seqR ?_
    refine ops_cons rfl (ow_move rfl ?_)
    refine ops_cons rfl (ow_move rfl ?_)
    refine ops_cons rfl (ow_call ent14 rfl (ret_mono (eqModes_c _ _ _ _ _ _ _ _ _ _ _ (oI).sl (oIn).nexts sS nS (eI1.trans eS.symm) hlI.1 hlI.2) ?_))
    rintro _ w18 ⟨rfl, x17⟩
    replace hs := hs.ext x17
    replace sS := sS.ext x17
    replace nS := nS.ext x17
    replace oX := oX.ext x17
    replace oI := oI.ext x17
    replace oIn := oIn.ext x17
    replace X := Ext.trans X x17; clear x17
    refine ops_cons rfl (ow_not rfl ?_)
    refine ops_cons rfl (ow_move rfl ?_)
    refine ops_want rfl rfl rfl (ow_move rfl ?_)
    refine ops_want rfl rfl rfl (ow_move rfl ?_)
    refine ops_want rfl rfl rfl (ow_neq2 rfl rfl (fun h19 => absurd h19 (by simp)) (fun h19 => ?_))
    refine ops_cons rfl (ow_pick rfl rfl ?_)
    refine ops_cons rfl (ow_move rfl ?_)
    refine ops_want rfl rfl rfl (ow_move rfl ?_)
    refine ops_want rfl rfl rfl (ow_move rfl ?_)
    refine ops_want rfl rfl rfl (ow_neq2 rfl rfl (fun h20 => absurd h20 (by simp)) (fun h20 => ?_))
    refine ops_cons rfl (ow_pick rfl rfl ?_)
    refine ops_nil ?_
    refine c_false rfl ?_
    refine c_skip ?_
    refine tq_n ?_
    refine c_seq ?_
    refine c_seqR ?_
    refine ops_cons rfl (ow_move rfl ?_)
    refine ops_cons rfl (ow_move rfl ?_)
    refine ops_cons rfl (ow_call ent9 rfl (ret_mono (toInt_c _ _ _ _ _ hs hl) ?_))
    rintro _ w22 ⟨A23, c24, rfl, oC1, x21⟩
    replace oC1 := Own.low oC1 X.size
    replace hs := hs.ext x21
    replace sS := sS.ext x21
    replace nS := nS.ext x21
    replace oX := oX.ext x21
    replace oI := oI.ext x21
    replace oIn := oIn.ext x21
    replace X := Ext.trans X x21; clear x21
    refine ops_cons rfl (ow_call ent11 rfl (ret_mono (eqInt_c _ _ _ _ _ _ _ _ (oX).sl (oC1).sl hl) ?_))
    rintro _ w26 ⟨rfl, x25⟩
    replace hs := hs.ext x25
    replace sS := sS.ext x25
    replace nS := nS.ext x25
    replace oX := oX.ext x25
    replace oI := oI.ext x25
    replace oIn := oIn.ext x25
    replace oC1 := oC1.ext x25
    replace X := Ext.trans X x25; clear x25
    clear oC1
    refine ops_cons rfl (ow_not rfl ?_)
    refine ops_nil ?_
    refine c_false rfl ?_
    refine c_skip ?_
    refine tq_n ?_
    refine c_seqR ?_
    refine ops_cons rfl (ow_assign rfl ?_)
    refine ops_nil ?_
    refine c_seqR ?_
    refine ops_cons rfl (ow_move rfl ?_)
    refine ops_cons rfl (ow_move rfl ?_)
    refine ops_cons rfl (ow_call ent15 rfl (ret_mono (markI_c _ _ _ _ _ _ oX hl (by omega)) ?_))
    rintro _ w28 ⟨rfl, oX2, x27⟩
    replace hs := hs.grown x27 (fun g hg => Nat.le_trans Bhs (Nat.le_trans LoX (Own.lt oX hg).1))
    replace sS := sS.grown x27 (fun g hg => (Own.lt oX hg).1)
    replace nS := nS.grown x27 (fun g hg => (Own.lt oX hg).1)
    replace oI := oI.grown x27 (fun g hg e => absurd (UX g hg) (Nat.not_lt.2 (Own.lt oI e).1))
    replace oIn := oIn.grownX x27 (fun y hy g hg e => absurd (UX g hg) (Nat.not_lt.2 (Own.lt (oIn y hy).1 e).1))
    replace X := X.grown x27 X.size (fun g hg => Nat.le_trans LoX (Own.lt oX hg).1); clear x27 oX
    refine ops_cons rfl (ow_assign rfl ?_)
    refine ops_nil ?_
    refine c_seq ?_
    refine c_seqR ?_
    refine ops_cons rfl (ow_move rfl ?_)
    refine ops_cons rfl (ow_lss2 rfl rfl (fun h29 => absurd h29 (by omega)) (fun h29 => ?_))
    refine ops_cons rfl (ow_move rfl ?_)
    refine ops_want rfl rfl rfl (ow_move rfl ?_)
    refine ops_want rfl rfl rfl (ow_move rfl ?_)
    refine ops_want rfl rfl rfl (ow_call ent14 rfl (ret_mono (eqModes_c _ _ _ _ _ _ _ _ _ _ _ (oI).sl (oIn).nexts sS nS (eI1.trans eS.symm) hlI.1 hlI.2) ?_))
    rintro _ w31 ⟨rfl, x30⟩
    replace hs := hs.ext x30
    replace sS := sS.ext x30
    replace nS := nS.ext x30
    replace oI := oI.ext x30
    replace oIn := oIn.ext x30
    replace oX2 := oX2.ext x30
    replace X := Ext.trans X x30; clear x30
    refine ops_want rfl rfl rfl (ow_not rfl ?_)
    refine ops_cons rfl (ow_pick rfl rfl ?_)
    refine ops_cons rfl (ow_move rfl ?_)
    refine ops_want rfl rfl rfl (ow_move rfl ?_)
    refine ops_want rfl rfl rfl (ow_move rfl ?_)
    refine ops_want rfl rfl rfl (ow_neq2 rfl rfl (fun h32 => absurd h32 (by simp)) (fun h32 => ?_))
    refine ops_cons rfl (ow_pick rfl rfl ?_)
    refine ops_cons rfl (ow_move rfl ?_)
    refine ops_want rfl rfl rfl (ow_move rfl ?_)
    refine ops_want rfl rfl rfl (ow_move rfl ?_)
    refine ops_want rfl rfl rfl (ow_neq2 rfl rfl (fun h33 => absurd h33 (by simp)) (fun h33 => ?_))
    refine ops_cons rfl (ow_pick rfl rfl ?_)
    refine ops_nil ?_
    refine c_false rfl ?_
    refine c_skip ?_
    refine tq_n ?_
    refine c_seqR ?_
    refine ops_cons rfl (ow_assign rfl ?_)
    refine ops_nil ?_
    refine c_seqR ?_
    refine ops_cons rfl (ow_move rfl ?_)
    refine ops_cons rfl (ow_move rfl ?_)
    refine ops_cons rfl (ow_call ent16 rfl (ret_mono (markModesX_c _ _ _ _ yI 1 _ (Own.low oI LS) (NFrom.of (NOwn.low oIn LS) 0) djI (fun g hg => (Own.lt oI hg).2) (fun y hy g hg => (Own.lt (oIn y hy).1 hg).2) hlI.1 hlI.2 (by omega)) ?_))
    rintro _ wM ⟨rfl, hb2, oI2, oI2n, yM⟩
    have xB := yM.win.below sS.1
    replace hs := hs.below (Below.mono xB (Nat.le_trans Bhs LoX))
    replace sS := sS.below xB
    replace nS := nS.below xB
    replace X := Below.trans X (Below.mono xB LoX)
    clear oX2 oI oIn
    refine ops_cons rfl (ow_assign rfl ?_)
    refine ops_nil ?_
    refine c_seqR ?_
    refine ops_cons rfl (ow_assign rfl ?_)
    refine ops_nil ?_
    refine c_seqR ?_
    refine ops_cons rfl (ow_move rfl ?_)
    refine ops_cons rfl (ow_move rfl ?_)
    refine ops_cons rfl (ow_call ent17 rfl (ret_mono (heldModesX_c _ _ _ _ _ yI 1 _ oI2.sl oI2n.nexts rfl hlI.1 hlI.2 (by omega)) ?_))
    rintro _ w35 ⟨rfl, x34⟩
    replace hs := hs.ext x34
    replace sS := sS.ext x34
    replace nS := nS.ext x34
    replace oI2 := oI2.ext x34
    replace oI2n := oI2n.ext x34
    replace X := Ext.trans X x34; clear x34
    refine ops_cons rfl (ow_assign rfl ?_)
    refine ops_nil ?_
    refine c_seq ?_
    refine c_seqR ?_
    refine ops_cons rfl (ow_move rfl ?_)
    refine ops_cons rfl (ow_lss2 rfl rfl (fun h36 => absurd h36 (by omega)) (fun h36 => ?_))
    refine ops_nil ?_
    refine c_false rfl ?_
    refine c_skip ?_
    refine tq_n ?_
    refine c_seq ?_
    refine c_seqR ?_
    refine ops_cons rfl (ow_move rfl ?_)
    refine ops_cons rfl (ow_move rfl ?_)
    refine ops_cons rfl (ow_neq2 rfl rfl (fun h37 => absurd h37 (by simp)) (fun h37 => ?_))
    refine ops_nil ?_
    refine c_false rfl ?_
    refine c_skip ?_
    refine tq_n ?_
    refine c_seqR ?_
    refine ops_cons rfl (ow_move rfl ?_)
    refine ops_cons rfl (ow_call ent9 rfl (ret_mono (toInt_c _ _ _ _ _ hs hl) ?_))
    rintro _ w39 ⟨A40, c41, rfl, oC2, x38⟩
    replace oC2 := Own.low oC2 X.size
    replace hs := hs.ext x38
    replace sS := sS.ext x38
    replace nS := nS.ext x38
    replace oI2 := oI2.ext x38
    replace oI2n := oI2n.ext x38
    replace X := Ext.trans X x38; clear x38
    refine ops_cons rfl (ow_call ent13 rfl (ret_mono (iReadM_c _ _ _ _ _ (oC2).sl hl oC2.cap) ?_))
    rintro _ w43 ⟨A44, c45, yJ, rfl, eJ, djJ, oJ, oJn, x42⟩
    replace oJ := Own.low oJ X.size
    replace oJn := NOwn.low oJn X.size
    replace hs := hs.ext x42
    replace sS := sS.ext x42
    replace nS := nS.ext x42
    replace oI2 := oI2.ext x42
    replace oI2n := oI2n.ext x42
    replace oC2 := oC2.ext x42
    replace X := Ext.trans X x42; clear x42
    have hlJ := readMF_small hl eJ
    clear oC2
    refine ops_cons rfl (ow_move rfl ?_)
    refine ops_cons rfl (ow_extract rfl rfl ?_)
    refine ops_cons rfl (ow_extract rfl rfl ?_)
    refine ops_cons rfl (ow_extract rfl rfl ?_)
    refine ops_cons rfl (ow_assign rfl ?_)
    refine ops_cons rfl (ow_assign rfl ?_)
    refine ops_cons rfl (ow_assign rfl ?_)
    refine ops_nil ?_
    refine c_seq ?_
    refine c_seqR ?_
    refine ops_cons rfl (ow_move rfl ?_)
    refine ops_cons rfl (ow_move rfl ?_)
    refine ops_cons rfl (ow_call ent14 rfl (ret_mono (eqModes_c _ _ _ _ _ _ _ _ _ _ _ (oJ).sl (oJn).nexts sS nS (eJ.trans eS.symm) hlJ.1 hlJ.2) ?_))
    rintro _ w47 ⟨rfl, x46⟩
    replace hs := hs.ext x46
    replace sS := sS.ext x46
    replace nS := nS.ext x46
    replace oI2 := oI2.ext x46
    replace oI2n := oI2n.ext x46
    replace oJ := oJ.ext x46
    replace oJn := oJn.ext x46
    replace X := Ext.trans X x46; clear x46
    clear oJ oJn
    refine ops_cons rfl (ow_not rfl ?_)
    refine ops_cons rfl (ow_move rfl ?_)
    refine ops_want rfl rfl rfl (ow_move rfl ?_)
    refine ops_want rfl rfl rfl (ow_move rfl ?_)
    refine ops_want rfl rfl rfl (ow_neq2 rfl rfl (fun h48 => absurd h48 (by simp)) (fun h48 => ?_))
    refine ops_cons rfl (ow_pick rfl rfl ?_)
    refine ops_cons rfl (ow_move rfl ?_)
    refine ops_want rfl rfl rfl (ow_move rfl ?_)
    refine ops_want rfl rfl rfl (ow_move rfl ?_)
    refine ops_want rfl rfl rfl (ow_neq2 rfl rfl (fun h49 => absurd h49 (by simp)) (fun h49 => ?_))
    refine ops_cons rfl (ow_pick rfl rfl ?_)
    refine ops_nil ?_
    refine c_false rfl ?_
    refine c_skip ?_
    refine tq_n ?_
    refine c_seqR ?_
    refine ops_cons rfl (ow_assign rfl ?_)
    refine ops_nil ?_
    refine c_seqR ?_
    refine ops_cons rfl (ow_move rfl ?_)
    refine ops_cons rfl (ow_move rfl ?_)
    refine ops_cons rfl (ow_call ent17 rfl (ret_mono (heldModesX_c _ _ _ _ _ yI 1 _ oI2.sl oI2n.nexts rfl hlI.1 hlI.2 (by omega)) ?_))
    rintro _ w51 ⟨rfl, x50⟩
    replace hs := hs.ext x50
    replace sS := sS.ext x50
    replace nS := nS.ext x50
    replace oI2 := oI2.ext x50
    replace oI2n := oI2n.ext x50
    replace X := Ext.trans X x50; clear x50
    refine ops_cons rfl (ow_assign rfl ?_)
    refine ops_nil ?_
    refine c_seq ?_
    refine c_seqR ?_
    refine ops_cons rfl (ow_move rfl ?_)
    refine ops_cons rfl (ow_lss2 rfl rfl (fun h52 => absurd h52 (by omega)) (fun h52 => ?_))
    refine ops_nil ?_
    refine c_false rfl ?_
    refine c_skip ?_
    refine tq_n ?_
    refine c_seq ?_
    refine c_seqR ?_
    refine ops_cons rfl (ow_move rfl ?_)
    refine ops_cons rfl (ow_move rfl ?_)
    refine ops_cons rfl (ow_neq2 rfl rfl (fun h53 => absurd h53 (by simp)) (fun h53 => ?_))
    refine ops_nil ?_
    refine c_false rfl ?_
    refine c_skip ?_
    refine tq_n ?_
    refine c_seqR ?_
    refine ops_cons rfl (ow_assign rfl ?_)
    refine ops_nil ?_
    refine c_ret ?_
    refine fin_ret1 rfl rfl ?_
    exact ⟨rfl, X⟩
set_option maxRecDepth 100000

theorem fnExactReadModeTable_lifted (os : Os) (started : os.Started) (H : Type) (enc : TypeId × Value → H) :
    ReturnsInHanded {} Try.checked os 4 .any (Rows.fnExactReadModeTableSpec.pre6 enc Try.prog Try.f4 Rows.fnExactReadModeTableRow.domain false) (Rows.fnExactReadModeTableSpec.post enc Try.prog Try.f4 false true false false) := by
  refine returnsInHanded_of_change (C := Try.checked) law_own started (by kernel_rfl) Try.func4
    (ChangeSpec.witness6 (enc := enc) (C := Try.checked) false ⟨#[], #[.slice none 0 0], []⟩ 8 (by kernel_rfl) (by kernel_rfl) (by kernel_rfl) (by kernel_rfl)) ?_
  intro W base args ds gs before hval0 hW hcnd _
  have hval : ∀ (j : Nat) t v, Try.f4.params[j]? = some t → args[j]? = some v → Value.okWide Try.prog W .any base t v := hval0
  have hW' := hW
  obtain ⟨p, q, hA0, hV, rfl, hfz, hnd⟩ := hW
  have hA : DataW.TrodAll enc Try.prog W 0 (fun _ => true) true Try.f4.params.toList args.toList ds p := hA0
  rw [Try.params4] at hA hval
  obtain ⟨rfl, rfl⟩ := trodVars_none hV
  obtain ⟨v0, vs0, d0, ds0, p0, q0, hargs, rfl, rfl, h0, r0⟩ := trodAll_cons hA
  obtain ⟨rfl, rfl, rfl⟩ := trodAll_nil r0
  obtain rfl : args = #[v0] := by cases args; simp_all
  obtain ⟨a0, l0, k0, rfl⟩ := okWide_slice Try.underlying22 (hval 0 22 v0 rfl rfl)
  obtain ⟨m0, x0, t0⟩ := cell_of rfl h0
  obtain ⟨Axs, xs, cxs, exs, sxs, wxs, lxs⟩ := open_sl (s := 1) Try.underlying22 (by kernel_rfl) eI_len (by omega) (fun _ _ _ h => open_i64 Try.underlying2 h) t0
  rw [exs]
  refine Calls.mono (law_FnExactReadModeTable _ _ _ xs W sxs lxs) fun e W' h => ?_
  cases e <;> first | exact h.elim | skip
  obtain ⟨rfl, hb⟩ := h
  exact ⟨_, rfl, law_post law_laid (by kernel_rfl) rfl rfl Try.underlying4 (by rw [← exs]; exact hW') rfl hb⟩

theorem fnExactReadModeTable_holds : Rows.FnExactReadModeTableSaid :=
  OpenClaim.holds_of_wide 4 Try.f4 rfl rfl rfl rfl rfl rfl rfl ⟨rfl, rfl, rfl, rfl, rfl⟩ rfl rfl rfl rfl rfl (by kernel_rfl) Try.func4 (by kernel_rfl)
    (of_decide_eq_true (by kernel_rfl)) (by unfold Func.isWrapper; rw [if_neg (of_decide_eq_false (by kernel_rfl))]; exact ⟨rfl, rfl⟩)
    (fun os started H enc _ => fnExactReadModeTable_lifted os started H enc)
end Go.Proofs.Ythdeoagoehkcfaa
