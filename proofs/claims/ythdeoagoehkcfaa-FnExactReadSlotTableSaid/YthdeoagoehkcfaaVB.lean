/- The law FnExactReadSlotTable answers true for all arguments that its row admits, and leaves what was there before as it was. No condition. -/
import Derived.Test.YthdeoagoehkcfaaR3
import Derived.Test.YthdeoagoehkcfaaC2
import Derived.Test.YthdeoagoehkcfaaK1
import Derived.Test.YthdeoagoehkcfaaLW
namespace Go.Proofs.Ythdeoagoehkcfaa
open Go.ChangeShapes Go.WideShapes Go.ChangeAt Go.RowKit
set_option linter.unusedVariables false
set_option linter.unusedSimpArgs false
set_option maxRecDepth 20000
theorem law_FnExactReadSlotTable (A : Option Addr) (B c : Nat) (xs : List Int) (w : World) (hs : Sl B w A (xs.flatMap eI)) (hm : xs.length ≤ 9223372036854775807) :
    Calls Try.prog 6 #[.slice A xs.length c] w (Ret fun v w' => v = .bool true ∧ Ext w w') := by
  have Bhs := hs.1
  have X := Ext.refl w
  refine calls_of (args := [.slice A xs.length c]) Try.func6 Try.ntmps6 rfl rfl ?_
  refine c_seqR ?_
  refine ops_cons rfl (ow_assign rfl ?_)
  refine ops_nil ?_
  refine c_seq ?_
  refine c_seqR ?_
  refine ops_cons rfl (ow_move rfl ?_)
  refine ops_cons rfl (ow_len Try.underlying22 rfl ?_)
  refine ops_cons rfl (ow_gtr2 rfl rfl (fun hz0 => ?_) (fun hz0 => ?_))
  · skip
    refine ops_nil ?_
    refine c_true rfl ?_
    refine c_seqR ?_
    refine ops_cons rfl (ow_assign rfl ?_)
    refine ops_nil ?_
    refine c_ret ?_
    refine tq_r ?_
    refine fin_ret1 rfl rfl ?_
    exact ⟨rfl, X⟩
  · skip
    have hl : xs.length ≤ 1048576 := by omega
    refine ops_nil ?_
    refine c_false rfl ?_
    refine c_skip ?_
    refine tq_n ?_
    refine c_seqR ?_
    refine ops_cons rfl (ow_move rfl ?_)
    refine ops_cons rfl (ow_call ent9 rfl (ret_mono (toInt_c _ _ _ _ _ hs hl) ?_))
    rintro _ w2 ⟨A3, c4, rfl, oC0, x1⟩
    replace oC0 := Own.low oC0 X.size
    replace hs := hs.ext x1
    replace X := Ext.trans X x1; clear x1
    refine ops_cons rfl (ow_call ent23 rfl (ret_mono (sReadS_c _ _ _ _ _ (oC0).sl hl oC0.cap) ?_))
    rintro _ w6 ⟨A7, c8, rfl, oS, x5⟩
    replace oS := Own.low oS X.size
    replace hs := hs.ext x5
    replace oC0 := oC0.ext x5
    replace X := Ext.trans X x5; clear x5
    have hlR := readSF_len xs
    have sS := oS.sl
    clear oS oC0
    refine ops_cons rfl (ow_move rfl ?_)
    refine ops_cons rfl (ow_extract rfl rfl ?_)
    refine ops_cons rfl (ow_extract rfl rfl ?_)
    refine ops_cons rfl (ow_extract rfl rfl ?_)
    refine ops_cons rfl (ow_assign rfl ?_)
    refine ops_cons rfl (ow_assign rfl ?_)
    refine ops_cons rfl (ow_assign rfl ?_)
    refine ops_nil ?_
    refine c_seqR ?_
    refine ops_cons rfl (ow_move rfl ?_)
    refine ops_cons rfl (ow_call ent9 rfl (ret_mono (toInt_c _ _ _ _ _ hs hl) ?_))
    rintro _ w10 ⟨A11, c12, rfl, oX, x9⟩
    have LoX := X.size
    replace hs := hs.ext x9
    replace sS := sS.ext x9
    replace X := Ext.trans X x9; clear x9
    refine ops_cons rfl (ow_assign rfl ?_)
    refine ops_nil ?_
    refine c_seqR ?_
    refine ops_cons rfl (ow_move rfl ?_)
    have LS := sS.1
    have UX := fun g hg => (Own.lt oX (g := g) hg).2
    refine ops_cons rfl (ow_call ent24 rfl (ret_mono (iReadS_c _ _ _ _ _ (oX).sl hl oX.cap) ?_))
    rintro _ w14 ⟨A15, c16, rfl, oI, x13⟩
    have LoI := X.size
    replace hs := hs.ext x13
    replace sS := sS.ext x13
    replace oX := oX.ext x13
    replace X := Ext.trans X x13; clear x13
    refine ops_cons rfl (ow_move rfl ?_)
    refine ops_cons rfl (ow_extract rfl rfl ?_)
    refine ops_cons rfl (ow_extract rfl rfl ?_)
    refine ops_cons rfl (ow_extract rfl rfl ?_)
    refine ops_cons rfl (ow_assign rfl ?_)
    refine ops_cons rfl (ow_assign rfl ?_)
    refine ops_cons rfl (ow_assign rfl ?_)
    refine ops_nil ?_
    refine c_seq ?_
    refine c_seqR ?_
    refine ops_cons rfl (ow_move rfl ?_)
    refine ops_cons rfl (ow_move rfl ?_)
    refine ops_cons rfl (ow_call ent25 rfl (ret_mono (eqSlotIS_c _ _ _ _ _ _ _ _ (oI).sl sS hlR) ?_))
    rintro _ w18 ⟨rfl, x17⟩
    replace hs := hs.ext x17
    replace sS := sS.ext x17
    replace oX := oX.ext x17
    replace oI := oI.ext x17
    replace X := Ext.trans X x17; clear x17
    refine ops_cons rfl (ow_not rfl ?_)
    refine ops_cons rfl (ow_move rfl ?_)
    refine ops_want rfl rfl rfl (ow_move rfl ?_)
    refine ops_want rfl rfl rfl (ow_move rfl ?_)
    refine ops_want rfl rfl rfl (ow_neq2 rfl rfl (fun h19 => absurd h19 (by simp)) (fun h19 => ?_))
    refine ops_cons rfl (ow_pick rfl rfl ?_)
    refine ops_cons rfl (ow_move rfl ?_)
    refine ops_want rfl rfl rfl (ow_move rfl ?_)
    refine ops_want rfl rfl rfl (ow_move rfl ?_)
    refine ops_want rfl rfl rfl (ow_neq2 rfl rfl (fun h20 => absurd h20 (by simp)) (fun h20 => ?_))
    refine ops_cons rfl (ow_pick rfl rfl ?_)
    refine ops_nil ?_
    refine c_false rfl ?_
    refine c_skip ?_
    refine tq_n ?_
    refine c_seq ?_
    refine c_seqR ?_
    refine ops_cons rfl (ow_move rfl ?_)
    refine ops_cons rfl (ow_move rfl ?_)
    refine ops_cons rfl (ow_call ent9 rfl (ret_mono (toInt_c _ _ _ _ _ hs hl) ?_))
    rintro _ w22 ⟨A23, c24, rfl, oC1, x21⟩
    replace oC1 := Own.low oC1 X.size
    replace hs := hs.ext x21
    replace sS := sS.ext x21
    replace oX := oX.ext x21
    replace oI := oI.ext x21
    replace X := Ext.trans X x21; clear x21
    refine ops_cons rfl (ow_call ent11 rfl (ret_mono (eqInt_c _ _ _ _ _ _ _ _ (oX).sl (oC1).sl hl) ?_))
    rintro _ w26 ⟨rfl, x25⟩
    replace hs := hs.ext x25
    replace sS := sS.ext x25
    replace oX := oX.ext x25
    replace oI := oI.ext x25
    replace oC1 := oC1.ext x25
    replace X := Ext.trans X x25; clear x25
    clear oC1
    refine ops_cons rfl (ow_not rfl ?_)
    refine ops_nil ?_
    refine c_false rfl ?_
    refine c_skip ?_
    refine tq_n ?_
    refine c_seqR ?_
    refine ops_cons rfl (ow_assign rfl ?_)
    refine ops_nil ?_
    refine c_seqR ?_
    refine ops_cons rfl (ow_move rfl ?_)
    refine ops_cons rfl (ow_move rfl ?_)
    refine ops_cons rfl (ow_call ent15 rfl (ret_mono (markI_c _ _ _ _ _ _ oX hl (by omega)) ?_))
    rintro _ w28 ⟨rfl, oX2, x27⟩
    replace hs := hs.grown x27 (fun g hg => Nat.le_trans Bhs (Nat.le_trans LoX (Own.lt oX hg).1))
    replace sS := sS.grown x27 (fun g hg => (Own.lt oX hg).1)
    replace oI := oI.grown x27 (fun g hg e => absurd (UX g hg) (Nat.not_lt.2 (Own.lt oI e).1))
    replace X := X.grown x27 X.size (fun g hg => Nat.le_trans LoX (Own.lt oX hg).1); clear x27 oX
    refine ops_cons rfl (ow_assign rfl ?_)
    refine ops_nil ?_
    refine c_seq ?_
    refine c_seqR ?_
    refine ops_cons rfl (ow_move rfl ?_)
    refine ops_cons rfl (ow_lss2 rfl rfl (fun h29 => absurd h29 (by omega)) (fun h29 => ?_))
    refine ops_cons rfl (ow_move rfl ?_)
    refine ops_want rfl rfl rfl (ow_move rfl ?_)
    refine ops_want rfl rfl rfl (ow_move rfl ?_)
    refine ops_want rfl rfl rfl (ow_call ent25 rfl (ret_mono (eqSlotIS_c _ _ _ _ _ _ _ _ (oI).sl sS hlR) ?_))
    rintro _ w31 ⟨rfl, x30⟩
    replace hs := hs.ext x30
    replace sS := sS.ext x30
    replace oI := oI.ext x30
    replace oX2 := oX2.ext x30
    replace X := Ext.trans X x30; clear x30
    refine ops_want rfl rfl rfl (ow_not rfl ?_)
    refine ops_cons rfl (ow_pick rfl rfl ?_)
    refine ops_cons rfl (ow_move rfl ?_)
    refine ops_want rfl rfl rfl (ow_move rfl ?_)
    refine ops_want rfl rfl rfl (ow_move rfl ?_)
    refine ops_want rfl rfl rfl (ow_neq2 rfl rfl (fun h32 => absurd h32 (by simp)) (fun h32 => ?_))
    refine ops_cons rfl (ow_pick rfl rfl ?_)
    refine ops_cons rfl (ow_move rfl ?_)
    refine ops_want rfl rfl rfl (ow_move rfl ?_)
    refine ops_want rfl rfl rfl (ow_move rfl ?_)
    refine ops_want rfl rfl rfl (ow_neq2 rfl rfl (fun h33 => absurd h33 (by simp)) (fun h33 => ?_))
    refine ops_cons rfl (ow_pick rfl rfl ?_)
    refine ops_nil ?_
    refine c_false rfl ?_
    refine c_skip ?_
    refine tq_n ?_
    refine c_seqR ?_
    refine ops_cons rfl (ow_assign rfl ?_)
    refine ops_nil ?_
    refine c_seqR ?_
    refine ops_cons rfl (ow_move rfl ?_)
    refine ops_cons rfl (ow_move rfl ?_)
    refine ops_cons rfl (ow_call ent26 rfl (ret_mono (markSlotI_c _ _ _ _ _ _ oI hlR (by omega)) ?_))
    rintro _ w35 ⟨rfl, oI2, x34⟩
    replace hs := hs.grown x34 (fun g hg => Nat.le_trans Bhs (Nat.le_trans LoI (Own.lt oI hg).1))
    replace sS := sS.grown x34 (fun g hg => Nat.le_trans LS (Own.lt oI hg).1)
    replace oX2 := oX2.grown x34 (fun g hg e => absurd (UX g e) (Nat.not_lt.2 (Own.lt oI hg).1))
    replace X := X.grown x34 X.size (fun g hg => Nat.le_trans LoI (Own.lt oI hg).1); clear x34 oI
    refine ops_cons rfl (ow_assign rfl ?_)
    refine ops_nil ?_
    refine c_seqR ?_
    refine ops_cons rfl (ow_assign rfl ?_)
    refine ops_nil ?_
    refine c_seqR ?_
    refine ops_cons rfl (ow_move rfl ?_)
    refine ops_cons rfl (ow_move rfl ?_)
    refine ops_cons rfl (ow_call ent27 rfl (ret_mono (heldSlotI_c _ _ _ _ _ _ (oI2).sl hlR (by omega)) ?_))
    rintro _ w37 ⟨rfl, x36⟩
    replace hs := hs.ext x36
    replace sS := sS.ext x36
    replace oX2 := oX2.ext x36
    replace oI2 := oI2.ext x36
    replace X := Ext.trans X x36; clear x36
    refine ops_cons rfl (ow_assign rfl ?_)
    refine ops_nil ?_
    refine c_seq ?_
    refine c_seqR ?_
    refine ops_cons rfl (ow_move rfl ?_)
    refine ops_cons rfl (ow_lss2 rfl rfl (fun h38 => absurd h38 (by omega)) (fun h38 => ?_))
    refine ops_nil ?_
    refine c_false rfl ?_
    refine c_skip ?_
    refine tq_n ?_
    refine c_seq ?_
    refine c_seqR ?_
    refine ops_cons rfl (ow_move rfl ?_)
    refine ops_cons rfl (ow_move rfl ?_)
    refine ops_cons rfl (ow_neq2 rfl rfl (fun h39 => absurd h39 (by simp)) (fun h39 => ?_))
    refine ops_nil ?_
    refine c_false rfl ?_
    refine c_skip ?_
    refine tq_n ?_
    refine c_seqR ?_
    refine ops_cons rfl (ow_move rfl ?_)
    refine ops_cons rfl (ow_call ent9 rfl (ret_mono (toInt_c _ _ _ _ _ hs hl) ?_))
    rintro _ w41 ⟨A42, c43, rfl, oC2, x40⟩
    replace oC2 := Own.low oC2 X.size
    replace hs := hs.ext x40
    replace sS := sS.ext x40
    replace oX2 := oX2.ext x40
    replace oI2 := oI2.ext x40
    replace X := Ext.trans X x40; clear x40
    refine ops_cons rfl (ow_call ent24 rfl (ret_mono (iReadS_c _ _ _ _ _ (oC2).sl hl oC2.cap) ?_))
    rintro _ w45 ⟨A46, c47, rfl, oJ, x44⟩
    replace oJ := Own.low oJ X.size
    replace hs := hs.ext x44
    replace sS := sS.ext x44
    replace oX2 := oX2.ext x44
    replace oI2 := oI2.ext x44
    replace oC2 := oC2.ext x44
    replace X := Ext.trans X x44; clear x44
    clear oC2
    refine ops_cons rfl (ow_move rfl ?_)
    refine ops_cons rfl (ow_extract rfl rfl ?_)
    refine ops_cons rfl (ow_extract rfl rfl ?_)
    refine ops_cons rfl (ow_extract rfl rfl ?_)
    refine ops_cons rfl (ow_assign rfl ?_)
    refine ops_cons rfl (ow_assign rfl ?_)
    refine ops_cons rfl (ow_assign rfl ?_)
    refine ops_nil ?_
    refine c_seq ?_
    refine c_seqR ?_
    refine ops_cons rfl (ow_move rfl ?_)
    refine ops_cons rfl (ow_move rfl ?_)
    refine ops_cons rfl (ow_call ent25 rfl (ret_mono (eqSlotIS_c _ _ _ _ _ _ _ _ (oJ).sl sS hlR) ?_))
    rintro _ w49 ⟨rfl, x48⟩
    replace hs := hs.ext x48
    replace sS := sS.ext x48
    replace oX2 := oX2.ext x48
    replace oI2 := oI2.ext x48
    replace oJ := oJ.ext x48
    replace X := Ext.trans X x48; clear x48
    refine ops_cons rfl (ow_not rfl ?_)
    refine ops_cons rfl (ow_move rfl ?_)
    refine ops_want rfl rfl rfl (ow_move rfl ?_)
    refine ops_want rfl rfl rfl (ow_move rfl ?_)
    refine ops_want rfl rfl rfl (ow_neq2 rfl rfl (fun h50 => absurd h50 (by simp)) (fun h50 => ?_))
    refine ops_cons rfl (ow_pick rfl rfl ?_)
    refine ops_cons rfl (ow_move rfl ?_)
    refine ops_want rfl rfl rfl (ow_move rfl ?_)
    refine ops_want rfl rfl rfl (ow_move rfl ?_)
    refine ops_want rfl rfl rfl (ow_neq2 rfl rfl (fun h51 => absurd h51 (by simp)) (fun h51 => ?_))
    refine ops_cons rfl (ow_pick rfl rfl ?_)
    refine ops_nil ?_
    refine c_false rfl ?_
    refine c_skip ?_
    refine tq_n ?_
    refine c_seqR ?_
    refine ops_cons rfl (ow_assign rfl ?_)
    refine ops_nil ?_
    refine c_seqR ?_
    refine ops_cons rfl (ow_move rfl ?_)
    refine ops_cons rfl (ow_move rfl ?_)
    refine ops_cons rfl (ow_call ent27 rfl (ret_mono (heldSlotI_c _ _ _ _ _ _ (oI2).sl hlR (by omega)) ?_))
    rintro _ w53 ⟨rfl, x52⟩
    replace hs := hs.ext x52
    replace sS := sS.ext x52
    replace oX2 := oX2.ext x52
    replace oI2 := oI2.ext x52
    replace oJ := oJ.ext x52
    replace X := Ext.trans X x52; clear x52
    refine ops_cons rfl (ow_assign rfl ?_)
    refine ops_nil ?_
    refine c_seq ?_
    refine c_seqR ?_
    refine ops_cons rfl (ow_move rfl ?_)
    refine ops_cons rfl (ow_lss2 rfl rfl (fun h54 => absurd h54 (by omega)) (fun h54 => ?_))
    refine ops_nil ?_
    refine c_false rfl ?_
    refine c_skip ?_
    refine tq_n ?_
    refine c_seq ?_
    refine c_seqR ?_
    refine ops_cons rfl (ow_move rfl ?_)
    refine ops_cons rfl (ow_move rfl ?_)
    refine ops_cons rfl (ow_neq2 rfl rfl (fun h55 => absurd h55 (by simp)) (fun h55 => ?_))
    refine ops_nil ?_
    refine c_false rfl ?_
    refine c_skip ?_
    refine tq_n ?_
    refine c_seqR ?_
    refine ops_cons rfl (ow_assign rfl ?_)
    refine ops_nil ?_
    refine c_ret ?_
    refine fin_ret1 rfl rfl ?_
    exact ⟨rfl, X⟩
set_option maxRecDepth 100000

theorem fnExactReadSlotTable_lifted (os : Os) (started : os.Started) (H : Type) (enc : TypeId × Value → H) :
    ReturnsInHanded {} Try.checked os 6 .any (Rows.fnExactReadSlotTableSpec.pre6 enc Try.prog Try.f6 Rows.fnExactReadSlotTableRow.domain false) (Rows.fnExactReadSlotTableSpec.post enc Try.prog Try.f6 false true false false) := by
  refine returnsInHanded_of_change (C := Try.checked) law_own started (by kernel_rfl) Try.func6
    (ChangeSpec.witness6 (enc := enc) (C := Try.checked) false ⟨#[], #[.slice none 0 0], []⟩ 8 (by kernel_rfl) (by kernel_rfl) (by kernel_rfl) (by kernel_rfl)) ?_
  intro W base args ds gs before hval0 hW hcnd _
  have hval : ∀ (j : Nat) t v, Try.f6.params[j]? = some t → args[j]? = some v → Value.okWide Try.prog W .any base t v := hval0
  have hW' := hW
  obtain ⟨p, q, hA0, hV, rfl, hfz, hnd⟩ := hW
  have hA : DataW.TrodAll enc Try.prog W 0 (fun _ => true) true Try.f6.params.toList args.toList ds p := hA0
  rw [Try.params6] at hA hval
  obtain ⟨rfl, rfl⟩ := trodVars_none hV
  obtain ⟨v0, vs0, d0, ds0, p0, q0, hargs, rfl, rfl, h0, r0⟩ := trodAll_cons hA
  obtain ⟨rfl, rfl, rfl⟩ := trodAll_nil r0
  obtain rfl : args = #[v0] := by cases args; simp_all
  obtain ⟨a0, l0, k0, rfl⟩ := okWide_slice Try.underlying22 (hval 0 22 v0 rfl rfl)
  obtain ⟨m0, x0, t0⟩ := cell_of rfl h0
  obtain ⟨Axs, xs, cxs, exs, sxs, wxs, lxs⟩ := open_sl (s := 1) Try.underlying22 (by kernel_rfl) eI_len (by omega) (fun _ _ _ h => open_i64 Try.underlying2 h) t0
  rw [exs]
  refine Calls.mono (law_FnExactReadSlotTable _ _ _ xs W sxs lxs) fun e W' h => ?_
  cases e <;> first | exact h.elim | skip
  obtain ⟨rfl, hb⟩ := h
  exact ⟨_, rfl, law_post law_laid (by kernel_rfl) rfl rfl Try.underlying4 (by rw [← exs]; exact hW') rfl hb⟩

theorem fnExactReadSlotTable_holds : Rows.FnExactReadSlotTableSaid :=
  OpenClaim.holds_of_wide 6 Try.f6 rfl rfl rfl rfl rfl rfl rfl ⟨rfl, rfl, rfl, rfl, rfl⟩ rfl rfl rfl rfl rfl (by kernel_rfl) Try.func6 (by kernel_rfl)
    (of_decide_eq_true (by kernel_rfl)) (by unfold Func.isWrapper; rw [if_neg (of_decide_eq_false (by kernel_rfl))]; exact ⟨rfl, rfl⟩)
    (fun os started H enc _ => fnExactReadSlotTable_lifted os started H enc)
end Go.Proofs.Ythdeoagoehkcfaa
