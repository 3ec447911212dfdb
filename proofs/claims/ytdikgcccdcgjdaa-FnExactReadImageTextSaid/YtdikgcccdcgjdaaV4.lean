/- The law FnExactReadImageText answers true for all arguments that its row admits, and leaves what was there before as it was. No condition. -/
import Derived.Test.YtdikgcccdcgjdaaM2
import Derived.Test.YtdikgcccdcgjdaaW2
import Derived.Test.YtdikgcccdcgjdaaFlowR
namespace Go.Proofs.Ytdikgcccdcgjdaa
open Go.ChangeShapes Go.WideShapes Go.ChangeAt Go.RowKit
set_option linter.unusedVariables false
set_option linter.unusedSimpArgs false

theorem law_own : ownKnob Try.prog.godebug = none := by kernel_rfl
theorem law_laid : laidOutB Try.prog = true := by kernel_rfl
theorem law_FnExactReadImageText (s : ByteArray) (w : World)  :
    Calls Try.prog 6 #[.string s] w (Ret fun v w' => v = .bool true ∧ Ext w w') := by
  have X := Ext.refl w
  refine calls_of (args := [.string s]) Try.func6 Try.ntmps6 rfl rfl ?_
  refine c_seqR ?_
  refine ops_cons rfl (ow_assign rfl ?_)
  refine ops_nil ?_
  refine c_seq ?_
  refine c_seqR ?_
  refine ops_cons rfl (ow_move rfl ?_)
  refine ops_cons rfl (ow_lenS Try.underlying9 rfl ?_)
  refine ops_cons rfl (ow_gtr2 rfl rfl (fun hz0 => ?_) (fun hz0 => ?_))
  · skip
    refine ops_nil ?_
    refine c_true rfl ?_
    refine c_seqR ?_
    refine ops_cons rfl (ow_assign rfl ?_)
    refine ops_nil ?_
    refine c_ret ?_
    refine tq_r ?_
    refine fin_ret1 rfl rfl ?_
    first | exact ⟨rfl, X⟩ | exact absurd rfl ‹_› | simp at *
  · skip
    have hz : s.size ≤ 1048576 := by omega
    refine ops_nil ?_
    refine c_false rfl ?_
    refine c_skip ?_
    refine tq_n ?_
    refine c_seqR ?_
    refine ops_cons rfl (ow_move rfl ?_)
    refine ops_cons rfl (ow_call ent21 rfl (ret_mono (sRd_c _ _ hz) ?_))
    rintro _ w2 ⟨AS, cS, rfl, oS, x1⟩
    replace oS := Own.low oS X.size
    replace X := Ext.trans X x1; clear x1
    have hl := rd_len s hz
    have sS := oS.sl
    clear oS
    refine ops_cons rfl (ow_move rfl ?_)
    refine ops_cons rfl (ow_extract rfl rfl ?_)
    refine ops_cons rfl (ow_extract rfl rfl ?_)
    refine ops_cons rfl (ow_assign rfl ?_)
    refine ops_cons rfl (ow_assign rfl ?_)
    refine ops_nil ?_
    refine c_seqR ?_
    refine ops_cons rfl (ow_move rfl ?_)
    refine ops_cons rfl (ow_call ent22 rfl (ret_mono (iRd_c _ _ hz) ?_))
    rintro _ w4 ⟨A5, c6, rfl, oI, x3⟩
    have LoI := X.size
    have koI := Sl.nil_ x3.size none
    replace sS := sS.ext x3
    replace X := Ext.trans X x3; clear x3
    refine ops_cons rfl (ow_move rfl ?_)
    refine ops_cons rfl (ow_extract rfl rfl ?_)
    refine ops_cons rfl (ow_extract rfl rfl ?_)
    refine ops_cons rfl (ow_assign rfl ?_)
    refine ops_cons rfl (ow_assign rfl ?_)
    refine ops_nil ?_
    refine c_seq ?_
    refine c_seqR ?_
    refine ops_cons rfl (ow_move rfl ?_)
    refine ops_cons rfl (ow_move rfl ?_)
    refine ops_cons rfl (ow_call ent15 rfl (ret_mono (eqInt_c _ _ _ _ _ _ _ _ (oI).sl sS hl) ?_))
    rintro _ w8 ⟨rfl, x7⟩
    replace sS := sS.ext x7
    replace oI := oI.ext x7
    replace koI := koI.ext x7
    replace X := Ext.trans X x7; clear x7
    refine ops_cons rfl (ow_not rfl ?_)
    refine ops_cons rfl (ow_move rfl ?_)
    refine ops_want rfl rfl rfl (ow_move rfl ?_)
    refine ops_want rfl rfl rfl (ow_move rfl ?_)
    refine ops_want rfl rfl rfl (ow_neqB Try.underlying4 rfl rfl ?_)
    refine ops_cons rfl (ow_pick rfl rfl ?_)
    refine ops_nil ?_
    refine c_split rfl (fun h9 => ?_) (fun h9 => ?_)
    · skip
      refine c_seqR ?_
      refine ops_cons rfl (ow_assign rfl ?_)
      refine ops_nil ?_
      refine c_ret ?_
      refine tq_r ?_
      refine fin_ret1 rfl rfl ?_
      first | exact ⟨rfl, X⟩ | exact absurd rfl ‹_› | simp at *
    · skip
      refine c_skip ?_
      refine tq_n ?_
      refine c_seqR ?_
      refine ops_cons rfl (ow_assign rfl ?_)
      refine ops_nil ?_
      refine c_seqR ?_
      refine ops_cons rfl (ow_move rfl ?_)
      refine ops_cons rfl (ow_move rfl ?_)
      refine ops_cons rfl (ow_call ent23 rfl (ret_mono (markI_c _ _ _ _ _ _ oI koI.1 hl (by omega)) ?_))
      rintro _ w11 ⟨rfl, oM, x10⟩
      replace sS := sS.below (Below.mono x10 (Nat.le_refl _))
      replace koI := koI.below (Below.mono x10 (Nat.le_refl _))
      replace X := Below.trans X (Below.mono x10 LoI); clear x10 oI
      refine ops_cons rfl (ow_assign rfl ?_)
      refine ops_nil ?_
      refine c_seqR ?_
      refine ops_cons rfl (ow_assign rfl ?_)
      refine ops_nil ?_
      refine c_seqR ?_
      refine ops_cons rfl (ow_move rfl ?_)
      refine ops_cons rfl (ow_move rfl ?_)
      refine ops_cons rfl (ow_call ent24 rfl (ret_mono (heldI_c _ _ _ _ _ _ (oM).sl hl (by omega)) ?_))
      rintro _ w13 ⟨rfl, x12⟩
      replace sS := sS.ext x12
      replace koI := koI.ext x12
      replace oM := oM.ext x12
      replace X := Ext.trans X x12; clear x12
      refine ops_cons rfl (ow_assign rfl ?_)
      refine ops_nil ?_
      refine c_seq ?_
      refine c_seqR ?_
      refine ops_cons rfl (ow_move rfl ?_)
      refine ops_cons rfl (ow_lss2 rfl rfl (fun h14 => absurd h14 (by omega)) (fun h14 => ?_))
      refine ops_nil ?_
      refine c_false rfl ?_
      refine c_skip ?_
      refine tq_n ?_
      refine c_seq ?_
      refine c_seqR ?_
      refine ops_cons rfl (ow_move rfl ?_)
      refine ops_cons rfl (ow_move rfl ?_)
      refine ops_cons rfl (ow_neq2 rfl rfl (fun h15 => absurd h15 (by simp)) (fun h15 => ?_))
      refine ops_nil ?_
      refine c_false rfl ?_
      refine c_skip ?_
      refine tq_n ?_
      refine c_seqR ?_
      refine ops_cons rfl (ow_move rfl ?_)
      refine ops_cons rfl (ow_call ent22 rfl (ret_mono (iRd_c _ _ hz) ?_))
      rintro _ w17 ⟨A18, c19, rfl, oJ, x16⟩
      replace oJ := Own.low oJ X.size
      replace sS := sS.ext x16
      replace koI := koI.ext x16
      replace oM := oM.ext x16
      replace X := Ext.trans X x16; clear x16
      refine ops_cons rfl (ow_move rfl ?_)
      refine ops_cons rfl (ow_extract rfl rfl ?_)
      refine ops_cons rfl (ow_extract rfl rfl ?_)
      refine ops_cons rfl (ow_assign rfl ?_)
      refine ops_cons rfl (ow_assign rfl ?_)
      refine ops_nil ?_
      refine c_seq ?_
      refine c_seqR ?_
      refine ops_cons rfl (ow_move rfl ?_)
      refine ops_cons rfl (ow_move rfl ?_)
      refine ops_cons rfl (ow_call ent15 rfl (ret_mono (eqInt_c _ _ _ _ _ _ _ _ (oJ).sl sS hl) ?_))
      rintro _ w21 ⟨rfl, x20⟩
      replace sS := sS.ext x20
      replace koI := koI.ext x20
      replace oM := oM.ext x20
      replace oJ := oJ.ext x20
      replace X := Ext.trans X x20; clear x20
      refine ops_cons rfl (ow_not rfl ?_)
      refine ops_cons rfl (ow_move rfl ?_)
      refine ops_want rfl rfl rfl (ow_move rfl ?_)
      refine ops_want rfl rfl rfl (ow_move rfl ?_)
      refine ops_want rfl rfl rfl (ow_neqB Try.underlying4 rfl rfl ?_)
      refine ops_cons rfl (ow_pick rfl rfl ?_)
      refine ops_nil ?_
      refine c_split rfl (fun h22 => ?_) (fun h22 => ?_)
      · skip
        refine c_seqR ?_
        refine ops_cons rfl (ow_assign rfl ?_)
        refine ops_nil ?_
        refine c_ret ?_
        refine tq_r ?_
        refine fin_ret1 rfl rfl ?_
        first | exact ⟨rfl, X⟩ | exact absurd rfl ‹_› | simp at *
      · skip
        refine c_skip ?_
        refine tq_n ?_
        refine c_seqR ?_
        refine ops_cons rfl (ow_assign rfl ?_)
        refine ops_nil ?_
        refine c_seqR ?_
        refine ops_cons rfl (ow_move rfl ?_)
        refine ops_cons rfl (ow_move rfl ?_)
        refine ops_cons rfl (ow_call ent24 rfl (ret_mono (heldI_c _ _ _ _ _ _ (oM).sl hl (by omega)) ?_))
        rintro _ w24 ⟨rfl, x23⟩
        replace sS := sS.ext x23
        replace koI := koI.ext x23
        replace oM := oM.ext x23
        replace oJ := oJ.ext x23
        replace X := Ext.trans X x23; clear x23
        refine ops_cons rfl (ow_assign rfl ?_)
        refine ops_nil ?_
        refine c_seq ?_
        refine c_seqR ?_
        refine ops_cons rfl (ow_move rfl ?_)
        refine ops_cons rfl (ow_lss2 rfl rfl (fun h25 => absurd h25 (by omega)) (fun h25 => ?_))
        refine ops_nil ?_
        refine c_false rfl ?_
        refine c_skip ?_
        refine tq_n ?_
        refine c_seq ?_
        refine c_seqR ?_
        refine ops_cons rfl (ow_move rfl ?_)
        refine ops_cons rfl (ow_move rfl ?_)
        refine ops_cons rfl (ow_neq2 rfl rfl (fun h26 => absurd h26 (by simp)) (fun h26 => ?_))
        refine ops_nil ?_
        refine c_false rfl ?_
        refine c_skip ?_
        refine tq_n ?_
        refine c_seqR ?_
        refine ops_cons rfl (ow_assign rfl ?_)
        refine ops_nil ?_
        refine c_ret ?_
        refine fin_ret1 rfl rfl ?_
        first | exact ⟨rfl, X⟩ | exact absurd rfl ‹_› | simp at *
set_option maxRecDepth 100000

theorem fnExactReadImageText_lifted (os : Os) (started : os.Started) (H : Type) (enc : TypeId × Value → H) :
    ReturnsInHanded {} Try.checked os 6 .any (Rows.fnExactReadImageTextSpec.pre6 enc Try.prog Try.f6 Rows.fnExactReadImageTextRow.domain false) (Rows.fnExactReadImageTextSpec.post enc Try.prog Try.f6 false true false false) := by
  refine returnsInHanded_of_change (C := Try.checked) law_own started (by kernel_rfl) Try.func6
    (ChangeSpec.witness6 (enc := enc) (C := Try.checked) false ⟨#[], #[.string ByteArray.empty], []⟩ 8 (by kernel_rfl) (by kernel_rfl) (by kernel_rfl) (by kernel_rfl)) ?_
  intro W base args ds gs before hval0 hW hcnd _
  have hval : ∀ (j : Nat) t v, Try.f6.params[j]? = some t → args[j]? = some v → Value.okWide Try.prog W .any base t v := hval0
  have hW' := hW
  obtain ⟨p, q, hA0, hV, rfl, hfz, hnd⟩ := hW
  have hA : DataW.TrodAll enc Try.prog W 0 (fun _ => true) true Try.f6.params.toList args.toList ds p := hA0
  rw [Try.params6] at hA hval
  obtain ⟨rfl, rfl⟩ := trodVars_none hV
  obtain ⟨v0, vs0, d0, ds0, p0, q0, hargs, rfl, rfl, h0, r0⟩ := trodAll_cons hA
  obtain ⟨rfl, rfl, rfl⟩ := trodAll_nil r0
  obtain rfl : args = #[v0] := by cases args; simp_all
  obtain ⟨s, rfl⟩ := okWide_string Try.underlying9 (hval 0 9 v0 rfl rfl)
  obtain ⟨m0, x0, t0⟩ := cell_of rfl h0
  obtain ⟨ys, es, ws⟩ := open_st Try.underlying9 t0
  obtain rfl : s = ys := by simpa using es
  refine Calls.mono (law_FnExactReadImageText s W) fun e W' h => ?_
  cases e <;> first | exact h.elim | skip
  obtain ⟨rfl, hb⟩ := h
  exact ⟨_, rfl, law_post law_laid (by kernel_rfl) rfl rfl Try.underlying4 (hW') rfl hb⟩

theorem fnExactReadImageText_holds : Rows.FnExactReadImageTextSaid :=
  OpenClaim.holds_of_wide 6 Try.f6 rfl rfl rfl rfl rfl rfl rfl ⟨rfl, rfl, rfl, rfl, rfl⟩ rfl rfl rfl rfl rfl (by kernel_rfl) Try.func6 (by kernel_rfl)
    (of_decide_eq_true (by kernel_rfl)) (by unfold Func.isWrapper; rw [if_neg (of_decide_eq_false (by kernel_rfl))]; exact ⟨rfl, rfl⟩)
    (fun os started H enc _ => fnExactReadImageText_lifted os started H enc)
end Go.Proofs.Ytdikgcccdcgjdaa
