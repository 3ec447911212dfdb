/- The law FnExactImageText answers true for all arguments that its row admits, and leaves what was there before as it was. No condition. -/
import Derived.Test.YtdikgcccdcgjdaaW2
import Derived.Test.YtdikgcccdcgjdaaFlowR
namespace Go.Proofs.Ytdikgcccdcgjdaa
open Go.ChangeShapes Go.WideShapes Go.ChangeAt Go.RowKit
set_option linter.unusedVariables false
set_option linter.unusedSimpArgs false

theorem law_own : ownKnob Try.prog.godebug = none := by kernel_rfl
theorem law_laid : laidOutB Try.prog = true := by kernel_rfl
theorem law_FnExactImageText (A : Option Addr) (B c : Nat) (xs : List Int) (w : World) (hs : Sl B w A (xs.flatMap eI)) (hm : xs.length ≤ 9223372036854775807) :
    Calls Try.prog 4 #[.slice A xs.length c] w (Ret fun v w' => v = .bool true ∧ Ext w w') := by
  have Bhs := hs.1
  have X := Ext.refl w
  refine calls_of (args := [.slice A xs.length c]) Try.func4 Try.ntmps4 rfl rfl ?_
  refine c_seqR ?_
  refine ops_cons rfl (ow_assign rfl ?_)
  refine ops_nil ?_
  refine c_seq ?_
  refine c_seqR ?_
  refine ops_cons rfl (ow_move rfl ?_)
  refine ops_cons rfl (ow_len Try.underlying32 rfl ?_)
  refine ops_cons rfl (ow_gtr2 rfl rfl (fun hz => ?_) (fun hz => ?_))
  · skip
    refine ops_nil ?_
    refine c_true rfl ?_
    refine c_seqR ?_
    refine ops_cons rfl (ow_assign rfl ?_)
    refine ops_nil ?_
    refine c_ret ?_
    refine tq_r ?_
    refine fin_ret1 rfl rfl ?_
    first | exact ⟨rfl, X⟩ | exact absurd rfl ‹_› | simp at *
  · skip
    have hl : xs.length ≤ 1048576 := by omega
    refine ops_nil ?_
    refine c_false rfl ?_
    refine c_skip ?_
    refine tq_n ?_
    refine c_seqR ?_
    refine ops_cons rfl (ow_move rfl ?_)
    refine ops_cons rfl (ow_call ent13 rfl (ret_mono (toInt_c _ _ _ _ _ hs hl) ?_))
    rintro _ w2 ⟨A4, c5, rfl, o3, x1⟩
    replace o3 := Own.low o3 X.size
    replace hs := hs.ext x1
    replace X := Ext.trans X x1; clear x1
    refine ops_cons rfl (ow_call ent12 rfl (ret_mono (sImageT_c _ _ _ _ _ (o3).sl hl) ?_))
    rintro _ w7 ⟨rfl, x6⟩
    replace hs := hs.ext x6
    replace o3 := o3.ext x6
    replace X := Ext.trans X x6; clear x6
    refine ops_cons rfl (ow_assign rfl ?_)
    refine ops_nil ?_
    refine c_seqR ?_
    refine ops_cons rfl (ow_move rfl ?_)
    refine ops_cons rfl (ow_call ent13 rfl (ret_mono (toInt_c _ _ _ _ _ hs hl) ?_))
    rintro _ w9 ⟨A11, c12, rfl, o10, x8⟩
    replace o10 := Own.low o10 X.size
    replace hs := hs.ext x8
    replace o3 := o3.ext x8
    replace X := Ext.trans X x8; clear x8
    refine ops_cons rfl (ow_assign rfl ?_)
    refine ops_nil ?_
    refine c_seqR ?_
    refine ops_cons rfl (ow_move rfl ?_)
    refine ops_cons rfl (ow_call ent14 rfl (ret_mono (iImageT_c _ _ _ _ _ (o10).sl hl) ?_))
    rintro _ w14 ⟨rfl, x13⟩
    replace hs := hs.ext x13
    replace o3 := o3.ext x13
    replace o10 := o10.ext x13
    replace X := Ext.trans X x13; clear x13
    refine ops_cons rfl (ow_assign rfl ?_)
    refine ops_nil ?_
    refine c_seq ?_
    refine c_seqR ?_
    refine ops_cons rfl (ow_move rfl ?_)
    refine ops_cons rfl (ow_move rfl ?_)
    refine ops_cons rfl (ow_neqS2 rfl rfl (fun h15 => ?_) (fun h15 => ?_))
    · skip
      refine ops_nil ?_
      refine c_true rfl ?_
      refine c_seqR ?_
      refine ops_cons rfl (ow_assign rfl ?_)
      refine ops_nil ?_
      refine c_ret ?_
      refine tq_r ?_
      refine fin_ret1 rfl rfl ?_
      first | exact ⟨rfl, X⟩ | exact absurd rfl ‹_› | simp at *
    · skip
      refine ops_nil ?_
      refine c_false rfl ?_
      refine c_skip ?_
      refine tq_n ?_
      refine c_seq ?_
      refine c_seqR ?_
      refine ops_cons rfl (ow_move rfl ?_)
      refine ops_cons rfl (ow_move rfl ?_)
      refine ops_cons rfl (ow_call ent13 rfl (ret_mono (toInt_c _ _ _ _ _ hs hl) ?_))
      rintro _ w17 ⟨A19, c20, rfl, o18, x16⟩
      replace o18 := Own.low o18 X.size
      replace hs := hs.ext x16
      replace o3 := o3.ext x16
      replace o10 := o10.ext x16
      replace X := Ext.trans X x16; clear x16
      refine ops_cons rfl (ow_call ent15 rfl (ret_mono (eqInt_c _ _ _ _ _ _ _ _ (o10).sl (o18).sl hl) ?_))
      rintro _ w22 ⟨rfl, x21⟩
      replace hs := hs.ext x21
      replace o3 := o3.ext x21
      replace o10 := o10.ext x21
      replace o18 := o18.ext x21
      replace X := Ext.trans X x21; clear x21
      refine ops_cons rfl (ow_not rfl ?_)
      refine ops_nil ?_
      refine c_false rfl ?_
      refine c_skip ?_
      refine tq_n ?_
      refine c_seqR ?_
      refine ops_cons rfl (ow_assign rfl ?_)
      refine ops_nil ?_
      refine c_ret ?_
      refine fin_ret1 rfl rfl ?_
      first | exact ⟨rfl, X⟩ | exact absurd rfl ‹_› | simp at *
set_option maxRecDepth 100000

theorem fnExactImageText_lifted (os : Os) (started : os.Started) (H : Type) (enc : TypeId × Value → H) :
    ReturnsInHanded {} Try.checked os 4 .any (Rows.fnExactImageTextSpec.pre6 enc Try.prog Try.f4 Rows.fnExactImageTextRow.domain false) (Rows.fnExactImageTextSpec.post enc Try.prog Try.f4 false true false false) := by
  refine returnsInHanded_of_change (C := Try.checked) law_own started (by kernel_rfl) Try.func4
    (ChangeSpec.witness6 (enc := enc) (C := Try.checked) false ⟨#[], #[.slice none 0 0], []⟩ 8 (by kernel_rfl) (by kernel_rfl) (by kernel_rfl) (by kernel_rfl)) ?_
  intro W base args ds gs before hval0 hW hcnd _
  have hval : ∀ (j : Nat) t v, Try.f4.params[j]? = some t → args[j]? = some v → Value.okWide Try.prog W .any base t v := hval0
  have hW' := hW
  obtain ⟨p, q, hA0, hV, rfl, hfz, hnd⟩ := hW
  have hA : DataW.TrodAll enc Try.prog W 0 (fun _ => true) true Try.f4.params.toList args.toList ds p := hA0
  rw [Try.params4] at hA hval
  obtain ⟨rfl, rfl⟩ := trodVars_none hV
  obtain ⟨v0, vs0, d0, ds0, p0, q0, hargs, rfl, rfl, h0, r0⟩ := trodAll_cons hA
  obtain ⟨rfl, rfl, rfl⟩ := trodAll_nil r0
  obtain rfl : args = #[v0] := by cases args; simp_all
  obtain ⟨a0, l0, k0, rfl⟩ := okWide_slice Try.underlying32 (hval 0 32 v0 rfl rfl)
  obtain ⟨m0, x0, t0⟩ := cell_of rfl h0
  obtain ⟨Axs, xs, cxs, exs, sxs, wxs, lxs⟩ := open_sl (s := 1) Try.underlying32 (by kernel_rfl) eI_len (by omega) (fun _ _ _ h => open_i64 Try.underlying2 h) t0
  rw [exs]
  refine Calls.mono (law_FnExactImageText _ _ _ _ W sxs lxs) fun e W' h => ?_
  cases e <;> first | exact h.elim | skip
  obtain ⟨rfl, hb⟩ := h
  exact ⟨_, rfl, law_post law_laid (by kernel_rfl) rfl rfl Try.underlying4 (by rw [← exs]; exact hW') rfl hb⟩

theorem fnExactImageText_holds : Rows.FnExactImageTextSaid :=
  OpenClaim.holds_of_wide 4 Try.f4 rfl rfl rfl rfl rfl rfl rfl ⟨rfl, rfl, rfl, rfl, rfl⟩ rfl rfl rfl rfl rfl (by kernel_rfl) Try.func4 (by kernel_rfl)
    (of_decide_eq_true (by kernel_rfl)) (by unfold Func.isWrapper; rw [if_neg (of_decide_eq_false (by kernel_rfl))]; exact ⟨rfl, rfl⟩)
    (fun os started H enc _ => fnExactImageText_lifted os started H enc)
end Go.Proofs.Ytdikgcccdcgjdaa
