/- The law FnExactIdOfImage answers true for all arguments that its row admits, and leaves what was there before as it was. No condition. -/
import Derived.Test.YtdoibplhbdkapaaCJP5
import Derived.Test.YtdoibplhbdkapaaCJP6
/- The law FnExactIdOfImage answers true for all arguments that its row admits, and leaves what was there before as it was. No condition. -/
namespace Go.Proofs.Ytdoibplhbdkapaa
open Go.ChangeShapes Go.WideShapes Go.ChangeAt Go.RowKit
set_option linter.unusedVariables false
set_option linter.unusedSimpArgs false
set_option maxRecDepth 20000
theorem law_FnExactIdOfImage (A : Option Addr) (B c : Nat) (xs : List Int) (w : World) (hs : Sl B w A (xs.flatMap eI)) (hm : xs.length ≤ 9223372036854775807) :
    Calls Try.prog 3 #[.slice A xs.length c] w (Ret fun v w' => v = .bool true ∧ Ext w w') := by
  have Bhs := hs.1
  have X := Ext.refl w
  refine calls_of (args := [.slice A xs.length c]) Try.func3 Try.ntmps3 rfl rfl ?_
  refine c_seqR ?_
  refine ops_cons rfl (ow_assign rfl ?_)
  refine ops_nil ?_
  refine c_seq ?_
  refine c_seqR ?_
  refine ops_cons rfl (ow_move rfl ?_)
  refine ops_cons rfl (ow_len Try.underlying22 rfl ?_)
  refine ops_cons rfl (ow_gtr2 rfl rfl (fun hz0 => ?_) (fun hz0 => ?_))
  refine ops_nil ?_
  refine c_true rfl ?_
  refine c_seqR ?_
  refine ops_cons rfl (ow_assign rfl ?_)
  refine ops_nil ?_
  refine c_ret ?_
  refine tq_r ?_
  refine fin_ret1 rfl rfl ?_
  exact ⟨rfl, X⟩
  have hl : xs.length ≤ 1048576 := by omega
  refine ops_nil ?_
  refine c_false rfl ?_
  refine c_skip ?_
  refine tq_n ?_
  refine c_seqR ?_
  refine ops_cons rfl (ow_move rfl ?_)
  refine ops_cons rfl (ow_call ent8 rfl (ret_mono (toInt_c _ _ _ _ _ hs hl) ?_))
  rintro _ w2 ⟨A3, c4, rfl, oC0, x1⟩
  replace oC0 := Own.low oC0 X.size
  replace hs := hs.ext x1
  replace X := Ext.trans X x1; clear x1
  refine ops_cons rfl (ow_call ent7 rfl (ret_mono (sIdIm_c _ _ _ _ _ (oC0).sl hl oC0.cap) ?_))
  rintro _ w6 ⟨rfl, x5⟩
  replace hs := hs.ext x5
  replace oC0 := oC0.ext x5
  replace X := Ext.trans X x5; clear x5
  refine ops_cons rfl (ow_move rfl ?_)
  refine ops_cons rfl (ow_extract rfl rfl ?_)
  refine ops_cons rfl (ow_extract rfl rfl ?_)
  refine ops_cons rfl (ow_assign rfl ?_)
  refine ops_cons rfl (ow_assign rfl ?_)
  refine ops_nil ?_
  refine c_seqR ?_
  refine ops_cons rfl (ow_move rfl ?_)
  refine ops_cons rfl (ow_call ent8 rfl (ret_mono (toInt_c _ _ _ _ _ hs hl) ?_))
  rintro _ w9 ⟨A10, c11, rfl, oC1, x7⟩
  replace oC1 := Own.low oC1 X.size
  replace hs := hs.ext x7
  replace oC0 := oC0.ext x7
  replace X := Ext.trans X x7; clear x7
  refine ops_cons rfl (ow_assign rfl ?_)
  refine ops_nil ?_
  refine c_seqR ?_
  refine ops_cons rfl (ow_move rfl ?_)
  refine ops_cons rfl (ow_call ent9 rfl (ret_mono (iIdIm_c _ _ _ _ _ (oC1).sl hl oC1.cap) ?_))
  rintro _ w13 ⟨rfl, x12⟩
  replace hs := hs.ext x12
  replace oC0 := oC0.ext x12
  replace oC1 := oC1.ext x12
  replace X := Ext.trans X x12; clear x12
  refine ops_cons rfl (ow_move rfl ?_)
  refine ops_cons rfl (ow_extract rfl rfl ?_)
  refine ops_cons rfl (ow_extract rfl rfl ?_)
  refine ops_cons rfl (ow_assign rfl ?_)
  refine ops_cons rfl (ow_assign rfl ?_)
  refine ops_nil ?_
  refine c_seq ?_
  refine c_seqR ?_
  refine ops_cons rfl (ow_move rfl ?_)
  refine ops_cons rfl (ow_move rfl ?_)
  refine ops_cons rfl (ow_neq2 rfl rfl (fun h14 => absurd h14 (by simp)) (fun h14 => ?_))
  refine ops_cons rfl (ow_move rfl ?_)
  refine ops_want rfl rfl rfl (ow_move rfl ?_)
  refine ops_want rfl rfl rfl (ow_move rfl ?_)
  refine ops_want rfl rfl rfl (ow_neq2 rfl rfl (fun h15 => absurd h15 (by simp)) (fun h15 => ?_))
  refine ops_cons rfl (ow_pick rfl rfl ?_)
  refine ops_nil ?_
  refine c_false rfl ?_
  refine c_skip ?_
  refine tq_n ?_
  refine c_seq ?_
  refine c_seqR ?_
  refine ops_cons rfl (ow_move rfl ?_)
  refine ops_cons rfl (ow_move rfl ?_)
  refine ops_cons rfl (ow_call ent8 rfl (ret_mono (toInt_c _ _ _ _ _ hs hl) ?_))
  rintro _ w17 ⟨A18, c19, rfl, oC2, x16⟩
  replace oC2 := Own.low oC2 X.size
  replace hs := hs.ext x16
  replace oC0 := oC0.ext x16
  replace oC1 := oC1.ext x16
  replace X := Ext.trans X x16; clear x16
  refine ops_cons rfl (ow_call ent10 rfl (ret_mono (eqInt_c _ _ _ _ _ _ _ _ (oC1).sl (oC2).sl hl) ?_))
  rintro _ w21 ⟨rfl, x20⟩
  replace hs := hs.ext x20
  replace oC0 := oC0.ext x20
  replace oC1 := oC1.ext x20
  replace oC2 := oC2.ext x20
  replace X := Ext.trans X x20; clear x20
  refine ops_cons rfl (ow_not rfl ?_)
  refine ops_nil ?_
  refine c_false rfl ?_
  refine c_skip ?_
  refine tq_n ?_
  refine c_seqR ?_
  refine ops_cons rfl (ow_assign rfl ?_)
  refine ops_nil ?_
  refine c_ret ?_
  refine fin_ret1 rfl rfl ?_
  exact ⟨rfl, X⟩
set_option maxRecDepth 100000

theorem fnExactIdOfImage_lifted (os : Os) (started : os.Started) (H : Type) (enc : TypeId × Value → H) :
    ReturnsInHanded {} Try.checked os 3 .any (Rows.fnExactIdOfImageSpec.pre6 enc Try.prog Try.f3 Rows.fnExactIdOfImageRow.domain false) (Rows.fnExactIdOfImageSpec.post enc Try.prog Try.f3 false true false false) := by
  refine returnsInHanded_of_change (C := Try.checked) law_own started (by kernel_rfl) Try.func3
    (ChangeSpec.witness6 (enc := enc) (C := Try.checked) false ⟨#[], #[.slice none 0 0], []⟩ 8 (by kernel_rfl) (by kernel_rfl) (by kernel_rfl) (by kernel_rfl)) ?_
  intro W base args ds gs before hval0 hW hcnd _
  have hval : ∀ (j : Nat) t v, Try.f3.params[j]? = some t → args[j]? = some v → Value.okWide Try.prog W .any base t v := hval0
  have hW' := hW
  obtain ⟨p, q, hA0, hV, rfl, hfz, hnd⟩ := hW
  have hA : DataW.TrodAll enc Try.prog W 0 (fun _ => true) true Try.f3.params.toList args.toList ds p := hA0
  rw [Try.params3] at hA hval
  obtain ⟨rfl, rfl⟩ := trodVars_none hV
  obtain ⟨v0, vs0, d0, ds0, p0, q0, hargs, rfl, rfl, h0, r0⟩ := trodAll_cons hA
  obtain ⟨rfl, rfl, rfl⟩ := trodAll_nil r0
  obtain rfl : args = #[v0] := by cases args; simp_all
  obtain ⟨a0, l0, k0, rfl⟩ := okWide_slice Try.underlying22 (hval 0 22 v0 rfl rfl)
  obtain ⟨m0, x0, t0⟩ := cell_of rfl h0
  obtain ⟨Axs, xs, cxs, exs, sxs, wxs, lxs⟩ := open_sl (s := 1) Try.underlying22 (by kernel_rfl) eI_len (by omega) (fun _ _ _ h => open_i64 Try.underlying2 h) t0
  rw [exs]
  refine Calls.mono (law_FnExactIdOfImage _ _ _ xs W sxs lxs) fun e W' h => ?_
  cases e <;> first | exact h.elim | skip
  obtain ⟨rfl, hb⟩ := h
  exact ⟨_, rfl, law_post law_laid (by kernel_rfl) rfl rfl Try.underlying4 (by rw [← exs]; exact hW') rfl hb⟩

theorem fnExactIdOfImage_holds : Rows.FnExactIdOfImageSaid :=
  OpenClaim.holds_of_wide 3 Try.f3 rfl rfl rfl rfl rfl rfl rfl ⟨rfl, rfl, rfl, rfl, rfl⟩ rfl rfl rfl rfl rfl (by kernel_rfl) Try.func3 (by kernel_rfl)
    (of_decide_eq_true (by kernel_rfl)) (by unfold Func.isWrapper; rw [if_neg (of_decide_eq_false (by kernel_rfl))]; exact ⟨rfl, rfl⟩)
    (fun os started H enc _ => fnExactIdOfImage_lifted os started H enc)
end Go.Proofs.Ytdoibplhbdkapaa
