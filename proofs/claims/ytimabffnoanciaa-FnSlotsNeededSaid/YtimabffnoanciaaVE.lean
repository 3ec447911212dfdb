/- The law FnSlotsNeeded answers true for all arguments that its row admits, and leaves what was there before as it was. No condition. -/
import Derived.Test.YtimabffnoanciaaPV
import Derived.Test.YtimabffnoanciaaPN
import Derived.Test.YtimabffnoanciaaGE
import Derived.Test.YtimabffnoanciaaFlowR
namespace Go.Proofs.Ytimabffnoanciaa
open Go.ChangeShapes Go.WideShapes Go.ChangeAt Go.RowKit
set_option linter.unusedVariables false
set_option linter.unusedSimpArgs false
set_option maxRecDepth 20000

theorem law_own : ownKnob Try.prog.godebug = none := by kernel_rfl
theorem law_laid : laidOutB Try.prog = true := by kernel_rfl
theorem law_FnSlotsNeeded (A : Option Addr) (B c : Nat) (bs : List UInt8) (w : World) (hs : Sl B w A (bs.flatMap eB)) (hm : bs.length ≤ 9223372036854775807) :
    Calls Try.prog 6 #[.slice A bs.length c] w (Ret fun v w' => v = .bool true ∧ Ext w w') := by
  have Bhs := hs.1
  have X := Ext.refl w
  refine calls_of (args := [.slice A bs.length c]) Try.func6 Try.ntmps6 rfl rfl ?_
  refine c_seqR ?_
  refine ops_cons rfl (ow_assign rfl ?_)
  refine ops_nil ?_
  refine c_seq ?_
  refine c_seqR ?_
  refine ops_cons rfl (ow_move rfl ?_)
  refine ops_cons rfl (ow_callB ent14 rfl (big_c _ _ _ _) (fun w2 hbig x1 => ?_) (fun w2 hbig x1 => ?_))
  · skip
    replace hs := hs.ext x1
    replace X := Ext.trans X x1; clear x1
    refine ops_nil ?_
    refine c_true rfl ?_
    refine c_seqR ?_
    refine ops_cons rfl (ow_assign rfl ?_)
    refine ops_nil ?_
    refine c_ret ?_
    refine tq_r ?_
    refine fin_ret1 rfl rfl ?_
    first
    | exact ⟨rfl, X⟩
    | (exact ⟨congrArg Value.bool (decide_eq_true (hn2.resolve_left h1)), X⟩)
  · skip
    replace hs := hs.ext x1
    replace X := Ext.trans X x1; clear x1
    have hb2 := of_decide_eq_false hbig
    have hbl : bs.length ≤ 1048576 := by omega
    refine ops_nil ?_
    refine c_false rfl ?_
    refine c_skip ?_
    refine tq_n ?_
    refine c_seqR ?_
    refine ops_cons rfl (ow_move rfl ?_)
    refine ops_cons rfl (ow_call ent32 rfl (ret_mono (drawSN_c _ _ _ _ _ hs hbl) ?_))
    rintro _ w4 ⟨AT, cT, ys, rounds, rfl, hyl, oT, x3⟩
    replace oT := Own.low oT X.size
    replace hs := hs.ext x3
    replace X := Ext.trans X x3; clear x3
    have hl : ys.length ≤ 1048576 := by omega
    refine ops_cons rfl (ow_move rfl ?_)
    refine ops_cons rfl (ow_extract rfl rfl ?_)
    refine ops_cons rfl (ow_extract rfl rfl ?_)
    refine ops_cons rfl (ow_assign rfl ?_)
    refine ops_cons rfl (ow_assign rfl ?_)
    refine ops_nil ?_
    refine c_seqR ?_
    refine ops_cons rfl (ow_move rfl ?_)
    refine ops_cons rfl (ow_move rfl ?_)
    refine ops_cons rfl (ow_call ent26 rfl (ret_mono (iSN_c _ _ _ _ _ _ (oT).sl hl) ?_))
    rintro _ w6 ⟨rfl, x5⟩
    replace hs := hs.ext x5
    replace oT := oT.ext x5
    replace X := Ext.trans X x5; clear x5
    refine ops_cons rfl (ow_move rfl ?_)
    refine ops_cons rfl (ow_extract rfl rfl ?_)
    refine ops_cons rfl (ow_extract rfl rfl ?_)
    refine ops_cons rfl (ow_assign rfl ?_)
    refine ops_cons rfl (ow_assign rfl ?_)
    refine ops_nil ?_
    refine c_seqR ?_
    refine ops_cons rfl (ow_move rfl ?_)
    refine ops_cons rfl (ow_move rfl ?_)
    refine ops_cons rfl (ow_call ent24 rfl (ret_mono (sSN_c _ _ _ _ _ _ (oT).sl hl) ?_))
    rintro _ w8 ⟨rfl, x7⟩
    replace hs := hs.ext x7
    replace oT := oT.ext x7
    replace X := Ext.trans X x7; clear x7
    refine ops_cons rfl (ow_move rfl ?_)
    refine ops_cons rfl (ow_extract rfl rfl ?_)
    refine ops_cons rfl (ow_extract rfl rfl ?_)
    refine ops_cons rfl (ow_assign rfl ?_)
    refine ops_cons rfl (ow_assign rfl ?_)
    refine ops_nil ?_
    refine c_seq ?_
    refine c_seqR ?_
    refine ops_cons rfl (ow_move rfl ?_)
    refine ops_cons rfl (ow_move rfl ?_)
    refine ops_cons rfl (ow_neq2 rfl rfl (fun h9 => absurd h9 (by simp)) (fun h9 => ?_))
    refine ops_cons rfl (ow_move rfl ?_)
    refine ops_want rfl rfl rfl (ow_move rfl ?_)
    refine ops_want rfl rfl rfl (ow_move rfl ?_)
    refine ops_want rfl rfl rfl (ow_neq2 rfl rfl (fun h10 => absurd h10 (by simp)) (fun h10 => ?_))
    refine ops_cons rfl (ow_pick rfl rfl ?_)
    refine ops_nil ?_
    refine c_false rfl ?_
    refine c_skip ?_
    refine tq_n ?_
    refine c_seq ?_
    refine c_seqR ?_
    refine ops_cons rfl (ow_move rfl ?_)
    refine ops_cons rfl (ow_neq2 rfl rfl (fun h0 => ?_) (fun h0 => ?_))
    · skip
      refine ops_nil ?_
      refine c_true rfl ?_
      refine c_seqR ?_
      refine ops_cons rfl (ow_assign rfl ?_)
      refine ops_nil ?_
      refine c_ret ?_
      refine tq_r ?_
      refine fin_ret1 rfl rfl ?_
      first
      | exact ⟨rfl, X⟩
      | (exact ⟨congrArg Value.bool (decide_eq_true (hn2.resolve_left h1)), X⟩)
    · skip
      obtain ⟨hn1, hn2, hn3, hn4⟩ := need_back h0
      refine ops_nil ?_
      refine c_false rfl ?_
      refine c_skip ?_
      refine tq_n ?_
      refine c_seqR ?_
      refine ops_cons rfl (ow_move rfl ?_)
      refine ops_cons rfl (ow_move rfl ?_)
      refine ops_cons rfl (ow_move rfl ?_)
      refine ops_cons rfl (ow_call ent33 rfl (ret_mono (iPD_c _ _ _ ys _ _ _ oT.sl hl) ?_))
      rintro _ w12 ⟨A13, c14, rfl, oP, x11⟩
      replace oP := Own.low oP X.size
      replace hs := hs.ext x11
      replace oT := oT.ext x11
      replace X := Ext.trans X x11; clear x11
      refine ops_cons rfl (ow_move rfl ?_)
      refine ops_cons rfl (ow_extract rfl rfl ?_)
      refine ops_cons rfl (ow_extract rfl rfl ?_)
      refine ops_cons rfl (ow_assign rfl ?_)
      refine ops_cons rfl (ow_assign rfl ?_)
      refine ops_nil ?_
      refine c_seqR ?_
      refine ops_cons rfl (ow_move rfl ?_)
      refine ops_cons rfl (ow_move rfl ?_)
      refine ops_cons rfl (ow_move rfl ?_)
      refine ops_cons rfl (ow_sub rfl rfl (w64 (by omega)) ?_)
      refine ops_cons rfl (ow_call ent33 rfl (ret_mono (iPD_c _ _ _ ys _ _ _ oT.sl hl) ?_))
      rintro _ w16 ⟨A17, c18, rfl, oR, x15⟩
      replace oR := Own.low oR X.size
      replace hs := hs.ext x15
      replace oT := oT.ext x15
      replace oP := oP.ext x15
      replace X := Ext.trans X x15; clear x15
      refine ops_cons rfl (ow_move rfl ?_)
      refine ops_cons rfl (ow_extract rfl rfl ?_)
      refine ops_cons rfl (ow_extract rfl rfl ?_)
      refine ops_cons rfl (ow_assign rfl ?_)
      refine ops_cons rfl (ow_assign rfl ?_)
      refine ops_nil ?_
      refine c_seqR ?_
      refine ops_cons rfl (ow_move rfl ?_)
      refine ops_cons rfl (ow_eql2 rfl rfl (fun h19 => ?_) (fun h19 => absurd h19 (by exact absurd hn1 ‹_›)))
      refine ops_cons rfl (ow_move rfl ?_)
      refine ops_want rfl rfl rfl (ow_move rfl ?_)
      refine ops_want rfl rfl rfl (ow_eql2 rfl rfl (fun h1 => ?_) (fun h1 => ?_))
      · skip
        refine ops_want rfl rfl rfl (ow_move rfl ?_)
        refine ops_skip rfl rfl rfl rfl ?_
        refine ops_skip rfl rfl rfl rfl ?_
        refine ops_want rfl rfl rfl (ow_pick rfl rfl ?_)
        refine ops_cons rfl (ow_pick rfl rfl ?_)
        refine ops_cons rfl (ow_assign rfl ?_)
        refine ops_nil ?_
        refine c_ret ?_
        refine fin_ret1 rfl rfl ?_
        first
        | exact ⟨rfl, X⟩
        | (exact ⟨congrArg Value.bool (decide_eq_true (hn2.resolve_left h1)), X⟩)
      · skip
        refine ops_want rfl rfl rfl (ow_move rfl ?_)
        refine ops_want rfl rfl rfl (ow_move rfl ?_)
        refine ops_want rfl rfl rfl (ow_eql rfl rfl ?_)
        refine ops_want rfl rfl rfl (ow_pick rfl rfl ?_)
        refine ops_cons rfl (ow_pick rfl rfl ?_)
        refine ops_cons rfl (ow_assign rfl ?_)
        refine ops_nil ?_
        refine c_ret ?_
        refine fin_ret1 rfl rfl ?_
        first
        | exact ⟨rfl, X⟩
        | (exact ⟨congrArg Value.bool (decide_eq_true (hn2.resolve_left h1)), X⟩)
set_option maxRecDepth 100000

theorem fnSlotsNeeded_lifted (os : Os) (started : os.Started) (H : Type) (enc : TypeId × Value → H) :
    ReturnsInHanded {} Try.checked os 6 .any (Rows.fnSlotsNeededSpec.pre6 enc Try.prog Try.f6 Rows.fnSlotsNeededRow.domain false) (Rows.fnSlotsNeededSpec.post enc Try.prog Try.f6 false true false false) := by
  refine returnsInHanded_of_change (C := Try.checked) law_own started (by kernel_rfl) Try.func6
    (ChangeSpec.witness6 (enc := enc) (C := Try.checked) false ⟨#[], #[.slice none 0 0], []⟩ 8 (by kernel_rfl) (by kernel_rfl) (by kernel_rfl) (by kernel_rfl)) ?_
  intro W base args ds gs before hval0 hW hcnd _
  have hval : ∀ (j : Nat) t v, Try.f6.params[j]? = some t → args[j]? = some v → Value.okWide Try.prog W .any base t v := hval0
  have hW' := hW
  obtain ⟨p, q, hA0, hV, rfl, hfz, hnd⟩ := hW
  have hA : DataW.TrodAll enc Try.prog W 0 (fun _ => true) true Try.f6.params.toList args.toList ds p := hA0
  rw [Try.params6] at hA hval
  obtain ⟨rfl, rfl⟩ := trodVars_none hV
  obtain ⟨v0, vs0, d0, ds0, p0, q0, hargs, rfl, rfl, h0, r0⟩ := trodAll_cons hA
  obtain ⟨rfl, rfl, rfl⟩ := trodAll_nil r0
  obtain rfl : args = #[v0] := by cases args; simp_all
  obtain ⟨a0, l0, k0, rfl⟩ := okWide_slice Try.underlying22 (hval 0 22 v0 rfl rfl)
  obtain ⟨m0, x0, t0⟩ := cell_of rfl h0
  obtain ⟨Abs, bs, cbs, ebs, sbs, wbs, lbs⟩ := open_sl (s := 1) Try.underlying22 (by kernel_rfl) eB_len (by omega) (fun _ _ _ h => open_u8 Try.underlying5 h) t0
  rw [ebs]
  refine Calls.mono (law_FnSlotsNeeded _ _ _ bs W sbs lbs) fun e W' h => ?_
  cases e <;> first | exact h.elim | skip
  obtain ⟨rfl, hb⟩ := h
  exact ⟨_, rfl, law_post law_laid (by kernel_rfl) rfl rfl Try.underlying4 (by rw [← ebs]; exact hW') rfl hb⟩

theorem fnSlotsNeeded_holds : Rows.FnSlotsNeededSaid :=
  OpenClaim.holds_of_wide 6 Try.f6 rfl rfl rfl rfl rfl rfl rfl ⟨rfl, rfl, rfl, rfl, rfl⟩ rfl rfl rfl rfl rfl (by kernel_rfl) Try.func6 (by kernel_rfl)
    (of_decide_eq_true (by kernel_rfl)) (by unfold Func.isWrapper; rw [if_neg (of_decide_eq_false (by kernel_rfl))]; exact ⟨rfl, rfl⟩)
    (fun os started H enc _ => fnSlotsNeeded_lifted os started H enc)
end Go.Proofs.Ytimabffnoanciaa
