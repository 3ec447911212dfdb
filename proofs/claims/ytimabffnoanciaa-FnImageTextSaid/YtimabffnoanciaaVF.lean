/- The law FnImageText answers true for all arguments that its row admits, and leaves what was there before as it was. No condition. -/
import Derived.Test.YtimabffnoanciaaW4
import Derived.Test.YtimabffnoanciaaGE
import Derived.Test.YtimabffnoanciaaFlowR
namespace Go.Proofs.Ytimabffnoanciaa
open Go.ChangeShapes Go.WideShapes Go.ChangeAt Go.RowKit
set_option linter.unusedVariables false
set_option linter.unusedSimpArgs false
set_option maxRecDepth 20000

theorem law_own : ownKnob Try.prog.godebug = none := by kernel_rfl
theorem law_laid : laidOutB Try.prog = true := by kernel_rfl
theorem likeInts_n (A A' : Option Addr) (B B' c c' n n' : Nat) (xs : List Int) (w : World) (hs : Sl B w A (xs.flatMap eI)) (ht : Sl B' w A' (xs.flatMap eI)) (hl : xs.length ≤ 1048576) (en : n = xs.length) (en' : n' = xs.length) :
    Calls Try.prog 22 #[.slice A n c, .slice A' n' c'] w (Ret fun v w' => v = .bool true ∧ Ext w w') := by
  subst en; subst en'
  exact likeInts_c A A' B B' c c' xs w hs ht hl
theorem iRdImg_c (ys : List Int) (w : World) (hl : ys.length ≤ 1048576 := by omega) :
    Calls Try.prog 17 #[.string (if isB ys = true then strOf (hexB ys) else ByteArray.empty)] w (Ret fun v w' => ∃ A' c', v = .tuple #[.slice A' (if isB ys = true then ys else []).length c', .bool true] ∧ Own w' w.heap.size 2 1 A' (if isB ys = true then ys else []).length c' ((if isB ys = true then ys else []).flatMap eI) ∧ Ext w w') := by
  have hz := img_size ys
  have hr := rd_img ys
  unfold img at hz hr
  have h := iRd_c (if isB ys = true then strOf (hexB ys) else ByteArray.empty) w (by omega)
  rw [hr] at h
  exact h
theorem law_FnImageText (A : Option Addr) (B c : Nat) (bs : List UInt8) (w : World) (hs : Sl B w A (bs.flatMap eB)) (hm : bs.length ≤ 9223372036854775807) :
    Calls Try.prog 3 #[.slice A bs.length c] w (Ret fun v w' => v = .bool true ∧ Ext w w') := by
  have Bhs := hs.1
  have X := Ext.refl w
  refine calls_of (args := [.slice A bs.length c]) Try.func3 Try.ntmps3 rfl rfl ?_
  refine c_seqR ?_
  refine ops_cons rfl (ow_assign rfl ?_)
  refine ops_nil ?_
  refine c_seq ?_
  refine c_seqR ?_
  refine ops_cons rfl (ow_move rfl ?_)
  refine ops_cons rfl (ow_callB ent14 rfl (big_c _ _ _ _) (fun w2 hbig x1 => ?_) (fun w2 hbig x1 => ?_))
  · skip
    replace hs := hs.ext x1
    replace X := Ext.trans X x1; clear x1
    refine ops_nil ?_
    refine c_true rfl ?_
    refine c_seqR ?_
    refine ops_cons rfl (ow_assign rfl ?_)
    refine ops_nil ?_
    refine c_ret ?_
    refine tq_r ?_
    refine fin_ret1 rfl rfl ?_
    first
    | exact ⟨rfl, X⟩
    | exact ⟨congrArg Value.bool (decide_eq_true hru), X⟩
  · skip
    replace hs := hs.ext x1
    replace X := Ext.trans X x1; clear x1
    have hb2 := of_decide_eq_false hbig
    have hbl : bs.length ≤ 1048576 := by omega
    refine ops_nil ?_
    refine c_false rfl ?_
    refine c_skip ?_
    refine tq_n ?_
    refine c_seqR ?_
    refine ops_cons rfl (ow_move rfl ?_)
    refine ops_cons rfl (ow_call ent15 rfl (ret_mono (drawIT_c _ _ _ _ _ hs hbl) ?_))
    rintro _ w4 ⟨AT, cT, ys, rfl, hyl, oT, x3⟩
    replace oT := Own.low oT X.size
    replace hs := hs.ext x3
    replace X := Ext.trans X x3; clear x3
    have hl : ys.length ≤ 1048576 := by omega
    have hiz := img_size ys
    have hri := rd_img ys
    unfold img at hiz hri
    refine ops_cons rfl (ow_assign rfl ?_)
    refine ops_nil ?_
    refine c_seqR ?_
    refine ops_cons rfl (ow_move rfl ?_)
    refine ops_cons rfl (ow_call ent16 rfl (ret_mono (iImageT_c _ _ _ _ _ (oT).sl hl) ?_))
    rintro _ w6 ⟨rfl, x5⟩
    replace hs := hs.ext x5
    replace oT := oT.ext x5
    replace X := Ext.trans X x5; clear x5
    refine ops_cons rfl (ow_assign rfl ?_)
    refine ops_nil ?_
    refine c_seqR ?_
    refine ops_cons rfl (ow_move rfl ?_)
    refine ops_cons rfl (ow_call ent17 rfl (ret_mono (iRdImg_c ys _) ?_))
    rintro _ w8 ⟨A9, c10, rfl, oR, x7⟩
    replace oR := Own.low oR X.size
    replace hs := hs.ext x7
    replace oT := oT.ext x7
    replace X := Ext.trans X x7; clear x7
    refine ops_cons rfl (ow_move rfl ?_)
    refine ops_cons rfl (ow_extract rfl rfl ?_)
    refine ops_cons rfl (ow_extract rfl rfl ?_)
    refine ops_cons rfl (ow_assign rfl ?_)
    refine ops_cons rfl (ow_assign rfl ?_)
    refine ops_nil ?_
    refine c_seqR ?_
    refine ops_cons rfl (ow_move rfl ?_)
    refine ops_cons rfl (ow_call ent18 rfl (ret_mono (drawRIT_c _ _ _ bs _ hs hbl) ?_))
    rintro _ wU ⟨u, rfl, hul, xU⟩
    replace hs := hs.ext xU
    replace oT := oT.ext xU
    replace oR := oR.ext xU
    replace X := Ext.trans X xU; clear xU
    have hz : u.size ≤ 1048576 := by omega
    have hlu := rd_small hz
    refine ops_cons rfl (ow_assign rfl ?_)
    refine ops_nil ?_
    refine c_seqR ?_
    refine ops_cons rfl (ow_move rfl ?_)
    refine ops_cons rfl (ow_call ent17 rfl (ret_mono (iRd_c _ _ hz) ?_))
    rintro _ w12 ⟨AY, cY, rfl, oY, x11⟩
    replace oY := Own.low oY X.size
    replace hs := hs.ext x11
    replace oT := oT.ext x11
    replace oR := oR.ext x11
    replace X := Ext.trans X x11; clear x11
    refine ops_cons rfl (ow_move rfl ?_)
    refine ops_cons rfl (ow_extract rfl rfl ?_)
    refine ops_cons rfl (ow_extract rfl rfl ?_)
    refine ops_cons rfl (ow_assign rfl ?_)
    refine ops_cons rfl (ow_assign rfl ?_)
    refine ops_nil ?_
    refine c_seqR ?_
    refine ops_cons rfl (ow_move rfl ?_)
    refine ops_cons rfl (ow_call ent19 rfl (ret_mono (sRd_c _ _ hz) ?_))
    rintro _ w14 ⟨A15, c16, rfl, oZ, x13⟩
    replace oZ := Own.low oZ X.size
    replace hs := hs.ext x13
    replace oT := oT.ext x13
    replace oR := oR.ext x13
    replace oY := oY.ext x13
    replace X := Ext.trans X x13; clear x13
    refine ops_cons rfl (ow_move rfl ?_)
    refine ops_cons rfl (ow_extract rfl rfl ?_)
    refine ops_cons rfl (ow_extract rfl rfl ?_)
    refine ops_cons rfl (ow_assign rfl ?_)
    refine ops_cons rfl (ow_assign rfl ?_)
    refine ops_nil ?_
    refine c_seqR ?_
    refine ops_cons rfl (ow_move rfl ?_)
    refine ops_cons rfl (ow_move rfl ?_)
    refine ops_cons rfl (ow_call ent20 rfl (ret_mono (sImageT_c _ _ _ _ _ (oT).sl hl) ?_))
    rintro _ w18 ⟨rfl, x17⟩
    replace hs := hs.ext x17
    replace oT := oT.ext x17
    replace oR := oR.ext x17
    replace oY := oY.ext x17
    replace oZ := oZ.ext x17
    replace X := Ext.trans X x17; clear x17
    refine ops_cons rfl (ow_eqlS2 rfl rfl (fun h19 => ?_) (fun h19 => absurd h19 (by simp)))
    refine ops_cons rfl (ow_move rfl ?_)
    refine ops_want rfl rfl rfl (ow_move rfl ?_)
    refine ops_cons rfl (ow_pick rfl rfl ?_)
    refine ops_cons rfl (ow_move rfl ?_)
    refine ops_want rfl rfl rfl (ow_move rfl ?_)
    refine ops_want rfl rfl rfl (ow_callB ent21 rfl (sIsBytes_c _ _ _ _ _ (oT).sl hl) (fun w21 hB x20 => ?_) (fun w21 hB x20 => ?_))
    · skip
      replace hs := hs.ext x20
      replace oT := oT.ext x20
      replace oR := oR.ext x20
      replace oY := oY.ext x20
      replace oZ := oZ.ext x20
      replace X := Ext.trans X x20; clear x20
      refine ops_want rfl rfl rfl (ow_not rfl ?_)
      refine ops_want rfl rfl rfl (ow_move rfl ?_)
      refine ops_want rfl rfl rfl (ow_move rfl ?_)
      refine ops_want rfl rfl rfl (ow_move rfl ?_)
      refine ops_want rfl rfl rfl (ow_call ent22 rfl (ret_mono (likeInts_n _ _ _ _ _ _ _ _ ys _ (by have h := oR.sl; rw [if_pos hB] at h; exact h) oT.sl hl (by rw [if_pos hB]) rfl) ?_))
      rintro _ w23 ⟨rfl, x22⟩
      replace hs := hs.ext x22
      replace oT := oT.ext x22
      replace oR := oR.ext x22
      replace oY := oY.ext x22
      replace oZ := oZ.ext x22
      replace X := Ext.trans X x22; clear x22
      refine ops_want rfl rfl rfl (ow_pick rfl rfl ?_)
      refine ops_cons rfl (ow_pick rfl rfl ?_)
      refine ops_cons rfl (ow_move rfl ?_)
      refine ops_want rfl rfl rfl (ow_move rfl ?_)
      refine ops_want rfl rfl rfl (ow_move rfl ?_)
      refine ops_want rfl rfl rfl (ow_eqlBd2 Try.underlying4 rfl rfl (fun h24 => ?_) (fun h24 => absurd h24 (by simp)))
      refine ops_cons rfl (ow_pick rfl rfl ?_)
      refine ops_cons rfl (ow_move rfl ?_)
      refine ops_want rfl rfl rfl (ow_move rfl ?_)
      refine ops_want rfl rfl rfl (ow_move rfl ?_)
      refine ops_want rfl rfl rfl (ow_call ent22 rfl (ret_mono (likeInts_c _ _ _ _ _ _ _ _ (oY).sl (oZ).sl hlu) ?_))
      rintro _ w26 ⟨rfl, x25⟩
      replace hs := hs.ext x25
      replace oT := oT.ext x25
      replace oR := oR.ext x25
      replace oY := oY.ext x25
      replace oZ := oZ.ext x25
      replace X := Ext.trans X x25; clear x25
      refine ops_cons rfl (ow_pick rfl rfl ?_)
      refine ops_cons rfl (ow_move rfl ?_)
      refine ops_want rfl rfl rfl (ow_move rfl ?_)
      refine ops_want rfl rfl rfl (ow_not rfl ?_)
      cases hr0 : (!(rd u).2)
      · skip
        have hr1 : (rd u).2 = true := by simpa using hr0
        have hru := img_rd hr1
        unfold img at hru
        refine ops_want rfl rfl rfl (ow_move rfl ?_)
        refine ops_want rfl rfl rfl (ow_move rfl ?_)
        refine ops_want rfl rfl rfl (ow_call ent16 rfl (ret_mono (iImageT_c _ _ _ (rd u).1 _ oY.sl hlu) ?_))
        rintro _ w28 ⟨rfl, x27⟩
        replace hs := hs.ext x27
        replace oT := oT.ext x27
        replace oR := oR.ext x27
        replace oY := oY.ext x27
        replace oZ := oZ.ext x27
        replace X := Ext.trans X x27; clear x27
        refine ops_want rfl rfl rfl (ow_move rfl ?_)
        refine ops_want rfl rfl rfl (ow_eqlS rfl rfl ?_)
        refine ops_want rfl rfl rfl (ow_pick rfl rfl ?_)
        refine ops_cons rfl (ow_pick rfl rfl ?_)
        refine ops_cons rfl (ow_assign rfl ?_)
        refine ops_nil ?_
        refine c_ret ?_
        refine fin_ret1 rfl rfl ?_
        first
        | exact ⟨rfl, X⟩
        | exact ⟨congrArg Value.bool (decide_eq_true hru), X⟩
      · skip
        refine ops_want rfl rfl rfl (ow_move rfl ?_)
        refine ops_skip rfl rfl rfl rfl ?_
        refine ops_skip rfl rfl rfl rfl ?_
        refine ops_skip rfl rfl rfl rfl ?_
        refine ops_skip rfl rfl rfl rfl ?_
        refine ops_want rfl rfl rfl (ow_pick rfl rfl ?_)
        refine ops_cons rfl (ow_pick rfl rfl ?_)
        refine ops_cons rfl (ow_assign rfl ?_)
        refine ops_nil ?_
        refine c_ret ?_
        refine fin_ret1 rfl rfl ?_
        first
        | exact ⟨rfl, X⟩
        | exact ⟨congrArg Value.bool (decide_eq_true hru), X⟩
    · skip
      replace hs := hs.ext x20
      replace oT := oT.ext x20
      replace oR := oR.ext x20
      replace oY := oY.ext x20
      replace oZ := oZ.ext x20
      replace X := Ext.trans X x20; clear x20
      refine ops_want rfl rfl rfl (ow_not rfl ?_)
      refine ops_want rfl rfl rfl (ow_move rfl ?_)
      refine ops_skip rfl rfl rfl rfl ?_
      refine ops_skip rfl rfl rfl rfl ?_
      refine ops_skip rfl rfl rfl rfl ?_
      refine ops_want rfl rfl rfl (ow_pick rfl rfl ?_)
      refine ops_cons rfl (ow_pick rfl rfl ?_)
      refine ops_cons rfl (ow_move rfl ?_)
      refine ops_want rfl rfl rfl (ow_move rfl ?_)
      refine ops_want rfl rfl rfl (ow_move rfl ?_)
      refine ops_want rfl rfl rfl (ow_eqlBd2 Try.underlying4 rfl rfl (fun h29 => ?_) (fun h29 => absurd h29 (by simp)))
      refine ops_cons rfl (ow_pick rfl rfl ?_)
      refine ops_cons rfl (ow_move rfl ?_)
      refine ops_want rfl rfl rfl (ow_move rfl ?_)
      refine ops_want rfl rfl rfl (ow_move rfl ?_)
      refine ops_want rfl rfl rfl (ow_call ent22 rfl (ret_mono (likeInts_c _ _ _ _ _ _ _ _ (oY).sl (oZ).sl hlu) ?_))
      rintro _ w31 ⟨rfl, x30⟩
      replace hs := hs.ext x30
      replace oT := oT.ext x30
      replace oR := oR.ext x30
      replace oY := oY.ext x30
      replace oZ := oZ.ext x30
      replace X := Ext.trans X x30; clear x30
      refine ops_cons rfl (ow_pick rfl rfl ?_)
      refine ops_cons rfl (ow_move rfl ?_)
      refine ops_want rfl rfl rfl (ow_move rfl ?_)
      refine ops_want rfl rfl rfl (ow_not rfl ?_)
      cases hr0 : (!(rd u).2)
      · skip
        have hr1 : (rd u).2 = true := by simpa using hr0
        have hru := img_rd hr1
        unfold img at hru
        refine ops_want rfl rfl rfl (ow_move rfl ?_)
        refine ops_want rfl rfl rfl (ow_move rfl ?_)
        refine ops_want rfl rfl rfl (ow_call ent16 rfl (ret_mono (iImageT_c _ _ _ (rd u).1 _ oY.sl hlu) ?_))
        rintro _ w33 ⟨rfl, x32⟩
        replace hs := hs.ext x32
        replace oT := oT.ext x32
        replace oR := oR.ext x32
        replace oY := oY.ext x32
        replace oZ := oZ.ext x32
        replace X := Ext.trans X x32; clear x32
        refine ops_want rfl rfl rfl (ow_move rfl ?_)
        refine ops_want rfl rfl rfl (ow_eqlS rfl rfl ?_)
        refine ops_want rfl rfl rfl (ow_pick rfl rfl ?_)
        refine ops_cons rfl (ow_pick rfl rfl ?_)
        refine ops_cons rfl (ow_assign rfl ?_)
        refine ops_nil ?_
        refine c_ret ?_
        refine fin_ret1 rfl rfl ?_
        first
        | exact ⟨rfl, X⟩
        | exact ⟨congrArg Value.bool (decide_eq_true hru), X⟩
      · skip
        refine ops_want rfl rfl rfl (ow_move rfl ?_)
        refine ops_skip rfl rfl rfl rfl ?_
        refine ops_skip rfl rfl rfl rfl ?_
        refine ops_skip rfl rfl rfl rfl ?_
        refine ops_skip rfl rfl rfl rfl ?_
        refine ops_want rfl rfl rfl (ow_pick rfl rfl ?_)
        refine ops_cons rfl (ow_pick rfl rfl ?_)
        refine ops_cons rfl (ow_assign rfl ?_)
        refine ops_nil ?_
        refine c_ret ?_
        refine fin_ret1 rfl rfl ?_
        first
        | exact ⟨rfl, X⟩
        | exact ⟨congrArg Value.bool (decide_eq_true hru), X⟩
set_option maxRecDepth 100000

theorem fnImageText_lifted (os : Os) (started : os.Started) (H : Type) (enc : TypeId × Value → H) :
    ReturnsInHanded {} Try.checked os 3 .any (Rows.fnImageTextSpec.pre6 enc Try.prog Try.f3 Rows.fnImageTextRow.domain false) (Rows.fnImageTextSpec.post enc Try.prog Try.f3 false true false false) := by
  refine returnsInHanded_of_change (C := Try.checked) law_own started (by kernel_rfl) Try.func3
    (ChangeSpec.witness6 (enc := enc) (C := Try.checked) false ⟨#[], #[.slice none 0 0], []⟩ 8 (by kernel_rfl) (by kernel_rfl) (by kernel_rfl) (by kernel_rfl)) ?_
  intro W base args ds gs before hval0 hW hcnd _
  have hval : ∀ (j : Nat) t v, Try.f3.params[j]? = some t → args[j]? = some v → Value.okWide Try.prog W .any base t v := hval0
  have hW' := hW
  obtain ⟨p, q, hA0, hV, rfl, hfz, hnd⟩ := hW
  have hA : DataW.TrodAll enc Try.prog W 0 (fun _ => true) true Try.f3.params.toList args.toList ds p := hA0
  rw [Try.params3] at hA hval
  obtain ⟨rfl, rfl⟩ := trodVars_none hV
  obtain ⟨v0, vs0, d0, ds0, p0, q0, hargs, rfl, rfl, h0, r0⟩ := trodAll_cons hA
  obtain ⟨rfl, rfl, rfl⟩ := trodAll_nil r0
  obtain rfl : args = #[v0] := by cases args; simp_all
  obtain ⟨a0, l0, k0, rfl⟩ := okWide_slice Try.underlying22 (hval 0 22 v0 rfl rfl)
  obtain ⟨m0, x0, t0⟩ := cell_of rfl h0
  obtain ⟨Abs, bs, cbs, ebs, sbs, wbs, lbs⟩ := open_sl (s := 1) Try.underlying22 (by kernel_rfl) eB_len (by omega) (fun _ _ _ h => open_u8 Try.underlying5 h) t0
  rw [ebs]
  refine Calls.mono (law_FnImageText _ _ _ bs W sbs lbs) fun e W' h => ?_
  cases e <;> first | exact h.elim | skip
  obtain ⟨rfl, hb⟩ := h
  exact ⟨_, rfl, law_post law_laid (by kernel_rfl) rfl rfl Try.underlying4 (by rw [← ebs]; exact hW') rfl hb⟩

theorem fnImageText_holds : Rows.FnImageTextSaid :=
  OpenClaim.holds_of_wide 3 Try.f3 rfl rfl rfl rfl rfl rfl rfl ⟨rfl, rfl, rfl, rfl, rfl⟩ rfl rfl rfl rfl rfl (by kernel_rfl) Try.func3 (by kernel_rfl)
    (of_decide_eq_true (by kernel_rfl)) (by unfold Func.isWrapper; rw [if_neg (of_decide_eq_false (by kernel_rfl))]; exact ⟨rfl, rfl⟩)
    (fun os started H enc _ => fnImageText_lifted os started H enc)
end Go.Proofs.Ytimabffnoanciaa
