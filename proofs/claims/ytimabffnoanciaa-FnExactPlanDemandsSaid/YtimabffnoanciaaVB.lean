/- The law FnExactPlanDemands answers true for all arguments that its row admits, and leaves what was there before as it was. No condition. -/
import Derived.Test.YtimabffnoanciaaPV
import Derived.Test.YtimabffnoanciaaU4
import Derived.Test.YtimabffnoanciaaFlowR
namespace Go.Proofs.Ytimabffnoanciaa
open Go.ChangeShapes Go.WideShapes Go.ChangeAt Go.RowKit
set_option linter.unusedVariables false
set_option linter.unusedSimpArgs false
set_option maxRecDepth 20000
def Dem.ok (d : Dem) : Prop := In64 d.node ∧ In64 d.every ∧ In64 d.size
theorem law_own : ownKnob Try.prog.godebug = none := by kernel_rfl
theorem law_laid : laidOutB Try.prog = true := by kernel_rfl
theorem open_Dem {H : Type} {enc : TypeId × Value → H} {W : World} {sp : Nat → Bool} {fuel : Nat} {cs : List Value} {x : DataW H × List MemPlace} (h : DataW.trod enc Try.prog W 0 sp true fuel 94 cs = some x) : ∃ d : Dem, cs = d.cells ∧ d.ok := by
  have hl : cs.length = 3 := (len_of Try.underlying94 h).trans (by kernel_rfl)
  match cs, hl with
  | [c0, c1, c2], _ =>
    obtain ⟨n0, y0, h0⟩ := trod_field Try.underlying94 h 0 rfl
    obtain ⟨z0, e0, w0⟩ := open_i64 Try.underlying2 h0
    obtain rfl : c0 = .int .i64 z0 := by have e := show [c0] = [.int .i64 z0] from e0; injection e
    obtain ⟨n1, y1, h1⟩ := trod_field Try.underlying94 h 1 rfl
    obtain ⟨z1, e1, w1⟩ := open_i64 Try.underlying2 h1
    obtain rfl : c1 = .int .i64 z1 := by have e := show [c1] = [.int .i64 z1] from e1; injection e
    obtain ⟨n2, y2, h2⟩ := trod_field Try.underlying94 h 2 rfl
    obtain ⟨z2, e2, w2⟩ := open_i64 Try.underlying2 h2
    obtain rfl : c2 = .int .i64 z2 := by have e := show [c2] = [.int .i64 z2] from e2; injection e
    exact ⟨⟨z0, z1, z2⟩, rfl, ⟨w0, w1, w2⟩⟩
theorem law_FnExactPlanDemands (A : Option Addr) (B c : Nat) (xs : List Dem) (rounds slots : Int) (w : World) (hs : Sl B w A (xs.flatMap Dem.cells)) (hm : xs.length ≤ 9223372036854775807) :
    Calls Try.prog 8 #[.slice A xs.length c, .int .i64 rounds, .int .i64 slots] w (Ret fun v w' => v = .bool true ∧ Ext w w') := by
  have Bhs := hs.1
  have X := Ext.refl w
  refine calls_of (args := [.slice A xs.length c, .int .i64 rounds, .int .i64 slots]) Try.func8 Try.ntmps8 rfl rfl ?_
  refine c_seqR ?_
  refine ops_cons rfl (ow_assign rfl ?_)
  refine ops_nil ?_
  refine c_seqR ?_
  refine ops_cons rfl (ow_assign rfl ?_)
  refine ops_nil ?_
  refine c_seqR ?_
  refine ops_cons rfl (ow_move rfl ?_)
  refine ops_cons rfl (ow_move rfl ?_)
  refine ops_cons rfl (ow_call ent23 rfl (ret_mono (szDem_c _ _ _ _ hm) ?_))
  rintro _ w2 ⟨rfl, x1⟩
  replace hs := hs.ext x1
  replace X := Ext.trans X x1; clear x1
  refine ops_cons rfl (ow_assign rfl ?_)
  refine ops_nil ?_
  refine c_seq ?_
  refine c_seqR ?_
  refine ops_cons rfl (ow_move rfl ?_)
  refine ops_cons rfl (ow_lss2 rfl rfl (fun hz0 => ?_) (fun hz0 => ?_))
  · skip
    refine ops_nil ?_
    refine c_true rfl ?_
    refine c_seqR ?_
    refine ops_cons rfl (ow_assign rfl ?_)
    refine ops_nil ?_
    refine c_ret ?_
    refine tq_r ?_
    refine fin_ret1 rfl rfl ?_
    exact ⟨rfl, X⟩
  · skip
    have hl : xs.length ≤ 1048576 := by
      by_cases h : 1048576 - (xs.length : Int) < 0
      · rw [if_pos h] at hz0; omega
      · omega
    refine ops_nil ?_
    refine c_false rfl ?_
    refine c_skip ?_
    refine tq_n ?_
    refine c_seqR ?_
    refine ops_cons rfl (ow_move rfl ?_)
    refine ops_cons rfl (ow_call ent25 rfl (ret_mono (toDemS_c _ _ _ _ _ hs hl) ?_))
    rintro _ w4 ⟨A5, c6, rfl, oC0, x3⟩
    replace oC0 := Own.low oC0 X.size
    replace hs := hs.ext x3
    replace X := Ext.trans X x3; clear x3
    refine ops_cons rfl (ow_move rfl ?_)
    refine ops_cons rfl (ow_move rfl ?_)
    refine ops_cons rfl (ow_call ent39 rfl (ret_mono (sPD_c _ _ _ _ _ _ _ (oC0).sl hl) ?_))
    rintro _ w8 ⟨A9, c10, rfl, oS, x7⟩
    replace oS := Own.low oS X.size
    replace hs := hs.ext x7
    replace oC0 := oC0.ext x7
    replace X := Ext.trans X x7; clear x7
    have hl2 := planF_len xs rounds slots
    have sS := oS.sl
    clear oS oC0
    refine ops_cons rfl (ow_move rfl ?_)
    refine ops_cons rfl (ow_extract rfl rfl ?_)
    refine ops_cons rfl (ow_extract rfl rfl ?_)
    refine ops_cons rfl (ow_assign rfl ?_)
    refine ops_cons rfl (ow_assign rfl ?_)
    refine ops_nil ?_
    refine c_seqR ?_
    refine ops_cons rfl (ow_move rfl ?_)
    refine ops_cons rfl (ow_call ent25 rfl (ret_mono (toDemS_c _ _ _ _ _ hs hl) ?_))
    rintro _ w12 ⟨A13, c14, rfl, oX, x11⟩
    have LoX := X.size
    replace hs := hs.ext x11
    replace sS := sS.ext x11
    replace X := Ext.trans X x11; clear x11
    refine ops_cons rfl (ow_assign rfl ?_)
    refine ops_nil ?_
    refine c_seqR ?_
    refine ops_cons rfl (ow_move rfl ?_)
    refine ops_cons rfl (ow_move rfl ?_)
    refine ops_cons rfl (ow_move rfl ?_)
    have LS := sS.1
    have UX := fun g hg => (Own.lt oX (g := g) hg).2
    refine ops_cons rfl (ow_call ent33 rfl (ret_mono (iPD_c _ _ _ _ _ _ _ (oX).sl hl) ?_))
    rintro _ w16 ⟨A17, c18, rfl, oI, x15⟩
    have LoI := X.size
    replace hs := hs.ext x15
    replace sS := sS.ext x15
    replace oX := oX.ext x15
    replace X := Ext.trans X x15; clear x15
    refine ops_cons rfl (ow_move rfl ?_)
    refine ops_cons rfl (ow_extract rfl rfl ?_)
    refine ops_cons rfl (ow_extract rfl rfl ?_)
    refine ops_cons rfl (ow_assign rfl ?_)
    refine ops_cons rfl (ow_assign rfl ?_)
    refine ops_nil ?_
    refine c_seq ?_
    refine c_seqR ?_
    refine ops_cons rfl (ow_move rfl ?_)
    refine ops_cons rfl (ow_move rfl ?_)
    refine ops_cons rfl (ow_call ent38 rfl (ret_mono (eqBkS_c _ _ _ _ _ _ _ _ (oI).sl sS hl2) ?_))
    rintro _ w20 ⟨rfl, x19⟩
    replace hs := hs.ext x19
    replace sS := sS.ext x19
    replace oX := oX.ext x19
    replace oI := oI.ext x19
    replace X := Ext.trans X x19; clear x19
    refine ops_cons rfl (ow_not rfl ?_)
    refine ops_cons rfl (ow_move rfl ?_)
    refine ops_want rfl rfl rfl (ow_move rfl ?_)
    refine ops_want rfl rfl rfl (ow_move rfl ?_)
    refine ops_want rfl rfl rfl (ow_neq2 rfl rfl (fun h21 => absurd h21 (by simp)) (fun h21 => ?_))
    refine ops_cons rfl (ow_pick rfl rfl ?_)
    refine ops_nil ?_
    refine c_false rfl ?_
    refine c_skip ?_
    refine tq_n ?_
    refine c_seq ?_
    refine c_seqR ?_
    refine ops_cons rfl (ow_move rfl ?_)
    refine ops_cons rfl (ow_move rfl ?_)
    refine ops_cons rfl (ow_call ent25 rfl (ret_mono (toDemS_c _ _ _ _ _ hs hl) ?_))
    rintro _ w23 ⟨A24, c25, rfl, oC1, x22⟩
    replace oC1 := Own.low oC1 X.size
    replace hs := hs.ext x22
    replace sS := sS.ext x22
    replace oX := oX.ext x22
    replace oI := oI.ext x22
    replace X := Ext.trans X x22; clear x22
    refine ops_cons rfl (ow_call ent27 rfl (ret_mono (eqDemS_c _ _ _ _ _ _ _ _ (oX).sl (oC1).sl hl) ?_))
    rintro _ w27 ⟨rfl, x26⟩
    replace hs := hs.ext x26
    replace sS := sS.ext x26
    replace oX := oX.ext x26
    replace oI := oI.ext x26
    replace oC1 := oC1.ext x26
    replace X := Ext.trans X x26; clear x26
    clear oC1
    refine ops_cons rfl (ow_not rfl ?_)
    refine ops_nil ?_
    refine c_false rfl ?_
    refine c_skip ?_
    refine tq_n ?_
    refine c_seqR ?_
    refine ops_cons rfl (ow_assign rfl ?_)
    refine ops_nil ?_
    refine c_seqR ?_
    refine ops_cons rfl (ow_move rfl ?_)
    refine ops_cons rfl (ow_move rfl ?_)
    refine ops_cons rfl (ow_call ent30 rfl (ret_mono (markDem_c _ _ _ _ _ _ oX hl (by omega)) ?_))
    rintro _ w29 ⟨rfl, oX2, x28⟩
    replace hs := hs.grown x28 (fun g hg => Nat.le_trans Bhs (Nat.le_trans LoX (Own.lt oX hg).1))
    replace sS := sS.grown x28 (fun g hg => (Own.lt oX hg).1)
    replace oI := oI.grown x28 (fun g hg e => absurd (UX g hg) (Nat.not_lt.2 (Own.lt oI e).1))
    replace X := X.grown x28 X.size (fun g hg => Nat.le_trans LoX (Own.lt oX hg).1); clear x28 oX
    refine ops_cons rfl (ow_assign rfl ?_)
    refine ops_nil ?_
    refine c_seq ?_
    refine c_seqR ?_
    refine ops_cons rfl (ow_move rfl ?_)
    refine ops_cons rfl (ow_lss2 rfl rfl (fun h30 => absurd h30 (by omega)) (fun h30 => ?_))
    refine ops_cons rfl (ow_move rfl ?_)
    refine ops_want rfl rfl rfl (ow_move rfl ?_)
    refine ops_want rfl rfl rfl (ow_move rfl ?_)
    refine ops_want rfl rfl rfl (ow_call ent38 rfl (ret_mono (eqBkS_c _ _ _ _ _ _ _ _ (oI).sl sS hl2) ?_))
    rintro _ w32 ⟨rfl, x31⟩
    replace hs := hs.ext x31
    replace sS := sS.ext x31
    replace oI := oI.ext x31
    replace oX2 := oX2.ext x31
    replace X := Ext.trans X x31; clear x31
    refine ops_want rfl rfl rfl (ow_not rfl ?_)
    refine ops_cons rfl (ow_pick rfl rfl ?_)
    refine ops_cons rfl (ow_move rfl ?_)
    refine ops_want rfl rfl rfl (ow_move rfl ?_)
    refine ops_want rfl rfl rfl (ow_move rfl ?_)
    refine ops_want rfl rfl rfl (ow_neq2 rfl rfl (fun h33 => absurd h33 (by simp)) (fun h33 => ?_))
    refine ops_cons rfl (ow_pick rfl rfl ?_)
    refine ops_nil ?_
    refine c_false rfl ?_
    refine c_skip ?_
    refine tq_n ?_
    refine c_seqR ?_
    refine ops_cons rfl (ow_assign rfl ?_)
    refine ops_nil ?_
    refine c_seqR ?_
    refine ops_cons rfl (ow_move rfl ?_)
    refine ops_cons rfl (ow_move rfl ?_)
    refine ops_cons rfl (ow_call ent40 rfl (ret_mono (markBk_c _ _ _ _ _ _ oI hl2 (by omega)) ?_))
    rintro _ w35 ⟨rfl, oI2, x34⟩
    replace hs := hs.grown x34 (fun g hg => Nat.le_trans Bhs (Nat.le_trans LoI (Own.lt oI hg).1))
    replace sS := sS.grown x34 (fun g hg => Nat.le_trans LS (Own.lt oI hg).1)
    replace oX2 := oX2.grown x34 (fun g hg e => absurd (UX g e) (Nat.not_lt.2 (Own.lt oI hg).1))
    replace X := X.grown x34 X.size (fun g hg => Nat.le_trans LoI (Own.lt oI hg).1); clear x34 oI
    refine ops_cons rfl (ow_assign rfl ?_)
    refine ops_nil ?_
    refine c_seqR ?_
    refine ops_cons rfl (ow_assign rfl ?_)
    refine ops_nil ?_
    refine c_seqR ?_
    refine ops_cons rfl (ow_move rfl ?_)
    refine ops_cons rfl (ow_move rfl ?_)
    refine ops_cons rfl (ow_call ent41 rfl (ret_mono (heldBk_c _ _ _ _ _ _ (oI2).sl hl2 (by omega)) ?_))
    rintro _ w37 ⟨rfl, x36⟩
    replace hs := hs.ext x36
    replace sS := sS.ext x36
    replace oX2 := oX2.ext x36
    replace oI2 := oI2.ext x36
    replace X := Ext.trans X x36; clear x36
    refine ops_cons rfl (ow_assign rfl ?_)
    refine ops_nil ?_
    refine c_seq ?_
    refine c_seqR ?_
    refine ops_cons rfl (ow_move rfl ?_)
    refine ops_cons rfl (ow_lss2 rfl rfl (fun h38 => absurd h38 (by omega)) (fun h38 => ?_))
    refine ops_nil ?_
    refine c_false rfl ?_
    refine c_skip ?_
    refine tq_n ?_
    refine c_seq ?_
    refine c_seqR ?_
    refine ops_cons rfl (ow_move rfl ?_)
    refine ops_cons rfl (ow_move rfl ?_)
    refine ops_cons rfl (ow_neq2 rfl rfl (fun h39 => absurd h39 (by simp)) (fun h39 => ?_))
    refine ops_nil ?_
    refine c_false rfl ?_
    refine c_skip ?_
    refine tq_n ?_
    refine c_seqR ?_
    refine ops_cons rfl (ow_move rfl ?_)
    refine ops_cons rfl (ow_call ent25 rfl (ret_mono (toDemS_c _ _ _ _ _ hs hl) ?_))
    rintro _ w41 ⟨A42, c43, rfl, oC2, x40⟩
    replace oC2 := Own.low oC2 X.size
    replace hs := hs.ext x40
    replace sS := sS.ext x40
    replace oX2 := oX2.ext x40
    replace oI2 := oI2.ext x40
    replace X := Ext.trans X x40; clear x40
    refine ops_cons rfl (ow_move rfl ?_)
    refine ops_cons rfl (ow_move rfl ?_)
    refine ops_cons rfl (ow_call ent33 rfl (ret_mono (iPD_c _ _ _ _ _ _ _ (oC2).sl hl) ?_))
    rintro _ w45 ⟨A47, c48, rfl, o46, x44⟩
    replace o46 := Own.low o46 X.size
    replace hs := hs.ext x44
    replace sS := sS.ext x44
    replace oX2 := oX2.ext x44
    replace oI2 := oI2.ext x44
    replace oC2 := oC2.ext x44
    replace X := Ext.trans X x44; clear x44
    refine ops_cons rfl (ow_move rfl ?_)
    refine ops_cons rfl (ow_extract rfl rfl ?_)
    refine ops_cons rfl (ow_extract rfl rfl ?_)
    refine ops_cons rfl (ow_assign rfl ?_)
    refine ops_cons rfl (ow_assign rfl ?_)
    refine ops_nil ?_
    refine c_seq ?_
    refine c_seqR ?_
    refine ops_cons rfl (ow_move rfl ?_)
    refine ops_cons rfl (ow_move rfl ?_)
    refine ops_cons rfl (ow_call ent38 rfl (ret_mono (eqBkS_c _ _ _ _ _ _ _ _ (o46).sl sS hl2) ?_))
    rintro _ w50 ⟨rfl, x49⟩
    replace hs := hs.ext x49
    replace sS := sS.ext x49
    replace oX2 := oX2.ext x49
    replace oI2 := oI2.ext x49
    replace oC2 := oC2.ext x49
    replace o46 := o46.ext x49
    replace X := Ext.trans X x49; clear x49
    refine ops_cons rfl (ow_not rfl ?_)
    refine ops_cons rfl (ow_move rfl ?_)
    refine ops_want rfl rfl rfl (ow_move rfl ?_)
    refine ops_want rfl rfl rfl (ow_move rfl ?_)
    refine ops_want rfl rfl rfl (ow_neq2 rfl rfl (fun h51 => absurd h51 (by simp)) (fun h51 => ?_))
    refine ops_cons rfl (ow_pick rfl rfl ?_)
    refine ops_nil ?_
    refine c_false rfl ?_
    refine c_skip ?_
    refine tq_n ?_
    refine c_seqR ?_
    refine ops_cons rfl (ow_assign rfl ?_)
    refine ops_nil ?_
    refine c_seqR ?_
    refine ops_cons rfl (ow_move rfl ?_)
    refine ops_cons rfl (ow_move rfl ?_)
    refine ops_cons rfl (ow_call ent41 rfl (ret_mono (heldBk_c _ _ _ _ _ _ (oI2).sl hl2 (by omega)) ?_))
    rintro _ w53 ⟨rfl, x52⟩
    replace hs := hs.ext x52
    replace sS := sS.ext x52
    replace oX2 := oX2.ext x52
    replace oI2 := oI2.ext x52
    replace oC2 := oC2.ext x52
    replace o46 := o46.ext x52
    replace X := Ext.trans X x52; clear x52
    refine ops_cons rfl (ow_assign rfl ?_)
    refine ops_nil ?_
    refine c_seq ?_
    refine c_seqR ?_
    refine ops_cons rfl (ow_move rfl ?_)
    refine ops_cons rfl (ow_lss2 rfl rfl (fun h54 => absurd h54 (by omega)) (fun h54 => ?_))
    refine ops_nil ?_
    refine c_false rfl ?_
    refine c_skip ?_
    refine tq_n ?_
    refine c_seq ?_
    refine c_seqR ?_
    refine ops_cons rfl (ow_move rfl ?_)
    refine ops_cons rfl (ow_move rfl ?_)
    refine ops_cons rfl (ow_neq2 rfl rfl (fun h55 => absurd h55 (by simp)) (fun h55 => ?_))
    refine ops_nil ?_
    refine c_false rfl ?_
    refine c_skip ?_
    refine tq_n ?_
    refine c_seqR ?_
    refine ops_cons rfl (ow_assign rfl ?_)
    refine ops_nil ?_
    refine c_ret ?_
    refine fin_ret1 rfl rfl ?_
    exact ⟨rfl, X⟩
set_option maxRecDepth 100000

theorem fnExactPlanDemands_lifted (os : Os) (started : os.Started) (H : Type) (enc : TypeId × Value → H) :
    ReturnsInHanded {} Try.checked os 8 .any (Rows.fnExactPlanDemandsSpec.pre6 enc Try.prog Try.f8 Rows.fnExactPlanDemandsRow.domain false) (Rows.fnExactPlanDemandsSpec.post enc Try.prog Try.f8 false true false false) := by
  refine returnsInHanded_of_change (C := Try.checked) law_own started (by kernel_rfl) Try.func8
    (ChangeSpec.witness6 (enc := enc) (C := Try.checked) false ⟨#[], #[.slice none 0 0, .int .i64 0, .int .i64 0], []⟩ 8 (by kernel_rfl) (by kernel_rfl) (by kernel_rfl) (by kernel_rfl)) ?_
  intro W base args ds gs before hval0 hW hcnd _
  have hval : ∀ (j : Nat) t v, Try.f8.params[j]? = some t → args[j]? = some v → Value.okWide Try.prog W .any base t v := hval0
  have hW' := hW
  obtain ⟨p, q, hA0, hV, rfl, hfz, hnd⟩ := hW
  have hA : DataW.TrodAll enc Try.prog W 0 (fun _ => true) true Try.f8.params.toList args.toList ds p := hA0
  rw [Try.params8] at hA hval
  obtain ⟨rfl, rfl⟩ := trodVars_none hV
  obtain ⟨v0, vs0, d0, ds0, p0, q0, hargs, rfl, rfl, h0, r0⟩ := trodAll_cons hA
  obtain ⟨v1, vs1, d1, ds1, p1, q1, rfl, rfl, rfl, h1, r1⟩ := trodAll_cons r0
  obtain ⟨v2, vs2, d2, ds2, p2, q2, rfl, rfl, rfl, h2, r2⟩ := trodAll_cons r1
  obtain ⟨rfl, rfl, rfl⟩ := trodAll_nil r2
  obtain rfl : args = #[v0, v1, v2] := by cases args; simp_all
  obtain ⟨a0, l0, k0, rfl⟩ := okWide_slice Try.underlying32 (hval 0 32 v0 rfl rfl)
  obtain ⟨m0, x0, t0⟩ := cell_of rfl h0
  obtain ⟨Axs, xs, cxs, exs, sxs, wxs, lxs⟩ := open_sl (s := 3) Try.underlying32 (by kernel_rfl) Dem.len (by omega) (fun _ _ _ h => open_Dem h) t0
  rw [exs]
  obtain ⟨rounds, rfl, _, _, _⟩ := open_int Try.underlying2 (hval 1 2 v1 rfl rfl) h1
  obtain ⟨slots, rfl, _, _, _⟩ := open_int Try.underlying2 (hval 2 2 v2 rfl rfl) h2
  refine Calls.mono (law_FnExactPlanDemands _ _ _ _ rounds slots W sxs lxs) fun e W' h => ?_
  cases e <;> first | exact h.elim | skip
  obtain ⟨rfl, hb⟩ := h
  exact ⟨_, rfl, law_post law_laid (by kernel_rfl) rfl rfl Try.underlying4 (by rw [← exs]; exact hW') rfl hb⟩

theorem fnExactPlanDemands_holds : Rows.FnExactPlanDemandsSaid :=
  OpenClaim.holds_of_wide 8 Try.f8 rfl rfl rfl rfl rfl rfl rfl ⟨rfl, rfl, rfl, rfl, rfl⟩ rfl rfl rfl rfl rfl (by kernel_rfl) Try.func8 (by kernel_rfl)
    (of_decide_eq_true (by kernel_rfl)) (by unfold Func.isWrapper; rw [if_neg (of_decide_eq_false (by kernel_rfl))]; exact ⟨rfl, rfl⟩)
    (fun os started H enc _ => fnExactPlanDemands_lifted os started H enc)
end Go.Proofs.Ytimabffnoanciaa
