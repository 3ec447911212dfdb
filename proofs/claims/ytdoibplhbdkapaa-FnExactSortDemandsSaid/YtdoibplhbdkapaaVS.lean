/- The law FnExactSortDemands answers true for all arguments that its row admits, and leaves what was there before as it was. No condition. -/
import Derived.Test.YtdoibplhbdkapaaSC
import Derived.Test.YtdoibplhbdkapaaU4
import Derived.Test.YtdoibplhbdkapaaFlowR
namespace Go.Proofs.Ytdoibplhbdkapaa
open Go.ChangeShapes Go.WideShapes Go.ChangeAt Go.RowKit
set_option linter.unusedVariables false
set_option linter.unusedSimpArgs false
set_option maxRecDepth 20000
def Dem.ok (d : Dem) : Prop := In64 d.node ∧ In64 d.every ∧ In64 d.size
theorem law_own : ownKnob Try.prog.godebug = none := by kernel_rfl
theorem law_laid : laidOutB Try.prog = true := by kernel_rfl
theorem open_Dem {H : Type} {enc : TypeId × Value → H} {W : World} {sp : Nat → Bool} {fuel : Nat} {cs : List Value} {x : DataW H × List MemPlace} (h : DataW.trod enc Try.prog W 0 sp true fuel 75 cs = some x) : ∃ d : Dem, cs = d.cells ∧ d.ok := by
  have hl : cs.length = 3 := (len_of Try.underlying75 h).trans (by kernel_rfl)
  match cs, hl with
  | [c0, c1, c2], _ =>
    obtain ⟨n0, y0, h0⟩ := trod_field Try.underlying75 h 0 rfl
    obtain ⟨z0, e0, w0⟩ := open_i64 Try.underlying2 h0
    obtain rfl : c0 = .int .i64 z0 := by have e := show [c0] = [.int .i64 z0] from e0; injection e
    obtain ⟨n1, y1, h1⟩ := trod_field Try.underlying75 h 1 rfl
    obtain ⟨z1, e1, w1⟩ := open_i64 Try.underlying2 h1
    obtain rfl : c1 = .int .i64 z1 := by have e := show [c1] = [.int .i64 z1] from e1; injection e
    obtain ⟨n2, y2, h2⟩ := trod_field Try.underlying75 h 2 rfl
    obtain ⟨z2, e2, w2⟩ := open_i64 Try.underlying2 h2
    obtain rfl : c2 = .int .i64 z2 := by have e := show [c2] = [.int .i64 z2] from e2; injection e
    exact ⟨⟨z0, z1, z2⟩, rfl, ⟨w0, w1, w2⟩⟩
theorem law_FnExactSortDemands (A : Option Addr) (B c : Nat) (xs : List Dem) (w : World) (hs : Sl B w A (xs.flatMap Dem.cells)) (hm : xs.length ≤ 9223372036854775807) :
    Calls Try.prog 4 #[.slice A xs.length c] w (Ret fun v w' => v = .bool true ∧ Ext w w') := by
  have Bhs := hs.1
  have X := Ext.refl w
  refine calls_of (args := [.slice A xs.length c]) Try.func4 Try.ntmps4 rfl rfl ?_
  refine c_seqR ?_
  refine ops_cons rfl (ow_assign rfl ?_)
  refine ops_nil ?_
  refine c_seqR ?_
  refine ops_cons rfl (ow_assign rfl ?_)
  refine ops_nil ?_
  refine c_seqR ?_
  refine ops_cons rfl (ow_move rfl ?_)
  refine ops_cons rfl (ow_move rfl ?_)
  refine ops_cons rfl (ow_call ent11 rfl (ret_mono (szDem_c _ _ _ _ hm) ?_))
  rintro _ w2 ⟨rfl, x1⟩
  replace hs := hs.ext x1
  replace X := Ext.trans X x1; clear x1
  refine ops_cons rfl (ow_assign rfl ?_)
  refine ops_nil ?_
  refine c_seq ?_
  refine c_seqR ?_
  refine ops_cons rfl (ow_move rfl ?_)
  refine ops_cons rfl (ow_lss2 rfl rfl (fun hz0 => ?_) (fun hz0 => ?_))
  refine ops_nil ?_
  refine c_true rfl ?_
  refine c_seqR ?_
  refine ops_cons rfl (ow_assign rfl ?_)
  refine ops_nil ?_
  refine c_ret ?_
  refine tq_r ?_
  refine fin_ret1 rfl rfl ?_
  exact ⟨rfl, X⟩
  have hl : xs.length ≤ 1048576 := by
    by_cases h : 1048576 - (xs.length : Int) < 0
    · rw [if_pos h] at hz0; omega
    · omega
  refine ops_nil ?_
  refine c_false rfl ?_
  refine c_skip ?_
  refine tq_n ?_
  refine c_seqR ?_
  refine ops_cons rfl (ow_move rfl ?_)
  refine ops_cons rfl (ow_call ent13 rfl (ret_mono (toDemS_c _ _ _ _ _ hs hl) ?_))
  rintro _ w4 ⟨A5, c6, rfl, oC0, x3⟩
  replace oC0 := Own.low oC0 X.size
  replace hs := hs.ext x3
  replace X := Ext.trans X x3; clear x3
  refine ops_cons rfl (ow_call ent12 rfl (ret_mono (sSort_c _ _ _ _ _ (oC0).sl hl) ?_))
  rintro _ w9 ⟨A10, c11, rfl, oS, x7⟩
  replace oS := Own.low oS X.size
  replace hs := hs.ext x7
  replace oC0 := oC0.ext x7
  replace X := Ext.trans X x7; clear x7
  have hl2 := sortF_len xs hl
  have sS := oS.sl
  clear oS oC0
  refine ops_cons rfl (ow_move rfl ?_)
  refine ops_cons rfl (ow_extract rfl rfl ?_)
  refine ops_cons rfl (ow_extract rfl rfl ?_)
  refine ops_cons rfl (ow_assign rfl ?_)
  refine ops_cons rfl (ow_assign rfl ?_)
  refine ops_nil ?_
  refine c_seqR ?_
  refine ops_cons rfl (ow_move rfl ?_)
  refine ops_cons rfl (ow_call ent13 rfl (ret_mono (toDemS_c _ _ _ _ _ hs hl) ?_))
  rintro _ w13 ⟨A14, c15, rfl, oX, x12⟩
  have LoX := X.size
  replace hs := hs.ext x12
  replace sS := sS.ext x12
  replace X := Ext.trans X x12; clear x12
  refine ops_cons rfl (ow_assign rfl ?_)
  refine ops_nil ?_
  refine c_seqR ?_
  refine ops_cons rfl (ow_move rfl ?_)
  have LS := sS.1
  have UX := fun g hg => (Own.lt oX (g := g) hg).2
  refine ops_cons rfl (ow_call ent14 rfl (ret_mono (iSort_c _ _ _ _ _ (oX).sl hl) ?_))
  rintro _ w17 ⟨A18, c19, rfl, oI, x16⟩
  have LoI := X.size
  replace hs := hs.ext x16
  replace sS := sS.ext x16
  replace oX := oX.ext x16
  replace X := Ext.trans X x16; clear x16
  refine ops_cons rfl (ow_move rfl ?_)
  refine ops_cons rfl (ow_extract rfl rfl ?_)
  refine ops_cons rfl (ow_extract rfl rfl ?_)
  refine ops_cons rfl (ow_assign rfl ?_)
  refine ops_cons rfl (ow_assign rfl ?_)
  refine ops_nil ?_
  refine c_seq ?_
  refine c_seqR ?_
  refine ops_cons rfl (ow_move rfl ?_)
  refine ops_cons rfl (ow_move rfl ?_)
  refine ops_cons rfl (ow_call ent15 rfl (ret_mono (eqDemS_c _ _ _ _ _ _ _ _ (oI).sl sS hl2) ?_))
  rintro _ w21 ⟨rfl, x20⟩
  replace hs := hs.ext x20
  replace sS := sS.ext x20
  replace oX := oX.ext x20
  replace oI := oI.ext x20
  replace X := Ext.trans X x20; clear x20
  refine ops_cons rfl (ow_not rfl ?_)
  refine ops_cons rfl (ow_move rfl ?_)
  refine ops_want rfl rfl rfl (ow_move rfl ?_)
  refine ops_want rfl rfl rfl (ow_move rfl ?_)
  refine ops_want rfl rfl rfl (ow_neq2 rfl rfl (fun h22 => absurd h22 (by simp)) (fun h22 => ?_))
  refine ops_cons rfl (ow_pick rfl rfl ?_)
  refine ops_nil ?_
  refine c_false rfl ?_
  refine c_skip ?_
  refine tq_n ?_
  refine c_seq ?_
  refine c_seqR ?_
  refine ops_cons rfl (ow_move rfl ?_)
  refine ops_cons rfl (ow_move rfl ?_)
  refine ops_cons rfl (ow_call ent13 rfl (ret_mono (toDemS_c _ _ _ _ _ hs hl) ?_))
  rintro _ w24 ⟨A25, c26, rfl, oC1, x23⟩
  replace oC1 := Own.low oC1 X.size
  replace hs := hs.ext x23
  replace sS := sS.ext x23
  replace oX := oX.ext x23
  replace oI := oI.ext x23
  replace X := Ext.trans X x23; clear x23
  refine ops_cons rfl (ow_call ent15 rfl (ret_mono (eqDemS_c _ _ _ _ _ _ _ _ (oX).sl (oC1).sl hl) ?_))
  rintro _ w28 ⟨rfl, x27⟩
  replace hs := hs.ext x27
  replace sS := sS.ext x27
  replace oX := oX.ext x27
  replace oI := oI.ext x27
  replace oC1 := oC1.ext x27
  replace X := Ext.trans X x27; clear x27
  clear oC1
  refine ops_cons rfl (ow_not rfl ?_)
  refine ops_nil ?_
  refine c_false rfl ?_
  refine c_skip ?_
  refine tq_n ?_
  refine c_seqR ?_
  refine ops_cons rfl (ow_assign rfl ?_)
  refine ops_nil ?_
  refine c_seqR ?_
  refine ops_cons rfl (ow_move rfl ?_)
  refine ops_cons rfl (ow_move rfl ?_)
  refine ops_cons rfl (ow_call ent16 rfl (ret_mono (markDem_c _ _ _ _ _ _ oX hl (by omega)) ?_))
  rintro _ w30 ⟨rfl, oX2, x29⟩
  replace hs := hs.grown x29 (fun g hg => Nat.le_trans Bhs (Nat.le_trans LoX (Own.lt oX hg).1))
  replace sS := sS.grown x29 (fun g hg => (Own.lt oX hg).1)
  replace oI := oI.grown x29 (fun g hg e => absurd (UX g hg) (Nat.not_lt.2 (Own.lt oI e).1))
  replace X := X.grown x29 X.size (fun g hg => Nat.le_trans LoX (Own.lt oX hg).1); clear x29 oX
  refine ops_cons rfl (ow_assign rfl ?_)
  refine ops_nil ?_
  refine c_seq ?_
  refine c_seqR ?_
  refine ops_cons rfl (ow_move rfl ?_)
  refine ops_cons rfl (ow_lss2 rfl rfl (fun h31 => absurd h31 (by omega)) (fun h31 => ?_))
  refine ops_cons rfl (ow_move rfl ?_)
  refine ops_want rfl rfl rfl (ow_move rfl ?_)
  refine ops_want rfl rfl rfl (ow_move rfl ?_)
  refine ops_want rfl rfl rfl (ow_call ent15 rfl (ret_mono (eqDemS_c _ _ _ _ _ _ _ _ (oI).sl sS hl2) ?_))
  rintro _ w33 ⟨rfl, x32⟩
  replace hs := hs.ext x32
  replace sS := sS.ext x32
  replace oI := oI.ext x32
  replace oX2 := oX2.ext x32
  replace X := Ext.trans X x32; clear x32
  refine ops_want rfl rfl rfl (ow_not rfl ?_)
  refine ops_cons rfl (ow_pick rfl rfl ?_)
  refine ops_cons rfl (ow_move rfl ?_)
  refine ops_want rfl rfl rfl (ow_move rfl ?_)
  refine ops_want rfl rfl rfl (ow_move rfl ?_)
  refine ops_want rfl rfl rfl (ow_neq2 rfl rfl (fun h34 => absurd h34 (by simp)) (fun h34 => ?_))
  refine ops_cons rfl (ow_pick rfl rfl ?_)
  refine ops_nil ?_
  refine c_false rfl ?_
  refine c_skip ?_
  refine tq_n ?_
  refine c_seqR ?_
  refine ops_cons rfl (ow_assign rfl ?_)
  refine ops_nil ?_
  refine c_seqR ?_
  refine ops_cons rfl (ow_move rfl ?_)
  refine ops_cons rfl (ow_move rfl ?_)
  refine ops_cons rfl (ow_call ent16 rfl (ret_mono (markDem_c _ _ _ _ _ _ oI hl2 (by omega)) ?_))
  rintro _ w36 ⟨rfl, oI2, x35⟩
  replace hs := hs.grown x35 (fun g hg => Nat.le_trans Bhs (Nat.le_trans LoI (Own.lt oI hg).1))
  replace sS := sS.grown x35 (fun g hg => Nat.le_trans LS (Own.lt oI hg).1)
  replace oX2 := oX2.grown x35 (fun g hg e => absurd (UX g e) (Nat.not_lt.2 (Own.lt oI hg).1))
  replace X := X.grown x35 X.size (fun g hg => Nat.le_trans LoI (Own.lt oI hg).1); clear x35 oI
  refine ops_cons rfl (ow_assign rfl ?_)
  refine ops_nil ?_
  refine c_seqR ?_
  refine ops_cons rfl (ow_assign rfl ?_)
  refine ops_nil ?_
  refine c_seqR ?_
  refine ops_cons rfl (ow_move rfl ?_)
  refine ops_cons rfl (ow_move rfl ?_)
  refine ops_cons rfl (ow_call ent17 rfl (ret_mono (heldDem_c _ _ _ _ _ _ (oI2).sl hl2 (by omega)) ?_))
  rintro _ w38 ⟨rfl, x37⟩
  replace hs := hs.ext x37
  replace sS := sS.ext x37
  replace oX2 := oX2.ext x37
  replace oI2 := oI2.ext x37
  replace X := Ext.trans X x37; clear x37
  refine ops_cons rfl (ow_assign rfl ?_)
  refine ops_nil ?_
  refine c_seq ?_
  refine c_seqR ?_
  refine ops_cons rfl (ow_move rfl ?_)
  refine ops_cons rfl (ow_lss2 rfl rfl (fun h39 => absurd h39 (by omega)) (fun h39 => ?_))
  refine ops_nil ?_
  refine c_false rfl ?_
  refine c_skip ?_
  refine tq_n ?_
  refine c_seq ?_
  refine c_seqR ?_
  refine ops_cons rfl (ow_move rfl ?_)
  refine ops_cons rfl (ow_move rfl ?_)
  refine ops_cons rfl (ow_neq2 rfl rfl (fun h40 => absurd h40 (by simp)) (fun h40 => ?_))
  refine ops_nil ?_
  refine c_false rfl ?_
  refine c_skip ?_
  refine tq_n ?_
  refine c_seqR ?_
  refine ops_cons rfl (ow_move rfl ?_)
  refine ops_cons rfl (ow_call ent13 rfl (ret_mono (toDemS_c _ _ _ _ _ hs hl) ?_))
  rintro _ w42 ⟨A43, c44, rfl, oC2, x41⟩
  replace oC2 := Own.low oC2 X.size
  replace hs := hs.ext x41
  replace sS := sS.ext x41
  replace oX2 := oX2.ext x41
  replace oI2 := oI2.ext x41
  replace X := Ext.trans X x41; clear x41
  refine ops_cons rfl (ow_call ent14 rfl (ret_mono (iSort_c _ _ _ _ _ (oC2).sl hl) ?_))
  rintro _ w46 ⟨A48, c49, rfl, o47, x45⟩
  replace o47 := Own.low o47 X.size
  replace hs := hs.ext x45
  replace sS := sS.ext x45
  replace oX2 := oX2.ext x45
  replace oI2 := oI2.ext x45
  replace oC2 := oC2.ext x45
  replace X := Ext.trans X x45; clear x45
  refine ops_cons rfl (ow_move rfl ?_)
  refine ops_cons rfl (ow_extract rfl rfl ?_)
  refine ops_cons rfl (ow_extract rfl rfl ?_)
  refine ops_cons rfl (ow_assign rfl ?_)
  refine ops_cons rfl (ow_assign rfl ?_)
  refine ops_nil ?_
  refine c_seq ?_
  refine c_seqR ?_
  refine ops_cons rfl (ow_move rfl ?_)
  refine ops_cons rfl (ow_move rfl ?_)
  refine ops_cons rfl (ow_call ent15 rfl (ret_mono (eqDemS_c _ _ _ _ _ _ _ _ (o47).sl sS hl2) ?_))
  rintro _ w51 ⟨rfl, x50⟩
  replace hs := hs.ext x50
  replace sS := sS.ext x50
  replace oX2 := oX2.ext x50
  replace oI2 := oI2.ext x50
  replace oC2 := oC2.ext x50
  replace o47 := o47.ext x50
  replace X := Ext.trans X x50; clear x50
  refine ops_cons rfl (ow_not rfl ?_)
  refine ops_cons rfl (ow_move rfl ?_)
  refine ops_want rfl rfl rfl (ow_move rfl ?_)
  refine ops_want rfl rfl rfl (ow_move rfl ?_)
  refine ops_want rfl rfl rfl (ow_neq2 rfl rfl (fun h52 => absurd h52 (by simp)) (fun h52 => ?_))
  refine ops_cons rfl (ow_pick rfl rfl ?_)
  refine ops_nil ?_
  refine c_false rfl ?_
  refine c_skip ?_
  refine tq_n ?_
  refine c_seqR ?_
  refine ops_cons rfl (ow_assign rfl ?_)
  refine ops_nil ?_
  refine c_seqR ?_
  refine ops_cons rfl (ow_move rfl ?_)
  refine ops_cons rfl (ow_move rfl ?_)
  refine ops_cons rfl (ow_call ent17 rfl (ret_mono (heldDem_c _ _ _ _ _ _ (oI2).sl hl2 (by omega)) ?_))
  rintro _ w54 ⟨rfl, x53⟩
  replace hs := hs.ext x53
  replace sS := sS.ext x53
  replace oX2 := oX2.ext x53
  replace oI2 := oI2.ext x53
  replace oC2 := oC2.ext x53
  replace o47 := o47.ext x53
  replace X := Ext.trans X x53; clear x53
  refine ops_cons rfl (ow_assign rfl ?_)
  refine ops_nil ?_
  refine c_seq ?_
  refine c_seqR ?_
  refine ops_cons rfl (ow_move rfl ?_)
  refine ops_cons rfl (ow_lss2 rfl rfl (fun h55 => absurd h55 (by omega)) (fun h55 => ?_))
  refine ops_nil ?_
  refine c_false rfl ?_
  refine c_skip ?_
  refine tq_n ?_
  refine c_seq ?_
  refine c_seqR ?_
  refine ops_cons rfl (ow_move rfl ?_)
  refine ops_cons rfl (ow_move rfl ?_)
  refine ops_cons rfl (ow_neq2 rfl rfl (fun h56 => absurd h56 (by simp)) (fun h56 => ?_))
  refine ops_nil ?_
  refine c_false rfl ?_
  refine c_skip ?_
  refine tq_n ?_
  refine c_seqR ?_
  refine ops_cons rfl (ow_assign rfl ?_)
  refine ops_nil ?_
  refine c_ret ?_
  refine fin_ret1 rfl rfl ?_
  exact ⟨rfl, X⟩
set_option maxRecDepth 100000

theorem fnExactSortDemands_lifted (os : Os) (started : os.Started) (H : Type) (enc : TypeId × Value → H) :
    ReturnsInHanded {} Try.checked os 4 .any (Rows.fnExactSortDemandsSpec.pre6 enc Try.prog Try.f4 Rows.fnExactSortDemandsRow.domain false) (Rows.fnExactSortDemandsSpec.post enc Try.prog Try.f4 false true false false) := by
  refine returnsInHanded_of_change (C := Try.checked) law_own started (by kernel_rfl) Try.func4
    (ChangeSpec.witness6 (enc := enc) (C := Try.checked) false ⟨#[], #[.slice none 0 0], []⟩ 8 (by kernel_rfl) (by kernel_rfl) (by kernel_rfl) (by kernel_rfl)) ?_
  intro W base args ds gs before hval0 hW hcnd _
  have hval : ∀ (j : Nat) t v, Try.f4.params[j]? = some t → args[j]? = some v → Value.okWide Try.prog W .any base t v := hval0
  have hW' := hW
  obtain ⟨p, q, hA0, hV, rfl, hfz, hnd⟩ := hW
  have hA : DataW.TrodAll enc Try.prog W 0 (fun _ => true) true Try.f4.params.toList args.toList ds p := hA0
  rw [Try.params4] at hA hval
  obtain ⟨rfl, rfl⟩ := trodVars_none hV
  obtain ⟨v0, vs0, d0, ds0, p0, q0, hargs, rfl, rfl, h0, r0⟩ := trodAll_cons hA
  obtain ⟨rfl, rfl, rfl⟩ := trodAll_nil r0
  obtain rfl : args = #[v0] := by cases args; simp_all
  obtain ⟨a0, l0, k0, rfl⟩ := okWide_slice Try.underlying28 (hval 0 28 v0 rfl rfl)
  obtain ⟨m0, x0, t0⟩ := cell_of rfl h0
  obtain ⟨Axs, xs, cxs, exs, sxs, wxs, lxs⟩ := open_sl (s := 3) Try.underlying28 (by kernel_rfl) Dem.len (by omega) (fun _ _ _ h => open_Dem h) t0
  rw [exs]
  refine Calls.mono (law_FnExactSortDemands _ _ _ _ W sxs lxs) fun e W' h => ?_
  cases e <;> first | exact h.elim | skip
  obtain ⟨rfl, hb⟩ := h
  exact ⟨_, rfl, law_post law_laid (by kernel_rfl) rfl rfl Try.underlying4 (by rw [← exs]; exact hW') rfl hb⟩

theorem fnExactSortDemands_holds : Rows.FnExactSortDemandsSaid :=
  OpenClaim.holds_of_wide 4 Try.f4 rfl rfl rfl rfl rfl rfl rfl ⟨rfl, rfl, rfl, rfl, rfl⟩ rfl rfl rfl rfl rfl (by kernel_rfl) Try.func4 (by kernel_rfl)
    (of_decide_eq_true (by kernel_rfl)) (by unfold Func.isWrapper; rw [if_neg (of_decide_eq_false (by kernel_rfl))]; exact ⟨rfl, rfl⟩)
    (fun os started H enc _ => fnExactSortDemands_lifted os started H enc)
end Go.Proofs.Ytdoibplhbdkapaa
