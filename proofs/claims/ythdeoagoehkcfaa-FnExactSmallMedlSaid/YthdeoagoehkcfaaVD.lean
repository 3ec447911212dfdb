/- The law FnExactSmallMedl answers true for all arguments that its row admits, and leaves what was there before as it was. No condition. -/
import Derived.Test.YthdeoagoehkcfaaSM
import Derived.Test.YthdeoagoehkcfaaC4
import Derived.Test.YthdeoagoehkcfaaK3
import Derived.Test.YthdeoagoehkcfaaLW
namespace Go.Proofs.Ythdeoagoehkcfaa
open Go.ChangeShapes Go.WideShapes Go.ChangeAt Go.RowKit
set_option linter.unusedVariables false
set_option linter.unusedSimpArgs false
set_option maxRecDepth 20000
theorem law_FnExactSmallMedl  (w : World)  :
    Calls Try.prog 5 #[] w (Ret fun v w' => v = .bool true ∧ Ext w w') := by
  have X := Ext.refl w
  refine calls_of (args := []) Try.func5 Try.ntmps5 rfl rfl ?_
  refine c_seqR ?_
  refine ops_cons rfl (ow_assign rfl ?_)
  refine ops_nil ?_
  refine c_seqR ?_
  refine ops_cons rfl (ow_call ent18 rfl (ret_mono (sSmall_c _) ?_))
  rintro _ w2 ⟨mS, rfl, eS, oS, x1⟩
  replace oS := MOwn.low oS X.size
  replace X := Ext.trans X x1; clear x1
  have zS := small_small eS
  have sS := oS.med
  have LBS := X.size
  clear oS
  refine ops_cons rfl (ow_alloc ti37 ?_)
  intro gS w6 egS bS x5 zgS
  have lgS : w.heap.size ≤ gS := Nat.le_trans X.size (Nat.le_of_eq egS.symm)
  have pgSsS := Nat.le_trans sS.1 (Nat.le_of_eq egS.symm)
  replace sS := sS.ext x5
  replace X := Ext.trans X x5; clear x5
  refine ops_cons rfl (ow_storeB bS ti37 rfl rfl rfl rfl rfl rfl ?_)
  intro w8 bS2 hg7 z9
  replace sS := sS.grown hg7 (by intro g hg; injection hg; omega)
  replace X := X.grown hg7 X.size (by intro g hg; injection hg; omega)
  clear hg7 bS
  refine ops_nil ?_
  refine c_seqR ?_
  have LS := sS.1
  refine ops_cons rfl (ow_call ent19 rfl (ret_mono (iSmall_c _) ?_))
  rintro _ w11 ⟨mI, rfl, eI, oI, x10⟩
  have LoI := X.size
  replace sS := sS.ext x10
  replace bS2 := bS2.ext x10
  replace X := Ext.trans X x10; clear x10
  have zI := small_small eI
  refine ops_cons rfl (ow_alloc ti37 ?_)
  intro gI w15 egI bI x14 zgI
  have lgI : w.heap.size ≤ gI := Nat.le_trans X.size (Nat.le_of_eq egI.symm)
  have pgIsS := Nat.le_trans sS.1 (Nat.le_of_eq egI.symm)
  have ngIbS2 := Nat.lt_of_lt_of_eq bS2.lt egI.symm
  replace sS := sS.ext x14
  replace bS2 := bS2.ext x14
  replace oI := oI.ext x14
  replace X := Ext.trans X x14; clear x14
  refine ops_cons rfl (ow_storeB bI ti37 rfl rfl rfl rfl rfl rfl ?_)
  intro w17 bI2 hg16 z18
  replace sS := sS.grown hg16 (by intro g hg; injection hg; omega)
  replace bS2 := bS2.grown hg16 (by intro h; injection h; omega)
  replace oI := oI.grownB bI hg16 ⟨by decide, by decide, by decide, by decide⟩
  replace X := X.grown hg16 X.size (by intro g hg; injection hg; omega)
  clear hg16 bI
  refine ops_nil ?_
  refine c_seq ?_
  refine c_seqR ?_
  refine ops_cons rfl (ow_loadAB bI2 ti37 rfl rfl ?_)
  refine ops_cons rfl (ow_loadAB bS2 ti37 rfl rfl ?_)
  refine ops_cons rfl (ow_call ent20 rfl (ret_mono (eqMedl_c mI mS _ _ _ oI.med sS (eS.trans eI.symm) zI) ?_))
  rintro _ w20 ⟨rfl, x19⟩
  replace sS := sS.ext x19
  replace bS2 := bS2.ext x19
  replace oI := oI.ext x19
  replace bI2 := bI2.ext x19
  replace X := Ext.trans X x19; clear x19
  refine ops_cons rfl (ow_not rfl ?_)
  refine ops_nil ?_
  refine c_false rfl ?_
  refine c_skip ?_
  refine tq_n ?_
  refine c_seqR ?_
  refine ops_cons rfl (ow_assign rfl ?_)
  refine ops_nil ?_
  refine c_seqR ?_
  refine ops_cons rfl (ow_loadAB bI2 ti37 rfl rfl ?_)
  refine ops_cons rfl (ow_move rfl ?_)
  refine ops_cons rfl (ow_call ent21 rfl (ret_mono (markMedl_c mI _ _ 1 _ (oI.low LS) (fun g hg => hg.elim (fun h => (Own.lt oI.on h).2) (fun h => h.elim (fun h => (Own.lt oI.om h).2) (fun h => (Own.lt oI.os h).2))) (fun y hy g hg => (Own.lt (oI.ox y hy).1 hg).2) zI (by omega)) ?_))
  rintro _ wN ⟨rfl, oV, yN⟩
  obtain ⟨oN2, oM2, oP2, oS2⟩ := oV
  have xN := yN.win.below sS.1
  replace bS2 := bS2.kep yN.kep (by decide)
  replace bI2 := bI2.kep yN.kep (by decide)
  replace sS := sS.below xN
  replace X := Below.trans X (Below.mono xN LBS)
  have hE2 := endMedl_pos (a := 1) zI (by omega)
  clear oI
  refine ops_cons rfl (ow_assign rfl ?_)
  refine ops_nil ?_
  refine c_seqR ?_
  refine ops_cons rfl (ow_assign rfl ?_)
  refine ops_nil ?_
  refine c_seqR ?_
  refine ops_cons rfl (ow_loadAB bI2 ti37 rfl rfl ?_)
  refine ops_cons rfl (ow_move rfl ?_)
  refine ops_cons rfl (ow_call ent22 rfl (ret_mono (heldMedl_c mI _ _ _ _ 1 _ oN2.sl oM2.sl oP2.nexts oS2.sl zI (by omega)) ?_))
  rintro _ w22 ⟨rfl, x21⟩
  replace sS := sS.ext x21
  replace bS2 := bS2.ext x21
  replace bI2 := bI2.ext x21
  replace oN2 := oN2.ext x21
  replace oM2 := oM2.ext x21
  replace oP2 := oP2.ext x21
  replace oS2 := oS2.ext x21
  replace X := Ext.trans X x21; clear x21
  refine ops_cons rfl (ow_assign rfl ?_)
  refine ops_nil ?_
  refine c_seq ?_
  refine c_seqR ?_
  refine ops_cons rfl (ow_move rfl ?_)
  refine ops_cons rfl (ow_lss2 rfl rfl (fun h23 => absurd h23 (by omega)) (fun h23 => ?_))
  refine ops_nil ?_
  refine c_false rfl ?_
  refine c_skip ?_
  refine tq_n ?_
  refine c_seq ?_
  refine c_seqR ?_
  refine ops_cons rfl (ow_move rfl ?_)
  refine ops_cons rfl (ow_move rfl ?_)
  refine ops_cons rfl (ow_neq2 rfl rfl (fun h24 => absurd h24 (by simp)) (fun h24 => ?_))
  refine ops_nil ?_
  refine c_false rfl ?_
  refine c_skip ?_
  refine tq_n ?_
  refine c_seqR ?_
  refine ops_cons rfl (ow_call ent19 rfl (ret_mono (iSmall_c _) ?_))
  rintro _ w26 ⟨mJ, rfl, eJ, oJ, x25⟩
  replace oJ := MOwn.low oJ X.size
  replace sS := sS.ext x25
  replace bS2 := bS2.ext x25
  replace bI2 := bI2.ext x25
  replace oN2 := oN2.ext x25
  replace oM2 := oM2.ext x25
  replace oP2 := oP2.ext x25
  replace oS2 := oS2.ext x25
  replace X := Ext.trans X x25; clear x25
  have zJ := small_small eJ
  refine ops_cons rfl (ow_alloc ti37 ?_)
  intro gJ w30 egJ bJ x29 zgJ
  have lgJ : w.heap.size ≤ gJ := Nat.le_trans X.size (Nat.le_of_eq egJ.symm)
  have pgJsS := Nat.le_trans sS.1 (Nat.le_of_eq egJ.symm)
  have ngJbS2 := Nat.lt_of_lt_of_eq bS2.lt egJ.symm
  have ngJbI2 := Nat.lt_of_lt_of_eq bI2.lt egJ.symm
  replace sS := sS.ext x29
  replace bS2 := bS2.ext x29
  replace bI2 := bI2.ext x29
  replace oN2 := oN2.ext x29
  replace oM2 := oM2.ext x29
  replace oP2 := oP2.ext x29
  replace oS2 := oS2.ext x29
  replace oJ := oJ.ext x29
  replace X := Ext.trans X x29; clear x29
  refine ops_cons rfl (ow_storeB bJ ti37 rfl rfl rfl rfl rfl rfl ?_)
  intro w32 bJ2 hg31 z33
  replace sS := sS.grown hg31 (by intro g hg; injection hg; omega)
  replace bS2 := bS2.grown hg31 (by intro h; injection h; omega)
  replace bI2 := bI2.grown hg31 (by intro h; injection h; omega)
  replace oN2 := oN2.grownBlk hg31 (Own.neT oN2 bJ (by decide))
  replace oM2 := oM2.grownBlk hg31 (Own.neT oM2 bJ (by decide))
  replace oP2 := oP2.grownB bJ hg31 (by decide)
  replace oS2 := oS2.grownBlk hg31 (Own.neT oS2 bJ (by decide))
  replace oJ := oJ.grownB bJ hg31 ⟨by decide, by decide, by decide, by decide⟩
  replace X := X.grown hg31 X.size (by intro g hg; injection hg; omega)
  clear hg31 bJ
  refine ops_nil ?_
  refine c_seq ?_
  refine c_seqR ?_
  refine ops_cons rfl (ow_loadAB bJ2 ti37 rfl rfl ?_)
  refine ops_cons rfl (ow_loadAB bS2 ti37 rfl rfl ?_)
  refine ops_cons rfl (ow_call ent20 rfl (ret_mono (eqMedl_c mJ mS _ _ _ oJ.med sS (eS.trans eJ.symm) zJ) ?_))
  rintro _ w35 ⟨rfl, x34⟩
  replace sS := sS.ext x34
  replace bS2 := bS2.ext x34
  replace bI2 := bI2.ext x34
  replace oN2 := oN2.ext x34
  replace oM2 := oM2.ext x34
  replace oP2 := oP2.ext x34
  replace oS2 := oS2.ext x34
  replace oJ := oJ.ext x34
  replace bJ2 := bJ2.ext x34
  replace X := Ext.trans X x34; clear x34
  clear oJ
  refine ops_cons rfl (ow_not rfl ?_)
  refine ops_nil ?_
  refine c_false rfl ?_
  refine c_skip ?_
  refine tq_n ?_
  refine c_seqR ?_
  refine ops_cons rfl (ow_assign rfl ?_)
  refine ops_nil ?_
  refine c_seqR ?_
  refine ops_cons rfl (ow_loadAB bI2 ti37 rfl rfl ?_)
  refine ops_cons rfl (ow_move rfl ?_)
  refine ops_cons rfl (ow_call ent22 rfl (ret_mono (heldMedl_c mI _ _ _ _ 1 _ oN2.sl oM2.sl oP2.nexts oS2.sl zI (by omega)) ?_))
  rintro _ w37 ⟨rfl, x36⟩
  replace sS := sS.ext x36
  replace bS2 := bS2.ext x36
  replace bI2 := bI2.ext x36
  replace oN2 := oN2.ext x36
  replace oM2 := oM2.ext x36
  replace oP2 := oP2.ext x36
  replace oS2 := oS2.ext x36
  replace bJ2 := bJ2.ext x36
  replace X := Ext.trans X x36; clear x36
  refine ops_cons rfl (ow_assign rfl ?_)
  refine ops_nil ?_
  refine c_seq ?_
  refine c_seqR ?_
  refine ops_cons rfl (ow_move rfl ?_)
  refine ops_cons rfl (ow_lss2 rfl rfl (fun h38 => absurd h38 (by omega)) (fun h38 => ?_))
  refine ops_nil ?_
  refine c_false rfl ?_
  refine c_skip ?_
  refine tq_n ?_
  refine c_seq ?_
  refine c_seqR ?_
  refine ops_cons rfl (ow_move rfl ?_)
  refine ops_cons rfl (ow_move rfl ?_)
  refine ops_cons rfl (ow_neq2 rfl rfl (fun h39 => absurd h39 (by simp)) (fun h39 => ?_))
  refine ops_nil ?_
  refine c_false rfl ?_
  refine c_skip ?_
  refine tq_n ?_
  refine c_seqR ?_
  refine ops_cons rfl (ow_assign rfl ?_)
  refine ops_nil ?_
  refine c_ret ?_
  refine fin_ret1 rfl rfl ?_
  exact ⟨rfl, X⟩
set_option maxRecDepth 100000

theorem fnExactSmallMedl_lifted (os : Os) (started : os.Started) (H : Type) (enc : TypeId × Value → H) :
    ReturnsInHanded {} Try.checked os 5 .any (Rows.fnExactSmallMedlSpec.pre6 enc Try.prog Try.f5 Rows.fnExactSmallMedlRow.domain false) (Rows.fnExactSmallMedlSpec.post enc Try.prog Try.f5 false true false false) := by
  refine returnsInHanded_of_change (C := Try.checked) law_own started (by kernel_rfl) Try.func5
    (ChangeSpec.witness6 (enc := enc) (C := Try.checked) false ⟨#[], #[], []⟩ 8 (by kernel_rfl) (by kernel_rfl) (by kernel_rfl) (by kernel_rfl)) ?_
  intro W base args ds gs before hval0 hW hcnd _
  have hval : ∀ (j : Nat) t v, Try.f5.params[j]? = some t → args[j]? = some v → Value.okWide Try.prog W .any base t v := hval0
  have hW' := hW
  obtain ⟨p, q, hA0, hV, rfl, hfz, hnd⟩ := hW
  have hA : DataW.TrodAll enc Try.prog W 0 (fun _ => true) true Try.f5.params.toList args.toList ds p := hA0
  rw [Try.params5] at hA hval
  obtain ⟨rfl, rfl⟩ := trodVars_none hV
  obtain ⟨hargs, rfl, rfl⟩ := trodAll_nil hA
  obtain rfl : args = #[] := by cases args; simp_all
  refine Calls.mono (law_FnExactSmallMedl W) fun e W' h => ?_
  cases e <;> first | exact h.elim | skip
  obtain ⟨rfl, hb⟩ := h
  exact ⟨_, rfl, law_post law_laid (by kernel_rfl) rfl rfl Try.underlying4 (hW') rfl hb⟩

theorem fnExactSmallMedl_holds : Rows.FnExactSmallMedlSaid :=
  OpenClaim.holds_of_wide 5 Try.f5 rfl rfl rfl rfl rfl rfl rfl ⟨rfl, rfl, rfl, rfl, rfl⟩ rfl rfl rfl rfl rfl (by kernel_rfl) Try.func5 (by kernel_rfl)
    (of_decide_eq_true (by kernel_rfl)) (by unfold Func.isWrapper; rw [if_neg (of_decide_eq_false (by kernel_rfl))]; exact ⟨rfl, rfl⟩)
    (fun os started H enc _ => fnExactSmallMedl_lifted os started H enc)
end Go.Proofs.Ythdeoagoehkcfaa
