/- The law FnWellFormed answers true for all arguments that its row admits, and leaves what was there before as it was. No condition. -/
import Derived.Test.YtojgfbbdjobdnaaGreatDoorGC
import Derived.Test.YtojgfbbdjobdnaaGreatDoorL1
import Derived.Test.YtojgfbbdjobdnaaGreatDoorGE
import Derived.Test.YtojgfbbdjobdnaaGreatDoorMod17
import Derived.Test.YtojgfbbdjobdnaaGreatDoorLW
import Derived.Test.YtojgfbbdjobdnaaGreatDoorTie
import Derived.Test.YtojgfbbdjobdnaaGreatDoorCards
import Derived.Lay
import Derived.LaidOnce
import Derived.SevenTiedAt
namespace Go.Proofs.YtojgfbbdjobdnaaGreatDoor
open Go.ChangeShapes Go.WideShapes Go.ChangeAt Go.RowKit
set_option linter.unusedVariables false
set_option linter.unusedSimpArgs false
set_option maxRecDepth 20000
theorem law_FnWellFormed (A : Option Addr) (B c : Nat) (bs : List UInt8) (w : World) (hs : Sl B w A (bs.flatMap eB)) (hm0 : bs.length ≤ 9223372036854775807) :
    Calls Tryz.prog 5 #[.slice A bs.length c] w (Ret fun v w' => v = .bool true ∧ Ext w w') := by
  have Bhs := hs.1
  have X := Ext.refl w
  refine calls_of (args := [.slice A bs.length c]) Tryz.func5 Tryz.ntmps5 rfl rfl ?_
  refine c_seqR ?_
  refine ops_cons rfl (ow_assign rfl ?_)
  refine ops_nil ?_
  refine c_seq ?_
  refine c_seqR ?_
  refine ops_cons rfl (ow_move rfl ?_)
  refine ops_cons rfl (ow_callB ent11 rfl (big_c _ _ _ _) (fun w2 hbig x1 => ?_) (fun w2 hbig x1 => ?_))
  replace hs := hs.ext x1
  replace X := Ext.trans X x1; clear x1
  refine ops_nil ?_
  refine c_true rfl ?_
  refine c_seqR ?_
  refine ops_cons rfl (ow_assign rfl ?_)
  refine ops_nil ?_
  refine c_ret ?_
  refine tq_r ?_
  refine fin_ret1 rfl rfl ?_
  · skip
    first
    | exact ⟨rfl, X⟩
    | exact ⟨congrArg Value.bool (decide_eq_true (by rw [hq1]; omega)), X⟩
  replace hs := hs.ext x1
  replace X := Ext.trans X x1; clear x1
  have hb2 := of_decide_eq_false hbig
  have hbl : bs.length ≤ 1048576 := by omega
  refine ops_nil ?_
  refine c_false rfl ?_
  refine c_skip ?_
  refine tq_n ?_
  refine c_seqR ?_
  refine ops_cons rfl (ow_move rfl ?_)
  refine ops_cons rfl (ow_call ent28 rfl (ret_mono (drawCT_c _ _ _ bs _ hs hbl) ?_))
  rintro _ wD ⟨m, mode, rfl, hdr, hmF, xD⟩
  replace hs := hs.ext xD
  replace X := Ext.trans X xD; clear xD
  have hm := hmF.med
  have hz := hdr.1
  refine ops_cons rfl (ow_move rfl ?_)
  refine ops_cons rfl (ow_extract rfl rfl ?_)
  refine ops_cons rfl (ow_extract rfl rfl ?_)
  refine ops_cons rfl (ow_alloc ti28 ?_)
  intro gM w4 egM b0 x3 zgM
  have lgM : w.heap.size ≤ gM := Nat.le_trans X.size (Nat.le_of_eq egM.symm)
  have pgMhs := Nat.le_trans hs.1 (Nat.le_of_eq egM.symm)
  have pgMhm := Nat.le_trans hm.1 (Nat.le_of_eq egM.symm)
  replace hs := hs.ext x3
  replace hm := hm.ext x3
  replace X := Ext.trans X x3; clear x3
  refine ops_cons rfl (ow_storeB b0 ti28 rfl rfl rfl rfl rfl rfl ?_)
  intro w6 bM hg5 z7
  replace hs := hs.grown hg5 (by intro g hg; injection hg; omega)
  replace hm := hm.grown hg5 (by intro g hg; injection hg; omega)
  replace X := X.grown hg5 X.size (by intro g hg; injection hg; omega)
  clear hg5 b0
  refine ops_cons rfl (ow_assign rfl ?_)
  refine ops_nil ?_
  refine c_seqR ?_
  refine ops_cons rfl (ow_loadAB bM ti28 rfl rfl ?_)
  refine ops_cons rfl (ow_call ent29 rfl (ret_mono (iFF_c m _ _ hm hz) ?_))
  rintro _ w9 ⟨rfl, x8⟩
  replace hs := hs.ext x8
  replace hm := hm.ext x8
  replace bM := bM.ext x8
  replace X := Ext.trans X x8; clear x8
  refine ops_cons rfl (ow_assign rfl ?_)
  refine ops_nil ?_
  refine c_seq ?_
  refine c_seqR ?_
  refine ops_cons rfl (ow_move rfl ?_)
  refine ops_cons rfl (ow_loadAB bM ti28 rfl rfl ?_)
  refine ops_cons rfl (ow_call ent30 rfl (ret_mono (sFF_c m _ _ hm hz) ?_))
  rintro _ w11 ⟨rfl, x10⟩
  replace hs := hs.ext x10
  replace hm := hm.ext x10
  replace bM := bM.ext x10
  replace X := Ext.trans X x10; clear x10
  refine ops_cons rfl (ow_neq2 rfl rfl (fun h12 => absurd h12 (by simp)) (fun h12 => ?_))
  refine ops_cons rfl (ow_move rfl ?_)
  refine ops_want rfl rfl rfl (ow_loadAB bM ti28 rfl rfl ?_)
  refine ops_want rfl rfl rfl (ow_call ent27 rfl (ret_mono (iIsMedl_c m _ _ hm hz) ?_))
  rintro _ w14 ⟨rfl, x13⟩
  replace hs := hs.ext x13
  replace hm := hm.ext x13
  replace bM := bM.ext x13
  replace X := Ext.trans X x13; clear x13
  refine ops_want rfl rfl rfl (ow_move rfl ?_)
  refine ops_want rfl rfl rfl (ow_eql rfl rfl ?_)
  refine ops_want rfl rfl rfl (ow_neqBd2 Tryz.underlying4 rfl rfl (fun h15 => absurd h15 (by exact fun h => h rfl)) (fun h15 => ?_))
  refine ops_cons rfl (ow_pick rfl rfl ?_)
  refine ops_nil ?_
  refine c_false rfl ?_
  refine c_skip ?_
  refine tq_n ?_
  refine c_seqR ?_
  refine ops_cons rfl (ow_loadAB bM ti28 rfl rfl ?_)
  refine ops_cons rfl (ow_move rfl ?_)
  refine ops_cons rfl (ow_call ent31 rfl (ret_mono (iCycle_c m _ _ _ hm hz) ?_))
  rintro _ w17 ⟨rfl, x16⟩
  replace hs := hs.ext x16
  replace hm := hm.ext x16
  replace bM := bM.ext x16
  replace X := Ext.trans X x16; clear x16
  refine ops_cons rfl (ow_move rfl ?_)
  refine ops_cons rfl (ow_extract rfl rfl ?_)
  refine ops_cons rfl (ow_extract rfl rfl ?_)
  refine ops_cons rfl (ow_assign rfl ?_)
  refine ops_cons rfl (ow_assign rfl ?_)
  refine ops_nil ?_
  refine c_seqR ?_
  refine ops_cons rfl (ow_loadAB bM ti28 rfl rfl ?_)
  refine ops_cons rfl (ow_move rfl ?_)
  refine ops_cons rfl (ow_call ent32 rfl (ret_mono (sCycle_c m _ _ _ hm hz) ?_))
  rintro _ w19 ⟨rfl, x18⟩
  replace hs := hs.ext x18
  replace hm := hm.ext x18
  replace bM := bM.ext x18
  replace X := Ext.trans X x18; clear x18
  refine ops_cons rfl (ow_move rfl ?_)
  refine ops_cons rfl (ow_extract rfl rfl ?_)
  refine ops_cons rfl (ow_extract rfl rfl ?_)
  refine ops_cons rfl (ow_assign rfl ?_)
  refine ops_cons rfl (ow_assign rfl ?_)
  refine ops_nil ?_
  refine c_seqR ?_
  refine ops_cons rfl (ow_loadAB bM ti28 rfl rfl ?_)
  refine ops_cons rfl (ow_move rfl ?_)
  refine ops_cons rfl (ow_call ent33 rfl (ret_mono (iRound_c m _ _ _ hm hz) ?_))
  rintro _ w21 ⟨rfl, x20⟩
  replace hs := hs.ext x20
  replace hm := hm.ext x20
  replace bM := bM.ext x20
  replace X := Ext.trans X x20; clear x20
  refine ops_cons rfl (ow_move rfl ?_)
  refine ops_cons rfl (ow_extract rfl rfl ?_)
  refine ops_cons rfl (ow_extract rfl rfl ?_)
  refine ops_cons rfl (ow_assign rfl ?_)
  refine ops_cons rfl (ow_assign rfl ?_)
  refine ops_nil ?_
  refine c_seqR ?_
  refine ops_cons rfl (ow_loadAB bM ti28 rfl rfl ?_)
  refine ops_cons rfl (ow_move rfl ?_)
  refine ops_cons rfl (ow_call ent34 rfl (ret_mono (sRound_c m _ _ _ hm hz) ?_))
  rintro _ w23 ⟨rfl, x22⟩
  replace hs := hs.ext x22
  replace hm := hm.ext x22
  replace bM := bM.ext x22
  replace X := Ext.trans X x22; clear x22
  refine ops_cons rfl (ow_move rfl ?_)
  refine ops_cons rfl (ow_extract rfl rfl ?_)
  refine ops_cons rfl (ow_extract rfl rfl ?_)
  refine ops_cons rfl (ow_assign rfl ?_)
  refine ops_cons rfl (ow_assign rfl ?_)
  refine ops_nil ?_
  refine c_seq ?_
  refine c_seqR ?_
  refine ops_cons rfl (ow_move rfl ?_)
  refine ops_cons rfl (ow_move rfl ?_)
  refine ops_cons rfl (ow_neq2 rfl rfl (fun h24 => absurd h24 (by simp)) (fun h24 => ?_))
  refine ops_cons rfl (ow_move rfl ?_)
  refine ops_want rfl rfl rfl (ow_move rfl ?_)
  refine ops_want rfl rfl rfl (ow_move rfl ?_)
  refine ops_want rfl rfl rfl (ow_neq2 rfl rfl (fun h25 => absurd h25 (by simp)) (fun h25 => ?_))
  refine ops_cons rfl (ow_pick rfl rfl ?_)
  refine ops_cons rfl (ow_move rfl ?_)
  refine ops_want rfl rfl rfl (ow_move rfl ?_)
  refine ops_want rfl rfl rfl (ow_move rfl ?_)
  refine ops_want rfl rfl rfl (ow_neq2 rfl rfl (fun h26 => absurd h26 (by simp)) (fun h26 => ?_))
  refine ops_cons rfl (ow_pick rfl rfl ?_)
  refine ops_cons rfl (ow_move rfl ?_)
  refine ops_want rfl rfl rfl (ow_move rfl ?_)
  refine ops_want rfl rfl rfl (ow_move rfl ?_)
  refine ops_want rfl rfl rfl (ow_neq2 rfl rfl (fun h27 => absurd h27 (by simp)) (fun h27 => ?_))
  refine ops_cons rfl (ow_pick rfl rfl ?_)
  refine ops_nil ?_
  refine c_false rfl ?_
  refine c_skip ?_
  refine tq_n ?_
  refine c_seqR ?_
  refine ops_cons rfl (ow_move rfl ?_)
  refine ops_cons rfl (ow_neq2 rfl rfl (fun hC => ?_) (fun hC => ?_))
  refine ops_cons rfl (ow_move rfl ?_)
  refine ops_skip rfl rfl rfl rfl ?_
  refine ops_skip rfl rfl rfl rfl ?_
  refine ops_skip rfl rfl rfl rfl ?_
  refine ops_skip rfl rfl rfl rfl ?_
  refine ops_skip rfl rfl rfl rfl ?_
  refine ops_skip rfl rfl rfl rfl ?_
  refine ops_skip rfl rfl rfl rfl ?_
  refine ops_skip rfl rfl rfl rfl ?_
  refine ops_skip rfl rfl rfl rfl ?_
  refine ops_skip rfl rfl rfl rfl ?_
  refine ops_skip rfl rfl rfl rfl ?_
  refine ops_skip2 rfl rfl rfl ?_
  refine ops_skip2 rfl rfl rfl ?_
  refine ops_skip rfl rfl rfl rfl ?_
  refine ops_skip rfl rfl rfl rfl ?_
  refine ops_skip2 rfl rfl rfl ?_
  refine ops_skip2 rfl rfl rfl ?_
  refine ops_skip rfl rfl rfl rfl ?_
  refine ops_cons rfl (ow_pick rfl rfl ?_)
  refine ops_cons rfl (ow_assign rfl ?_)
  refine ops_nil ?_
  refine c_ret ?_
  refine fin_ret1 rfl rfl ?_
  · skip
    first
    | exact ⟨rfl, X⟩
    | exact ⟨congrArg Value.bool (decide_eq_true (by rw [hq1]; omega)), X⟩
  have hmC : modeC m.d mode = 0 := by
    by_cases h : modeC m.d mode = 0
    · exact h
    · rw [cycleF, if_neg h] at hC; exact absurd h hC
  obtain ⟨hM1, hM2⟩ := modeC_zero.1 hmC
  have hW := isMedl_iff.1 hM1
  obtain ⟨k, x0, hk, hx0⟩ := mode_get hM2
  obtain ⟨x, hx, rfl⟩ := get_I hx0
  have hmi := mode_in hW hx0
  have hgo := of_get hx0
  have hcr := cyc_round hW hx0
  have hq1 : (cycleF m.d mode).1 = cyc m.d.ss k := by rw [cycleF, if_pos hmC, hk]
  have hq2 : x.m.rounds * (roundF m.d mode).1 = cyc m.d.ss k := by rw [roundF, if_pos hmC, hk, hgo.1]; exact hcr.1.symm
  refine ops_cons rfl (ow_move rfl ?_)
  refine ops_want rfl rfl rfl (ow_move rfl ?_)
  refine ops_want rfl rfl rfl (ow_fieldAddrB off28_2 rfl rfl ?_)
  refine ops_want rfl rfl rfl (ow_loadB bM ti25 rfl rfl ?_)
  refine ops_want rfl rfl rfl (ow_move rfl ?_)
  refine ops_want rfl rfl rfl (ow_indexT hm.sm ModeI.len rfl el25 rfl rfl rfl hx hk ?_)
  refine ops_want rfl rfl rfl (ow_fieldAddr off45_0 rfl ?_)
  refine ops_want rfl rfl rfl (ow_loadTF hm.sm ModeI.len hx ti2 rfl rfl rfl ?_)
  refine ops_want rfl rfl rfl (ow_move rfl ?_)
  refine ops_want rfl rfl rfl (ow_mul rfl rfl (w64 (by rw [hq2]; omega)) ?_)
  refine ops_want rfl rfl rfl (ow_eql2 rfl rfl (fun h28 => ?_) (fun h28 => absurd h28 (by exact fun h => h (hq1.trans hq2.symm))))
  refine ops_want rfl rfl rfl (ow_move rfl ?_)
  refine ops_want rfl rfl rfl (ow_move rfl ?_)
  refine ops_want rfl rfl rfl (ow_gtr2 rfl rfl (fun h29 => ?_) (fun h29 => absurd h29 (by rw [hq1]; omega)))
  refine ops_want rfl rfl rfl (ow_pick rfl rfl ?_)
  refine ops_want rfl rfl rfl (ow_move rfl ?_)
  refine ops_want rfl rfl rfl (ow_move rfl ?_)
  refine ops_want rfl rfl rfl (ow_leq rfl rfl ?_)
  refine ops_want rfl rfl rfl (ow_pick rfl rfl ?_)
  refine ops_cons rfl (ow_pick rfl rfl ?_)
  refine ops_cons rfl (ow_assign rfl ?_)
  refine ops_nil ?_
  refine c_ret ?_
  refine fin_ret1 rfl rfl ?_
  · skip
    first
    | exact ⟨rfl, X⟩
    | exact ⟨congrArg Value.bool (decide_eq_true (by rw [hq1]; omega)), X⟩
set_option maxRecDepth 100000

theorem fnWellFormed_lifted (os : Os) (started : os.Started) (H : Type) (enc : TypeId × Value → H) :
    ReturnsInHanded {} Tryz.checked os 5 .any (fun w args => (Rows.fnWellFormedSpec.pre enc Tryz.prog Tryz.f5 Rows.fnWellFormedRow.domain false w args ∧ laidMetH Tryz.prog Rows.fnWellFormedRow.laid w) ∧ sizedMet enc Tryz.prog Tryz.f5 (OpenSpec.ofChange Rows.fnWellFormedSpec) false w args)
      (Rows.fnWellFormedSpec.post enc Tryz.prog Tryz.f5 false true false false) := by
  refine returnsInHanded_of_change_and (C := Tryz.checked) (X := fun w _ => laidMetH Tryz.prog Rows.fnWellFormedRow.laid w) (fun _ _ _ hh h => h.of_heap hh) law_own started (by kernel_rfl) Tryz.func5
    (ChangeSpec.witness_shaped (enc := enc) (C := Tryz.checked) (os := os) (X := fun w _ => laidMetH Tryz.prog Rows.fnWellFormedRow.laid w) false (World.laidAll Tryz.prog os Rows.fnWellFormedRow.laid) #[.slice none 0 0] 8 (World.laidAll_os _ _ _)
      (World.shaped_of_ZipB (by kernel_rfl) (by kernel_rfl)) (by kernel_rfl) (by kernel_rfl) (by kernel_rfl)
      (by rw [MakeChecks.laidMetH_plain _ _ _ (by kernel_rfl)]; exact laidMet_laidAll _ (by kernel_rfl) (by kernel_rfl))) ?_
  intro W base args ds gs before hval0 hW _ _ hL _
  have hval : ∀ (j : Nat) t v, Tryz.f5.params[j]? = some t → args[j]? = some v → Value.okWide Tryz.prog W .any base t v := hval0
  have hW' := hW
  obtain ⟨p, q, hA0, hV, rfl, hfz, hnd⟩ := hW
  have hA : DataW.TrodAll enc Tryz.prog W 0 (fun _ => true) true Tryz.f5.params.toList args.toList ds p := hA0
  rw [Tryz.params5] at hA hval
  obtain ⟨rfl, rfl⟩ := trodVars_none hV
  obtain ⟨v0, vs0, d0, ds0, p0, q0, hargs, rfl, rfl, h0, r0⟩ := trodAll_cons hA
  obtain ⟨rfl, rfl, rfl⟩ := trodAll_nil r0
  obtain rfl : args = #[v0] := by cases args; simp_all
  obtain ⟨a0, l0, k0, rfl⟩ := okWide_slice Tryz.underlying22 (hval 0 22 v0 rfl rfl)
  obtain ⟨m0, x0, t0⟩ := cell_of rfl h0
  obtain ⟨Abs, bs, cbs, ebs, sbs, wbs, lbs⟩ := open_sl (s := 1) Tryz.underlying22 (by kernel_rfl) eB_len (by omega) (fun _ _ _ h => open_u8 Tryz.underlying5 h) t0
  rw [ebs]
  refine Calls.mono (law_FnWellFormed _ _ _ bs W sbs lbs) fun e W' h => ?_
  cases e <;> first | exact h.elim | skip
  obtain ⟨rfl, hb⟩ := h
  exact ⟨_, rfl, law_post law_laid (by kernel_rfl) rfl rfl Tryz.underlying4 (by rw [← ebs]; exact hW') rfl hb⟩

theorem fnWellFormed_holds : Rows.FnWellFormedSaid :=
  OpenClaim.holds_of_wide 5 Tryz.f5 rfl rfl rfl rfl rfl rfl rfl ⟨rfl, rfl, rfl, rfl, rfl⟩ rfl rfl rfl rfl rfl (by kernel_rfl) Tryz.func5 (by kernel_rfl)
    (of_decide_eq_true (by kernel_rfl)) (by unfold Func.isWrapper; rw [if_neg (of_decide_eq_false (by kernel_rfl))]; exact ⟨rfl, rfl⟩)
    (fun os started H enc _ => fnWellFormed_lifted os started H enc)

theorem fnWellFormed_card : Rows.FnWellFormedCardSaid :=
  Claim7.holds_tied_plain_at .later [] [.data, .pinned] true (true, "a3d70ef78196423dfcdef9bd2e3aaa75f1e6bd02bbefc60196699ec7a33f8f22") false fnWellFormed_holds (fun _ h => by cases h) (by kernel_rfl) (fun _ h => by cases h) fnWellFormed_row_tie rfl ⟨rfl, rfl⟩ law_main rfl
    (fun f fn hf hfn => by
      obtain rfl : f = 5 := Option.some.inj ((show Tryz.prog.funcNamed "loop.example/g00833/laws.FnWellFormed" = some 5 by kernel_rfl).symm.trans hf) |>.symm
      obtain rfl : fn = Tryz.f5 := (Option.some.inj (Tryz.func5.symm.trans hfn)).symm
      exact ⟨law_looks, fun j t ht => by
        rw [Tryz.params5] at ht
        have hm : t ∈ [22] := by simpa using Array.mem_of_getElem? ht
        have hall : ([22].all fun u => !Tryz.prog.wantsStandIn u) = true := by kernel_rfl
        exact (show Tryz.prog.wantsStandIn t = false by simpa using List.all_eq_true.1 hall t hm)⟩)
    (by kernel_rfl)
end Go.Proofs.YtojgfbbdjobdnaaGreatDoor
