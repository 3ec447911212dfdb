/- The law FnExactReachableModes answers true for all arguments that its row admits, and leaves what was there before as it was. No condition. -/
import Derived.Test.YtimabffnoanciaaE3
import Derived.Test.YtimabffnoanciaaE4
import Derived.Test.YtimabffnoanciaaE5
import Derived.Test.YtimabffnoanciaaDT
import Derived.Test.YtimabffnoanciaaFlowR
namespace Go.Proofs.Ytimabffnoanciaa
open Go.ChangeShapes Go.WideShapes Go.ChangeAt Go.RowKit
set_option linter.unusedVariables false
set_option linter.unusedSimpArgs false
set_option maxRecDepth 20000
theorem law_own : ownKnob Try.prog.godebug = none := by kernel_rfl
theorem law_laid : laidOutB Try.prog = true := by kernel_rfl
theorem open_ModeI {H : Type} {enc : TypeId × Value → H} {W : World} {sp : Nat → Bool} {fuel : Nat} {cs : List Value} {x : DataW H × List MemPlace} (h : DataW.trod enc Try.prog W 0 sp true fuel 110 cs = some x) : ∃ d : ModeI, cs = d.cells ∧ (Sl W.heap.size W d.A (d.m.next.flatMap eI) ∧ d.m.next.length ≤ 9223372036854775807) := by
  have hl : cs.length = 3 := (len_of Try.underlying110 h).trans (by kernel_rfl)
  match cs, hl with
  | [c0, c1, c2], _ =>
    obtain ⟨n0, y0, h0⟩ := trod_field Try.underlying110 h 0 rfl
    obtain ⟨z0, e0, w0⟩ := open_i64 Try.underlying2 h0
    obtain rfl : c0 = .int .i64 z0 := by have e := show [c0] = [.int .i64 z0] from e0; injection e
    obtain ⟨n1, y1, h1⟩ := trod_field Try.underlying110 h 1 rfl
    obtain ⟨z1, e1, w1⟩ := open_i64 Try.underlying2 h1
    obtain rfl : c1 = .int .i64 z1 := by have e := show [c1] = [.int .i64 z1] from e1; injection e
    obtain ⟨n2, y2, h2⟩ := trod_field Try.underlying110 h 2 rfl
    obtain ⟨A2, xs2, k2, e2, s2, w2, l2⟩ := open_sl (v := c2) (s := 1) Try.underlying24 (by kernel_rfl) eI_len (by omega) (fun _ _ _ h => open_i64 Try.underlying2 h) h2
    exact ⟨⟨⟨z0, z1, xs2⟩, A2, k2⟩, by rw [e2]; rfl, s2, l2⟩
theorem law_FnExactReachableModes (A : Option Addr) (B B2 c : Nat) (xs : List ModeI) (fr : Int) (w : World) (hs : Sl B w A (xs.flatMap ModeI.cells)) (hn : Nexts B2 w xs) (hm : xs.length ≤ 9223372036854775807) :
    Calls Try.prog 9 #[.slice A xs.length c, .int .i64 fr] w (Ret fun v w' => v = .bool true ∧ Ext w w') := by
  have Bhs := hs.1
  have Bhn := hn.1
  have X := Ext.refl w
  refine calls_of (args := [.slice A xs.length c, .int .i64 fr]) Try.func9 Try.ntmps9 rfl rfl ?_
  refine c_seqR ?_
  refine ops_cons rfl (ow_assign rfl ?_)
  refine ops_nil ?_
  refine c_seqR ?_
  refine ops_cons rfl (ow_assign rfl ?_)
  refine ops_nil ?_
  refine c_seqR ?_
  refine ops_cons rfl (ow_move rfl ?_)
  refine ops_cons rfl (ow_move rfl ?_)
  refine ops_cons rfl (ow_call ent42 rfl (ret_mono (szModes_c _ _ _ _ _ _ hs hn hm) ?_))
  rintro _ w2 ⟨rfl, x1⟩
  replace hs := hs.ext x1
  replace hn := hn.ext x1
  replace X := Ext.trans X x1; clear x1
  refine ops_cons rfl (ow_assign rfl ?_)
  refine ops_nil ?_
  refine c_seq ?_
  refine c_seqR ?_
  refine ops_cons rfl (ow_move rfl ?_)
  refine ops_cons rfl (ow_lss2 rfl rfl (fun hq => ?_) (fun hq => ?_))
  · skip
    refine ops_nil ?_
    refine c_true rfl ?_
    refine c_seqR ?_
    refine ops_cons rfl (ow_assign rfl ?_)
    refine ops_nil ?_
    refine c_ret ?_
    refine tq_r ?_
    refine fin_ret1 rfl rfl ?_
    exact ⟨rfl, X⟩
  · skip
    have hl4 := szM_le hq
    have hl := hl4.1
    have hz := hl4.2
    refine ops_nil ?_
    refine c_false rfl ?_
    refine c_skip ?_
    refine tq_n ?_
    refine c_seqR ?_
    refine ops_cons rfl (ow_move rfl ?_)
    refine ops_cons rfl (ow_call ent44 rfl (ret_mono (toModes_c _ _ _ _ _ _ hs hn hl hz) ?_))
    rintro _ w4 ⟨A5, c6, y0, rfl, em0, hdj, oC0, oC0n, x3⟩
    replace oC0 := Own.low oC0 X.size
    replace oC0n := NOwn.low oC0n X.size
    replace hs := hs.ext x3
    replace hn := hn.ext x3
    replace X := Ext.trans X x3; clear x3
    have hl0 := hl_of em0 hl
    have hz0 := hz_of em0 hz
    refine ops_cons rfl (ow_move rfl ?_)
    refine ops_cons rfl (ow_call ent43 rfl (ret_mono (sReach_c _ _ _ _ _ _ _ (oC0).sl (oC0n).nexts hl0 hz0) ?_))
    rintro _ w8 ⟨A9, c10, rfl, oS, x7⟩
    replace oS := Own.low oS X.size
    replace hs := hs.ext x7
    replace hn := hn.ext x7
    replace oC0 := oC0.ext x7
    replace oC0n := oC0n.ext x7
    replace X := Ext.trans X x7; clear x7
    rw [em0] at oS ⊢
    have hlR := resR_len (xs.map (·.m)) fr
    have sS := oS.sl
    clear oS oC0 oC0n
    refine ops_cons rfl (ow_move rfl ?_)
    refine ops_cons rfl (ow_extract rfl rfl ?_)
    refine ops_cons rfl (ow_extract rfl rfl ?_)
    refine ops_cons rfl (ow_assign rfl ?_)
    refine ops_cons rfl (ow_assign rfl ?_)
    refine ops_nil ?_
    refine c_seqR ?_
    refine ops_cons rfl (ow_move rfl ?_)
    refine ops_cons rfl (ow_call ent44 rfl (ret_mono (toModes_c _ _ _ _ _ _ hs hn hl hz) ?_))
    rintro _ w12 ⟨A13, c14, y1, rfl, em1, hdj, oX, oXn, x11⟩
    have LoX := X.size
    replace hs := hs.ext x11
    replace hn := hn.ext x11
    replace sS := sS.ext x11
    replace X := Ext.trans X x11; clear x11
    have hl1 := hl_of em1 hl
    have hz1 := hz_of em1 hz
    have hdX := hdj
    refine ops_cons rfl (ow_assign rfl ?_)
    refine ops_nil ?_
    refine c_seqR ?_
    refine ops_cons rfl (ow_move rfl ?_)
    refine ops_cons rfl (ow_move rfl ?_)
    have LS := sS.1
    have UX := fun g hg => (Own.lt oX (g := g) hg).2
    have UN := fun y hy g hg => (Own.lt (oXn y hy).1 (g := g) hg).2
    refine ops_cons rfl (ow_call ent45 rfl (ret_mono (iReach_c _ _ _ _ _ _ _ (oX).sl (oXn).nexts hl1 hz1) ?_))
    rintro _ w16 ⟨A17, c18, rfl, oI, x15⟩
    have LoI := X.size
    replace hs := hs.ext x15
    replace hn := hn.ext x15
    replace sS := sS.ext x15
    replace oX := oX.ext x15
    replace oXn := oXn.ext x15
    replace X := Ext.trans X x15; clear x15
    rw [em1] at oI ⊢
    refine ops_cons rfl (ow_move rfl ?_)
    refine ops_cons rfl (ow_extract rfl rfl ?_)
    refine ops_cons rfl (ow_extract rfl rfl ?_)
    refine ops_cons rfl (ow_assign rfl ?_)
    refine ops_cons rfl (ow_assign rfl ?_)
    refine ops_nil ?_
    refine c_seq ?_
    refine c_seqR ?_
    refine ops_cons rfl (ow_move rfl ?_)
    refine ops_cons rfl (ow_move rfl ?_)
    refine ops_cons rfl (ow_call ent46 rfl (ret_mono (eqInt_c _ _ _ _ _ _ _ _ (oI).sl sS hlR) ?_))
    rintro _ w20 ⟨rfl, x19⟩
    replace hs := hs.ext x19
    replace hn := hn.ext x19
    replace sS := sS.ext x19
    replace oX := oX.ext x19
    replace oXn := oXn.ext x19
    replace oI := oI.ext x19
    replace X := Ext.trans X x19; clear x19
    refine ops_cons rfl (ow_not rfl ?_)
    refine ops_cons rfl (ow_move rfl ?_)
    refine ops_want rfl rfl rfl (ow_move rfl ?_)
    refine ops_want rfl rfl rfl (ow_move rfl ?_)
    refine ops_want rfl rfl rfl (ow_neq2 rfl rfl (fun h21 => absurd h21 (by simp)) (fun h21 => ?_))
    refine ops_cons rfl (ow_pick rfl rfl ?_)
    refine ops_nil ?_
    refine c_false rfl ?_
    refine c_skip ?_
    refine tq_n ?_
    refine c_seq ?_
    refine c_seqR ?_
    refine ops_cons rfl (ow_move rfl ?_)
    refine ops_cons rfl (ow_move rfl ?_)
    refine ops_cons rfl (ow_call ent44 rfl (ret_mono (toModes_c _ _ _ _ _ _ hs hn hl hz) ?_))
    rintro _ w23 ⟨A24, c25, y2, rfl, em2, hdj, oC2, oC2n, x22⟩
    replace oC2 := Own.low oC2 X.size
    replace oC2n := NOwn.low oC2n X.size
    replace hs := hs.ext x22
    replace hn := hn.ext x22
    replace sS := sS.ext x22
    replace oX := oX.ext x22
    replace oXn := oXn.ext x22
    replace oI := oI.ext x22
    replace X := Ext.trans X x22; clear x22
    have hl2 := hl_of em2 hl
    have hz2 := hz_of em2 hz
    refine ops_cons rfl (ow_call ent47 rfl (ret_mono (eqModes_c _ _ _ _ _ _ _ _ _ _ _ (oX).sl (oXn).nexts (oC2).sl (oC2n).nexts (em1.trans em2.symm) hl1 hz1) ?_))
    rintro _ w27 ⟨rfl, x26⟩
    replace hs := hs.ext x26
    replace hn := hn.ext x26
    replace sS := sS.ext x26
    replace oX := oX.ext x26
    replace oXn := oXn.ext x26
    replace oI := oI.ext x26
    replace oC2 := oC2.ext x26
    replace oC2n := oC2n.ext x26
    replace X := Ext.trans X x26; clear x26
    clear oC2 oC2n
    refine ops_cons rfl (ow_not rfl ?_)
    refine ops_nil ?_
    refine c_false rfl ?_
    refine c_skip ?_
    refine tq_n ?_
    refine c_seqR ?_
    refine ops_cons rfl (ow_assign rfl ?_)
    refine ops_nil ?_
    refine c_seqR ?_
    refine ops_cons rfl (ow_move rfl ?_)
    refine ops_cons rfl (ow_move rfl ?_)
    refine ops_cons rfl (ow_call ent48 rfl (ret_mono (markModes_c _ _ _ _ y1 1 _ oX (NFrom.of oXn 0) hdX UX UN hl1 hz1 (by omega)) ?_))
    rintro _ wM ⟨⟨zM, rfl, hzM⟩, xM⟩
    have xB := xM.below sS.1
    replace hs := hs.below (Below.mono xB (Nat.le_trans Bhs LoX))
    replace hn := hn.below (Below.mono xB (Nat.le_trans Bhn LoX))
    replace sS := sS.below xB
    replace oI := oI.win xM (Nat.le_refl _)
    replace X := Below.trans X (Below.mono xB LoX)
    clear oX oXn
    refine ops_cons rfl (ow_assign rfl ?_)
    refine ops_nil ?_
    refine c_seq ?_
    refine c_seqR ?_
    refine ops_cons rfl (ow_move rfl ?_)
    refine ops_cons rfl (ow_lss2 rfl rfl (fun h28 => absurd h28 (by omega)) (fun h28 => ?_))
    refine ops_cons rfl (ow_move rfl ?_)
    refine ops_want rfl rfl rfl (ow_move rfl ?_)
    refine ops_want rfl rfl rfl (ow_move rfl ?_)
    refine ops_want rfl rfl rfl (ow_call ent46 rfl (ret_mono (eqInt_c _ _ _ _ _ _ _ _ (oI).sl sS hlR) ?_))
    rintro _ w30 ⟨rfl, x29⟩
    replace hs := hs.ext x29
    replace hn := hn.ext x29
    replace sS := sS.ext x29
    replace oI := oI.ext x29
    replace X := Ext.trans X x29; clear x29
    refine ops_want rfl rfl rfl (ow_not rfl ?_)
    refine ops_cons rfl (ow_pick rfl rfl ?_)
    refine ops_cons rfl (ow_move rfl ?_)
    refine ops_want rfl rfl rfl (ow_move rfl ?_)
    refine ops_want rfl rfl rfl (ow_move rfl ?_)
    refine ops_want rfl rfl rfl (ow_neq2 rfl rfl (fun h31 => absurd h31 (by simp)) (fun h31 => ?_))
    refine ops_cons rfl (ow_pick rfl rfl ?_)
    refine ops_nil ?_
    refine c_false rfl ?_
    refine c_skip ?_
    refine tq_n ?_
    refine c_seqR ?_
    refine ops_cons rfl (ow_assign rfl ?_)
    refine ops_nil ?_
    refine c_seqR ?_
    refine ops_cons rfl (ow_move rfl ?_)
    refine ops_cons rfl (ow_move rfl ?_)
    refine ops_cons rfl (ow_call ent49 rfl (ret_mono (markI_c _ _ _ _ _ _ oI hlR (by omega)) ?_))
    rintro _ w33 ⟨rfl, oI2, x32⟩
    replace hs := hs.grown x32 (fun g hg => Nat.le_trans Bhs (Nat.le_trans LoI (Own.lt oI hg).1))
    replace hn := hn.grown x32 (fun g hg => Nat.le_trans Bhn (Nat.le_trans LoI (Own.lt oI hg).1))
    replace sS := sS.grown x32 (fun g hg => Nat.le_trans LS (Own.lt oI hg).1)
    replace X := X.grown x32 X.size (fun g hg => Nat.le_trans LoI (Own.lt oI hg).1); clear x32 oI
    refine ops_cons rfl (ow_assign rfl ?_)
    refine ops_nil ?_
    refine c_seqR ?_
    refine ops_cons rfl (ow_assign rfl ?_)
    refine ops_nil ?_
    refine c_seqR ?_
    refine ops_cons rfl (ow_move rfl ?_)
    refine ops_cons rfl (ow_move rfl ?_)
    refine ops_cons rfl (ow_call ent50 rfl (ret_mono (heldI_c _ _ _ _ _ _ (oI2).sl hlR (by omega)) ?_))
    rintro _ w35 ⟨rfl, x34⟩
    replace hs := hs.ext x34
    replace hn := hn.ext x34
    replace sS := sS.ext x34
    replace oI2 := oI2.ext x34
    replace X := Ext.trans X x34; clear x34
    refine ops_cons rfl (ow_assign rfl ?_)
    refine ops_nil ?_
    refine c_seq ?_
    refine c_seqR ?_
    refine ops_cons rfl (ow_move rfl ?_)
    refine ops_cons rfl (ow_lss2 rfl rfl (fun h36 => absurd h36 (by omega)) (fun h36 => ?_))
    refine ops_nil ?_
    refine c_false rfl ?_
    refine c_skip ?_
    refine tq_n ?_
    refine c_seq ?_
    refine c_seqR ?_
    refine ops_cons rfl (ow_move rfl ?_)
    refine ops_cons rfl (ow_move rfl ?_)
    refine ops_cons rfl (ow_neq2 rfl rfl (fun h37 => absurd h37 (by simp)) (fun h37 => ?_))
    refine ops_nil ?_
    refine c_false rfl ?_
    refine c_skip ?_
    refine tq_n ?_
    refine c_seqR ?_
    refine ops_cons rfl (ow_move rfl ?_)
    refine ops_cons rfl (ow_call ent44 rfl (ret_mono (toModes_c _ _ _ _ _ _ hs hn hl hz) ?_))
    rintro _ w39 ⟨A40, c41, y3, rfl, em3, hdj, oC3, oC3n, x38⟩
    replace oC3 := Own.low oC3 X.size
    replace oC3n := NOwn.low oC3n X.size
    replace hs := hs.ext x38
    replace hn := hn.ext x38
    replace sS := sS.ext x38
    replace oI2 := oI2.ext x38
    replace X := Ext.trans X x38; clear x38
    have hl3 := hl_of em3 hl
    have hz3 := hz_of em3 hz
    refine ops_cons rfl (ow_move rfl ?_)
    refine ops_cons rfl (ow_call ent45 rfl (ret_mono (iReach_c _ _ _ _ _ _ _ (oC3).sl (oC3n).nexts hl3 hz3) ?_))
    rintro _ w43 ⟨A44, c45, rfl, oJ, x42⟩
    replace oJ := Own.low oJ X.size
    replace hs := hs.ext x42
    replace hn := hn.ext x42
    replace sS := sS.ext x42
    replace oI2 := oI2.ext x42
    replace oC3 := oC3.ext x42
    replace oC3n := oC3n.ext x42
    replace X := Ext.trans X x42; clear x42
    rw [em3] at oJ ⊢
    refine ops_cons rfl (ow_move rfl ?_)
    refine ops_cons rfl (ow_extract rfl rfl ?_)
    refine ops_cons rfl (ow_extract rfl rfl ?_)
    refine ops_cons rfl (ow_assign rfl ?_)
    refine ops_cons rfl (ow_assign rfl ?_)
    refine ops_nil ?_
    refine c_seq ?_
    refine c_seqR ?_
    refine ops_cons rfl (ow_move rfl ?_)
    refine ops_cons rfl (ow_move rfl ?_)
    refine ops_cons rfl (ow_call ent46 rfl (ret_mono (eqInt_c _ _ _ _ _ _ _ _ (oJ).sl sS hlR) ?_))
    rintro _ w47 ⟨rfl, x46⟩
    replace hs := hs.ext x46
    replace hn := hn.ext x46
    replace sS := sS.ext x46
    replace oI2 := oI2.ext x46
    replace oC3 := oC3.ext x46
    replace oC3n := oC3n.ext x46
    replace oJ := oJ.ext x46
    replace X := Ext.trans X x46; clear x46
    refine ops_cons rfl (ow_not rfl ?_)
    refine ops_cons rfl (ow_move rfl ?_)
    refine ops_want rfl rfl rfl (ow_move rfl ?_)
    refine ops_want rfl rfl rfl (ow_move rfl ?_)
    refine ops_want rfl rfl rfl (ow_neq2 rfl rfl (fun h48 => absurd h48 (by simp)) (fun h48 => ?_))
    refine ops_cons rfl (ow_pick rfl rfl ?_)
    refine ops_nil ?_
    refine c_false rfl ?_
    refine c_skip ?_
    refine tq_n ?_
    refine c_seqR ?_
    refine ops_cons rfl (ow_assign rfl ?_)
    refine ops_nil ?_
    refine c_seqR ?_
    refine ops_cons rfl (ow_move rfl ?_)
    refine ops_cons rfl (ow_move rfl ?_)
    refine ops_cons rfl (ow_call ent50 rfl (ret_mono (heldI_c _ _ _ _ _ _ (oI2).sl hlR (by omega)) ?_))
    rintro _ w50 ⟨rfl, x49⟩
    replace hs := hs.ext x49
    replace hn := hn.ext x49
    replace sS := sS.ext x49
    replace oI2 := oI2.ext x49
    replace oC3 := oC3.ext x49
    replace oC3n := oC3n.ext x49
    replace oJ := oJ.ext x49
    replace X := Ext.trans X x49; clear x49
    refine ops_cons rfl (ow_assign rfl ?_)
    refine ops_nil ?_
    refine c_seq ?_
    refine c_seqR ?_
    refine ops_cons rfl (ow_move rfl ?_)
    refine ops_cons rfl (ow_lss2 rfl rfl (fun h51 => absurd h51 (by omega)) (fun h51 => ?_))
    refine ops_nil ?_
    refine c_false rfl ?_
    refine c_skip ?_
    refine tq_n ?_
    refine c_seq ?_
    refine c_seqR ?_
    refine ops_cons rfl (ow_move rfl ?_)
    refine ops_cons rfl (ow_move rfl ?_)
    refine ops_cons rfl (ow_neq2 rfl rfl (fun h52 => absurd h52 (by simp)) (fun h52 => ?_))
    refine ops_nil ?_
    refine c_false rfl ?_
    refine c_skip ?_
    refine tq_n ?_
    refine c_seqR ?_
    refine ops_cons rfl (ow_assign rfl ?_)
    refine ops_nil ?_
    refine c_ret ?_
    refine fin_ret1 rfl rfl ?_
    exact ⟨rfl, X⟩
set_option maxRecDepth 100000

theorem fnExactReachableModes_lifted (os : Os) (started : os.Started) (H : Type) (enc : TypeId × Value → H) :
    ReturnsInHanded {} Try.checked os 9 .any (Rows.fnExactReachableModesSpec.pre6 enc Try.prog Try.f9 Rows.fnExactReachableModesRow.domain false) (Rows.fnExactReachableModesSpec.post enc Try.prog Try.f9 false true false false) := by
  refine returnsInHanded_of_change (C := Try.checked) law_own started (by kernel_rfl) Try.func9
    (ChangeSpec.witness6 (enc := enc) (C := Try.checked) false ⟨#[], #[.slice none 0 0, .int .i64 0], []⟩ 8 (by kernel_rfl) (by kernel_rfl) (by kernel_rfl) (by kernel_rfl)) ?_
  intro W base args ds gs before hval0 hW hcnd _
  have hval : ∀ (j : Nat) t v, Try.f9.params[j]? = some t → args[j]? = some v → Value.okWide Try.prog W .any base t v := hval0
  have hW' := hW
  obtain ⟨p, q, hA0, hV, rfl, hfz, hnd⟩ := hW
  have hA : DataW.TrodAll enc Try.prog W 0 (fun _ => true) true Try.f9.params.toList args.toList ds p := hA0
  rw [Try.params9] at hA hval
  obtain ⟨rfl, rfl⟩ := trodVars_none hV
  obtain ⟨v0, vs0, d0, ds0, p0, q0, hargs, rfl, rfl, h0, r0⟩ := trodAll_cons hA
  obtain ⟨v1, vs1, d1, ds1, p1, q1, rfl, rfl, rfl, h1, r1⟩ := trodAll_cons r0
  obtain ⟨rfl, rfl, rfl⟩ := trodAll_nil r1
  obtain rfl : args = #[v0, v1] := by cases args; simp_all
  obtain ⟨a0, l0, k0, rfl⟩ := okWide_slice Try.underlying56 (hval 0 56 v0 rfl rfl)
  obtain ⟨m0, x0, t0⟩ := cell_of rfl h0
  obtain ⟨Axs, xs, cxs, exs, sxs, wxs, lxs⟩ := open_sl (s := 3) Try.underlying56 (by kernel_rfl) ModeI.len (by omega) (fun _ _ _ h => open_ModeI h) t0
  rw [exs]
  obtain ⟨fr, rfl, _, _, _⟩ := open_int Try.underlying2 (hval 1 2 v1 rfl rfl) h1
  refine Calls.mono (law_FnExactReachableModes _ _ _ _ _ fr W sxs ⟨Nat.le_refl _, wxs⟩ lxs) fun e W' h => ?_
  cases e <;> first | exact h.elim | skip
  obtain ⟨rfl, hb⟩ := h
  exact ⟨_, rfl, law_post law_laid (by kernel_rfl) rfl rfl Try.underlying4 (by rw [← exs]; exact hW') rfl hb⟩

theorem fnExactReachableModes_holds : Rows.FnExactReachableModesSaid :=
  OpenClaim.holds_of_wide 9 Try.f9 rfl rfl rfl rfl rfl rfl rfl ⟨rfl, rfl, rfl, rfl, rfl⟩ rfl rfl rfl rfl rfl (by kernel_rfl) Try.func9 (by kernel_rfl)
    (of_decide_eq_true (by kernel_rfl)) (by unfold Func.isWrapper; rw [if_neg (of_decide_eq_false (by kernel_rfl))]; exact ⟨rfl, rfl⟩)
    (fun os started H enc _ => fnExactReachableModes_lifted os started H enc)
end Go.Proofs.Ytimabffnoanciaa
