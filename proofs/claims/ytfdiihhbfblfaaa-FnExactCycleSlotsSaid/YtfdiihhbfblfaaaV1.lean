/- The law FnExactCycleSlots answers true for all arguments that its row admits, and leaves what was there before as it was. No condition. -/
import Derived.Test.YtfdiihhbfblfaaaE3
import Derived.Test.YtfdiihhbfblfaaaE4
import Derived.Test.YtfdiihhbfblfaaaFlowR
namespace Go.Proofs.Ytfdiihhbfblfaaa
open Go.ChangeShapes Go.WideShapes Go.ChangeAt Go.RowKit
set_option linter.unusedVariables false
set_option linter.unusedSimpArgs false
set_option maxRecDepth 20000
theorem law_own : ownKnob Try.prog.godebug = none := by kernel_rfl
theorem law_laid : laidOutB Try.prog = true := by kernel_rfl
theorem open_ModeI {H : Type} {enc : TypeId × Value → H} {W : World} {sp : Nat → Bool} {fuel : Nat} {cs : List Value} {x : DataW H × List MemPlace} (h : DataW.trod enc Try.prog W 0 sp true fuel 54 cs = some x) : ∃ d : ModeI, cs = d.cells ∧ (Sl W.heap.size W d.A (d.m.next.flatMap eI) ∧ d.m.next.length ≤ 9223372036854775807) := by
  have hl : cs.length = 3 := (len_of Try.underlying54 h).trans (by kernel_rfl)
  match cs, hl with
  | [c0, c1, c2], _ =>
    obtain ⟨n0, y0, h0⟩ := trod_field Try.underlying54 h 0 rfl
    obtain ⟨z0, e0, w0⟩ := open_i64 Try.underlying2 h0
    obtain rfl : c0 = .int .i64 z0 := by have e := show [c0] = [.int .i64 z0] from e0; injection e
    obtain ⟨n1, y1, h1⟩ := trod_field Try.underlying54 h 1 rfl
    obtain ⟨z1, e1, w1⟩ := open_i64 Try.underlying2 h1
    obtain rfl : c1 = .int .i64 z1 := by have e := show [c1] = [.int .i64 z1] from e1; injection e
    obtain ⟨n2, y2, h2⟩ := trod_field Try.underlying54 h 2 rfl
    obtain ⟨A2, xs2, k2, e2, s2, w2, l2⟩ := open_sl (v := c2) (s := 1) Try.underlying30 (by kernel_rfl) eI_len (by omega) (fun _ _ _ h => open_i64 Try.underlying2 h) h2
    exact ⟨⟨⟨z0, z1, xs2⟩, A2, k2⟩, by rw [e2]; rfl, s2, l2⟩
theorem law_FnExactCycleSlots (A : Option Addr) (B B2 c : Nat) (xs : List ModeI) (mode : Int) (w : World) (hs : Sl B w A (xs.flatMap ModeI.cells)) (hn : Nexts B2 w xs) (hm : xs.length ≤ 9223372036854775807) :
    Calls Try.prog 3 #[.slice A xs.length c, .int .i64 mode] w (Ret fun v w' => v = .bool true ∧ Ext w w') := by
  have Bhs := hs.1
  have Bhn := hn.1
  have X := Ext.refl w
  refine calls_of (args := [.slice A xs.length c, .int .i64 mode]) Try.func3 Try.ntmps3 rfl rfl ?_
  refine c_seqR ?_
  refine ops_cons rfl (ow_assign rfl ?_)
  refine ops_nil ?_
  refine c_seqR ?_
  refine ops_cons rfl (ow_assign rfl ?_)
  refine ops_nil ?_
  refine c_seqR ?_
  refine ops_cons rfl (ow_move rfl ?_)
  refine ops_cons rfl (ow_move rfl ?_)
  refine ops_cons rfl (ow_call ent10 rfl (ret_mono (szModes_c _ _ _ _ _ _ hs hn hm) ?_))
  rintro _ w2 ⟨rfl, x1⟩
  replace hs := hs.ext x1
  replace hn := hn.ext x1
  replace X := Ext.trans X x1; clear x1
  refine ops_cons rfl (ow_assign rfl ?_)
  refine ops_nil ?_
  refine c_seq ?_
  refine c_seqR ?_
  refine ops_cons rfl (ow_move rfl ?_)
  refine ops_cons rfl (ow_lss2 rfl rfl (fun hq => ?_) (fun hq => ?_))
  · skip
    refine ops_nil ?_
    refine c_true rfl ?_
    refine c_seqR ?_
    refine ops_cons rfl (ow_assign rfl ?_)
    refine ops_nil ?_
    refine c_ret ?_
    refine tq_r ?_
    refine fin_ret1 rfl rfl ?_
    exact ⟨rfl, X⟩
  · skip
    have hl3 := szM_le hq
    have hl := hl3.1
    have hz := hl3.2
    refine ops_nil ?_
    refine c_false rfl ?_
    refine c_skip ?_
    refine tq_n ?_
    refine c_seqR ?_
    refine ops_cons rfl (ow_move rfl ?_)
    refine ops_cons rfl (ow_call ent12 rfl (ret_mono (toModes_c _ _ _ _ _ _ hs hn hl hz) ?_))
    rintro _ w4 ⟨A5, c6, y0, rfl, em0, oC0, oC0n, x3⟩
    replace oC0 := Own.low oC0 X.size
    replace oC0n := NOwn.low oC0n X.size
    replace hs := hs.ext x3
    replace hn := hn.ext x3
    replace X := Ext.trans X x3; clear x3
    have hl0 := hl_of em0 hl
    have hz0 := hz_of em0 hz
    refine ops_cons rfl (ow_move rfl ?_)
    refine ops_cons rfl (ow_call ent11 rfl (ret_mono (sCyc_c _ _ _ _ _ _ _ (oC0).sl (oC0n).nexts hl0 hz0) ?_))
    rintro _ w8 ⟨rfl, x7⟩
    replace hs := hs.ext x7
    replace hn := hn.ext x7
    replace oC0 := oC0.ext x7
    replace oC0n := oC0n.ext x7
    replace X := Ext.trans X x7; clear x7
    refine ops_cons rfl (ow_move rfl ?_)
    refine ops_cons rfl (ow_extract rfl rfl ?_)
    refine ops_cons rfl (ow_extract rfl rfl ?_)
    refine ops_cons rfl (ow_assign rfl ?_)
    refine ops_cons rfl (ow_assign rfl ?_)
    refine ops_nil ?_
    refine c_seqR ?_
    refine ops_cons rfl (ow_move rfl ?_)
    refine ops_cons rfl (ow_call ent12 rfl (ret_mono (toModes_c _ _ _ _ _ _ hs hn hl hz) ?_))
    rintro _ w10 ⟨A11, c12, y1, rfl, em1, oC1, oC1n, x9⟩
    replace oC1 := Own.low oC1 X.size
    replace oC1n := NOwn.low oC1n X.size
    replace hs := hs.ext x9
    replace hn := hn.ext x9
    replace oC0 := oC0.ext x9
    replace oC0n := oC0n.ext x9
    replace X := Ext.trans X x9; clear x9
    have hl1 := hl_of em1 hl
    have hz1 := hz_of em1 hz
    refine ops_cons rfl (ow_assign rfl ?_)
    refine ops_nil ?_
    refine c_seqR ?_
    refine ops_cons rfl (ow_move rfl ?_)
    refine ops_cons rfl (ow_move rfl ?_)
    refine ops_cons rfl (ow_call ent13 rfl (ret_mono (iCyc_c _ _ _ _ _ _ _ (oC1).sl (oC1n).nexts hl1 hz1) ?_))
    rintro _ w14 ⟨rfl, x13⟩
    replace hs := hs.ext x13
    replace hn := hn.ext x13
    replace oC0 := oC0.ext x13
    replace oC0n := oC0n.ext x13
    replace oC1 := oC1.ext x13
    replace oC1n := oC1n.ext x13
    replace X := Ext.trans X x13; clear x13
    refine ops_cons rfl (ow_move rfl ?_)
    refine ops_cons rfl (ow_extract rfl rfl ?_)
    refine ops_cons rfl (ow_extract rfl rfl ?_)
    refine ops_cons rfl (ow_assign rfl ?_)
    refine ops_cons rfl (ow_assign rfl ?_)
    refine ops_nil ?_
    refine c_seq ?_
    refine c_seqR ?_
    refine ops_cons rfl (ow_move rfl ?_)
    refine ops_cons rfl (ow_move rfl ?_)
    refine ops_cons rfl (ow_neq2 rfl rfl (fun h15 => absurd h15 (by rw [em0, em1]; simp)) (fun h15 => ?_))
    refine ops_cons rfl (ow_move rfl ?_)
    refine ops_want rfl rfl rfl (ow_move rfl ?_)
    refine ops_want rfl rfl rfl (ow_move rfl ?_)
    refine ops_want rfl rfl rfl (ow_neq2 rfl rfl (fun h16 => absurd h16 (by rw [em0, em1]; simp)) (fun h16 => ?_))
    refine ops_cons rfl (ow_pick rfl rfl ?_)
    refine ops_nil ?_
    refine c_false rfl ?_
    refine c_skip ?_
    refine tq_n ?_
    refine c_seq ?_
    refine c_seqR ?_
    refine ops_cons rfl (ow_move rfl ?_)
    refine ops_cons rfl (ow_move rfl ?_)
    refine ops_cons rfl (ow_call ent12 rfl (ret_mono (toModes_c _ _ _ _ _ _ hs hn hl hz) ?_))
    rintro _ w18 ⟨A19, c20, y2, rfl, em2, oC2, oC2n, x17⟩
    replace oC2 := Own.low oC2 X.size
    replace oC2n := NOwn.low oC2n X.size
    replace hs := hs.ext x17
    replace hn := hn.ext x17
    replace oC0 := oC0.ext x17
    replace oC0n := oC0n.ext x17
    replace oC1 := oC1.ext x17
    replace oC1n := oC1n.ext x17
    replace X := Ext.trans X x17; clear x17
    have hl2 := hl_of em2 hl
    have hz2 := hz_of em2 hz
    refine ops_cons rfl (ow_call ent14 rfl (ret_mono (eqModes_c _ _ _ _ _ _ _ _ _ _ _ (oC1).sl (oC1n).nexts (oC2).sl (oC2n).nexts (em1.trans em2.symm) hl1 hz1) ?_))
    rintro _ w22 ⟨rfl, x21⟩
    replace hs := hs.ext x21
    replace hn := hn.ext x21
    replace oC0 := oC0.ext x21
    replace oC0n := oC0n.ext x21
    replace oC1 := oC1.ext x21
    replace oC1n := oC1n.ext x21
    replace oC2 := oC2.ext x21
    replace oC2n := oC2n.ext x21
    replace X := Ext.trans X x21; clear x21
    refine ops_cons rfl (ow_not rfl ?_)
    refine ops_nil ?_
    refine c_false rfl ?_
    refine c_skip ?_
    refine tq_n ?_
    refine c_seqR ?_
    refine ops_cons rfl (ow_assign rfl ?_)
    refine ops_nil ?_
    refine c_ret ?_
    refine fin_ret1 rfl rfl ?_
    exact ⟨rfl, X⟩
set_option maxRecDepth 100000

theorem fnExactCycleSlots_lifted (os : Os) (started : os.Started) (H : Type) (enc : TypeId × Value → H) :
    ReturnsInHanded {} Try.checked os 3 .any (Rows.fnExactCycleSlotsSpec.pre6 enc Try.prog Try.f3 Rows.fnExactCycleSlotsRow.domain false) (Rows.fnExactCycleSlotsSpec.post enc Try.prog Try.f3 false true false false) := by
  refine returnsInHanded_of_change (C := Try.checked) law_own started (by kernel_rfl) Try.func3
    (ChangeSpec.witness6 (enc := enc) (C := Try.checked) false ⟨#[], #[.slice none 0 0, .int .i64 0], []⟩ 8 (by kernel_rfl) (by kernel_rfl) (by kernel_rfl) (by kernel_rfl)) ?_
  intro W base args ds gs before hval0 hW hcnd _
  have hval : ∀ (j : Nat) t v, Try.f3.params[j]? = some t → args[j]? = some v → Value.okWide Try.prog W .any base t v := hval0
  have hW' := hW
  obtain ⟨p, q, hA0, hV, rfl, hfz, hnd⟩ := hW
  have hA : DataW.TrodAll enc Try.prog W 0 (fun _ => true) true Try.f3.params.toList args.toList ds p := hA0
  rw [Try.params3] at hA hval
  obtain ⟨rfl, rfl⟩ := trodVars_none hV
  obtain ⟨v0, vs0, d0, ds0, p0, q0, hargs, rfl, rfl, h0, r0⟩ := trodAll_cons hA
  obtain ⟨v1, vs1, d1, ds1, p1, q1, rfl, rfl, rfl, h1, r1⟩ := trodAll_cons r0
  obtain ⟨rfl, rfl, rfl⟩ := trodAll_nil r1
  obtain rfl : args = #[v0, v1] := by cases args; simp_all
  obtain ⟨a0, l0, k0, rfl⟩ := okWide_slice Try.underlying22 (hval 0 22 v0 rfl rfl)
  obtain ⟨m0, x0, t0⟩ := cell_of rfl h0
  obtain ⟨Axs, xs, cxs, exs, sxs, wxs, lxs⟩ := open_sl (s := 3) Try.underlying22 (by kernel_rfl) ModeI.len (by omega) (fun _ _ _ h => open_ModeI h) t0
  rw [exs]
  obtain ⟨mode, rfl, _, _, _⟩ := open_int Try.underlying2 (hval 1 2 v1 rfl rfl) h1
  refine Calls.mono (law_FnExactCycleSlots _ _ _ _ _ mode W sxs ⟨Nat.le_refl _, wxs⟩ lxs) fun e W' h => ?_
  cases e <;> first | exact h.elim | skip
  obtain ⟨rfl, hb⟩ := h
  exact ⟨_, rfl, law_post law_laid (by kernel_rfl) rfl rfl Try.underlying4 (by rw [← exs]; exact hW') rfl hb⟩

theorem fnExactCycleSlots_holds : Rows.FnExactCycleSlotsSaid :=
  OpenClaim.holds_of_wide 3 Try.f3 rfl rfl rfl rfl rfl rfl rfl ⟨rfl, rfl, rfl, rfl, rfl⟩ rfl rfl rfl rfl rfl (by kernel_rfl) Try.func3 (by kernel_rfl)
    (of_decide_eq_true (by kernel_rfl)) (by unfold Func.isWrapper; rw [if_neg (of_decide_eq_false (by kernel_rfl))]; exact ⟨rfl, rfl⟩)
    (fun os started H enc _ => fnExactCycleSlots_lifted os started H enc)
end Go.Proofs.Ytfdiihhbfblfaaa
