/- The law FnExactFindSlot answers true for all arguments that its row admits, and leaves what was there before as it was. No condition. -/
import Derived.Test.YtgdmfplobmcnnaaD4
import Derived.Test.YtgdmfplobmcnnaaD3
import Derived.Test.YtgdmfplobmcnnaaFlowR
namespace Go.Proofs.Ytgdmfplobmcnnaa
open Go.ChangeShapes Go.WideShapes Go.ChangeAt Go.RowKit
set_option linter.unusedVariables false
set_option linter.unusedSimpArgs false
set_option maxRecDepth 20000
def Desc.ok (d : Desc) : Prop := In64 d.node ∧ In64 d.kind ∧ In64 d.size ∧ In64 d.duration
def SlotI.ok (d : SlotI) : Prop := In64 d.mode ∧ In64 d.round ∧ In64 d.slot ∧ Desc.ok d.desc
theorem law_own : ownKnob Try.prog.godebug = none := by kernel_rfl
theorem law_laid : laidOutB Try.prog = true := by kernel_rfl
theorem open_Desc {H : Type} {enc : TypeId × Value → H} {W : World} {sp : Nat → Bool} {fuel : Nat} {cs : List Value} {x : DataW H × List MemPlace} (h : DataW.trod enc Try.prog W 0 sp true fuel 47 cs = some x) : ∃ d : Desc, cs = d.cells ∧ d.ok := by
  have hl : cs.length = 5 := (len_of Try.underlying47 h).trans (by kernel_rfl)
  match cs, hl with
  | [c0, c1, c2, c3, c4], _ =>
    obtain ⟨n0, y0, h0⟩ := trod_field Try.underlying47 h 0 rfl
    obtain ⟨z0, e0, w0⟩ := open_i64 Try.underlying2 h0
    obtain rfl : c0 = .int .i64 z0 := by have e := show [c0] = [.int .i64 z0] from e0; injection e
    obtain ⟨n1, y1, h1⟩ := trod_field Try.underlying47 h 1 rfl
    obtain ⟨z1, e1, w1⟩ := open_i64 Try.underlying2 h1
    obtain rfl : c1 = .int .i64 z1 := by have e := show [c1] = [.int .i64 z1] from e1; injection e
    obtain ⟨n2, y2, h2⟩ := trod_field Try.underlying47 h 2 rfl
    obtain ⟨z2, e2, w2⟩ := open_i64 Try.underlying2 h2
    obtain rfl : c2 = .int .i64 z2 := by have e := show [c2] = [.int .i64 z2] from e2; injection e
    obtain ⟨n3, y3, h3⟩ := trod_field Try.underlying47 h 3 rfl
    obtain ⟨z3, e3, w3⟩ := open_i64 Try.underlying2 h3
    obtain rfl : c3 = .int .i64 z3 := by have e := show [c3] = [.int .i64 z3] from e3; injection e
    obtain ⟨n4, y4, h4⟩ := trod_field Try.underlying47 h 4 rfl
    obtain ⟨z4, e4⟩ := open_bl Try.underlying4 h4
    obtain rfl : c4 = .bool z4 := by have e := show [c4] = [.bool z4] from e4; injection e
    exact ⟨⟨z0, z1, z2, z3, z4⟩, rfl, ⟨w0, w1, w2, w3⟩⟩
theorem open_SlotI {H : Type} {enc : TypeId × Value → H} {W : World} {sp : Nat → Bool} {fuel : Nat} {cs : List Value} {x : DataW H × List MemPlace} (h : DataW.trod enc Try.prog W 0 sp true fuel 49 cs = some x) : ∃ d : SlotI, cs = d.cells ∧ d.ok := by
  have hl : cs.length = 8 := (len_of Try.underlying49 h).trans (by kernel_rfl)
  match cs, hl with
  | [c0, c1, c2, c3, c4, c5, c6, c7], _ =>
    obtain ⟨n0, y0, h0⟩ := trod_field Try.underlying49 h 0 rfl
    obtain ⟨z0, e0, w0⟩ := open_i64 Try.underlying2 h0
    obtain rfl : c0 = .int .i64 z0 := by have e := show [c0] = [.int .i64 z0] from e0; injection e
    obtain ⟨n1, y1, h1⟩ := trod_field Try.underlying49 h 1 rfl
    obtain ⟨z1, e1, w1⟩ := open_i64 Try.underlying2 h1
    obtain rfl : c1 = .int .i64 z1 := by have e := show [c1] = [.int .i64 z1] from e1; injection e
    obtain ⟨n2, y2, h2⟩ := trod_field Try.underlying49 h 2 rfl
    obtain ⟨z2, e2, w2⟩ := open_i64 Try.underlying2 h2
    obtain rfl : c2 = .int .i64 z2 := by have e := show [c2] = [.int .i64 z2] from e2; injection e
    obtain ⟨n3, y3, h3⟩ := trod_field Try.underlying49 h 3 rfl
    obtain ⟨z3, e3, w3⟩ := open_Desc h3
    have q3 : [c3, c4, c5, c6, c7] = z3.cells := e3
    simp only [Desc.cells, List.cons.injEq, and_true] at q3
    obtain ⟨rfl, rfl, rfl, rfl, rfl⟩ := q3
    exact ⟨⟨z0, z1, z2, z3⟩, rfl, ⟨w0, w1, w2, w3⟩⟩
theorem law_FnExactFindSlot (A : Option Addr) (B c : Nat) (xs : List SlotI) (m r s : Int) (w : World) (hs : Sl B w A (xs.flatMap SlotI.cells)) (hm : xs.length ≤ 9223372036854775807) :
    Calls Try.prog 4 #[.slice A xs.length c, .int .i64 m, .int .i64 r, .int .i64 s] w (Ret fun v w' => v = .bool true ∧ Ext w w') := by
  have Bhs := hs.1
  have X := Ext.refl w
  refine calls_of (args := [.slice A xs.length c, .int .i64 m, .int .i64 r, .int .i64 s]) Try.func4 Try.ntmps4 rfl rfl ?_
  refine c_seqR ?_
  refine ops_cons rfl (ow_assign rfl ?_)
  refine ops_nil ?_
  refine c_seqR ?_
  refine ops_cons rfl (ow_assign rfl ?_)
  refine ops_nil ?_
  refine c_seqR ?_
  refine ops_cons rfl (ow_move rfl ?_)
  refine ops_cons rfl (ow_move rfl ?_)
  refine ops_cons rfl (ow_call ent12 rfl (ret_mono (szSlotI_c _ _ _ _ hm) ?_))
  rintro _ w2 ⟨rfl, x1⟩
  replace hs := hs.ext x1
  replace X := Ext.trans X x1; clear x1
  refine ops_cons rfl (ow_assign rfl ?_)
  refine ops_nil ?_
  refine c_seq ?_
  refine c_seqR ?_
  refine ops_cons rfl (ow_move rfl ?_)
  refine ops_cons rfl (ow_lss2 rfl rfl (fun hz0 => ?_) (fun hz0 => ?_))
  · skip
    refine ops_nil ?_
    refine c_true rfl ?_
    refine c_seqR ?_
    refine ops_cons rfl (ow_assign rfl ?_)
    refine ops_nil ?_
    refine c_ret ?_
    refine tq_r ?_
    refine fin_ret1 rfl rfl ?_
    exact ⟨rfl, X⟩
  · skip
    have hl : xs.length ≤ 1048576 := by
      by_cases h : 1048576 - (xs.length : Int) < 0
      · rw [if_pos h] at hz0; omega
      · omega
    refine ops_nil ?_
    refine c_false rfl ?_
    refine c_skip ?_
    refine tq_n ?_
    refine c_seqR ?_
    refine ops_cons rfl (ow_move rfl ?_)
    refine ops_cons rfl (ow_call ent14 rfl (ret_mono (toSlotIS_c _ _ _ _ _ hs hl) ?_))
    rintro _ w4 ⟨A6, c7, rfl, o5, x3⟩
    replace o5 := Own.low o5 X.size
    replace hs := hs.ext x3
    replace X := Ext.trans X x3; clear x3
    refine ops_cons rfl (ow_move rfl ?_)
    refine ops_cons rfl (ow_move rfl ?_)
    refine ops_cons rfl (ow_move rfl ?_)
    refine ops_cons rfl (ow_call ent17 rfl (ret_mono (sFindSlot_c _ _ _ _ _ _ _ _ (o5).sl hl) ?_))
    rintro _ w9 ⟨rfl, x8⟩
    replace hs := hs.ext x8
    replace o5 := o5.ext x8
    replace X := Ext.trans X x8; clear x8
    refine ops_cons rfl (ow_move rfl ?_)
    refine ops_cons rfl (ow_extract rfl rfl ?_)
    refine ops_cons rfl (ow_extract rfl rfl ?_)
    refine ops_cons rfl (ow_alloc ti30 ?_)
    intro g13 w12 eg13 b10 x11 zg13
    have lg13 : w.heap.size ≤ g13 := Nat.le_trans X.size (Nat.le_of_eq eg13.symm)
    replace hs := hs.ext x11
    replace o5 := o5.ext x11
    replace X := Ext.trans X x11; clear x11
    refine ops_cons rfl (ow_storeB b10 ti30 rfl rfl rfl rfl rfl rfl ?_)
    intro w15 b17 hg14 z16
    replace hs := hs.grown hg14 (by intro g hg; injection hg; omega)
    replace o5 := o5.grownBlk hg14 (Own.neT o5 b10 (by decide))
    replace X := X.grown hg14 X.size (by intro g hg; injection hg; omega)
    clear hg14 b10
    refine ops_cons rfl (ow_assign rfl ?_)
    refine ops_nil ?_
    refine c_seqR ?_
    refine ops_cons rfl (ow_move rfl ?_)
    refine ops_cons rfl (ow_call ent14 rfl (ret_mono (toSlotIS_c _ _ _ _ _ hs hl) ?_))
    rintro _ w19 ⟨A21, c22, rfl, o20, x18⟩
    replace o20 := Own.low o20 X.size
    replace hs := hs.ext x18
    replace o5 := o5.ext x18
    replace b17 := b17.ext x18
    replace X := Ext.trans X x18; clear x18
    refine ops_cons rfl (ow_assign rfl ?_)
    refine ops_nil ?_
    refine c_seqR ?_
    refine ops_cons rfl (ow_move rfl ?_)
    refine ops_cons rfl (ow_move rfl ?_)
    refine ops_cons rfl (ow_move rfl ?_)
    refine ops_cons rfl (ow_move rfl ?_)
    refine ops_cons rfl (ow_call ent18 rfl (ret_mono (iFindSlot_c _ _ _ _ _ _ _ _ (o20).sl hl) ?_))
    rintro _ w24 ⟨rfl, x23⟩
    replace hs := hs.ext x23
    replace o5 := o5.ext x23
    replace b17 := b17.ext x23
    replace o20 := o20.ext x23
    replace X := Ext.trans X x23; clear x23
    refine ops_cons rfl (ow_move rfl ?_)
    refine ops_cons rfl (ow_extract rfl rfl ?_)
    refine ops_cons rfl (ow_extract rfl rfl ?_)
    refine ops_cons rfl (ow_alloc ti30 ?_)
    intro g28 w27 eg28 b25 x26 zg28
    have lg28 : w.heap.size ≤ g28 := Nat.le_trans X.size (Nat.le_of_eq eg28.symm)
    have ng28b17 := Nat.lt_of_lt_of_eq b17.lt eg28.symm
    replace hs := hs.ext x26
    replace o5 := o5.ext x26
    replace b17 := b17.ext x26
    replace o20 := o20.ext x26
    replace X := Ext.trans X x26; clear x26
    refine ops_cons rfl (ow_storeB b25 ti30 rfl rfl rfl rfl rfl rfl ?_)
    intro w30 b32 hg29 z31
    replace hs := hs.grown hg29 (by intro g hg; injection hg; omega)
    replace o5 := o5.grownBlk hg29 (Own.neT o5 b25 (by decide))
    replace b17 := b17.grown hg29 (by intro h; injection h; omega)
    replace o20 := o20.grownBlk hg29 (Own.neT o20 b25 (by decide))
    replace X := X.grown hg29 X.size (by intro g hg; injection hg; omega)
    clear hg29 b25
    refine ops_cons rfl (ow_assign rfl ?_)
    refine ops_nil ?_
    refine c_seq ?_
    refine c_seqR ?_
    refine ops_cons rfl (ow_loadAB b32 ti30 rfl rfl ?_)
    refine ops_cons rfl (ow_loadAB b17 ti30 rfl rfl ?_)
    refine ops_cons rfl (ow_call ent19 rfl (ret_mono (eqDesc_c _ _) ?_))
    rintro _ w34 ⟨rfl, x33⟩
    replace hs := hs.ext x33
    replace o5 := o5.ext x33
    replace b17 := b17.ext x33
    replace o20 := o20.ext x33
    replace b32 := b32.ext x33
    replace X := Ext.trans X x33; clear x33
    refine ops_cons rfl (ow_not rfl ?_)
    refine ops_cons rfl (ow_move rfl ?_)
    refine ops_want rfl rfl rfl (ow_move rfl ?_)
    refine ops_want rfl rfl rfl (ow_move rfl ?_)
    refine ops_want rfl rfl rfl (ow_neq2 rfl rfl (fun h35 => absurd h35 (by simp)) (fun h35 => ?_))
    refine ops_cons rfl (ow_pick rfl rfl ?_)
    refine ops_nil ?_
    refine c_false rfl ?_
    refine c_skip ?_
    refine tq_n ?_
    refine c_seq ?_
    refine c_seqR ?_
    refine ops_cons rfl (ow_move rfl ?_)
    refine ops_cons rfl (ow_move rfl ?_)
    refine ops_cons rfl (ow_call ent14 rfl (ret_mono (toSlotIS_c _ _ _ _ _ hs hl) ?_))
    rintro _ w37 ⟨A39, c40, rfl, o38, x36⟩
    replace o38 := Own.low o38 X.size
    replace hs := hs.ext x36
    replace o5 := o5.ext x36
    replace b17 := b17.ext x36
    replace o20 := o20.ext x36
    replace b32 := b32.ext x36
    replace X := Ext.trans X x36; clear x36
    refine ops_cons rfl (ow_call ent16 rfl (ret_mono (eqSlotIS_c _ _ _ _ _ _ _ _ (o20).sl (o38).sl hl) ?_))
    rintro _ w42 ⟨rfl, x41⟩
    replace hs := hs.ext x41
    replace o5 := o5.ext x41
    replace b17 := b17.ext x41
    replace o20 := o20.ext x41
    replace b32 := b32.ext x41
    replace o38 := o38.ext x41
    replace X := Ext.trans X x41; clear x41
    refine ops_cons rfl (ow_not rfl ?_)
    refine ops_nil ?_
    refine c_false rfl ?_
    refine c_skip ?_
    refine tq_n ?_
    refine c_seqR ?_
    refine ops_cons rfl (ow_assign rfl ?_)
    refine ops_nil ?_
    refine c_ret ?_
    refine fin_ret1 rfl rfl ?_
    exact ⟨rfl, X⟩
set_option maxRecDepth 100000

theorem fnExactFindSlot_lifted (os : Os) (started : os.Started) (H : Type) (enc : TypeId × Value → H) :
    ReturnsInHanded {} Try.checked os 4 .any (Rows.fnExactFindSlotSpec.pre6 enc Try.prog Try.f4 Rows.fnExactFindSlotRow.domain false) (Rows.fnExactFindSlotSpec.post enc Try.prog Try.f4 false true false false) := by
  refine returnsInHanded_of_change (C := Try.checked) law_own started (by kernel_rfl) Try.func4
    (ChangeSpec.witness6 (enc := enc) (C := Try.checked) false ⟨#[], #[.slice none 0 0, .int .i64 0, .int .i64 0, .int .i64 0], []⟩ 8 (by kernel_rfl) (by kernel_rfl) (by kernel_rfl) (by kernel_rfl)) ?_
  intro W base args ds gs before hval0 hW hcnd _
  have hval : ∀ (j : Nat) t v, Try.f4.params[j]? = some t → args[j]? = some v → Value.okWide Try.prog W .any base t v := hval0
  have hW' := hW
  obtain ⟨p, q, hA0, hV, rfl, hfz, hnd⟩ := hW
  have hA : DataW.TrodAll enc Try.prog W 0 (fun _ => true) true Try.f4.params.toList args.toList ds p := hA0
  rw [Try.params4] at hA hval
  obtain ⟨rfl, rfl⟩ := trodVars_none hV
  obtain ⟨v0, vs0, d0, ds0, p0, q0, hargs, rfl, rfl, h0, r0⟩ := trodAll_cons hA
  obtain ⟨v1, vs1, d1, ds1, p1, q1, rfl, rfl, rfl, h1, r1⟩ := trodAll_cons r0
  obtain ⟨v2, vs2, d2, ds2, p2, q2, rfl, rfl, rfl, h2, r2⟩ := trodAll_cons r1
  obtain ⟨v3, vs3, d3, ds3, p3, q3, rfl, rfl, rfl, h3, r3⟩ := trodAll_cons r2
  obtain ⟨rfl, rfl, rfl⟩ := trodAll_nil r3
  obtain rfl : args = #[v0, v1, v2, v3] := by cases args; simp_all
  obtain ⟨a0, l0, k0, rfl⟩ := okWide_slice Try.underlying22 (hval 0 22 v0 rfl rfl)
  obtain ⟨m0, x0, t0⟩ := cell_of rfl h0
  obtain ⟨Axs, xs, cxs, exs, sxs, wxs, lxs⟩ := open_sl (s := 8) Try.underlying22 (by kernel_rfl) SlotI.len (by omega) (fun _ _ _ h => open_SlotI h) t0
  rw [exs]
  obtain ⟨m, rfl, _, _, _⟩ := open_int Try.underlying2 (hval 1 2 v1 rfl rfl) h1
  obtain ⟨r, rfl, _, _, _⟩ := open_int Try.underlying2 (hval 2 2 v2 rfl rfl) h2
  obtain ⟨s, rfl, _, _, _⟩ := open_int Try.underlying2 (hval 3 2 v3 rfl rfl) h3
  refine Calls.mono (law_FnExactFindSlot _ _ _ _ m r s W sxs lxs) fun e W' h => ?_
  cases e <;> first | exact h.elim | skip
  obtain ⟨rfl, hb⟩ := h
  exact ⟨_, rfl, law_post law_laid (by kernel_rfl) rfl rfl Try.underlying4 (by rw [← exs]; exact hW') rfl hb⟩

theorem fnExactFindSlot_holds : Rows.FnExactFindSlotSaid :=
  OpenClaim.holds_of_wide 4 Try.f4 rfl rfl rfl rfl rfl rfl rfl ⟨rfl, rfl, rfl, rfl, rfl⟩ rfl rfl rfl rfl rfl (by kernel_rfl) Try.func4 (by kernel_rfl)
    (of_decide_eq_true (by kernel_rfl)) (by unfold Func.isWrapper; rw [if_neg (of_decide_eq_false (by kernel_rfl))]; exact ⟨rfl, rfl⟩)
    (fun os started H enc _ => fnExactFindSlot_lifted os started H enc)
end Go.Proofs.Ytgdmfplobmcnnaa
