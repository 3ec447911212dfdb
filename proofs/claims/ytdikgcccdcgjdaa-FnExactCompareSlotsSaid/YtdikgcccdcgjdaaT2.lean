/- The law FnExactCompareSlots answers true for all arguments that its row admits, and leaves what was there before as it was. No condition. -/
import Derived.Test.YtdikgcccdcgjdaaT1
import Derived.Test.YtdikgcccdcgjdaaFlowR
namespace Go.Proofs.Ytdikgcccdcgjdaa
open Go.ChangeShapes Go.WideShapes Go.ChangeAt Go.RowKit
set_option linter.unusedVariables false
def Desc.ok (d : Desc) : Prop := In64 d.node ∧ In64 d.kind ∧ In64 d.size ∧ In64 d.duration
def SlotI.ok (d : SlotI) : Prop := In64 d.mode ∧ In64 d.round ∧ In64 d.slot ∧ Desc.ok d.desc
def Dem.ok (d : Dem) : Prop := In64 d.node ∧ In64 d.every ∧ In64 d.size

theorem law_own : ownKnob Try.prog.godebug = none := by kernel_rfl
theorem law_laid : laidOutB Try.prog = true := by kernel_rfl

theorem open_Desc {H : Type} {enc : TypeId × Value → H} {W : World} {sp : Nat → Bool} {fuel : Nat} {cs : List Value} {x : DataW H × List MemPlace} (h : DataW.trod enc Try.prog W 0 sp true fuel 23 cs = some x) : ∃ d : Desc, cs = d.cells ∧ d.ok := by
  have hl : cs.length = 5 := (len_of Try.underlying23 h).trans (by kernel_rfl)
  match cs, hl with
  | [c0, c1, c2, c3, c4], _ =>
    obtain ⟨n0, y0, h0⟩ := trod_field Try.underlying23 h 0 rfl
    obtain ⟨z0, e0, w0⟩ := open_i64 Try.underlying2 h0
    obtain rfl : c0 = .int .i64 z0 := by have e := show [c0] = [.int .i64 z0] from e0; injection e
    obtain ⟨n1, y1, h1⟩ := trod_field Try.underlying23 h 1 rfl
    obtain ⟨z1, e1, w1⟩ := open_i64 Try.underlying2 h1
    obtain rfl : c1 = .int .i64 z1 := by have e := show [c1] = [.int .i64 z1] from e1; injection e
    obtain ⟨n2, y2, h2⟩ := trod_field Try.underlying23 h 2 rfl
    obtain ⟨z2, e2, w2⟩ := open_i64 Try.underlying2 h2
    obtain rfl : c2 = .int .i64 z2 := by have e := show [c2] = [.int .i64 z2] from e2; injection e
    obtain ⟨n3, y3, h3⟩ := trod_field Try.underlying23 h 3 rfl
    obtain ⟨z3, e3, w3⟩ := open_i64 Try.underlying2 h3
    obtain rfl : c3 = .int .i64 z3 := by have e := show [c3] = [.int .i64 z3] from e3; injection e
    obtain ⟨n4, y4, h4⟩ := trod_field Try.underlying23 h 4 rfl
    obtain ⟨z4, e4⟩ := open_bl Try.underlying4 h4
    obtain rfl : c4 = .bool z4 := by have e := show [c4] = [.bool z4] from e4; injection e
    exact ⟨⟨z0, z1, z2, z3, z4⟩, rfl, ⟨w0, w1, w2, w3⟩⟩

theorem open_SlotI {H : Type} {enc : TypeId × Value → H} {W : World} {sp : Nat → Bool} {fuel : Nat} {cs : List Value} {x : DataW H × List MemPlace} (h : DataW.trod enc Try.prog W 0 sp true fuel 25 cs = some x) : ∃ d : SlotI, cs = d.cells ∧ d.ok := by
  have hl : cs.length = 8 := (len_of Try.underlying25 h).trans (by kernel_rfl)
  match cs, hl with
  | [c0, c1, c2, c3, c4, c5, c6, c7], _ =>
    obtain ⟨n0, y0, h0⟩ := trod_field Try.underlying25 h 0 rfl
    obtain ⟨z0, e0, w0⟩ := open_i64 Try.underlying2 h0
    obtain rfl : c0 = .int .i64 z0 := by have e := show [c0] = [.int .i64 z0] from e0; injection e
    obtain ⟨n1, y1, h1⟩ := trod_field Try.underlying25 h 1 rfl
    obtain ⟨z1, e1, w1⟩ := open_i64 Try.underlying2 h1
    obtain rfl : c1 = .int .i64 z1 := by have e := show [c1] = [.int .i64 z1] from e1; injection e
    obtain ⟨n2, y2, h2⟩ := trod_field Try.underlying25 h 2 rfl
    obtain ⟨z2, e2, w2⟩ := open_i64 Try.underlying2 h2
    obtain rfl : c2 = .int .i64 z2 := by have e := show [c2] = [.int .i64 z2] from e2; injection e
    obtain ⟨n3, y3, h3⟩ := trod_field Try.underlying25 h 3 rfl
    obtain ⟨z3, e3, w3⟩ := open_Desc h3
    have q3 : [c3, c4, c5, c6, c7] = z3.cells := e3
    simp only [Desc.cells, List.cons.injEq, and_true] at q3
    obtain ⟨rfl, rfl, rfl, rfl, rfl⟩ := q3
    exact ⟨⟨z0, z1, z2, z3⟩, rfl, ⟨w0, w1, w2, w3⟩⟩

theorem law_CompareSlots (a b : SlotI) (w : World)  :
    Calls Try.prog 3 #[.agg a.cells.toArray, .agg b.cells.toArray] w (Ret fun v w' => v = .bool true ∧ Ext w w') := by
  have X := Ext.refl w
  refine calls_of (args := [.agg a.cells.toArray, .agg b.cells.toArray]) Try.func3 Try.ntmps3 rfl rfl ?_
  refine c_seqR ?_
  refine ops_cons rfl (ow_box rfl rfl ?_)
  intro g4 w3 eg4 b1 x2 zg4
  replace X := Ext.trans X x2; clear x2
  refine ops_cons rfl (ow_box rfl rfl ?_)
  intro g8 w7 eg8 b5 x6 zg8
  replace b1 := b1.ext x6
  replace X := Ext.trans X x6; clear x6
  refine ops_cons rfl (ow_assign rfl ?_)
  refine ops_nil ?_
  refine c_seqD [false, false, false, false, false, false] mixed (by kernel_rfl) ?_
  refine f_q rfl (fun wq sq => ow_loadAB (b1.ext sq) ti25 rfl rfl ⟨rfl, Ext.refl _⟩) ?_
  refine f_q rfl (fun wq sq => ow_call ent10 rfl (toSlotInfo_c _ _)) ?_
  refine f_q rfl (fun wq sq => ow_loadAB (b5.ext sq) ti25 rfl rfl ⟨rfl, Ext.refl _⟩) ?_
  refine f_q rfl (fun wq sq => ow_call ent10 rfl (toSlotInfo_c _ _)) ?_
  refine f_q rfl (fun wq sq => ow_call ent9 rfl (sCompareSlots_c _ _ _)) ?_
  refine f_q rfl (fun wq sq => ow_assign rfl ⟨rfl, Ext.refl _⟩) ?_
  refine f_nil (fun w9 sq => ?_)
  have xq := sq
  replace b1 := b1.ext xq
  replace b5 := b5.ext xq
  replace X := Ext.trans X xq; clear xq sq
  refine ops_nil ?_
  refine c_seqD [false, false, false, false, false, false] mixed (by kernel_rfl) ?_
  refine f_q rfl (fun wq sq => ow_loadAB (b1.ext sq) ti25 rfl rfl ⟨rfl, Ext.refl _⟩) ?_
  refine f_q rfl (fun wq sq => ow_call ent10 rfl (toSlotInfo_c _ _)) ?_
  refine f_q rfl (fun wq sq => ow_loadAB (b5.ext sq) ti25 rfl rfl ⟨rfl, Ext.refl _⟩) ?_
  refine f_q rfl (fun wq sq => ow_call ent10 rfl (toSlotInfo_c _ _)) ?_
  refine f_q rfl (fun wq sq => ow_call ent11 rfl (iCompareSlots_c _ _ _)) ?_
  refine f_q rfl (fun wq sq => ow_assign rfl ⟨rfl, Ext.refl _⟩) ?_
  refine f_nil (fun w10 sq => ?_)
  have xq := sq
  replace b1 := b1.ext xq
  replace b5 := b5.ext xq
  replace X := Ext.trans X xq; clear xq sq
  refine ops_nil ?_
  refine c_seq ?_
  refine c_seqR ?_
  refine ops_cons rfl (ow_move rfl ?_)
  refine ops_cons rfl (ow_move rfl ?_)
  refine ops_cons rfl (ow_neq2 rfl rfl (fun h11 => ?_) (fun h11 => ?_))
  · skip
    refine ops_nil ?_
    refine c_true rfl ?_
    refine c_seqR ?_
    refine ops_cons rfl (ow_assign rfl ?_)
    refine ops_nil ?_
    refine c_ret ?_
    refine tq_r ?_
    refine fin_ret1 rfl rfl ?_
    first | exact ⟨rfl, X⟩ | exact absurd rfl ‹_›
  · skip
    refine ops_nil ?_
    refine c_false rfl ?_
    refine c_skip ?_
    refine tq_n ?_
    refine c_seqR ?_
    refine ops_cons rfl (ow_assign rfl ?_)
    refine ops_nil ?_
    refine c_ret ?_
    refine fin_ret1 rfl rfl ?_
    first | exact ⟨rfl, X⟩ | exact absurd rfl ‹_›
set_option maxRecDepth 100000

theorem fnExactCompareSlots_lifted (os : Os) (started : os.Started) (H : Type) (enc : TypeId × Value → H) :
    ReturnsInHanded {} Try.checked os 3 .any (Rows.fnExactCompareSlotsSpec.pre6 enc Try.prog Try.f3 Rows.fnExactCompareSlotsRow.domain false) (Rows.fnExactCompareSlotsSpec.post enc Try.prog Try.f3 false true false false) := by
  refine returnsInHanded_of_change (C := Try.checked) law_own started (by kernel_rfl) Try.func3
    (ChangeSpec.witness6 (enc := enc) (C := Try.checked) false ⟨#[], #[.agg #[.int .i64 0, .int .i64 0, .int .i64 0, .int .i64 0, .int .i64 0, .int .i64 0, .int .i64 0, .bool false], .agg #[.int .i64 0, .int .i64 0, .int .i64 0, .int .i64 0, .int .i64 0, .int .i64 0, .int .i64 0, .bool false]], []⟩ 8 (by kernel_rfl) (by kernel_rfl) (by kernel_rfl) (by kernel_rfl)) ?_
  intro W base args ds gs before hval0 hW hcnd _
  have hval : ∀ (j : Nat) t v, Try.f3.params[j]? = some t → args[j]? = some v → Value.okWide Try.prog W .any base t v := hval0
  have hW' := hW
  obtain ⟨p, q, hA0, hV, rfl, hfz, hnd⟩ := hW
  have hA : DataW.TrodAll enc Try.prog W 0 (fun _ => true) true Try.f3.params.toList args.toList ds p := hA0
  rw [Try.params3] at hA hval
  obtain ⟨rfl, rfl⟩ := trodVars_none hV
  obtain ⟨v0, vs0, d0, ds0, p0, q0, hargs, rfl, rfl, h0, r0⟩ := trodAll_cons hA
  obtain ⟨v1, vs1, d1, ds1, p1, q1, rfl, rfl, rfl, h1, r1⟩ := trodAll_cons r0
  obtain ⟨rfl, rfl, rfl⟩ := trodAll_nil r1
  obtain rfl : args = #[v0, v1] := by cases args; simp_all
  obtain ⟨cs0, rfl, m0, x0, t0⟩ := agg_of Try.underlying25 (hval 0 25 v0 rfl rfl) h0
  obtain ⟨a, rfl, wa⟩ := open_SlotI t0
  obtain ⟨cs1, rfl, m1, x1, t1⟩ := agg_of Try.underlying25 (hval 1 25 v1 rfl rfl) h1
  obtain ⟨b, rfl, wb⟩ := open_SlotI t1
  refine Calls.mono (law_CompareSlots a b W) fun e W' h => ?_
  cases e <;> first | exact h.elim | skip
  obtain ⟨rfl, hb⟩ := h
  exact ⟨_, rfl, law_post law_laid (by kernel_rfl) rfl rfl Try.underlying4 (hW') rfl hb⟩

theorem fnExactCompareSlots_holds : Rows.FnExactCompareSlotsSaid :=
  OpenClaim.holds_of_wide 3 Try.f3 rfl rfl rfl rfl rfl rfl rfl ⟨rfl, rfl, rfl, rfl, rfl⟩ rfl rfl rfl rfl rfl (by kernel_rfl) Try.func3 (by kernel_rfl)
    (of_decide_eq_true (by kernel_rfl)) (by unfold Func.isWrapper; rw [if_neg (of_decide_eq_false (by kernel_rfl))]; exact ⟨rfl, rfl⟩)
    (fun os started H enc _ => fnExactCompareSlots_lifted os started H enc)
end Go.Proofs.Ytdikgcccdcgjdaa
