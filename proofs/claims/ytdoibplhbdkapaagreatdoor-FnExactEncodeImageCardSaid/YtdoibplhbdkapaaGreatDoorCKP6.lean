/- Texts of the seat that a law needs, put together. No condition. -/
import Derived.Test.YtdoibplhbdkapaaGreatDoorCKP4
namespace Go.Proofs.YtdoibplhbdkapaaGreatDoor
open Go.RowKit
set_option linter.unusedVariables false
set_option linter.unusedSimpArgs false
set_option maxRecDepth 20000
theorem l12Is_c (x : SlotI) (w : World)  :
    Calls Tryz.prog 260 #[.agg x.cells.toArray] w (Ret fun v w' => v = .bool (slotOk x) ∧ Ext w w') := by
  have X := Ext.refl w
  refine calls_of (args := [.agg x.cells.toArray]) Tryz.func260 Tryz.ntmps260 rfl rfl ?_
  refine c_seqR ?_
  refine ops_cons rfl (ow_box rfl rfl ?_)
  intro g4 w3 eg4 b1 x2 zg4
  have lg4 : w.heap.size ≤ g4 := Nat.le_trans X.size (Nat.le_of_eq eg4.symm)
  replace X := Ext.trans X x2; clear x2
  refine ops_cons rfl (ow_assign rfl ?_)
  refine ops_nil ?_
  refine c_seqR ?_
  refine ops_cons rfl (ow_fieldAddrB off89_0 rfl rfl ?_)
  refine ops_cons rfl (ow_loadB b1 ti2 rfl rfl ?_)
  refine ops_cons rfl (ow_callB ent111 rfl (l01In_c _ _ _ _) (fun w7 h5 x6 => ?_) (fun w7 h5 x6 => ?_))
  replace b1 := b1.ext x6
  replace X := Ext.trans X x6; clear x6
  refine ops_cons rfl (ow_move rfl ?_)
  refine ops_want rfl rfl rfl (ow_fieldAddrB off89_1 rfl rfl ?_)
  refine ops_want rfl rfl rfl (ow_loadB b1 ti2 rfl rfl ?_)
  refine ops_want rfl rfl rfl (ow_callB ent111 rfl (l01In_c _ _ _ _) (fun w10 h8 x9 => ?_) (fun w10 h8 x9 => ?_))
  replace b1 := b1.ext x9
  replace X := Ext.trans X x9; clear x9
  refine ops_cons rfl (ow_pick rfl rfl ?_)
  refine ops_cons rfl (ow_move rfl ?_)
  refine ops_want rfl rfl rfl (ow_fieldAddrB off89_2 rfl rfl ?_)
  refine ops_want rfl rfl rfl (ow_loadB b1 ti2 rfl rfl ?_)
  refine ops_want rfl rfl rfl (ow_callB ent111 rfl (l01In_c _ _ _ _) (fun w13 h11 x12 => ?_) (fun w13 h11 x12 => ?_))
  replace b1 := b1.ext x12
  replace X := Ext.trans X x12; clear x12
  refine ops_cons rfl (ow_pick rfl rfl ?_)
  refine ops_cons rfl (ow_move rfl ?_)
  refine ops_want rfl rfl rfl (ow_fieldAddrB off89_3 rfl rfl ?_)
  refine ops_want rfl rfl rfl (ow_loadAB b1 ti67 rfl rfl ?_)
  refine ops_want rfl rfl rfl (ow_call ent266 rfl (ret_mono (sIsDesc_c _ _) ?_))
  rintro _ w15 ⟨rfl, x14⟩
  replace b1 := b1.ext x14
  replace X := Ext.trans X x14; clear x14
  refine ops_cons rfl (ow_pick rfl rfl ?_)
  refine ops_cons rfl (ow_assign rfl ?_)
  refine ops_nil ?_
  refine c_ret ?_
  refine fin_ret1 rfl rfl ?_
  · skip
    refine ⟨congrArg Value.bool ?_, X⟩
    simp [slotOk, *]
  replace b1 := b1.ext x12
  replace X := Ext.trans X x12; clear x12
  refine ops_cons rfl (ow_pick rfl rfl ?_)
  refine ops_cons rfl (ow_move rfl ?_)
  refine ops_skip rfl rfl rfl rfl ?_
  refine ops_skip rfl rfl rfl rfl ?_
  refine ops_skip rfl rfl rfl rfl ?_
  refine ops_cons rfl (ow_pick rfl rfl ?_)
  refine ops_cons rfl (ow_assign rfl ?_)
  refine ops_nil ?_
  refine c_ret ?_
  refine fin_ret1 rfl rfl ?_
  · skip
    refine ⟨congrArg Value.bool ?_, X⟩
    simp [slotOk, *]
  replace b1 := b1.ext x9
  replace X := Ext.trans X x9; clear x9
  refine ops_cons rfl (ow_pick rfl rfl ?_)
  refine ops_cons rfl (ow_move rfl ?_)
  refine ops_skip rfl rfl rfl rfl ?_
  refine ops_skip rfl rfl rfl rfl ?_
  refine ops_skip rfl rfl rfl rfl ?_
  refine ops_cons rfl (ow_pick rfl rfl ?_)
  refine ops_cons rfl (ow_move rfl ?_)
  refine ops_skip rfl rfl rfl rfl ?_
  refine ops_skip rfl rfl rfl rfl ?_
  refine ops_skip rfl rfl rfl rfl ?_
  refine ops_cons rfl (ow_pick rfl rfl ?_)
  refine ops_cons rfl (ow_assign rfl ?_)
  refine ops_nil ?_
  refine c_ret ?_
  refine fin_ret1 rfl rfl ?_
  · skip
    refine ⟨congrArg Value.bool ?_, X⟩
    simp [slotOk, *]
  replace b1 := b1.ext x6
  replace X := Ext.trans X x6; clear x6
  refine ops_cons rfl (ow_move rfl ?_)
  refine ops_skip rfl rfl rfl rfl ?_
  refine ops_skip rfl rfl rfl rfl ?_
  refine ops_skip rfl rfl rfl rfl ?_
  refine ops_cons rfl (ow_pick rfl rfl ?_)
  refine ops_cons rfl (ow_move rfl ?_)
  refine ops_skip rfl rfl rfl rfl ?_
  refine ops_skip rfl rfl rfl rfl ?_
  refine ops_skip rfl rfl rfl rfl ?_
  refine ops_cons rfl (ow_pick rfl rfl ?_)
  refine ops_cons rfl (ow_move rfl ?_)
  refine ops_skip rfl rfl rfl rfl ?_
  refine ops_skip rfl rfl rfl rfl ?_
  refine ops_skip rfl rfl rfl rfl ?_
  refine ops_cons rfl (ow_pick rfl rfl ?_)
  refine ops_cons rfl (ow_assign rfl ?_)
  refine ops_nil ?_
  refine c_ret ?_
  refine fin_ret1 rfl rfl ?_
  · skip
    refine ⟨congrArg Value.bool ?_, X⟩
    simp [slotOk, *]

theorem isSlotInfo_c (x : SlotI) (w : World)  :
    Calls Tryz.prog 238 #[.agg x.cells.toArray] w (Ret fun v w' => v = .bool (slotOk x) ∧ Ext w w') := by
  have X := Ext.refl w
  refine calls_of (args := [.agg x.cells.toArray]) Tryz.func238 Tryz.ntmps238 rfl rfl ?_
  refine c_seqR ?_
  refine ops_cons rfl (ow_box rfl rfl ?_)
  intro g4 w3 eg4 b1 x2 zg4
  have lg4 : w.heap.size ≤ g4 := Nat.le_trans X.size (Nat.le_of_eq eg4.symm)
  replace X := Ext.trans X x2; clear x2
  refine ops_cons rfl (ow_assign rfl ?_)
  refine ops_nil ?_
  refine c_seqR ?_
  refine ops_cons rfl (ow_fieldAddrB off89_0 rfl rfl ?_)
  refine ops_cons rfl (ow_loadB b1 ti2 rfl rfl ?_)
  refine ops_cons rfl (ow_callB ent109 rfl (within_c _ _ _ _) (fun w7 h5 x6 => ?_) (fun w7 h5 x6 => ?_))
  replace b1 := b1.ext x6
  replace X := Ext.trans X x6; clear x6
  refine ops_cons rfl (ow_move rfl ?_)
  refine ops_want rfl rfl rfl (ow_fieldAddrB off89_1 rfl rfl ?_)
  refine ops_want rfl rfl rfl (ow_loadB b1 ti2 rfl rfl ?_)
  refine ops_want rfl rfl rfl (ow_callB ent109 rfl (within_c _ _ _ _) (fun w10 h8 x9 => ?_) (fun w10 h8 x9 => ?_))
  replace b1 := b1.ext x9
  replace X := Ext.trans X x9; clear x9
  refine ops_cons rfl (ow_pick rfl rfl ?_)
  refine ops_cons rfl (ow_move rfl ?_)
  refine ops_want rfl rfl rfl (ow_fieldAddrB off89_2 rfl rfl ?_)
  refine ops_want rfl rfl rfl (ow_loadB b1 ti2 rfl rfl ?_)
  refine ops_want rfl rfl rfl (ow_callB ent109 rfl (within_c _ _ _ _) (fun w13 h11 x12 => ?_) (fun w13 h11 x12 => ?_))
  replace b1 := b1.ext x12
  replace X := Ext.trans X x12; clear x12
  refine ops_cons rfl (ow_pick rfl rfl ?_)
  refine ops_cons rfl (ow_move rfl ?_)
  refine ops_want rfl rfl rfl (ow_fieldAddrB off89_3 rfl rfl ?_)
  refine ops_want rfl rfl rfl (ow_loadAB b1 ti67 rfl rfl ?_)
  refine ops_want rfl rfl rfl (ow_call ent237 rfl (ret_mono (iIsDesc_c _ _) ?_))
  rintro _ w15 ⟨rfl, x14⟩
  replace b1 := b1.ext x14
  replace X := Ext.trans X x14; clear x14
  refine ops_cons rfl (ow_pick rfl rfl ?_)
  refine ops_cons rfl (ow_assign rfl ?_)
  refine ops_nil ?_
  refine c_ret ?_
  refine fin_ret1 rfl rfl ?_
  · skip
    refine ⟨congrArg Value.bool ?_, X⟩
    simp [slotOk, *]
  replace b1 := b1.ext x12
  replace X := Ext.trans X x12; clear x12
  refine ops_cons rfl (ow_pick rfl rfl ?_)
  refine ops_cons rfl (ow_move rfl ?_)
  refine ops_skip rfl rfl rfl rfl ?_
  refine ops_skip rfl rfl rfl rfl ?_
  refine ops_skip rfl rfl rfl rfl ?_
  refine ops_cons rfl (ow_pick rfl rfl ?_)
  refine ops_cons rfl (ow_assign rfl ?_)
  refine ops_nil ?_
  refine c_ret ?_
  refine fin_ret1 rfl rfl ?_
  · skip
    refine ⟨congrArg Value.bool ?_, X⟩
    simp [slotOk, *]
  replace b1 := b1.ext x9
  replace X := Ext.trans X x9; clear x9
  refine ops_cons rfl (ow_pick rfl rfl ?_)
  refine ops_cons rfl (ow_move rfl ?_)
  refine ops_skip rfl rfl rfl rfl ?_
  refine ops_skip rfl rfl rfl rfl ?_
  refine ops_skip rfl rfl rfl rfl ?_
  refine ops_cons rfl (ow_pick rfl rfl ?_)
  refine ops_cons rfl (ow_move rfl ?_)
  refine ops_skip rfl rfl rfl rfl ?_
  refine ops_skip rfl rfl rfl rfl ?_
  refine ops_skip rfl rfl rfl rfl ?_
  refine ops_cons rfl (ow_pick rfl rfl ?_)
  refine ops_cons rfl (ow_assign rfl ?_)
  refine ops_nil ?_
  refine c_ret ?_
  refine fin_ret1 rfl rfl ?_
  · skip
    refine ⟨congrArg Value.bool ?_, X⟩
    simp [slotOk, *]
  replace b1 := b1.ext x6
  replace X := Ext.trans X x6; clear x6
  refine ops_cons rfl (ow_move rfl ?_)
  refine ops_skip rfl rfl rfl rfl ?_
  refine ops_skip rfl rfl rfl rfl ?_
  refine ops_skip rfl rfl rfl rfl ?_
  refine ops_cons rfl (ow_pick rfl rfl ?_)
  refine ops_cons rfl (ow_move rfl ?_)
  refine ops_skip rfl rfl rfl rfl ?_
  refine ops_skip rfl rfl rfl rfl ?_
  refine ops_skip rfl rfl rfl rfl ?_
  refine ops_cons rfl (ow_pick rfl rfl ?_)
  refine ops_cons rfl (ow_move rfl ?_)
  refine ops_skip rfl rfl rfl rfl ?_
  refine ops_skip rfl rfl rfl rfl ?_
  refine ops_skip rfl rfl rfl rfl ?_
  refine ops_cons rfl (ow_pick rfl rfl ?_)
  refine ops_cons rfl (ow_assign rfl ?_)
  refine ops_nil ?_
  refine c_ret ?_
  refine fin_ret1 rfl rfl ?_
  · skip
    refine ⟨congrArg Value.bool ?_, X⟩
    simp [slotOk, *]

theorem compare_c (a b : Int) (w : World)  :
    Calls Tryz.prog 265 #[.int .i64 a, .int .i64 b] w (Ret fun v w' => v = .int .i64 (cmpI a b) ∧ Ext w w') := by
  have X := Ext.refl w
  refine calls_of (args := [.int .i64 a, .int .i64 b]) Tryz.func265 Tryz.ntmps265 rfl rfl ?_
  refine c_seqR ?_
  refine ops_cons rfl (ow_assign rfl ?_)
  refine ops_nil ?_
  refine c_seq ?_
  refine c_block ?_
  refine c_seqR ?_
  refine ops_cons rfl (ow_move rfl ?_)
  refine ops_cons rfl (ow_move rfl ?_)
  refine ops_cons rfl (ow_lss2 rfl rfl (fun h1 => ?_) (fun h1 => ?_))
  refine ops_cons rfl (ow_assign rfl ?_)
  refine ops_nil ?_
  refine c_true rfl ?_
  refine c_seqR ?_
  refine ops_cons rfl (ow_assign rfl ?_)
  refine ops_nil ?_
  refine c_ret ?_
  refine bq_r ?_
  refine tq_r ?_
  refine fin_ret1 rfl rfl ?_
  exact ⟨by simp [cmpI, *] <;> omega, X⟩
  refine ops_cons rfl (ow_assign rfl ?_)
  refine ops_nil ?_
  refine c_false rfl ?_
  refine c_seqR ?_
  refine ops_cons rfl (ow_move rfl ?_)
  refine ops_cons rfl (ow_move rfl ?_)
  refine ops_cons rfl (ow_gtr2 rfl rfl (fun h2 => ?_) (fun h2 => ?_))
  refine ops_cons rfl (ow_assign rfl ?_)
  refine ops_nil ?_
  refine c_true rfl ?_
  refine c_seqR ?_
  refine ops_cons rfl (ow_assign rfl ?_)
  refine ops_nil ?_
  refine c_ret ?_
  refine bq_r ?_
  refine tq_r ?_
  refine fin_ret1 rfl rfl ?_
  exact ⟨by simp [cmpI, *] <;> omega, X⟩
  refine ops_cons rfl (ow_assign rfl ?_)
  refine ops_nil ?_
  refine c_false rfl ?_
  refine c_skip ?_
  refine bq_n ?_
  refine tq_n ?_
  refine c_seqR ?_
  refine ops_cons rfl (ow_assign rfl ?_)
  refine ops_nil ?_
  refine c_ret ?_
  refine fin_ret1 rfl rfl ?_
  exact ⟨by simp [cmpI, *] <;> omega, X⟩

theorem iCompareSlots_c (a b : SlotI) (w : World)  :
    Calls Tryz.prog 239 #[.agg a.cells.toArray, .agg b.cells.toArray] w (Ret fun v w' => v = .int .i64 (cmpS a b) ∧ Ext w w') := by
  have X := Ext.refl w
  refine calls_of (args := [.agg a.cells.toArray, .agg b.cells.toArray]) Tryz.func239 Tryz.ntmps239 rfl rfl ?_
  refine c_seqR ?_
  refine ops_cons rfl (ow_box rfl rfl ?_)
  intro g4 w3 eg4 b1 x2 zg4
  have lg4 : w.heap.size ≤ g4 := Nat.le_trans X.size (Nat.le_of_eq eg4.symm)
  replace X := Ext.trans X x2; clear x2
  refine ops_cons rfl (ow_box rfl rfl ?_)
  intro g8 w7 eg8 b5 x6 zg8
  have lg8 : w.heap.size ≤ g8 := Nat.le_trans X.size (Nat.le_of_eq eg8.symm)
  have ng8b1 := Nat.lt_of_lt_of_eq b1.lt eg8.symm
  replace b1 := b1.ext x6
  replace X := Ext.trans X x6; clear x6
  refine ops_cons rfl (ow_assign rfl ?_)
  refine ops_nil ?_
  refine c_seq ?_
  refine c_seqR ?_
  refine ops_cons rfl (ow_fieldAddrB off89_0 rfl rfl ?_)
  refine ops_cons rfl (ow_loadB b1 ti2 rfl rfl ?_)
  refine ops_cons rfl (ow_fieldAddrB off89_0 rfl rfl ?_)
  refine ops_cons rfl (ow_loadB b5 ti2 rfl rfl ?_)
  refine ops_cons rfl (ow_neq2 rfl rfl (fun h9 => ?_) (fun h9 => ?_))
  refine ops_nil ?_
  refine c_true rfl ?_
  refine c_seqR ?_
  refine ops_cons rfl (ow_fieldAddrB off89_0 rfl rfl ?_)
  refine ops_cons rfl (ow_loadB b1 ti2 rfl rfl ?_)
  refine ops_cons rfl (ow_fieldAddrB off89_0 rfl rfl ?_)
  refine ops_cons rfl (ow_loadB b5 ti2 rfl rfl ?_)
  refine ops_cons rfl (ow_call ent265 rfl (ret_mono (compare_c _ _ _) ?_))
  rintro _ w11 ⟨rfl, x10⟩
  replace b1 := b1.ext x10
  replace b5 := b5.ext x10
  replace X := Ext.trans X x10; clear x10
  refine ops_cons rfl (ow_assign rfl ?_)
  refine ops_nil ?_
  refine c_ret ?_
  refine tq_r ?_
  refine fin_ret1 rfl rfl ?_
  exact ⟨by simp [cmpS, *], X⟩
  refine ops_nil ?_
  refine c_false rfl ?_
  refine c_skip ?_
  refine tq_n ?_
  refine c_seq ?_
  refine c_seqR ?_
  refine ops_cons rfl (ow_fieldAddrB off89_1 rfl rfl ?_)
  refine ops_cons rfl (ow_loadB b1 ti2 rfl rfl ?_)
  refine ops_cons rfl (ow_fieldAddrB off89_1 rfl rfl ?_)
  refine ops_cons rfl (ow_loadB b5 ti2 rfl rfl ?_)
  refine ops_cons rfl (ow_neq2 rfl rfl (fun h12 => ?_) (fun h12 => ?_))
  refine ops_nil ?_
  refine c_true rfl ?_
  refine c_seqR ?_
  refine ops_cons rfl (ow_fieldAddrB off89_1 rfl rfl ?_)
  refine ops_cons rfl (ow_loadB b1 ti2 rfl rfl ?_)
  refine ops_cons rfl (ow_fieldAddrB off89_1 rfl rfl ?_)
  refine ops_cons rfl (ow_loadB b5 ti2 rfl rfl ?_)
  refine ops_cons rfl (ow_call ent265 rfl (ret_mono (compare_c _ _ _) ?_))
  rintro _ w14 ⟨rfl, x13⟩
  replace b1 := b1.ext x13
  replace b5 := b5.ext x13
  replace X := Ext.trans X x13; clear x13
  refine ops_cons rfl (ow_assign rfl ?_)
  refine ops_nil ?_
  refine c_ret ?_
  refine tq_r ?_
  refine fin_ret1 rfl rfl ?_
  exact ⟨by simp [cmpS, *], X⟩
  refine ops_nil ?_
  refine c_false rfl ?_
  refine c_skip ?_
  refine tq_n ?_
  refine c_seqR ?_
  refine ops_cons rfl (ow_fieldAddrB off89_2 rfl rfl ?_)
  refine ops_cons rfl (ow_loadB b1 ti2 rfl rfl ?_)
  refine ops_cons rfl (ow_fieldAddrB off89_2 rfl rfl ?_)
  refine ops_cons rfl (ow_loadB b5 ti2 rfl rfl ?_)
  refine ops_cons rfl (ow_call ent265 rfl (ret_mono (compare_c _ _ _) ?_))
  rintro _ w16 ⟨rfl, x15⟩
  replace b1 := b1.ext x15
  replace b5 := b5.ext x15
  replace X := Ext.trans X x15; clear x15
  refine ops_cons rfl (ow_assign rfl ?_)
  refine ops_nil ?_
  refine c_ret ?_
  refine fin_ret1 rfl rfl ?_
  exact ⟨by simp [cmpS, *], X⟩

theorem sCompareSlots_c (a b : SlotI) (w : World)  :
    Calls Tryz.prog 261 #[.agg a.cells.toArray, .agg b.cells.toArray] w (Ret fun v w' => v = .int .i64 (cmpS a b) ∧ Ext w w') := by
  have X := Ext.refl w
  refine calls_of (args := [.agg a.cells.toArray, .agg b.cells.toArray]) Tryz.func261 Tryz.ntmps261 rfl rfl ?_
  refine c_seqR ?_
  refine ops_cons rfl (ow_box rfl rfl ?_)
  intro g4 w3 eg4 b1 x2 zg4
  have lg4 : w.heap.size ≤ g4 := Nat.le_trans X.size (Nat.le_of_eq eg4.symm)
  replace X := Ext.trans X x2; clear x2
  refine ops_cons rfl (ow_box rfl rfl ?_)
  intro g8 w7 eg8 b5 x6 zg8
  have lg8 : w.heap.size ≤ g8 := Nat.le_trans X.size (Nat.le_of_eq eg8.symm)
  have ng8b1 := Nat.lt_of_lt_of_eq b1.lt eg8.symm
  replace b1 := b1.ext x6
  replace X := Ext.trans X x6; clear x6
  refine ops_cons rfl (ow_assign rfl ?_)
  refine ops_nil ?_
  refine c_seqJ 16 mixed (by kernel_rfl) ?_
  refine je_take 0 _ rfl (by kernel_rfl) rfl (by kernel_rfl) (listed' := #[true, false, false, false, false, false, false, false, false, false, false, false, false, false, false, false]) rfl (Up.ext _) (fun wq sq => ow_fieldAddrB off89_0 rfl rfl ⟨rfl, Ext.refl _⟩) ?_
  refine je_take 1 _ rfl (by kernel_rfl) rfl (by kernel_rfl) (listed' := #[true, true, false, false, false, false, false, false, false, false, false, false, false, false, false, false]) rfl (Up.ext _) (fun wq sq => ow_loadB (b1.ext sq) ti2 rfl rfl ⟨rfl, Ext.refl _⟩) ?_
  refine je_take 2 _ rfl (by kernel_rfl) rfl (by kernel_rfl) (listed' := #[true, true, true, false, false, false, false, false, false, false, false, false, false, false, false, false]) rfl (Up.ext _) (fun wq sq => ow_fieldAddrB off89_1 rfl rfl ⟨rfl, Ext.refl _⟩) ?_
  refine je_take 3 _ rfl (by kernel_rfl) rfl (by kernel_rfl) (listed' := #[true, true, true, true, false, false, false, false, false, false, false, false, false, false, false, false]) rfl (Up.ext _) (fun wq sq => ow_loadB (b1.ext sq) ti2 rfl rfl ⟨rfl, Ext.refl _⟩) ?_
  refine je_take 4 _ rfl (by kernel_rfl) rfl (by kernel_rfl) (listed' := #[true, true, true, true, true, false, false, false, false, false, false, false, false, false, false, false]) rfl (Up.ext _) (fun wq sq => ow_fieldAddrB off89_2 rfl rfl ⟨rfl, Ext.refl _⟩) ?_
  refine je_take 5 _ rfl (by kernel_rfl) rfl (by kernel_rfl) (listed' := #[true, true, true, true, true, true, false, false, false, false, false, false, false, false, false, false]) rfl (Up.ext _) (fun wq sq => ow_loadB (b1.ext sq) ti2 rfl rfl ⟨rfl, Ext.refl _⟩) ?_
  refine je_take 7 _ rfl (by kernel_rfl) rfl (by kernel_rfl) (listed' := #[true, true, true, true, true, true, false, true, false, false, false, false, false, false, false, false]) rfl (Up.ext _) (fun wq sq => ow_fieldAddrB off89_0 rfl rfl ⟨rfl, Ext.refl _⟩) ?_
  refine je_take 8 _ rfl (by kernel_rfl) rfl (by kernel_rfl) (listed' := #[true, true, true, true, true, true, false, true, true, false, false, false, false, false, false, false]) rfl (Up.ext _) (fun wq sq => ow_loadB (b5.ext sq) ti2 rfl rfl ⟨rfl, Ext.refl _⟩) ?_
  refine je_take 9 _ rfl (by kernel_rfl) rfl (by kernel_rfl) (listed' := #[true, true, true, true, true, true, false, true, true, true, false, false, false, false, false, false]) rfl (Up.ext _) (fun wq sq => ow_fieldAddrB off89_1 rfl rfl ⟨rfl, Ext.refl _⟩) ?_
  refine je_take 10 _ rfl (by kernel_rfl) rfl (by kernel_rfl) (listed' := #[true, true, true, true, true, true, false, true, true, true, true, false, false, false, false, false]) rfl (Up.ext _) (fun wq sq => ow_loadB (b5.ext sq) ti2 rfl rfl ⟨rfl, Ext.refl _⟩) ?_
  refine je_take 11 _ rfl (by kernel_rfl) rfl (by kernel_rfl) (listed' := #[true, true, true, true, true, true, false, true, true, true, true, true, false, false, false, false]) rfl (Up.ext _) (fun wq sq => ow_fieldAddrB off89_2 rfl rfl ⟨rfl, Ext.refl _⟩) ?_
  refine je_take 12 _ rfl (by kernel_rfl) rfl (by kernel_rfl) (listed' := #[true, true, true, true, true, true, false, true, true, true, true, true, true, false, false, false]) rfl (Up.ext _) (fun wq sq => ow_loadB (b5.ext sq) ti2 rfl rfl ⟨rfl, Ext.refl _⟩) ?_
  refine je_two 6 13 (fun gA : Nat => Value.slice (some ⟨gA, 0, none⟩) 3 3) (fun gA wz => Own wz w.heap.size 2 1 (some ⟨gA, 0, none⟩) 3 3 ([a.mode, a.round, a.slot].flatMap eI)) 0 (fun gB : Nat => Value.slice (some ⟨gB, 0, none⟩) 3 3) (fun gB wz => Own wz w.heap.size 2 1 (some ⟨gB, 0, none⟩) 3 3 ([b.mode, b.round, b.slot].flatMap eI)) 0 rfl rfl rfl rfl (by kernel_rfl) (listed' := #[true, true, true, true, true, true, true, true, true, true, true, true, true, false, false, false]) (listed'' := #[true, true, true, true, true, true, false, true, true, true, true, true, true, true, false, false]) rfl rfl ⟨inj_own, fun _ _ _ h k => h.ext k, fun wq sq => ow_buildSlice el30 ti2 rfl rfl rfl rfl rfl (fun g w' hg ho hb hx hz => ⟨g, rfl, Own.low ho (Nat.le_trans X.size (sq).size), hx⟩)⟩ ⟨inj_own, fun _ _ _ h k => h.ext k, fun wq sq => ow_buildSlice el30 ti2 rfl rfl rfl rfl rfl (fun g w' hg ho hb hx hz => ⟨g, rfl, Own.low ho (Nat.le_trans X.size (sq).size), hx⟩)⟩ ?_ ?_
  intro gA
  refine je_take 14 _ rfl (by kernel_rfl) rfl (by kernel_rfl) (listed' := #[true, true, true, true, true, true, true, true, true, true, true, true, true, false, true, false]) rfl (Up.and (Up.ext _) (fun _ _ h k => h.ext k)) (fun wq sq => ow_assign rfl ⟨rfl, Ext.refl _⟩) ?_
  refine je_ov 13 (fun gB : Nat => Value.slice (some ⟨gB, 0, none⟩) 3 3) (fun gB wz => Own wz w.heap.size 2 1 (some ⟨gB, 0, none⟩) 3 3 ([b.mode, b.round, b.slot].flatMap eI)) 0 rfl rfl (by kernel_rfl) (listed' := #[true, true, true, true, true, true, true, true, true, true, true, true, true, true, true, false]) rfl ⟨inj_own, fun _ _ _ h k => h.ext k, fun wq sq => ow_buildSlice el30 ti2 rfl rfl rfl rfl rfl (fun g w' hg ho hb hx hz => ⟨g, rfl, Own.low ho (Nat.le_trans X.size (sq.1).size), hx⟩)⟩ ?_
  intro gB
  refine je_take 15 _ rfl (by kernel_rfl) rfl (by kernel_rfl) (listed' := #[true, true, true, true, true, true, true, true, true, true, true, true, true, true, true, true]) rfl (Up.and (Up.and (Up.ext _) (fun _ _ h k => h.ext k)) (fun _ _ h k => h.ext k)) (fun wq sq => ow_assign rfl ⟨rfl, Ext.refl _⟩) ?_
  refine je_done rfl (fun w9 sq a10 f11 => ⟨_, f11, ?_⟩)
  have xq := sq.1.1
  have oA := sq.1.2
  have oB := sq.2
  replace b1 := b1.ext xq
  replace b5 := b5.ext xq
  replace X := Ext.trans X xq; clear xq sq
  refine ops_nil ?_
  refine c_seq ?_
  refine c_seqR ?_
  refine ops_cons rfl (ow_assign rfl ?_)
  refine ops_nil ?_
  refine c_block ?_
  refine c_loop (G := Nat) (fun k => [(5, .slice (some ⟨gA, 0, none⟩) 3 3), (6, .slice (some ⟨gB, 0, none⟩) 3 3), (7, .int .i64 (k : Nat))]) (fun k wr => k ≤ 3 ∧ (∀ i, i < k → [a.mode, a.round, a.slot][i]? = [b.mode, b.round, b.slot][i]?) ∧ Own wr w.heap.size 2 1 (some ⟨gA, 0, none⟩) 3 3 ([a.mode, a.round, a.slot].flatMap eI) ∧ Own wr w.heap.size 2 1 (some ⟨gB, 0, none⟩) 3 3 ([b.mode, b.round, b.slot].flatMap eI) ∧ Ext w wr) (fun k => 3 - k) 0 (.cons rfl (.cons rfl (.cons rfl (.nil _)))) ?_ ?_
  · exact ⟨by omega, fun i hi => by omega, oA, oB, X⟩
  clear oA oB
  clear X
  rintro k wr ⟨hk, hi, oA, oB, X⟩
  refine c_seq ?_
  refine c_seqR ?_
  refine ops_cons rfl (ow_move rfl ?_)
  refine ops_cons rfl (ow_lss2 rfl rfl (fun h12 => ?_) (fun h12 => ?_))
  obtain ⟨x, hx⟩ : ∃ x, [a.mode, a.round, a.slot][k]? = some x := ⟨_, List.getElem?_eq_getElem (by simp; omega)⟩
  obtain ⟨y, hy⟩ : ∃ y, [b.mode, b.round, b.slot][k]? = some y := ⟨_, List.getElem?_eq_getElem (by simp; omega)⟩
  refine ops_nil ?_
  refine c_true rfl ?_
  refine c_skip ?_
  refine tq_n ?_
  refine c_seq ?_
  refine c_block ?_
  refine c_seq ?_
  refine c_seqD [false, false, false, false, false, false, false, false, false] mixed (by kernel_rfl) ?_
  refine f_q rfl (fun wq sq => ow_move rfl ⟨rfl, Ext.refl _⟩) ?_
  refine f_q rfl (fun wq sq => ow_move rfl ⟨rfl, Ext.refl _⟩) ?_
  refine f_q rfl (fun wq sq => ow_indexT ((oA.ext sq)).sl eI_len rfl el30 rfl rfl rfl hx rfl ⟨rfl, Ext.refl _⟩) ?_
  refine f_q rfl (fun wq sq => ow_loadT ((oA.ext sq)).sl eI_len hx ti2 rfl rfl rfl ⟨rfl, Ext.refl _⟩) ?_
  refine f_q rfl (fun wq sq => ow_move rfl ⟨rfl, Ext.refl _⟩) ?_
  refine f_q rfl (fun wq sq => ow_move rfl ⟨rfl, Ext.refl _⟩) ?_
  refine f_q rfl (fun wq sq => ow_indexT ((oB.ext sq)).sl eI_len rfl el30 rfl rfl rfl hy rfl ⟨rfl, Ext.refl _⟩) ?_
  refine f_q rfl (fun wq sq => ow_loadT ((oB.ext sq)).sl eI_len hy ti2 rfl rfl rfl ⟨rfl, Ext.refl _⟩) ?_
  refine f_qb rfl (fun wq sq => ow_lss rfl rfl ⟨rfl, Ext.refl _⟩) (fun h13 => ?_) (fun h13 => ?_)
  refine f_nil (fun w14 sq => ?_)
  have xq := sq
  replace oA := oA.ext xq
  replace oB := oB.ext xq
  replace X := Ext.trans X xq; clear xq sq
  refine ops_nil ?_
  refine c_true rfl ?_
  refine c_seqR ?_
  refine ops_cons rfl (ow_assign rfl ?_)
  refine ops_nil ?_
  refine c_ret ?_
  refine tq_r ?_
  refine bq_r ?_
  refine tq_r ?_
  refine tq_r ?_
  refine bq_r ?_
  refine tq_r ?_
  refine fin_ret1 rfl rfl ?_
  · skip
    refine ⟨congrArg (Value.int .i64) ?_, X⟩
    first | exact cmp3_lt hi hx hy ‹_› | exact cmp3_gt hi hx hy ‹_› | exact cmp3_eq hi (by omega)
  refine f_nil (fun w15 sq => ?_)
  have xq := sq
  replace oA := oA.ext xq
  replace oB := oB.ext xq
  replace X := Ext.trans X xq; clear xq sq
  refine ops_nil ?_
  refine c_false rfl ?_
  refine c_skip ?_
  refine tq_n ?_
  refine c_seqD [false, false, false, false, false, false, false, false, false] mixed (by kernel_rfl) ?_
  refine f_q rfl (fun wq sq => ow_move rfl ⟨rfl, Ext.refl _⟩) ?_
  refine f_q rfl (fun wq sq => ow_move rfl ⟨rfl, Ext.refl _⟩) ?_
  refine f_q rfl (fun wq sq => ow_indexT ((oA.ext sq)).sl eI_len rfl el30 rfl rfl rfl hx rfl ⟨rfl, Ext.refl _⟩) ?_
  refine f_q rfl (fun wq sq => ow_loadT ((oA.ext sq)).sl eI_len hx ti2 rfl rfl rfl ⟨rfl, Ext.refl _⟩) ?_
  refine f_q rfl (fun wq sq => ow_move rfl ⟨rfl, Ext.refl _⟩) ?_
  refine f_q rfl (fun wq sq => ow_move rfl ⟨rfl, Ext.refl _⟩) ?_
  refine f_q rfl (fun wq sq => ow_indexT ((oB.ext sq)).sl eI_len rfl el30 rfl rfl rfl hy rfl ⟨rfl, Ext.refl _⟩) ?_
  refine f_q rfl (fun wq sq => ow_loadT ((oB.ext sq)).sl eI_len hy ti2 rfl rfl rfl ⟨rfl, Ext.refl _⟩) ?_
  refine f_qb rfl (fun wq sq => ow_gtr rfl rfl ⟨rfl, Ext.refl _⟩) (fun h16 => ?_) (fun h16 => ?_)
  refine f_nil (fun w17 sq => ?_)
  have xq := sq
  replace oA := oA.ext xq
  replace oB := oB.ext xq
  replace X := Ext.trans X xq; clear xq sq
  refine ops_nil ?_
  refine c_true rfl ?_
  refine c_seqR ?_
  refine ops_cons rfl (ow_assign rfl ?_)
  refine ops_nil ?_
  refine c_ret ?_
  refine bq_r ?_
  refine tq_r ?_
  refine tq_r ?_
  refine bq_r ?_
  refine tq_r ?_
  refine fin_ret1 rfl rfl ?_
  · skip
    refine ⟨congrArg (Value.int .i64) ?_, X⟩
    first | exact cmp3_lt hi hx hy ‹_› | exact cmp3_gt hi hx hy ‹_› | exact cmp3_eq hi (by omega)
  refine f_nil (fun w18 sq => ?_)
  have xq := sq
  replace oA := oA.ext xq
  replace oB := oB.ext xq
  replace X := Ext.trans X xq; clear xq sq
  refine ops_nil ?_
  refine c_false rfl ?_
  refine c_skip ?_
  refine bq_n ?_
  refine tq_n ?_
  refine c_region ?_
  refine ops_cons rfl (ow_move rfl ?_)
  refine ops_cons rfl (ow_add rfl rfl (w64 (by omega)) ?_)
  refine ops_cons rfl (ow_assign rfl ?_)
  refine ops_nil ?_
  refine tq_n ⟨k + 1, (.cons rfl (.cons rfl (.cons rfl (.nil _)))), ?_, ?_⟩
  · skip
    exact ⟨by omega, fun i hik => by
      by_cases e : i = k
      · subst e; rw [hx, hy]; congr 1; omega
      · exact hi i (by omega), oA, oB, X⟩
  · omega
  refine ops_nil ?_
  refine c_false rfl ?_
  refine c_exit ?_
  refine tq_e ?_
  refine tq_e ?_
  refine bq_e ?_
  refine tq_n ?_
  refine c_seqR ?_
  refine ops_cons rfl (ow_assign rfl ?_)
  refine ops_nil ?_
  refine c_ret ?_
  refine fin_ret1 rfl rfl ?_
  · skip
    refine ⟨congrArg (Value.int .i64) ?_, X⟩
    first | exact cmp3_lt hi hx hy ‹_› | exact cmp3_gt hi hx hy ‹_› | exact cmp3_eq hi (by omega)
  intro gB
  refine je_ov 6 (fun gA : Nat => Value.slice (some ⟨gA, 0, none⟩) 3 3) (fun gA wz => Own wz w.heap.size 2 1 (some ⟨gA, 0, none⟩) 3 3 ([a.mode, a.round, a.slot].flatMap eI)) 0 rfl rfl (by kernel_rfl) (listed' := #[true, true, true, true, true, true, true, true, true, true, true, true, true, true, false, false]) rfl ⟨inj_own, fun _ _ _ h k => h.ext k, fun wq sq => ow_buildSlice el30 ti2 rfl rfl rfl rfl rfl (fun g w' hg ho hb hx hz => ⟨g, rfl, Own.low ho (Nat.le_trans X.size (sq.1).size), hx⟩)⟩ ?_
  intro gA
  refine je_take 14 _ rfl (by kernel_rfl) rfl (by kernel_rfl) (listed' := #[true, true, true, true, true, true, true, true, true, true, true, true, true, true, true, false]) rfl (Up.and (Up.and (Up.ext _) (fun _ _ h k => h.ext k)) (fun _ _ h k => h.ext k)) (fun wq sq => ow_assign rfl ⟨rfl, Ext.refl _⟩) ?_
  refine je_take 15 _ rfl (by kernel_rfl) rfl (by kernel_rfl) (listed' := #[true, true, true, true, true, true, true, true, true, true, true, true, true, true, true, true]) rfl (Up.and (Up.and (Up.ext _) (fun _ _ h k => h.ext k)) (fun _ _ h k => h.ext k)) (fun wq sq => ow_assign rfl ⟨rfl, Ext.refl _⟩) ?_
  refine je_done rfl (fun w19 sq a20 f21 => ⟨_, f21, ?_⟩)
  have xq := sq.1.1
  have oB := sq.1.2
  have oA := sq.2
  replace b1 := b1.ext xq
  replace b5 := b5.ext xq
  replace X := Ext.trans X xq; clear xq sq
  refine ops_nil ?_
  refine c_seq ?_
  refine c_seqR ?_
  refine ops_cons rfl (ow_assign rfl ?_)
  refine ops_nil ?_
  refine c_block ?_
  refine c_loop (G := Nat) (fun k => [(5, .slice (some ⟨gA, 0, none⟩) 3 3), (6, .slice (some ⟨gB, 0, none⟩) 3 3), (7, .int .i64 (k : Nat))]) (fun k wr => k ≤ 3 ∧ (∀ i, i < k → [a.mode, a.round, a.slot][i]? = [b.mode, b.round, b.slot][i]?) ∧ Own wr w.heap.size 2 1 (some ⟨gA, 0, none⟩) 3 3 ([a.mode, a.round, a.slot].flatMap eI) ∧ Own wr w.heap.size 2 1 (some ⟨gB, 0, none⟩) 3 3 ([b.mode, b.round, b.slot].flatMap eI) ∧ Ext w wr) (fun k => 3 - k) 0 (.cons rfl (.cons rfl (.cons rfl (.nil _)))) ?_ ?_
  · exact ⟨by omega, fun i hi => by omega, oA, oB, X⟩
  clear oA oB
  clear X
  rintro k wr ⟨hk, hi, oA, oB, X⟩
  refine c_seq ?_
  refine c_seqR ?_
  refine ops_cons rfl (ow_move rfl ?_)
  refine ops_cons rfl (ow_lss2 rfl rfl (fun h22 => ?_) (fun h22 => ?_))
  obtain ⟨x, hx⟩ : ∃ x, [a.mode, a.round, a.slot][k]? = some x := ⟨_, List.getElem?_eq_getElem (by simp; omega)⟩
  obtain ⟨y, hy⟩ : ∃ y, [b.mode, b.round, b.slot][k]? = some y := ⟨_, List.getElem?_eq_getElem (by simp; omega)⟩
  refine ops_nil ?_
  refine c_true rfl ?_
  refine c_skip ?_
  refine tq_n ?_
  refine c_seq ?_
  refine c_block ?_
  refine c_seq ?_
  refine c_seqD [false, false, false, false, false, false, false, false, false] mixed (by kernel_rfl) ?_
  refine f_q rfl (fun wq sq => ow_move rfl ⟨rfl, Ext.refl _⟩) ?_
  refine f_q rfl (fun wq sq => ow_move rfl ⟨rfl, Ext.refl _⟩) ?_
  refine f_q rfl (fun wq sq => ow_indexT ((oA.ext sq)).sl eI_len rfl el30 rfl rfl rfl hx rfl ⟨rfl, Ext.refl _⟩) ?_
  refine f_q rfl (fun wq sq => ow_loadT ((oA.ext sq)).sl eI_len hx ti2 rfl rfl rfl ⟨rfl, Ext.refl _⟩) ?_
  refine f_q rfl (fun wq sq => ow_move rfl ⟨rfl, Ext.refl _⟩) ?_
  refine f_q rfl (fun wq sq => ow_move rfl ⟨rfl, Ext.refl _⟩) ?_
  refine f_q rfl (fun wq sq => ow_indexT ((oB.ext sq)).sl eI_len rfl el30 rfl rfl rfl hy rfl ⟨rfl, Ext.refl _⟩) ?_
  refine f_q rfl (fun wq sq => ow_loadT ((oB.ext sq)).sl eI_len hy ti2 rfl rfl rfl ⟨rfl, Ext.refl _⟩) ?_
  refine f_qb rfl (fun wq sq => ow_lss rfl rfl ⟨rfl, Ext.refl _⟩) (fun h23 => ?_) (fun h23 => ?_)
  refine f_nil (fun w24 sq => ?_)
  have xq := sq
  replace oA := oA.ext xq
  replace oB := oB.ext xq
  replace X := Ext.trans X xq; clear xq sq
  refine ops_nil ?_
  refine c_true rfl ?_
  refine c_seqR ?_
  refine ops_cons rfl (ow_assign rfl ?_)
  refine ops_nil ?_
  refine c_ret ?_
  refine tq_r ?_
  refine bq_r ?_
  refine tq_r ?_
  refine tq_r ?_
  refine bq_r ?_
  refine tq_r ?_
  refine fin_ret1 rfl rfl ?_
  · skip
    refine ⟨congrArg (Value.int .i64) ?_, X⟩
    first | exact cmp3_lt hi hx hy ‹_› | exact cmp3_gt hi hx hy ‹_› | exact cmp3_eq hi (by omega)
  refine f_nil (fun w25 sq => ?_)
  have xq := sq
  replace oA := oA.ext xq
  replace oB := oB.ext xq
  replace X := Ext.trans X xq; clear xq sq
  refine ops_nil ?_
  refine c_false rfl ?_
  refine c_skip ?_
  refine tq_n ?_
  refine c_seqD [false, false, false, false, false, false, false, false, false] mixed (by kernel_rfl) ?_
  refine f_q rfl (fun wq sq => ow_move rfl ⟨rfl, Ext.refl _⟩) ?_
  refine f_q rfl (fun wq sq => ow_move rfl ⟨rfl, Ext.refl _⟩) ?_
  refine f_q rfl (fun wq sq => ow_indexT ((oA.ext sq)).sl eI_len rfl el30 rfl rfl rfl hx rfl ⟨rfl, Ext.refl _⟩) ?_
  refine f_q rfl (fun wq sq => ow_loadT ((oA.ext sq)).sl eI_len hx ti2 rfl rfl rfl ⟨rfl, Ext.refl _⟩) ?_
  refine f_q rfl (fun wq sq => ow_move rfl ⟨rfl, Ext.refl _⟩) ?_
  refine f_q rfl (fun wq sq => ow_move rfl ⟨rfl, Ext.refl _⟩) ?_
  refine f_q rfl (fun wq sq => ow_indexT ((oB.ext sq)).sl eI_len rfl el30 rfl rfl rfl hy rfl ⟨rfl, Ext.refl _⟩) ?_
  refine f_q rfl (fun wq sq => ow_loadT ((oB.ext sq)).sl eI_len hy ti2 rfl rfl rfl ⟨rfl, Ext.refl _⟩) ?_
  refine f_qb rfl (fun wq sq => ow_gtr rfl rfl ⟨rfl, Ext.refl _⟩) (fun h26 => ?_) (fun h26 => ?_)
  refine f_nil (fun w27 sq => ?_)
  have xq := sq
  replace oA := oA.ext xq
  replace oB := oB.ext xq
  replace X := Ext.trans X xq; clear xq sq
  refine ops_nil ?_
  refine c_true rfl ?_
  refine c_seqR ?_
  refine ops_cons rfl (ow_assign rfl ?_)
  refine ops_nil ?_
  refine c_ret ?_
  refine bq_r ?_
  refine tq_r ?_
  refine tq_r ?_
  refine bq_r ?_
  refine tq_r ?_
  refine fin_ret1 rfl rfl ?_
  · skip
    refine ⟨congrArg (Value.int .i64) ?_, X⟩
    first | exact cmp3_lt hi hx hy ‹_› | exact cmp3_gt hi hx hy ‹_› | exact cmp3_eq hi (by omega)
  refine f_nil (fun w28 sq => ?_)
  have xq := sq
  replace oA := oA.ext xq
  replace oB := oB.ext xq
  replace X := Ext.trans X xq; clear xq sq
  refine ops_nil ?_
  refine c_false rfl ?_
  refine c_skip ?_
  refine bq_n ?_
  refine tq_n ?_
  refine c_region ?_
  refine ops_cons rfl (ow_move rfl ?_)
  refine ops_cons rfl (ow_add rfl rfl (w64 (by omega)) ?_)
  refine ops_cons rfl (ow_assign rfl ?_)
  refine ops_nil ?_
  refine tq_n ⟨k + 1, (.cons rfl (.cons rfl (.cons rfl (.nil _)))), ?_, ?_⟩
  · skip
    exact ⟨by omega, fun i hik => by
      by_cases e : i = k
      · subst e; rw [hx, hy]; congr 1; omega
      · exact hi i (by omega), oA, oB, X⟩
  · omega
  refine ops_nil ?_
  refine c_false rfl ?_
  refine c_exit ?_
  refine tq_e ?_
  refine tq_e ?_
  refine bq_e ?_
  refine tq_n ?_
  refine c_seqR ?_
  refine ops_cons rfl (ow_assign rfl ?_)
  refine ops_nil ?_
  refine c_ret ?_
  refine fin_ret1 rfl rfl ?_
  · skip
    refine ⟨congrArg (Value.int .i64) ?_, X⟩
    first | exact cmp3_lt hi hx hy ‹_› | exact cmp3_gt hi hx hy ‹_› | exact cmp3_eq hi (by omega)

theorem sIsST_c (A : Option Addr) (B c : Nat) (xs : List SlotI) (w : World) (hs : Sl B w A (xs.flatMap SlotI.cells)) (hl : xs.length ≤ 1048576) :
    Calls Tryz.prog 226 #[.slice A xs.length c] w (Ret fun v w' => v = .bool (isST xs) ∧ Ext w w') := by
  have Bhs := hs.1
  have X := Ext.refl w
  refine calls_of (args := [.slice A xs.length c]) Tryz.func226 Tryz.ntmps226 rfl rfl ?_
  refine c_seqR ?_
  refine ops_cons rfl (ow_assign rfl ?_)
  refine ops_nil ?_
  refine c_seq ?_
  refine c_seqR ?_
  refine ops_cons rfl (ow_move rfl ?_)
  refine ops_cons rfl (ow_len Tryz.underlying26 rfl ?_)
  refine ops_cons rfl (ow_gtr2 rfl rfl (fun h120 => ?_) (fun h120 => ?_))
  refine ops_nil ?_
  refine c_true rfl ?_
  refine c_seqR ?_
  refine ops_cons rfl (ow_assign rfl ?_)
  refine ops_nil ?_
  refine c_ret ?_
  refine tq_r ?_
  refine fin_ret1 rfl rfl ?_
  · skip
    refine ⟨congrArg Value.bool ?_, X⟩
    first
    | (rw [isST, decide_eq_false (by omega)]; simp; done)
    | (rw [isST, hi, drop_end hk]; simp [okFrom]; omega)
    | (rw [isST, hi, dx]; cases prevO xs k <;> simp [okFrom, *]; done)
    | (rw [isST, hi, dx, prevO_pos (by omega) hy]; simp [okFrom, *]; omega)
  refine ops_nil ?_
  refine c_false rfl ?_
  refine c_skip ?_
  refine tq_n ?_
  refine c_seq ?_
  refine c_seqR ?_
  refine ops_cons rfl (ow_assign rfl ?_)
  refine ops_nil ?_
  refine c_block ?_
  refine c_loop (G := Nat) (fun k => [(0, .slice A xs.length c), (3, .int .i64 (k : Nat))]) (fun k wr => k ≤ xs.length ∧ okFrom none xs = okFrom (prevO xs k) (xs.drop k) ∧ Sl B wr A (xs.flatMap SlotI.cells) ∧ Ext w wr) (fun k => xs.length - k) 0 (.cons rfl (.cons rfl (.nil _))) ?_ ?_
  · exact ⟨by omega, rfl, hs, X⟩
  clear hs
  clear X
  rintro k wr ⟨hk0, hi, hs, X⟩
  refine c_seq ?_
  refine c_seqR ?_
  refine ops_cons rfl (ow_move rfl ?_)
  refine ops_cons rfl (ow_move rfl ?_)
  refine ops_cons rfl (ow_len Tryz.underlying26 rfl ?_)
  refine ops_cons rfl (ow_lss2 rfl rfl (fun hk => ?_) (fun hk => ?_))
  obtain ⟨x, hx, dx⟩ := drop_at' hk
  refine ops_nil ?_
  refine c_true rfl ?_
  refine c_skip ?_
  refine tq_n ?_
  refine c_seq ?_
  refine c_block ?_
  refine c_seqD [false, false, false, false, false, false, false, false, false, false, false, false, false, false, false, false, false, false, false, false, false, false, false] mixed (by kernel_rfl) ?_
  refine f_q rfl (fun wq sq => ow_move rfl ⟨rfl, Ext.refl _⟩) ?_
  refine f_q rfl (fun wq sq => ow_move rfl ⟨rfl, Ext.refl _⟩) ?_
  refine f_q rfl (fun wq sq => ow_indexT (hs.ext sq) SlotI.len rfl el26 rfl rfl rfl hx rfl ⟨rfl, Ext.refl _⟩) ?_
  refine f_q rfl (fun wq sq => ow_loadTA (hs.ext sq) SlotI.len hx ti89 rfl ⟨rfl, Ext.refl _⟩) ?_
  refine f_qB rfl (fun wq sq => ow_call ent260 rfl (l12Is_c _ _)) (fun h1 => ?_) (fun h1 => ?_)
  refine f_q rfl (fun wq sq => ow_not rfl ⟨rfl, Ext.refl _⟩) ?_
  refine f_q rfl (fun wq sq => ow_move rfl ⟨rfl, Ext.refl _⟩) ?_
  refine f_qw rfl rfl rfl (fun wq sq => ow_move rfl ⟨rfl, Ext.refl _⟩) ?_
  refine f_qwb rfl rfl rfl (fun wq sq => ow_gtr rfl rfl ⟨rfl, Ext.refl _⟩) (fun hp => ?_) (fun hp => ?_)
  obtain ⟨y, hy⟩ : ∃ y, xs[k - 1]? = some y := ⟨_, List.getElem?_eq_getElem (by omega)⟩
  refine f_qw rfl rfl rfl (fun wq sq => ow_move rfl ⟨rfl, Ext.refl _⟩) ?_
  refine f_qw rfl rfl rfl (fun wq sq => ow_move rfl ⟨rfl, Ext.refl _⟩) ?_
  refine f_qw rfl rfl rfl (fun wq sq => ow_move rfl ⟨rfl, Ext.refl _⟩) ?_
  refine f_qw rfl rfl rfl (fun wq sq => ow_sub rfl rfl (w64 (by omega)) ⟨rfl, Ext.refl _⟩) ?_
  refine f_qw rfl rfl rfl (fun wq sq => ow_indexT (hs.ext sq) SlotI.len rfl el26 rfl rfl rfl hy (by omega) ⟨rfl, Ext.refl _⟩) ?_
  refine f_qw rfl rfl rfl (fun wq sq => ow_loadTA (hs.ext sq) SlotI.len hy ti89 rfl ⟨rfl, Ext.refl _⟩) ?_
  refine f_qw rfl rfl rfl (fun wq sq => ow_move rfl ⟨rfl, Ext.refl _⟩) ?_
  refine f_qw rfl rfl rfl (fun wq sq => ow_move rfl ⟨rfl, Ext.refl _⟩) ?_
  refine f_qw rfl rfl rfl (fun wq sq => ow_indexT (hs.ext sq) SlotI.len rfl el26 rfl rfl rfl hx rfl ⟨rfl, Ext.refl _⟩) ?_
  refine f_qw rfl rfl rfl (fun wq sq => ow_loadTA (hs.ext sq) SlotI.len hx ti89 rfl ⟨rfl, Ext.refl _⟩) ?_
  refine f_qw rfl rfl rfl (fun wq sq => ow_call ent261 rfl (sCompareSlots_c _ _ _)) ?_
  refine f_qwb rfl rfl rfl (fun wq sq => ow_geq rfl rfl ⟨rfl, Ext.refl _⟩) (fun h4 => ?_) (fun h4 => ?_)
  refine f_qw rfl rfl rfl (fun wq sq => ow_pick rfl rfl ⟨rfl, Ext.refl _⟩) ?_
  refine f_q rfl (fun wq sq => ow_pick rfl rfl ⟨rfl, Ext.refl _⟩) ?_
  refine f_nil (fun w5 sq => ?_)
  have xq := sq
  replace hs := hs.ext xq
  replace X := Ext.trans X xq; clear xq sq
  refine ops_nil ?_
  refine c_true rfl ?_
  refine c_seqR ?_
  refine ops_cons rfl (ow_assign rfl ?_)
  refine ops_nil ?_
  refine c_ret ?_
  refine bq_r ?_
  refine tq_r ?_
  refine tq_r ?_
  refine bq_r ?_
  refine tq_r ?_
  refine fin_ret1 rfl rfl ?_
  · skip
    refine ⟨congrArg Value.bool ?_, X⟩
    first
    | (rw [isST, decide_eq_false (by omega)]; simp; done)
    | (rw [isST, hi, drop_end hk]; simp [okFrom]; omega)
    | (rw [isST, hi, dx]; cases prevO xs k <;> simp [okFrom, *]; done)
    | (rw [isST, hi, dx, prevO_pos (by omega) hy]; simp [okFrom, *]; omega)
  refine f_qw rfl rfl rfl (fun wq sq => ow_pick rfl rfl ⟨rfl, Ext.refl _⟩) ?_
  refine f_q rfl (fun wq sq => ow_pick rfl rfl ⟨rfl, Ext.refl _⟩) ?_
  refine f_nil (fun w6 sq => ?_)
  have xq := sq
  replace hs := hs.ext xq
  replace X := Ext.trans X xq; clear xq sq
  refine ops_nil ?_
  refine c_false rfl ?_
  refine c_skip ?_
  refine bq_n ?_
  refine tq_n ?_
  refine c_region ?_
  refine ops_cons rfl (ow_move rfl ?_)
  refine ops_cons rfl (ow_add rfl rfl (w64 (by omega)) ?_)
  refine ops_cons rfl (ow_assign rfl ?_)
  refine ops_nil ?_
  refine tq_n ⟨k + 1, (.cons rfl (.cons rfl (.nil _))), ?_, ?_⟩
  · skip
    exact ⟨by omega, (by
      rw [hi, dx, prevO_succ hx]
      first | (rw [prevO_zero ‹_›]; simp [okFrom, *]; done) | (rw [prevO_pos (by omega) hy]; simp [okFrom, *]; omega)), hs, X⟩
  · first | omega | (dsimp only; omega)
  refine f_qw rfl rfl rfl (fun wq sq => ow_move rfl ⟨rfl, Ext.refl _⟩) ?_
  refine f_qs rfl rfl rfl rfl ?_
  refine f_qs rfl rfl rfl rfl ?_
  refine f_qs rfl rfl rfl rfl ?_
  refine f_qs rfl rfl rfl rfl ?_
  refine f_qs rfl rfl rfl rfl ?_
  refine f_qs rfl rfl rfl rfl ?_
  refine f_qs rfl rfl rfl rfl ?_
  refine f_qs rfl rfl rfl rfl ?_
  refine f_qs rfl rfl rfl rfl ?_
  refine f_qs rfl rfl rfl rfl ?_
  refine f_qs rfl rfl rfl rfl ?_
  refine f_qw rfl rfl rfl (fun wq sq => ow_pick rfl rfl ⟨rfl, Ext.refl _⟩) ?_
  refine f_q rfl (fun wq sq => ow_pick rfl rfl ⟨rfl, Ext.refl _⟩) ?_
  refine f_nil (fun w7 sq => ?_)
  have xq := sq
  replace hs := hs.ext xq
  replace X := Ext.trans X xq; clear xq sq
  refine ops_nil ?_
  refine c_false rfl ?_
  refine c_skip ?_
  refine bq_n ?_
  refine tq_n ?_
  refine c_region ?_
  refine ops_cons rfl (ow_move rfl ?_)
  refine ops_cons rfl (ow_add rfl rfl (w64 (by omega)) ?_)
  refine ops_cons rfl (ow_assign rfl ?_)
  refine ops_nil ?_
  refine tq_n ⟨k + 1, (.cons rfl (.cons rfl (.nil _))), ?_, ?_⟩
  · skip
    exact ⟨by omega, (by
      rw [hi, dx, prevO_succ hx]
      first | (rw [prevO_zero ‹_›]; simp [okFrom, *]; done) | (rw [prevO_pos (by omega) hy]; simp [okFrom, *]; omega)), hs, X⟩
  · first | omega | (dsimp only; omega)
  refine f_q rfl (fun wq sq => ow_not rfl ⟨rfl, Ext.refl _⟩) ?_
  refine f_q rfl (fun wq sq => ow_move rfl ⟨rfl, Ext.refl _⟩) ?_
  refine f_qs rfl rfl rfl rfl ?_
  refine f_qs rfl rfl rfl rfl ?_
  refine f_qs rfl rfl rfl rfl ?_
  refine f_qs rfl rfl rfl rfl ?_
  refine f_qs rfl rfl rfl rfl ?_
  refine f_qs rfl rfl rfl rfl ?_
  refine f_qs rfl rfl rfl rfl ?_
  refine f_qs rfl rfl rfl rfl ?_
  refine f_qs rfl rfl rfl rfl ?_
  refine f_qs rfl rfl rfl rfl ?_
  refine f_qs rfl rfl rfl rfl ?_
  refine f_qs rfl rfl rfl rfl ?_
  refine f_qs rfl rfl rfl rfl ?_
  refine f_qs rfl rfl rfl rfl ?_
  refine f_qs rfl rfl rfl rfl ?_
  refine f_q rfl (fun wq sq => ow_pick rfl rfl ⟨rfl, Ext.refl _⟩) ?_
  refine f_nil (fun w9 sq => ?_)
  have xq := sq
  replace hs := hs.ext xq
  replace X := Ext.trans X xq; clear xq sq
  refine ops_nil ?_
  refine c_true rfl ?_
  refine c_seqR ?_
  refine ops_cons rfl (ow_assign rfl ?_)
  refine ops_nil ?_
  refine c_ret ?_
  refine bq_r ?_
  refine tq_r ?_
  refine tq_r ?_
  refine bq_r ?_
  refine tq_r ?_
  refine fin_ret1 rfl rfl ?_
  · skip
    refine ⟨congrArg Value.bool ?_, X⟩
    first
    | (rw [isST, decide_eq_false (by omega)]; simp; done)
    | (rw [isST, hi, drop_end hk]; simp [okFrom]; omega)
    | (rw [isST, hi, dx]; cases prevO xs k <;> simp [okFrom, *]; done)
    | (rw [isST, hi, dx, prevO_pos (by omega) hy]; simp [okFrom, *]; omega)
  refine ops_nil ?_
  refine c_false rfl ?_
  refine c_exit ?_
  refine tq_e ?_
  refine tq_e ?_
  refine bq_e ?_
  refine tq_n ?_
  refine c_seqR ?_
  refine ops_cons rfl (ow_assign rfl ?_)
  refine ops_nil ?_
  refine c_ret ?_
  refine fin_ret1 rfl rfl ?_
  · skip
    refine ⟨congrArg Value.bool ?_, X⟩
    first
    | (rw [isST, decide_eq_false (by omega)]; simp; done)
    | (rw [isST, hi, drop_end hk]; simp [okFrom]; omega)
    | (rw [isST, hi, dx]; cases prevO xs k <;> simp [okFrom, *]; done)
    | (rw [isST, hi, dx, prevO_pos (by omega) hy]; simp [okFrom, *]; omega)

theorem iIsST_c (A : Option Addr) (B c : Nat) (xs : List SlotI) (w : World) (hs : Sl B w A (xs.flatMap SlotI.cells)) (hl : xs.length ≤ 1048576) :
    Calls Tryz.prog 165 #[.slice A xs.length c] w (Ret fun v w' => v = .bool (isST xs) ∧ Ext w w') := by
  have Bhs := hs.1
  have X := Ext.refl w
  refine calls_of (args := [.slice A xs.length c]) Tryz.func165 Tryz.ntmps165 rfl rfl ?_
  refine c_seqR ?_
  refine ops_cons rfl (ow_assign rfl ?_)
  refine ops_nil ?_
  refine c_seq ?_
  refine c_seqR ?_
  refine ops_cons rfl (ow_move rfl ?_)
  refine ops_cons rfl (ow_len Tryz.underlying26 rfl ?_)
  refine ops_cons rfl (ow_move rfl ?_)
  refine ops_nil ?_
  refine c_block ?_
  refine c_loop (G := Nat) (fun k => [(0, .slice A xs.length c), (5, .slice A xs.length c), (6, .int .i64 (xs.length : Nat)), (7, .int .i64 (k : Nat))]) (fun k wr => k ≤ xs.length ∧ okFrom none xs = okFrom (prevO xs k) (xs.drop k) ∧ Sl B wr A (xs.flatMap SlotI.cells) ∧ Ext w wr) (fun k => xs.length - k) 0 (.cons rfl (.cons rfl (.cons rfl (.cons rfl (.nil _))))) ?_ ?_
  · exact ⟨by omega, rfl, hs, X⟩
  clear hs
  clear X
  rintro k wr ⟨hk0, hi, hs, X⟩
  refine c_seqR ?_
  refine ops_cons rfl (ow_lss2 rfl rfl (fun hk => ?_) (fun hk => ?_))
  obtain ⟨x, hx, dx⟩ := drop_at' hk
  refine ops_nil ?_
  refine c_seq ?_
  refine c_true rfl ?_
  refine c_skip ?_
  refine tq_n ?_
  refine c_seq ?_
  refine c_block ?_
  refine c_seqR ?_
  refine ops_cons rfl (ow_move rfl ?_)
  refine ops_cons rfl (ow_indexT hs SlotI.len rfl el26 rfl rfl rfl hx rfl ?_)
  refine ops_cons rfl (ow_loadTA hs SlotI.len hx ti89 rfl ?_)
  refine ops_cons rfl (ow_alloc ti89 ?_)
  intro g4 w3 eg4 b1 x2 zg4
  have lg4 : w.heap.size ≤ g4 := Nat.le_trans X.size (Nat.le_of_eq eg4.symm)
  have pg4hs := Nat.le_trans hs.1 (Nat.le_of_eq eg4.symm)
  replace hs := hs.ext x2
  replace X := Ext.trans X x2; clear x2
  refine ops_cons rfl (ow_assign rfl ?_)
  refine ops_cons rfl (ow_storeB b1 ti89 rfl rfl rfl rfl rfl rfl ?_)
  intro w6 b8 hg5 z7
  replace hs := hs.grown hg5 (by intro g hg; injection hg; omega)
  replace X := X.grown hg5 X.size (by intro g hg; injection hg; omega)
  clear hg5 b1
  refine ops_nil ?_
  refine c_seqD [false, false, false, false, false, false, false, false, false, false, false, false, false, false, false, false, false] mixed (by kernel_rfl) ?_
  refine f_q rfl (fun wq sq => ow_loadAB (b8.ext sq) ti89 rfl rfl ⟨rfl, Ext.refl _⟩) ?_
  refine f_qB rfl (fun wq sq => ow_call ent238 rfl (isSlotInfo_c _ _)) (fun h9 => ?_) (fun h9 => ?_)
  refine f_q rfl (fun wq sq => ow_not rfl ⟨rfl, Ext.refl _⟩) ?_
  refine f_q rfl (fun wq sq => ow_move rfl ⟨rfl, Ext.refl _⟩) ?_
  refine f_qw rfl rfl rfl (fun wq sq => ow_move rfl ⟨rfl, Ext.refl _⟩) ?_
  refine f_qwb rfl rfl rfl (fun wq sq => ow_gtr rfl rfl ⟨rfl, Ext.refl _⟩) (fun hp => ?_) (fun hp => ?_)
  obtain ⟨y, hy⟩ : ∃ y, xs[k - 1]? = some y := ⟨_, List.getElem?_eq_getElem (by omega)⟩
  refine f_qw rfl rfl rfl (fun wq sq => ow_move rfl ⟨rfl, Ext.refl _⟩) ?_
  refine f_qw rfl rfl rfl (fun wq sq => ow_move rfl ⟨rfl, Ext.refl _⟩) ?_
  refine f_qw rfl rfl rfl (fun wq sq => ow_move rfl ⟨rfl, Ext.refl _⟩) ?_
  refine f_qw rfl rfl rfl (fun wq sq => ow_sub rfl rfl (w64 (by omega)) ⟨rfl, Ext.refl _⟩) ?_
  refine f_qw rfl rfl rfl (fun wq sq => ow_indexT (hs.ext sq) SlotI.len rfl el26 rfl rfl rfl hy (by omega) ⟨rfl, Ext.refl _⟩) ?_
  refine f_qw rfl rfl rfl (fun wq sq => ow_loadTA (hs.ext sq) SlotI.len hy ti89 rfl ⟨rfl, Ext.refl _⟩) ?_
  refine f_qw rfl rfl rfl (fun wq sq => ow_loadAB (b8.ext sq) ti89 rfl rfl ⟨rfl, Ext.refl _⟩) ?_
  refine f_qw rfl rfl rfl (fun wq sq => ow_call ent239 rfl (iCompareSlots_c _ _ _)) ?_
  refine f_qwb rfl rfl rfl (fun wq sq => ow_geq rfl rfl ⟨rfl, Ext.refl _⟩) (fun h12 => ?_) (fun h12 => ?_)
  refine f_qw rfl rfl rfl (fun wq sq => ow_pick rfl rfl ⟨rfl, Ext.refl _⟩) ?_
  refine f_q rfl (fun wq sq => ow_pick rfl rfl ⟨rfl, Ext.refl _⟩) ?_
  refine f_nil (fun w13 sq => ?_)
  have xq := sq
  replace hs := hs.ext xq
  replace b8 := b8.ext xq
  replace X := Ext.trans X xq; clear xq sq
  refine ops_nil ?_
  refine c_true rfl ?_
  refine c_seqR ?_
  refine ops_cons rfl (ow_assign rfl ?_)
  refine ops_nil ?_
  refine c_ret ?_
  refine bq_r ?_
  refine tq_r ?_
  refine tq_r ?_
  refine bq_r ?_
  refine tq_r ?_
  refine fin_ret1 rfl rfl ?_
  · skip
    refine ⟨congrArg Value.bool ?_, X⟩
    first
    | (rw [isST, decide_eq_false (by omega)]; simp; done)
    | (rw [isST, hi, drop_end hk]; simp [okFrom]; omega)
    | (rw [isST, hi, dx]; cases prevO xs k <;> simp [okFrom, *]; done)
    | (rw [isST, hi, dx, prevO_pos (by omega) hy]; simp [okFrom, *]; omega)
  refine f_qw rfl rfl rfl (fun wq sq => ow_pick rfl rfl ⟨rfl, Ext.refl _⟩) ?_
  refine f_q rfl (fun wq sq => ow_pick rfl rfl ⟨rfl, Ext.refl _⟩) ?_
  refine f_nil (fun w14 sq => ?_)
  have xq := sq
  replace hs := hs.ext xq
  replace b8 := b8.ext xq
  replace X := Ext.trans X xq; clear xq sq
  refine ops_nil ?_
  refine c_false rfl ?_
  refine c_skip ?_
  refine bq_n ?_
  refine tq_n ?_
  refine c_region ?_
  refine ops_cons rfl (ow_add rfl rfl (w64 (by omega)) ?_)
  refine ops_cons rfl (ow_move rfl ?_)
  refine ops_nil ?_
  refine tq_n ⟨k + 1, (.cons rfl (.cons rfl (.cons rfl (.cons rfl (.nil _))))), ?_, ?_⟩
  · skip
    exact ⟨by omega, (by
      rw [hi, dx, prevO_succ hx]
      first | (rw [prevO_zero ‹_›]; simp [okFrom, *]; done) | (rw [prevO_pos (by omega) hy]; simp [okFrom, *]; omega)), hs, X⟩
  · first | omega | (dsimp only; omega)
  refine f_qw rfl rfl rfl (fun wq sq => ow_move rfl ⟨rfl, Ext.refl _⟩) ?_
  refine f_qs rfl rfl rfl rfl ?_
  refine f_qs rfl rfl rfl rfl ?_
  refine f_qs rfl rfl rfl rfl ?_
  refine f_qs rfl rfl rfl rfl ?_
  refine f_qs rfl rfl rfl rfl ?_
  refine f_qs rfl rfl rfl rfl ?_
  refine f_qs rfl rfl rfl rfl ?_
  refine f_qs rfl rfl rfl rfl ?_
  refine f_qw rfl rfl rfl (fun wq sq => ow_pick rfl rfl ⟨rfl, Ext.refl _⟩) ?_
  refine f_q rfl (fun wq sq => ow_pick rfl rfl ⟨rfl, Ext.refl _⟩) ?_
  refine f_nil (fun w15 sq => ?_)
  have xq := sq
  replace hs := hs.ext xq
  replace b8 := b8.ext xq
  replace X := Ext.trans X xq; clear xq sq
  refine ops_nil ?_
  refine c_false rfl ?_
  refine c_skip ?_
  refine bq_n ?_
  refine tq_n ?_
  refine c_region ?_
  refine ops_cons rfl (ow_add rfl rfl (w64 (by omega)) ?_)
  refine ops_cons rfl (ow_move rfl ?_)
  refine ops_nil ?_
  refine tq_n ⟨k + 1, (.cons rfl (.cons rfl (.cons rfl (.cons rfl (.nil _))))), ?_, ?_⟩
  · skip
    exact ⟨by omega, (by
      rw [hi, dx, prevO_succ hx]
      first | (rw [prevO_zero ‹_›]; simp [okFrom, *]; done) | (rw [prevO_pos (by omega) hy]; simp [okFrom, *]; omega)), hs, X⟩
  · first | omega | (dsimp only; omega)
  refine f_q rfl (fun wq sq => ow_not rfl ⟨rfl, Ext.refl _⟩) ?_
  refine f_q rfl (fun wq sq => ow_move rfl ⟨rfl, Ext.refl _⟩) ?_
  refine f_qs rfl rfl rfl rfl ?_
  refine f_qs rfl rfl rfl rfl ?_
  refine f_qs rfl rfl rfl rfl ?_
  refine f_qs rfl rfl rfl rfl ?_
  refine f_qs rfl rfl rfl rfl ?_
  refine f_qs rfl rfl rfl rfl ?_
  refine f_qs rfl rfl rfl rfl ?_
  refine f_qs rfl rfl rfl rfl ?_
  refine f_qs rfl rfl rfl rfl ?_
  refine f_qs rfl rfl rfl rfl ?_
  refine f_qs rfl rfl rfl rfl ?_
  refine f_qs rfl rfl rfl rfl ?_
  refine f_q rfl (fun wq sq => ow_pick rfl rfl ⟨rfl, Ext.refl _⟩) ?_
  refine f_nil (fun w16 sq => ?_)
  have xq := sq
  replace hs := hs.ext xq
  replace b8 := b8.ext xq
  replace X := Ext.trans X xq; clear xq sq
  refine ops_nil ?_
  refine c_true rfl ?_
  refine c_seqR ?_
  refine ops_cons rfl (ow_assign rfl ?_)
  refine ops_nil ?_
  refine c_ret ?_
  refine bq_r ?_
  refine tq_r ?_
  refine tq_r ?_
  refine bq_r ?_
  refine tq_r ?_
  refine fin_ret1 rfl rfl ?_
  · skip
    refine ⟨congrArg Value.bool ?_, X⟩
    first
    | (rw [isST, decide_eq_false (by omega)]; simp; done)
    | (rw [isST, hi, drop_end hk]; simp [okFrom]; omega)
    | (rw [isST, hi, dx]; cases prevO xs k <;> simp [okFrom, *]; done)
    | (rw [isST, hi, dx, prevO_pos (by omega) hy]; simp [okFrom, *]; omega)
  refine ops_nil ?_
  refine c_seq ?_
  refine c_false rfl ?_
  refine c_exit ?_
  refine tq_e ?_
  refine tq_e ?_
  refine bq_e ?_
  refine tq_n ?_
  refine c_seqR ?_
  refine ops_cons rfl (ow_move rfl ?_)
  refine ops_cons rfl (ow_len Tryz.underlying26 rfl ?_)
  refine ops_cons rfl (ow_leq rfl rfl ?_)
  refine ops_cons rfl (ow_assign rfl ?_)
  refine ops_nil ?_
  refine c_ret ?_
  refine fin_ret1 rfl rfl ?_
  · skip
    refine ⟨congrArg Value.bool ?_, X⟩
    first
    | (rw [isST, decide_eq_false (by omega)]; simp; done)
    | (rw [isST, hi, drop_end hk]; simp [okFrom]; omega)
    | (rw [isST, hi, dx]; cases prevO xs k <;> simp [okFrom, *]; done)
    | (rw [isST, hi, dx, prevO_pos (by omega) hy]; simp [okFrom, *]; omega)
end Go.Proofs.YtdoibplhbdkapaaGreatDoor
