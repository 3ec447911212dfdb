/- Texts of the seat that a law needs, put together. No condition. -/
import Derived.Test.YtdoibplhbdkapaaGreatDoorDMP4
import Derived.Test.YtdoibplhbdkapaaGreatDoorDMP3
namespace Go.Proofs.YtdoibplhbdkapaaGreatDoor
open Go.RowKit
set_option linter.unusedVariables false
set_option linter.unusedSimpArgs false
set_option maxRecDepth 20000
theorem l12Is_c (x : SlotI) (w : World)  :
    Calls Tryz.prog 260 #[.agg x.cells.toArray] w (Ret fun v w' => v = .bool (slotOk x) ∧ Ext w w') := by
  have X := Ext.refl w
  refine calls_of (args := [.agg x.cells.toArray]) Tryz.func260 Tryz.ntmps260 rfl rfl ?_
  refine c_seqR ?_
  refine ops_cons rfl (ow_box rfl rfl ?_)
  intro g4 w3 eg4 b1 x2 zg4
  have lg4 : w.heap.size ≤ g4 := Nat.le_trans X.size (Nat.le_of_eq eg4.symm)
  replace X := Ext.trans X x2; clear x2
  refine ops_cons rfl (ow_assign rfl ?_)
  refine ops_nil ?_
  refine c_seqR ?_
  refine ops_cons rfl (ow_fieldAddrB off89_0 rfl rfl ?_)
  refine ops_cons rfl (ow_loadB b1 ti2 rfl rfl ?_)
  refine ops_cons rfl (ow_callB ent111 rfl (l01In_c _ _ _ _) (fun w7 h5 x6 => ?_) (fun w7 h5 x6 => ?_))
  replace b1 := b1.ext x6
  replace X := Ext.trans X x6; clear x6
  refine ops_cons rfl (ow_move rfl ?_)
  refine ops_want rfl rfl rfl (ow_fieldAddrB off89_1 rfl rfl ?_)
  refine ops_want rfl rfl rfl (ow_loadB b1 ti2 rfl rfl ?_)
  refine ops_want rfl rfl rfl (ow_callB ent111 rfl (l01In_c _ _ _ _) (fun w10 h8 x9 => ?_) (fun w10 h8 x9 => ?_))
  replace b1 := b1.ext x9
  replace X := Ext.trans X x9; clear x9
  refine ops_cons rfl (ow_pick rfl rfl ?_)
  refine ops_cons rfl (ow_move rfl ?_)
  refine ops_want rfl rfl rfl (ow_fieldAddrB off89_2 rfl rfl ?_)
  refine ops_want rfl rfl rfl (ow_loadB b1 ti2 rfl rfl ?_)
  refine ops_want rfl rfl rfl (ow_callB ent111 rfl (l01In_c _ _ _ _) (fun w13 h11 x12 => ?_) (fun w13 h11 x12 => ?_))
  replace b1 := b1.ext x12
  replace X := Ext.trans X x12; clear x12
  refine ops_cons rfl (ow_pick rfl rfl ?_)
  refine ops_cons rfl (ow_move rfl ?_)
  refine ops_want rfl rfl rfl (ow_fieldAddrB off89_3 rfl rfl ?_)
  refine ops_want rfl rfl rfl (ow_loadAB b1 ti67 rfl rfl ?_)
  refine ops_want rfl rfl rfl (ow_call ent266 rfl (ret_mono (sIsDesc_c _ _) ?_))
  rintro _ w15 ⟨rfl, x14⟩
  replace b1 := b1.ext x14
  replace X := Ext.trans X x14; clear x14
  refine ops_cons rfl (ow_pick rfl rfl ?_)
  refine ops_cons rfl (ow_assign rfl ?_)
  refine ops_nil ?_
  refine c_ret ?_
  refine fin_ret1 rfl rfl ?_
  · skip
    refine ⟨congrArg Value.bool ?_, X⟩
    simp [slotOk, *]
  replace b1 := b1.ext x12
  replace X := Ext.trans X x12; clear x12
  refine ops_cons rfl (ow_pick rfl rfl ?_)
  refine ops_cons rfl (ow_move rfl ?_)
  refine ops_skip rfl rfl rfl rfl ?_
  refine ops_skip rfl rfl rfl rfl ?_
  refine ops_skip rfl rfl rfl rfl ?_
  refine ops_cons rfl (ow_pick rfl rfl ?_)
  refine ops_cons rfl (ow_assign rfl ?_)
  refine ops_nil ?_
  refine c_ret ?_
  refine fin_ret1 rfl rfl ?_
  · skip
    refine ⟨congrArg Value.bool ?_, X⟩
    simp [slotOk, *]
  replace b1 := b1.ext x9
  replace X := Ext.trans X x9; clear x9
  refine ops_cons rfl (ow_pick rfl rfl ?_)
  refine ops_cons rfl (ow_move rfl ?_)
  refine ops_skip rfl rfl rfl rfl ?_
  refine ops_skip rfl rfl rfl rfl ?_
  refine ops_skip rfl rfl rfl rfl ?_
  refine ops_cons rfl (ow_pick rfl rfl ?_)
  refine ops_cons rfl (ow_move rfl ?_)
  refine ops_skip rfl rfl rfl rfl ?_
  refine ops_skip rfl rfl rfl rfl ?_
  refine ops_skip rfl rfl rfl rfl ?_
  refine ops_cons rfl (ow_pick rfl rfl ?_)
  refine ops_cons rfl (ow_assign rfl ?_)
  refine ops_nil ?_
  refine c_ret ?_
  refine fin_ret1 rfl rfl ?_
  · skip
    refine ⟨congrArg Value.bool ?_, X⟩
    simp [slotOk, *]
  replace b1 := b1.ext x6
  replace X := Ext.trans X x6; clear x6
  refine ops_cons rfl (ow_move rfl ?_)
  refine ops_skip rfl rfl rfl rfl ?_
  refine ops_skip rfl rfl rfl rfl ?_
  refine ops_skip rfl rfl rfl rfl ?_
  refine ops_cons rfl (ow_pick rfl rfl ?_)
  refine ops_cons rfl (ow_move rfl ?_)
  refine ops_skip rfl rfl rfl rfl ?_
  refine ops_skip rfl rfl rfl rfl ?_
  refine ops_skip rfl rfl rfl rfl ?_
  refine ops_cons rfl (ow_pick rfl rfl ?_)
  refine ops_cons rfl (ow_move rfl ?_)
  refine ops_skip rfl rfl rfl rfl ?_
  refine ops_skip rfl rfl rfl rfl ?_
  refine ops_skip rfl rfl rfl rfl ?_
  refine ops_cons rfl (ow_pick rfl rfl ?_)
  refine ops_cons rfl (ow_assign rfl ?_)
  refine ops_nil ?_
  refine c_ret ?_
  refine fin_ret1 rfl rfl ?_
  · skip
    refine ⟨congrArg Value.bool ?_, X⟩
    simp [slotOk, *]

theorem isSlotInfo_c (x : SlotI) (w : World)  :
    Calls Tryz.prog 238 #[.agg x.cells.toArray] w (Ret fun v w' => v = .bool (slotOk x) ∧ Ext w w') := by
  have X := Ext.refl w
  refine calls_of (args := [.agg x.cells.toArray]) Tryz.func238 Tryz.ntmps238 rfl rfl ?_
  refine c_seqR ?_
  refine ops_cons rfl (ow_box rfl rfl ?_)
  intro g4 w3 eg4 b1 x2 zg4
  have lg4 : w.heap.size ≤ g4 := Nat.le_trans X.size (Nat.le_of_eq eg4.symm)
  replace X := Ext.trans X x2; clear x2
  refine ops_cons rfl (ow_assign rfl ?_)
  refine ops_nil ?_
  refine c_seqR ?_
  refine ops_cons rfl (ow_fieldAddrB off89_0 rfl rfl ?_)
  refine ops_cons rfl (ow_loadB b1 ti2 rfl rfl ?_)
  refine ops_cons rfl (ow_callB ent109 rfl (within_c _ _ _ _) (fun w7 h5 x6 => ?_) (fun w7 h5 x6 => ?_))
  replace b1 := b1.ext x6
  replace X := Ext.trans X x6; clear x6
  refine ops_cons rfl (ow_move rfl ?_)
  refine ops_want rfl rfl rfl (ow_fieldAddrB off89_1 rfl rfl ?_)
  refine ops_want rfl rfl rfl (ow_loadB b1 ti2 rfl rfl ?_)
  refine ops_want rfl rfl rfl (ow_callB ent109 rfl (within_c _ _ _ _) (fun w10 h8 x9 => ?_) (fun w10 h8 x9 => ?_))
  replace b1 := b1.ext x9
  replace X := Ext.trans X x9; clear x9
  refine ops_cons rfl (ow_pick rfl rfl ?_)
  refine ops_cons rfl (ow_move rfl ?_)
  refine ops_want rfl rfl rfl (ow_fieldAddrB off89_2 rfl rfl ?_)
  refine ops_want rfl rfl rfl (ow_loadB b1 ti2 rfl rfl ?_)
  refine ops_want rfl rfl rfl (ow_callB ent109 rfl (within_c _ _ _ _) (fun w13 h11 x12 => ?_) (fun w13 h11 x12 => ?_))
  replace b1 := b1.ext x12
  replace X := Ext.trans X x12; clear x12
  refine ops_cons rfl (ow_pick rfl rfl ?_)
  refine ops_cons rfl (ow_move rfl ?_)
  refine ops_want rfl rfl rfl (ow_fieldAddrB off89_3 rfl rfl ?_)
  refine ops_want rfl rfl rfl (ow_loadAB b1 ti67 rfl rfl ?_)
  refine ops_want rfl rfl rfl (ow_call ent237 rfl (ret_mono (iIsDesc_c _ _) ?_))
  rintro _ w15 ⟨rfl, x14⟩
  replace b1 := b1.ext x14
  replace X := Ext.trans X x14; clear x14
  refine ops_cons rfl (ow_pick rfl rfl ?_)
  refine ops_cons rfl (ow_assign rfl ?_)
  refine ops_nil ?_
  refine c_ret ?_
  refine fin_ret1 rfl rfl ?_
  · skip
    refine ⟨congrArg Value.bool ?_, X⟩
    simp [slotOk, *]
  replace b1 := b1.ext x12
  replace X := Ext.trans X x12; clear x12
  refine ops_cons rfl (ow_pick rfl rfl ?_)
  refine ops_cons rfl (ow_move rfl ?_)
  refine ops_skip rfl rfl rfl rfl ?_
  refine ops_skip rfl rfl rfl rfl ?_
  refine ops_skip rfl rfl rfl rfl ?_
  refine ops_cons rfl (ow_pick rfl rfl ?_)
  refine ops_cons rfl (ow_assign rfl ?_)
  refine ops_nil ?_
  refine c_ret ?_
  refine fin_ret1 rfl rfl ?_
  · skip
    refine ⟨congrArg Value.bool ?_, X⟩
    simp [slotOk, *]
  replace b1 := b1.ext x9
  replace X := Ext.trans X x9; clear x9
  refine ops_cons rfl (ow_pick rfl rfl ?_)
  refine ops_cons rfl (ow_move rfl ?_)
  refine ops_skip rfl rfl rfl rfl ?_
  refine ops_skip rfl rfl rfl rfl ?_
  refine ops_skip rfl rfl rfl rfl ?_
  refine ops_cons rfl (ow_pick rfl rfl ?_)
  refine ops_cons rfl (ow_move rfl ?_)
  refine ops_skip rfl rfl rfl rfl ?_
  refine ops_skip rfl rfl rfl rfl ?_
  refine ops_skip rfl rfl rfl rfl ?_
  refine ops_cons rfl (ow_pick rfl rfl ?_)
  refine ops_cons rfl (ow_assign rfl ?_)
  refine ops_nil ?_
  refine c_ret ?_
  refine fin_ret1 rfl rfl ?_
  · skip
    refine ⟨congrArg Value.bool ?_, X⟩
    simp [slotOk, *]
  replace b1 := b1.ext x6
  replace X := Ext.trans X x6; clear x6
  refine ops_cons rfl (ow_move rfl ?_)
  refine ops_skip rfl rfl rfl rfl ?_
  refine ops_skip rfl rfl rfl rfl ?_
  refine ops_skip rfl rfl rfl rfl ?_
  refine ops_cons rfl (ow_pick rfl rfl ?_)
  refine ops_cons rfl (ow_move rfl ?_)
  refine ops_skip rfl rfl rfl rfl ?_
  refine ops_skip rfl rfl rfl rfl ?_
  refine ops_skip rfl rfl rfl rfl ?_
  refine ops_cons rfl (ow_pick rfl rfl ?_)
  refine ops_cons rfl (ow_move rfl ?_)
  refine ops_skip rfl rfl rfl rfl ?_
  refine ops_skip rfl rfl rfl rfl ?_
  refine ops_skip rfl rfl rfl rfl ?_
  refine ops_cons rfl (ow_pick rfl rfl ?_)
  refine ops_cons rfl (ow_assign rfl ?_)
  refine ops_nil ?_
  refine c_ret ?_
  refine fin_ret1 rfl rfl ?_
  · skip
    refine ⟨congrArg Value.bool ?_, X⟩
    simp [slotOk, *]

theorem compare_c (a b : Int) (w : World)  :
    Calls Tryz.prog 265 #[.int .i64 a, .int .i64 b] w (Ret fun v w' => v = .int .i64 (cmpI a b) ∧ Ext w w') := by
  have X := Ext.refl w
  refine calls_of (args := [.int .i64 a, .int .i64 b]) Tryz.func265 Tryz.ntmps265 rfl rfl ?_
  refine c_seqR ?_
  refine ops_cons rfl (ow_assign rfl ?_)
  refine ops_nil ?_
  refine c_seq ?_
  refine c_block ?_
  refine c_seqR ?_
  refine ops_cons rfl (ow_move rfl ?_)
  refine ops_cons rfl (ow_move rfl ?_)
  refine ops_cons rfl (ow_lss2 rfl rfl (fun h1 => ?_) (fun h1 => ?_))
  refine ops_cons rfl (ow_assign rfl ?_)
  refine ops_nil ?_
  refine c_true rfl ?_
  refine c_seqR ?_
  refine ops_cons rfl (ow_assign rfl ?_)
  refine ops_nil ?_
  refine c_ret ?_
  refine bq_r ?_
  refine tq_r ?_
  refine fin_ret1 rfl rfl ?_
  exact ⟨by simp [cmpI, *] <;> omega, X⟩
  refine ops_cons rfl (ow_assign rfl ?_)
  refine ops_nil ?_
  refine c_false rfl ?_
  refine c_seqR ?_
  refine ops_cons rfl (ow_move rfl ?_)
  refine ops_cons rfl (ow_move rfl ?_)
  refine ops_cons rfl (ow_gtr2 rfl rfl (fun h2 => ?_) (fun h2 => ?_))
  refine ops_cons rfl (ow_assign rfl ?_)
  refine ops_nil ?_
  refine c_true rfl ?_
  refine c_seqR ?_
  refine ops_cons rfl (ow_assign rfl ?_)
  refine ops_nil ?_
  refine c_ret ?_
  refine bq_r ?_
  refine tq_r ?_
  refine fin_ret1 rfl rfl ?_
  exact ⟨by simp [cmpI, *] <;> omega, X⟩
  refine ops_cons rfl (ow_assign rfl ?_)
  refine ops_nil ?_
  refine c_false rfl ?_
  refine c_skip ?_
  refine bq_n ?_
  refine tq_n ?_
  refine c_seqR ?_
  refine ops_cons rfl (ow_assign rfl ?_)
  refine ops_nil ?_
  refine c_ret ?_
  refine fin_ret1 rfl rfl ?_
  exact ⟨by simp [cmpI, *] <;> omega, X⟩

theorem iCompareSlots_c (a b : SlotI) (w : World)  :
    Calls Tryz.prog 239 #[.agg a.cells.toArray, .agg b.cells.toArray] w (Ret fun v w' => v = .int .i64 (cmpS a b) ∧ Ext w w') := by
  have X := Ext.refl w
  refine calls_of (args := [.agg a.cells.toArray, .agg b.cells.toArray]) Tryz.func239 Tryz.ntmps239 rfl rfl ?_
  refine c_seqR ?_
  refine ops_cons rfl (ow_box rfl rfl ?_)
  intro g4 w3 eg4 b1 x2 zg4
  have lg4 : w.heap.size ≤ g4 := Nat.le_trans X.size (Nat.le_of_eq eg4.symm)
  replace X := Ext.trans X x2; clear x2
  refine ops_cons rfl (ow_box rfl rfl ?_)
  intro g8 w7 eg8 b5 x6 zg8
  have lg8 : w.heap.size ≤ g8 := Nat.le_trans X.size (Nat.le_of_eq eg8.symm)
  have ng8b1 := Nat.lt_of_lt_of_eq b1.lt eg8.symm
  replace b1 := b1.ext x6
  replace X := Ext.trans X x6; clear x6
  refine ops_cons rfl (ow_assign rfl ?_)
  refine ops_nil ?_
  refine c_seq ?_
  refine c_seqR ?_
  refine ops_cons rfl (ow_fieldAddrB off89_0 rfl rfl ?_)
  refine ops_cons rfl (ow_loadB b1 ti2 rfl rfl ?_)
  refine ops_cons rfl (ow_fieldAddrB off89_0 rfl rfl ?_)
  refine ops_cons rfl (ow_loadB b5 ti2 rfl rfl ?_)
  refine ops_cons rfl (ow_neq2 rfl rfl (fun h9 => ?_) (fun h9 => ?_))
  refine ops_nil ?_
  refine c_true rfl ?_
  refine c_seqR ?_
  refine ops_cons rfl (ow_fieldAddrB off89_0 rfl rfl ?_)
  refine ops_cons rfl (ow_loadB b1 ti2 rfl rfl ?_)
  refine ops_cons rfl (ow_fieldAddrB off89_0 rfl rfl ?_)
  refine ops_cons rfl (ow_loadB b5 ti2 rfl rfl ?_)
  refine ops_cons rfl (ow_call ent265 rfl (ret_mono (compare_c _ _ _) ?_))
  rintro _ w11 ⟨rfl, x10⟩
  replace b1 := b1.ext x10
  replace b5 := b5.ext x10
  replace X := Ext.trans X x10; clear x10
  refine ops_cons rfl (ow_assign rfl ?_)
  refine ops_nil ?_
  refine c_ret ?_
  refine tq_r ?_
  refine fin_ret1 rfl rfl ?_
  exact ⟨by simp [cmpS, *], X⟩
  refine ops_nil ?_
  refine c_false rfl ?_
  refine c_skip ?_
  refine tq_n ?_
  refine c_seq ?_
  refine c_seqR ?_
  refine ops_cons rfl (ow_fieldAddrB off89_1 rfl rfl ?_)
  refine ops_cons rfl (ow_loadB b1 ti2 rfl rfl ?_)
  refine ops_cons rfl (ow_fieldAddrB off89_1 rfl rfl ?_)
  refine ops_cons rfl (ow_loadB b5 ti2 rfl rfl ?_)
  refine ops_cons rfl (ow_neq2 rfl rfl (fun h12 => ?_) (fun h12 => ?_))
  refine ops_nil ?_
  refine c_true rfl ?_
  refine c_seqR ?_
  refine ops_cons rfl (ow_fieldAddrB off89_1 rfl rfl ?_)
  refine ops_cons rfl (ow_loadB b1 ti2 rfl rfl ?_)
  refine ops_cons rfl (ow_fieldAddrB off89_1 rfl rfl ?_)
  refine ops_cons rfl (ow_loadB b5 ti2 rfl rfl ?_)
  refine ops_cons rfl (ow_call ent265 rfl (ret_mono (compare_c _ _ _) ?_))
  rintro _ w14 ⟨rfl, x13⟩
  replace b1 := b1.ext x13
  replace b5 := b5.ext x13
  replace X := Ext.trans X x13; clear x13
  refine ops_cons rfl (ow_assign rfl ?_)
  refine ops_nil ?_
  refine c_ret ?_
  refine tq_r ?_
  refine fin_ret1 rfl rfl ?_
  exact ⟨by simp [cmpS, *], X⟩
  refine ops_nil ?_
  refine c_false rfl ?_
  refine c_skip ?_
  refine tq_n ?_
  refine c_seqR ?_
  refine ops_cons rfl (ow_fieldAddrB off89_2 rfl rfl ?_)
  refine ops_cons rfl (ow_loadB b1 ti2 rfl rfl ?_)
  refine ops_cons rfl (ow_fieldAddrB off89_2 rfl rfl ?_)
  refine ops_cons rfl (ow_loadB b5 ti2 rfl rfl ?_)
  refine ops_cons rfl (ow_call ent265 rfl (ret_mono (compare_c _ _ _) ?_))
  rintro _ w16 ⟨rfl, x15⟩
  replace b1 := b1.ext x15
  replace b5 := b5.ext x15
  replace X := Ext.trans X x15; clear x15
  refine ops_cons rfl (ow_assign rfl ?_)
  refine ops_nil ?_
  refine c_ret ?_
  refine fin_ret1 rfl rfl ?_
  exact ⟨by simp [cmpS, *], X⟩

theorem sCompareSlots_c (a b : SlotI) (w : World)  :
    Calls Tryz.prog 261 #[.agg a.cells.toArray, .agg b.cells.toArray] w (Ret fun v w' => v = .int .i64 (cmpS a b) ∧ Ext w w') := by
  have X := Ext.refl w
  refine calls_of (args := [.agg a.cells.toArray, .agg b.cells.toArray]) Tryz.func261 Tryz.ntmps261 rfl rfl ?_
  refine c_seqR ?_
  refine ops_cons rfl (ow_box rfl rfl ?_)
  intro g4 w3 eg4 b1 x2 zg4
  have lg4 : w.heap.size ≤ g4 := Nat.le_trans X.size (Nat.le_of_eq eg4.symm)
  replace X := Ext.trans X x2; clear x2
  refine ops_cons rfl (ow_box rfl rfl ?_)
  intro g8 w7 eg8 b5 x6 zg8
  have lg8 : w.heap.size ≤ g8 := Nat.le_trans X.size (Nat.le_of_eq eg8.symm)
  have ng8b1 := Nat.lt_of_lt_of_eq b1.lt eg8.symm
  replace b1 := b1.ext x6
  replace X := Ext.trans X x6; clear x6
  refine ops_cons rfl (ow_assign rfl ?_)
  refine ops_nil ?_
  refine c_seqJ 16 mixed (by kernel_rfl) ?_
  refine je_take 0 _ rfl (by kernel_rfl) rfl (by kernel_rfl) (listed' := #[true, false, false, false, false, false, false, false, false, false, false, false, false, false, false, false]) rfl (Up.ext _) (fun wq sq => ow_fieldAddrB off89_0 rfl rfl ⟨rfl, Ext.refl _⟩) ?_
  refine je_take 1 _ rfl (by kernel_rfl) rfl (by kernel_rfl) (listed' := #[true, true, false, false, false, false, false, false, false, false, false, false, false, false, false, false]) rfl (Up.ext _) (fun wq sq => ow_loadB (b1.ext sq) ti2 rfl rfl ⟨rfl, Ext.refl _⟩) ?_
  refine je_take 2 _ rfl (by kernel_rfl) rfl (by kernel_rfl) (listed' := #[true, true, true, false, false, false, false, false, false, false, false, false, false, false, false, false]) rfl (Up.ext _) (fun wq sq => ow_fieldAddrB off89_1 rfl rfl ⟨rfl, Ext.refl _⟩) ?_
  refine je_take 3 _ rfl (by kernel_rfl) rfl (by kernel_rfl) (listed' := #[true, true, true, true, false, false, false, false, false, false, false, false, false, false, false, false]) rfl (Up.ext _) (fun wq sq => ow_loadB (b1.ext sq) ti2 rfl rfl ⟨rfl, Ext.refl _⟩) ?_
  refine je_take 4 _ rfl (by kernel_rfl) rfl (by kernel_rfl) (listed' := #[true, true, true, true, true, false, false, false, false, false, false, false, false, false, false, false]) rfl (Up.ext _) (fun wq sq => ow_fieldAddrB off89_2 rfl rfl ⟨rfl, Ext.refl _⟩) ?_
  refine je_take 5 _ rfl (by kernel_rfl) rfl (by kernel_rfl) (listed' := #[true, true, true, true, true, true, false, false, false, false, false, false, false, false, false, false]) rfl (Up.ext _) (fun wq sq => ow_loadB (b1.ext sq) ti2 rfl rfl ⟨rfl, Ext.refl _⟩) ?_
  refine je_take 7 _ rfl (by kernel_rfl) rfl (by kernel_rfl) (listed' := #[true, true, true, true, true, true, false, true, false, false, false, false, false, false, false, false]) rfl (Up.ext _) (fun wq sq => ow_fieldAddrB off89_0 rfl rfl ⟨rfl, Ext.refl _⟩) ?_
  refine je_take 8 _ rfl (by kernel_rfl) rfl (by kernel_rfl) (listed' := #[true, true, true, true, true, true, false, true, true, false, false, false, false, false, false, false]) rfl (Up.ext _) (fun wq sq => ow_loadB (b5.ext sq) ti2 rfl rfl ⟨rfl, Ext.refl _⟩) ?_
  refine je_take 9 _ rfl (by kernel_rfl) rfl (by kernel_rfl) (listed' := #[true, true, true, true, true, true, false, true, true, true, false, false, false, false, false, false]) rfl (Up.ext _) (fun wq sq => ow_fieldAddrB off89_1 rfl rfl ⟨rfl, Ext.refl _⟩) ?_
  refine je_take 10 _ rfl (by kernel_rfl) rfl (by kernel_rfl) (listed' := #[true, true, true, true, true, true, false, true, true, true, true, false, false, false, false, false]) rfl (Up.ext _) (fun wq sq => ow_loadB (b5.ext sq) ti2 rfl rfl ⟨rfl, Ext.refl _⟩) ?_
  refine je_take 11 _ rfl (by kernel_rfl) rfl (by kernel_rfl) (listed' := #[true, true, true, true, true, true, false, true, true, true, true, true, false, false, false, false]) rfl (Up.ext _) (fun wq sq => ow_fieldAddrB off89_2 rfl rfl ⟨rfl, Ext.refl _⟩) ?_
  refine je_take 12 _ rfl (by kernel_rfl) rfl (by kernel_rfl) (listed' := #[true, true, true, true, true, true, false, true, true, true, true, true, true, false, false, false]) rfl (Up.ext _) (fun wq sq => ow_loadB (b5.ext sq) ti2 rfl rfl ⟨rfl, Ext.refl _⟩) ?_
  refine je_two 6 13 (fun gA : Nat => Value.slice (some ⟨gA, 0, none⟩) 3 3) (fun gA wz => Own wz w.heap.size 2 1 (some ⟨gA, 0, none⟩) 3 3 ([a.mode, a.round, a.slot].flatMap eI)) 0 (fun gB : Nat => Value.slice (some ⟨gB, 0, none⟩) 3 3) (fun gB wz => Own wz w.heap.size 2 1 (some ⟨gB, 0, none⟩) 3 3 ([b.mode, b.round, b.slot].flatMap eI)) 0 rfl rfl rfl rfl (by kernel_rfl) (listed' := #[true, true, true, true, true, true, true, true, true, true, true, true, true, false, false, false]) (listed'' := #[true, true, true, true, true, true, false, true, true, true, true, true, true, true, false, false]) rfl rfl ⟨inj_own, fun _ _ _ h k => h.ext k, fun wq sq => ow_buildSlice el30 ti2 rfl rfl rfl rfl rfl (fun g w' hg ho hb hx hz => ⟨g, rfl, Own.low ho (Nat.le_trans X.size (sq).size), hx⟩)⟩ ⟨inj_own, fun _ _ _ h k => h.ext k, fun wq sq => ow_buildSlice el30 ti2 rfl rfl rfl rfl rfl (fun g w' hg ho hb hx hz => ⟨g, rfl, Own.low ho (Nat.le_trans X.size (sq).size), hx⟩)⟩ ?_ ?_
  intro gA
  refine je_take 14 _ rfl (by kernel_rfl) rfl (by kernel_rfl) (listed' := #[true, true, true, true, true, true, true, true, true, true, true, true, true, false, true, false]) rfl (Up.and (Up.ext _) (fun _ _ h k => h.ext k)) (fun wq sq => ow_assign rfl ⟨rfl, Ext.refl _⟩) ?_
  refine je_ov 13 (fun gB : Nat => Value.slice (some ⟨gB, 0, none⟩) 3 3) (fun gB wz => Own wz w.heap.size 2 1 (some ⟨gB, 0, none⟩) 3 3 ([b.mode, b.round, b.slot].flatMap eI)) 0 rfl rfl (by kernel_rfl) (listed' := #[true, true, true, true, true, true, true, true, true, true, true, true, true, true, true, false]) rfl ⟨inj_own, fun _ _ _ h k => h.ext k, fun wq sq => ow_buildSlice el30 ti2 rfl rfl rfl rfl rfl (fun g w' hg ho hb hx hz => ⟨g, rfl, Own.low ho (Nat.le_trans X.size (sq.1).size), hx⟩)⟩ ?_
  intro gB
  refine je_take 15 _ rfl (by kernel_rfl) rfl (by kernel_rfl) (listed' := #[true, true, true, true, true, true, true, true, true, true, true, true, true, true, true, true]) rfl (Up.and (Up.and (Up.ext _) (fun _ _ h k => h.ext k)) (fun _ _ h k => h.ext k)) (fun wq sq => ow_assign rfl ⟨rfl, Ext.refl _⟩) ?_
  refine je_done rfl (fun w9 sq a10 f11 => ⟨_, f11, ?_⟩)
  have xq := sq.1.1
  have oA := sq.1.2
  have oB := sq.2
  replace b1 := b1.ext xq
  replace b5 := b5.ext xq
  replace X := Ext.trans X xq; clear xq sq
  refine ops_nil ?_
  refine c_seq ?_
  refine c_seqR ?_
  refine ops_cons rfl (ow_assign rfl ?_)
  refine ops_nil ?_
  refine c_block ?_
  refine c_loop (G := Nat) (fun k => [(5, .slice (some ⟨gA, 0, none⟩) 3 3), (6, .slice (some ⟨gB, 0, none⟩) 3 3), (7, .int .i64 (k : Nat))]) (fun k wr => k ≤ 3 ∧ (∀ i, i < k → [a.mode, a.round, a.slot][i]? = [b.mode, b.round, b.slot][i]?) ∧ Own wr w.heap.size 2 1 (some ⟨gA, 0, none⟩) 3 3 ([a.mode, a.round, a.slot].flatMap eI) ∧ Own wr w.heap.size 2 1 (some ⟨gB, 0, none⟩) 3 3 ([b.mode, b.round, b.slot].flatMap eI) ∧ Ext w wr) (fun k => 3 - k) 0 (.cons rfl (.cons rfl (.cons rfl (.nil _)))) ?_ ?_
  · exact ⟨by omega, fun i hi => by omega, oA, oB, X⟩
  clear oA oB
  clear X
  rintro k wr ⟨hk, hi, oA, oB, X⟩
  refine c_seq ?_
  refine c_seqR ?_
  refine ops_cons rfl (ow_move rfl ?_)
  refine ops_cons rfl (ow_lss2 rfl rfl (fun h12 => ?_) (fun h12 => ?_))
  obtain ⟨x, hx⟩ : ∃ x, [a.mode, a.round, a.slot][k]? = some x := ⟨_, List.getElem?_eq_getElem (by simp; omega)⟩
  obtain ⟨y, hy⟩ : ∃ y, [b.mode, b.round, b.slot][k]? = some y := ⟨_, List.getElem?_eq_getElem (by simp; omega)⟩
  refine ops_nil ?_
  refine c_true rfl ?_
  refine c_skip ?_
  refine tq_n ?_
  refine c_seq ?_
  refine c_block ?_
  refine c_seq ?_
  refine c_seqD [false, false, false, false, false, false, false, false, false] mixed (by kernel_rfl) ?_
  refine f_q rfl (fun wq sq => ow_move rfl ⟨rfl, Ext.refl _⟩) ?_
  refine f_q rfl (fun wq sq => ow_move rfl ⟨rfl, Ext.refl _⟩) ?_
  refine f_q rfl (fun wq sq => ow_indexT ((oA.ext sq)).sl eI_len rfl el30 rfl rfl rfl hx rfl ⟨rfl, Ext.refl _⟩) ?_
  refine f_q rfl (fun wq sq => ow_loadT ((oA.ext sq)).sl eI_len hx ti2 rfl rfl rfl ⟨rfl, Ext.refl _⟩) ?_
  refine f_q rfl (fun wq sq => ow_move rfl ⟨rfl, Ext.refl _⟩) ?_
  refine f_q rfl (fun wq sq => ow_move rfl ⟨rfl, Ext.refl _⟩) ?_
  refine f_q rfl (fun wq sq => ow_indexT ((oB.ext sq)).sl eI_len rfl el30 rfl rfl rfl hy rfl ⟨rfl, Ext.refl _⟩) ?_
  refine f_q rfl (fun wq sq => ow_loadT ((oB.ext sq)).sl eI_len hy ti2 rfl rfl rfl ⟨rfl, Ext.refl _⟩) ?_
  refine f_qb rfl (fun wq sq => ow_lss rfl rfl ⟨rfl, Ext.refl _⟩) (fun h13 => ?_) (fun h13 => ?_)
  refine f_nil (fun w14 sq => ?_)
  have xq := sq
  replace oA := oA.ext xq
  replace oB := oB.ext xq
  replace X := Ext.trans X xq; clear xq sq
  refine ops_nil ?_
  refine c_true rfl ?_
  refine c_seqR ?_
  refine ops_cons rfl (ow_assign rfl ?_)
  refine ops_nil ?_
  refine c_ret ?_
  refine tq_r ?_
  refine bq_r ?_
  refine tq_r ?_
  refine tq_r ?_
  refine bq_r ?_
  refine tq_r ?_
  refine fin_ret1 rfl rfl ?_
  · skip
    refine ⟨congrArg (Value.int .i64) ?_, X⟩
    first | exact cmp3_lt hi hx hy ‹_› | exact cmp3_gt hi hx hy ‹_› | exact cmp3_eq hi (by omega)
  refine f_nil (fun w15 sq => ?_)
  have xq := sq
  replace oA := oA.ext xq
  replace oB := oB.ext xq
  replace X := Ext.trans X xq; clear xq sq
  refine ops_nil ?_
  refine c_false rfl ?_
  refine c_skip ?_
  refine tq_n ?_
  refine c_seqD [false, false, false, false, false, false, false, false, false] mixed (by kernel_rfl) ?_
  refine f_q rfl (fun wq sq => ow_move rfl ⟨rfl, Ext.refl _⟩) ?_
  refine f_q rfl (fun wq sq => ow_move rfl ⟨rfl, Ext.refl _⟩) ?_
  refine f_q rfl (fun wq sq => ow_indexT ((oA.ext sq)).sl eI_len rfl el30 rfl rfl rfl hx rfl ⟨rfl, Ext.refl _⟩) ?_
  refine f_q rfl (fun wq sq => ow_loadT ((oA.ext sq)).sl eI_len hx ti2 rfl rfl rfl ⟨rfl, Ext.refl _⟩) ?_
  refine f_q rfl (fun wq sq => ow_move rfl ⟨rfl, Ext.refl _⟩) ?_
  refine f_q rfl (fun wq sq => ow_move rfl ⟨rfl, Ext.refl _⟩) ?_
  refine f_q rfl (fun wq sq => ow_indexT ((oB.ext sq)).sl eI_len rfl el30 rfl rfl rfl hy rfl ⟨rfl, Ext.refl _⟩) ?_
  refine f_q rfl (fun wq sq => ow_loadT ((oB.ext sq)).sl eI_len hy ti2 rfl rfl rfl ⟨rfl, Ext.refl _⟩) ?_
  refine f_qb rfl (fun wq sq => ow_gtr rfl rfl ⟨rfl, Ext.refl _⟩) (fun h16 => ?_) (fun h16 => ?_)
  refine f_nil (fun w17 sq => ?_)
  have xq := sq
  replace oA := oA.ext xq
  replace oB := oB.ext xq
  replace X := Ext.trans X xq; clear xq sq
  refine ops_nil ?_
  refine c_true rfl ?_
  refine c_seqR ?_
  refine ops_cons rfl (ow_assign rfl ?_)
  refine ops_nil ?_
  refine c_ret ?_
  refine bq_r ?_
  refine tq_r ?_
  refine tq_r ?_
  refine bq_r ?_
  refine tq_r ?_
  refine fin_ret1 rfl rfl ?_
  · skip
    refine ⟨congrArg (Value.int .i64) ?_, X⟩
    first | exact cmp3_lt hi hx hy ‹_› | exact cmp3_gt hi hx hy ‹_› | exact cmp3_eq hi (by omega)
  refine f_nil (fun w18 sq => ?_)
  have xq := sq
  replace oA := oA.ext xq
  replace oB := oB.ext xq
  replace X := Ext.trans X xq; clear xq sq
  refine ops_nil ?_
  refine c_false rfl ?_
  refine c_skip ?_
  refine bq_n ?_
  refine tq_n ?_
  refine c_region ?_
  refine ops_cons rfl (ow_move rfl ?_)
  refine ops_cons rfl (ow_add rfl rfl (w64 (by omega)) ?_)
  refine ops_cons rfl (ow_assign rfl ?_)
  refine ops_nil ?_
  refine tq_n ⟨k + 1, (.cons rfl (.cons rfl (.cons rfl (.nil _)))), ?_, ?_⟩
  · skip
    exact ⟨by omega, fun i hik => by
      by_cases e : i = k
      · subst e; rw [hx, hy]; congr 1; omega
      · exact hi i (by omega), oA, oB, X⟩
  · omega
  refine ops_nil ?_
  refine c_false rfl ?_
  refine c_exit ?_
  refine tq_e ?_
  refine tq_e ?_
  refine bq_e ?_
  refine tq_n ?_
  refine c_seqR ?_
  refine ops_cons rfl (ow_assign rfl ?_)
  refine ops_nil ?_
  refine c_ret ?_
  refine fin_ret1 rfl rfl ?_
  · skip
    refine ⟨congrArg (Value.int .i64) ?_, X⟩
    first | exact cmp3_lt hi hx hy ‹_› | exact cmp3_gt hi hx hy ‹_› | exact cmp3_eq hi (by omega)
  intro gB
  refine je_ov 6 (fun gA : Nat => Value.slice (some ⟨gA, 0, none⟩) 3 3) (fun gA wz => Own wz w.heap.size 2 1 (some ⟨gA, 0, none⟩) 3 3 ([a.mode, a.round, a.slot].flatMap eI)) 0 rfl rfl (by kernel_rfl) (listed' := #[true, true, true, true, true, true, true, true, true, true, true, true, true, true, false, false]) rfl ⟨inj_own, fun _ _ _ h k => h.ext k, fun wq sq => ow_buildSlice el30 ti2 rfl rfl rfl rfl rfl (fun g w' hg ho hb hx hz => ⟨g, rfl, Own.low ho (Nat.le_trans X.size (sq.1).size), hx⟩)⟩ ?_
  intro gA
  refine je_take 14 _ rfl (by kernel_rfl) rfl (by kernel_rfl) (listed' := #[true, true, true, true, true, true, true, true, true, true, true, true, true, true, true, false]) rfl (Up.and (Up.and (Up.ext _) (fun _ _ h k => h.ext k)) (fun _ _ h k => h.ext k)) (fun wq sq => ow_assign rfl ⟨rfl, Ext.refl _⟩) ?_
  refine je_take 15 _ rfl (by kernel_rfl) rfl (by kernel_rfl) (listed' := #[true, true, true, true, true, true, true, true, true, true, true, true, true, true, true, true]) rfl (Up.and (Up.and (Up.ext _) (fun _ _ h k => h.ext k)) (fun _ _ h k => h.ext k)) (fun wq sq => ow_assign rfl ⟨rfl, Ext.refl _⟩) ?_
  refine je_done rfl (fun w19 sq a20 f21 => ⟨_, f21, ?_⟩)
  have xq := sq.1.1
  have oB := sq.1.2
  have oA := sq.2
  replace b1 := b1.ext xq
  replace b5 := b5.ext xq
  replace X := Ext.trans X xq; clear xq sq
  refine ops_nil ?_
  refine c_seq ?_
  refine c_seqR ?_
  refine ops_cons rfl (ow_assign rfl ?_)
  refine ops_nil ?_
  refine c_block ?_
  refine c_loop (G := Nat) (fun k => [(5, .slice (some ⟨gA, 0, none⟩) 3 3), (6, .slice (some ⟨gB, 0, none⟩) 3 3), (7, .int .i64 (k : Nat))]) (fun k wr => k ≤ 3 ∧ (∀ i, i < k → [a.mode, a.round, a.slot][i]? = [b.mode, b.round, b.slot][i]?) ∧ Own wr w.heap.size 2 1 (some ⟨gA, 0, none⟩) 3 3 ([a.mode, a.round, a.slot].flatMap eI) ∧ Own wr w.heap.size 2 1 (some ⟨gB, 0, none⟩) 3 3 ([b.mode, b.round, b.slot].flatMap eI) ∧ Ext w wr) (fun k => 3 - k) 0 (.cons rfl (.cons rfl (.cons rfl (.nil _)))) ?_ ?_
  · exact ⟨by omega, fun i hi => by omega, oA, oB, X⟩
  clear oA oB
  clear X
  rintro k wr ⟨hk, hi, oA, oB, X⟩
  refine c_seq ?_
  refine c_seqR ?_
  refine ops_cons rfl (ow_move rfl ?_)
  refine ops_cons rfl (ow_lss2 rfl rfl (fun h22 => ?_) (fun h22 => ?_))
  obtain ⟨x, hx⟩ : ∃ x, [a.mode, a.round, a.slot][k]? = some x := ⟨_, List.getElem?_eq_getElem (by simp; omega)⟩
  obtain ⟨y, hy⟩ : ∃ y, [b.mode, b.round, b.slot][k]? = some y := ⟨_, List.getElem?_eq_getElem (by simp; omega)⟩
  refine ops_nil ?_
  refine c_true rfl ?_
  refine c_skip ?_
  refine tq_n ?_
  refine c_seq ?_
  refine c_block ?_
  refine c_seq ?_
  refine c_seqD [false, false, false, false, false, false, false, false, false] mixed (by kernel_rfl) ?_
  refine f_q rfl (fun wq sq => ow_move rfl ⟨rfl, Ext.refl _⟩) ?_
  refine f_q rfl (fun wq sq => ow_move rfl ⟨rfl, Ext.refl _⟩) ?_
  refine f_q rfl (fun wq sq => ow_indexT ((oA.ext sq)).sl eI_len rfl el30 rfl rfl rfl hx rfl ⟨rfl, Ext.refl _⟩) ?_
  refine f_q rfl (fun wq sq => ow_loadT ((oA.ext sq)).sl eI_len hx ti2 rfl rfl rfl ⟨rfl, Ext.refl _⟩) ?_
  refine f_q rfl (fun wq sq => ow_move rfl ⟨rfl, Ext.refl _⟩) ?_
  refine f_q rfl (fun wq sq => ow_move rfl ⟨rfl, Ext.refl _⟩) ?_
  refine f_q rfl (fun wq sq => ow_indexT ((oB.ext sq)).sl eI_len rfl el30 rfl rfl rfl hy rfl ⟨rfl, Ext.refl _⟩) ?_
  refine f_q rfl (fun wq sq => ow_loadT ((oB.ext sq)).sl eI_len hy ti2 rfl rfl rfl ⟨rfl, Ext.refl _⟩) ?_
  refine f_qb rfl (fun wq sq => ow_lss rfl rfl ⟨rfl, Ext.refl _⟩) (fun h23 => ?_) (fun h23 => ?_)
  refine f_nil (fun w24 sq => ?_)
  have xq := sq
  replace oA := oA.ext xq
  replace oB := oB.ext xq
  replace X := Ext.trans X xq; clear xq sq
  refine ops_nil ?_
  refine c_true rfl ?_
  refine c_seqR ?_
  refine ops_cons rfl (ow_assign rfl ?_)
  refine ops_nil ?_
  refine c_ret ?_
  refine tq_r ?_
  refine bq_r ?_
  refine tq_r ?_
  refine tq_r ?_
  refine bq_r ?_
  refine tq_r ?_
  refine fin_ret1 rfl rfl ?_
  · skip
    refine ⟨congrArg (Value.int .i64) ?_, X⟩
    first | exact cmp3_lt hi hx hy ‹_› | exact cmp3_gt hi hx hy ‹_› | exact cmp3_eq hi (by omega)
  refine f_nil (fun w25 sq => ?_)
  have xq := sq
  replace oA := oA.ext xq
  replace oB := oB.ext xq
  replace X := Ext.trans X xq; clear xq sq
  refine ops_nil ?_
  refine c_false rfl ?_
  refine c_skip ?_
  refine tq_n ?_
  refine c_seqD [false, false, false, false, false, false, false, false, false] mixed (by kernel_rfl) ?_
  refine f_q rfl (fun wq sq => ow_move rfl ⟨rfl, Ext.refl _⟩) ?_
  refine f_q rfl (fun wq sq => ow_move rfl ⟨rfl, Ext.refl _⟩) ?_
  refine f_q rfl (fun wq sq => ow_indexT ((oA.ext sq)).sl eI_len rfl el30 rfl rfl rfl hx rfl ⟨rfl, Ext.refl _⟩) ?_
  refine f_q rfl (fun wq sq => ow_loadT ((oA.ext sq)).sl eI_len hx ti2 rfl rfl rfl ⟨rfl, Ext.refl _⟩) ?_
  refine f_q rfl (fun wq sq => ow_move rfl ⟨rfl, Ext.refl _⟩) ?_
  refine f_q rfl (fun wq sq => ow_move rfl ⟨rfl, Ext.refl _⟩) ?_
  refine f_q rfl (fun wq sq => ow_indexT ((oB.ext sq)).sl eI_len rfl el30 rfl rfl rfl hy rfl ⟨rfl, Ext.refl _⟩) ?_
  refine f_q rfl (fun wq sq => ow_loadT ((oB.ext sq)).sl eI_len hy ti2 rfl rfl rfl ⟨rfl, Ext.refl _⟩) ?_
  refine f_qb rfl (fun wq sq => ow_gtr rfl rfl ⟨rfl, Ext.refl _⟩) (fun h26 => ?_) (fun h26 => ?_)
  refine f_nil (fun w27 sq => ?_)
  have xq := sq
  replace oA := oA.ext xq
  replace oB := oB.ext xq
  replace X := Ext.trans X xq; clear xq sq
  refine ops_nil ?_
  refine c_true rfl ?_
  refine c_seqR ?_
  refine ops_cons rfl (ow_assign rfl ?_)
  refine ops_nil ?_
  refine c_ret ?_
  refine bq_r ?_
  refine tq_r ?_
  refine tq_r ?_
  refine bq_r ?_
  refine tq_r ?_
  refine fin_ret1 rfl rfl ?_
  · skip
    refine ⟨congrArg (Value.int .i64) ?_, X⟩
    first | exact cmp3_lt hi hx hy ‹_› | exact cmp3_gt hi hx hy ‹_› | exact cmp3_eq hi (by omega)
  refine f_nil (fun w28 sq => ?_)
  have xq := sq
  replace oA := oA.ext xq
  replace oB := oB.ext xq
  replace X := Ext.trans X xq; clear xq sq
  refine ops_nil ?_
  refine c_false rfl ?_
  refine c_skip ?_
  refine bq_n ?_
  refine tq_n ?_
  refine c_region ?_
  refine ops_cons rfl (ow_move rfl ?_)
  refine ops_cons rfl (ow_add rfl rfl (w64 (by omega)) ?_)
  refine ops_cons rfl (ow_assign rfl ?_)
  refine ops_nil ?_
  refine tq_n ⟨k + 1, (.cons rfl (.cons rfl (.cons rfl (.nil _)))), ?_, ?_⟩
  · skip
    exact ⟨by omega, fun i hik => by
      by_cases e : i = k
      · subst e; rw [hx, hy]; congr 1; omega
      · exact hi i (by omega), oA, oB, X⟩
  · omega
  refine ops_nil ?_
  refine c_false rfl ?_
  refine c_exit ?_
  refine tq_e ?_
  refine tq_e ?_
  refine bq_e ?_
  refine tq_n ?_
  refine c_seqR ?_
  refine ops_cons rfl (ow_assign rfl ?_)
  refine ops_nil ?_
  refine c_ret ?_
  refine fin_ret1 rfl rfl ?_
  · skip
    refine ⟨congrArg (Value.int .i64) ?_, X⟩
    first | exact cmp3_lt hi hx hy ‹_› | exact cmp3_gt hi hx hy ‹_› | exact cmp3_eq hi (by omega)

theorem sIsST_c (A : Option Addr) (B c : Nat) (xs : List SlotI) (w : World) (hs : Sl B w A (xs.flatMap SlotI.cells)) (hl : xs.length ≤ 1048576) :
    Calls Tryz.prog 226 #[.slice A xs.length c] w (Ret fun v w' => v = .bool (isST xs) ∧ Ext w w') := by
  have Bhs := hs.1
  have X := Ext.refl w
  refine calls_of (args := [.slice A xs.length c]) Tryz.func226 Tryz.ntmps226 rfl rfl ?_
  refine c_seqR ?_
  refine ops_cons rfl (ow_assign rfl ?_)
  refine ops_nil ?_
  refine c_seq ?_
  refine c_seqR ?_
  refine ops_cons rfl (ow_move rfl ?_)
  refine ops_cons rfl (ow_len Tryz.underlying26 rfl ?_)
  refine ops_cons rfl (ow_gtr2 rfl rfl (fun h120 => ?_) (fun h120 => ?_))
  refine ops_nil ?_
  refine c_true rfl ?_
  refine c_seqR ?_
  refine ops_cons rfl (ow_assign rfl ?_)
  refine ops_nil ?_
  refine c_ret ?_
  refine tq_r ?_
  refine fin_ret1 rfl rfl ?_
  · skip
    refine ⟨congrArg Value.bool ?_, X⟩
    first
    | (rw [isST, decide_eq_false (by omega)]; simp; done)
    | (rw [isST, hi, drop_end hk]; simp [okFrom]; omega)
    | (rw [isST, hi, dx]; cases prevO xs k <;> simp [okFrom, *]; done)
    | (rw [isST, hi, dx, prevO_pos (by omega) hy]; simp [okFrom, *]; omega)
  refine ops_nil ?_
  refine c_false rfl ?_
  refine c_skip ?_
  refine tq_n ?_
  refine c_seq ?_
  refine c_seqR ?_
  refine ops_cons rfl (ow_assign rfl ?_)
  refine ops_nil ?_
  refine c_block ?_
  refine c_loop (G := Nat) (fun k => [(0, .slice A xs.length c), (3, .int .i64 (k : Nat))]) (fun k wr => k ≤ xs.length ∧ okFrom none xs = okFrom (prevO xs k) (xs.drop k) ∧ Sl B wr A (xs.flatMap SlotI.cells) ∧ Ext w wr) (fun k => xs.length - k) 0 (.cons rfl (.cons rfl (.nil _))) ?_ ?_
  · exact ⟨by omega, rfl, hs, X⟩
  clear hs
  clear X
  rintro k wr ⟨hk0, hi, hs, X⟩
  refine c_seq ?_
  refine c_seqR ?_
  refine ops_cons rfl (ow_move rfl ?_)
  refine ops_cons rfl (ow_move rfl ?_)
  refine ops_cons rfl (ow_len Tryz.underlying26 rfl ?_)
  refine ops_cons rfl (ow_lss2 rfl rfl (fun hk => ?_) (fun hk => ?_))
  obtain ⟨x, hx, dx⟩ := drop_at' hk
  refine ops_nil ?_
  refine c_true rfl ?_
  refine c_skip ?_
  refine tq_n ?_
  refine c_seq ?_
  refine c_block ?_
  refine c_seqD [false, false, false, false, false, false, false, false, false, false, false, false, false, false, false, false, false, false, false, false, false, false, false] mixed (by kernel_rfl) ?_
  refine f_q rfl (fun wq sq => ow_move rfl ⟨rfl, Ext.refl _⟩) ?_
  refine f_q rfl (fun wq sq => ow_move rfl ⟨rfl, Ext.refl _⟩) ?_
  refine f_q rfl (fun wq sq => ow_indexT (hs.ext sq) SlotI.len rfl el26 rfl rfl rfl hx rfl ⟨rfl, Ext.refl _⟩) ?_
  refine f_q rfl (fun wq sq => ow_loadTA (hs.ext sq) SlotI.len hx ti89 rfl ⟨rfl, Ext.refl _⟩) ?_
  refine f_qB rfl (fun wq sq => ow_call ent260 rfl (l12Is_c _ _)) (fun h1 => ?_) (fun h1 => ?_)
  refine f_q rfl (fun wq sq => ow_not rfl ⟨rfl, Ext.refl _⟩) ?_
  refine f_q rfl (fun wq sq => ow_move rfl ⟨rfl, Ext.refl _⟩) ?_
  refine f_qw rfl rfl rfl (fun wq sq => ow_move rfl ⟨rfl, Ext.refl _⟩) ?_
  refine f_qwb rfl rfl rfl (fun wq sq => ow_gtr rfl rfl ⟨rfl, Ext.refl _⟩) (fun hp => ?_) (fun hp => ?_)
  obtain ⟨y, hy⟩ : ∃ y, xs[k - 1]? = some y := ⟨_, List.getElem?_eq_getElem (by omega)⟩
  refine f_qw rfl rfl rfl (fun wq sq => ow_move rfl ⟨rfl, Ext.refl _⟩) ?_
  refine f_qw rfl rfl rfl (fun wq sq => ow_move rfl ⟨rfl, Ext.refl _⟩) ?_
  refine f_qw rfl rfl rfl (fun wq sq => ow_move rfl ⟨rfl, Ext.refl _⟩) ?_
  refine f_qw rfl rfl rfl (fun wq sq => ow_sub rfl rfl (w64 (by omega)) ⟨rfl, Ext.refl _⟩) ?_
  refine f_qw rfl rfl rfl (fun wq sq => ow_indexT (hs.ext sq) SlotI.len rfl el26 rfl rfl rfl hy (by omega) ⟨rfl, Ext.refl _⟩) ?_
  refine f_qw rfl rfl rfl (fun wq sq => ow_loadTA (hs.ext sq) SlotI.len hy ti89 rfl ⟨rfl, Ext.refl _⟩) ?_
  refine f_qw rfl rfl rfl (fun wq sq => ow_move rfl ⟨rfl, Ext.refl _⟩) ?_
  refine f_qw rfl rfl rfl (fun wq sq => ow_move rfl ⟨rfl, Ext.refl _⟩) ?_
  refine f_qw rfl rfl rfl (fun wq sq => ow_indexT (hs.ext sq) SlotI.len rfl el26 rfl rfl rfl hx rfl ⟨rfl, Ext.refl _⟩) ?_
  refine f_qw rfl rfl rfl (fun wq sq => ow_loadTA (hs.ext sq) SlotI.len hx ti89 rfl ⟨rfl, Ext.refl _⟩) ?_
  refine f_qw rfl rfl rfl (fun wq sq => ow_call ent261 rfl (sCompareSlots_c _ _ _)) ?_
  refine f_qwb rfl rfl rfl (fun wq sq => ow_geq rfl rfl ⟨rfl, Ext.refl _⟩) (fun h4 => ?_) (fun h4 => ?_)
  refine f_qw rfl rfl rfl (fun wq sq => ow_pick rfl rfl ⟨rfl, Ext.refl _⟩) ?_
  refine f_q rfl (fun wq sq => ow_pick rfl rfl ⟨rfl, Ext.refl _⟩) ?_
  refine f_nil (fun w5 sq => ?_)
  have xq := sq
  replace hs := hs.ext xq
  replace X := Ext.trans X xq; clear xq sq
  refine ops_nil ?_
  refine c_true rfl ?_
  refine c_seqR ?_
  refine ops_cons rfl (ow_assign rfl ?_)
  refine ops_nil ?_
  refine c_ret ?_
  refine bq_r ?_
  refine tq_r ?_
  refine tq_r ?_
  refine bq_r ?_
  refine tq_r ?_
  refine fin_ret1 rfl rfl ?_
  · skip
    refine ⟨congrArg Value.bool ?_, X⟩
    first
    | (rw [isST, decide_eq_false (by omega)]; simp; done)
    | (rw [isST, hi, drop_end hk]; simp [okFrom]; omega)
    | (rw [isST, hi, dx]; cases prevO xs k <;> simp [okFrom, *]; done)
    | (rw [isST, hi, dx, prevO_pos (by omega) hy]; simp [okFrom, *]; omega)
  refine f_qw rfl rfl rfl (fun wq sq => ow_pick rfl rfl ⟨rfl, Ext.refl _⟩) ?_
  refine f_q rfl (fun wq sq => ow_pick rfl rfl ⟨rfl, Ext.refl _⟩) ?_
  refine f_nil (fun w6 sq => ?_)
  have xq := sq
  replace hs := hs.ext xq
  replace X := Ext.trans X xq; clear xq sq
  refine ops_nil ?_
  refine c_false rfl ?_
  refine c_skip ?_
  refine bq_n ?_
  refine tq_n ?_
  refine c_region ?_
  refine ops_cons rfl (ow_move rfl ?_)
  refine ops_cons rfl (ow_add rfl rfl (w64 (by omega)) ?_)
  refine ops_cons rfl (ow_assign rfl ?_)
  refine ops_nil ?_
  refine tq_n ⟨k + 1, (.cons rfl (.cons rfl (.nil _))), ?_, ?_⟩
  · skip
    exact ⟨by omega, (by
      rw [hi, dx, prevO_succ hx]
      first | (rw [prevO_zero ‹_›]; simp [okFrom, *]; done) | (rw [prevO_pos (by omega) hy]; simp [okFrom, *]; omega)), hs, X⟩
  · first | omega | (dsimp only; omega)
  refine f_qw rfl rfl rfl (fun wq sq => ow_move rfl ⟨rfl, Ext.refl _⟩) ?_
  refine f_qs rfl rfl rfl rfl ?_
  refine f_qs rfl rfl rfl rfl ?_
  refine f_qs rfl rfl rfl rfl ?_
  refine f_qs rfl rfl rfl rfl ?_
  refine f_qs rfl rfl rfl rfl ?_
  refine f_qs rfl rfl rfl rfl ?_
  refine f_qs rfl rfl rfl rfl ?_
  refine f_qs rfl rfl rfl rfl ?_
  refine f_qs rfl rfl rfl rfl ?_
  refine f_qs rfl rfl rfl rfl ?_
  refine f_qs rfl rfl rfl rfl ?_
  refine f_qw rfl rfl rfl (fun wq sq => ow_pick rfl rfl ⟨rfl, Ext.refl _⟩) ?_
  refine f_q rfl (fun wq sq => ow_pick rfl rfl ⟨rfl, Ext.refl _⟩) ?_
  refine f_nil (fun w7 sq => ?_)
  have xq := sq
  replace hs := hs.ext xq
  replace X := Ext.trans X xq; clear xq sq
  refine ops_nil ?_
  refine c_false rfl ?_
  refine c_skip ?_
  refine bq_n ?_
  refine tq_n ?_
  refine c_region ?_
  refine ops_cons rfl (ow_move rfl ?_)
  refine ops_cons rfl (ow_add rfl rfl (w64 (by omega)) ?_)
  refine ops_cons rfl (ow_assign rfl ?_)
  refine ops_nil ?_
  refine tq_n ⟨k + 1, (.cons rfl (.cons rfl (.nil _))), ?_, ?_⟩
  · skip
    exact ⟨by omega, (by
      rw [hi, dx, prevO_succ hx]
      first | (rw [prevO_zero ‹_›]; simp [okFrom, *]; done) | (rw [prevO_pos (by omega) hy]; simp [okFrom, *]; omega)), hs, X⟩
  · first | omega | (dsimp only; omega)
  refine f_q rfl (fun wq sq => ow_not rfl ⟨rfl, Ext.refl _⟩) ?_
  refine f_q rfl (fun wq sq => ow_move rfl ⟨rfl, Ext.refl _⟩) ?_
  refine f_qs rfl rfl rfl rfl ?_
  refine f_qs rfl rfl rfl rfl ?_
  refine f_qs rfl rfl rfl rfl ?_
  refine f_qs rfl rfl rfl rfl ?_
  refine f_qs rfl rfl rfl rfl ?_
  refine f_qs rfl rfl rfl rfl ?_
  refine f_qs rfl rfl rfl rfl ?_
  refine f_qs rfl rfl rfl rfl ?_
  refine f_qs rfl rfl rfl rfl ?_
  refine f_qs rfl rfl rfl rfl ?_
  refine f_qs rfl rfl rfl rfl ?_
  refine f_qs rfl rfl rfl rfl ?_
  refine f_qs rfl rfl rfl rfl ?_
  refine f_qs rfl rfl rfl rfl ?_
  refine f_qs rfl rfl rfl rfl ?_
  refine f_q rfl (fun wq sq => ow_pick rfl rfl ⟨rfl, Ext.refl _⟩) ?_
  refine f_nil (fun w9 sq => ?_)
  have xq := sq
  replace hs := hs.ext xq
  replace X := Ext.trans X xq; clear xq sq
  refine ops_nil ?_
  refine c_true rfl ?_
  refine c_seqR ?_
  refine ops_cons rfl (ow_assign rfl ?_)
  refine ops_nil ?_
  refine c_ret ?_
  refine bq_r ?_
  refine tq_r ?_
  refine tq_r ?_
  refine bq_r ?_
  refine tq_r ?_
  refine fin_ret1 rfl rfl ?_
  · skip
    refine ⟨congrArg Value.bool ?_, X⟩
    first
    | (rw [isST, decide_eq_false (by omega)]; simp; done)
    | (rw [isST, hi, drop_end hk]; simp [okFrom]; omega)
    | (rw [isST, hi, dx]; cases prevO xs k <;> simp [okFrom, *]; done)
    | (rw [isST, hi, dx, prevO_pos (by omega) hy]; simp [okFrom, *]; omega)
  refine ops_nil ?_
  refine c_false rfl ?_
  refine c_exit ?_
  refine tq_e ?_
  refine tq_e ?_
  refine bq_e ?_
  refine tq_n ?_
  refine c_seqR ?_
  refine ops_cons rfl (ow_assign rfl ?_)
  refine ops_nil ?_
  refine c_ret ?_
  refine fin_ret1 rfl rfl ?_
  · skip
    refine ⟨congrArg Value.bool ?_, X⟩
    first
    | (rw [isST, decide_eq_false (by omega)]; simp; done)
    | (rw [isST, hi, drop_end hk]; simp [okFrom]; omega)
    | (rw [isST, hi, dx]; cases prevO xs k <;> simp [okFrom, *]; done)
    | (rw [isST, hi, dx, prevO_pos (by omega) hy]; simp [okFrom, *]; omega)

theorem iIsST_c (A : Option Addr) (B c : Nat) (xs : List SlotI) (w : World) (hs : Sl B w A (xs.flatMap SlotI.cells)) (hl : xs.length ≤ 1048576) :
    Calls Tryz.prog 165 #[.slice A xs.length c] w (Ret fun v w' => v = .bool (isST xs) ∧ Ext w w') := by
  have Bhs := hs.1
  have X := Ext.refl w
  refine calls_of (args := [.slice A xs.length c]) Tryz.func165 Tryz.ntmps165 rfl rfl ?_
  refine c_seqR ?_
  refine ops_cons rfl (ow_assign rfl ?_)
  refine ops_nil ?_
  refine c_seq ?_
  refine c_seqR ?_
  refine ops_cons rfl (ow_move rfl ?_)
  refine ops_cons rfl (ow_len Tryz.underlying26 rfl ?_)
  refine ops_cons rfl (ow_move rfl ?_)
  refine ops_nil ?_
  refine c_block ?_
  refine c_loop (G := Nat) (fun k => [(0, .slice A xs.length c), (5, .slice A xs.length c), (6, .int .i64 (xs.length : Nat)), (7, .int .i64 (k : Nat))]) (fun k wr => k ≤ xs.length ∧ okFrom none xs = okFrom (prevO xs k) (xs.drop k) ∧ Sl B wr A (xs.flatMap SlotI.cells) ∧ Ext w wr) (fun k => xs.length - k) 0 (.cons rfl (.cons rfl (.cons rfl (.cons rfl (.nil _))))) ?_ ?_
  · exact ⟨by omega, rfl, hs, X⟩
  clear hs
  clear X
  rintro k wr ⟨hk0, hi, hs, X⟩
  refine c_seqR ?_
  refine ops_cons rfl (ow_lss2 rfl rfl (fun hk => ?_) (fun hk => ?_))
  obtain ⟨x, hx, dx⟩ := drop_at' hk
  refine ops_nil ?_
  refine c_seq ?_
  refine c_true rfl ?_
  refine c_skip ?_
  refine tq_n ?_
  refine c_seq ?_
  refine c_block ?_
  refine c_seqR ?_
  refine ops_cons rfl (ow_move rfl ?_)
  refine ops_cons rfl (ow_indexT hs SlotI.len rfl el26 rfl rfl rfl hx rfl ?_)
  refine ops_cons rfl (ow_loadTA hs SlotI.len hx ti89 rfl ?_)
  refine ops_cons rfl (ow_alloc ti89 ?_)
  intro g4 w3 eg4 b1 x2 zg4
  have lg4 : w.heap.size ≤ g4 := Nat.le_trans X.size (Nat.le_of_eq eg4.symm)
  have pg4hs := Nat.le_trans hs.1 (Nat.le_of_eq eg4.symm)
  replace hs := hs.ext x2
  replace X := Ext.trans X x2; clear x2
  refine ops_cons rfl (ow_assign rfl ?_)
  refine ops_cons rfl (ow_storeB b1 ti89 rfl rfl rfl rfl rfl rfl ?_)
  intro w6 b8 hg5 z7
  replace hs := hs.grown hg5 (by intro g hg; injection hg; omega)
  replace X := X.grown hg5 X.size (by intro g hg; injection hg; omega)
  clear hg5 b1
  refine ops_nil ?_
  refine c_seqD [false, false, false, false, false, false, false, false, false, false, false, false, false, false, false, false, false] mixed (by kernel_rfl) ?_
  refine f_q rfl (fun wq sq => ow_loadAB (b8.ext sq) ti89 rfl rfl ⟨rfl, Ext.refl _⟩) ?_
  refine f_qB rfl (fun wq sq => ow_call ent238 rfl (isSlotInfo_c _ _)) (fun h9 => ?_) (fun h9 => ?_)
  refine f_q rfl (fun wq sq => ow_not rfl ⟨rfl, Ext.refl _⟩) ?_
  refine f_q rfl (fun wq sq => ow_move rfl ⟨rfl, Ext.refl _⟩) ?_
  refine f_qw rfl rfl rfl (fun wq sq => ow_move rfl ⟨rfl, Ext.refl _⟩) ?_
  refine f_qwb rfl rfl rfl (fun wq sq => ow_gtr rfl rfl ⟨rfl, Ext.refl _⟩) (fun hp => ?_) (fun hp => ?_)
  obtain ⟨y, hy⟩ : ∃ y, xs[k - 1]? = some y := ⟨_, List.getElem?_eq_getElem (by omega)⟩
  refine f_qw rfl rfl rfl (fun wq sq => ow_move rfl ⟨rfl, Ext.refl _⟩) ?_
  refine f_qw rfl rfl rfl (fun wq sq => ow_move rfl ⟨rfl, Ext.refl _⟩) ?_
  refine f_qw rfl rfl rfl (fun wq sq => ow_move rfl ⟨rfl, Ext.refl _⟩) ?_
  refine f_qw rfl rfl rfl (fun wq sq => ow_sub rfl rfl (w64 (by omega)) ⟨rfl, Ext.refl _⟩) ?_
  refine f_qw rfl rfl rfl (fun wq sq => ow_indexT (hs.ext sq) SlotI.len rfl el26 rfl rfl rfl hy (by omega) ⟨rfl, Ext.refl _⟩) ?_
  refine f_qw rfl rfl rfl (fun wq sq => ow_loadTA (hs.ext sq) SlotI.len hy ti89 rfl ⟨rfl, Ext.refl _⟩) ?_
  refine f_qw rfl rfl rfl (fun wq sq => ow_loadAB (b8.ext sq) ti89 rfl rfl ⟨rfl, Ext.refl _⟩) ?_
  refine f_qw rfl rfl rfl (fun wq sq => ow_call ent239 rfl (iCompareSlots_c _ _ _)) ?_
  refine f_qwb rfl rfl rfl (fun wq sq => ow_geq rfl rfl ⟨rfl, Ext.refl _⟩) (fun h12 => ?_) (fun h12 => ?_)
  refine f_qw rfl rfl rfl (fun wq sq => ow_pick rfl rfl ⟨rfl, Ext.refl _⟩) ?_
  refine f_q rfl (fun wq sq => ow_pick rfl rfl ⟨rfl, Ext.refl _⟩) ?_
  refine f_nil (fun w13 sq => ?_)
  have xq := sq
  replace hs := hs.ext xq
  replace b8 := b8.ext xq
  replace X := Ext.trans X xq; clear xq sq
  refine ops_nil ?_
  refine c_true rfl ?_
  refine c_seqR ?_
  refine ops_cons rfl (ow_assign rfl ?_)
  refine ops_nil ?_
  refine c_ret ?_
  refine bq_r ?_
  refine tq_r ?_
  refine tq_r ?_
  refine bq_r ?_
  refine tq_r ?_
  refine fin_ret1 rfl rfl ?_
  · skip
    refine ⟨congrArg Value.bool ?_, X⟩
    first
    | (rw [isST, decide_eq_false (by omega)]; simp; done)
    | (rw [isST, hi, drop_end hk]; simp [okFrom]; omega)
    | (rw [isST, hi, dx]; cases prevO xs k <;> simp [okFrom, *]; done)
    | (rw [isST, hi, dx, prevO_pos (by omega) hy]; simp [okFrom, *]; omega)
  refine f_qw rfl rfl rfl (fun wq sq => ow_pick rfl rfl ⟨rfl, Ext.refl _⟩) ?_
  refine f_q rfl (fun wq sq => ow_pick rfl rfl ⟨rfl, Ext.refl _⟩) ?_
  refine f_nil (fun w14 sq => ?_)
  have xq := sq
  replace hs := hs.ext xq
  replace b8 := b8.ext xq
  replace X := Ext.trans X xq; clear xq sq
  refine ops_nil ?_
  refine c_false rfl ?_
  refine c_skip ?_
  refine bq_n ?_
  refine tq_n ?_
  refine c_region ?_
  refine ops_cons rfl (ow_add rfl rfl (w64 (by omega)) ?_)
  refine ops_cons rfl (ow_move rfl ?_)
  refine ops_nil ?_
  refine tq_n ⟨k + 1, (.cons rfl (.cons rfl (.cons rfl (.cons rfl (.nil _))))), ?_, ?_⟩
  · skip
    exact ⟨by omega, (by
      rw [hi, dx, prevO_succ hx]
      first | (rw [prevO_zero ‹_›]; simp [okFrom, *]; done) | (rw [prevO_pos (by omega) hy]; simp [okFrom, *]; omega)), hs, X⟩
  · first | omega | (dsimp only; omega)
  refine f_qw rfl rfl rfl (fun wq sq => ow_move rfl ⟨rfl, Ext.refl _⟩) ?_
  refine f_qs rfl rfl rfl rfl ?_
  refine f_qs rfl rfl rfl rfl ?_
  refine f_qs rfl rfl rfl rfl ?_
  refine f_qs rfl rfl rfl rfl ?_
  refine f_qs rfl rfl rfl rfl ?_
  refine f_qs rfl rfl rfl rfl ?_
  refine f_qs rfl rfl rfl rfl ?_
  refine f_qs rfl rfl rfl rfl ?_
  refine f_qw rfl rfl rfl (fun wq sq => ow_pick rfl rfl ⟨rfl, Ext.refl _⟩) ?_
  refine f_q rfl (fun wq sq => ow_pick rfl rfl ⟨rfl, Ext.refl _⟩) ?_
  refine f_nil (fun w15 sq => ?_)
  have xq := sq
  replace hs := hs.ext xq
  replace b8 := b8.ext xq
  replace X := Ext.trans X xq; clear xq sq
  refine ops_nil ?_
  refine c_false rfl ?_
  refine c_skip ?_
  refine bq_n ?_
  refine tq_n ?_
  refine c_region ?_
  refine ops_cons rfl (ow_add rfl rfl (w64 (by omega)) ?_)
  refine ops_cons rfl (ow_move rfl ?_)
  refine ops_nil ?_
  refine tq_n ⟨k + 1, (.cons rfl (.cons rfl (.cons rfl (.cons rfl (.nil _))))), ?_, ?_⟩
  · skip
    exact ⟨by omega, (by
      rw [hi, dx, prevO_succ hx]
      first | (rw [prevO_zero ‹_›]; simp [okFrom, *]; done) | (rw [prevO_pos (by omega) hy]; simp [okFrom, *]; omega)), hs, X⟩
  · first | omega | (dsimp only; omega)
  refine f_q rfl (fun wq sq => ow_not rfl ⟨rfl, Ext.refl _⟩) ?_
  refine f_q rfl (fun wq sq => ow_move rfl ⟨rfl, Ext.refl _⟩) ?_
  refine f_qs rfl rfl rfl rfl ?_
  refine f_qs rfl rfl rfl rfl ?_
  refine f_qs rfl rfl rfl rfl ?_
  refine f_qs rfl rfl rfl rfl ?_
  refine f_qs rfl rfl rfl rfl ?_
  refine f_qs rfl rfl rfl rfl ?_
  refine f_qs rfl rfl rfl rfl ?_
  refine f_qs rfl rfl rfl rfl ?_
  refine f_qs rfl rfl rfl rfl ?_
  refine f_qs rfl rfl rfl rfl ?_
  refine f_qs rfl rfl rfl rfl ?_
  refine f_qs rfl rfl rfl rfl ?_
  refine f_q rfl (fun wq sq => ow_pick rfl rfl ⟨rfl, Ext.refl _⟩) ?_
  refine f_nil (fun w16 sq => ?_)
  have xq := sq
  replace hs := hs.ext xq
  replace b8 := b8.ext xq
  replace X := Ext.trans X xq; clear xq sq
  refine ops_nil ?_
  refine c_true rfl ?_
  refine c_seqR ?_
  refine ops_cons rfl (ow_assign rfl ?_)
  refine ops_nil ?_
  refine c_ret ?_
  refine bq_r ?_
  refine tq_r ?_
  refine tq_r ?_
  refine bq_r ?_
  refine tq_r ?_
  refine fin_ret1 rfl rfl ?_
  · skip
    refine ⟨congrArg Value.bool ?_, X⟩
    first
    | (rw [isST, decide_eq_false (by omega)]; simp; done)
    | (rw [isST, hi, drop_end hk]; simp [okFrom]; omega)
    | (rw [isST, hi, dx]; cases prevO xs k <;> simp [okFrom, *]; done)
    | (rw [isST, hi, dx, prevO_pos (by omega) hy]; simp [okFrom, *]; omega)
  refine ops_nil ?_
  refine c_seq ?_
  refine c_false rfl ?_
  refine c_exit ?_
  refine tq_e ?_
  refine tq_e ?_
  refine bq_e ?_
  refine tq_n ?_
  refine c_seqR ?_
  refine ops_cons rfl (ow_move rfl ?_)
  refine ops_cons rfl (ow_len Tryz.underlying26 rfl ?_)
  refine ops_cons rfl (ow_leq rfl rfl ?_)
  refine ops_cons rfl (ow_assign rfl ?_)
  refine ops_nil ?_
  refine c_ret ?_
  refine fin_ret1 rfl rfl ?_
  · skip
    refine ⟨congrArg Value.bool ?_, X⟩
    first
    | (rw [isST, decide_eq_false (by omega)]; simp; done)
    | (rw [isST, hi, drop_end hk]; simp [okFrom]; omega)
    | (rw [isST, hi, dx]; cases prevO xs k <;> simp [okFrom, *]; done)
    | (rw [isST, hi, dx, prevO_pos (by omega) hy]; simp [okFrom, *]; omega)
end Go.Proofs.YtdoibplhbdkapaaGreatDoor
namespace Go.Proofs.YtdoibplhbdkapaaGreatDoor
open Go.RowKit
set_option linter.unusedVariables false
set_option linter.unusedSimpArgs false

def WI (P : Program) (ops : Array Oper) (I : World → Prop) (K : Act → World → Prop) : Nat → Array Bool → Act → World → Prop
  | 0, listed, a, w => listed = finOf ops ops.size ∧ I w ∧ K a w
  | fuel + 1, listed, a, w => I w ∧ rdy ops ops.size listed ≠ [] ∧ ∀ i ∈ rdy ops ops.size listed, ∀ o, ops[i]? = some o →
      OpX P ops o a w fun u w' => WI P ops I K fuel (listed.setIfInBounds i true) (a.put o.dst u) w'

section
variable {P : Program} {ops : Array Oper} {I : World → Prop} {K : Act → World → Prop}
theorem WI.inv : ∀ {fuel : Nat} {listed : Array Bool} {a : Act} {w : World}, WI P ops I K fuel listed a w → I w
  | 0, _, _, _, h => h.2.1
  | _ + 1, _, _, _, h => h.1

theorem WI_first {i : Nat} {oi : Oper} {v : Value} (hi : ops[i]? = some oi) (hsel : ∀ (j : Nat) (o : Oper) cs b, ops[j]? = some o → o.op ≠ .select cs b) :
    ∀ (fuel : Nat) (listed : Array Bool) (a : Act) (w : World),
      (∀ j oj, ops[j]? = some oj → j ≠ i → listed.getD j true = false → (∀ e ∈ oj.after, Region.binds .any e = true → e.on ≠ i) → oi.apart ops oj = true) →
      i ∈ rdy ops ops.size listed → (∀ w, I w → OpX P ops oi a w fun u w' => u = v ∧ w' = w) →
      WI P ops I K fuel (listed.setIfInBounds i true) (a.put oi.dst v) w → WI P ops I K (fuel + 1) listed a w := by
  have here : ∀ (fuel : Nat) (listed : Array Bool) (a : Act) (w : World), (∀ w, I w → OpX P ops oi a w fun u w' => u = v ∧ w' = w) →
      WI P ops I K fuel (listed.setIfInBounds i true) (a.put oi.dst v) w →
      OpX P ops oi a w fun u w' => WI P ops I K fuel (listed.setIfInBounds i true) (a.put oi.dst u) w' := by
    intro fuel listed a w hy H
    refine OpX.mono (hy w H.inv) fun u w' ⟨h1, h2⟩ => ?_
    subst h1; subst h2; exact H
  intro fuel
  induction fuel with
  | zero =>
    intro listed a w _ hr hy H
    refine ⟨H.inv, fun h => (by rw [h] at hr; cases hr), fun j hj o ho => ?_⟩
    by_cases hji : j = i
    · subst hji
      obtain rfl : o = oi := by rw [hi] at ho; injection ho with ho; exact ho.symm
      exact here 0 listed a w hy H
    · exfalso
      obtain ⟨hj1, hj2⟩ := mem_rdy.1 hj
      have h1 := (mem_ready.1 (ready_mono hj1 hji)).1
      rw [H.1, finOf_spec j hj2] at h1
      cases h1
  | succ fuel ih =>
    intro listed a w hfree hr hy H
    refine ⟨H.inv, fun h => (by rw [h] at hr; cases hr), fun j hj oj hoj => ?_⟩
    by_cases hji : j = i
    · subst hji
      obtain rfl : oj = oi := by rw [hi] at hoj; injection hoj with ho; exact ho.symm
      exact here _ listed a w hy H
    · obtain ⟨hj1, hj2⟩ := mem_rdy.1 hj
      obtain ⟨hi1, hi2⟩ := mem_rdy.1 hr
      have hex := H.2.2 j (mem_rdy.2 ⟨ready_mono hj1 hji, hj2⟩) oj hoj
      obtain ⟨hjun, oj', hoj', hall⟩ := mem_ready.1 hj1
      obtain rfl : oj' = oj := by rw [hoj] at hoj'; injection hoj' with ho; exact ho.symm
      have hnot : ∀ e ∈ oj'.after, Region.binds .any e = true → e.on ≠ i := fun e he hb heq => by
        have h1 := hall e he hb
        have h0 := (mem_ready.1 hi1).1
        rw [heq] at h1
        rcases Nat.lt_or_ge i listed.size with h' | h'
        · simp [h'] at h0 h1; rw [h0] at h1; cases h1
        · simp [Array.getElem?_eq_none h'] at h1
      have hap := hfree j oj' hoj hji hjun hnot
      obtain ⟨ha1, ha2, ha3⟩ := Oper.apart_spec hap
      refine OpX.mono ((OpX.put (fun cs b => hsel j oj' cs b hoj) ha1).1 hex) fun u w' hu => ?_
      refine ih _ _ _ ?_ (mem_rdy.2 ⟨ready_mono hi1 (Ne.symm hji), hi2⟩) (fun w hw => (OpX.put (fun cs b => hsel i oi cs b hi) ha3).2 (hy w hw)) ?_
      · intro k ok hk hki hun hno
        refine hfree k ok hk hki ?_ hno
        by_cases hjk : j = k
        · subst hjk; exact hjun
        · rw [getD_set_ne true hjk] at hun; exact hun
      · rw [Array.setIfInBounds_comm _ _ hji, ← Act.put_comm a v u ha2]
        exact hu

theorem WI_any {Q : Exit → Act → World → Prop} (hK : ∀ a w, K a w → wpAny P .any ops Q 0 (finOf ops ops.size) a w) :
    ∀ (fuel : Nat) (listed : Array Bool) (a : Act) (w : World), WI P ops I K fuel listed a w → wpAny P .any ops Q fuel listed a w := by
  intro fuel
  induction fuel with
  | zero => intro listed a w h; obtain ⟨rfl, _, h2⟩ := h; exact hK _ _ h2
  | succ fuel ih =>
    intro listed a w h
    obtain ⟨_, hne, hall⟩ := h
    obtain ⟨k, hk⟩ := List.exists_mem_of_ne_nil _ hne
    refine ⟨fun h0 => (by have := (mem_rdy.1 hk).1; rw [h0] at this; cases this), fun i hi => ?_⟩
    obtain ⟨hiun, oi, hoi, hedge⟩ := mem_ready.1 hi
    have him : i < ops.size := (Array.getElem?_eq_some_iff.1 hoi).1
    exact OpX.wpOp hoi (hall i (mem_rdy.2 ⟨hi, him⟩) oi hoi) fun v w' hv => ih _ _ _ hv
end

theorem ready_fin (ops : Array Oper) : Region.ready .any ops (finOf ops ops.size) = [] := by
  apply List.eq_nil_iff_forall_not_mem.2
  intro i hi
  obtain ⟨h1, o, ho, _⟩ := mem_ready.1 hi
  have hlt : i < ops.size := (Array.getElem?_eq_some_iff.1 ho).1
  rw [finOf_spec i hlt] at h1
  cases h1
def WE (P : Program) (n : Nat) (ops : Array Oper) (I : World → Prop) (K : Act → World → Prop) (fuel : Nat) (listed : Array Bool) (e : List (Nat × Value)) (w : World) : Prop :=
  ∀ a, Fits n e a → WI P ops I K fuel listed a w

section
variable {P : Program} {n : Nat} {ops : Array Oper} {I : World → Prop} {K : Act → World → Prop} {fuel : Nat} {listed listed' : Array Bool} {e : List (Nat × Value)} {w : World}
/-- a quiet one is taken first -/
theorem wi_take (i : Nat) {dst : Option Tmp} {op : Op} {ty : TypeId} {pos : String} {af : Array Edge} {v : Value} (hi : ops[i]? = some ⟨dst, op, ty, pos, af, none⟩) (hs : Region.noSelect ops = true) (hd : dstOk n dst = true)
    (ht : takeB ops ops.size listed i = true) (hl : listed.setIfInBounds i true = listed') (hy : ∀ w, I w → OpWp P e op ty w fun u w' => u = v ∧ w' = w)
    (h : WE P n ops I K fuel listed' (updO e dst v) w) : WE P n ops I K (fuel + 1) listed e w := fun a ha => by
  simp only [takeB, Bool.and_eq_true] at ht
  refine WI_first hi (Region.noSelect_spec hs) fuel listed a w (Region.free_spec hi ht.1) (by simpa using ht.2) (fun w hw => (hy w hw).opX ha) ?_
  rw [hl]
  exact h _ (ha.put dst v hd)
/-- number i alone may come up -/
theorem wi_one (i : Nat) {dst : Option Tmp} {op : Op} {ty : TypeId} {pos : String} {af : Array Edge} (hi : ops[i]? = some ⟨dst, op, ty, pos, af, none⟩) (hd : dstOk n dst = true)
    (hr : rdy ops ops.size listed = [i]) (hl : listed.setIfInBounds i true = listed') (hI : I w) (hy : OpWp P e op ty w fun u w' => WE P n ops I K fuel listed' (updO e dst u) w') : WE P n ops I K (fuel + 1) listed e w := fun a ha => by
  refine ⟨hI, by rw [hr]; simp, fun j hj o ho => ?_⟩
  rw [hr] at hj
  obtain rfl : j = i := by simpa using hj
  obtain rfl : ⟨dst, op, ty, pos, af, none⟩ = o := by rw [hi] at ho; injection ho
  refine OpX.mono (OpWp.opX ha hy) fun u w' hu => ?_
  rw [hl]
  exact hu _ (ha.put dst u hd)
/-- numbers i and k alone may come up -/
theorem wi_two (i k : Nat) {listed'' : Array Bool} {dst : Option Tmp} {op : Op} {ty : TypeId} {pos : String} {af : Array Edge} {dst2 : Option Tmp} {op2 : Op} {ty2 : TypeId} {pos2 : String} {af2 : Array Edge} (hi : ops[i]? = some ⟨dst, op, ty, pos, af, none⟩) (hk : ops[k]? = some ⟨dst2, op2, ty2, pos2, af2, none⟩) (hd : dstOk n dst = true) (hd2 : dstOk n dst2 = true)
    (hr : rdy ops ops.size listed = [i, k]) (hl : listed.setIfInBounds i true = listed') (hl2 : listed.setIfInBounds k true = listed'') (hI : I w) (hy : OpWp P e op ty w fun u w' => WE P n ops I K fuel listed' (updO e dst u) w')
    (hy2 : OpWp P e op2 ty2 w fun u w' => WE P n ops I K fuel listed'' (updO e dst2 u) w') : WE P n ops I K (fuel + 1) listed e w := fun a ha => by
  refine ⟨hI, by rw [hr]; simp, fun j hj o ho => ?_⟩
  rw [hr] at hj
  simp only [List.mem_cons, List.not_mem_nil, or_false] at hj
  rcases hj with rfl | rfl
  · obtain rfl : ⟨dst, op, ty, pos, af, none⟩ = o := by rw [hi] at ho; injection ho
    refine OpX.mono (OpWp.opX ha hy) fun u w' hu => ?_
    rw [hl]
    exact hu _ (ha.put dst u hd)
  · obtain rfl : ⟨dst2, op2, ty2, pos2, af2, none⟩ = o := by rw [hk] at ho; injection ho
    refine OpX.mono (OpWp.opX ha hy2) fun u w' hu => ?_
    rw [hl2]
    exact hu _ (ha.put dst2 u hd2)
/-- all are done -/
theorem wi_done (hl : listed = finOf ops ops.size) (hI : I w) (h : ∀ a, Fits n e a → K a w) : WE P n ops I K 0 listed e w := fun a ha => ⟨hl, hI, h a ha⟩
end

theorem c_seqI {P : Program} {n : Nat} {id : Nat} {l : List Oper} {e : List (Nat × Value)} {w : World} {Q : Exit → List (Nat × Value) → World → Prop} {y : Code} (I : World → Prop)
    (hx : P.follows .mixedOrders = true)
    (h : WE P n l.toArray I (fun a w => ∃ e', Fits n e' a ∧ CWp P n y e' w Q) l.toArray.size (Array.replicate l.toArray.size false) e w.drew) : CWp P n (.seq (.region id l.toArray true) y) e w Q := c_seq fun a ha => by
  refine wp_region_any hx ?_
  exact WI_any (K := fun a w => ∃ e', Fits n e' a ∧ CWp P n y e' w Q) (Q := fun x a' w' => ∃ e', Fits n e' a' ∧ thenQ (fun e' w' => CWp P n y e' w' Q) Q x e' w') (fun a w ⟨e', hf, hk⟩ => ⟨ready_fin _, e', hf, hk⟩) _ _ _ _ (h a ha)
theorem gb_ext {w a b : World} {row : Option Nat} (h : w.grownBy a row) (k : Ext a b) : w.grownBy b row :=
  ⟨k.os.trans h.os, k.tape.trans h.tape, k.output.trans h.output, Nat.le_trans h.size k.size, fun i hi hr => (k.block i (Nat.lt_of_lt_of_le hi h.size)).trans (h.block i hi hr)⟩
theorem gb_new {w a b : World} {row row' : Option Nat} (h : w.grownBy a row) (k : a.grownBy b row') (hr : ∀ g, row' = some g → w.heap.size ≤ g) : w.grownBy b row :=
  ⟨k.os.trans h.os, k.tape.trans h.tape, k.output.trans h.output, Nat.le_trans h.size k.size, fun i hi hn => (k.block i (Nat.lt_of_lt_of_le hi h.size) (fun e => by have := hr i e.symm; omega)).trans (h.block i hi hn)⟩
end Go.Proofs.YtdoibplhbdkapaaGreatDoor
namespace Go.Proofs.YtdoibplhbdkapaaGreatDoor
open Go.RowKit
set_option linter.unusedVariables false

theorem Own.cap {w : World} {lo n c s : Nat} {t : TypeId} {A : Option Addr} {cs : List Value} (h : Own w lo t s A n c cs) : n ≤ c := by
  rcases Nat.eq_zero_or_pos n with e | e
  · omega
  · obtain ⟨_, _, _, _, _, hn, _⟩ := h.form e; exact hn
theorem flat_drop {α : Type} {enc : α → List Value} {s : Nat} (he : ∀ x, (enc x).length = s) : ∀ (xs : List α) (k : Nat), (xs.flatMap enc).drop (k * s) = (xs.drop k).flatMap enc
  | xs, 0 => by simp
  | [], k + 1 => by simp
  | x :: r, k + 1 => by
    rw [List.flatMap_cons, Nat.add_mul, Nat.one_mul, Nat.add_comm, List.drop_append, List.drop_of_length_le (by rw [he]; omega), he, List.nil_append, show s + k * s - s = k * s by omega, flat_drop he r k]; rfl
theorem flat_take {α : Type} {enc : α → List Value} {s : Nat} (he : ∀ x, (enc x).length = s) : ∀ (xs : List α) (k : Nat), (xs.flatMap enc).take (k * s) = (xs.take k).flatMap enc
  | xs, 0 => by simp
  | [], k + 1 => by simp
  | x :: r, k + 1 => by
    rw [List.flatMap_cons, Nat.add_mul, Nat.one_mul, Nat.add_comm, List.take_append, List.take_of_length_le (by rw [he]; omega), he, show s + k * s - s = k * s by omega, flat_take he r k]; rfl
theorem map_add0 (A : Option Addr) : A.map (·.add 0) = A := by cases A <;> rfl
/-- a part of a row that is read -/
theorem Sl.part {α : Type} {enc : α → List Value} {s : Nat} {w : World} {B : Nat} {A : Option Addr} {xs : List α} (h : Sl B w A (xs.flatMap enc)) (he : ∀ x, (enc x).length = s) (l m c : Nat) (hm : c = l → m = 0) :
    Sl B w (if c = l then A else A.map (·.add (l * s))) (((xs.drop l).take m).flatMap enc) := by
  by_cases hc : c = l
  · rw [hm hc]; simp only [List.take_zero, List.flatMap_nil]; exact Sl.nil_ h.1 _
  · rw [if_neg hc]
    have h1 := h.cut (l * s) (m * s)
    rw [flat_drop he, flat_take he] at h1
    by_cases h0 : l * s = 0
    · rw [if_pos h0] at h1; rw [h0, map_add0]; exact h1
    · rw [if_neg h0] at h1; exact h1
section
variable {P : Program} {e : List (Nat × Value)} {w : World} {K : Value → World → Prop} {ty t el : TypeId} {x lo hi : Operand} {s : Nat} {α : Type} {enc : α → List Value} {B n c l h : Nat} {A : Option Addr} {xs : List α} {k1 k2 : IntKind} {m1 m2 : Int}
theorem elem_of (ht : elO P t = some (el, s)) : P.underlying t = some (.slice (P.elem t)) ∧ ∀ w, (sizeOf (P.elem t)).run P w = .ok s w := by
  obtain ⟨ti, hu, hti, hts⟩ := elO_spec ht
  have he : P.elem t = el := by simp [Program.elem, hu]
  rw [he]
  exact ⟨hu, fun w => by simp only [run_sizeOf' hti, hts]⟩
theorem ow_sliceLH (ht : elO P t = some (el, s)) (hs : Sl B w A (xs.flatMap enc)) (he : ∀ x, (enc x).length = s) (hx : evO e x = some (.slice A n c)) (h1 : evO e lo = some (.int k1 m1)) (h2 : evO e hi = some (.int k2 m2)) (e1 : m1 = (l : Int)) (e2 : m2 = (h : Int))
    (hlh : l ≤ h) (hc : h ≤ c) (hK : ∀ A', Sl B w A' (((xs.drop l).take (h - l)).flatMap enc) → K (.slice A' (h - l) (c - l)) w) : OpWp P e (.slice t x (some lo) (some hi) none) ty w K := fun ρ d p a g hρ => by
  have g0 := hρ _ _ hx; have g1 := hρ _ _ h1; have g2 := hρ _ _ h2
  obtain ⟨hu, hsz⟩ := elem_of ht
  subst e1; subst e2
  have hr := run_slice_lh (P := P) (w := w) t A n c hu k1 k2 (l : Int) (h : Int) (by omega) (by omega) (by omega)
  simp only [execOp, g0, Option.map_some, Option.map_none, g1, g2, Sem.run_bind, run_sliceAt_slice w t _ _ _ _ hu, hr, hsz, Result.andThen_ok, Sem.run_pure, upto, sliced, Int.toNat_natCast]
  exact hK _ (hs.part he l (h - l) c (fun e => by omega))
theorem ow_sliceL (ht : elO P t = some (el, s)) (hs : Sl B w A (xs.flatMap enc)) (he : ∀ x, (enc x).length = s) (hx : evO e x = some (.slice A n c)) (h1 : evO e lo = some (.int k1 m1)) (e1 : m1 = (l : Int)) (hn : n = xs.length)
    (hlh : l ≤ n) (hc : n ≤ c) (hK : ∀ A', Sl B w A' ((xs.drop l).flatMap enc) → K (.slice A' (n - l) (c - l)) w) : OpWp P e (.slice t x (some lo) none none) ty w K := fun ρ d p a g hρ => by
  have g0 := hρ _ _ hx; have g1 := hρ _ _ h1
  obtain ⟨hu, hsz⟩ := elem_of ht
  subst e1
  have hr := run_slice_l (P := P) (w := w) t A n c hu k1 (l : Int) (by omega) (by omega)
  simp only [execOp, g0, Option.map_some, Option.map_none, g1, Sem.run_bind, run_sliceAt_slice w t _ _ _ _ hu, hr, hsz, Result.andThen_ok, Sem.run_pure, upto, sliced, Int.toNat_natCast]
  have h3 := hs.part he l (n - l) c (fun e => by omega)
  rw [List.take_of_length_le (by simp; omega)] at h3
  exact hK _ h3
theorem ow_sliceH (ht : elO P t = some (el, s)) (hs : Sl B w A (xs.flatMap enc)) (he : ∀ x, (enc x).length = s) (hx : evO e x = some (.slice A n c)) (h2 : evO e hi = some (.int k2 m2)) (e2 : m2 = (h : Int))
    (hc : h ≤ c) (hK : ∀ A', Sl B w A' ((xs.take h).flatMap enc) → K (.slice A' h c) w) : OpWp P e (.slice t x none (some hi) none) ty w K := fun ρ d p a g hρ => by
  have g0 := hρ _ _ hx; have g2 := hρ _ _ h2
  obtain ⟨hu, hsz⟩ := elem_of ht
  subst e2
  have hr := run_slice_h (P := P) (w := w) t A n c hu k2 (h : Int) (by omega) (by omega)
  simp only [execOp, g0, Option.map_some, Option.map_none, g2, Sem.run_bind, run_sliceAt_slice w t _ _ _ _ hu, hr, hsz, Result.andThen_ok, Sem.run_pure, upto, sliced, Int.toNat_natCast]
  have h3 := hs.part he 0 h c (fun e => by omega)
  rw [List.drop_zero] at h3
  exact hK _ h3
end
end Go.Proofs.YtdoibplhbdkapaaGreatDoor
