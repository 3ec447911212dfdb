/- Texts of the seat that a law needs, put together. No condition. -/
import Derived.Test.YtdoibplhbdkapaaGreatDoorCEP18
import Derived.Test.YtdoibplhbdkapaaGreatDoorCEP5
namespace Go.Proofs.YtdoibplhbdkapaaGreatDoor
open Go.RowKit
set_option linter.unusedVariables false
set_option linter.unusedSimpArgs false
set_option maxRecDepth 20000
theorem l11Mode_c (A : Option Addr) (c : Nat) (xs : List ModeI) (mode : Int) (w : World) (hl : xs.length ≤ 1048576) :
    Calls Tryz.prog 200 #[.slice A xs.length c, .int .i64 mode] w (Ret fun v w' => v = .bool (inB mode 0 ((xs.length : Int) - 1)) ∧ Ext w w') := by
  have X := Ext.refl w
  refine calls_of (args := [.slice A xs.length c, .int .i64 mode]) Tryz.func200 Tryz.ntmps200 rfl rfl ?_
  refine c_seqR ?_
  refine ops_cons rfl (ow_assign rfl ?_)
  refine ops_nil ?_
  refine c_seqR ?_
  refine ops_cons rfl (ow_move rfl ?_)
  refine ops_cons rfl (ow_move rfl ?_)
  refine ops_cons rfl (ow_len Tryz.underlying25 rfl ?_)
  refine ops_cons rfl (ow_sub rfl rfl (w64 (by omega)) ?_)
  refine ops_cons rfl (ow_call ent111 rfl (ret_mono (l01In_c _ _ _ _) ?_))
  rintro _ w2 ⟨rfl, x1⟩
  replace X := Ext.trans X x1; clear x1
  refine ops_cons rfl (ow_assign rfl ?_)
  refine ops_nil ?_
  refine c_ret ?_
  refine fin_ret1 rfl rfl ?_
  exact ⟨by rfl, X⟩

theorem modeCode_c (m : MedlI) (B : Nat) (mode : Int) (w : World) (hm : Med B w m) (hz : m.small) :
    Calls Tryz.prog 119 #[.agg m.cells.toArray, .int .i64 mode] w (Ret fun v w' => v = .int .i64 (modeC m.d mode) ∧ Ext w w') := by
  have hls := hz.ls
  have hlm := hz.lm
  have hln := hz.ln
  have Bhm := hm.1
  have X := Ext.refl w
  refine calls_of (args := [.agg m.cells.toArray, .int .i64 mode]) Tryz.func119 Tryz.ntmps119 rfl rfl ?_
  refine c_seqR ?_
  refine ops_cons rfl (ow_box rfl rfl ?_)
  intro g4 w3 eg4 b1 x2 zg4
  have lg4 : w.heap.size ≤ g4 := Nat.le_trans X.size (Nat.le_of_eq eg4.symm)
  have pg4hm := Nat.le_trans hm.1 (Nat.le_of_eq eg4.symm)
  replace hm := hm.ext x2
  replace X := Ext.trans X x2; clear x2
  refine ops_cons rfl (ow_assign rfl ?_)
  refine ops_nil ?_
  refine c_seq ?_
  refine c_seqR ?_
  refine ops_cons rfl (ow_loadAB b1 ti28 rfl rfl ?_)
  refine ops_cons rfl (ow_callB ent33 rfl (iIsMedl_c m _ _ hm hz) (fun w6 hI x5 => ?_) (fun w6 hI x5 => ?_))
  replace hm := hm.ext x5
  replace b1 := b1.ext x5
  replace X := Ext.trans X x5; clear x5
  refine ops_cons rfl (ow_not rfl ?_)
  refine ops_nil ?_
  refine c_false rfl ?_
  refine c_skip ?_
  refine tq_n ?_
  refine c_seq ?_
  refine c_seqR ?_
  refine ops_cons rfl (ow_move rfl ?_)
  refine ops_cons rfl (ow_fieldAddrB off28_2 rfl rfl ?_)
  refine ops_cons rfl (ow_loadB b1 ti25 rfl rfl ?_)
  refine ops_cons rfl (ow_len Tryz.underlying25 rfl ?_)
  refine ops_cons rfl (ow_sub rfl rfl (w64 (by omega)) ?_)
  refine ops_cons rfl (ow_callB ent109 rfl (within_c _ _ _ _ ) (fun w9 hM x7 => ?_) (fun w9 hM x7 => ?_))
  replace hm := hm.ext x7
  replace b1 := b1.ext x7
  replace X := Ext.trans X x7; clear x7
  refine ops_cons rfl (ow_not rfl ?_)
  refine ops_nil ?_
  refine c_false rfl ?_
  refine c_skip ?_
  refine tq_n ?_
  refine c_seqR ?_
  refine ops_cons rfl (ow_assign rfl ?_)
  refine ops_nil ?_
  refine c_ret ?_
  refine fin_ret1 rfl rfl ?_
  · skip
    refine ⟨congrArg (Value.int .i64) ?_, X⟩
    rw [modeC_m]
    simp [*]
  replace hm := hm.ext x7
  replace b1 := b1.ext x7
  replace X := Ext.trans X x7; clear x7
  refine ops_cons rfl (ow_not rfl ?_)
  refine ops_nil ?_
  refine c_true rfl ?_
  refine c_seqR ?_
  refine ops_cons rfl (ow_assign rfl ?_)
  refine ops_nil ?_
  refine c_ret ?_
  refine tq_r ?_
  refine fin_ret1 rfl rfl ?_
  · skip
    refine ⟨congrArg (Value.int .i64) ?_, X⟩
    rw [modeC_m]
    simp [*]
  replace hm := hm.ext x5
  replace b1 := b1.ext x5
  replace X := Ext.trans X x5; clear x5
  refine ops_cons rfl (ow_not rfl ?_)
  refine ops_nil ?_
  refine c_true rfl ?_
  refine c_seqR ?_
  refine ops_cons rfl (ow_assign rfl ?_)
  refine ops_nil ?_
  refine c_ret ?_
  refine tq_r ?_
  refine fin_ret1 rfl rfl ?_
  · skip
    refine ⟨congrArg (Value.int .i64) ?_, X⟩
    rw [modeC_m]
    simp [*]

theorem isVector_c (z : Int) (w : World)  :
    Calls Tryz.prog 115 #[.int .i64 z] w (Ret fun v w' => v = .bool (inB z 0 4294967295) ∧ Ext w w') := by
  have X := Ext.refl w
  refine calls_of (args := [.int .i64 z]) Tryz.func115 Tryz.ntmps115 rfl rfl ?_
  refine c_seqR ?_
  refine ops_cons rfl (ow_assign rfl ?_)
  refine ops_nil ?_
  refine c_seqR ?_
  refine ops_cons rfl (ow_move rfl ?_)
  refine ops_cons rfl (ow_call ent109 rfl (ret_mono (within_c _ _ _ _) ?_))
  rintro _ w2 ⟨rfl, x1⟩
  replace X := Ext.trans X x1; clear x1
  refine ops_cons rfl (ow_assign rfl ?_)
  refine ops_nil ?_
  refine c_ret ?_
  refine fin_ret1 rfl rfl ?_
  exact ⟨by rfl, X⟩

theorem sIsState_c (s : StateI) (w : World)  :
    Calls Tryz.prog 253 #[.agg s.cells.toArray] w (Ret fun v w' => v = .bool (stateOk s) ∧ Ext w w') := by
  have X := Ext.refl w
  refine calls_of (args := [.agg s.cells.toArray]) Tryz.func253 Tryz.ntmps253 rfl rfl ?_
  refine c_seqR ?_
  refine ops_cons rfl (ow_box rfl rfl ?_)
  intro g4 w3 eg4 b1 x2 zg4
  have lg4 : w.heap.size ≤ g4 := Nat.le_trans X.size (Nat.le_of_eq eg4.symm)
  replace X := Ext.trans X x2; clear x2
  refine ops_cons rfl (ow_assign rfl ?_)
  refine ops_nil ?_
  refine c_seqR ?_
  refine ops_cons rfl (ow_fieldAddrB off62_0 rfl rfl ?_)
  refine ops_cons rfl (ow_loadB b1 ti2 rfl rfl ?_)
  refine ops_cons rfl (ow_callB ent111 rfl (l01In_c _ _ _ _) (fun w7 h5 x6 => ?_) (fun w7 h5 x6 => ?_))
  replace b1 := b1.ext x6
  replace X := Ext.trans X x6; clear x6
  refine ops_cons rfl (ow_move rfl ?_)
  refine ops_want rfl rfl rfl (ow_fieldAddrB off62_1 rfl rfl ?_)
  refine ops_want rfl rfl rfl (ow_loadB b1 ti2 rfl rfl ?_)
  refine ops_want rfl rfl rfl (ow_callB ent111 rfl (l01In_c _ _ _ _) (fun w10 h8 x9 => ?_) (fun w10 h8 x9 => ?_))
  replace b1 := b1.ext x9
  replace X := Ext.trans X x9; clear x9
  refine ops_cons rfl (ow_pick rfl rfl ?_)
  refine ops_cons rfl (ow_move rfl ?_)
  refine ops_want rfl rfl rfl (ow_fieldAddrB off62_2 rfl rfl ?_)
  refine ops_want rfl rfl rfl (ow_loadB b1 ti2 rfl rfl ?_)
  refine ops_want rfl rfl rfl (ow_callB ent111 rfl (l01In_c _ _ _ _) (fun w13 h11 x12 => ?_) (fun w13 h11 x12 => ?_))
  replace b1 := b1.ext x12
  replace X := Ext.trans X x12; clear x12
  refine ops_cons rfl (ow_pick rfl rfl ?_)
  refine ops_cons rfl (ow_move rfl ?_)
  refine ops_want rfl rfl rfl (ow_fieldAddrB off62_3 rfl rfl ?_)
  refine ops_want rfl rfl rfl (ow_loadB b1 ti2 rfl rfl ?_)
  refine ops_want rfl rfl rfl (ow_callB ent111 rfl (l01In_c _ _ _ _) (fun w16 h14 x15 => ?_) (fun w16 h14 x15 => ?_))
  replace b1 := b1.ext x15
  replace X := Ext.trans X x15; clear x15
  refine ops_cons rfl (ow_pick rfl rfl ?_)
  refine ops_cons rfl (ow_move rfl ?_)
  refine ops_want rfl rfl rfl (ow_fieldAddrB off62_4 rfl rfl ?_)
  refine ops_want rfl rfl rfl (ow_loadB b1 ti2 rfl rfl ?_)
  refine ops_want rfl rfl rfl (ow_call ent111 rfl (ret_mono (l01In_c _ _ _ _) ?_))
  rintro _ w18 ⟨rfl, x17⟩
  replace b1 := b1.ext x17
  replace X := Ext.trans X x17; clear x17
  refine ops_cons rfl (ow_pick rfl rfl ?_)
  refine ops_cons rfl (ow_assign rfl ?_)
  refine ops_nil ?_
  refine c_ret ?_
  refine fin_ret1 rfl rfl ?_
  · skip
    refine ⟨congrArg Value.bool ?_, X⟩
    simp [stateOk, *]
  replace b1 := b1.ext x15
  replace X := Ext.trans X x15; clear x15
  refine ops_cons rfl (ow_pick rfl rfl ?_)
  refine ops_cons rfl (ow_move rfl ?_)
  refine ops_skip rfl rfl rfl rfl ?_
  refine ops_skip rfl rfl rfl rfl ?_
  refine ops_skip rfl rfl rfl rfl ?_
  refine ops_cons rfl (ow_pick rfl rfl ?_)
  refine ops_cons rfl (ow_assign rfl ?_)
  refine ops_nil ?_
  refine c_ret ?_
  refine fin_ret1 rfl rfl ?_
  · skip
    refine ⟨congrArg Value.bool ?_, X⟩
    simp [stateOk, *]
  replace b1 := b1.ext x12
  replace X := Ext.trans X x12; clear x12
  refine ops_cons rfl (ow_pick rfl rfl ?_)
  refine ops_cons rfl (ow_move rfl ?_)
  refine ops_skip rfl rfl rfl rfl ?_
  refine ops_skip rfl rfl rfl rfl ?_
  refine ops_skip rfl rfl rfl rfl ?_
  refine ops_cons rfl (ow_pick rfl rfl ?_)
  refine ops_cons rfl (ow_move rfl ?_)
  refine ops_skip rfl rfl rfl rfl ?_
  refine ops_skip rfl rfl rfl rfl ?_
  refine ops_skip rfl rfl rfl rfl ?_
  refine ops_cons rfl (ow_pick rfl rfl ?_)
  refine ops_cons rfl (ow_assign rfl ?_)
  refine ops_nil ?_
  refine c_ret ?_
  refine fin_ret1 rfl rfl ?_
  · skip
    refine ⟨congrArg Value.bool ?_, X⟩
    simp [stateOk, *]
  replace b1 := b1.ext x9
  replace X := Ext.trans X x9; clear x9
  refine ops_cons rfl (ow_pick rfl rfl ?_)
  refine ops_cons rfl (ow_move rfl ?_)
  refine ops_skip rfl rfl rfl rfl ?_
  refine ops_skip rfl rfl rfl rfl ?_
  refine ops_skip rfl rfl rfl rfl ?_
  refine ops_cons rfl (ow_pick rfl rfl ?_)
  refine ops_cons rfl (ow_move rfl ?_)
  refine ops_skip rfl rfl rfl rfl ?_
  refine ops_skip rfl rfl rfl rfl ?_
  refine ops_skip rfl rfl rfl rfl ?_
  refine ops_cons rfl (ow_pick rfl rfl ?_)
  refine ops_cons rfl (ow_move rfl ?_)
  refine ops_skip rfl rfl rfl rfl ?_
  refine ops_skip rfl rfl rfl rfl ?_
  refine ops_skip rfl rfl rfl rfl ?_
  refine ops_cons rfl (ow_pick rfl rfl ?_)
  refine ops_cons rfl (ow_assign rfl ?_)
  refine ops_nil ?_
  refine c_ret ?_
  refine fin_ret1 rfl rfl ?_
  · skip
    refine ⟨congrArg Value.bool ?_, X⟩
    simp [stateOk, *]
  replace b1 := b1.ext x6
  replace X := Ext.trans X x6; clear x6
  refine ops_cons rfl (ow_move rfl ?_)
  refine ops_skip rfl rfl rfl rfl ?_
  refine ops_skip rfl rfl rfl rfl ?_
  refine ops_skip rfl rfl rfl rfl ?_
  refine ops_cons rfl (ow_pick rfl rfl ?_)
  refine ops_cons rfl (ow_move rfl ?_)
  refine ops_skip rfl rfl rfl rfl ?_
  refine ops_skip rfl rfl rfl rfl ?_
  refine ops_skip rfl rfl rfl rfl ?_
  refine ops_cons rfl (ow_pick rfl rfl ?_)
  refine ops_cons rfl (ow_move rfl ?_)
  refine ops_skip rfl rfl rfl rfl ?_
  refine ops_skip rfl rfl rfl rfl ?_
  refine ops_skip rfl rfl rfl rfl ?_
  refine ops_cons rfl (ow_pick rfl rfl ?_)
  refine ops_cons rfl (ow_move rfl ?_)
  refine ops_skip rfl rfl rfl rfl ?_
  refine ops_skip rfl rfl rfl rfl ?_
  refine ops_skip rfl rfl rfl rfl ?_
  refine ops_cons rfl (ow_pick rfl rfl ?_)
  refine ops_cons rfl (ow_assign rfl ?_)
  refine ops_nil ?_
  refine c_ret ?_
  refine fin_ret1 rfl rfl ?_
  · skip
    refine ⟨congrArg Value.bool ?_, X⟩
    simp [stateOk, *]

theorem iIsState_c (s : StateI) (w : World)  :
    Calls Tryz.prog 252 #[.agg s.cells.toArray] w (Ret fun v w' => v = .bool (stateOk s) ∧ Ext w w') := by
  have X := Ext.refl w
  refine calls_of (args := [.agg s.cells.toArray]) Tryz.func252 Tryz.ntmps252 rfl rfl ?_
  refine c_seqR ?_
  refine ops_cons rfl (ow_box rfl rfl ?_)
  intro g4 w3 eg4 b1 x2 zg4
  have lg4 : w.heap.size ≤ g4 := Nat.le_trans X.size (Nat.le_of_eq eg4.symm)
  replace X := Ext.trans X x2; clear x2
  refine ops_cons rfl (ow_assign rfl ?_)
  refine ops_nil ?_
  refine c_seqR ?_
  refine ops_cons rfl (ow_fieldAddrB off62_0 rfl rfl ?_)
  refine ops_cons rfl (ow_loadB b1 ti2 rfl rfl ?_)
  refine ops_cons rfl (ow_callB ent109 rfl (within_c _ _ _ _) (fun w7 h5 x6 => ?_) (fun w7 h5 x6 => ?_))
  replace b1 := b1.ext x6
  replace X := Ext.trans X x6; clear x6
  refine ops_cons rfl (ow_move rfl ?_)
  refine ops_want rfl rfl rfl (ow_fieldAddrB off62_1 rfl rfl ?_)
  refine ops_want rfl rfl rfl (ow_loadB b1 ti2 rfl rfl ?_)
  refine ops_want rfl rfl rfl (ow_callB ent109 rfl (within_c _ _ _ _) (fun w10 h8 x9 => ?_) (fun w10 h8 x9 => ?_))
  replace b1 := b1.ext x9
  replace X := Ext.trans X x9; clear x9
  refine ops_cons rfl (ow_pick rfl rfl ?_)
  refine ops_cons rfl (ow_move rfl ?_)
  refine ops_want rfl rfl rfl (ow_fieldAddrB off62_2 rfl rfl ?_)
  refine ops_want rfl rfl rfl (ow_loadB b1 ti2 rfl rfl ?_)
  refine ops_want rfl rfl rfl (ow_callB ent109 rfl (within_c _ _ _ _) (fun w13 h11 x12 => ?_) (fun w13 h11 x12 => ?_))
  replace b1 := b1.ext x12
  replace X := Ext.trans X x12; clear x12
  refine ops_cons rfl (ow_pick rfl rfl ?_)
  refine ops_cons rfl (ow_move rfl ?_)
  refine ops_want rfl rfl rfl (ow_fieldAddrB off62_3 rfl rfl ?_)
  refine ops_want rfl rfl rfl (ow_loadB b1 ti2 rfl rfl ?_)
  refine ops_want rfl rfl rfl (ow_callB ent109 rfl (within_c _ _ _ _) (fun w16 h14 x15 => ?_) (fun w16 h14 x15 => ?_))
  replace b1 := b1.ext x15
  replace X := Ext.trans X x15; clear x15
  refine ops_cons rfl (ow_pick rfl rfl ?_)
  refine ops_cons rfl (ow_move rfl ?_)
  refine ops_want rfl rfl rfl (ow_fieldAddrB off62_4 rfl rfl ?_)
  refine ops_want rfl rfl rfl (ow_loadB b1 ti2 rfl rfl ?_)
  refine ops_want rfl rfl rfl (ow_call ent115 rfl (ret_mono (isVector_c _ _) ?_))
  rintro _ w18 ⟨rfl, x17⟩
  replace b1 := b1.ext x17
  replace X := Ext.trans X x17; clear x17
  refine ops_cons rfl (ow_pick rfl rfl ?_)
  refine ops_cons rfl (ow_assign rfl ?_)
  refine ops_nil ?_
  refine c_ret ?_
  refine fin_ret1 rfl rfl ?_
  · skip
    refine ⟨congrArg Value.bool ?_, X⟩
    simp [stateOk, *]
  replace b1 := b1.ext x15
  replace X := Ext.trans X x15; clear x15
  refine ops_cons rfl (ow_pick rfl rfl ?_)
  refine ops_cons rfl (ow_move rfl ?_)
  refine ops_skip rfl rfl rfl rfl ?_
  refine ops_skip rfl rfl rfl rfl ?_
  refine ops_skip rfl rfl rfl rfl ?_
  refine ops_cons rfl (ow_pick rfl rfl ?_)
  refine ops_cons rfl (ow_assign rfl ?_)
  refine ops_nil ?_
  refine c_ret ?_
  refine fin_ret1 rfl rfl ?_
  · skip
    refine ⟨congrArg Value.bool ?_, X⟩
    simp [stateOk, *]
  replace b1 := b1.ext x12
  replace X := Ext.trans X x12; clear x12
  refine ops_cons rfl (ow_pick rfl rfl ?_)
  refine ops_cons rfl (ow_move rfl ?_)
  refine ops_skip rfl rfl rfl rfl ?_
  refine ops_skip rfl rfl rfl rfl ?_
  refine ops_skip rfl rfl rfl rfl ?_
  refine ops_cons rfl (ow_pick rfl rfl ?_)
  refine ops_cons rfl (ow_move rfl ?_)
  refine ops_skip rfl rfl rfl rfl ?_
  refine ops_skip rfl rfl rfl rfl ?_
  refine ops_skip rfl rfl rfl rfl ?_
  refine ops_cons rfl (ow_pick rfl rfl ?_)
  refine ops_cons rfl (ow_assign rfl ?_)
  refine ops_nil ?_
  refine c_ret ?_
  refine fin_ret1 rfl rfl ?_
  · skip
    refine ⟨congrArg Value.bool ?_, X⟩
    simp [stateOk, *]
  replace b1 := b1.ext x9
  replace X := Ext.trans X x9; clear x9
  refine ops_cons rfl (ow_pick rfl rfl ?_)
  refine ops_cons rfl (ow_move rfl ?_)
  refine ops_skip rfl rfl rfl rfl ?_
  refine ops_skip rfl rfl rfl rfl ?_
  refine ops_skip rfl rfl rfl rfl ?_
  refine ops_cons rfl (ow_pick rfl rfl ?_)
  refine ops_cons rfl (ow_move rfl ?_)
  refine ops_skip rfl rfl rfl rfl ?_
  refine ops_skip rfl rfl rfl rfl ?_
  refine ops_skip rfl rfl rfl rfl ?_
  refine ops_cons rfl (ow_pick rfl rfl ?_)
  refine ops_cons rfl (ow_move rfl ?_)
  refine ops_skip rfl rfl rfl rfl ?_
  refine ops_skip rfl rfl rfl rfl ?_
  refine ops_skip rfl rfl rfl rfl ?_
  refine ops_cons rfl (ow_pick rfl rfl ?_)
  refine ops_cons rfl (ow_assign rfl ?_)
  refine ops_nil ?_
  refine c_ret ?_
  refine fin_ret1 rfl rfl ?_
  · skip
    refine ⟨congrArg Value.bool ?_, X⟩
    simp [stateOk, *]
  replace b1 := b1.ext x6
  replace X := Ext.trans X x6; clear x6
  refine ops_cons rfl (ow_move rfl ?_)
  refine ops_skip rfl rfl rfl rfl ?_
  refine ops_skip rfl rfl rfl rfl ?_
  refine ops_skip rfl rfl rfl rfl ?_
  refine ops_cons rfl (ow_pick rfl rfl ?_)
  refine ops_cons rfl (ow_move rfl ?_)
  refine ops_skip rfl rfl rfl rfl ?_
  refine ops_skip rfl rfl rfl rfl ?_
  refine ops_skip rfl rfl rfl rfl ?_
  refine ops_cons rfl (ow_pick rfl rfl ?_)
  refine ops_cons rfl (ow_move rfl ?_)
  refine ops_skip rfl rfl rfl rfl ?_
  refine ops_skip rfl rfl rfl rfl ?_
  refine ops_skip rfl rfl rfl rfl ?_
  refine ops_cons rfl (ow_pick rfl rfl ?_)
  refine ops_cons rfl (ow_move rfl ?_)
  refine ops_skip rfl rfl rfl rfl ?_
  refine ops_skip rfl rfl rfl rfl ?_
  refine ops_skip rfl rfl rfl rfl ?_
  refine ops_cons rfl (ow_pick rfl rfl ?_)
  refine ops_cons rfl (ow_assign rfl ?_)
  refine ops_nil ?_
  refine c_ret ?_
  refine fin_ret1 rfl rfl ?_
  · skip
    refine ⟨congrArg Value.bool ?_, X⟩
    simp [stateOk, *]

theorem l15Belongs_c (m : MedlI) (B : Nat) (s : StateI) (w : World) (hm : Med B w m) (hz : m.small) (hN : isNT m.ns = true) :
    Calls Tryz.prog 206 #[.agg m.cells.toArray, .agg s.cells.toArray] w (Ret fun v w' => v = .bool (belongsB m.d s) ∧ Ext w w') := by
  have hls := hz.ls
  have hlm := hz.lm
  have hln := hz.ln
  have hac := actV_lt hN
  have Bhm := hm.1
  have X := Ext.refl w
  refine calls_of (args := [.agg m.cells.toArray, .agg s.cells.toArray]) Tryz.func206 Tryz.ntmps206 rfl rfl ?_
  refine c_seqR ?_
  refine ops_cons rfl (ow_box rfl rfl ?_)
  intro g4 w3 eg4 b1 x2 zg4
  have lg4 : w.heap.size ≤ g4 := Nat.le_trans X.size (Nat.le_of_eq eg4.symm)
  have pg4hm := Nat.le_trans hm.1 (Nat.le_of_eq eg4.symm)
  replace hm := hm.ext x2
  replace X := Ext.trans X x2; clear x2
  refine ops_cons rfl (ow_box rfl rfl ?_)
  intro g8 w7 eg8 b5 x6 zg8
  have lg8 : w.heap.size ≤ g8 := Nat.le_trans X.size (Nat.le_of_eq eg8.symm)
  have pg8hm := Nat.le_trans hm.1 (Nat.le_of_eq eg8.symm)
  have ng8b1 := Nat.lt_of_lt_of_eq b1.lt eg8.symm
  replace hm := hm.ext x6
  replace b1 := b1.ext x6
  replace X := Ext.trans X x6; clear x6
  refine ops_cons rfl (ow_assign rfl ?_)
  refine ops_nil ?_
  refine c_seq ?_
  refine c_seqD [false, false, false, false, false, false, false, false, false, false, false, false, false, false, false, false, false, false, false, false, false, false, false, false, false, false, false, false, false, false, false, false, false, false, false] mixed (by kernel_rfl) ?_
  refine f_q rfl (fun wq sq => ow_loadAB (b5.ext sq) ti62 rfl rfl ⟨rfl, Ext.refl _⟩) ?_
  refine f_qB rfl (fun wq sq => ow_call ent253 rfl (sIsState_c _ _)) (fun hOK => ?_) (fun hOK => ?_)
  refine f_q rfl (fun wq sq => ow_not rfl ⟨rfl, Ext.refl _⟩) ?_
  refine f_q rfl (fun wq sq => ow_move rfl ⟨rfl, Ext.refl _⟩) ?_
  refine f_qw rfl rfl rfl (fun wq sq => ow_fieldAddrB off28_2 rfl rfl ⟨rfl, Ext.refl _⟩) ?_
  refine f_qw rfl rfl rfl (fun wq sq => ow_loadB (b1.ext sq) ti25 rfl rfl ⟨rfl, Ext.refl _⟩) ?_
  refine f_qw rfl rfl rfl (fun wq sq => ow_fieldAddrB off62_1 rfl rfl ⟨rfl, Ext.refl _⟩) ?_
  refine f_qw rfl rfl rfl (fun wq sq => ow_loadB (b5.ext sq) ti2 rfl rfl ⟨rfl, Ext.refl _⟩) ?_
  refine f_qwB rfl rfl rfl (fun wq sq => ow_call ent200 rfl (l11Mode_c _ _ _ _ _ hlm)) (fun hM => ?_) (fun hM => ?_)
  have hst := stateOk_in hOK
  obtain ⟨j, x, hj, hx⟩ := mode_atI hM
  refine f_qw rfl rfl rfl (fun wq sq => ow_not rfl ⟨rfl, Ext.refl _⟩) ?_
  refine f_q rfl (fun wq sq => ow_pick rfl rfl ⟨rfl, Ext.refl _⟩) ?_
  refine f_q rfl (fun wq sq => ow_move rfl ⟨rfl, Ext.refl _⟩) ?_
  refine f_qw rfl rfl rfl (fun wq sq => ow_fieldAddrB off62_2 rfl rfl ⟨rfl, Ext.refl _⟩) ?_
  refine f_qw rfl rfl rfl (fun wq sq => ow_loadB (b5.ext sq) ti2 rfl rfl ⟨rfl, Ext.refl _⟩) ?_
  refine f_qw rfl rfl rfl (fun wq sq => ow_fieldAddrB off28_2 rfl rfl ⟨rfl, Ext.refl _⟩) ?_
  refine f_qw rfl rfl rfl (fun wq sq => ow_loadB (b1.ext sq) ti25 rfl rfl ⟨rfl, Ext.refl _⟩) ?_
  refine f_qw rfl rfl rfl (fun wq sq => ow_fieldAddrB off62_1 rfl rfl ⟨rfl, Ext.refl _⟩) ?_
  refine f_qw rfl rfl rfl (fun wq sq => ow_loadB (b5.ext sq) ti2 rfl rfl ⟨rfl, Ext.refl _⟩) ?_
  refine f_qw rfl rfl rfl (fun wq sq => ow_indexT ((hm.ext sq)).sm ModeI.len rfl el25 rfl rfl rfl hx hj ⟨rfl, Ext.refl _⟩) ?_
  refine f_qw rfl rfl rfl (fun wq sq => ow_fieldAddr off92_0 rfl ⟨rfl, Ext.refl _⟩) ?_
  refine f_qw rfl rfl rfl (fun wq sq => ow_loadTF ((hm.ext sq)).sm ModeI.len hx ti2 rfl rfl rfl ⟨rfl, Ext.refl _⟩) ?_
  refine f_qwb rfl rfl rfl (fun wq sq => ow_geq rfl rfl ⟨rfl, Ext.refl _⟩) (fun h1 => ?_) (fun h1 => ?_)
  refine f_q rfl (fun wq sq => ow_pick rfl rfl ⟨rfl, Ext.refl _⟩) ?_
  refine f_q rfl (fun wq sq => ow_move rfl ⟨rfl, Ext.refl _⟩) ?_
  refine f_qs rfl rfl rfl rfl ?_
  refine f_qs rfl rfl rfl rfl ?_
  refine f_qs rfl rfl rfl rfl ?_
  refine f_qs rfl rfl rfl rfl ?_
  refine f_qs rfl rfl rfl rfl ?_
  refine f_qs rfl rfl rfl rfl ?_
  refine f_qs rfl rfl rfl rfl ?_
  refine f_qs rfl rfl rfl rfl ?_
  refine f_qs rfl rfl rfl rfl ?_
  refine f_qs rfl rfl rfl rfl ?_
  refine f_q rfl (fun wq sq => ow_pick rfl rfl ⟨rfl, Ext.refl _⟩) ?_
  refine f_nil (fun w13 sq => ?_)
  have xq := sq
  replace hm := hm.ext xq
  replace b1 := b1.ext xq
  replace b5 := b5.ext xq
  replace X := Ext.trans X xq; clear xq sq
  refine ops_nil ?_
  refine c_true rfl ?_
  refine c_seqR ?_
  refine ops_cons rfl (ow_assign rfl ?_)
  refine ops_nil ?_
  refine c_ret ?_
  refine tq_r ?_
  refine fin_ret1 rfl rfl ?_
  · skip
    refine ⟨congrArg Value.bool ?_, X⟩
    first
    | (rw [bel_no1 hOK]; done)
    | (rw [bel_no2 hOK hM]; done)
    | (rw [bel_no3 hj hx (by omega)]; done)
    | (rw [bel_eq hOK hj hx (by omega) (by omega)]; exact mask_dec hst.2.2.2.2.1)
  refine f_q rfl (fun wq sq => ow_pick rfl rfl ⟨rfl, Ext.refl _⟩) ?_
  refine f_q rfl (fun wq sq => ow_move rfl ⟨rfl, Ext.refl _⟩) ?_
  refine f_qw rfl rfl rfl (fun wq sq => ow_fieldAddrB off62_3 rfl rfl ⟨rfl, Ext.refl _⟩) ?_
  refine f_qw rfl rfl rfl (fun wq sq => ow_loadB (b5.ext sq) ti2 rfl rfl ⟨rfl, Ext.refl _⟩) ?_
  refine f_qw rfl rfl rfl (fun wq sq => ow_fieldAddrB off28_2 rfl rfl ⟨rfl, Ext.refl _⟩) ?_
  refine f_qw rfl rfl rfl (fun wq sq => ow_loadB (b1.ext sq) ti25 rfl rfl ⟨rfl, Ext.refl _⟩) ?_
  refine f_qw rfl rfl rfl (fun wq sq => ow_fieldAddrB off62_1 rfl rfl ⟨rfl, Ext.refl _⟩) ?_
  refine f_qw rfl rfl rfl (fun wq sq => ow_loadB (b5.ext sq) ti2 rfl rfl ⟨rfl, Ext.refl _⟩) ?_
  refine f_qw rfl rfl rfl (fun wq sq => ow_indexT ((hm.ext sq)).sm ModeI.len rfl el25 rfl rfl rfl hx hj ⟨rfl, Ext.refl _⟩) ?_
  refine f_qw rfl rfl rfl (fun wq sq => ow_fieldAddr off92_1 rfl ⟨rfl, Ext.refl _⟩) ?_
  refine f_qw rfl rfl rfl (fun wq sq => ow_loadTF ((hm.ext sq)).sm ModeI.len hx ti2 rfl rfl rfl ⟨rfl, Ext.refl _⟩) ?_
  refine f_qwb rfl rfl rfl (fun wq sq => ow_geq rfl rfl ⟨rfl, Ext.refl _⟩) (fun h2 => ?_) (fun h2 => ?_)
  refine f_q rfl (fun wq sq => ow_pick rfl rfl ⟨rfl, Ext.refl _⟩) ?_
  refine f_nil (fun w14 sq => ?_)
  have xq := sq
  replace hm := hm.ext xq
  replace b1 := b1.ext xq
  replace b5 := b5.ext xq
  replace X := Ext.trans X xq; clear xq sq
  refine ops_nil ?_
  refine c_true rfl ?_
  refine c_seqR ?_
  refine ops_cons rfl (ow_assign rfl ?_)
  refine ops_nil ?_
  refine c_ret ?_
  refine tq_r ?_
  refine fin_ret1 rfl rfl ?_
  · skip
    refine ⟨congrArg Value.bool ?_, X⟩
    first
    | (rw [bel_no1 hOK]; done)
    | (rw [bel_no2 hOK hM]; done)
    | (rw [bel_no3 hj hx (by omega)]; done)
    | (rw [bel_eq hOK hj hx (by omega) (by omega)]; exact mask_dec hst.2.2.2.2.1)
  refine f_q rfl (fun wq sq => ow_pick rfl rfl ⟨rfl, Ext.refl _⟩) ?_
  refine f_nil (fun w15 sq => ?_)
  have xq := sq
  replace hm := hm.ext xq
  replace b1 := b1.ext xq
  replace b5 := b5.ext xq
  replace X := Ext.trans X xq; clear xq sq
  refine ops_nil ?_
  refine c_false rfl ?_
  refine c_skip ?_
  refine tq_n ?_
  refine c_seqD [false, false, false, false, false, false, false, false, false, false] mixed (by kernel_rfl) ?_
  refine f_q rfl (fun wq sq => ow_fieldAddrB off62_4 rfl rfl ⟨rfl, Ext.refl _⟩) ?_
  refine f_q rfl (fun wq sq => ow_loadB (b5.ext sq) ti2 rfl rfl ⟨rfl, Ext.refl _⟩) ?_
  refine f_q rfl (fun wq sq => ow_fieldAddrB off28_1 rfl rfl ⟨rfl, Ext.refl _⟩) ?_
  refine f_q rfl (fun wq sq => ow_loadB (b1.ext sq) ti24 rfl rfl ⟨rfl, Ext.refl _⟩) ?_
  refine f_q rfl (fun wq sq => ow_call ent181 rfl (l10Active_c _ _ _ m.ns _ (hm.ext sq).sn hln (isNT_ids hN))) ?_
  refine f_q rfl (fun wq sq => ow_and rfl rfl (mb_and hst.2.2.2.2 hac) ⟨rfl, Ext.refl _⟩) ?_
  refine f_q rfl (fun wq sq => ow_fieldAddrB off62_4 rfl rfl ⟨rfl, Ext.refl _⟩) ?_
  refine f_q rfl (fun wq sq => ow_loadB (b5.ext sq) ti2 rfl rfl ⟨rfl, Ext.refl _⟩) ?_
  refine f_q rfl (fun wq sq => ow_eql rfl rfl ⟨rfl, Ext.refl _⟩) ?_
  refine f_q rfl (fun wq sq => ow_assign rfl ⟨rfl, Ext.refl _⟩) ?_
  refine f_nil (fun w16 sq => ?_)
  have xq := sq
  replace hm := hm.ext xq
  replace b1 := b1.ext xq
  replace b5 := b5.ext xq
  replace X := Ext.trans X xq; clear xq sq
  refine ops_nil ?_
  refine c_ret ?_
  refine fin_ret1 rfl rfl ?_
  · skip
    refine ⟨congrArg Value.bool ?_, X⟩
    first
    | (rw [bel_no1 hOK]; done)
    | (rw [bel_no2 hOK hM]; done)
    | (rw [bel_no3 hj hx (by omega)]; done)
    | (rw [bel_eq hOK hj hx (by omega) (by omega)]; exact mask_dec hst.2.2.2.2.1)
  refine f_qw rfl rfl rfl (fun wq sq => ow_not rfl ⟨rfl, Ext.refl _⟩) ?_
  refine f_q rfl (fun wq sq => ow_pick rfl rfl ⟨rfl, Ext.refl _⟩) ?_
  refine f_q rfl (fun wq sq => ow_move rfl ⟨rfl, Ext.refl _⟩) ?_
  refine f_qs rfl rfl rfl rfl ?_
  refine f_qs rfl rfl rfl rfl ?_
  refine f_qs rfl rfl rfl rfl ?_
  refine f_qs rfl rfl rfl rfl ?_
  refine f_qs rfl rfl rfl rfl ?_
  refine f_qs rfl rfl rfl rfl ?_
  refine f_qs rfl rfl rfl rfl ?_
  refine f_qs rfl rfl rfl rfl ?_
  refine f_qs rfl rfl rfl rfl ?_
  refine f_qs rfl rfl rfl rfl ?_
  refine f_q rfl (fun wq sq => ow_pick rfl rfl ⟨rfl, Ext.refl _⟩) ?_
  refine f_q rfl (fun wq sq => ow_move rfl ⟨rfl, Ext.refl _⟩) ?_
  refine f_qs rfl rfl rfl rfl ?_
  refine f_qs rfl rfl rfl rfl ?_
  refine f_qs rfl rfl rfl rfl ?_
  refine f_qs rfl rfl rfl rfl ?_
  refine f_qs rfl rfl rfl rfl ?_
  refine f_qs rfl rfl rfl rfl ?_
  refine f_qs rfl rfl rfl rfl ?_
  refine f_qs rfl rfl rfl rfl ?_
  refine f_qs rfl rfl rfl rfl ?_
  refine f_qs rfl rfl rfl rfl ?_
  refine f_q rfl (fun wq sq => ow_pick rfl rfl ⟨rfl, Ext.refl _⟩) ?_
  refine f_nil (fun w17 sq => ?_)
  have xq := sq
  replace hm := hm.ext xq
  replace b1 := b1.ext xq
  replace b5 := b5.ext xq
  replace X := Ext.trans X xq; clear xq sq
  refine ops_nil ?_
  refine c_true rfl ?_
  refine c_seqR ?_
  refine ops_cons rfl (ow_assign rfl ?_)
  refine ops_nil ?_
  refine c_ret ?_
  refine tq_r ?_
  refine fin_ret1 rfl rfl ?_
  · skip
    refine ⟨congrArg Value.bool ?_, X⟩
    first
    | (rw [bel_no1 hOK]; done)
    | (rw [bel_no2 hOK hM]; done)
    | (rw [bel_no3 hj hx (by omega)]; done)
    | (rw [bel_eq hOK hj hx (by omega) (by omega)]; exact mask_dec hst.2.2.2.2.1)
  refine f_q rfl (fun wq sq => ow_not rfl ⟨rfl, Ext.refl _⟩) ?_
  refine f_q rfl (fun wq sq => ow_move rfl ⟨rfl, Ext.refl _⟩) ?_
  refine f_qs rfl rfl rfl rfl ?_
  refine f_qs rfl rfl rfl rfl ?_
  refine f_qs rfl rfl rfl rfl ?_
  refine f_qs rfl rfl rfl rfl ?_
  refine f_qs rfl rfl rfl rfl ?_
  refine f_qs rfl rfl rfl rfl ?_
  refine f_q rfl (fun wq sq => ow_pick rfl rfl ⟨rfl, Ext.refl _⟩) ?_
  refine f_q rfl (fun wq sq => ow_move rfl ⟨rfl, Ext.refl _⟩) ?_
  refine f_qs rfl rfl rfl rfl ?_
  refine f_qs rfl rfl rfl rfl ?_
  refine f_qs rfl rfl rfl rfl ?_
  refine f_qs rfl rfl rfl rfl ?_
  refine f_qs rfl rfl rfl rfl ?_
  refine f_qs rfl rfl rfl rfl ?_
  refine f_qs rfl rfl rfl rfl ?_
  refine f_qs rfl rfl rfl rfl ?_
  refine f_qs rfl rfl rfl rfl ?_
  refine f_qs rfl rfl rfl rfl ?_
  refine f_q rfl (fun wq sq => ow_pick rfl rfl ⟨rfl, Ext.refl _⟩) ?_
  refine f_q rfl (fun wq sq => ow_move rfl ⟨rfl, Ext.refl _⟩) ?_
  refine f_qs rfl rfl rfl rfl ?_
  refine f_qs rfl rfl rfl rfl ?_
  refine f_qs rfl rfl rfl rfl ?_
  refine f_qs rfl rfl rfl rfl ?_
  refine f_qs rfl rfl rfl rfl ?_
  refine f_qs rfl rfl rfl rfl ?_
  refine f_qs rfl rfl rfl rfl ?_
  refine f_qs rfl rfl rfl rfl ?_
  refine f_qs rfl rfl rfl rfl ?_
  refine f_qs rfl rfl rfl rfl ?_
  refine f_q rfl (fun wq sq => ow_pick rfl rfl ⟨rfl, Ext.refl _⟩) ?_
  refine f_nil (fun w18 sq => ?_)
  have xq := sq
  replace hm := hm.ext xq
  replace b1 := b1.ext xq
  replace b5 := b5.ext xq
  replace X := Ext.trans X xq; clear xq sq
  refine ops_nil ?_
  refine c_true rfl ?_
  refine c_seqR ?_
  refine ops_cons rfl (ow_assign rfl ?_)
  refine ops_nil ?_
  refine c_ret ?_
  refine tq_r ?_
  refine fin_ret1 rfl rfl ?_
  · skip
    refine ⟨congrArg Value.bool ?_, X⟩
    first
    | (rw [bel_no1 hOK]; done)
    | (rw [bel_no2 hOK hM]; done)
    | (rw [bel_no3 hj hx (by omega)]; done)
    | (rw [bel_eq hOK hj hx (by omega) (by omega)]; exact mask_dec hst.2.2.2.2.1)

theorem belongs_c (m : MedlI) (B : Nat) (s : StateI) (w : World) (hm : Med B w m) (hz : m.small) (hN : isNT m.ns = true) :
    Calls Tryz.prog 204 #[.agg m.cells.toArray, .agg s.cells.toArray] w (Ret fun v w' => v = .bool (belongsB m.d s) ∧ Ext w w') := by
  have hls := hz.ls
  have hlm := hz.lm
  have hln := hz.ln
  have hac := actV_lt hN
  have Bhm := hm.1
  have X := Ext.refl w
  refine calls_of (args := [.agg m.cells.toArray, .agg s.cells.toArray]) Tryz.func204 Tryz.ntmps204 rfl rfl ?_
  refine c_seqR ?_
  refine ops_cons rfl (ow_box rfl rfl ?_)
  intro g4 w3 eg4 b1 x2 zg4
  have lg4 : w.heap.size ≤ g4 := Nat.le_trans X.size (Nat.le_of_eq eg4.symm)
  have pg4hm := Nat.le_trans hm.1 (Nat.le_of_eq eg4.symm)
  replace hm := hm.ext x2
  replace X := Ext.trans X x2; clear x2
  refine ops_cons rfl (ow_box rfl rfl ?_)
  intro g8 w7 eg8 b5 x6 zg8
  have lg8 : w.heap.size ≤ g8 := Nat.le_trans X.size (Nat.le_of_eq eg8.symm)
  have pg8hm := Nat.le_trans hm.1 (Nat.le_of_eq eg8.symm)
  have ng8b1 := Nat.lt_of_lt_of_eq b1.lt eg8.symm
  replace hm := hm.ext x6
  replace b1 := b1.ext x6
  replace X := Ext.trans X x6; clear x6
  refine ops_cons rfl (ow_assign rfl ?_)
  refine ops_nil ?_
  refine c_seq ?_
  refine c_seqR ?_
  refine ops_cons rfl (ow_loadAB b5 ti62 rfl rfl ?_)
  refine ops_cons rfl (ow_callB ent252 rfl (iIsState_c _ _) (fun w10 hOK x9 => ?_) (fun w10 hOK x9 => ?_))
  replace hm := hm.ext x9
  replace b1 := b1.ext x9
  replace b5 := b5.ext x9
  replace X := Ext.trans X x9; clear x9
  have hst0 := stateOk_in hOK
  refine ops_cons rfl (ow_not rfl ?_)
  refine ops_cons rfl (ow_move rfl ?_)
  refine ops_want rfl rfl rfl (ow_fieldAddrB off62_1 rfl rfl ?_)
  refine ops_want rfl rfl rfl (ow_loadB b5 ti2 rfl rfl ?_)
  refine ops_want rfl rfl rfl (ow_fieldAddrB off28_2 rfl rfl ?_)
  refine ops_want rfl rfl rfl (ow_loadB b1 ti25 rfl rfl ?_)
  refine ops_want rfl rfl rfl (ow_len Tryz.underlying25 rfl ?_)
  refine ops_want rfl rfl rfl (ow_geq2 rfl rfl (fun hM => ?_) (fun hM => ?_))
  refine ops_cons rfl (ow_pick rfl rfl ?_)
  refine ops_nil ?_
  refine c_true rfl ?_
  refine c_seqR ?_
  refine ops_cons rfl (ow_assign rfl ?_)
  refine ops_nil ?_
  refine c_ret ?_
  refine tq_r ?_
  refine fin_ret1 rfl rfl ?_
  · skip
    refine ⟨congrArg Value.bool ?_, X⟩
    first
    | (rw [bel_no1 hOK]; done)
    | (rw [bel_no3 hj hx (by omega)]; done)
    | (rw [bel_eq hOK hj hx (by omega) (by omega), Bool.eq_iff_iff]; simp; done)
    | (rw [bel_no2 hOK (by cases e : inB s.mode 0 ((m.ms.length : Int) - 1) <;> first | rfl | (have := inB_iff.1 e; omega))]; done)
  have hst := stateOk_in hOK
  obtain ⟨j, x, hj, hx⟩ := mode_atI (xs := m.ms) (mode := s.mode) (inB_iff.2 ⟨by omega, by omega⟩)
  refine ops_cons rfl (ow_pick rfl rfl ?_)
  refine ops_nil ?_
  refine c_false rfl ?_
  refine c_skip ?_
  refine tq_n ?_
  refine c_seqR ?_
  refine ops_cons rfl (ow_fieldAddrB off28_2 rfl rfl ?_)
  refine ops_cons rfl (ow_loadB b1 ti25 rfl rfl ?_)
  refine ops_cons rfl (ow_fieldAddrB off62_1 rfl rfl ?_)
  refine ops_cons rfl (ow_loadB b5 ti2 rfl rfl ?_)
  refine ops_cons rfl (ow_indexT hm.sm ModeI.len rfl el25 rfl rfl rfl hx hj ?_)
  refine ops_cons rfl (ow_loadTA hm.sm ModeI.len hx ti92 rfl ?_)
  refine ops_cons rfl (ow_alloc ti92 ?_)
  intro gX w12 egX bX x11 zgX
  have lgX : w.heap.size ≤ gX := Nat.le_trans X.size (Nat.le_of_eq egX.symm)
  have pgXhm := Nat.le_trans hm.1 (Nat.le_of_eq egX.symm)
  have ngXb1 := Nat.lt_of_lt_of_eq b1.lt egX.symm
  have ngXb5 := Nat.lt_of_lt_of_eq b5.lt egX.symm
  replace hm := hm.ext x11
  replace b1 := b1.ext x11
  replace b5 := b5.ext x11
  replace X := Ext.trans X x11; clear x11
  refine ops_cons rfl (ow_storeB bX ti92 rfl rfl rfl rfl rfl rfl ?_)
  intro w14 bY hg13 z15
  replace hm := hm.grown hg13 (by intro g hg; injection hg; omega)
  replace b1 := b1.grown hg13 (by intro h; injection h; omega)
  replace b5 := b5.grown hg13 (by intro h; injection h; omega)
  replace X := X.grown hg13 X.size (by intro g hg; injection hg; omega)
  clear hg13 bX
  refine ops_nil ?_
  refine c_seqD [false, false, false, false, false, false, false, false, false, false, false, false, false, false, false, false, false, false, false, false, false, false] mixed (by kernel_rfl) ?_
  refine f_q rfl (fun wq sq => ow_fieldAddrB off62_2 rfl rfl ⟨rfl, Ext.refl _⟩) ?_
  refine f_q rfl (fun wq sq => ow_loadB (b5.ext sq) ti2 rfl rfl ⟨rfl, Ext.refl _⟩) ?_
  refine f_q rfl (fun wq sq => ow_fieldAddrB off92_0 rfl rfl ⟨rfl, Ext.refl _⟩) ?_
  refine f_q rfl (fun wq sq => ow_loadB (bY.ext sq) ti2 rfl rfl ⟨rfl, Ext.refl _⟩) ?_
  refine f_qb rfl (fun wq sq => ow_lss rfl rfl ⟨rfl, Ext.refl _⟩) (fun h1 => ?_) (fun h1 => ?_)
  refine f_q rfl (fun wq sq => ow_move rfl ⟨rfl, Ext.refl _⟩) ?_
  refine f_qw rfl rfl rfl (fun wq sq => ow_fieldAddrB off62_3 rfl rfl ⟨rfl, Ext.refl _⟩) ?_
  refine f_qw rfl rfl rfl (fun wq sq => ow_loadB (b5.ext sq) ti2 rfl rfl ⟨rfl, Ext.refl _⟩) ?_
  refine f_qw rfl rfl rfl (fun wq sq => ow_fieldAddrB off92_1 rfl rfl ⟨rfl, Ext.refl _⟩) ?_
  refine f_qw rfl rfl rfl (fun wq sq => ow_loadB (bY.ext sq) ti2 rfl rfl ⟨rfl, Ext.refl _⟩) ?_
  refine f_qwb rfl rfl rfl (fun wq sq => ow_lss rfl rfl ⟨rfl, Ext.refl _⟩) (fun h2 => ?_) (fun h2 => ?_)
  refine f_q rfl (fun wq sq => ow_pick rfl rfl ⟨rfl, Ext.refl _⟩) ?_
  refine f_q rfl (fun wq sq => ow_move rfl ⟨rfl, Ext.refl _⟩) ?_
  refine f_qw rfl rfl rfl (fun wq sq => ow_fieldAddrB off62_4 rfl rfl ⟨rfl, Ext.refl _⟩) ?_
  refine f_qw rfl rfl rfl (fun wq sq => ow_loadB (b5.ext sq) ti2 rfl rfl ⟨rfl, Ext.refl _⟩) ?_
  refine f_qw rfl rfl rfl (fun wq sq => ow_fieldAddrB off28_1 rfl rfl ⟨rfl, Ext.refl _⟩) ?_
  refine f_qw rfl rfl rfl (fun wq sq => ow_loadB (b1.ext sq) ti24 rfl rfl ⟨rfl, Ext.refl _⟩) ?_
  refine f_qw rfl rfl rfl (fun wq sq => ow_call ent114 rfl (activeVector_c _ _ _ m.ns _ (hm.ext sq).sn hln (isNT_ids hN))) ?_
  refine f_qw rfl rfl rfl (fun wq sq => ow_andNot rfl rfl (mb_andNot hst.2.2.2.2 hac) ⟨rfl, Ext.refl _⟩) ?_
  refine f_qw rfl rfl rfl (fun wq sq => ow_eql rfl rfl ⟨rfl, Ext.refl _⟩) ?_
  refine f_q rfl (fun wq sq => ow_pick rfl rfl ⟨rfl, Ext.refl _⟩) ?_
  refine f_q rfl (fun wq sq => ow_assign rfl ⟨rfl, Ext.refl _⟩) ?_
  refine f_nil (fun w16 sq => ?_)
  have xq := sq
  replace hm := hm.ext xq
  replace b1 := b1.ext xq
  replace b5 := b5.ext xq
  replace bY := bY.ext xq
  replace X := Ext.trans X xq; clear xq sq
  refine ops_nil ?_
  refine c_ret ?_
  refine fin_ret1 rfl rfl ?_
  · skip
    refine ⟨congrArg Value.bool ?_, X⟩
    first
    | (rw [bel_no1 hOK]; done)
    | (rw [bel_no3 hj hx (by omega)]; done)
    | (rw [bel_eq hOK hj hx (by omega) (by omega), Bool.eq_iff_iff]; simp; done)
    | (rw [bel_no2 hOK (by cases e : inB s.mode 0 ((m.ms.length : Int) - 1) <;> first | rfl | (have := inB_iff.1 e; omega))]; done)
  refine f_q rfl (fun wq sq => ow_pick rfl rfl ⟨rfl, Ext.refl _⟩) ?_
  refine f_q rfl (fun wq sq => ow_move rfl ⟨rfl, Ext.refl _⟩) ?_
  refine f_qs rfl rfl rfl rfl ?_
  refine f_qs rfl rfl rfl rfl ?_
  refine f_qs rfl rfl rfl rfl ?_
  refine f_qs rfl rfl rfl rfl ?_
  refine f_qs rfl rfl rfl rfl ?_
  refine f_qs rfl rfl rfl rfl ?_
  refine f_qs rfl rfl rfl rfl ?_
  refine f_q rfl (fun wq sq => ow_pick rfl rfl ⟨rfl, Ext.refl _⟩) ?_
  refine f_q rfl (fun wq sq => ow_assign rfl ⟨rfl, Ext.refl _⟩) ?_
  refine f_nil (fun w17 sq => ?_)
  have xq := sq
  replace hm := hm.ext xq
  replace b1 := b1.ext xq
  replace b5 := b5.ext xq
  replace bY := bY.ext xq
  replace X := Ext.trans X xq; clear xq sq
  refine ops_nil ?_
  refine c_ret ?_
  refine fin_ret1 rfl rfl ?_
  · skip
    refine ⟨congrArg Value.bool ?_, X⟩
    first
    | (rw [bel_no1 hOK]; done)
    | (rw [bel_no3 hj hx (by omega)]; done)
    | (rw [bel_eq hOK hj hx (by omega) (by omega), Bool.eq_iff_iff]; simp; done)
    | (rw [bel_no2 hOK (by cases e : inB s.mode 0 ((m.ms.length : Int) - 1) <;> first | rfl | (have := inB_iff.1 e; omega))]; done)
  refine f_q rfl (fun wq sq => ow_move rfl ⟨rfl, Ext.refl _⟩) ?_
  refine f_qs rfl rfl rfl rfl ?_
  refine f_qs rfl rfl rfl rfl ?_
  refine f_qs rfl rfl rfl rfl ?_
  refine f_qs rfl rfl rfl rfl ?_
  refine f_qs rfl rfl rfl rfl ?_
  refine f_q rfl (fun wq sq => ow_pick rfl rfl ⟨rfl, Ext.refl _⟩) ?_
  refine f_q rfl (fun wq sq => ow_move rfl ⟨rfl, Ext.refl _⟩) ?_
  refine f_qs rfl rfl rfl rfl ?_
  refine f_qs rfl rfl rfl rfl ?_
  refine f_qs rfl rfl rfl rfl ?_
  refine f_qs rfl rfl rfl rfl ?_
  refine f_qs rfl rfl rfl rfl ?_
  refine f_qs rfl rfl rfl rfl ?_
  refine f_qs rfl rfl rfl rfl ?_
  refine f_q rfl (fun wq sq => ow_pick rfl rfl ⟨rfl, Ext.refl _⟩) ?_
  refine f_q rfl (fun wq sq => ow_assign rfl ⟨rfl, Ext.refl _⟩) ?_
  refine f_nil (fun w18 sq => ?_)
  have xq := sq
  replace hm := hm.ext xq
  replace b1 := b1.ext xq
  replace b5 := b5.ext xq
  replace bY := bY.ext xq
  replace X := Ext.trans X xq; clear xq sq
  refine ops_nil ?_
  refine c_ret ?_
  refine fin_ret1 rfl rfl ?_
  · skip
    refine ⟨congrArg Value.bool ?_, X⟩
    first
    | (rw [bel_no1 hOK]; done)
    | (rw [bel_no3 hj hx (by omega)]; done)
    | (rw [bel_eq hOK hj hx (by omega) (by omega), Bool.eq_iff_iff]; simp; done)
    | (rw [bel_no2 hOK (by cases e : inB s.mode 0 ((m.ms.length : Int) - 1) <;> first | rfl | (have := inB_iff.1 e; omega))]; done)
  replace hm := hm.ext x9
  replace b1 := b1.ext x9
  replace b5 := b5.ext x9
  replace X := Ext.trans X x9; clear x9
  refine ops_cons rfl (ow_not rfl ?_)
  refine ops_cons rfl (ow_move rfl ?_)
  refine ops_skip rfl rfl rfl rfl ?_
  refine ops_skip rfl rfl rfl rfl ?_
  refine ops_skip rfl rfl rfl rfl ?_
  refine ops_skip rfl rfl rfl rfl ?_
  refine ops_skip rfl rfl rfl rfl ?_
  refine ops_skip rfl rfl rfl rfl ?_
  refine ops_cons rfl (ow_pick rfl rfl ?_)
  refine ops_nil ?_
  refine c_true rfl ?_
  refine c_seqR ?_
  refine ops_cons rfl (ow_assign rfl ?_)
  refine ops_nil ?_
  refine c_ret ?_
  refine tq_r ?_
  refine fin_ret1 rfl rfl ?_
  · skip
    refine ⟨congrArg Value.bool ?_, X⟩
    first
    | (rw [bel_no1 hOK]; done)
    | (rw [bel_no3 hj hx (by omega)]; done)
    | (rw [bel_eq hOK hj hx (by omega) (by omega), Bool.eq_iff_iff]; simp; done)
    | (rw [bel_no2 hOK (by cases e : inB s.mode 0 ((m.ms.length : Int) - 1) <;> first | rfl | (have := inB_iff.1 e; omega))]; done)

theorem l15Code_c (m : MedlI) (B : Nat) (s : StateI) (w : World) (hm : Med B w m) (hz : m.small) :
    Calls Tryz.prog 132 #[.agg m.cells.toArray, .agg s.cells.toArray] w (Ret fun v w' => v = .int .i64 (lookC m.d s) ∧ Ext w w') := by
  have Bhm := hm.1
  have X := Ext.refl w
  refine calls_of (args := [.agg m.cells.toArray, .agg s.cells.toArray]) Tryz.func132 Tryz.ntmps132 rfl rfl ?_
  refine c_seqR ?_
  refine ops_cons rfl (ow_box rfl rfl ?_)
  intro g4 w3 eg4 b1 x2 zg4
  have lg4 : w.heap.size ≤ g4 := Nat.le_trans X.size (Nat.le_of_eq eg4.symm)
  have pg4hm := Nat.le_trans hm.1 (Nat.le_of_eq eg4.symm)
  replace hm := hm.ext x2
  replace X := Ext.trans X x2; clear x2
  refine ops_cons rfl (ow_box rfl rfl ?_)
  intro g8 w7 eg8 b5 x6 zg8
  have lg8 : w.heap.size ≤ g8 := Nat.le_trans X.size (Nat.le_of_eq eg8.symm)
  have pg8hm := Nat.le_trans hm.1 (Nat.le_of_eq eg8.symm)
  have ng8b1 := Nat.lt_of_lt_of_eq b1.lt eg8.symm
  replace hm := hm.ext x6
  replace b1 := b1.ext x6
  replace X := Ext.trans X x6; clear x6
  refine ops_cons rfl (ow_assign rfl ?_)
  refine ops_nil ?_
  refine c_seq ?_
  refine c_seqR ?_
  refine ops_cons rfl (ow_loadAB b1 ti28 rfl rfl ?_)
  refine ops_cons rfl (ow_callB ent70 rfl (sIsMedl_c m _ _ hm hz) (fun w10 hI x9 => ?_) (fun w10 hI x9 => ?_))
  replace hm := hm.ext x9
  replace b1 := b1.ext x9
  replace b5 := b5.ext x9
  replace X := Ext.trans X x9; clear x9
  have wf := isMedl_iff.1 hI
  refine ops_cons rfl (ow_not rfl ?_)
  refine ops_nil ?_
  refine c_false rfl ?_
  refine c_skip ?_
  refine tq_n ?_
  refine c_seq ?_
  refine c_seqR ?_
  refine ops_cons rfl (ow_loadAB b1 ti28 rfl rfl ?_)
  refine ops_cons rfl (ow_loadAB b5 ti62 rfl rfl ?_)
  refine ops_cons rfl (ow_callB ent206 rfl (l15Belongs_c m _ _ _ hm hz wf.nt) (fun w12 hBB x11 => ?_) (fun w12 hBB x11 => ?_))
  replace hm := hm.ext x11
  replace b1 := b1.ext x11
  replace b5 := b5.ext x11
  replace X := Ext.trans X x11; clear x11
  refine ops_cons rfl (ow_not rfl ?_)
  refine ops_nil ?_
  refine c_false rfl ?_
  refine c_skip ?_
  refine tq_n ?_
  refine c_seqR ?_
  refine ops_cons rfl (ow_assign rfl ?_)
  refine ops_nil ?_
  refine c_ret ?_
  refine fin_ret1 rfl rfl ?_
  · skip
    refine ⟨congrArg (Value.int .i64) ?_, X⟩
    simp [lookC, *]
  replace hm := hm.ext x11
  replace b1 := b1.ext x11
  replace b5 := b5.ext x11
  replace X := Ext.trans X x11; clear x11
  refine ops_cons rfl (ow_not rfl ?_)
  refine ops_nil ?_
  refine c_true rfl ?_
  refine c_seqR ?_
  refine ops_cons rfl (ow_assign rfl ?_)
  refine ops_nil ?_
  refine c_ret ?_
  refine tq_r ?_
  refine fin_ret1 rfl rfl ?_
  · skip
    refine ⟨congrArg (Value.int .i64) ?_, X⟩
    simp [lookC, *]
  replace hm := hm.ext x9
  replace b1 := b1.ext x9
  replace b5 := b5.ext x9
  replace X := Ext.trans X x9; clear x9
  refine ops_cons rfl (ow_not rfl ?_)
  refine ops_nil ?_
  refine c_true rfl ?_
  refine c_seqR ?_
  refine ops_cons rfl (ow_assign rfl ?_)
  refine ops_nil ?_
  refine c_ret ?_
  refine tq_r ?_
  refine fin_ret1 rfl rfl ?_
  · skip
    refine ⟨congrArg (Value.int .i64) ?_, X⟩
    simp [lookC, *]

theorem lookCode_c (m : MedlI) (B : Nat) (s : StateI) (w : World) (hm : Med B w m) (hz : m.small) :
    Calls Tryz.prog 130 #[.agg m.cells.toArray, .agg s.cells.toArray] w (Ret fun v w' => v = .int .i64 (lookC m.d s) ∧ Ext w w') := by
  have Bhm := hm.1
  have X := Ext.refl w
  refine calls_of (args := [.agg m.cells.toArray, .agg s.cells.toArray]) Tryz.func130 Tryz.ntmps130 rfl rfl ?_
  refine c_seqR ?_
  refine ops_cons rfl (ow_box rfl rfl ?_)
  intro g4 w3 eg4 b1 x2 zg4
  have lg4 : w.heap.size ≤ g4 := Nat.le_trans X.size (Nat.le_of_eq eg4.symm)
  have pg4hm := Nat.le_trans hm.1 (Nat.le_of_eq eg4.symm)
  replace hm := hm.ext x2
  replace X := Ext.trans X x2; clear x2
  refine ops_cons rfl (ow_box rfl rfl ?_)
  intro g8 w7 eg8 b5 x6 zg8
  have lg8 : w.heap.size ≤ g8 := Nat.le_trans X.size (Nat.le_of_eq eg8.symm)
  have pg8hm := Nat.le_trans hm.1 (Nat.le_of_eq eg8.symm)
  have ng8b1 := Nat.lt_of_lt_of_eq b1.lt eg8.symm
  replace hm := hm.ext x6
  replace b1 := b1.ext x6
  replace X := Ext.trans X x6; clear x6
  refine ops_cons rfl (ow_assign rfl ?_)
  refine ops_nil ?_
  refine c_seq ?_
  refine c_seqR ?_
  refine ops_cons rfl (ow_loadAB b1 ti28 rfl rfl ?_)
  refine ops_cons rfl (ow_callB ent33 rfl (iIsMedl_c m _ _ hm hz) (fun w10 hI x9 => ?_) (fun w10 hI x9 => ?_))
  replace hm := hm.ext x9
  replace b1 := b1.ext x9
  replace b5 := b5.ext x9
  replace X := Ext.trans X x9; clear x9
  have wf := isMedl_iff.1 hI
  refine ops_cons rfl (ow_not rfl ?_)
  refine ops_nil ?_
  refine c_false rfl ?_
  refine c_skip ?_
  refine tq_n ?_
  refine c_seq ?_
  refine c_seqR ?_
  refine ops_cons rfl (ow_loadAB b1 ti28 rfl rfl ?_)
  refine ops_cons rfl (ow_loadAB b5 ti62 rfl rfl ?_)
  refine ops_cons rfl (ow_callB ent204 rfl (belongs_c m _ _ _ hm hz wf.nt) (fun w12 hBB x11 => ?_) (fun w12 hBB x11 => ?_))
  replace hm := hm.ext x11
  replace b1 := b1.ext x11
  replace b5 := b5.ext x11
  replace X := Ext.trans X x11; clear x11
  refine ops_cons rfl (ow_not rfl ?_)
  refine ops_nil ?_
  refine c_false rfl ?_
  refine c_skip ?_
  refine tq_n ?_
  refine c_seqR ?_
  refine ops_cons rfl (ow_assign rfl ?_)
  refine ops_nil ?_
  refine c_ret ?_
  refine fin_ret1 rfl rfl ?_
  · skip
    refine ⟨congrArg (Value.int .i64) ?_, X⟩
    simp [lookC, *]
  replace hm := hm.ext x11
  replace b1 := b1.ext x11
  replace b5 := b5.ext x11
  replace X := Ext.trans X x11; clear x11
  refine ops_cons rfl (ow_not rfl ?_)
  refine ops_nil ?_
  refine c_true rfl ?_
  refine c_seqR ?_
  refine ops_cons rfl (ow_assign rfl ?_)
  refine ops_nil ?_
  refine c_ret ?_
  refine tq_r ?_
  refine fin_ret1 rfl rfl ?_
  · skip
    refine ⟨congrArg (Value.int .i64) ?_, X⟩
    simp [lookC, *]
  replace hm := hm.ext x9
  replace b1 := b1.ext x9
  replace b5 := b5.ext x9
  replace X := Ext.trans X x9; clear x9
  refine ops_cons rfl (ow_not rfl ?_)
  refine ops_nil ?_
  refine c_true rfl ?_
  refine c_seqR ?_
  refine ops_cons rfl (ow_assign rfl ?_)
  refine ops_nil ?_
  refine c_ret ?_
  refine tq_r ?_
  refine fin_ret1 rfl rfl ?_
  · skip
    refine ⟨congrArg (Value.int .i64) ?_, X⟩
    simp [lookC, *]

theorem l15Desc_c (m : MedlI) (B : Nat) (s : StateI) (w : World) (hm : Med B w m) (hz : m.small) (hW : WellF m.d) (hB : belongsB m.d s = true) :
    Calls Tryz.prog 134 #[.agg m.cells.toArray, .agg s.cells.toArray] w (Ret fun v w' => v = .agg (descAt m.ss s.mode s.round s.slot).cells.toArray ∧ Ext w w') := by
  have hls := hz.ls
  have hlm := hz.lm
  have hln := hz.ln
  obtain ⟨k, x, j, y, bl, hx, hxi, hj, hy, hda, hso, hro, hno, hyd⟩ := bel_get hW hB
  have hst := stateOk_in bl.ok
  have hok : ∀ x ∈ m.ss, slotOk x = true := isST_all hW.st
  have brd := bl.rd
  have bsl := bl.sl
  have Bhm := hm.1
  have X := Ext.refl w
  refine calls_of (args := [.agg m.cells.toArray, .agg s.cells.toArray]) Tryz.func134 Tryz.ntmps134 rfl rfl ?_
  refine c_seqR ?_
  refine ops_cons rfl (ow_box rfl rfl ?_)
  intro g4 w3 eg4 b1 x2 zg4
  have lg4 : w.heap.size ≤ g4 := Nat.le_trans X.size (Nat.le_of_eq eg4.symm)
  have pg4hm := Nat.le_trans hm.1 (Nat.le_of_eq eg4.symm)
  replace hm := hm.ext x2
  replace X := Ext.trans X x2; clear x2
  refine ops_cons rfl (ow_box rfl rfl ?_)
  intro g8 w7 eg8 b5 x6 zg8
  have lg8 : w.heap.size ≤ g8 := Nat.le_trans X.size (Nat.le_of_eq eg8.symm)
  have pg8hm := Nat.le_trans hm.1 (Nat.le_of_eq eg8.symm)
  have ng8b1 := Nat.lt_of_lt_of_eq b1.lt eg8.symm
  replace hm := hm.ext x6
  replace b1 := b1.ext x6
  replace X := Ext.trans X x6; clear x6
  refine ops_cons rfl (ow_alloc ti67 ?_)
  intro g12 w11 eg12 b9 x10 zg12
  have lg12 : w.heap.size ≤ g12 := Nat.le_trans X.size (Nat.le_of_eq eg12.symm)
  have pg12hm := Nat.le_trans hm.1 (Nat.le_of_eq eg12.symm)
  have ng12b1 := Nat.lt_of_lt_of_eq b1.lt eg12.symm
  have ng12b5 := Nat.lt_of_lt_of_eq b5.lt eg12.symm
  replace hm := hm.ext x10
  replace b1 := b1.ext x10
  replace b5 := b5.ext x10
  replace X := Ext.trans X x10; clear x10
  refine ops_nil ?_
  refine c_seqD [false, false, false, false, false, false, false, false, false, false, false, false, false, false] mixed (by kernel_rfl) ?_
  refine f_q rfl (fun wq sq => ow_fieldAddrB off28_3 rfl rfl ⟨rfl, Ext.refl _⟩) ?_
  refine f_q rfl (fun wq sq => ow_loadB (b1.ext sq) ti26 rfl rfl ⟨rfl, Ext.refl _⟩) ?_
  refine f_q rfl (fun wq sq => ow_fieldAddrB off28_3 rfl rfl ⟨rfl, Ext.refl _⟩) ?_
  refine f_q rfl (fun wq sq => ow_loadB (b1.ext sq) ti26 rfl rfl ⟨rfl, Ext.refl _⟩) ?_
  refine f_q rfl (fun wq sq => ow_fieldAddrB off62_1 rfl rfl ⟨rfl, Ext.refl _⟩) ?_
  refine f_q rfl (fun wq sq => ow_loadB (b5.ext sq) ti2 rfl rfl ⟨rfl, Ext.refl _⟩) ?_
  refine f_q rfl (fun wq sq => ow_fieldAddrB off62_2 rfl rfl ⟨rfl, Ext.refl _⟩) ?_
  refine f_q rfl (fun wq sq => ow_loadB (b5.ext sq) ti2 rfl rfl ⟨rfl, Ext.refl _⟩) ?_
  refine f_q rfl (fun wq sq => ow_fieldAddrB off62_3 rfl rfl ⟨rfl, Ext.refl _⟩) ?_
  refine f_q rfl (fun wq sq => ow_loadB (b5.ext sq) ti2 rfl rfl ⟨rfl, Ext.refl _⟩) ?_
  refine f_q rfl (fun wq sq => ow_call ent107 rfl (l12Find_c _ _ _ _ s.mode s.round s.slot _ (hm.ext sq).ss hls)) ?_
  refine f_q rfl (fun wq sq => ow_indexT ((hm.ext sq)).ss SlotI.len rfl el26 rfl rfl rfl hy hj ⟨rfl, Ext.refl _⟩) ?_
  refine f_q rfl (fun wq sq => ow_fieldAddr off89_3 rfl ⟨rfl, Ext.refl _⟩) ?_
  refine f_q rfl (fun wq sq => ow_loadTFA ((hm.ext sq)).ss SlotI.len hy ti67 rfl rfl ⟨rfl, Ext.refl _⟩) ?_
  refine f_nil (fun w13 sq => ?_)
  have xq := sq
  replace hm := hm.ext xq
  replace b1 := b1.ext xq
  replace b5 := b5.ext xq
  replace b9 := b9.ext xq
  replace X := Ext.trans X xq; clear xq sq
  refine ops_cons rfl (ow_storeB b9 ti67 rfl rfl rfl rfl rfl rfl ?_)
  intro w15 b17 hg14 z16
  replace hm := hm.grown hg14 (by intro g hg; injection hg; omega)
  replace b1 := b1.grown hg14 (by intro h; injection h; omega)
  replace b5 := b5.grown hg14 (by intro h; injection h; omega)
  replace X := X.grown hg14 X.size (by intro g hg; injection hg; omega)
  clear hg14 b9
  refine ops_nil ?_
  refine c_ret ?_
  refine fin_cell1 rfl rfl b17 ti67 rfl ?_
  · skip
    rw [hda]; exact ⟨rfl, X⟩

theorem descriptorFor_c (m : MedlI) (B : Nat) (s : StateI) (w : World) (hm : Med B w m) (hz : m.small) (hW : WellF m.d) (hB : belongsB m.d s = true) :
    Calls Tryz.prog 133 #[.agg m.cells.toArray, .agg s.cells.toArray] w (Ret fun v w' => v = .agg (descAt m.ss s.mode s.round s.slot).cells.toArray ∧ Ext w w') := by
  have hls := hz.ls
  have hlm := hz.lm
  have hln := hz.ln
  obtain ⟨k, x, j, y, bl, hx, hxi, hj, hy, hda, hso, hro, hno, hyd⟩ := bel_get hW hB
  have hst := stateOk_in bl.ok
  have hok : ∀ x ∈ m.ss, slotOk x = true := isST_all hW.st
  have brd := bl.rd
  have bsl := bl.sl
  have Bhm := hm.1
  have X := Ext.refl w
  refine calls_of (args := [.agg m.cells.toArray, .agg s.cells.toArray]) Tryz.func133 Tryz.ntmps133 rfl rfl ?_
  refine c_seqR ?_
  refine ops_cons rfl (ow_box rfl rfl ?_)
  intro g4 w3 eg4 b1 x2 zg4
  have lg4 : w.heap.size ≤ g4 := Nat.le_trans X.size (Nat.le_of_eq eg4.symm)
  have pg4hm := Nat.le_trans hm.1 (Nat.le_of_eq eg4.symm)
  replace hm := hm.ext x2
  replace X := Ext.trans X x2; clear x2
  refine ops_cons rfl (ow_box rfl rfl ?_)
  intro g8 w7 eg8 b5 x6 zg8
  have lg8 : w.heap.size ≤ g8 := Nat.le_trans X.size (Nat.le_of_eq eg8.symm)
  have pg8hm := Nat.le_trans hm.1 (Nat.le_of_eq eg8.symm)
  have ng8b1 := Nat.lt_of_lt_of_eq b1.lt eg8.symm
  replace hm := hm.ext x6
  replace b1 := b1.ext x6
  replace X := Ext.trans X x6; clear x6
  refine ops_cons rfl (ow_alloc ti67 ?_)
  intro g12 w11 eg12 b9 x10 zg12
  have lg12 : w.heap.size ≤ g12 := Nat.le_trans X.size (Nat.le_of_eq eg12.symm)
  have pg12hm := Nat.le_trans hm.1 (Nat.le_of_eq eg12.symm)
  have ng12b1 := Nat.lt_of_lt_of_eq b1.lt eg12.symm
  have ng12b5 := Nat.lt_of_lt_of_eq b5.lt eg12.symm
  replace hm := hm.ext x10
  replace b1 := b1.ext x10
  replace b5 := b5.ext x10
  replace X := Ext.trans X x10; clear x10
  refine ops_nil ?_
  refine c_seqD [false, false, false, false, false, false, false, false, false, false, false, false, false, false] mixed (by kernel_rfl) ?_
  refine f_q rfl (fun wq sq => ow_fieldAddrB off28_3 rfl rfl ⟨rfl, Ext.refl _⟩) ?_
  refine f_q rfl (fun wq sq => ow_loadB (b1.ext sq) ti26 rfl rfl ⟨rfl, Ext.refl _⟩) ?_
  refine f_q rfl (fun wq sq => ow_fieldAddrB off28_3 rfl rfl ⟨rfl, Ext.refl _⟩) ?_
  refine f_q rfl (fun wq sq => ow_loadB (b1.ext sq) ti26 rfl rfl ⟨rfl, Ext.refl _⟩) ?_
  refine f_q rfl (fun wq sq => ow_fieldAddrB off62_1 rfl rfl ⟨rfl, Ext.refl _⟩) ?_
  refine f_q rfl (fun wq sq => ow_loadB (b5.ext sq) ti2 rfl rfl ⟨rfl, Ext.refl _⟩) ?_
  refine f_q rfl (fun wq sq => ow_fieldAddrB off62_2 rfl rfl ⟨rfl, Ext.refl _⟩) ?_
  refine f_q rfl (fun wq sq => ow_loadB (b5.ext sq) ti2 rfl rfl ⟨rfl, Ext.refl _⟩) ?_
  refine f_q rfl (fun wq sq => ow_fieldAddrB off62_3 rfl rfl ⟨rfl, Ext.refl _⟩) ?_
  refine f_q rfl (fun wq sq => ow_loadB (b5.ext sq) ti2 rfl rfl ⟨rfl, Ext.refl _⟩) ?_
  refine f_q rfl (fun wq sq => ow_call ent106 rfl (findSlot_c _ _ _ _ s.mode s.round s.slot _ (hm.ext sq).ss hls)) ?_
  refine f_q rfl (fun wq sq => ow_indexT ((hm.ext sq)).ss SlotI.len rfl el26 rfl rfl rfl hy hj ⟨rfl, Ext.refl _⟩) ?_
  refine f_q rfl (fun wq sq => ow_fieldAddr off89_3 rfl ⟨rfl, Ext.refl _⟩) ?_
  refine f_q rfl (fun wq sq => ow_loadTFA ((hm.ext sq)).ss SlotI.len hy ti67 rfl rfl ⟨rfl, Ext.refl _⟩) ?_
  refine f_nil (fun w13 sq => ?_)
  have xq := sq
  replace hm := hm.ext xq
  replace b1 := b1.ext xq
  replace b5 := b5.ext xq
  replace b9 := b9.ext xq
  replace X := Ext.trans X xq; clear xq sq
  refine ops_cons rfl (ow_storeB b9 ti67 rfl rfl rfl rfl rfl rfl ?_)
  intro w15 b17 hg14 z16
  replace hm := hm.grown hg14 (by intro g hg; injection hg; omega)
  replace b1 := b1.grown hg14 (by intro h; injection h; omega)
  replace b5 := b5.grown hg14 (by intro h; injection h; omega)
  replace X := X.grown hg14 X.size (by intro g hg; injection hg; omega)
  clear hg14 b9
  refine ops_nil ?_
  refine c_ret ?_
  refine fin_cell1 rfl rfl b17 ti67 rfl ?_
  · skip
    rw [hda]; exact ⟨rfl, X⟩

theorem specDescF_c (m : MedlI) (B : Nat) (s : StateI) (w : World) (hm : Med B w m) (hz : m.small) :
    Calls Tryz.prog 55 #[.agg m.cells.toArray, .agg s.cells.toArray] w (Ret fun v w' => v = .tuple #[.agg (descF m.d s).1.cells.toArray, .int .i64 (descF m.d s).2] ∧ Ext w w') := by
  have hls := hz.ls
  have hlm := hz.lm
  have hln := hz.ln
  have Bhm := hm.1
  have X := Ext.refl w
  refine calls_of (args := [.agg m.cells.toArray, .agg s.cells.toArray]) Tryz.func55 Tryz.ntmps55 rfl rfl ?_
  refine c_seqR ?_
  refine ops_cons rfl (ow_box rfl rfl ?_)
  intro g4 w3 eg4 b1 x2 zg4
  have lg4 : w.heap.size ≤ g4 := Nat.le_trans X.size (Nat.le_of_eq eg4.symm)
  have pg4hm := Nat.le_trans hm.1 (Nat.le_of_eq eg4.symm)
  replace hm := hm.ext x2
  replace X := Ext.trans X x2; clear x2
  refine ops_cons rfl (ow_box rfl rfl ?_)
  intro g8 w7 eg8 b5 x6 zg8
  have lg8 : w.heap.size ≤ g8 := Nat.le_trans X.size (Nat.le_of_eq eg8.symm)
  have pg8hm := Nat.le_trans hm.1 (Nat.le_of_eq eg8.symm)
  have ng8b1 := Nat.lt_of_lt_of_eq b1.lt eg8.symm
  replace hm := hm.ext x6
  replace b1 := b1.ext x6
  replace X := Ext.trans X x6; clear x6
  refine ops_cons rfl (ow_alloc ti67 ?_)
  intro g12 w11 eg12 b9 x10 zg12
  have lg12 : w.heap.size ≤ g12 := Nat.le_trans X.size (Nat.le_of_eq eg12.symm)
  have pg12hm := Nat.le_trans hm.1 (Nat.le_of_eq eg12.symm)
  have ng12b1 := Nat.lt_of_lt_of_eq b1.lt eg12.symm
  have ng12b5 := Nat.lt_of_lt_of_eq b5.lt eg12.symm
  replace hm := hm.ext x10
  replace b1 := b1.ext x10
  replace b5 := b5.ext x10
  replace X := Ext.trans X x10; clear x10
  refine ops_cons rfl (ow_assign rfl ?_)
  refine ops_nil ?_
  refine c_seqR ?_
  refine ops_cons rfl (ow_loadAB b1 ti28 rfl rfl ?_)
  refine ops_cons rfl (ow_loadAB b5 ti62 rfl rfl ?_)
  refine ops_cons rfl (ow_call ent132 rfl (ret_mono (l15Code_c m _ s _ hm hz) ?_))
  rintro _ w14 ⟨rfl, x13⟩
  replace hm := hm.ext x13
  replace b1 := b1.ext x13
  replace b5 := b5.ext x13
  replace b9 := b9.ext x13
  replace X := Ext.trans X x13; clear x13
  refine ops_cons rfl (ow_assign rfl ?_)
  refine ops_nil ?_
  refine c_seq ?_
  refine c_seqR ?_
  refine ops_cons rfl (ow_move rfl ?_)
  refine ops_cons rfl (ow_neq2 rfl rfl (fun hC => ?_) (fun hC => ?_))
  refine ops_nil ?_
  refine c_true rfl ?_
  refine c_seqR ?_
  refine ops_cons rfl (ow_buildP pl67 ti67 rfl rfl ?_)
  refine ops_cons rfl (ow_move rfl ?_)
  refine ops_cons rfl (ow_storeB b9 ti67 rfl rfl rfl rfl rfl rfl ?_)
  intro w16 b18 hg15 z17
  replace hm := hm.grown hg15 (by intro g hg; injection hg; omega)
  replace b1 := b1.grown hg15 (by intro h; injection h; omega)
  replace b5 := b5.grown hg15 (by intro h; injection h; omega)
  replace X := X.grown hg15 X.size (by intro g hg; injection hg; omega)
  clear hg15 b9
  refine ops_cons rfl (ow_assign rfl ?_)
  refine ops_nil ?_
  refine c_ret ?_
  refine tq_r ?_
  refine fin_cell2 rfl rfl b18 ti67 rfl rfl ?_
  · skip
    first
    | (have e : descF m.d s = (⟨0, 0, 0, 0, false⟩, lookC m.d s) := by rw [descF, if_neg hC]
       rw [e]; exact ⟨rfl, X⟩)
    | (have e : descF m.d s = (descAt m.ss s.mode s.round s.slot, 0) := by rw [descF, if_pos hC0]; try rfl
       rw [e]; exact ⟨rfl, X⟩)
  have hC0 : lookC m.d s = 0 := by omega
  have hm0 := lookC_zero.1 hC0
  have wf := isMedl_iff.1 hm0.1
  have hB := hm0.2
  have hok : ∀ x ∈ m.ss, slotOk x = true := isST_all wf.st
  refine ops_nil ?_
  refine c_false rfl ?_
  refine c_skip ?_
  refine tq_n ?_
  refine c_seqR ?_
  refine ops_cons rfl (ow_loadAB b1 ti28 rfl rfl ?_)
  refine ops_cons rfl (ow_loadAB b5 ti62 rfl rfl ?_)
  refine ops_cons rfl (ow_call ent134 rfl (ret_mono (l15Desc_c m _ s _ hm hz wf hB) ?_))
  rintro _ w20 ⟨rfl, x19⟩
  replace hm := hm.ext x19
  replace b1 := b1.ext x19
  replace b5 := b5.ext x19
  replace b9 := b9.ext x19
  replace X := Ext.trans X x19; clear x19
  refine ops_cons rfl (ow_storeB b9 ti67 rfl rfl rfl rfl rfl rfl ?_)
  intro w22 b24 hg21 z23
  replace hm := hm.grown hg21 (by intro g hg; injection hg; omega)
  replace b1 := b1.grown hg21 (by intro h; injection h; omega)
  replace b5 := b5.grown hg21 (by intro h; injection h; omega)
  replace X := X.grown hg21 X.size (by intro g hg; injection hg; omega)
  clear hg21 b9
  refine ops_cons rfl (ow_assign rfl ?_)
  refine ops_nil ?_
  refine c_ret ?_
  refine fin_cell2 rfl rfl b24 ti67 rfl rfl ?_
  · skip
    first
    | (have e : descF m.d s = (⟨0, 0, 0, 0, false⟩, lookC m.d s) := by rw [descF, if_neg hC]
       rw [e]; exact ⟨rfl, X⟩)
    | (have e : descF m.d s = (descAt m.ss s.mode s.round s.slot, 0) := by rw [descF, if_pos hC0]; try rfl
       rw [e]; exact ⟨rfl, X⟩)

theorem implDescF_c (m : MedlI) (B : Nat) (s : StateI) (w : World) (hm : Med B w m) (hz : m.small) :
    Calls Tryz.prog 54 #[.agg m.cells.toArray, .agg s.cells.toArray] w (Ret fun v w' => v = .tuple #[.agg (descF m.d s).1.cells.toArray, .int .i64 (descF m.d s).2] ∧ Ext w w') := by
  have hls := hz.ls
  have hlm := hz.lm
  have hln := hz.ln
  have Bhm := hm.1
  have X := Ext.refl w
  refine calls_of (args := [.agg m.cells.toArray, .agg s.cells.toArray]) Tryz.func54 Tryz.ntmps54 rfl rfl ?_
  refine c_seqR ?_
  refine ops_cons rfl (ow_box rfl rfl ?_)
  intro g4 w3 eg4 b1 x2 zg4
  have lg4 : w.heap.size ≤ g4 := Nat.le_trans X.size (Nat.le_of_eq eg4.symm)
  have pg4hm := Nat.le_trans hm.1 (Nat.le_of_eq eg4.symm)
  replace hm := hm.ext x2
  replace X := Ext.trans X x2; clear x2
  refine ops_cons rfl (ow_box rfl rfl ?_)
  intro g8 w7 eg8 b5 x6 zg8
  have lg8 : w.heap.size ≤ g8 := Nat.le_trans X.size (Nat.le_of_eq eg8.symm)
  have pg8hm := Nat.le_trans hm.1 (Nat.le_of_eq eg8.symm)
  have ng8b1 := Nat.lt_of_lt_of_eq b1.lt eg8.symm
  replace hm := hm.ext x6
  replace b1 := b1.ext x6
  replace X := Ext.trans X x6; clear x6
  refine ops_cons rfl (ow_alloc ti67 ?_)
  intro g12 w11 eg12 b9 x10 zg12
  have lg12 : w.heap.size ≤ g12 := Nat.le_trans X.size (Nat.le_of_eq eg12.symm)
  have pg12hm := Nat.le_trans hm.1 (Nat.le_of_eq eg12.symm)
  have ng12b1 := Nat.lt_of_lt_of_eq b1.lt eg12.symm
  have ng12b5 := Nat.lt_of_lt_of_eq b5.lt eg12.symm
  replace hm := hm.ext x10
  replace b1 := b1.ext x10
  replace b5 := b5.ext x10
  replace X := Ext.trans X x10; clear x10
  refine ops_cons rfl (ow_assign rfl ?_)
  refine ops_nil ?_
  refine c_seq ?_
  refine c_seqR ?_
  refine ops_cons rfl (ow_loadAB b1 ti28 rfl rfl ?_)
  refine ops_cons rfl (ow_loadAB b5 ti62 rfl rfl ?_)
  refine ops_cons rfl (ow_call ent130 rfl (ret_mono (lookCode_c m _ s _ hm hz) ?_))
  rintro _ w14 ⟨rfl, x13⟩
  replace hm := hm.ext x13
  replace b1 := b1.ext x13
  replace b5 := b5.ext x13
  replace b9 := b9.ext x13
  replace X := Ext.trans X x13; clear x13
  refine ops_cons rfl (ow_assign rfl ?_)
  refine ops_nil ?_
  refine c_seqR ?_
  refine ops_cons rfl (ow_move rfl ?_)
  refine ops_cons rfl (ow_neq2 rfl rfl (fun hC => ?_) (fun hC => ?_))
  refine ops_nil ?_
  refine c_true rfl ?_
  refine c_seqR ?_
  refine ops_cons rfl (ow_buildP pl67 ti67 rfl rfl ?_)
  refine ops_cons rfl (ow_move rfl ?_)
  refine ops_cons rfl (ow_storeB b9 ti67 rfl rfl rfl rfl rfl rfl ?_)
  intro w16 b18 hg15 z17
  replace hm := hm.grown hg15 (by intro g hg; injection hg; omega)
  replace b1 := b1.grown hg15 (by intro h; injection h; omega)
  replace b5 := b5.grown hg15 (by intro h; injection h; omega)
  replace X := X.grown hg15 X.size (by intro g hg; injection hg; omega)
  clear hg15 b9
  refine ops_cons rfl (ow_assign rfl ?_)
  refine ops_nil ?_
  refine c_ret ?_
  refine tq_r ?_
  refine fin_cell2 rfl rfl b18 ti67 rfl rfl ?_
  · skip
    first
    | (have e : descF m.d s = (⟨0, 0, 0, 0, false⟩, lookC m.d s) := by rw [descF, if_neg hC]
       rw [e]; exact ⟨rfl, X⟩)
    | (have e : descF m.d s = (descAt m.ss s.mode s.round s.slot, 0) := by rw [descF, if_pos hC0]; try rfl
       rw [e]; exact ⟨rfl, X⟩)
  have hC0 : lookC m.d s = 0 := by omega
  have hm0 := lookC_zero.1 hC0
  have wf := isMedl_iff.1 hm0.1
  have hB := hm0.2
  have hok : ∀ x ∈ m.ss, slotOk x = true := isST_all wf.st
  refine ops_nil ?_
  refine c_false rfl ?_
  refine c_skip ?_
  refine tq_n ?_
  refine c_seqR ?_
  refine ops_cons rfl (ow_loadAB b1 ti28 rfl rfl ?_)
  refine ops_cons rfl (ow_loadAB b5 ti62 rfl rfl ?_)
  refine ops_cons rfl (ow_call ent133 rfl (ret_mono (descriptorFor_c m _ s _ hm hz wf hB) ?_))
  rintro _ w20 ⟨rfl, x19⟩
  replace hm := hm.ext x19
  replace b1 := b1.ext x19
  replace b5 := b5.ext x19
  replace b9 := b9.ext x19
  replace X := Ext.trans X x19; clear x19
  refine ops_cons rfl (ow_storeB b9 ti67 rfl rfl rfl rfl rfl rfl ?_)
  intro w22 b24 hg21 z23
  replace hm := hm.grown hg21 (by intro g hg; injection hg; omega)
  replace b1 := b1.grown hg21 (by intro h; injection h; omega)
  replace b5 := b5.grown hg21 (by intro h; injection h; omega)
  replace X := X.grown hg21 X.size (by intro g hg; injection hg; omega)
  clear hg21 b9
  refine ops_cons rfl (ow_assign rfl ?_)
  refine ops_nil ?_
  refine c_ret ?_
  refine fin_cell2 rfl rfl b24 ti67 rfl rfl ?_
  · skip
    first
    | (have e : descF m.d s = (⟨0, 0, 0, 0, false⟩, lookC m.d s) := by rw [descF, if_neg hC]
       rw [e]; exact ⟨rfl, X⟩)
    | (have e : descF m.d s = (descAt m.ss s.mode s.round s.slot, 0) := by rw [descF, if_pos hC0]; try rfl
       rw [e]; exact ⟨rfl, X⟩)

theorem l04Advance_c (s : StateI) (dur sl rd : Int) (w : World) (hOK : stateOk s = true) (hd : 0 ≤ dur ∧ dur ≤ 1000) (hsl : 1 ≤ sl ∧ sl ≤ 16) (hrd : 1 ≤ rd ∧ rd ≤ 8) :
    Calls Tryz.prog 208 #[.agg s.cells.toArray, .int .i64 dur, .int .i64 sl, .int .i64 rd] w (Ret fun v w' => v = .agg (advS s dur sl rd).cells.toArray ∧ Ext w w') := by
  have hst := stateOk_in hOK
  have X := Ext.refl w
  refine calls_of (args := [.agg s.cells.toArray, .int .i64 dur, .int .i64 sl, .int .i64 rd]) Tryz.func208 Tryz.ntmps208 rfl rfl ?_
  refine c_seqR ?_
  refine ops_cons rfl (ow_box rfl rfl ?_)
  intro g4 w3 eg4 b1 x2 zg4
  have lg4 : w.heap.size ≤ g4 := Nat.le_trans X.size (Nat.le_of_eq eg4.symm)
  replace X := Ext.trans X x2; clear x2
  refine ops_cons rfl (ow_alloc ti62 ?_)
  intro g8 w7 eg8 b5 x6 zg8
  have lg8 : w.heap.size ≤ g8 := Nat.le_trans X.size (Nat.le_of_eq eg8.symm)
  have ng8b1 := Nat.lt_of_lt_of_eq b1.lt eg8.symm
  replace b1 := b1.ext x6
  replace X := Ext.trans X x6; clear x6
  refine ops_nil ?_
  refine c_seqR ?_
  refine ops_cons rfl (ow_fieldAddrB off62_0 rfl rfl ?_)
  refine ops_cons rfl (ow_loadB b1 ti2 rfl rfl ?_)
  refine ops_cons rfl (ow_move rfl ?_)
  refine ops_cons rfl (ow_add rfl rfl (w64 (by omega)) ?_)
  refine ops_cons rfl (ow_rem rfl rfl (by omega) (m64 (by omega)) ?_)
  generalize ht : (s.time + dur) % 65536 = tt
  refine ops_cons rfl (ow_fieldAddrB off62_1 rfl rfl ?_)
  refine ops_cons rfl (ow_loadB b1 ti2 rfl rfl ?_)
  refine ops_cons rfl (ow_fieldAddrB off62_2 rfl rfl ?_)
  refine ops_cons rfl (ow_loadB b1 ti2 rfl rfl ?_)
  refine ops_cons rfl (ow_fieldAddrB off62_3 rfl rfl ?_)
  refine ops_cons rfl (ow_loadB b1 ti2 rfl rfl ?_)
  refine ops_cons rfl (ow_add rfl rfl (w64 (by omega)) ?_)
  refine ops_cons rfl (ow_fieldAddrB off62_4 rfl rfl ?_)
  refine ops_cons rfl (ow_loadB b1 ti2 rfl rfl ?_)
  refine ops_cons rfl (ow_buildP pl62 ti62 rfl rfl ?_)
  refine ops_cons rfl (ow_alloc ti62 ?_)
  intro g12 w11 eg12 b9 x10 zg12
  have lg12 : w.heap.size ≤ g12 := Nat.le_trans X.size (Nat.le_of_eq eg12.symm)
  have ng12b1 := Nat.lt_of_lt_of_eq b1.lt eg12.symm
  have ng12b5 := Nat.lt_of_lt_of_eq b5.lt eg12.symm
  replace b1 := b1.ext x10
  replace b5 := b5.ext x10
  replace X := Ext.trans X x10; clear x10
  refine ops_cons rfl (ow_storeB b9 ti62 rfl rfl rfl rfl rfl rfl ?_)
  intro w14 b16 hg13 z15
  replace b1 := b1.grown hg13 (by intro h; injection h; omega)
  replace b5 := b5.grown hg13 (by intro h; injection h; omega)
  replace X := X.grown hg13 X.size (by intro g hg; injection hg; omega)
  clear hg13 b9
  refine ops_nil ?_
  refine c_seq ?_
  refine c_seqR ?_
  refine ops_cons rfl (ow_fieldAddrB off62_3 rfl rfl ?_)
  refine ops_cons rfl (ow_loadB b16 ti2 rfl rfl ?_)
  refine ops_cons rfl (ow_move rfl ?_)
  refine ops_cons rfl (ow_eql2 rfl rfl (fun hc => ?_) (fun hc => ?_))
  refine ops_nil ?_
  refine c_true rfl ?_
  refine c_seqR ?_
  refine ops_cons rfl (ow_fieldAddrB off62_3 rfl rfl ?_)
  refine ops_cons rfl (ow_storeB b16 ti2 rfl rfl rfl rfl rfl rfl ?_)
  intro w18 b20 hg17 z19
  replace b1 := b1.grown hg17 (by intro h; injection h; omega)
  replace b5 := b5.grown hg17 (by intro h; injection h; omega)
  replace X := X.grown hg17 X.size (by intro g hg; injection hg; omega)
  clear hg17 b16
  refine ops_nil ?_
  refine c_region ?_
  refine ops_cons rfl (ow_fieldAddrB off62_2 rfl rfl ?_)
  refine ops_cons rfl (ow_loadB b1 ti2 rfl rfl ?_)
  refine ops_cons rfl (ow_add rfl rfl (w64 (by omega)) ?_)
  refine ops_cons rfl (ow_move rfl ?_)
  refine ops_cons rfl (ow_rem rfl rfl (by omega) (m64 (by omega)) ?_)
  generalize hr : (s.round + 1) % rd = rr
  refine ops_cons rfl (ow_fieldAddrB off62_2 rfl rfl ?_)
  refine ops_cons rfl (ow_storeB b20 ti2 rfl rfl rfl rfl rfl rfl ?_)
  intro w22 b24 hg21 z23
  replace b1 := b1.grown hg21 (by intro h; injection h; omega)
  replace b5 := b5.grown hg21 (by intro h; injection h; omega)
  replace X := X.grown hg21 X.size (by intro g hg; injection hg; omega)
  clear hg21 b20
  refine ops_nil ?_
  refine tq_n ?_
  refine c_seqR ?_
  refine ops_cons rfl (ow_loadAB b24 ti62 rfl rfl ?_)
  refine ops_cons rfl (ow_storeB b5 ti62 rfl rfl rfl rfl rfl rfl ?_)
  intro w26 b28 hg25 z27
  replace b1 := b1.grown hg25 (by intro h; injection h; omega)
  replace b24 := b24.grown hg25 (by intro h; injection h; omega)
  replace X := X.grown hg25 X.size (by intro g hg; injection hg; omega)
  clear hg25 b5
  refine ops_nil ?_
  refine c_ret ?_
  refine fin_cell1 rfl rfl b28 ti62 rfl ?_
  · skip
    first
    | (rw [advS, if_pos (by omega), ht, hr]; exact ⟨rfl, X⟩)
    | (rw [advS, if_neg (by omega), ht]; exact ⟨rfl, X⟩)
  refine ops_nil ?_
  refine c_false rfl ?_
  refine c_skip ?_
  refine tq_n ?_
  refine c_seqR ?_
  refine ops_cons rfl (ow_loadAB b16 ti62 rfl rfl ?_)
  refine ops_cons rfl (ow_storeB b5 ti62 rfl rfl rfl rfl rfl rfl ?_)
  intro w30 b32 hg29 z31
  replace b1 := b1.grown hg29 (by intro h; injection h; omega)
  replace b16 := b16.grown hg29 (by intro h; injection h; omega)
  replace X := X.grown hg29 X.size (by intro g hg; injection hg; omega)
  clear hg29 b5
  refine ops_nil ?_
  refine c_ret ?_
  refine fin_cell1 rfl rfl b32 ti62 rfl ?_
  · skip
    first
    | (rw [advS, if_pos (by omega), ht, hr]; exact ⟨rfl, X⟩)
    | (rw [advS, if_neg (by omega), ht]; exact ⟨rfl, X⟩)

theorem advState_c (s : StateI) (dur sl rd : Int) (w : World) (hOK : stateOk s = true) (hd : 0 ≤ dur ∧ dur ≤ 1000) (hsl : 1 ≤ sl ∧ sl ≤ 16) (hrd : 1 ≤ rd ∧ rd ≤ 8) (h1 : s.slot < sl) (h2 : s.round < rd) :
    Calls Tryz.prog 207 #[.agg s.cells.toArray, .int .i64 dur, .int .i64 sl, .int .i64 rd] w (Ret fun v w' => v = .tuple #[.agg (advS s dur sl rd).cells.toArray, .int .i64 0] ∧ Ext w w') := by
  have hst := stateOk_in hOK
  have X := Ext.refl w
  refine calls_of (args := [.agg s.cells.toArray, .int .i64 dur, .int .i64 sl, .int .i64 rd]) Tryz.func207 Tryz.ntmps207 rfl rfl ?_
  refine c_seqR ?_
  refine ops_cons rfl (ow_box rfl rfl ?_)
  intro g4 w3 eg4 b1 x2 zg4
  have lg4 : w.heap.size ≤ g4 := Nat.le_trans X.size (Nat.le_of_eq eg4.symm)
  replace X := Ext.trans X x2; clear x2
  refine ops_cons rfl (ow_alloc ti62 ?_)
  intro g8 w7 eg8 b5 x6 zg8
  have lg8 : w.heap.size ≤ g8 := Nat.le_trans X.size (Nat.le_of_eq eg8.symm)
  have ng8b1 := Nat.lt_of_lt_of_eq b1.lt eg8.symm
  replace b1 := b1.ext x6
  replace X := Ext.trans X x6; clear x6
  refine ops_cons rfl (ow_assign rfl ?_)
  refine ops_nil ?_
  refine c_seq ?_
  refine c_seqR ?_
  refine ops_cons rfl (ow_loadAB b1 ti62 rfl rfl ?_)
  refine ops_cons rfl (ow_callB ent252 rfl (iIsState_c _ _) (fun w10 hA x9 => ?_) (fun w10 hA x9 => by rw [hOK] at hA; cases hA))
  replace b1 := b1.ext x9
  replace b5 := b5.ext x9
  replace X := Ext.trans X x9; clear x9
  refine ops_cons rfl (ow_not rfl ?_)
  refine ops_nil ?_
  refine c_false rfl ?_
  refine c_skip ?_
  refine tq_n ?_
  refine c_seq ?_
  refine c_seqR ?_
  refine ops_cons rfl (ow_move rfl ?_)
  refine ops_cons rfl (ow_callB ent109 rfl (within_c _ _ _ _) (fun w12 hA x11 => ?_) (fun w12 hA x11 => by simp [inB] at hA; omega))
  replace b1 := b1.ext x11
  replace b5 := b5.ext x11
  replace X := Ext.trans X x11; clear x11
  refine ops_cons rfl (ow_not rfl ?_)
  refine ops_cons rfl (ow_move rfl ?_)
  refine ops_want rfl rfl rfl (ow_move rfl ?_)
  refine ops_want rfl rfl rfl (ow_callB ent109 rfl (within_c _ _ _ _) (fun w14 hA x13 => ?_) (fun w14 hA x13 => by simp [inB] at hA; omega))
  replace b1 := b1.ext x13
  replace b5 := b5.ext x13
  replace X := Ext.trans X x13; clear x13
  refine ops_want rfl rfl rfl (ow_not rfl ?_)
  refine ops_cons rfl (ow_pick rfl rfl ?_)
  refine ops_cons rfl (ow_move rfl ?_)
  refine ops_want rfl rfl rfl (ow_move rfl ?_)
  refine ops_want rfl rfl rfl (ow_callB ent109 rfl (within_c _ _ _ _) (fun w16 hA x15 => ?_) (fun w16 hA x15 => by simp [inB] at hA; omega))
  replace b1 := b1.ext x15
  replace b5 := b5.ext x15
  replace X := Ext.trans X x15; clear x15
  refine ops_want rfl rfl rfl (ow_not rfl ?_)
  refine ops_cons rfl (ow_pick rfl rfl ?_)
  refine ops_cons rfl (ow_move rfl ?_)
  refine ops_want rfl rfl rfl (ow_fieldAddrB off62_3 rfl rfl ?_)
  refine ops_want rfl rfl rfl (ow_loadB b1 ti2 rfl rfl ?_)
  refine ops_want rfl rfl rfl (ow_move rfl ?_)
  refine ops_want rfl rfl rfl (ow_geq2 rfl rfl (fun h17 => absurd h17 (by omega)) (fun h17 => ?_))
  refine ops_cons rfl (ow_pick rfl rfl ?_)
  refine ops_cons rfl (ow_move rfl ?_)
  refine ops_want rfl rfl rfl (ow_fieldAddrB off62_2 rfl rfl ?_)
  refine ops_want rfl rfl rfl (ow_loadB b1 ti2 rfl rfl ?_)
  refine ops_want rfl rfl rfl (ow_move rfl ?_)
  refine ops_want rfl rfl rfl (ow_geq2 rfl rfl (fun h18 => absurd h18 (by omega)) (fun h18 => ?_))
  refine ops_cons rfl (ow_pick rfl rfl ?_)
  refine ops_nil ?_
  refine c_false rfl ?_
  refine c_skip ?_
  refine tq_n ?_
  refine c_seqR ?_
  refine ops_cons rfl (ow_fieldAddrB off62_0 rfl rfl ?_)
  refine ops_cons rfl (ow_loadB b1 ti2 rfl rfl ?_)
  refine ops_cons rfl (ow_move rfl ?_)
  refine ops_cons rfl (ow_add rfl rfl (w64 (by omega)) ?_)
  refine ops_cons rfl (ow_rem rfl rfl (by omega) (m64 (by omega)) ?_)
  generalize ht : (s.time + dur) % 65536 = tt
  refine ops_cons rfl (ow_fieldAddrB off62_0 rfl rfl ?_)
  refine ops_cons rfl (ow_storeB b1 ti2 rfl rfl rfl rfl rfl rfl ?_)
  intro w20 b22 hg19 z21
  replace b5 := b5.grown hg19 (by intro h; injection h; omega)
  replace X := X.grown hg19 X.size (by intro g hg; injection hg; omega)
  clear hg19 b1
  refine ops_nil ?_
  refine c_seqR ?_
  refine ops_cons rfl (ow_fieldAddrB off62_3 rfl rfl ?_)
  refine ops_cons rfl (ow_loadB b22 ti2 rfl rfl ?_)
  refine ops_cons rfl (ow_add rfl rfl (w64 (by omega)) ?_)
  refine ops_cons rfl (ow_fieldAddrB off62_3 rfl rfl ?_)
  refine ops_cons rfl (ow_storeB b22 ti2 rfl rfl rfl rfl rfl rfl ?_)
  intro w24 b26 hg23 z25
  replace b5 := b5.grown hg23 (by intro h; injection h; omega)
  replace X := X.grown hg23 X.size (by intro g hg; injection hg; omega)
  clear hg23 b22
  refine ops_nil ?_
  refine c_seq ?_
  refine c_seqR ?_
  refine ops_cons rfl (ow_fieldAddrB off62_3 rfl rfl ?_)
  refine ops_cons rfl (ow_loadB b26 ti2 rfl rfl ?_)
  refine ops_cons rfl (ow_move rfl ?_)
  refine ops_cons rfl (ow_eql2 rfl rfl (fun hc => ?_) (fun hc => ?_))
  refine ops_nil ?_
  refine c_true rfl ?_
  refine c_seqR ?_
  refine ops_cons rfl (ow_fieldAddrB off62_3 rfl rfl ?_)
  refine ops_cons rfl (ow_storeB b26 ti2 rfl rfl rfl rfl rfl rfl ?_)
  intro w28 b30 hg27 z29
  replace b5 := b5.grown hg27 (by intro h; injection h; omega)
  replace X := X.grown hg27 X.size (by intro g hg; injection hg; omega)
  clear hg27 b26
  refine ops_nil ?_
  refine c_region ?_
  refine ops_cons rfl (ow_fieldAddrB off62_2 rfl rfl ?_)
  refine ops_cons rfl (ow_loadB b30 ti2 rfl rfl ?_)
  refine ops_cons rfl (ow_add rfl rfl (w64 (by omega)) ?_)
  refine ops_cons rfl (ow_move rfl ?_)
  refine ops_cons rfl (ow_rem rfl rfl (by omega) (m64 (by omega)) ?_)
  generalize hr : (s.round + 1) % rd = rr
  refine ops_cons rfl (ow_fieldAddrB off62_2 rfl rfl ?_)
  refine ops_cons rfl (ow_storeB b30 ti2 rfl rfl rfl rfl rfl rfl ?_)
  intro w32 b34 hg31 z33
  replace b5 := b5.grown hg31 (by intro h; injection h; omega)
  replace X := X.grown hg31 X.size (by intro g hg; injection hg; omega)
  clear hg31 b30
  refine ops_nil ?_
  refine tq_n ?_
  refine c_seqR ?_
  refine ops_cons rfl (ow_loadAB b34 ti62 rfl rfl ?_)
  refine ops_cons rfl (ow_storeB b5 ti62 rfl rfl rfl rfl rfl rfl ?_)
  intro w36 b38 hg35 z37
  replace b34 := b34.grown hg35 (by intro h; injection h; omega)
  replace X := X.grown hg35 X.size (by intro g hg; injection hg; omega)
  clear hg35 b5
  refine ops_cons rfl (ow_assign rfl ?_)
  refine ops_nil ?_
  refine c_ret ?_
  refine fin_cell2 rfl rfl b38 ti62 rfl rfl ?_
  · skip
    first
    | (rw [advS, if_pos (by omega), ht, hr]; exact ⟨rfl, X⟩)
    | (rw [advS, if_neg (by omega), ht]; exact ⟨rfl, X⟩)
  refine ops_nil ?_
  refine c_false rfl ?_
  refine c_skip ?_
  refine tq_n ?_
  refine c_seqR ?_
  refine ops_cons rfl (ow_loadAB b26 ti62 rfl rfl ?_)
  refine ops_cons rfl (ow_storeB b5 ti62 rfl rfl rfl rfl rfl rfl ?_)
  intro w40 b42 hg39 z41
  replace b26 := b26.grown hg39 (by intro h; injection h; omega)
  replace X := X.grown hg39 X.size (by intro g hg; injection hg; omega)
  clear hg39 b5
  refine ops_cons rfl (ow_assign rfl ?_)
  refine ops_nil ?_
  refine c_ret ?_
  refine fin_cell2 rfl rfl b42 ti62 rfl rfl ?_
  · skip
    first
    | (rw [advS, if_pos (by omega), ht, hr]; exact ⟨rfl, X⟩)
    | (rw [advS, if_neg (by omega), ht]; exact ⟨rfl, X⟩)

theorem l15Next_c (m : MedlI) (B : Nat) (s : StateI) (w : World) (hm : Med B w m) (hz : m.small) (hW : WellF m.d) (hB : belongsB m.d s = true) :
    Calls Tryz.prog 136 #[.agg m.cells.toArray, .agg s.cells.toArray] w (Ret fun v w' => v = .agg (nextS m.d s).cells.toArray ∧ Ext w w') := by
  have hls := hz.ls
  have hlm := hz.lm
  have hln := hz.ln
  obtain ⟨k, x, j, y, bl, hx, hxi, hj, hy, hda, hso, hro, hno, hyd⟩ := bel_get hW hB
  have hst := stateOk_in bl.ok
  have hok : ∀ x ∈ m.ss, slotOk x = true := isST_all hW.st
  have brd := bl.rd
  have bsl := bl.sl
  have Bhm := hm.1
  have X := Ext.refl w
  refine calls_of (args := [.agg m.cells.toArray, .agg s.cells.toArray]) Tryz.func136 Tryz.ntmps136 rfl rfl ?_
  refine c_seqR ?_
  refine ops_cons rfl (ow_box rfl rfl ?_)
  intro g4 w3 eg4 b1 x2 zg4
  have lg4 : w.heap.size ≤ g4 := Nat.le_trans X.size (Nat.le_of_eq eg4.symm)
  have pg4hm := Nat.le_trans hm.1 (Nat.le_of_eq eg4.symm)
  replace hm := hm.ext x2
  replace X := Ext.trans X x2; clear x2
  refine ops_cons rfl (ow_box rfl rfl ?_)
  intro g8 w7 eg8 b5 x6 zg8
  have lg8 : w.heap.size ≤ g8 := Nat.le_trans X.size (Nat.le_of_eq eg8.symm)
  have pg8hm := Nat.le_trans hm.1 (Nat.le_of_eq eg8.symm)
  have ng8b1 := Nat.lt_of_lt_of_eq b1.lt eg8.symm
  replace hm := hm.ext x6
  replace b1 := b1.ext x6
  replace X := Ext.trans X x6; clear x6
  refine ops_cons rfl (ow_alloc ti62 ?_)
  intro g12 w11 eg12 b9 x10 zg12
  have lg12 : w.heap.size ≤ g12 := Nat.le_trans X.size (Nat.le_of_eq eg12.symm)
  have pg12hm := Nat.le_trans hm.1 (Nat.le_of_eq eg12.symm)
  have ng12b1 := Nat.lt_of_lt_of_eq b1.lt eg12.symm
  have ng12b5 := Nat.lt_of_lt_of_eq b5.lt eg12.symm
  replace hm := hm.ext x10
  replace b1 := b1.ext x10
  replace b5 := b5.ext x10
  replace X := Ext.trans X x10; clear x10
  refine ops_nil ?_
  refine c_seqD [false, false, false, false, false, false, false, false, false, false, false, false, false, false, false, false, false, false, false, false] mixed (by kernel_rfl) ?_
  refine f_q rfl (fun wq sq => ow_loadAB (b5.ext sq) ti62 rfl rfl ⟨rfl, Ext.refl _⟩) ?_
  refine f_q rfl (fun wq sq => ow_loadAB (b1.ext sq) ti28 rfl rfl ⟨rfl, Ext.refl _⟩) ?_
  refine f_q rfl (fun wq sq => ow_loadAB (b5.ext sq) ti62 rfl rfl ⟨rfl, Ext.refl _⟩) ?_
  refine f_q rfl (fun wq sq => ow_call ent134 rfl (l15Desc_c m _ s _ (hm.ext sq) hz hW hB)) ?_
  refine f_q rfl (fun wq sq => ow_field rfl rfl ⟨rfl, Ext.refl _⟩) ?_
  refine f_q rfl (fun wq sq => ow_fieldAddrB off28_2 rfl rfl ⟨rfl, Ext.refl _⟩) ?_
  refine f_q rfl (fun wq sq => ow_loadB (b1.ext sq) ti25 rfl rfl ⟨rfl, Ext.refl _⟩) ?_
  refine f_q rfl (fun wq sq => ow_fieldAddrB off62_1 rfl rfl ⟨rfl, Ext.refl _⟩) ?_
  refine f_q rfl (fun wq sq => ow_loadB (b5.ext sq) ti2 rfl rfl ⟨rfl, Ext.refl _⟩) ?_
  refine f_q rfl (fun wq sq => ow_indexT ((hm.ext sq)).sm ModeI.len rfl el25 rfl rfl rfl hx bl.md ⟨rfl, Ext.refl _⟩) ?_
  refine f_q rfl (fun wq sq => ow_fieldAddr off92_1 rfl ⟨rfl, Ext.refl _⟩) ?_
  refine f_q rfl (fun wq sq => ow_loadTF ((hm.ext sq)).sm ModeI.len hx ti2 rfl rfl rfl ⟨rfl, Ext.refl _⟩) ?_
  refine f_q rfl (fun wq sq => ow_fieldAddrB off28_2 rfl rfl ⟨rfl, Ext.refl _⟩) ?_
  refine f_q rfl (fun wq sq => ow_loadB (b1.ext sq) ti25 rfl rfl ⟨rfl, Ext.refl _⟩) ?_
  refine f_q rfl (fun wq sq => ow_fieldAddrB off62_1 rfl rfl ⟨rfl, Ext.refl _⟩) ?_
  refine f_q rfl (fun wq sq => ow_loadB (b5.ext sq) ti2 rfl rfl ⟨rfl, Ext.refl _⟩) ?_
  refine f_q rfl (fun wq sq => ow_indexT ((hm.ext sq)).sm ModeI.len rfl el25 rfl rfl rfl hx bl.md ⟨rfl, Ext.refl _⟩) ?_
  refine f_q rfl (fun wq sq => ow_fieldAddr off92_0 rfl ⟨rfl, Ext.refl _⟩) ?_
  refine f_q rfl (fun wq sq => ow_loadTF ((hm.ext sq)).sm ModeI.len hx ti2 rfl rfl rfl ⟨rfl, Ext.refl _⟩) ?_
  refine f_q rfl (fun wq sq => ow_call ent208 rfl (l04Advance_c s (descAt m.ss s.mode s.round s.slot).duration x.m.slots x.m.rounds _ bl.ok (by rw [hda]; omega) hxi.2 hxi.1)) ?_
  refine f_nil (fun w13 sq => ?_)
  have xq := sq
  replace hm := hm.ext xq
  replace b1 := b1.ext xq
  replace b5 := b5.ext xq
  replace b9 := b9.ext xq
  replace X := Ext.trans X xq; clear xq sq
  refine ops_cons rfl (ow_storeB b9 ti62 rfl rfl rfl rfl rfl rfl ?_)
  intro w15 b17 hg14 z16
  replace hm := hm.grown hg14 (by intro g hg; injection hg; omega)
  replace b1 := b1.grown hg14 (by intro h; injection h; omega)
  replace b5 := b5.grown hg14 (by intro h; injection h; omega)
  replace X := X.grown hg14 X.size (by intro g hg; injection hg; omega)
  clear hg14 b9
  refine ops_nil ?_
  refine c_ret ?_
  refine fin_cell1 rfl rfl b17 ti62 rfl ?_
  · skip
    unfold nextS
    rw [hso, hro]
    exact ⟨rfl, X⟩

theorem nextState_c (m : MedlI) (B : Nat) (s : StateI) (w : World) (hm : Med B w m) (hz : m.small) (hW : WellF m.d) (hB : belongsB m.d s = true) :
    Calls Tryz.prog 135 #[.agg m.cells.toArray, .agg s.cells.toArray] w (Ret fun v w' => v = .agg (nextS m.d s).cells.toArray ∧ Ext w w') := by
  have hls := hz.ls
  have hlm := hz.lm
  have hln := hz.ln
  obtain ⟨k, x, j, y, bl, hx, hxi, hj, hy, hda, hso, hro, hno, hyd⟩ := bel_get hW hB
  have hst := stateOk_in bl.ok
  have hok : ∀ x ∈ m.ss, slotOk x = true := isST_all hW.st
  have brd := bl.rd
  have bsl := bl.sl
  have Bhm := hm.1
  have X := Ext.refl w
  refine calls_of (args := [.agg m.cells.toArray, .agg s.cells.toArray]) Tryz.func135 Tryz.ntmps135 rfl rfl ?_
  refine c_seqR ?_
  refine ops_cons rfl (ow_box rfl rfl ?_)
  intro gM w2 egM bM x1 zgM
  have lgM : w.heap.size ≤ gM := Nat.le_trans X.size (Nat.le_of_eq egM.symm)
  have pgMhm := Nat.le_trans hm.1 (Nat.le_of_eq egM.symm)
  replace hm := hm.ext x1
  replace X := Ext.trans X x1; clear x1
  refine ops_cons rfl (ow_box rfl rfl ?_)
  intro gS w4 egS bS x3 zgS
  have lgS : w.heap.size ≤ gS := Nat.le_trans X.size (Nat.le_of_eq egS.symm)
  have pgShm := Nat.le_trans hm.1 (Nat.le_of_eq egS.symm)
  have ngSbM := Nat.lt_of_lt_of_eq bM.lt egS.symm
  replace hm := hm.ext x3
  replace bM := bM.ext x3
  replace X := Ext.trans X x3; clear x3
  refine ops_cons rfl (ow_alloc ti62 ?_)
  intro g8 w7 eg8 b5 x6 zg8
  have lg8 : w.heap.size ≤ g8 := Nat.le_trans X.size (Nat.le_of_eq eg8.symm)
  have pg8hm := Nat.le_trans hm.1 (Nat.le_of_eq eg8.symm)
  have ng8bM := Nat.lt_of_lt_of_eq bM.lt eg8.symm
  have ng8bS := Nat.lt_of_lt_of_eq bS.lt eg8.symm
  replace hm := hm.ext x6
  replace bM := bM.ext x6
  replace bS := bS.ext x6
  replace X := Ext.trans X x6; clear x6
  refine ops_nil ?_
  refine c_seqR ?_
  refine ops_cons rfl (ow_fieldAddrB off28_2 rfl rfl ?_)
  refine ops_cons rfl (ow_loadB bM ti25 rfl rfl ?_)
  refine ops_cons rfl (ow_fieldAddrB off62_1 rfl rfl ?_)
  refine ops_cons rfl (ow_loadB bS ti2 rfl rfl ?_)
  refine ops_cons rfl (ow_indexT hm.sm ModeI.len rfl el25 rfl rfl rfl hx bl.md ?_)
  refine ops_cons rfl (ow_loadTA hm.sm ModeI.len hx ti92 rfl ?_)
  refine ops_cons rfl (ow_alloc ti92 ?_)
  intro gX w10 egX bX x9 zgX
  have lgX : w.heap.size ≤ gX := Nat.le_trans X.size (Nat.le_of_eq egX.symm)
  have pgXhm := Nat.le_trans hm.1 (Nat.le_of_eq egX.symm)
  have ngXbM := Nat.lt_of_lt_of_eq bM.lt egX.symm
  have ngXbS := Nat.lt_of_lt_of_eq bS.lt egX.symm
  have ngXb5 := Nat.lt_of_lt_of_eq b5.lt egX.symm
  replace hm := hm.ext x9
  replace bM := bM.ext x9
  replace bS := bS.ext x9
  replace b5 := b5.ext x9
  replace X := Ext.trans X x9; clear x9
  refine ops_cons rfl (ow_storeB bX ti92 rfl rfl rfl rfl rfl rfl ?_)
  intro w12 bY hg11 z13
  replace hm := hm.grown hg11 (by intro g hg; injection hg; omega)
  replace bM := bM.grown hg11 (by intro h; injection h; omega)
  replace bS := bS.grown hg11 (by intro h; injection h; omega)
  replace b5 := b5.grown hg11 (by intro h; injection h; omega)
  replace X := X.grown hg11 X.size (by intro g hg; injection hg; omega)
  clear hg11 bX
  refine ops_nil ?_
  refine c_seqI (fun wz => Med B wz m ∧ Blk wz gM 28 m.cells ∧ Blk wz gS 62 s.cells ∧ Blk wz gX 92 x.cells) mixed ?_
  obtain ⟨w14, ew14⟩ : ∃ wy, wy = World.drew w12 := ⟨_, rfl⟩
  rw [← ew14]
  have xd : Ext w12 w14 := ew14 ▸ Ext.drew w12
  replace hm := hm.ext xd
  replace bM := bM.ext xd
  replace bS := bS.ext xd
  replace b5 := b5.ext xd
  replace bY := bY.ext xd
  replace X := Ext.trans X xd; clear xd ew14
  refine wi_take 0 rfl (by kernel_rfl) rfl (by kernel_rfl) (listed' := #[true, false, false, false, false, false, false, false, false, false, false, false, false, false, false, false]) rfl (fun wq sq => ow_loadAB sq.2.2.1 ti62 rfl rfl ⟨rfl, rfl⟩) ?_
  refine wi_take 1 rfl (by kernel_rfl) rfl (by kernel_rfl) (listed' := #[true, true, false, false, false, false, false, false, false, false, false, false, false, false, false, false]) rfl (fun wq sq => ow_loadAB sq.2.1 ti28 rfl rfl ⟨rfl, rfl⟩) ?_
  refine wi_take 2 rfl (by kernel_rfl) rfl (by kernel_rfl) (listed' := #[true, true, true, false, false, false, false, false, false, false, false, false, false, false, false, false]) rfl (fun wq sq => ow_loadAB sq.2.2.1 ti62 rfl rfl ⟨rfl, rfl⟩) ?_
  refine wi_take 5 rfl (by kernel_rfl) rfl (by kernel_rfl) (listed' := #[true, true, true, false, false, true, false, false, false, false, false, false, false, false, false, false]) rfl (fun wq sq => ow_fieldAddrB off92_1 rfl rfl ⟨rfl, rfl⟩) ?_
  refine wi_take 6 rfl (by kernel_rfl) rfl (by kernel_rfl) (listed' := #[true, true, true, false, false, true, true, false, false, false, false, false, false, false, false, false]) rfl (fun wq sq => ow_loadB sq.2.2.2 ti2 rfl rfl ⟨rfl, rfl⟩) ?_
  refine wi_take 7 rfl (by kernel_rfl) rfl (by kernel_rfl) (listed' := #[true, true, true, false, false, true, true, true, false, false, false, false, false, false, false, false]) rfl (fun wq sq => ow_fieldAddrB off92_0 rfl rfl ⟨rfl, rfl⟩) ?_
  refine wi_take 8 rfl (by kernel_rfl) rfl (by kernel_rfl) (listed' := #[true, true, true, false, false, true, true, true, true, false, false, false, false, false, false, false]) rfl (fun wq sq => ow_loadB sq.2.2.2 ti2 rfl rfl ⟨rfl, rfl⟩) ?_
  refine wi_two 3 13 rfl rfl rfl rfl (by kernel_rfl) (listed' := #[true, true, true, true, false, true, true, true, true, false, false, false, false, false, false, false]) (listed'' := #[true, true, true, false, false, true, true, true, true, false, false, false, false, true, false, false]) rfl rfl ⟨hm, bM, bS, bY⟩ ?_ ?_
  refine (ow_call ent133 rfl (ret_mono (descriptorFor_c m _ s _ hm hz hW hB) ?_))
  rintro _ w16 ⟨rfl, x15⟩
  replace hm := hm.ext x15
  replace bM := bM.ext x15
  replace bS := bS.ext x15
  replace b5 := b5.ext x15
  replace bY := bY.ext x15
  replace X := Ext.trans X x15; clear x15
  refine wi_take 4 rfl (by kernel_rfl) rfl (by kernel_rfl) (listed' := #[true, true, true, true, true, true, true, true, true, false, false, false, false, false, false, false]) rfl (fun wq sq => ow_field rfl rfl ⟨rfl, rfl⟩) ?_
  refine wi_two 9 13 rfl rfl rfl rfl (by kernel_rfl) (listed' := #[true, true, true, true, true, true, true, true, true, true, false, false, false, false, false, false]) (listed'' := #[true, true, true, true, true, true, true, true, true, false, false, false, false, true, false, false]) rfl rfl ⟨hm, bM, bS, bY⟩ ?_ ?_
  refine (ow_call ent207 rfl (ret_mono (advState_c s (descAt m.ss s.mode s.round s.slot).duration x.m.slots x.m.rounds _ bl.ok (by rw [hda]; omega) hxi.2 hxi.1 bl.sl.2 bl.rd.2) ?_))
  rintro _ w18 ⟨rfl, x17⟩
  replace hm := hm.ext x17
  replace bM := bM.ext x17
  replace bS := bS.ext x17
  replace b5 := b5.ext x17
  replace bY := bY.ext x17
  replace X := Ext.trans X x17; clear x17
  refine wi_take 10 rfl (by kernel_rfl) rfl (by kernel_rfl) (listed' := #[true, true, true, true, true, true, true, true, true, true, true, false, false, false, false, false]) rfl (fun wq sq => ow_move rfl ⟨rfl, rfl⟩) ?_
  refine wi_take 11 rfl (by kernel_rfl) rfl (by kernel_rfl) (listed' := #[true, true, true, true, true, true, true, true, true, true, true, true, false, false, false, false]) rfl (fun wq sq => ow_extract rfl rfl ⟨rfl, rfl⟩) ?_
  refine wi_take 12 rfl (by kernel_rfl) rfl (by kernel_rfl) (listed' := #[true, true, true, true, true, true, true, true, true, true, true, true, true, false, false, false]) rfl (fun wq sq => ow_extract rfl rfl ⟨rfl, rfl⟩) ?_
  refine wi_one 13 rfl rfl (by kernel_rfl) (listed' := #[true, true, true, true, true, true, true, true, true, true, true, true, true, true, false, false]) rfl ⟨hm, bM, bS, bY⟩ (ow_alloc ti62 ?_)
  intro gN w20 egN bN x19 zgN
  have lgN : w.heap.size ≤ gN := Nat.le_trans X.size (Nat.le_of_eq egN.symm)
  have pgNhm := Nat.le_trans hm.1 (Nat.le_of_eq egN.symm)
  have ngNbM := Nat.lt_of_lt_of_eq bM.lt egN.symm
  have ngNbS := Nat.lt_of_lt_of_eq bS.lt egN.symm
  have ngNb5 := Nat.lt_of_lt_of_eq b5.lt egN.symm
  have ngNbY := Nat.lt_of_lt_of_eq bY.lt egN.symm
  replace hm := hm.ext x19
  replace bM := bM.ext x19
  replace bS := bS.ext x19
  replace b5 := b5.ext x19
  replace bY := bY.ext x19
  replace X := Ext.trans X x19; clear x19
  refine wi_one 14 rfl rfl (by kernel_rfl) (listed' := #[true, true, true, true, true, true, true, true, true, true, true, true, true, true, true, false]) rfl ⟨hm, bM, bS, bY⟩ (ow_storeB bN ti62 rfl rfl rfl rfl rfl rfl ?_)
  intro w22 b24 hg21 z23
  replace hm := hm.grown hg21 (by intro g hg; injection hg; omega)
  replace bM := bM.grown hg21 (by intro h; injection h; omega)
  replace bS := bS.grown hg21 (by intro h; injection h; omega)
  replace b5 := b5.grown hg21 (by intro h; injection h; omega)
  replace bY := bY.grown hg21 (by intro h; injection h; omega)
  replace X := X.grown hg21 X.size (by intro g hg; injection hg; omega)
  clear hg21 bN
  refine wi_take 15 rfl (by kernel_rfl) rfl (by kernel_rfl) (listed' := #[true, true, true, true, true, true, true, true, true, true, true, true, true, true, true, true]) rfl (fun wq sq => ow_assign rfl ⟨rfl, rfl⟩) ?_
  refine wi_done rfl ⟨hm, bM, bS, bY⟩ (fun aj fj => ⟨_, fj, ?_⟩)
  refine c_seqR ?_
  refine ops_cons rfl (ow_loadAB b24 ti62 rfl rfl ?_)
  refine ops_cons rfl (ow_storeB b5 ti62 rfl rfl rfl rfl rfl rfl ?_)
  intro w26 b28 hg25 z27
  replace hm := hm.grown hg25 (by intro g hg; injection hg; omega)
  replace bM := bM.grown hg25 (by intro h; injection h; omega)
  replace bS := bS.grown hg25 (by intro h; injection h; omega)
  replace bY := bY.grown hg25 (by intro h; injection h; omega)
  replace b24 := b24.grown hg25 (by intro h; injection h; omega)
  replace X := X.grown hg25 X.size (by intro g hg; injection hg; omega)
  clear hg25 b5
  refine ops_nil ?_
  refine c_ret ?_
  refine fin_cell1 rfl rfl b28 ti62 rfl ?_
  · skip
    unfold nextS
    rw [hso, hro]
    exact ⟨rfl, X⟩
  refine (ow_alloc ti62 ?_)
  intro gN w30 egN bN x29 zgN
  have lgN : w.heap.size ≤ gN := Nat.le_trans X.size (Nat.le_of_eq egN.symm)
  have pgNhm := Nat.le_trans hm.1 (Nat.le_of_eq egN.symm)
  have ngNbM := Nat.lt_of_lt_of_eq bM.lt egN.symm
  have ngNbS := Nat.lt_of_lt_of_eq bS.lt egN.symm
  have ngNb5 := Nat.lt_of_lt_of_eq b5.lt egN.symm
  have ngNbY := Nat.lt_of_lt_of_eq bY.lt egN.symm
  replace hm := hm.ext x29
  replace bM := bM.ext x29
  replace bS := bS.ext x29
  replace b5 := b5.ext x29
  replace bY := bY.ext x29
  replace X := Ext.trans X x29; clear x29
  refine wi_one 9 rfl rfl (by kernel_rfl) (listed' := #[true, true, true, true, true, true, true, true, true, true, false, false, false, true, false, false]) rfl ⟨hm, bM, bS, bY⟩ (ow_call ent207 rfl (ret_mono (advState_c s (descAt m.ss s.mode s.round s.slot).duration x.m.slots x.m.rounds _ bl.ok (by rw [hda]; omega) hxi.2 hxi.1 bl.sl.2 bl.rd.2) ?_))
  rintro _ w32 ⟨rfl, x31⟩
  replace hm := hm.ext x31
  replace bM := bM.ext x31
  replace bS := bS.ext x31
  replace b5 := b5.ext x31
  replace bY := bY.ext x31
  replace bN := bN.ext x31
  replace X := Ext.trans X x31; clear x31
  refine wi_take 10 rfl (by kernel_rfl) rfl (by kernel_rfl) (listed' := #[true, true, true, true, true, true, true, true, true, true, true, false, false, true, false, false]) rfl (fun wq sq => ow_move rfl ⟨rfl, rfl⟩) ?_
  refine wi_take 11 rfl (by kernel_rfl) rfl (by kernel_rfl) (listed' := #[true, true, true, true, true, true, true, true, true, true, true, true, false, true, false, false]) rfl (fun wq sq => ow_extract rfl rfl ⟨rfl, rfl⟩) ?_
  refine wi_take 12 rfl (by kernel_rfl) rfl (by kernel_rfl) (listed' := #[true, true, true, true, true, true, true, true, true, true, true, true, true, true, false, false]) rfl (fun wq sq => ow_extract rfl rfl ⟨rfl, rfl⟩) ?_
  refine wi_one 14 rfl rfl (by kernel_rfl) (listed' := #[true, true, true, true, true, true, true, true, true, true, true, true, true, true, true, false]) rfl ⟨hm, bM, bS, bY⟩ (ow_storeB bN ti62 rfl rfl rfl rfl rfl rfl ?_)
  intro w34 b36 hg33 z35
  replace hm := hm.grown hg33 (by intro g hg; injection hg; omega)
  replace bM := bM.grown hg33 (by intro h; injection h; omega)
  replace bS := bS.grown hg33 (by intro h; injection h; omega)
  replace b5 := b5.grown hg33 (by intro h; injection h; omega)
  replace bY := bY.grown hg33 (by intro h; injection h; omega)
  replace X := X.grown hg33 X.size (by intro g hg; injection hg; omega)
  clear hg33 bN
  refine wi_take 15 rfl (by kernel_rfl) rfl (by kernel_rfl) (listed' := #[true, true, true, true, true, true, true, true, true, true, true, true, true, true, true, true]) rfl (fun wq sq => ow_assign rfl ⟨rfl, rfl⟩) ?_
  refine wi_done rfl ⟨hm, bM, bS, bY⟩ (fun aj fj => ⟨_, fj, ?_⟩)
  refine c_seqR ?_
  refine ops_cons rfl (ow_loadAB b36 ti62 rfl rfl ?_)
  refine ops_cons rfl (ow_storeB b5 ti62 rfl rfl rfl rfl rfl rfl ?_)
  intro w38 b40 hg37 z39
  replace hm := hm.grown hg37 (by intro g hg; injection hg; omega)
  replace bM := bM.grown hg37 (by intro h; injection h; omega)
  replace bS := bS.grown hg37 (by intro h; injection h; omega)
  replace bY := bY.grown hg37 (by intro h; injection h; omega)
  replace b36 := b36.grown hg37 (by intro h; injection h; omega)
  replace X := X.grown hg37 X.size (by intro g hg; injection hg; omega)
  clear hg37 b5
  refine ops_nil ?_
  refine c_ret ?_
  refine fin_cell1 rfl rfl b40 ti62 rfl ?_
  · skip
    unfold nextS
    rw [hso, hro]
    exact ⟨rfl, X⟩
  refine (ow_alloc ti62 ?_)
  intro gN w42 egN bN x41 zgN
  have lgN : w.heap.size ≤ gN := Nat.le_trans X.size (Nat.le_of_eq egN.symm)
  have pgNhm := Nat.le_trans hm.1 (Nat.le_of_eq egN.symm)
  have ngNbM := Nat.lt_of_lt_of_eq bM.lt egN.symm
  have ngNbS := Nat.lt_of_lt_of_eq bS.lt egN.symm
  have ngNb5 := Nat.lt_of_lt_of_eq b5.lt egN.symm
  have ngNbY := Nat.lt_of_lt_of_eq bY.lt egN.symm
  replace hm := hm.ext x41
  replace bM := bM.ext x41
  replace bS := bS.ext x41
  replace b5 := b5.ext x41
  replace bY := bY.ext x41
  replace X := Ext.trans X x41; clear x41
  refine wi_one 3 rfl rfl (by kernel_rfl) (listed' := #[true, true, true, true, false, true, true, true, true, false, false, false, false, true, false, false]) rfl ⟨hm, bM, bS, bY⟩ (ow_call ent133 rfl (ret_mono (descriptorFor_c m _ s _ hm hz hW hB) ?_))
  rintro _ w44 ⟨rfl, x43⟩
  replace hm := hm.ext x43
  replace bM := bM.ext x43
  replace bS := bS.ext x43
  replace b5 := b5.ext x43
  replace bY := bY.ext x43
  replace bN := bN.ext x43
  replace X := Ext.trans X x43; clear x43
  refine wi_take 4 rfl (by kernel_rfl) rfl (by kernel_rfl) (listed' := #[true, true, true, true, true, true, true, true, true, false, false, false, false, true, false, false]) rfl (fun wq sq => ow_field rfl rfl ⟨rfl, rfl⟩) ?_
  refine wi_one 9 rfl rfl (by kernel_rfl) (listed' := #[true, true, true, true, true, true, true, true, true, true, false, false, false, true, false, false]) rfl ⟨hm, bM, bS, bY⟩ (ow_call ent207 rfl (ret_mono (advState_c s (descAt m.ss s.mode s.round s.slot).duration x.m.slots x.m.rounds _ bl.ok (by rw [hda]; omega) hxi.2 hxi.1 bl.sl.2 bl.rd.2) ?_))
  rintro _ w46 ⟨rfl, x45⟩
  replace hm := hm.ext x45
  replace bM := bM.ext x45
  replace bS := bS.ext x45
  replace b5 := b5.ext x45
  replace bY := bY.ext x45
  replace bN := bN.ext x45
  replace X := Ext.trans X x45; clear x45
  refine wi_take 10 rfl (by kernel_rfl) rfl (by kernel_rfl) (listed' := #[true, true, true, true, true, true, true, true, true, true, true, false, false, true, false, false]) rfl (fun wq sq => ow_move rfl ⟨rfl, rfl⟩) ?_
  refine wi_take 11 rfl (by kernel_rfl) rfl (by kernel_rfl) (listed' := #[true, true, true, true, true, true, true, true, true, true, true, true, false, true, false, false]) rfl (fun wq sq => ow_extract rfl rfl ⟨rfl, rfl⟩) ?_
  refine wi_take 12 rfl (by kernel_rfl) rfl (by kernel_rfl) (listed' := #[true, true, true, true, true, true, true, true, true, true, true, true, true, true, false, false]) rfl (fun wq sq => ow_extract rfl rfl ⟨rfl, rfl⟩) ?_
  refine wi_one 14 rfl rfl (by kernel_rfl) (listed' := #[true, true, true, true, true, true, true, true, true, true, true, true, true, true, true, false]) rfl ⟨hm, bM, bS, bY⟩ (ow_storeB bN ti62 rfl rfl rfl rfl rfl rfl ?_)
  intro w48 b50 hg47 z49
  replace hm := hm.grown hg47 (by intro g hg; injection hg; omega)
  replace bM := bM.grown hg47 (by intro h; injection h; omega)
  replace bS := bS.grown hg47 (by intro h; injection h; omega)
  replace b5 := b5.grown hg47 (by intro h; injection h; omega)
  replace bY := bY.grown hg47 (by intro h; injection h; omega)
  replace X := X.grown hg47 X.size (by intro g hg; injection hg; omega)
  clear hg47 bN
  refine wi_take 15 rfl (by kernel_rfl) rfl (by kernel_rfl) (listed' := #[true, true, true, true, true, true, true, true, true, true, true, true, true, true, true, true]) rfl (fun wq sq => ow_assign rfl ⟨rfl, rfl⟩) ?_
  refine wi_done rfl ⟨hm, bM, bS, bY⟩ (fun aj fj => ⟨_, fj, ?_⟩)
  refine c_seqR ?_
  refine ops_cons rfl (ow_loadAB b50 ti62 rfl rfl ?_)
  refine ops_cons rfl (ow_storeB b5 ti62 rfl rfl rfl rfl rfl rfl ?_)
  intro w52 b54 hg51 z53
  replace hm := hm.grown hg51 (by intro g hg; injection hg; omega)
  replace bM := bM.grown hg51 (by intro h; injection h; omega)
  replace bS := bS.grown hg51 (by intro h; injection h; omega)
  replace bY := bY.grown hg51 (by intro h; injection h; omega)
  replace b50 := b50.grown hg51 (by intro h; injection h; omega)
  replace X := X.grown hg51 X.size (by intro g hg; injection hg; omega)
  clear hg51 b5
  refine ops_nil ?_
  refine c_ret ?_
  refine fin_cell1 rfl rfl b54 ti62 rfl ?_
  · skip
    unfold nextS
    rw [hso, hro]
    exact ⟨rfl, X⟩

theorem specNextF_c (m : MedlI) (B : Nat) (s : StateI) (w : World) (hm : Med B w m) (hz : m.small) :
    Calls Tryz.prog 57 #[.agg m.cells.toArray, .agg s.cells.toArray] w (Ret fun v w' => v = .tuple #[.agg (nextF m.d s).1.cells.toArray, .int .i64 (nextF m.d s).2] ∧ Ext w w') := by
  have hls := hz.ls
  have hlm := hz.lm
  have hln := hz.ln
  have Bhm := hm.1
  have X := Ext.refl w
  refine calls_of (args := [.agg m.cells.toArray, .agg s.cells.toArray]) Tryz.func57 Tryz.ntmps57 rfl rfl ?_
  refine c_seqR ?_
  refine ops_cons rfl (ow_box rfl rfl ?_)
  intro g4 w3 eg4 b1 x2 zg4
  have lg4 : w.heap.size ≤ g4 := Nat.le_trans X.size (Nat.le_of_eq eg4.symm)
  have pg4hm := Nat.le_trans hm.1 (Nat.le_of_eq eg4.symm)
  replace hm := hm.ext x2
  replace X := Ext.trans X x2; clear x2
  refine ops_cons rfl (ow_box rfl rfl ?_)
  intro g8 w7 eg8 b5 x6 zg8
  have lg8 : w.heap.size ≤ g8 := Nat.le_trans X.size (Nat.le_of_eq eg8.symm)
  have pg8hm := Nat.le_trans hm.1 (Nat.le_of_eq eg8.symm)
  have ng8b1 := Nat.lt_of_lt_of_eq b1.lt eg8.symm
  replace hm := hm.ext x6
  replace b1 := b1.ext x6
  replace X := Ext.trans X x6; clear x6
  refine ops_cons rfl (ow_alloc ti62 ?_)
  intro g12 w11 eg12 b9 x10 zg12
  have lg12 : w.heap.size ≤ g12 := Nat.le_trans X.size (Nat.le_of_eq eg12.symm)
  have pg12hm := Nat.le_trans hm.1 (Nat.le_of_eq eg12.symm)
  have ng12b1 := Nat.lt_of_lt_of_eq b1.lt eg12.symm
  have ng12b5 := Nat.lt_of_lt_of_eq b5.lt eg12.symm
  replace hm := hm.ext x10
  replace b1 := b1.ext x10
  replace b5 := b5.ext x10
  replace X := Ext.trans X x10; clear x10
  refine ops_cons rfl (ow_assign rfl ?_)
  refine ops_nil ?_
  refine c_seqR ?_
  refine ops_cons rfl (ow_loadAB b1 ti28 rfl rfl ?_)
  refine ops_cons rfl (ow_loadAB b5 ti62 rfl rfl ?_)
  refine ops_cons rfl (ow_call ent132 rfl (ret_mono (l15Code_c m _ s _ hm hz) ?_))
  rintro _ w14 ⟨rfl, x13⟩
  replace hm := hm.ext x13
  replace b1 := b1.ext x13
  replace b5 := b5.ext x13
  replace b9 := b9.ext x13
  replace X := Ext.trans X x13; clear x13
  refine ops_cons rfl (ow_assign rfl ?_)
  refine ops_nil ?_
  refine c_seq ?_
  refine c_seqR ?_
  refine ops_cons rfl (ow_move rfl ?_)
  refine ops_cons rfl (ow_neq2 rfl rfl (fun hC => ?_) (fun hC => ?_))
  refine ops_nil ?_
  refine c_true rfl ?_
  refine c_seqR ?_
  refine ops_cons rfl (ow_buildP pl62 ti62 rfl rfl ?_)
  refine ops_cons rfl (ow_move rfl ?_)
  refine ops_cons rfl (ow_storeB b9 ti62 rfl rfl rfl rfl rfl rfl ?_)
  intro w16 b18 hg15 z17
  replace hm := hm.grown hg15 (by intro g hg; injection hg; omega)
  replace b1 := b1.grown hg15 (by intro h; injection h; omega)
  replace b5 := b5.grown hg15 (by intro h; injection h; omega)
  replace X := X.grown hg15 X.size (by intro g hg; injection hg; omega)
  clear hg15 b9
  refine ops_cons rfl (ow_assign rfl ?_)
  refine ops_nil ?_
  refine c_ret ?_
  refine tq_r ?_
  refine fin_cell2 rfl rfl b18 ti62 rfl rfl ?_
  · skip
    first
    | (have e : nextF m.d s = (zeroS, lookC m.d s) := by rw [nextF, if_neg hC]
       rw [e]; exact ⟨rfl, X⟩)
    | (have e : nextF m.d s = (nextS m.d s, 0) := by rw [nextF, if_pos hC0]; try rfl
       rw [e]; exact ⟨rfl, X⟩)
  have hC0 : lookC m.d s = 0 := by omega
  have hm0 := lookC_zero.1 hC0
  have wf := isMedl_iff.1 hm0.1
  have hB := hm0.2
  have hok : ∀ x ∈ m.ss, slotOk x = true := isST_all wf.st
  refine ops_nil ?_
  refine c_false rfl ?_
  refine c_skip ?_
  refine tq_n ?_
  refine c_seqR ?_
  refine ops_cons rfl (ow_loadAB b1 ti28 rfl rfl ?_)
  refine ops_cons rfl (ow_loadAB b5 ti62 rfl rfl ?_)
  refine ops_cons rfl (ow_call ent136 rfl (ret_mono (l15Next_c m _ s _ hm hz wf hB) ?_))
  rintro _ w20 ⟨rfl, x19⟩
  replace hm := hm.ext x19
  replace b1 := b1.ext x19
  replace b5 := b5.ext x19
  replace b9 := b9.ext x19
  replace X := Ext.trans X x19; clear x19
  refine ops_cons rfl (ow_storeB b9 ti62 rfl rfl rfl rfl rfl rfl ?_)
  intro w22 b24 hg21 z23
  replace hm := hm.grown hg21 (by intro g hg; injection hg; omega)
  replace b1 := b1.grown hg21 (by intro h; injection h; omega)
  replace b5 := b5.grown hg21 (by intro h; injection h; omega)
  replace X := X.grown hg21 X.size (by intro g hg; injection hg; omega)
  clear hg21 b9
  refine ops_cons rfl (ow_assign rfl ?_)
  refine ops_nil ?_
  refine c_ret ?_
  refine fin_cell2 rfl rfl b24 ti62 rfl rfl ?_
  · skip
    first
    | (have e : nextF m.d s = (zeroS, lookC m.d s) := by rw [nextF, if_neg hC]
       rw [e]; exact ⟨rfl, X⟩)
    | (have e : nextF m.d s = (nextS m.d s, 0) := by rw [nextF, if_pos hC0]; try rfl
       rw [e]; exact ⟨rfl, X⟩)

theorem implNextF_c (m : MedlI) (B : Nat) (s : StateI) (w : World) (hm : Med B w m) (hz : m.small) :
    Calls Tryz.prog 56 #[.agg m.cells.toArray, .agg s.cells.toArray] w (Ret fun v w' => v = .tuple #[.agg (nextF m.d s).1.cells.toArray, .int .i64 (nextF m.d s).2] ∧ Ext w w') := by
  have hls := hz.ls
  have hlm := hz.lm
  have hln := hz.ln
  have Bhm := hm.1
  have X := Ext.refl w
  refine calls_of (args := [.agg m.cells.toArray, .agg s.cells.toArray]) Tryz.func56 Tryz.ntmps56 rfl rfl ?_
  refine c_seqR ?_
  refine ops_cons rfl (ow_box rfl rfl ?_)
  intro g4 w3 eg4 b1 x2 zg4
  have lg4 : w.heap.size ≤ g4 := Nat.le_trans X.size (Nat.le_of_eq eg4.symm)
  have pg4hm := Nat.le_trans hm.1 (Nat.le_of_eq eg4.symm)
  replace hm := hm.ext x2
  replace X := Ext.trans X x2; clear x2
  refine ops_cons rfl (ow_box rfl rfl ?_)
  intro g8 w7 eg8 b5 x6 zg8
  have lg8 : w.heap.size ≤ g8 := Nat.le_trans X.size (Nat.le_of_eq eg8.symm)
  have pg8hm := Nat.le_trans hm.1 (Nat.le_of_eq eg8.symm)
  have ng8b1 := Nat.lt_of_lt_of_eq b1.lt eg8.symm
  replace hm := hm.ext x6
  replace b1 := b1.ext x6
  replace X := Ext.trans X x6; clear x6
  refine ops_cons rfl (ow_alloc ti62 ?_)
  intro g12 w11 eg12 b9 x10 zg12
  have lg12 : w.heap.size ≤ g12 := Nat.le_trans X.size (Nat.le_of_eq eg12.symm)
  have pg12hm := Nat.le_trans hm.1 (Nat.le_of_eq eg12.symm)
  have ng12b1 := Nat.lt_of_lt_of_eq b1.lt eg12.symm
  have ng12b5 := Nat.lt_of_lt_of_eq b5.lt eg12.symm
  replace hm := hm.ext x10
  replace b1 := b1.ext x10
  replace b5 := b5.ext x10
  replace X := Ext.trans X x10; clear x10
  refine ops_cons rfl (ow_assign rfl ?_)
  refine ops_nil ?_
  refine c_seq ?_
  refine c_seqR ?_
  refine ops_cons rfl (ow_loadAB b1 ti28 rfl rfl ?_)
  refine ops_cons rfl (ow_loadAB b5 ti62 rfl rfl ?_)
  refine ops_cons rfl (ow_call ent130 rfl (ret_mono (lookCode_c m _ s _ hm hz) ?_))
  rintro _ w14 ⟨rfl, x13⟩
  replace hm := hm.ext x13
  replace b1 := b1.ext x13
  replace b5 := b5.ext x13
  replace b9 := b9.ext x13
  replace X := Ext.trans X x13; clear x13
  refine ops_cons rfl (ow_assign rfl ?_)
  refine ops_nil ?_
  refine c_seqR ?_
  refine ops_cons rfl (ow_move rfl ?_)
  refine ops_cons rfl (ow_neq2 rfl rfl (fun hC => ?_) (fun hC => ?_))
  refine ops_nil ?_
  refine c_true rfl ?_
  refine c_seqR ?_
  refine ops_cons rfl (ow_buildP pl62 ti62 rfl rfl ?_)
  refine ops_cons rfl (ow_move rfl ?_)
  refine ops_cons rfl (ow_storeB b9 ti62 rfl rfl rfl rfl rfl rfl ?_)
  intro w16 b18 hg15 z17
  replace hm := hm.grown hg15 (by intro g hg; injection hg; omega)
  replace b1 := b1.grown hg15 (by intro h; injection h; omega)
  replace b5 := b5.grown hg15 (by intro h; injection h; omega)
  replace X := X.grown hg15 X.size (by intro g hg; injection hg; omega)
  clear hg15 b9
  refine ops_cons rfl (ow_assign rfl ?_)
  refine ops_nil ?_
  refine c_ret ?_
  refine tq_r ?_
  refine fin_cell2 rfl rfl b18 ti62 rfl rfl ?_
  · skip
    first
    | (have e : nextF m.d s = (zeroS, lookC m.d s) := by rw [nextF, if_neg hC]
       rw [e]; exact ⟨rfl, X⟩)
    | (have e : nextF m.d s = (nextS m.d s, 0) := by rw [nextF, if_pos hC0]; try rfl
       rw [e]; exact ⟨rfl, X⟩)
  have hC0 : lookC m.d s = 0 := by omega
  have hm0 := lookC_zero.1 hC0
  have wf := isMedl_iff.1 hm0.1
  have hB := hm0.2
  have hok : ∀ x ∈ m.ss, slotOk x = true := isST_all wf.st
  refine ops_nil ?_
  refine c_false rfl ?_
  refine c_skip ?_
  refine tq_n ?_
  refine c_seqR ?_
  refine ops_cons rfl (ow_loadAB b1 ti28 rfl rfl ?_)
  refine ops_cons rfl (ow_loadAB b5 ti62 rfl rfl ?_)
  refine ops_cons rfl (ow_call ent135 rfl (ret_mono (nextState_c m _ s _ hm hz wf hB) ?_))
  rintro _ w20 ⟨rfl, x19⟩
  replace hm := hm.ext x19
  replace b1 := b1.ext x19
  replace b5 := b5.ext x19
  replace b9 := b9.ext x19
  replace X := Ext.trans X x19; clear x19
  refine ops_cons rfl (ow_storeB b9 ti62 rfl rfl rfl rfl rfl rfl ?_)
  intro w22 b24 hg21 z23
  replace hm := hm.grown hg21 (by intro g hg; injection hg; omega)
  replace b1 := b1.grown hg21 (by intro h; injection h; omega)
  replace b5 := b5.grown hg21 (by intro h; injection h; omega)
  replace X := X.grown hg21 X.size (by intro g hg; injection hg; omega)
  clear hg21 b9
  refine ops_cons rfl (ow_assign rfl ?_)
  refine ops_nil ?_
  refine c_ret ?_
  refine fin_cell2 rfl rfl b24 ti62 rfl rfl ?_
  · skip
    first
    | (have e : nextF m.d s = (zeroS, lookC m.d s) := by rw [nextF, if_neg hC]
       rw [e]; exact ⟨rfl, X⟩)
    | (have e : nextF m.d s = (nextS m.d s, 0) := by rw [nextF, if_pos hC0]; try rfl
       rw [e]; exact ⟨rfl, X⟩)
end Go.Proofs.YtdoibplhbdkapaaGreatDoor
