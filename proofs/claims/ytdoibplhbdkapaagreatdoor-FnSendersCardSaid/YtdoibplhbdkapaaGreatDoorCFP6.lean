/- Texts of the seat that a law needs, put together. No condition. -/
import Derived.Test.YtdoibplhbdkapaaGreatDoorCFP3
import Derived.Test.YtdoibplhbdkapaaGreatDoorCFP4
import Derived.Shelf.Strings.SlTrimAscii
namespace Go.Proofs.YtdoibplhbdkapaaGreatDoor
open Go.RowKit
set_option linter.unusedVariables false
set_option linter.unusedSimpArgs false
set_option maxRecDepth 20000
theorem dataOk_in {k z : Int} (h : dataOk k z = true) : 0 ≤ z ∧ z ≤ 32 := by
  unfold dataOk at h
  split at h
  · exact inB_iff.1 h
  · split at h
    · have := inB_iff.1 h; omega
    · simp at h; omega
theorem bodyS_in (k : Int) {z : Int} (h : 0 ≤ z ∧ z ≤ 32) : 1 ≤ bodyS k z ∧ bodyS k z ≤ 42 := by
  unfold bodyS; (repeat' split) <;> omega
theorem cellsS_in (k : Int) {z : Int} (h : 0 ≤ z ∧ z ≤ 32) : 41 ≤ cellsS k z ∧ cellsS k z ≤ 1000 := by
  have := bodyS_in k h; unfold cellsS; omega
theorem l01In_c (a b c : Int) (w : World)  :
    Calls Tryz.prog 111 #[.int .i64 a, .int .i64 b, .int .i64 c] w (Ret fun v w' => v = .bool (inB a b c) ∧ Ext w w') := by
  have X := Ext.refl w
  refine calls_of (args := [.int .i64 a, .int .i64 b, .int .i64 c]) Tryz.func111 Tryz.ntmps111 rfl rfl ?_
  refine c_seqR ?_
  refine ops_cons rfl (ow_assign rfl ?_)
  refine ops_nil ?_
  refine c_seqR ?_
  refine ops_cons rfl (ow_move rfl ?_)
  refine ops_cons rfl (ow_move rfl ?_)
  refine ops_cons rfl (ow_geq2 rfl rfl (fun h1 => ?_) (fun h1 => ?_))
  refine ops_cons rfl (ow_move rfl ?_)
  refine ops_want rfl rfl rfl (ow_move rfl ?_)
  refine ops_want rfl rfl rfl (ow_move rfl ?_)
  refine ops_want rfl rfl rfl (ow_leq rfl rfl ?_)
  refine ops_cons rfl (ow_pick rfl rfl ?_)
  refine ops_cons rfl (ow_assign rfl ?_)
  refine ops_nil ?_
  refine c_ret ?_
  refine fin_ret1 rfl rfl ?_
  exact ⟨by simp [inB, *], X⟩
  refine ops_cons rfl (ow_move rfl ?_)
  refine ops_skip rfl rfl rfl rfl ?_
  refine ops_skip rfl rfl rfl rfl ?_
  refine ops_skip rfl rfl rfl rfl ?_
  refine ops_cons rfl (ow_pick rfl rfl ?_)
  refine ops_cons rfl (ow_assign rfl ?_)
  refine ops_nil ?_
  refine c_ret ?_
  refine fin_ret1 rfl rfl ?_
  exact ⟨by simp [inB, *], X⟩

theorem within_c (a b c : Int) (w : World)  :
    Calls Tryz.prog 109 #[.int .i64 a, .int .i64 b, .int .i64 c] w (Ret fun v w' => v = .bool (inB a b c) ∧ Ext w w') := by
  have X := Ext.refl w
  refine calls_of (args := [.int .i64 a, .int .i64 b, .int .i64 c]) Tryz.func109 Tryz.ntmps109 rfl rfl ?_
  refine c_seqR ?_
  refine ops_cons rfl (ow_assign rfl ?_)
  refine ops_nil ?_
  refine c_seqR ?_
  refine ops_cons rfl (ow_move rfl ?_)
  refine ops_cons rfl (ow_move rfl ?_)
  refine ops_cons rfl (ow_geq2 rfl rfl (fun h1 => ?_) (fun h1 => ?_))
  refine ops_cons rfl (ow_move rfl ?_)
  refine ops_want rfl rfl rfl (ow_move rfl ?_)
  refine ops_want rfl rfl rfl (ow_move rfl ?_)
  refine ops_want rfl rfl rfl (ow_leq rfl rfl ?_)
  refine ops_cons rfl (ow_pick rfl rfl ?_)
  refine ops_cons rfl (ow_assign rfl ?_)
  refine ops_nil ?_
  refine c_ret ?_
  refine fin_ret1 rfl rfl ?_
  exact ⟨by simp [inB, *], X⟩
  refine ops_cons rfl (ow_move rfl ?_)
  refine ops_skip rfl rfl rfl rfl ?_
  refine ops_skip rfl rfl rfl rfl ?_
  refine ops_skip rfl rfl rfl rfl ?_
  refine ops_cons rfl (ow_pick rfl rfl ?_)
  refine ops_cons rfl (ow_assign rfl ?_)
  refine ops_nil ?_
  refine c_ret ?_
  refine fin_ret1 rfl rfl ?_
  exact ⟨by simp [inB, *], X⟩

theorem l05Node_c (a : Int) (w : World)  :
    Calls Tryz.prog 275 #[.int .i64 a] w (Ret fun v w' => v = .bool (inB a 0 31) ∧ Ext w w') := by
  have X := Ext.refl w
  refine calls_of (args := [.int .i64 a]) Tryz.func275 Tryz.ntmps275 rfl rfl ?_
  refine c_seqR ?_
  refine ops_cons rfl (ow_assign rfl ?_)
  refine ops_nil ?_
  refine c_seqR ?_
  refine ops_cons rfl (ow_move rfl ?_)
  refine ops_cons rfl (ow_call ent111 rfl (ret_mono (l01In_c _ _ _ _) ?_))
  rintro _ w2 ⟨rfl, x1⟩
  replace X := Ext.trans X x1; clear x1
  refine ops_cons rfl (ow_assign rfl ?_)
  refine ops_nil ?_
  refine c_ret ?_
  refine fin_ret1 rfl rfl ?_
  exact ⟨by first | rfl | (simp [*]; done), X⟩

theorem isNode_c (a : Int) (w : World)  :
    Calls Tryz.prog 116 #[.int .i64 a] w (Ret fun v w' => v = .bool (inB a 0 31) ∧ Ext w w') := by
  have X := Ext.refl w
  refine calls_of (args := [.int .i64 a]) Tryz.func116 Tryz.ntmps116 rfl rfl ?_
  refine c_seqR ?_
  refine ops_cons rfl (ow_assign rfl ?_)
  refine ops_nil ?_
  refine c_seqR ?_
  refine ops_cons rfl (ow_move rfl ?_)
  refine ops_cons rfl (ow_call ent109 rfl (ret_mono (within_c _ _ _ _) ?_))
  rintro _ w2 ⟨rfl, x1⟩
  replace X := Ext.trans X x1; clear x1
  refine ops_cons rfl (ow_assign rfl ?_)
  refine ops_nil ?_
  refine c_ret ?_
  refine fin_ret1 rfl rfl ?_
  exact ⟨by first | rfl | (simp [*]; done), X⟩

theorem l06Kind_c (a : Int) (w : World)  :
    Calls Tryz.prog 278 #[.int .i64 a] w (Ret fun v w' => v = .bool (inB a 0 3) ∧ Ext w w') := by
  have X := Ext.refl w
  refine calls_of (args := [.int .i64 a]) Tryz.func278 Tryz.ntmps278 rfl rfl ?_
  refine c_seqR ?_
  refine ops_cons rfl (ow_assign rfl ?_)
  refine ops_nil ?_
  refine c_seqR ?_
  refine ops_cons rfl (ow_move rfl ?_)
  refine ops_cons rfl (ow_call ent111 rfl (ret_mono (l01In_c _ _ _ _) ?_))
  rintro _ w2 ⟨rfl, x1⟩
  replace X := Ext.trans X x1; clear x1
  refine ops_cons rfl (ow_assign rfl ?_)
  refine ops_nil ?_
  refine c_ret ?_
  refine fin_ret1 rfl rfl ?_
  exact ⟨by first | rfl | (simp [*]; done), X⟩

theorem isKind_c (a : Int) (w : World)  :
    Calls Tryz.prog 262 #[.int .i64 a] w (Ret fun v w' => v = .bool (inB a 0 3) ∧ Ext w w') := by
  have X := Ext.refl w
  refine calls_of (args := [.int .i64 a]) Tryz.func262 Tryz.ntmps262 rfl rfl ?_
  refine c_seqR ?_
  refine ops_cons rfl (ow_assign rfl ?_)
  refine ops_nil ?_
  refine c_seqR ?_
  refine ops_cons rfl (ow_move rfl ?_)
  refine ops_cons rfl (ow_call ent109 rfl (ret_mono (within_c _ _ _ _) ?_))
  rintro _ w2 ⟨rfl, x1⟩
  replace X := Ext.trans X x1; clear x1
  refine ops_cons rfl (ow_assign rfl ?_)
  refine ops_nil ?_
  refine c_ret ?_
  refine fin_ret1 rfl rfl ?_
  exact ⟨by first | rfl | (simp [*]; done), X⟩

theorem l06Size_c (a b : Int) (w : World)  :
    Calls Tryz.prog 279 #[.int .i64 a, .int .i64 b] w (Ret fun v w' => v = .bool (dataOk a b) ∧ Ext w w') := by
  have X := Ext.refl w
  refine calls_of (args := [.int .i64 a, .int .i64 b]) Tryz.func279 Tryz.ntmps279 rfl rfl ?_
  refine c_seqR ?_
  refine ops_cons rfl (ow_assign rfl ?_)
  refine ops_nil ?_
  refine c_seq ?_
  refine c_seqR ?_
  refine ops_cons rfl (ow_move rfl ?_)
  refine ops_nil ?_
  refine c_block ?_
  refine c_seqR ?_
  refine ops_cons rfl (ow_eql2 rfl rfl (fun h1 => ?_) (fun h1 => ?_))
  refine ops_cons rfl (ow_assign rfl ?_)
  refine ops_nil ?_
  refine c_true rfl ?_
  refine c_seqR ?_
  refine ops_cons rfl (ow_move rfl ?_)
  refine ops_cons rfl (ow_call ent111 rfl (ret_mono (l01In_c _ _ _ _) ?_))
  rintro _ w3 ⟨rfl, x2⟩
  replace X := Ext.trans X x2; clear x2
  refine ops_cons rfl (ow_assign rfl ?_)
  refine ops_nil ?_
  refine c_ret ?_
  refine bq_r ?_
  refine tq_r ?_
  refine fin_ret1 rfl rfl ?_
  exact ⟨by simp [dataOk, *], X⟩
  refine ops_cons rfl (ow_assign rfl ?_)
  refine ops_nil ?_
  refine c_false rfl ?_
  refine c_seqR ?_
  refine ops_cons rfl (ow_eql2 rfl rfl (fun h4 => ?_) (fun h4 => ?_))
  refine ops_cons rfl (ow_assign rfl ?_)
  refine ops_nil ?_
  refine c_true rfl ?_
  refine c_seqR ?_
  refine ops_cons rfl (ow_move rfl ?_)
  refine ops_cons rfl (ow_call ent111 rfl (ret_mono (l01In_c _ _ _ _) ?_))
  rintro _ w6 ⟨rfl, x5⟩
  replace X := Ext.trans X x5; clear x5
  refine ops_cons rfl (ow_assign rfl ?_)
  refine ops_nil ?_
  refine c_ret ?_
  refine bq_r ?_
  refine tq_r ?_
  refine fin_ret1 rfl rfl ?_
  exact ⟨by simp [dataOk, *], X⟩
  refine ops_cons rfl (ow_assign rfl ?_)
  refine ops_nil ?_
  refine c_false rfl ?_
  refine c_skip ?_
  refine bq_n ?_
  refine tq_n ?_
  refine c_seqR ?_
  refine ops_cons rfl (ow_move rfl ?_)
  refine ops_cons rfl (ow_eql rfl rfl ?_)
  refine ops_cons rfl (ow_assign rfl ?_)
  refine ops_nil ?_
  refine c_ret ?_
  refine fin_ret1 rfl rfl ?_
  exact ⟨by simp [dataOk, *], X⟩

theorem isDataSize_c (a b : Int) (w : World)  :
    Calls Tryz.prog 263 #[.int .i64 a, .int .i64 b] w (Ret fun v w' => v = .bool (dataOk a b) ∧ Ext w w') := by
  have X := Ext.refl w
  refine calls_of (args := [.int .i64 a, .int .i64 b]) Tryz.func263 Tryz.ntmps263 rfl rfl ?_
  refine c_seqR ?_
  refine ops_cons rfl (ow_assign rfl ?_)
  refine ops_nil ?_
  refine c_seq ?_
  refine c_seqR ?_
  refine ops_cons rfl (ow_move rfl ?_)
  refine ops_nil ?_
  refine c_block ?_
  refine c_seqR ?_
  refine ops_cons rfl (ow_eql2 rfl rfl (fun h1 => ?_) (fun h1 => ?_))
  refine ops_cons rfl (ow_assign rfl ?_)
  refine ops_nil ?_
  refine c_true rfl ?_
  refine c_seqR ?_
  refine ops_cons rfl (ow_move rfl ?_)
  refine ops_cons rfl (ow_call ent109 rfl (ret_mono (within_c _ _ _ _) ?_))
  rintro _ w3 ⟨rfl, x2⟩
  replace X := Ext.trans X x2; clear x2
  refine ops_cons rfl (ow_assign rfl ?_)
  refine ops_nil ?_
  refine c_ret ?_
  refine bq_r ?_
  refine tq_r ?_
  refine fin_ret1 rfl rfl ?_
  exact ⟨by simp [dataOk, *], X⟩
  refine ops_cons rfl (ow_assign rfl ?_)
  refine ops_nil ?_
  refine c_false rfl ?_
  refine c_seqR ?_
  refine ops_cons rfl (ow_eql2 rfl rfl (fun h4 => ?_) (fun h4 => ?_))
  refine ops_cons rfl (ow_assign rfl ?_)
  refine ops_nil ?_
  refine c_true rfl ?_
  refine c_seqR ?_
  refine ops_cons rfl (ow_move rfl ?_)
  refine ops_cons rfl (ow_call ent109 rfl (ret_mono (within_c _ _ _ _) ?_))
  rintro _ w6 ⟨rfl, x5⟩
  replace X := Ext.trans X x5; clear x5
  refine ops_cons rfl (ow_assign rfl ?_)
  refine ops_nil ?_
  refine c_ret ?_
  refine bq_r ?_
  refine tq_r ?_
  refine fin_ret1 rfl rfl ?_
  exact ⟨by simp [dataOk, *], X⟩
  refine ops_cons rfl (ow_assign rfl ?_)
  refine ops_nil ?_
  refine c_false rfl ?_
  refine c_skip ?_
  refine bq_n ?_
  refine tq_n ?_
  refine c_seqR ?_
  refine ops_cons rfl (ow_move rfl ?_)
  refine ops_cons rfl (ow_eql rfl rfl ?_)
  refine ops_cons rfl (ow_assign rfl ?_)
  refine ops_nil ?_
  refine c_ret ?_
  refine fin_ret1 rfl rfl ?_
  exact ⟨by simp [dataOk, *], X⟩

theorem l06State_c (a : Int) (w : World)  :
    Calls Tryz.prog 274 #[.int .i64 a] w (Ret fun v w' => v = .bool (decide (a ≠ 0)) ∧ Ext w w') := by
  have X := Ext.refl w
  refine calls_of (args := [.int .i64 a]) Tryz.func274 Tryz.ntmps274 rfl rfl ?_
  refine c_seqR ?_
  refine ops_cons rfl (ow_assign rfl ?_)
  refine ops_nil ?_
  refine c_seqR ?_
  refine ops_cons rfl (ow_move rfl ?_)
  refine ops_cons rfl (ow_neq rfl rfl ?_)
  refine ops_cons rfl (ow_assign rfl ?_)
  refine ops_nil ?_
  refine c_ret ?_
  refine fin_ret1 rfl rfl ?_
  exact ⟨by rfl, X⟩

theorem hasState_c (a : Int) (w : World)  :
    Calls Tryz.prog 284 #[.int .i64 a] w (Ret fun v w' => v = .bool (decide (a ≠ 0)) ∧ Ext w w') := by
  have X := Ext.refl w
  refine calls_of (args := [.int .i64 a]) Tryz.func284 Tryz.ntmps284 rfl rfl ?_
  refine c_seqR ?_
  refine ops_cons rfl (ow_assign rfl ?_)
  refine ops_nil ?_
  refine c_seqR ?_
  refine ops_cons rfl (ow_move rfl ?_)
  refine ops_cons rfl (ow_neq rfl rfl ?_)
  refine ops_cons rfl (ow_assign rfl ?_)
  refine ops_nil ?_
  refine c_ret ?_
  refine fin_ret1 rfl rfl ?_
  exact ⟨by rfl, X⟩

theorem l06Data_c (a : Int) (w : World)  :
    Calls Tryz.prog 247 #[.int .i64 a] w (Ret fun v w' => v = .bool (decide (a = 0 ∨ a = 2)) ∧ Ext w w') := by
  have X := Ext.refl w
  refine calls_of (args := [.int .i64 a]) Tryz.func247 Tryz.ntmps247 rfl rfl ?_
  refine c_seqR ?_
  refine ops_cons rfl (ow_assign rfl ?_)
  refine ops_nil ?_
  refine c_seqR ?_
  refine ops_cons rfl (ow_move rfl ?_)
  refine ops_cons rfl (ow_eql2 rfl rfl (fun h1 => ?_) (fun h1 => ?_))
  refine ops_cons rfl (ow_move rfl ?_)
  refine ops_skip rfl rfl rfl rfl ?_
  refine ops_skip rfl rfl rfl rfl ?_
  refine ops_cons rfl (ow_pick rfl rfl ?_)
  refine ops_cons rfl (ow_assign rfl ?_)
  refine ops_nil ?_
  refine c_ret ?_
  refine fin_ret1 rfl rfl ?_
  exact ⟨by simp [*], X⟩
  refine ops_cons rfl (ow_move rfl ?_)
  refine ops_want rfl rfl rfl (ow_move rfl ?_)
  refine ops_want rfl rfl rfl (ow_eql rfl rfl ?_)
  refine ops_cons rfl (ow_pick rfl rfl ?_)
  refine ops_cons rfl (ow_assign rfl ?_)
  refine ops_nil ?_
  refine c_ret ?_
  refine fin_ret1 rfl rfl ?_
  exact ⟨by simp [*], X⟩

theorem hasData_c (a : Int) (w : World)  :
    Calls Tryz.prog 285 #[.int .i64 a] w (Ret fun v w' => v = .bool (decide (a = 0 ∨ a = 2)) ∧ Ext w w') := by
  have X := Ext.refl w
  refine calls_of (args := [.int .i64 a]) Tryz.func285 Tryz.ntmps285 rfl rfl ?_
  refine c_seqR ?_
  refine ops_cons rfl (ow_assign rfl ?_)
  refine ops_nil ?_
  refine c_seqR ?_
  refine ops_cons rfl (ow_move rfl ?_)
  refine ops_cons rfl (ow_eql2 rfl rfl (fun h1 => ?_) (fun h1 => ?_))
  refine ops_cons rfl (ow_move rfl ?_)
  refine ops_skip rfl rfl rfl rfl ?_
  refine ops_skip rfl rfl rfl rfl ?_
  refine ops_cons rfl (ow_pick rfl rfl ?_)
  refine ops_cons rfl (ow_assign rfl ?_)
  refine ops_nil ?_
  refine c_ret ?_
  refine fin_ret1 rfl rfl ?_
  exact ⟨by simp [*], X⟩
  refine ops_cons rfl (ow_move rfl ?_)
  refine ops_want rfl rfl rfl (ow_move rfl ?_)
  refine ops_want rfl rfl rfl (ow_eql rfl rfl ?_)
  refine ops_cons rfl (ow_pick rfl rfl ?_)
  refine ops_cons rfl (ow_assign rfl ?_)
  refine ops_nil ?_
  refine c_ret ?_
  refine fin_ret1 rfl rfl ?_
  exact ⟨by simp [*], X⟩

theorem l06Body_c (a b : Int) (w : World) (hb : 0 ≤ b ∧ b ≤ 32) :
    Calls Tryz.prog 256 #[.int .i64 a, .int .i64 b] w (Ret fun v w' => v = .int .i64 (bodyS a b) ∧ Ext w w') := by
  have X := Ext.refl w
  refine calls_of (args := [.int .i64 a, .int .i64 b]) Tryz.func256 Tryz.ntmps256 rfl rfl ?_
  refine c_seqR ?_
  refine ops_cons rfl (ow_assign rfl ?_)
  refine ops_nil ?_
  refine c_seqR ?_
  refine ops_cons rfl (ow_assign rfl ?_)
  refine ops_nil ?_
  refine c_seq ?_
  refine c_seqR ?_
  refine ops_cons rfl (ow_move rfl ?_)
  refine ops_cons rfl (ow_callB ent274 rfl (l06State_c _ _) (fun w3 h1 x2 => ?_) (fun w3 h1 x2 => ?_))
  replace X := Ext.trans X x2; clear x2
  refine ops_nil ?_
  refine c_true rfl ?_
  refine c_region ?_
  refine ops_cons rfl (ow_move rfl ?_)
  refine ops_cons rfl (ow_add rfl rfl (w64 (by omega)) ?_)
  refine ops_cons rfl (ow_assign rfl ?_)
  refine ops_nil ?_
  refine tq_n ?_
  refine c_seq ?_
  refine c_seqR ?_
  refine ops_cons rfl (ow_move rfl ?_)
  refine ops_cons rfl (ow_callB ent247 rfl (l06Data_c _ _) (fun w6 h4 x5 => ?_) (fun w6 h4 x5 => ?_))
  replace X := Ext.trans X x5; clear x5
  refine ops_nil ?_
  refine c_true rfl ?_
  refine c_region ?_
  refine ops_cons rfl (ow_move rfl ?_)
  refine ops_cons rfl (ow_add rfl rfl (w64 (by omega)) ?_)
  refine ops_cons rfl (ow_move rfl ?_)
  refine ops_cons rfl (ow_add rfl rfl (w64 (by omega)) ?_)
  refine ops_cons rfl (ow_assign rfl ?_)
  refine ops_nil ?_
  refine tq_n ?_
  refine c_seqR ?_
  refine ops_cons rfl (ow_move rfl ?_)
  refine ops_cons rfl (ow_assign rfl ?_)
  refine ops_nil ?_
  refine c_ret ?_
  refine fin_ret1 rfl rfl ?_
  · skip
    refine ⟨congrArg (Value.int .i64) ?_, X⟩
    simp only [decide_eq_true_eq, decide_eq_false_iff_not] at *
    unfold bodyS
    (repeat' split) <;> omega
  replace X := Ext.trans X x5; clear x5
  refine ops_nil ?_
  refine c_false rfl ?_
  refine c_skip ?_
  refine tq_n ?_
  refine c_seqR ?_
  refine ops_cons rfl (ow_move rfl ?_)
  refine ops_cons rfl (ow_assign rfl ?_)
  refine ops_nil ?_
  refine c_ret ?_
  refine fin_ret1 rfl rfl ?_
  · skip
    refine ⟨congrArg (Value.int .i64) ?_, X⟩
    simp only [decide_eq_true_eq, decide_eq_false_iff_not] at *
    unfold bodyS
    (repeat' split) <;> omega
  replace X := Ext.trans X x2; clear x2
  refine ops_nil ?_
  refine c_false rfl ?_
  refine c_skip ?_
  refine tq_n ?_
  refine c_seq ?_
  refine c_seqR ?_
  refine ops_cons rfl (ow_move rfl ?_)
  refine ops_cons rfl (ow_callB ent247 rfl (l06Data_c _ _) (fun w9 h7 x8 => ?_) (fun w9 h7 x8 => ?_))
  replace X := Ext.trans X x8; clear x8
  refine ops_nil ?_
  refine c_true rfl ?_
  refine c_region ?_
  refine ops_cons rfl (ow_move rfl ?_)
  refine ops_cons rfl (ow_add rfl rfl (w64 (by omega)) ?_)
  refine ops_cons rfl (ow_move rfl ?_)
  refine ops_cons rfl (ow_add rfl rfl (w64 (by omega)) ?_)
  refine ops_cons rfl (ow_assign rfl ?_)
  refine ops_nil ?_
  refine tq_n ?_
  refine c_seqR ?_
  refine ops_cons rfl (ow_move rfl ?_)
  refine ops_cons rfl (ow_assign rfl ?_)
  refine ops_nil ?_
  refine c_ret ?_
  refine fin_ret1 rfl rfl ?_
  · skip
    refine ⟨congrArg (Value.int .i64) ?_, X⟩
    simp only [decide_eq_true_eq, decide_eq_false_iff_not] at *
    unfold bodyS
    (repeat' split) <;> omega
  replace X := Ext.trans X x8; clear x8
  refine ops_nil ?_
  refine c_false rfl ?_
  refine c_skip ?_
  refine tq_n ?_
  refine c_seqR ?_
  refine ops_cons rfl (ow_move rfl ?_)
  refine ops_cons rfl (ow_assign rfl ?_)
  refine ops_nil ?_
  refine c_ret ?_
  refine fin_ret1 rfl rfl ?_
  · skip
    refine ⟨congrArg (Value.int .i64) ?_, X⟩
    simp only [decide_eq_true_eq, decide_eq_false_iff_not] at *
    unfold bodyS
    (repeat' split) <;> omega

theorem bodySize_c (a b : Int) (w : World) (hb : 0 ≤ b ∧ b ≤ 32) :
    Calls Tryz.prog 277 #[.int .i64 a, .int .i64 b] w (Ret fun v w' => v = .int .i64 (bodyS a b) ∧ Ext w w') := by
  have X := Ext.refl w
  refine calls_of (args := [.int .i64 a, .int .i64 b]) Tryz.func277 Tryz.ntmps277 rfl rfl ?_
  refine c_seqR ?_
  refine ops_cons rfl (ow_assign rfl ?_)
  refine ops_nil ?_
  refine c_seqR ?_
  refine ops_cons rfl (ow_assign rfl ?_)
  refine ops_nil ?_
  refine c_seq ?_
  refine c_seqR ?_
  refine ops_cons rfl (ow_move rfl ?_)
  refine ops_cons rfl (ow_callB ent284 rfl (hasState_c _ _) (fun w3 h1 x2 => ?_) (fun w3 h1 x2 => ?_))
  replace X := Ext.trans X x2; clear x2
  refine ops_nil ?_
  refine c_true rfl ?_
  refine c_region ?_
  refine ops_cons rfl (ow_move rfl ?_)
  refine ops_cons rfl (ow_add rfl rfl (w64 (by omega)) ?_)
  refine ops_cons rfl (ow_assign rfl ?_)
  refine ops_nil ?_
  refine tq_n ?_
  refine c_seq ?_
  refine c_seqR ?_
  refine ops_cons rfl (ow_move rfl ?_)
  refine ops_cons rfl (ow_callB ent285 rfl (hasData_c _ _) (fun w6 h4 x5 => ?_) (fun w6 h4 x5 => ?_))
  replace X := Ext.trans X x5; clear x5
  refine ops_nil ?_
  refine c_true rfl ?_
  refine c_region ?_
  refine ops_cons rfl (ow_move rfl ?_)
  refine ops_cons rfl (ow_move rfl ?_)
  refine ops_cons rfl (ow_add rfl rfl (w64 (by omega)) ?_)
  refine ops_cons rfl (ow_add rfl rfl (w64 (by omega)) ?_)
  refine ops_cons rfl (ow_assign rfl ?_)
  refine ops_nil ?_
  refine tq_n ?_
  refine c_seqR ?_
  refine ops_cons rfl (ow_move rfl ?_)
  refine ops_cons rfl (ow_assign rfl ?_)
  refine ops_nil ?_
  refine c_ret ?_
  refine fin_ret1 rfl rfl ?_
  · skip
    refine ⟨congrArg (Value.int .i64) ?_, X⟩
    simp only [decide_eq_true_eq, decide_eq_false_iff_not] at *
    unfold bodyS
    (repeat' split) <;> omega
  replace X := Ext.trans X x5; clear x5
  refine ops_nil ?_
  refine c_false rfl ?_
  refine c_skip ?_
  refine tq_n ?_
  refine c_seqR ?_
  refine ops_cons rfl (ow_move rfl ?_)
  refine ops_cons rfl (ow_assign rfl ?_)
  refine ops_nil ?_
  refine c_ret ?_
  refine fin_ret1 rfl rfl ?_
  · skip
    refine ⟨congrArg (Value.int .i64) ?_, X⟩
    simp only [decide_eq_true_eq, decide_eq_false_iff_not] at *
    unfold bodyS
    (repeat' split) <;> omega
  replace X := Ext.trans X x2; clear x2
  refine ops_nil ?_
  refine c_false rfl ?_
  refine c_skip ?_
  refine tq_n ?_
  refine c_seq ?_
  refine c_seqR ?_
  refine ops_cons rfl (ow_move rfl ?_)
  refine ops_cons rfl (ow_callB ent285 rfl (hasData_c _ _) (fun w9 h7 x8 => ?_) (fun w9 h7 x8 => ?_))
  replace X := Ext.trans X x8; clear x8
  refine ops_nil ?_
  refine c_true rfl ?_
  refine c_region ?_
  refine ops_cons rfl (ow_move rfl ?_)
  refine ops_cons rfl (ow_move rfl ?_)
  refine ops_cons rfl (ow_add rfl rfl (w64 (by omega)) ?_)
  refine ops_cons rfl (ow_add rfl rfl (w64 (by omega)) ?_)
  refine ops_cons rfl (ow_assign rfl ?_)
  refine ops_nil ?_
  refine tq_n ?_
  refine c_seqR ?_
  refine ops_cons rfl (ow_move rfl ?_)
  refine ops_cons rfl (ow_assign rfl ?_)
  refine ops_nil ?_
  refine c_ret ?_
  refine fin_ret1 rfl rfl ?_
  · skip
    refine ⟨congrArg (Value.int .i64) ?_, X⟩
    simp only [decide_eq_true_eq, decide_eq_false_iff_not] at *
    unfold bodyS
    (repeat' split) <;> omega
  replace X := Ext.trans X x8; clear x8
  refine ops_nil ?_
  refine c_false rfl ?_
  refine c_skip ?_
  refine tq_n ?_
  refine c_seqR ?_
  refine ops_cons rfl (ow_move rfl ?_)
  refine ops_cons rfl (ow_assign rfl ?_)
  refine ops_nil ?_
  refine c_ret ?_
  refine fin_ret1 rfl rfl ?_
  · skip
    refine ⟨congrArg (Value.int .i64) ?_, X⟩
    simp only [decide_eq_true_eq, decide_eq_false_iff_not] at *
    unfold bodyS
    (repeat' split) <;> omega

theorem l08Cells_c (a b : Int) (w : World) (hb : 0 ≤ b ∧ b ≤ 32) :
    Calls Tryz.prog 215 #[.int .i64 a, .int .i64 b] w (Ret fun v w' => v = .int .i64 (cellsS a b) ∧ Ext w w') := by
  have h1 := bodyS_in a hb
  have X := Ext.refl w
  refine calls_of (args := [.int .i64 a, .int .i64 b]) Tryz.func215 Tryz.ntmps215 rfl rfl ?_
  refine c_seqR ?_
  refine ops_cons rfl (ow_assign rfl ?_)
  refine ops_nil ?_
  refine c_seqR ?_
  refine ops_cons rfl (ow_move rfl ?_)
  refine ops_cons rfl (ow_move rfl ?_)
  refine ops_cons rfl (ow_call ent256 rfl (ret_mono (l06Body_c _ _ _ hb) ?_))
  rintro _ w2 ⟨rfl, x1⟩
  replace X := Ext.trans X x1; clear x1
  refine ops_cons rfl (ow_add rfl rfl (w64 (by omega)) ?_)
  refine ops_cons rfl (ow_mul rfl rfl (w64 (by omega)) ?_)
  refine ops_cons rfl (ow_add rfl rfl (w64 (by omega)) ?_)
  refine ops_cons rfl (ow_assign rfl ?_)
  refine ops_nil ?_
  refine c_ret ?_
  refine fin_ret1 rfl rfl ?_
  exact ⟨by rfl, X⟩

theorem cellsNeeded_c (a b : Int) (w : World) (hb : 0 ≤ b ∧ b ≤ 32) :
    Calls Tryz.prog 264 #[.int .i64 a, .int .i64 b] w (Ret fun v w' => v = .int .i64 (cellsS a b) ∧ Ext w w') := by
  have h1 := bodyS_in a hb
  have X := Ext.refl w
  refine calls_of (args := [.int .i64 a, .int .i64 b]) Tryz.func264 Tryz.ntmps264 rfl rfl ?_
  refine c_seqR ?_
  refine ops_cons rfl (ow_assign rfl ?_)
  refine ops_nil ?_
  refine c_seqR ?_
  refine ops_cons rfl (ow_move rfl ?_)
  refine ops_cons rfl (ow_move rfl ?_)
  refine ops_cons rfl (ow_call ent277 rfl (ret_mono (bodySize_c _ _ _ hb) ?_))
  rintro _ w2 ⟨rfl, x1⟩
  replace X := Ext.trans X x1; clear x1
  refine ops_cons rfl (ow_add rfl rfl (w64 (by omega)) ?_)
  refine ops_cons rfl (ow_mul rfl rfl (w64 (by omega)) ?_)
  refine ops_cons rfl (ow_add rfl rfl (w64 (by omega)) ?_)
  refine ops_cons rfl (ow_assign rfl ?_)
  refine ops_nil ?_
  refine c_ret ?_
  refine fin_ret1 rfl rfl ?_
  exact ⟨by rfl, X⟩

theorem sIsDesc_c (d : Desc) (w : World)  :
    Calls Tryz.prog 266 #[.agg d.cells.toArray] w (Ret fun v w' => v = .bool (descOk d) ∧ Ext w w') := by
  have X := Ext.refl w
  refine calls_of (args := [.agg d.cells.toArray]) Tryz.func266 Tryz.ntmps266 rfl rfl ?_
  refine c_seqR ?_
  refine ops_cons rfl (ow_box rfl rfl ?_)
  intro g4 w3 eg4 b1 x2 zg4
  have lg4 : w.heap.size ≤ g4 := Nat.le_trans X.size (Nat.le_of_eq eg4.symm)
  replace X := Ext.trans X x2; clear x2
  refine ops_cons rfl (ow_assign rfl ?_)
  refine ops_nil ?_
  refine c_seq ?_
  refine c_seqR ?_
  refine ops_cons rfl (ow_fieldAddrB off67_0 rfl rfl ?_)
  refine ops_cons rfl (ow_loadB b1 ti2 rfl rfl ?_)
  refine ops_cons rfl (ow_callB ent275 rfl (l05Node_c _ _) (fun w7 h5 x6 => ?_) (fun w7 h5 x6 => ?_))
  replace b1 := b1.ext x6
  replace X := Ext.trans X x6; clear x6
  refine ops_cons rfl (ow_not rfl ?_)
  refine ops_cons rfl (ow_move rfl ?_)
  refine ops_want rfl rfl rfl (ow_fieldAddrB off67_1 rfl rfl ?_)
  refine ops_want rfl rfl rfl (ow_loadB b1 ti2 rfl rfl ?_)
  refine ops_want rfl rfl rfl (ow_callB ent278 rfl (l06Kind_c _ _) (fun w10 h8 x9 => ?_) (fun w10 h8 x9 => ?_))
  replace b1 := b1.ext x9
  replace X := Ext.trans X x9; clear x9
  refine ops_want rfl rfl rfl (ow_not rfl ?_)
  refine ops_cons rfl (ow_pick rfl rfl ?_)
  refine ops_cons rfl (ow_move rfl ?_)
  refine ops_want rfl rfl rfl (ow_fieldAddrB off67_1 rfl rfl ?_)
  refine ops_want rfl rfl rfl (ow_loadB b1 ti2 rfl rfl ?_)
  refine ops_want rfl rfl rfl (ow_fieldAddrB off67_2 rfl rfl ?_)
  refine ops_want rfl rfl rfl (ow_loadB b1 ti2 rfl rfl ?_)
  refine ops_want rfl rfl rfl (ow_callB ent279 rfl (l06Size_c _ _ _) (fun w13 h11 x12 => ?_) (fun w13 h11 x12 => ?_))
  replace b1 := b1.ext x12
  replace X := Ext.trans X x12; clear x12
  refine ops_want rfl rfl rfl (ow_not rfl ?_)
  refine ops_cons rfl (ow_pick rfl rfl ?_)
  refine ops_cons rfl (ow_move rfl ?_)
  refine ops_want rfl rfl rfl (ow_fieldAddrB off67_1 rfl rfl ?_)
  refine ops_want rfl rfl rfl (ow_loadB b1 ti2 rfl rfl ?_)
  refine ops_want rfl rfl rfl (ow_eql2 rfl rfl (fun h14 => ?_) (fun h14 => ?_))
  refine ops_want rfl rfl rfl (ow_move rfl ?_)
  refine ops_want rfl rfl rfl (ow_fieldAddrB off67_4 rfl rfl ?_)
  refine ops_want rfl rfl rfl (ow_loadB b1 ti4 rfl rfl ?_)
  cases hb15 : d.change
  refine ops_want rfl rfl rfl (ow_pick rfl rfl ?_)
  refine ops_cons rfl (ow_pick rfl rfl ?_)
  refine ops_nil ?_
  refine c_false rfl ?_
  refine c_skip ?_
  refine tq_n ?_
  refine c_seqD [false, false, false, false, false, false, false, false, false, false] mixed (by kernel_rfl) ?_
  refine f_q rfl (fun wq sq => ow_fieldAddrB off67_3 rfl rfl ⟨rfl, Ext.refl _⟩) ?_
  refine f_q rfl (fun wq sq => ow_loadB (b1.ext sq) ti2 rfl rfl ⟨rfl, Ext.refl _⟩) ?_
  refine f_q rfl (fun wq sq => ow_fieldAddrB off67_1 rfl rfl ⟨rfl, Ext.refl _⟩) ?_
  refine f_q rfl (fun wq sq => ow_loadB (b1.ext sq) ti2 rfl rfl ⟨rfl, Ext.refl _⟩) ?_
  refine f_q rfl (fun wq sq => ow_fieldAddrB off67_2 rfl rfl ⟨rfl, Ext.refl _⟩) ?_
  refine f_q rfl (fun wq sq => ow_loadB (b1.ext sq) ti2 rfl rfl ⟨rfl, Ext.refl _⟩) ?_
  have hb : 0 ≤ d.size ∧ d.size ≤ 32 := dataOk_in ‹dataOk d.kind d.size = true›
  have h0 := cellsS_in d.kind hb
  refine f_q rfl (fun wq sq => ow_call ent215 rfl (l08Cells_c _ _ _ hb)) ?_
  refine f_q rfl (fun wq sq => ow_add rfl rfl (w64 (by omega)) ⟨rfl, Ext.refl _⟩) ?_
  refine f_q rfl (fun wq sq => ow_call ent111 rfl (l01In_c _ _ _ _)) ?_
  refine f_q rfl (fun wq sq => ow_assign rfl ⟨rfl, Ext.refl _⟩) ?_
  refine f_nil (fun w16 sq => ?_)
  have xq := sq
  replace b1 := b1.ext xq
  replace X := Ext.trans X xq; clear xq sq
  refine ops_nil ?_
  refine c_ret ?_
  refine fin_ret1 rfl rfl ?_
  · skip
    refine ⟨congrArg Value.bool ?_, X⟩
    first | (simp [descOk, *]; done) | (simp_all [descOk]; done)
  refine ops_want rfl rfl rfl (ow_pick rfl rfl ?_)
  refine ops_cons rfl (ow_pick rfl rfl ?_)
  refine ops_nil ?_
  refine c_true rfl ?_
  refine c_seqR ?_
  refine ops_cons rfl (ow_assign rfl ?_)
  refine ops_nil ?_
  refine c_ret ?_
  refine tq_r ?_
  refine fin_ret1 rfl rfl ?_
  · skip
    refine ⟨congrArg Value.bool ?_, X⟩
    first | (simp [descOk, *]; done) | (simp_all [descOk]; done)
  refine ops_want rfl rfl rfl (ow_move rfl ?_)
  refine ops_skip rfl rfl rfl rfl ?_
  refine ops_skip rfl rfl rfl rfl ?_
  refine ops_want rfl rfl rfl (ow_pick rfl rfl ?_)
  refine ops_cons rfl (ow_pick rfl rfl ?_)
  refine ops_nil ?_
  refine c_false rfl ?_
  refine c_skip ?_
  refine tq_n ?_
  refine c_seqD [false, false, false, false, false, false, false, false, false, false] mixed (by kernel_rfl) ?_
  refine f_q rfl (fun wq sq => ow_fieldAddrB off67_3 rfl rfl ⟨rfl, Ext.refl _⟩) ?_
  refine f_q rfl (fun wq sq => ow_loadB (b1.ext sq) ti2 rfl rfl ⟨rfl, Ext.refl _⟩) ?_
  refine f_q rfl (fun wq sq => ow_fieldAddrB off67_1 rfl rfl ⟨rfl, Ext.refl _⟩) ?_
  refine f_q rfl (fun wq sq => ow_loadB (b1.ext sq) ti2 rfl rfl ⟨rfl, Ext.refl _⟩) ?_
  refine f_q rfl (fun wq sq => ow_fieldAddrB off67_2 rfl rfl ⟨rfl, Ext.refl _⟩) ?_
  refine f_q rfl (fun wq sq => ow_loadB (b1.ext sq) ti2 rfl rfl ⟨rfl, Ext.refl _⟩) ?_
  have hb : 0 ≤ d.size ∧ d.size ≤ 32 := dataOk_in ‹dataOk d.kind d.size = true›
  have h0 := cellsS_in d.kind hb
  refine f_q rfl (fun wq sq => ow_call ent215 rfl (l08Cells_c _ _ _ hb)) ?_
  refine f_q rfl (fun wq sq => ow_add rfl rfl (w64 (by omega)) ⟨rfl, Ext.refl _⟩) ?_
  refine f_q rfl (fun wq sq => ow_call ent111 rfl (l01In_c _ _ _ _)) ?_
  refine f_q rfl (fun wq sq => ow_assign rfl ⟨rfl, Ext.refl _⟩) ?_
  refine f_nil (fun w17 sq => ?_)
  have xq := sq
  replace b1 := b1.ext xq
  replace X := Ext.trans X xq; clear xq sq
  refine ops_nil ?_
  refine c_ret ?_
  refine fin_ret1 rfl rfl ?_
  · skip
    refine ⟨congrArg Value.bool ?_, X⟩
    first | (simp [descOk, *]; done) | (simp_all [descOk]; done)
  replace b1 := b1.ext x12
  replace X := Ext.trans X x12; clear x12
  refine ops_want rfl rfl rfl (ow_not rfl ?_)
  refine ops_cons rfl (ow_pick rfl rfl ?_)
  refine ops_cons rfl (ow_move rfl ?_)
  refine ops_skip rfl rfl rfl rfl ?_
  refine ops_skip rfl rfl rfl rfl ?_
  refine ops_skip rfl rfl rfl rfl ?_
  refine ops_skip rfl rfl rfl rfl ?_
  refine ops_skip2 rfl rfl rfl ?_
  refine ops_skip2 rfl rfl rfl ?_
  refine ops_skip rfl rfl rfl rfl ?_
  refine ops_cons rfl (ow_pick rfl rfl ?_)
  refine ops_nil ?_
  refine c_true rfl ?_
  refine c_seqR ?_
  refine ops_cons rfl (ow_assign rfl ?_)
  refine ops_nil ?_
  refine c_ret ?_
  refine tq_r ?_
  refine fin_ret1 rfl rfl ?_
  · skip
    refine ⟨congrArg Value.bool ?_, X⟩
    first | (simp [descOk, *]; done) | (simp_all [descOk]; done)
  replace b1 := b1.ext x9
  replace X := Ext.trans X x9; clear x9
  refine ops_want rfl rfl rfl (ow_not rfl ?_)
  refine ops_cons rfl (ow_pick rfl rfl ?_)
  refine ops_cons rfl (ow_move rfl ?_)
  refine ops_skip rfl rfl rfl rfl ?_
  refine ops_skip rfl rfl rfl rfl ?_
  refine ops_skip rfl rfl rfl rfl ?_
  refine ops_skip rfl rfl rfl rfl ?_
  refine ops_skip rfl rfl rfl rfl ?_
  refine ops_skip rfl rfl rfl rfl ?_
  refine ops_cons rfl (ow_pick rfl rfl ?_)
  refine ops_cons rfl (ow_move rfl ?_)
  refine ops_skip rfl rfl rfl rfl ?_
  refine ops_skip rfl rfl rfl rfl ?_
  refine ops_skip rfl rfl rfl rfl ?_
  refine ops_skip rfl rfl rfl rfl ?_
  refine ops_skip2 rfl rfl rfl ?_
  refine ops_skip2 rfl rfl rfl ?_
  refine ops_skip rfl rfl rfl rfl ?_
  refine ops_cons rfl (ow_pick rfl rfl ?_)
  refine ops_nil ?_
  refine c_true rfl ?_
  refine c_seqR ?_
  refine ops_cons rfl (ow_assign rfl ?_)
  refine ops_nil ?_
  refine c_ret ?_
  refine tq_r ?_
  refine fin_ret1 rfl rfl ?_
  · skip
    refine ⟨congrArg Value.bool ?_, X⟩
    first | (simp [descOk, *]; done) | (simp_all [descOk]; done)
  replace b1 := b1.ext x6
  replace X := Ext.trans X x6; clear x6
  refine ops_cons rfl (ow_not rfl ?_)
  refine ops_cons rfl (ow_move rfl ?_)
  refine ops_skip rfl rfl rfl rfl ?_
  refine ops_skip rfl rfl rfl rfl ?_
  refine ops_skip rfl rfl rfl rfl ?_
  refine ops_skip rfl rfl rfl rfl ?_
  refine ops_cons rfl (ow_pick rfl rfl ?_)
  refine ops_cons rfl (ow_move rfl ?_)
  refine ops_skip rfl rfl rfl rfl ?_
  refine ops_skip rfl rfl rfl rfl ?_
  refine ops_skip rfl rfl rfl rfl ?_
  refine ops_skip rfl rfl rfl rfl ?_
  refine ops_skip rfl rfl rfl rfl ?_
  refine ops_skip rfl rfl rfl rfl ?_
  refine ops_cons rfl (ow_pick rfl rfl ?_)
  refine ops_cons rfl (ow_move rfl ?_)
  refine ops_skip rfl rfl rfl rfl ?_
  refine ops_skip rfl rfl rfl rfl ?_
  refine ops_skip rfl rfl rfl rfl ?_
  refine ops_skip rfl rfl rfl rfl ?_
  refine ops_skip2 rfl rfl rfl ?_
  refine ops_skip2 rfl rfl rfl ?_
  refine ops_skip rfl rfl rfl rfl ?_
  refine ops_cons rfl (ow_pick rfl rfl ?_)
  refine ops_nil ?_
  refine c_true rfl ?_
  refine c_seqR ?_
  refine ops_cons rfl (ow_assign rfl ?_)
  refine ops_nil ?_
  refine c_ret ?_
  refine tq_r ?_
  refine fin_ret1 rfl rfl ?_
  · skip
    refine ⟨congrArg Value.bool ?_, X⟩
    first | (simp [descOk, *]; done) | (simp_all [descOk]; done)

theorem iIsDesc_c (d : Desc) (w : World)  :
    Calls Tryz.prog 237 #[.agg d.cells.toArray] w (Ret fun v w' => v = .bool (descOk d) ∧ Ext w w') := by
  have X := Ext.refl w
  refine calls_of (args := [.agg d.cells.toArray]) Tryz.func237 Tryz.ntmps237 rfl rfl ?_
  refine c_seqR ?_
  refine ops_cons rfl (ow_box rfl rfl ?_)
  intro g4 w3 eg4 b1 x2 zg4
  have lg4 : w.heap.size ≤ g4 := Nat.le_trans X.size (Nat.le_of_eq eg4.symm)
  replace X := Ext.trans X x2; clear x2
  refine ops_cons rfl (ow_assign rfl ?_)
  refine ops_nil ?_
  refine c_seq ?_
  refine c_seqR ?_
  refine ops_cons rfl (ow_fieldAddrB off67_0 rfl rfl ?_)
  refine ops_cons rfl (ow_loadB b1 ti2 rfl rfl ?_)
  refine ops_cons rfl (ow_callB ent116 rfl (isNode_c _ _) (fun w7 h5 x6 => ?_) (fun w7 h5 x6 => ?_))
  replace b1 := b1.ext x6
  replace X := Ext.trans X x6; clear x6
  refine ops_cons rfl (ow_not rfl ?_)
  refine ops_cons rfl (ow_move rfl ?_)
  refine ops_want rfl rfl rfl (ow_fieldAddrB off67_1 rfl rfl ?_)
  refine ops_want rfl rfl rfl (ow_loadB b1 ti2 rfl rfl ?_)
  refine ops_want rfl rfl rfl (ow_callB ent262 rfl (isKind_c _ _) (fun w10 h8 x9 => ?_) (fun w10 h8 x9 => ?_))
  replace b1 := b1.ext x9
  replace X := Ext.trans X x9; clear x9
  refine ops_want rfl rfl rfl (ow_not rfl ?_)
  refine ops_cons rfl (ow_pick rfl rfl ?_)
  refine ops_cons rfl (ow_move rfl ?_)
  refine ops_want rfl rfl rfl (ow_fieldAddrB off67_1 rfl rfl ?_)
  refine ops_want rfl rfl rfl (ow_loadB b1 ti2 rfl rfl ?_)
  refine ops_want rfl rfl rfl (ow_fieldAddrB off67_2 rfl rfl ?_)
  refine ops_want rfl rfl rfl (ow_loadB b1 ti2 rfl rfl ?_)
  refine ops_want rfl rfl rfl (ow_callB ent263 rfl (isDataSize_c _ _ _) (fun w13 h11 x12 => ?_) (fun w13 h11 x12 => ?_))
  replace b1 := b1.ext x12
  replace X := Ext.trans X x12; clear x12
  refine ops_want rfl rfl rfl (ow_not rfl ?_)
  refine ops_cons rfl (ow_pick rfl rfl ?_)
  refine ops_cons rfl (ow_move rfl ?_)
  refine ops_want rfl rfl rfl (ow_fieldAddrB off67_4 rfl rfl ?_)
  refine ops_want rfl rfl rfl (ow_loadB b1 ti4 rfl rfl ?_)
  cases hb14 : d.change
  refine ops_want rfl rfl rfl (ow_move rfl ?_)
  refine ops_skip rfl rfl rfl rfl ?_
  refine ops_skip rfl rfl rfl rfl ?_
  refine ops_skip rfl rfl rfl rfl ?_
  refine ops_want rfl rfl rfl (ow_pick rfl rfl ?_)
  refine ops_cons rfl (ow_pick rfl rfl ?_)
  refine ops_nil ?_
  refine c_false rfl ?_
  refine c_skip ?_
  refine tq_n ?_
  refine c_seqD [false, false, false, false, false, false, false, false, false, false] mixed (by kernel_rfl) ?_
  refine f_q rfl (fun wq sq => ow_fieldAddrB off67_3 rfl rfl ⟨rfl, Ext.refl _⟩) ?_
  refine f_q rfl (fun wq sq => ow_loadB (b1.ext sq) ti2 rfl rfl ⟨rfl, Ext.refl _⟩) ?_
  refine f_q rfl (fun wq sq => ow_fieldAddrB off67_1 rfl rfl ⟨rfl, Ext.refl _⟩) ?_
  refine f_q rfl (fun wq sq => ow_loadB (b1.ext sq) ti2 rfl rfl ⟨rfl, Ext.refl _⟩) ?_
  refine f_q rfl (fun wq sq => ow_fieldAddrB off67_2 rfl rfl ⟨rfl, Ext.refl _⟩) ?_
  refine f_q rfl (fun wq sq => ow_loadB (b1.ext sq) ti2 rfl rfl ⟨rfl, Ext.refl _⟩) ?_
  have hb : 0 ≤ d.size ∧ d.size ≤ 32 := dataOk_in ‹dataOk d.kind d.size = true›
  have h0 := cellsS_in d.kind hb
  refine f_q rfl (fun wq sq => ow_call ent264 rfl (cellsNeeded_c _ _ _ hb)) ?_
  refine f_q rfl (fun wq sq => ow_add rfl rfl (w64 (by omega)) ⟨rfl, Ext.refl _⟩) ?_
  refine f_q rfl (fun wq sq => ow_call ent109 rfl (within_c _ _ _ _)) ?_
  refine f_q rfl (fun wq sq => ow_assign rfl ⟨rfl, Ext.refl _⟩) ?_
  refine f_nil (fun w15 sq => ?_)
  have xq := sq
  replace b1 := b1.ext xq
  replace X := Ext.trans X xq; clear xq sq
  refine ops_nil ?_
  refine c_ret ?_
  refine fin_ret1 rfl rfl ?_
  · skip
    refine ⟨congrArg Value.bool ?_, X⟩
    first | (simp [descOk, *]; done) | (simp_all [descOk]; done)
  refine ops_want rfl rfl rfl (ow_move rfl ?_)
  refine ops_want rfl rfl rfl (ow_fieldAddrB off67_1 rfl rfl ?_)
  refine ops_want rfl rfl rfl (ow_loadB b1 ti2 rfl rfl ?_)
  refine ops_want rfl rfl rfl (ow_eql2 rfl rfl (fun h16 => ?_) (fun h16 => ?_))
  refine ops_want rfl rfl rfl (ow_pick rfl rfl ?_)
  refine ops_cons rfl (ow_pick rfl rfl ?_)
  refine ops_nil ?_
  refine c_true rfl ?_
  refine c_seqR ?_
  refine ops_cons rfl (ow_assign rfl ?_)
  refine ops_nil ?_
  refine c_ret ?_
  refine tq_r ?_
  refine fin_ret1 rfl rfl ?_
  · skip
    refine ⟨congrArg Value.bool ?_, X⟩
    first | (simp [descOk, *]; done) | (simp_all [descOk]; done)
  refine ops_want rfl rfl rfl (ow_pick rfl rfl ?_)
  refine ops_cons rfl (ow_pick rfl rfl ?_)
  refine ops_nil ?_
  refine c_false rfl ?_
  refine c_skip ?_
  refine tq_n ?_
  refine c_seqD [false, false, false, false, false, false, false, false, false, false] mixed (by kernel_rfl) ?_
  refine f_q rfl (fun wq sq => ow_fieldAddrB off67_3 rfl rfl ⟨rfl, Ext.refl _⟩) ?_
  refine f_q rfl (fun wq sq => ow_loadB (b1.ext sq) ti2 rfl rfl ⟨rfl, Ext.refl _⟩) ?_
  refine f_q rfl (fun wq sq => ow_fieldAddrB off67_1 rfl rfl ⟨rfl, Ext.refl _⟩) ?_
  refine f_q rfl (fun wq sq => ow_loadB (b1.ext sq) ti2 rfl rfl ⟨rfl, Ext.refl _⟩) ?_
  refine f_q rfl (fun wq sq => ow_fieldAddrB off67_2 rfl rfl ⟨rfl, Ext.refl _⟩) ?_
  refine f_q rfl (fun wq sq => ow_loadB (b1.ext sq) ti2 rfl rfl ⟨rfl, Ext.refl _⟩) ?_
  have hb : 0 ≤ d.size ∧ d.size ≤ 32 := dataOk_in ‹dataOk d.kind d.size = true›
  have h0 := cellsS_in d.kind hb
  refine f_q rfl (fun wq sq => ow_call ent264 rfl (cellsNeeded_c _ _ _ hb)) ?_
  refine f_q rfl (fun wq sq => ow_add rfl rfl (w64 (by omega)) ⟨rfl, Ext.refl _⟩) ?_
  refine f_q rfl (fun wq sq => ow_call ent109 rfl (within_c _ _ _ _)) ?_
  refine f_q rfl (fun wq sq => ow_assign rfl ⟨rfl, Ext.refl _⟩) ?_
  refine f_nil (fun w17 sq => ?_)
  have xq := sq
  replace b1 := b1.ext xq
  replace X := Ext.trans X xq; clear xq sq
  refine ops_nil ?_
  refine c_ret ?_
  refine fin_ret1 rfl rfl ?_
  · skip
    refine ⟨congrArg Value.bool ?_, X⟩
    first | (simp [descOk, *]; done) | (simp_all [descOk]; done)
  replace b1 := b1.ext x12
  replace X := Ext.trans X x12; clear x12
  refine ops_want rfl rfl rfl (ow_not rfl ?_)
  refine ops_cons rfl (ow_pick rfl rfl ?_)
  refine ops_cons rfl (ow_move rfl ?_)
  refine ops_skip rfl rfl rfl rfl ?_
  refine ops_skip rfl rfl rfl rfl ?_
  refine ops_skip rfl rfl rfl rfl ?_
  refine ops_skip2 rfl rfl rfl ?_
  refine ops_skip2 rfl rfl rfl ?_
  refine ops_skip2 rfl rfl rfl ?_
  refine ops_skip rfl rfl rfl rfl ?_
  refine ops_cons rfl (ow_pick rfl rfl ?_)
  refine ops_nil ?_
  refine c_true rfl ?_
  refine c_seqR ?_
  refine ops_cons rfl (ow_assign rfl ?_)
  refine ops_nil ?_
  refine c_ret ?_
  refine tq_r ?_
  refine fin_ret1 rfl rfl ?_
  · skip
    refine ⟨congrArg Value.bool ?_, X⟩
    first | (simp [descOk, *]; done) | (simp_all [descOk]; done)
  replace b1 := b1.ext x9
  replace X := Ext.trans X x9; clear x9
  refine ops_want rfl rfl rfl (ow_not rfl ?_)
  refine ops_cons rfl (ow_pick rfl rfl ?_)
  refine ops_cons rfl (ow_move rfl ?_)
  refine ops_skip rfl rfl rfl rfl ?_
  refine ops_skip rfl rfl rfl rfl ?_
  refine ops_skip rfl rfl rfl rfl ?_
  refine ops_skip rfl rfl rfl rfl ?_
  refine ops_skip rfl rfl rfl rfl ?_
  refine ops_skip rfl rfl rfl rfl ?_
  refine ops_cons rfl (ow_pick rfl rfl ?_)
  refine ops_cons rfl (ow_move rfl ?_)
  refine ops_skip rfl rfl rfl rfl ?_
  refine ops_skip rfl rfl rfl rfl ?_
  refine ops_skip rfl rfl rfl rfl ?_
  refine ops_skip2 rfl rfl rfl ?_
  refine ops_skip2 rfl rfl rfl ?_
  refine ops_skip2 rfl rfl rfl ?_
  refine ops_skip rfl rfl rfl rfl ?_
  refine ops_cons rfl (ow_pick rfl rfl ?_)
  refine ops_nil ?_
  refine c_true rfl ?_
  refine c_seqR ?_
  refine ops_cons rfl (ow_assign rfl ?_)
  refine ops_nil ?_
  refine c_ret ?_
  refine tq_r ?_
  refine fin_ret1 rfl rfl ?_
  · skip
    refine ⟨congrArg Value.bool ?_, X⟩
    first | (simp [descOk, *]; done) | (simp_all [descOk]; done)
  replace b1 := b1.ext x6
  replace X := Ext.trans X x6; clear x6
  refine ops_cons rfl (ow_not rfl ?_)
  refine ops_cons rfl (ow_move rfl ?_)
  refine ops_skip rfl rfl rfl rfl ?_
  refine ops_skip rfl rfl rfl rfl ?_
  refine ops_skip rfl rfl rfl rfl ?_
  refine ops_skip rfl rfl rfl rfl ?_
  refine ops_cons rfl (ow_pick rfl rfl ?_)
  refine ops_cons rfl (ow_move rfl ?_)
  refine ops_skip rfl rfl rfl rfl ?_
  refine ops_skip rfl rfl rfl rfl ?_
  refine ops_skip rfl rfl rfl rfl ?_
  refine ops_skip rfl rfl rfl rfl ?_
  refine ops_skip rfl rfl rfl rfl ?_
  refine ops_skip rfl rfl rfl rfl ?_
  refine ops_cons rfl (ow_pick rfl rfl ?_)
  refine ops_cons rfl (ow_move rfl ?_)
  refine ops_skip rfl rfl rfl rfl ?_
  refine ops_skip rfl rfl rfl rfl ?_
  refine ops_skip rfl rfl rfl rfl ?_
  refine ops_skip2 rfl rfl rfl ?_
  refine ops_skip2 rfl rfl rfl ?_
  refine ops_skip2 rfl rfl rfl ?_
  refine ops_skip rfl rfl rfl rfl ?_
  refine ops_cons rfl (ow_pick rfl rfl ?_)
  refine ops_nil ?_
  refine c_true rfl ?_
  refine c_seqR ?_
  refine ops_cons rfl (ow_assign rfl ?_)
  refine ops_nil ?_
  refine c_ret ?_
  refine tq_r ?_
  refine fin_ret1 rfl rfl ?_
  · skip
    refine ⟨congrArg Value.bool ?_, X⟩
    first | (simp [descOk, *]; done) | (simp_all [descOk]; done)
end Go.Proofs.YtdoibplhbdkapaaGreatDoor
namespace Go.Proofs.YtdoibplhbdkapaaGreatDoor
open Go.RowKit Go.Shelf Go.Lib
set_option linter.unusedVariables false
def lays160_ren : Go.Shelf.Ren := ⟨fun x => match x with | 160 => 248 | 232 => 268 | 231 => 267 | 227 => 269 | 234 => 271 | 233 => 270 | 236 => 273 | 235 => 272 | 228 => 280 | 271 => 283 | 151 => 282 | 197 => 281 | 120 => 288 | 152 => 287 | 260 => 286 | 137 => 289 | 119 => 290 | 224 => 291 | 225 => 292 | 217 => 293 | 266 => 294 | n => n, fun x => match x with | 9 => 9 | 4 => 4 | 3 => 3 | 5 => 5 | 117 => 234 | 116 => 233 | 0 => 0 | 124 => 237 | 21 => 21 | 105 => 240 | 46 => 140 | 119 => 244 | 139 => 247 | 138 => 246 | n => n, fun x => match x with | 3 => 0 | 4 => 1 | n => n⟩
set_option maxRecDepth 100000
theorem lays160 : Lays.n160 Tryz.prog lays160_ren where
  mixed := by kernel_rfl
  f119 := Tryz.func290.trans (congrArg some (by kernel_rfl))
  f120 := Tryz.func288.trans (congrArg some (by kernel_rfl))
  f137 := Tryz.func289.trans (congrArg some (by kernel_rfl))
  f151 := Tryz.func282.trans (congrArg some (by kernel_rfl))
  f152 := Tryz.func287.trans (congrArg some (by kernel_rfl))
  f160 := Tryz.func248.trans (congrArg some (by kernel_rfl))
  f197 := Tryz.func281.trans (congrArg some (by kernel_rfl))
  f217 := Tryz.func293.trans (congrArg some (by kernel_rfl))
  f224 := Tryz.func291.trans (congrArg some (by kernel_rfl))
  f225 := Tryz.func292.trans (congrArg some (by kernel_rfl))
  f227 := Tryz.func269.trans (congrArg some (by kernel_rfl))
  f228 := Tryz.func280.trans (congrArg some (by kernel_rfl))
  f231 := Tryz.func267.trans (congrArg some (by kernel_rfl))
  f232 := Tryz.func268.trans (congrArg some (by kernel_rfl))
  f233 := Tryz.func270.trans (congrArg some (by kernel_rfl))
  f234 := Tryz.func271.trans (congrArg some (by kernel_rfl))
  f235 := Tryz.func272.trans (congrArg some (by kernel_rfl))
  f236 := Tryz.func273.trans (congrArg some (by kernel_rfl))
  f260 := Tryz.func286.trans (congrArg some (by kernel_rfl))
  f266 := Tryz.func294.trans (congrArg some (by kernel_rfl))
  f271 := Tryz.func283.trans (congrArg some (by kernel_rfl))
  t0 := Tryz.underlying0
  a0 := Tryz.isAgg0
  z0 := Tryz.sizeOf0
  v0 := Tryz.zeroValue0
  t3 := Tryz.underlying3
  a3 := Tryz.isAgg3
  z3 := Tryz.sizeOf3
  v3 := Tryz.zeroValue3
  t4 := Tryz.underlying4
  a4 := Tryz.isAgg4
  z4 := Tryz.sizeOf4
  v4 := Tryz.zeroValue4
  t5 := Tryz.underlying5
  a5 := Tryz.isAgg5
  z5 := Tryz.sizeOf5
  v5 := Tryz.zeroValue5
  t9 := Tryz.underlying9
  a9 := Tryz.isAgg9
  z9 := Tryz.sizeOf9
  v9 := Tryz.zeroValue9
  t21 := Tryz.underlying21
  a21 := Tryz.isAgg21
  z21 := Tryz.sizeOf21
  v21 := Tryz.zeroValue21
  t46 := Tryz.underlying140
  a46 := Tryz.isAgg140
  z46 := Tryz.sizeOf140
  v46 := Tryz.zeroValue140
  t105 := Tryz.underlying240
  a105 := Tryz.isAgg240
  z105 := Tryz.sizeOf240
  v105 := Tryz.zeroValue240
  t116 := Tryz.underlying233
  a116 := Tryz.isAgg233
  z116 := Tryz.sizeOf233
  t117 := Tryz.underlying234
  a117 := Tryz.isAgg234
  z117 := Tryz.sizeOf234
  v117 := Tryz.zeroValue234
  t119 := Tryz.underlying244
  a119 := Tryz.isAgg244
  z119 := Tryz.sizeOf244
  t124 := Tryz.underlying237
  a124 := Tryz.isAgg237
  z124 := Tryz.sizeOf237
  v124 := Tryz.zeroValue237
  t138 := Tryz.underlying246
  a138 := Tryz.isAgg246
  z138 := Tryz.sizeOf246
  v138 := Tryz.zeroValue246
  t139 := Tryz.underlying247
  a139 := Tryz.isAgg247
  z139 := Tryz.sizeOf247
  v139 := Tryz.zeroValue247
  g3 := by kernel_rfl
  g4 := by kernel_rfl
theorem trim_c (s : ByteArray) (w : World) (hs : s.size ≤ 9223372036854775807) :
    Calls Tryz.prog 248 #[.string s, .string ⟨#[97, 98, 99, 100, 101, 102, 103, 104, 105, 106, 107, 108, 109, 110, 111, 112, 113, 114, 115, 116, 117, 118, 119, 120, 121, 122, 48, 49, 50, 51, 52, 53, 54, 55, 56, 57]⟩] w (Ret fun v w' => v = .string (trimV s) ∧ Ext w w') := by
  have hcon := Any.strings_Trim_laid lays160 (by kernel_rfl) s ⟨#[97, 98, 99, 100, 101, 102, 103, 104, 105, 106, 107, 108, 109, 110, 111, 112, 113, 114, 115, 116, 117, 118, 119, 120, 121, 122, 48, 49, 50, 51, 52, 53, 54, 55, 56, 57]⟩ w hs (by decide) (ascii_of_all (by decide))
  refine Calls.mono hcon fun e w' h => ?_
  obtain ⟨rfl, hb⟩ := h
  exact ⟨rfl, hb⟩
end Go.Proofs.YtdoibplhbdkapaaGreatDoor
