/- What the functions on descriptors compute. No condition. -/
import Derived.Test.YthdeoagoehkcfaaGreatDoorFlowT
import Derived.Test.YthdeoagoehkcfaaGreatDoorMod1
namespace Go.Proofs.YthdeoagoehkcfaaGreatDoor
open Go.RowKit
set_option linter.unusedVariables false
set_option linter.unusedSimpArgs false
set_option maxRecDepth 20000
theorem dataOk_in {k z : Int} (h : dataOk k z = true) : 0 ≤ z ∧ z ≤ 32 := by
  unfold dataOk at h
  split at h
  · exact inB_iff.1 h
  · split at h
    · have := inB_iff.1 h; omega
    · simp at h; omega
theorem bodyS_in (k : Int) {z : Int} (h : 0 ≤ z ∧ z ≤ 32) : 1 ≤ bodyS k z ∧ bodyS k z ≤ 42 := by
  unfold bodyS; (repeat' split) <;> omega
theorem cellsS_in (k : Int) {z : Int} (h : 0 ≤ z ∧ z ≤ 32) : 41 ≤ cellsS k z ∧ cellsS k z ≤ 1000 := by
  have := bodyS_in k h; unfold cellsS; omega
theorem l01In_c (a b c : Int) (w : World)  :
    Calls Tryz.prog 64 #[.int .i64 a, .int .i64 b, .int .i64 c] w (Ret fun v w' => v = .bool (inB a b c) ∧ Ext w w') := by
  have X := Ext.refl w
  refine calls_of (args := [.int .i64 a, .int .i64 b, .int .i64 c]) Tryz.func64 Tryz.ntmps64 rfl rfl ?_
  refine c_seqR ?_
  refine ops_cons rfl (ow_assign rfl ?_)
  refine ops_nil ?_
  refine c_seqR ?_
  refine ops_cons rfl (ow_move rfl ?_)
  refine ops_cons rfl (ow_move rfl ?_)
  refine ops_cons rfl (ow_geq2 rfl rfl (fun h1 => ?_) (fun h1 => ?_))
  · skip
    refine ops_cons rfl (ow_move rfl ?_)
    refine ops_want rfl rfl rfl (ow_move rfl ?_)
    refine ops_want rfl rfl rfl (ow_move rfl ?_)
    refine ops_want rfl rfl rfl (ow_leq rfl rfl ?_)
    refine ops_cons rfl (ow_pick rfl rfl ?_)
    refine ops_cons rfl (ow_assign rfl ?_)
    refine ops_nil ?_
    refine c_ret ?_
    refine fin_ret1 rfl rfl ?_
    exact ⟨by simp [inB, *], X⟩
  · skip
    refine ops_cons rfl (ow_move rfl ?_)
    refine ops_skip rfl rfl rfl rfl ?_
    refine ops_skip rfl rfl rfl rfl ?_
    refine ops_skip rfl rfl rfl rfl ?_
    refine ops_cons rfl (ow_pick rfl rfl ?_)
    refine ops_cons rfl (ow_assign rfl ?_)
    refine ops_nil ?_
    refine c_ret ?_
    refine fin_ret1 rfl rfl ?_
    exact ⟨by simp [inB, *], X⟩

theorem within_c (a b c : Int) (w : World)  :
    Calls Tryz.prog 66 #[.int .i64 a, .int .i64 b, .int .i64 c] w (Ret fun v w' => v = .bool (inB a b c) ∧ Ext w w') := by
  have X := Ext.refl w
  refine calls_of (args := [.int .i64 a, .int .i64 b, .int .i64 c]) Tryz.func66 Tryz.ntmps66 rfl rfl ?_
  refine c_seqR ?_
  refine ops_cons rfl (ow_assign rfl ?_)
  refine ops_nil ?_
  refine c_seqR ?_
  refine ops_cons rfl (ow_move rfl ?_)
  refine ops_cons rfl (ow_move rfl ?_)
  refine ops_cons rfl (ow_geq2 rfl rfl (fun h1 => ?_) (fun h1 => ?_))
  · skip
    refine ops_cons rfl (ow_move rfl ?_)
    refine ops_want rfl rfl rfl (ow_move rfl ?_)
    refine ops_want rfl rfl rfl (ow_move rfl ?_)
    refine ops_want rfl rfl rfl (ow_leq rfl rfl ?_)
    refine ops_cons rfl (ow_pick rfl rfl ?_)
    refine ops_cons rfl (ow_assign rfl ?_)
    refine ops_nil ?_
    refine c_ret ?_
    refine fin_ret1 rfl rfl ?_
    exact ⟨by simp [inB, *], X⟩
  · skip
    refine ops_cons rfl (ow_move rfl ?_)
    refine ops_skip rfl rfl rfl rfl ?_
    refine ops_skip rfl rfl rfl rfl ?_
    refine ops_skip rfl rfl rfl rfl ?_
    refine ops_cons rfl (ow_pick rfl rfl ?_)
    refine ops_cons rfl (ow_assign rfl ?_)
    refine ops_nil ?_
    refine c_ret ?_
    refine fin_ret1 rfl rfl ?_
    exact ⟨by simp [inB, *], X⟩

theorem l05Node_c (a : Int) (w : World)  :
    Calls Tryz.prog 210 #[.int .i64 a] w (Ret fun v w' => v = .bool (inB a 0 31) ∧ Ext w w') := by
  have X := Ext.refl w
  refine calls_of (args := [.int .i64 a]) Tryz.func210 Tryz.ntmps210 rfl rfl ?_
  refine c_seqR ?_
  refine ops_cons rfl (ow_assign rfl ?_)
  refine ops_nil ?_
  refine c_seqR ?_
  refine ops_cons rfl (ow_move rfl ?_)
  refine ops_cons rfl (ow_call ent64 rfl (ret_mono (l01In_c _ _ _ _) ?_))
  rintro _ w2 ⟨rfl, x1⟩
  replace X := Ext.trans X x1; clear x1
  refine ops_cons rfl (ow_assign rfl ?_)
  refine ops_nil ?_
  refine c_ret ?_
  refine fin_ret1 rfl rfl ?_
  exact ⟨by first | rfl | (simp [*]; done), X⟩

theorem isNode_c (a : Int) (w : World)  :
    Calls Tryz.prog 203 #[.int .i64 a] w (Ret fun v w' => v = .bool (inB a 0 31) ∧ Ext w w') := by
  have X := Ext.refl w
  refine calls_of (args := [.int .i64 a]) Tryz.func203 Tryz.ntmps203 rfl rfl ?_
  refine c_seqR ?_
  refine ops_cons rfl (ow_assign rfl ?_)
  refine ops_nil ?_
  refine c_seqR ?_
  refine ops_cons rfl (ow_move rfl ?_)
  refine ops_cons rfl (ow_call ent66 rfl (ret_mono (within_c _ _ _ _) ?_))
  rintro _ w2 ⟨rfl, x1⟩
  replace X := Ext.trans X x1; clear x1
  refine ops_cons rfl (ow_assign rfl ?_)
  refine ops_nil ?_
  refine c_ret ?_
  refine fin_ret1 rfl rfl ?_
  exact ⟨by first | rfl | (simp [*]; done), X⟩

theorem l06Kind_c (a : Int) (w : World)  :
    Calls Tryz.prog 212 #[.int .i64 a] w (Ret fun v w' => v = .bool (inB a 0 3) ∧ Ext w w') := by
  have X := Ext.refl w
  refine calls_of (args := [.int .i64 a]) Tryz.func212 Tryz.ntmps212 rfl rfl ?_
  refine c_seqR ?_
  refine ops_cons rfl (ow_assign rfl ?_)
  refine ops_nil ?_
  refine c_seqR ?_
  refine ops_cons rfl (ow_move rfl ?_)
  refine ops_cons rfl (ow_call ent64 rfl (ret_mono (l01In_c _ _ _ _) ?_))
  rintro _ w2 ⟨rfl, x1⟩
  replace X := Ext.trans X x1; clear x1
  refine ops_cons rfl (ow_assign rfl ?_)
  refine ops_nil ?_
  refine c_ret ?_
  refine fin_ret1 rfl rfl ?_
  exact ⟨by first | rfl | (simp [*]; done), X⟩

theorem isKind_c (a : Int) (w : World)  :
    Calls Tryz.prog 205 #[.int .i64 a] w (Ret fun v w' => v = .bool (inB a 0 3) ∧ Ext w w') := by
  have X := Ext.refl w
  refine calls_of (args := [.int .i64 a]) Tryz.func205 Tryz.ntmps205 rfl rfl ?_
  refine c_seqR ?_
  refine ops_cons rfl (ow_assign rfl ?_)
  refine ops_nil ?_
  refine c_seqR ?_
  refine ops_cons rfl (ow_move rfl ?_)
  refine ops_cons rfl (ow_call ent66 rfl (ret_mono (within_c _ _ _ _) ?_))
  rintro _ w2 ⟨rfl, x1⟩
  replace X := Ext.trans X x1; clear x1
  refine ops_cons rfl (ow_assign rfl ?_)
  refine ops_nil ?_
  refine c_ret ?_
  refine fin_ret1 rfl rfl ?_
  exact ⟨by first | rfl | (simp [*]; done), X⟩

theorem l06Size_c (a b : Int) (w : World)  :
    Calls Tryz.prog 213 #[.int .i64 a, .int .i64 b] w (Ret fun v w' => v = .bool (dataOk a b) ∧ Ext w w') := by
  have X := Ext.refl w
  refine calls_of (args := [.int .i64 a, .int .i64 b]) Tryz.func213 Tryz.ntmps213 rfl rfl ?_
  refine c_seqR ?_
  refine ops_cons rfl (ow_assign rfl ?_)
  refine ops_nil ?_
  refine c_seq ?_
  refine c_seqR ?_
  refine ops_cons rfl (ow_move rfl ?_)
  refine ops_nil ?_
  refine c_block ?_
  refine c_seqR ?_
  refine ops_cons rfl (ow_eql2 rfl rfl (fun h1 => ?_) (fun h1 => ?_))
  · skip
    refine ops_cons rfl (ow_assign rfl ?_)
    refine ops_nil ?_
    refine c_true rfl ?_
    refine c_seqR ?_
    refine ops_cons rfl (ow_move rfl ?_)
    refine ops_cons rfl (ow_call ent64 rfl (ret_mono (l01In_c _ _ _ _) ?_))
    rintro _ w3 ⟨rfl, x2⟩
    replace X := Ext.trans X x2; clear x2
    refine ops_cons rfl (ow_assign rfl ?_)
    refine ops_nil ?_
    refine c_ret ?_
    refine bq_r ?_
    refine tq_r ?_
    refine fin_ret1 rfl rfl ?_
    exact ⟨by simp [dataOk, *], X⟩
  · skip
    refine ops_cons rfl (ow_assign rfl ?_)
    refine ops_nil ?_
    refine c_false rfl ?_
    refine c_seqR ?_
    refine ops_cons rfl (ow_eql2 rfl rfl (fun h4 => ?_) (fun h4 => ?_))
    · skip
      refine ops_cons rfl (ow_assign rfl ?_)
      refine ops_nil ?_
      refine c_true rfl ?_
      refine c_seqR ?_
      refine ops_cons rfl (ow_move rfl ?_)
      refine ops_cons rfl (ow_call ent64 rfl (ret_mono (l01In_c _ _ _ _) ?_))
      rintro _ w6 ⟨rfl, x5⟩
      replace X := Ext.trans X x5; clear x5
      refine ops_cons rfl (ow_assign rfl ?_)
      refine ops_nil ?_
      refine c_ret ?_
      refine bq_r ?_
      refine tq_r ?_
      refine fin_ret1 rfl rfl ?_
      exact ⟨by simp [dataOk, *], X⟩
    · skip
      refine ops_cons rfl (ow_assign rfl ?_)
      refine ops_nil ?_
      refine c_false rfl ?_
      refine c_skip ?_
      refine bq_n ?_
      refine tq_n ?_
      refine c_seqR ?_
      refine ops_cons rfl (ow_move rfl ?_)
      refine ops_cons rfl (ow_eql rfl rfl ?_)
      refine ops_cons rfl (ow_assign rfl ?_)
      refine ops_nil ?_
      refine c_ret ?_
      refine fin_ret1 rfl rfl ?_
      exact ⟨by simp [dataOk, *], X⟩

theorem isDataSize_c (a b : Int) (w : World)  :
    Calls Tryz.prog 206 #[.int .i64 a, .int .i64 b] w (Ret fun v w' => v = .bool (dataOk a b) ∧ Ext w w') := by
  have X := Ext.refl w
  refine calls_of (args := [.int .i64 a, .int .i64 b]) Tryz.func206 Tryz.ntmps206 rfl rfl ?_
  refine c_seqR ?_
  refine ops_cons rfl (ow_assign rfl ?_)
  refine ops_nil ?_
  refine c_seq ?_
  refine c_seqR ?_
  refine ops_cons rfl (ow_move rfl ?_)
  refine ops_nil ?_
  refine c_block ?_
  refine c_seqR ?_
  refine ops_cons rfl (ow_eql2 rfl rfl (fun h1 => ?_) (fun h1 => ?_))
  · skip
    refine ops_cons rfl (ow_assign rfl ?_)
    refine ops_nil ?_
    refine c_true rfl ?_
    refine c_seqR ?_
    refine ops_cons rfl (ow_move rfl ?_)
    refine ops_cons rfl (ow_call ent66 rfl (ret_mono (within_c _ _ _ _) ?_))
    rintro _ w3 ⟨rfl, x2⟩
    replace X := Ext.trans X x2; clear x2
    refine ops_cons rfl (ow_assign rfl ?_)
    refine ops_nil ?_
    refine c_ret ?_
    refine bq_r ?_
    refine tq_r ?_
    refine fin_ret1 rfl rfl ?_
    exact ⟨by simp [dataOk, *], X⟩
  · skip
    refine ops_cons rfl (ow_assign rfl ?_)
    refine ops_nil ?_
    refine c_false rfl ?_
    refine c_seqR ?_
    refine ops_cons rfl (ow_eql2 rfl rfl (fun h4 => ?_) (fun h4 => ?_))
    · skip
      refine ops_cons rfl (ow_assign rfl ?_)
      refine ops_nil ?_
      refine c_true rfl ?_
      refine c_seqR ?_
      refine ops_cons rfl (ow_move rfl ?_)
      refine ops_cons rfl (ow_call ent66 rfl (ret_mono (within_c _ _ _ _) ?_))
      rintro _ w6 ⟨rfl, x5⟩
      replace X := Ext.trans X x5; clear x5
      refine ops_cons rfl (ow_assign rfl ?_)
      refine ops_nil ?_
      refine c_ret ?_
      refine bq_r ?_
      refine tq_r ?_
      refine fin_ret1 rfl rfl ?_
      exact ⟨by simp [dataOk, *], X⟩
    · skip
      refine ops_cons rfl (ow_assign rfl ?_)
      refine ops_nil ?_
      refine c_false rfl ?_
      refine c_skip ?_
      refine bq_n ?_
      refine tq_n ?_
      refine c_seqR ?_
      refine ops_cons rfl (ow_move rfl ?_)
      refine ops_cons rfl (ow_eql rfl rfl ?_)
      refine ops_cons rfl (ow_assign rfl ?_)
      refine ops_nil ?_
      refine c_ret ?_
      refine fin_ret1 rfl rfl ?_
      exact ⟨by simp [dataOk, *], X⟩

theorem l06State_c (a : Int) (w : World)  :
    Calls Tryz.prog 230 #[.int .i64 a] w (Ret fun v w' => v = .bool (decide (a ≠ 0)) ∧ Ext w w') := by
  have X := Ext.refl w
  refine calls_of (args := [.int .i64 a]) Tryz.func230 Tryz.ntmps230 rfl rfl ?_
  refine c_seqR ?_
  refine ops_cons rfl (ow_assign rfl ?_)
  refine ops_nil ?_
  refine c_seqR ?_
  refine ops_cons rfl (ow_move rfl ?_)
  refine ops_cons rfl (ow_neq rfl rfl ?_)
  refine ops_cons rfl (ow_assign rfl ?_)
  refine ops_nil ?_
  refine c_ret ?_
  refine fin_ret1 rfl rfl ?_
  exact ⟨by rfl, X⟩

theorem hasState_c (a : Int) (w : World)  :
    Calls Tryz.prog 228 #[.int .i64 a] w (Ret fun v w' => v = .bool (decide (a ≠ 0)) ∧ Ext w w') := by
  have X := Ext.refl w
  refine calls_of (args := [.int .i64 a]) Tryz.func228 Tryz.ntmps228 rfl rfl ?_
  refine c_seqR ?_
  refine ops_cons rfl (ow_assign rfl ?_)
  refine ops_nil ?_
  refine c_seqR ?_
  refine ops_cons rfl (ow_move rfl ?_)
  refine ops_cons rfl (ow_neq rfl rfl ?_)
  refine ops_cons rfl (ow_assign rfl ?_)
  refine ops_nil ?_
  refine c_ret ?_
  refine fin_ret1 rfl rfl ?_
  exact ⟨by rfl, X⟩

theorem l06Data_c (a : Int) (w : World)  :
    Calls Tryz.prog 231 #[.int .i64 a] w (Ret fun v w' => v = .bool (decide (a = 0 ∨ a = 2)) ∧ Ext w w') := by
  have X := Ext.refl w
  refine calls_of (args := [.int .i64 a]) Tryz.func231 Tryz.ntmps231 rfl rfl ?_
  refine c_seqR ?_
  refine ops_cons rfl (ow_assign rfl ?_)
  refine ops_nil ?_
  refine c_seqR ?_
  refine ops_cons rfl (ow_move rfl ?_)
  refine ops_cons rfl (ow_eql2 rfl rfl (fun h1 => ?_) (fun h1 => ?_))
  · skip
    refine ops_cons rfl (ow_move rfl ?_)
    refine ops_skip rfl rfl rfl rfl ?_
    refine ops_skip rfl rfl rfl rfl ?_
    refine ops_cons rfl (ow_pick rfl rfl ?_)
    refine ops_cons rfl (ow_assign rfl ?_)
    refine ops_nil ?_
    refine c_ret ?_
    refine fin_ret1 rfl rfl ?_
    exact ⟨by simp [*], X⟩
  · skip
    refine ops_cons rfl (ow_move rfl ?_)
    refine ops_want rfl rfl rfl (ow_move rfl ?_)
    refine ops_want rfl rfl rfl (ow_eql rfl rfl ?_)
    refine ops_cons rfl (ow_pick rfl rfl ?_)
    refine ops_cons rfl (ow_assign rfl ?_)
    refine ops_nil ?_
    refine c_ret ?_
    refine fin_ret1 rfl rfl ?_
    exact ⟨by simp [*], X⟩

theorem hasData_c (a : Int) (w : World)  :
    Calls Tryz.prog 229 #[.int .i64 a] w (Ret fun v w' => v = .bool (decide (a = 0 ∨ a = 2)) ∧ Ext w w') := by
  have X := Ext.refl w
  refine calls_of (args := [.int .i64 a]) Tryz.func229 Tryz.ntmps229 rfl rfl ?_
  refine c_seqR ?_
  refine ops_cons rfl (ow_assign rfl ?_)
  refine ops_nil ?_
  refine c_seqR ?_
  refine ops_cons rfl (ow_move rfl ?_)
  refine ops_cons rfl (ow_eql2 rfl rfl (fun h1 => ?_) (fun h1 => ?_))
  · skip
    refine ops_cons rfl (ow_move rfl ?_)
    refine ops_skip rfl rfl rfl rfl ?_
    refine ops_skip rfl rfl rfl rfl ?_
    refine ops_cons rfl (ow_pick rfl rfl ?_)
    refine ops_cons rfl (ow_assign rfl ?_)
    refine ops_nil ?_
    refine c_ret ?_
    refine fin_ret1 rfl rfl ?_
    exact ⟨by simp [*], X⟩
  · skip
    refine ops_cons rfl (ow_move rfl ?_)
    refine ops_want rfl rfl rfl (ow_move rfl ?_)
    refine ops_want rfl rfl rfl (ow_eql rfl rfl ?_)
    refine ops_cons rfl (ow_pick rfl rfl ?_)
    refine ops_cons rfl (ow_assign rfl ?_)
    refine ops_nil ?_
    refine c_ret ?_
    refine fin_ret1 rfl rfl ?_
    exact ⟨by simp [*], X⟩

theorem l06Body_c (a b : Int) (w : World) (hb : 0 ≤ b ∧ b ≤ 32) :
    Calls Tryz.prog 223 #[.int .i64 a, .int .i64 b] w (Ret fun v w' => v = .int .i64 (bodyS a b) ∧ Ext w w') := by
  have X := Ext.refl w
  refine calls_of (args := [.int .i64 a, .int .i64 b]) Tryz.func223 Tryz.ntmps223 rfl rfl ?_
  refine c_seqR ?_
  refine ops_cons rfl (ow_assign rfl ?_)
  refine ops_nil ?_
  refine c_seqR ?_
  refine ops_cons rfl (ow_assign rfl ?_)
  refine ops_nil ?_
  refine c_seq ?_
  refine c_seqR ?_
  refine ops_cons rfl (ow_move rfl ?_)
  refine ops_cons rfl (ow_callB ent230 rfl (l06State_c _ _) (fun w3 h1 x2 => ?_) (fun w3 h1 x2 => ?_))
  · skip
    replace X := Ext.trans X x2; clear x2
    refine ops_nil ?_
    refine c_true rfl ?_
    refine c_region ?_
    refine ops_cons rfl (ow_move rfl ?_)
    refine ops_cons rfl (ow_add rfl rfl (w64 (by omega)) ?_)
    refine ops_cons rfl (ow_assign rfl ?_)
    refine ops_nil ?_
    refine tq_n ?_
    refine c_seq ?_
    refine c_seqR ?_
    refine ops_cons rfl (ow_move rfl ?_)
    refine ops_cons rfl (ow_callB ent231 rfl (l06Data_c _ _) (fun w6 h4 x5 => ?_) (fun w6 h4 x5 => ?_))
    · skip
      replace X := Ext.trans X x5; clear x5
      refine ops_nil ?_
      refine c_true rfl ?_
      refine c_region ?_
      refine ops_cons rfl (ow_move rfl ?_)
      refine ops_cons rfl (ow_add rfl rfl (w64 (by omega)) ?_)
      refine ops_cons rfl (ow_move rfl ?_)
      refine ops_cons rfl (ow_add rfl rfl (w64 (by omega)) ?_)
      refine ops_cons rfl (ow_assign rfl ?_)
      refine ops_nil ?_
      refine tq_n ?_
      refine c_seqR ?_
      refine ops_cons rfl (ow_move rfl ?_)
      refine ops_cons rfl (ow_assign rfl ?_)
      refine ops_nil ?_
      refine c_ret ?_
      refine fin_ret1 rfl rfl ?_
      refine ⟨congrArg (Value.int .i64) ?_, X⟩
      simp only [decide_eq_true_eq, decide_eq_false_iff_not] at *
      unfold bodyS
      (repeat' split) <;> omega
    · skip
      replace X := Ext.trans X x5; clear x5
      refine ops_nil ?_
      refine c_false rfl ?_
      refine c_skip ?_
      refine tq_n ?_
      refine c_seqR ?_
      refine ops_cons rfl (ow_move rfl ?_)
      refine ops_cons rfl (ow_assign rfl ?_)
      refine ops_nil ?_
      refine c_ret ?_
      refine fin_ret1 rfl rfl ?_
      refine ⟨congrArg (Value.int .i64) ?_, X⟩
      simp only [decide_eq_true_eq, decide_eq_false_iff_not] at *
      unfold bodyS
      (repeat' split) <;> omega
  · skip
    replace X := Ext.trans X x2; clear x2
    refine ops_nil ?_
    refine c_false rfl ?_
    refine c_skip ?_
    refine tq_n ?_
    refine c_seq ?_
    refine c_seqR ?_
    refine ops_cons rfl (ow_move rfl ?_)
    refine ops_cons rfl (ow_callB ent231 rfl (l06Data_c _ _) (fun w9 h7 x8 => ?_) (fun w9 h7 x8 => ?_))
    · skip
      replace X := Ext.trans X x8; clear x8
      refine ops_nil ?_
      refine c_true rfl ?_
      refine c_region ?_
      refine ops_cons rfl (ow_move rfl ?_)
      refine ops_cons rfl (ow_add rfl rfl (w64 (by omega)) ?_)
      refine ops_cons rfl (ow_move rfl ?_)
      refine ops_cons rfl (ow_add rfl rfl (w64 (by omega)) ?_)
      refine ops_cons rfl (ow_assign rfl ?_)
      refine ops_nil ?_
      refine tq_n ?_
      refine c_seqR ?_
      refine ops_cons rfl (ow_move rfl ?_)
      refine ops_cons rfl (ow_assign rfl ?_)
      refine ops_nil ?_
      refine c_ret ?_
      refine fin_ret1 rfl rfl ?_
      refine ⟨congrArg (Value.int .i64) ?_, X⟩
      simp only [decide_eq_true_eq, decide_eq_false_iff_not] at *
      unfold bodyS
      (repeat' split) <;> omega
    · skip
      replace X := Ext.trans X x8; clear x8
      refine ops_nil ?_
      refine c_false rfl ?_
      refine c_skip ?_
      refine tq_n ?_
      refine c_seqR ?_
      refine ops_cons rfl (ow_move rfl ?_)
      refine ops_cons rfl (ow_assign rfl ?_)
      refine ops_nil ?_
      refine c_ret ?_
      refine fin_ret1 rfl rfl ?_
      refine ⟨congrArg (Value.int .i64) ?_, X⟩
      simp only [decide_eq_true_eq, decide_eq_false_iff_not] at *
      unfold bodyS
      (repeat' split) <;> omega

theorem bodySize_c (a b : Int) (w : World) (hb : 0 ≤ b ∧ b ≤ 32) :
    Calls Tryz.prog 222 #[.int .i64 a, .int .i64 b] w (Ret fun v w' => v = .int .i64 (bodyS a b) ∧ Ext w w') := by
  have X := Ext.refl w
  refine calls_of (args := [.int .i64 a, .int .i64 b]) Tryz.func222 Tryz.ntmps222 rfl rfl ?_
  refine c_seqR ?_
  refine ops_cons rfl (ow_assign rfl ?_)
  refine ops_nil ?_
  refine c_seqR ?_
  refine ops_cons rfl (ow_assign rfl ?_)
  refine ops_nil ?_
  refine c_seq ?_
  refine c_seqR ?_
  refine ops_cons rfl (ow_move rfl ?_)
  refine ops_cons rfl (ow_callB ent228 rfl (hasState_c _ _) (fun w3 h1 x2 => ?_) (fun w3 h1 x2 => ?_))
  · skip
    replace X := Ext.trans X x2; clear x2
    refine ops_nil ?_
    refine c_true rfl ?_
    refine c_region ?_
    refine ops_cons rfl (ow_move rfl ?_)
    refine ops_cons rfl (ow_add rfl rfl (w64 (by omega)) ?_)
    refine ops_cons rfl (ow_assign rfl ?_)
    refine ops_nil ?_
    refine tq_n ?_
    refine c_seq ?_
    refine c_seqR ?_
    refine ops_cons rfl (ow_move rfl ?_)
    refine ops_cons rfl (ow_callB ent229 rfl (hasData_c _ _) (fun w6 h4 x5 => ?_) (fun w6 h4 x5 => ?_))
    · skip
      replace X := Ext.trans X x5; clear x5
      refine ops_nil ?_
      refine c_true rfl ?_
      refine c_region ?_
      refine ops_cons rfl (ow_move rfl ?_)
      refine ops_cons rfl (ow_move rfl ?_)
      refine ops_cons rfl (ow_add rfl rfl (w64 (by omega)) ?_)
      refine ops_cons rfl (ow_add rfl rfl (w64 (by omega)) ?_)
      refine ops_cons rfl (ow_assign rfl ?_)
      refine ops_nil ?_
      refine tq_n ?_
      refine c_seqR ?_
      refine ops_cons rfl (ow_move rfl ?_)
      refine ops_cons rfl (ow_assign rfl ?_)
      refine ops_nil ?_
      refine c_ret ?_
      refine fin_ret1 rfl rfl ?_
      refine ⟨congrArg (Value.int .i64) ?_, X⟩
      simp only [decide_eq_true_eq, decide_eq_false_iff_not] at *
      unfold bodyS
      (repeat' split) <;> omega
    · skip
      replace X := Ext.trans X x5; clear x5
      refine ops_nil ?_
      refine c_false rfl ?_
      refine c_skip ?_
      refine tq_n ?_
      refine c_seqR ?_
      refine ops_cons rfl (ow_move rfl ?_)
      refine ops_cons rfl (ow_assign rfl ?_)
      refine ops_nil ?_
      refine c_ret ?_
      refine fin_ret1 rfl rfl ?_
      refine ⟨congrArg (Value.int .i64) ?_, X⟩
      simp only [decide_eq_true_eq, decide_eq_false_iff_not] at *
      unfold bodyS
      (repeat' split) <;> omega
  · skip
    replace X := Ext.trans X x2; clear x2
    refine ops_nil ?_
    refine c_false rfl ?_
    refine c_skip ?_
    refine tq_n ?_
    refine c_seq ?_
    refine c_seqR ?_
    refine ops_cons rfl (ow_move rfl ?_)
    refine ops_cons rfl (ow_callB ent229 rfl (hasData_c _ _) (fun w9 h7 x8 => ?_) (fun w9 h7 x8 => ?_))
    · skip
      replace X := Ext.trans X x8; clear x8
      refine ops_nil ?_
      refine c_true rfl ?_
      refine c_region ?_
      refine ops_cons rfl (ow_move rfl ?_)
      refine ops_cons rfl (ow_move rfl ?_)
      refine ops_cons rfl (ow_add rfl rfl (w64 (by omega)) ?_)
      refine ops_cons rfl (ow_add rfl rfl (w64 (by omega)) ?_)
      refine ops_cons rfl (ow_assign rfl ?_)
      refine ops_nil ?_
      refine tq_n ?_
      refine c_seqR ?_
      refine ops_cons rfl (ow_move rfl ?_)
      refine ops_cons rfl (ow_assign rfl ?_)
      refine ops_nil ?_
      refine c_ret ?_
      refine fin_ret1 rfl rfl ?_
      refine ⟨congrArg (Value.int .i64) ?_, X⟩
      simp only [decide_eq_true_eq, decide_eq_false_iff_not] at *
      unfold bodyS
      (repeat' split) <;> omega
    · skip
      replace X := Ext.trans X x8; clear x8
      refine ops_nil ?_
      refine c_false rfl ?_
      refine c_skip ?_
      refine tq_n ?_
      refine c_seqR ?_
      refine ops_cons rfl (ow_move rfl ?_)
      refine ops_cons rfl (ow_assign rfl ?_)
      refine ops_nil ?_
      refine c_ret ?_
      refine fin_ret1 rfl rfl ?_
      refine ⟨congrArg (Value.int .i64) ?_, X⟩
      simp only [decide_eq_true_eq, decide_eq_false_iff_not] at *
      unfold bodyS
      (repeat' split) <;> omega

theorem l08Cells_c (a b : Int) (w : World) (hb : 0 ≤ b ∧ b ≤ 32) :
    Calls Tryz.prog 214 #[.int .i64 a, .int .i64 b] w (Ret fun v w' => v = .int .i64 (cellsS a b) ∧ Ext w w') := by
  have h1 := bodyS_in a hb
  have X := Ext.refl w
  refine calls_of (args := [.int .i64 a, .int .i64 b]) Tryz.func214 Tryz.ntmps214 rfl rfl ?_
  refine c_seqR ?_
  refine ops_cons rfl (ow_assign rfl ?_)
  refine ops_nil ?_
  refine c_seqR ?_
  refine ops_cons rfl (ow_move rfl ?_)
  refine ops_cons rfl (ow_move rfl ?_)
  refine ops_cons rfl (ow_call ent223 rfl (ret_mono (l06Body_c _ _ _ hb) ?_))
  rintro _ w2 ⟨rfl, x1⟩
  replace X := Ext.trans X x1; clear x1
  refine ops_cons rfl (ow_add rfl rfl (w64 (by omega)) ?_)
  refine ops_cons rfl (ow_mul rfl rfl (w64 (by omega)) ?_)
  refine ops_cons rfl (ow_add rfl rfl (w64 (by omega)) ?_)
  refine ops_cons rfl (ow_assign rfl ?_)
  refine ops_nil ?_
  refine c_ret ?_
  refine fin_ret1 rfl rfl ?_
  exact ⟨by rfl, X⟩

theorem cellsNeeded_c (a b : Int) (w : World) (hb : 0 ≤ b ∧ b ≤ 32) :
    Calls Tryz.prog 207 #[.int .i64 a, .int .i64 b] w (Ret fun v w' => v = .int .i64 (cellsS a b) ∧ Ext w w') := by
  have h1 := bodyS_in a hb
  have X := Ext.refl w
  refine calls_of (args := [.int .i64 a, .int .i64 b]) Tryz.func207 Tryz.ntmps207 rfl rfl ?_
  refine c_seqR ?_
  refine ops_cons rfl (ow_assign rfl ?_)
  refine ops_nil ?_
  refine c_seqR ?_
  refine ops_cons rfl (ow_move rfl ?_)
  refine ops_cons rfl (ow_move rfl ?_)
  refine ops_cons rfl (ow_call ent222 rfl (ret_mono (bodySize_c _ _ _ hb) ?_))
  rintro _ w2 ⟨rfl, x1⟩
  replace X := Ext.trans X x1; clear x1
  refine ops_cons rfl (ow_add rfl rfl (w64 (by omega)) ?_)
  refine ops_cons rfl (ow_mul rfl rfl (w64 (by omega)) ?_)
  refine ops_cons rfl (ow_add rfl rfl (w64 (by omega)) ?_)
  refine ops_cons rfl (ow_assign rfl ?_)
  refine ops_nil ?_
  refine c_ret ?_
  refine fin_ret1 rfl rfl ?_
  exact ⟨by rfl, X⟩

theorem sIsDesc_c (d : Desc) (w : World)  :
    Calls Tryz.prog 193 #[.agg d.cells.toArray] w (Ret fun v w' => v = .bool (descOk d) ∧ Ext w w') := by
  have X := Ext.refl w
  refine calls_of (args := [.agg d.cells.toArray]) Tryz.func193 Tryz.ntmps193 rfl rfl ?_
  refine c_seqR ?_
  refine ops_cons rfl (ow_box rfl rfl ?_)
  intro g4 w3 eg4 b1 x2 zg4
  have lg4 : w.heap.size ≤ g4 := Nat.le_trans X.size (Nat.le_of_eq eg4.symm)
  replace X := Ext.trans X x2; clear x2
  refine ops_cons rfl (ow_assign rfl ?_)
  refine ops_nil ?_
  refine c_seq ?_
  refine c_seqR ?_
  refine ops_cons rfl (ow_fieldAddrB off108_0 rfl rfl ?_)
  refine ops_cons rfl (ow_loadB b1 ti2 rfl rfl ?_)
  refine ops_cons rfl (ow_callB ent210 rfl (l05Node_c _ _) (fun w7 h5 x6 => ?_) (fun w7 h5 x6 => ?_))
  · skip
    replace b1 := b1.ext x6
    replace X := Ext.trans X x6; clear x6
    refine ops_cons rfl (ow_not rfl ?_)
    refine ops_cons rfl (ow_move rfl ?_)
    refine ops_want rfl rfl rfl (ow_fieldAddrB off108_1 rfl rfl ?_)
    refine ops_want rfl rfl rfl (ow_loadB b1 ti2 rfl rfl ?_)
    refine ops_want rfl rfl rfl (ow_callB ent212 rfl (l06Kind_c _ _) (fun w10 h8 x9 => ?_) (fun w10 h8 x9 => ?_))
    · skip
      replace b1 := b1.ext x9
      replace X := Ext.trans X x9; clear x9
      refine ops_want rfl rfl rfl (ow_not rfl ?_)
      refine ops_cons rfl (ow_pick rfl rfl ?_)
      refine ops_cons rfl (ow_move rfl ?_)
      refine ops_want rfl rfl rfl (ow_fieldAddrB off108_1 rfl rfl ?_)
      refine ops_want rfl rfl rfl (ow_loadB b1 ti2 rfl rfl ?_)
      refine ops_want rfl rfl rfl (ow_fieldAddrB off108_2 rfl rfl ?_)
      refine ops_want rfl rfl rfl (ow_loadB b1 ti2 rfl rfl ?_)
      refine ops_want rfl rfl rfl (ow_callB ent213 rfl (l06Size_c _ _ _) (fun w13 h11 x12 => ?_) (fun w13 h11 x12 => ?_))
      · skip
        replace b1 := b1.ext x12
        replace X := Ext.trans X x12; clear x12
        refine ops_want rfl rfl rfl (ow_not rfl ?_)
        refine ops_cons rfl (ow_pick rfl rfl ?_)
        refine ops_cons rfl (ow_move rfl ?_)
        refine ops_want rfl rfl rfl (ow_fieldAddrB off108_1 rfl rfl ?_)
        refine ops_want rfl rfl rfl (ow_loadB b1 ti2 rfl rfl ?_)
        refine ops_want rfl rfl rfl (ow_eql2 rfl rfl (fun h14 => ?_) (fun h14 => ?_))
        · skip
          refine ops_want rfl rfl rfl (ow_move rfl ?_)
          refine ops_want rfl rfl rfl (ow_fieldAddrB off108_4 rfl rfl ?_)
          refine ops_want rfl rfl rfl (ow_loadB b1 ti4 rfl rfl ?_)
          cases hb15 : d.change
          · skip
            refine ops_want rfl rfl rfl (ow_pick rfl rfl ?_)
            refine ops_cons rfl (ow_pick rfl rfl ?_)
            refine ops_nil ?_
            refine c_false rfl ?_
            refine c_skip ?_
            refine tq_n ?_
            refine c_seqD [false, false, false, false, false, false, false, false, false, false] mixed (by kernel_rfl) ?_
            refine f_q rfl (fun wq sq => ow_fieldAddrB off108_3 rfl rfl ⟨rfl, Ext.refl _⟩) ?_
            refine f_q rfl (fun wq sq => ow_loadB (b1.ext sq) ti2 rfl rfl ⟨rfl, Ext.refl _⟩) ?_
            refine f_q rfl (fun wq sq => ow_fieldAddrB off108_1 rfl rfl ⟨rfl, Ext.refl _⟩) ?_
            refine f_q rfl (fun wq sq => ow_loadB (b1.ext sq) ti2 rfl rfl ⟨rfl, Ext.refl _⟩) ?_
            refine f_q rfl (fun wq sq => ow_fieldAddrB off108_2 rfl rfl ⟨rfl, Ext.refl _⟩) ?_
            refine f_q rfl (fun wq sq => ow_loadB (b1.ext sq) ti2 rfl rfl ⟨rfl, Ext.refl _⟩) ?_
            have hb : 0 ≤ d.size ∧ d.size ≤ 32 := dataOk_in ‹dataOk d.kind d.size = true›
            have h0 := cellsS_in d.kind hb
            refine f_q rfl (fun wq sq => ow_call ent214 rfl (l08Cells_c _ _ _ hb)) ?_
            refine f_q rfl (fun wq sq => ow_add rfl rfl (w64 (by omega)) ⟨rfl, Ext.refl _⟩) ?_
            refine f_q rfl (fun wq sq => ow_call ent64 rfl (l01In_c _ _ _ _)) ?_
            refine f_q rfl (fun wq sq => ow_assign rfl ⟨rfl, Ext.refl _⟩) ?_
            refine f_nil (fun w16 sq => ?_)
            have xq := sq
            replace b1 := b1.ext xq
            replace X := Ext.trans X xq; clear xq sq
            refine ops_nil ?_
            refine c_ret ?_
            refine fin_ret1 rfl rfl ?_
            refine ⟨congrArg Value.bool ?_, X⟩
            first | (simp [descOk, *]; done) | (simp_all [descOk]; done)
          · skip
            refine ops_want rfl rfl rfl (ow_pick rfl rfl ?_)
            refine ops_cons rfl (ow_pick rfl rfl ?_)
            refine ops_nil ?_
            refine c_true rfl ?_
            refine c_seqR ?_
            refine ops_cons rfl (ow_assign rfl ?_)
            refine ops_nil ?_
            refine c_ret ?_
            refine tq_r ?_
            refine fin_ret1 rfl rfl ?_
            refine ⟨congrArg Value.bool ?_, X⟩
            first | (simp [descOk, *]; done) | (simp_all [descOk]; done)
        · skip
          refine ops_want rfl rfl rfl (ow_move rfl ?_)
          refine ops_skip rfl rfl rfl rfl ?_
          refine ops_skip rfl rfl rfl rfl ?_
          refine ops_want rfl rfl rfl (ow_pick rfl rfl ?_)
          refine ops_cons rfl (ow_pick rfl rfl ?_)
          refine ops_nil ?_
          refine c_false rfl ?_
          refine c_skip ?_
          refine tq_n ?_
          refine c_seqD [false, false, false, false, false, false, false, false, false, false] mixed (by kernel_rfl) ?_
          refine f_q rfl (fun wq sq => ow_fieldAddrB off108_3 rfl rfl ⟨rfl, Ext.refl _⟩) ?_
          refine f_q rfl (fun wq sq => ow_loadB (b1.ext sq) ti2 rfl rfl ⟨rfl, Ext.refl _⟩) ?_
          refine f_q rfl (fun wq sq => ow_fieldAddrB off108_1 rfl rfl ⟨rfl, Ext.refl _⟩) ?_
          refine f_q rfl (fun wq sq => ow_loadB (b1.ext sq) ti2 rfl rfl ⟨rfl, Ext.refl _⟩) ?_
          refine f_q rfl (fun wq sq => ow_fieldAddrB off108_2 rfl rfl ⟨rfl, Ext.refl _⟩) ?_
          refine f_q rfl (fun wq sq => ow_loadB (b1.ext sq) ti2 rfl rfl ⟨rfl, Ext.refl _⟩) ?_
          have hb : 0 ≤ d.size ∧ d.size ≤ 32 := dataOk_in ‹dataOk d.kind d.size = true›
          have h0 := cellsS_in d.kind hb
          refine f_q rfl (fun wq sq => ow_call ent214 rfl (l08Cells_c _ _ _ hb)) ?_
          refine f_q rfl (fun wq sq => ow_add rfl rfl (w64 (by omega)) ⟨rfl, Ext.refl _⟩) ?_
          refine f_q rfl (fun wq sq => ow_call ent64 rfl (l01In_c _ _ _ _)) ?_
          refine f_q rfl (fun wq sq => ow_assign rfl ⟨rfl, Ext.refl _⟩) ?_
          refine f_nil (fun w17 sq => ?_)
          have xq := sq
          replace b1 := b1.ext xq
          replace X := Ext.trans X xq; clear xq sq
          refine ops_nil ?_
          refine c_ret ?_
          refine fin_ret1 rfl rfl ?_
          refine ⟨congrArg Value.bool ?_, X⟩
          first | (simp [descOk, *]; done) | (simp_all [descOk]; done)
      · skip
        replace b1 := b1.ext x12
        replace X := Ext.trans X x12; clear x12
        refine ops_want rfl rfl rfl (ow_not rfl ?_)
        refine ops_cons rfl (ow_pick rfl rfl ?_)
        refine ops_cons rfl (ow_move rfl ?_)
        refine ops_skip rfl rfl rfl rfl ?_
        refine ops_skip rfl rfl rfl rfl ?_
        refine ops_skip rfl rfl rfl rfl ?_
        refine ops_skip rfl rfl rfl rfl ?_
        refine ops_skip2 rfl rfl rfl ?_
        refine ops_skip2 rfl rfl rfl ?_
        refine ops_skip rfl rfl rfl rfl ?_
        refine ops_cons rfl (ow_pick rfl rfl ?_)
        refine ops_nil ?_
        refine c_true rfl ?_
        refine c_seqR ?_
        refine ops_cons rfl (ow_assign rfl ?_)
        refine ops_nil ?_
        refine c_ret ?_
        refine tq_r ?_
        refine fin_ret1 rfl rfl ?_
        refine ⟨congrArg Value.bool ?_, X⟩
        first | (simp [descOk, *]; done) | (simp_all [descOk]; done)
    · skip
      replace b1 := b1.ext x9
      replace X := Ext.trans X x9; clear x9
      refine ops_want rfl rfl rfl (ow_not rfl ?_)
      refine ops_cons rfl (ow_pick rfl rfl ?_)
      refine ops_cons rfl (ow_move rfl ?_)
      refine ops_skip rfl rfl rfl rfl ?_
      refine ops_skip rfl rfl rfl rfl ?_
      refine ops_skip rfl rfl rfl rfl ?_
      refine ops_skip rfl rfl rfl rfl ?_
      refine ops_skip rfl rfl rfl rfl ?_
      refine ops_skip rfl rfl rfl rfl ?_
      refine ops_cons rfl (ow_pick rfl rfl ?_)
      refine ops_cons rfl (ow_move rfl ?_)
      refine ops_skip rfl rfl rfl rfl ?_
      refine ops_skip rfl rfl rfl rfl ?_
      refine ops_skip rfl rfl rfl rfl ?_
      refine ops_skip rfl rfl rfl rfl ?_
      refine ops_skip2 rfl rfl rfl ?_
      refine ops_skip2 rfl rfl rfl ?_
      refine ops_skip rfl rfl rfl rfl ?_
      refine ops_cons rfl (ow_pick rfl rfl ?_)
      refine ops_nil ?_
      refine c_true rfl ?_
      refine c_seqR ?_
      refine ops_cons rfl (ow_assign rfl ?_)
      refine ops_nil ?_
      refine c_ret ?_
      refine tq_r ?_
      refine fin_ret1 rfl rfl ?_
      refine ⟨congrArg Value.bool ?_, X⟩
      first | (simp [descOk, *]; done) | (simp_all [descOk]; done)
  · skip
    replace b1 := b1.ext x6
    replace X := Ext.trans X x6; clear x6
    refine ops_cons rfl (ow_not rfl ?_)
    refine ops_cons rfl (ow_move rfl ?_)
    refine ops_skip rfl rfl rfl rfl ?_
    refine ops_skip rfl rfl rfl rfl ?_
    refine ops_skip rfl rfl rfl rfl ?_
    refine ops_skip rfl rfl rfl rfl ?_
    refine ops_cons rfl (ow_pick rfl rfl ?_)
    refine ops_cons rfl (ow_move rfl ?_)
    refine ops_skip rfl rfl rfl rfl ?_
    refine ops_skip rfl rfl rfl rfl ?_
    refine ops_skip rfl rfl rfl rfl ?_
    refine ops_skip rfl rfl rfl rfl ?_
    refine ops_skip rfl rfl rfl rfl ?_
    refine ops_skip rfl rfl rfl rfl ?_
    refine ops_cons rfl (ow_pick rfl rfl ?_)
    refine ops_cons rfl (ow_move rfl ?_)
    refine ops_skip rfl rfl rfl rfl ?_
    refine ops_skip rfl rfl rfl rfl ?_
    refine ops_skip rfl rfl rfl rfl ?_
    refine ops_skip rfl rfl rfl rfl ?_
    refine ops_skip2 rfl rfl rfl ?_
    refine ops_skip2 rfl rfl rfl ?_
    refine ops_skip rfl rfl rfl rfl ?_
    refine ops_cons rfl (ow_pick rfl rfl ?_)
    refine ops_nil ?_
    refine c_true rfl ?_
    refine c_seqR ?_
    refine ops_cons rfl (ow_assign rfl ?_)
    refine ops_nil ?_
    refine c_ret ?_
    refine tq_r ?_
    refine fin_ret1 rfl rfl ?_
    refine ⟨congrArg Value.bool ?_, X⟩
    first | (simp [descOk, *]; done) | (simp_all [descOk]; done)

theorem iIsDesc_c (d : Desc) (w : World)  :
    Calls Tryz.prog 179 #[.agg d.cells.toArray] w (Ret fun v w' => v = .bool (descOk d) ∧ Ext w w') := by
  have X := Ext.refl w
  refine calls_of (args := [.agg d.cells.toArray]) Tryz.func179 Tryz.ntmps179 rfl rfl ?_
  refine c_seqR ?_
  refine ops_cons rfl (ow_box rfl rfl ?_)
  intro g4 w3 eg4 b1 x2 zg4
  have lg4 : w.heap.size ≤ g4 := Nat.le_trans X.size (Nat.le_of_eq eg4.symm)
  replace X := Ext.trans X x2; clear x2
  refine ops_cons rfl (ow_assign rfl ?_)
  refine ops_nil ?_
  refine c_seq ?_
  refine c_seqR ?_
  refine ops_cons rfl (ow_fieldAddrB off108_0 rfl rfl ?_)
  refine ops_cons rfl (ow_loadB b1 ti2 rfl rfl ?_)
  refine ops_cons rfl (ow_callB ent203 rfl (isNode_c _ _) (fun w7 h5 x6 => ?_) (fun w7 h5 x6 => ?_))
  · skip
    replace b1 := b1.ext x6
    replace X := Ext.trans X x6; clear x6
    refine ops_cons rfl (ow_not rfl ?_)
    refine ops_cons rfl (ow_move rfl ?_)
    refine ops_want rfl rfl rfl (ow_fieldAddrB off108_1 rfl rfl ?_)
    refine ops_want rfl rfl rfl (ow_loadB b1 ti2 rfl rfl ?_)
    refine ops_want rfl rfl rfl (ow_callB ent205 rfl (isKind_c _ _) (fun w10 h8 x9 => ?_) (fun w10 h8 x9 => ?_))
    · skip
      replace b1 := b1.ext x9
      replace X := Ext.trans X x9; clear x9
      refine ops_want rfl rfl rfl (ow_not rfl ?_)
      refine ops_cons rfl (ow_pick rfl rfl ?_)
      refine ops_cons rfl (ow_move rfl ?_)
      refine ops_want rfl rfl rfl (ow_fieldAddrB off108_1 rfl rfl ?_)
      refine ops_want rfl rfl rfl (ow_loadB b1 ti2 rfl rfl ?_)
      refine ops_want rfl rfl rfl (ow_fieldAddrB off108_2 rfl rfl ?_)
      refine ops_want rfl rfl rfl (ow_loadB b1 ti2 rfl rfl ?_)
      refine ops_want rfl rfl rfl (ow_callB ent206 rfl (isDataSize_c _ _ _) (fun w13 h11 x12 => ?_) (fun w13 h11 x12 => ?_))
      · skip
        replace b1 := b1.ext x12
        replace X := Ext.trans X x12; clear x12
        refine ops_want rfl rfl rfl (ow_not rfl ?_)
        refine ops_cons rfl (ow_pick rfl rfl ?_)
        refine ops_cons rfl (ow_move rfl ?_)
        refine ops_want rfl rfl rfl (ow_fieldAddrB off108_4 rfl rfl ?_)
        refine ops_want rfl rfl rfl (ow_loadB b1 ti4 rfl rfl ?_)
        cases hb14 : d.change
        · skip
          refine ops_want rfl rfl rfl (ow_move rfl ?_)
          refine ops_skip rfl rfl rfl rfl ?_
          refine ops_skip rfl rfl rfl rfl ?_
          refine ops_skip rfl rfl rfl rfl ?_
          refine ops_want rfl rfl rfl (ow_pick rfl rfl ?_)
          refine ops_cons rfl (ow_pick rfl rfl ?_)
          refine ops_nil ?_
          refine c_false rfl ?_
          refine c_skip ?_
          refine tq_n ?_
          refine c_seqD [false, false, false, false, false, false, false, false, false, false] mixed (by kernel_rfl) ?_
          refine f_q rfl (fun wq sq => ow_fieldAddrB off108_3 rfl rfl ⟨rfl, Ext.refl _⟩) ?_
          refine f_q rfl (fun wq sq => ow_loadB (b1.ext sq) ti2 rfl rfl ⟨rfl, Ext.refl _⟩) ?_
          refine f_q rfl (fun wq sq => ow_fieldAddrB off108_1 rfl rfl ⟨rfl, Ext.refl _⟩) ?_
          refine f_q rfl (fun wq sq => ow_loadB (b1.ext sq) ti2 rfl rfl ⟨rfl, Ext.refl _⟩) ?_
          refine f_q rfl (fun wq sq => ow_fieldAddrB off108_2 rfl rfl ⟨rfl, Ext.refl _⟩) ?_
          refine f_q rfl (fun wq sq => ow_loadB (b1.ext sq) ti2 rfl rfl ⟨rfl, Ext.refl _⟩) ?_
          have hb : 0 ≤ d.size ∧ d.size ≤ 32 := dataOk_in ‹dataOk d.kind d.size = true›
          have h0 := cellsS_in d.kind hb
          refine f_q rfl (fun wq sq => ow_call ent207 rfl (cellsNeeded_c _ _ _ hb)) ?_
          refine f_q rfl (fun wq sq => ow_add rfl rfl (w64 (by omega)) ⟨rfl, Ext.refl _⟩) ?_
          refine f_q rfl (fun wq sq => ow_call ent66 rfl (within_c _ _ _ _)) ?_
          refine f_q rfl (fun wq sq => ow_assign rfl ⟨rfl, Ext.refl _⟩) ?_
          refine f_nil (fun w15 sq => ?_)
          have xq := sq
          replace b1 := b1.ext xq
          replace X := Ext.trans X xq; clear xq sq
          refine ops_nil ?_
          refine c_ret ?_
          refine fin_ret1 rfl rfl ?_
          refine ⟨congrArg Value.bool ?_, X⟩
          first | (simp [descOk, *]; done) | (simp_all [descOk]; done)
        · skip
          refine ops_want rfl rfl rfl (ow_move rfl ?_)
          refine ops_want rfl rfl rfl (ow_fieldAddrB off108_1 rfl rfl ?_)
          refine ops_want rfl rfl rfl (ow_loadB b1 ti2 rfl rfl ?_)
          refine ops_want rfl rfl rfl (ow_eql2 rfl rfl (fun h16 => ?_) (fun h16 => ?_))
          · skip
            refine ops_want rfl rfl rfl (ow_pick rfl rfl ?_)
            refine ops_cons rfl (ow_pick rfl rfl ?_)
            refine ops_nil ?_
            refine c_true rfl ?_
            refine c_seqR ?_
            refine ops_cons rfl (ow_assign rfl ?_)
            refine ops_nil ?_
            refine c_ret ?_
            refine tq_r ?_
            refine fin_ret1 rfl rfl ?_
            refine ⟨congrArg Value.bool ?_, X⟩
            first | (simp [descOk, *]; done) | (simp_all [descOk]; done)
          · skip
            refine ops_want rfl rfl rfl (ow_pick rfl rfl ?_)
            refine ops_cons rfl (ow_pick rfl rfl ?_)
            refine ops_nil ?_
            refine c_false rfl ?_
            refine c_skip ?_
            refine tq_n ?_
            refine c_seqD [false, false, false, false, false, false, false, false, false, false] mixed (by kernel_rfl) ?_
            refine f_q rfl (fun wq sq => ow_fieldAddrB off108_3 rfl rfl ⟨rfl, Ext.refl _⟩) ?_
            refine f_q rfl (fun wq sq => ow_loadB (b1.ext sq) ti2 rfl rfl ⟨rfl, Ext.refl _⟩) ?_
            refine f_q rfl (fun wq sq => ow_fieldAddrB off108_1 rfl rfl ⟨rfl, Ext.refl _⟩) ?_
            refine f_q rfl (fun wq sq => ow_loadB (b1.ext sq) ti2 rfl rfl ⟨rfl, Ext.refl _⟩) ?_
            refine f_q rfl (fun wq sq => ow_fieldAddrB off108_2 rfl rfl ⟨rfl, Ext.refl _⟩) ?_
            refine f_q rfl (fun wq sq => ow_loadB (b1.ext sq) ti2 rfl rfl ⟨rfl, Ext.refl _⟩) ?_
            have hb : 0 ≤ d.size ∧ d.size ≤ 32 := dataOk_in ‹dataOk d.kind d.size = true›
            have h0 := cellsS_in d.kind hb
            refine f_q rfl (fun wq sq => ow_call ent207 rfl (cellsNeeded_c _ _ _ hb)) ?_
            refine f_q rfl (fun wq sq => ow_add rfl rfl (w64 (by omega)) ⟨rfl, Ext.refl _⟩) ?_
            refine f_q rfl (fun wq sq => ow_call ent66 rfl (within_c _ _ _ _)) ?_
            refine f_q rfl (fun wq sq => ow_assign rfl ⟨rfl, Ext.refl _⟩) ?_
            refine f_nil (fun w17 sq => ?_)
            have xq := sq
            replace b1 := b1.ext xq
            replace X := Ext.trans X xq; clear xq sq
            refine ops_nil ?_
            refine c_ret ?_
            refine fin_ret1 rfl rfl ?_
            refine ⟨congrArg Value.bool ?_, X⟩
            first | (simp [descOk, *]; done) | (simp_all [descOk]; done)
      · skip
        replace b1 := b1.ext x12
        replace X := Ext.trans X x12; clear x12
        refine ops_want rfl rfl rfl (ow_not rfl ?_)
        refine ops_cons rfl (ow_pick rfl rfl ?_)
        refine ops_cons rfl (ow_move rfl ?_)
        refine ops_skip rfl rfl rfl rfl ?_
        refine ops_skip rfl rfl rfl rfl ?_
        refine ops_skip rfl rfl rfl rfl ?_
        refine ops_skip2 rfl rfl rfl ?_
        refine ops_skip2 rfl rfl rfl ?_
        refine ops_skip2 rfl rfl rfl ?_
        refine ops_skip rfl rfl rfl rfl ?_
        refine ops_cons rfl (ow_pick rfl rfl ?_)
        refine ops_nil ?_
        refine c_true rfl ?_
        refine c_seqR ?_
        refine ops_cons rfl (ow_assign rfl ?_)
        refine ops_nil ?_
        refine c_ret ?_
        refine tq_r ?_
        refine fin_ret1 rfl rfl ?_
        refine ⟨congrArg Value.bool ?_, X⟩
        first | (simp [descOk, *]; done) | (simp_all [descOk]; done)
    · skip
      replace b1 := b1.ext x9
      replace X := Ext.trans X x9; clear x9
      refine ops_want rfl rfl rfl (ow_not rfl ?_)
      refine ops_cons rfl (ow_pick rfl rfl ?_)
      refine ops_cons rfl (ow_move rfl ?_)
      refine ops_skip rfl rfl rfl rfl ?_
      refine ops_skip rfl rfl rfl rfl ?_
      refine ops_skip rfl rfl rfl rfl ?_
      refine ops_skip rfl rfl rfl rfl ?_
      refine ops_skip rfl rfl rfl rfl ?_
      refine ops_skip rfl rfl rfl rfl ?_
      refine ops_cons rfl (ow_pick rfl rfl ?_)
      refine ops_cons rfl (ow_move rfl ?_)
      refine ops_skip rfl rfl rfl rfl ?_
      refine ops_skip rfl rfl rfl rfl ?_
      refine ops_skip rfl rfl rfl rfl ?_
      refine ops_skip2 rfl rfl rfl ?_
      refine ops_skip2 rfl rfl rfl ?_
      refine ops_skip2 rfl rfl rfl ?_
      refine ops_skip rfl rfl rfl rfl ?_
      refine ops_cons rfl (ow_pick rfl rfl ?_)
      refine ops_nil ?_
      refine c_true rfl ?_
      refine c_seqR ?_
      refine ops_cons rfl (ow_assign rfl ?_)
      refine ops_nil ?_
      refine c_ret ?_
      refine tq_r ?_
      refine fin_ret1 rfl rfl ?_
      refine ⟨congrArg Value.bool ?_, X⟩
      first | (simp [descOk, *]; done) | (simp_all [descOk]; done)
  · skip
    replace b1 := b1.ext x6
    replace X := Ext.trans X x6; clear x6
    refine ops_cons rfl (ow_not rfl ?_)
    refine ops_cons rfl (ow_move rfl ?_)
    refine ops_skip rfl rfl rfl rfl ?_
    refine ops_skip rfl rfl rfl rfl ?_
    refine ops_skip rfl rfl rfl rfl ?_
    refine ops_skip rfl rfl rfl rfl ?_
    refine ops_cons rfl (ow_pick rfl rfl ?_)
    refine ops_cons rfl (ow_move rfl ?_)
    refine ops_skip rfl rfl rfl rfl ?_
    refine ops_skip rfl rfl rfl rfl ?_
    refine ops_skip rfl rfl rfl rfl ?_
    refine ops_skip rfl rfl rfl rfl ?_
    refine ops_skip rfl rfl rfl rfl ?_
    refine ops_skip rfl rfl rfl rfl ?_
    refine ops_cons rfl (ow_pick rfl rfl ?_)
    refine ops_cons rfl (ow_move rfl ?_)
    refine ops_skip rfl rfl rfl rfl ?_
    refine ops_skip rfl rfl rfl rfl ?_
    refine ops_skip rfl rfl rfl rfl ?_
    refine ops_skip2 rfl rfl rfl ?_
    refine ops_skip2 rfl rfl rfl ?_
    refine ops_skip2 rfl rfl rfl ?_
    refine ops_skip rfl rfl rfl rfl ?_
    refine ops_cons rfl (ow_pick rfl rfl ?_)
    refine ops_nil ?_
    refine c_true rfl ?_
    refine c_seqR ?_
    refine ops_cons rfl (ow_assign rfl ?_)
    refine ops_nil ?_
    refine c_ret ?_
    refine tq_r ?_
    refine fin_ret1 rfl rfl ?_
    refine ⟨congrArg Value.bool ?_, X⟩
    first | (simp [descOk, *]; done) | (simp_all [descOk]; done)
end Go.Proofs.YthdeoagoehkcfaaGreatDoor
