/- What the functions on descriptors compute. No condition. -/
import Derived.Test.YtojgfbbdjobdnaaFlowT
import Derived.Test.YtojgfbbdjobdnaaMod1
namespace Go.Proofs.Ytojgfbbdjobdnaa
open Go.RowKit
set_option linter.unusedVariables false
set_option linter.unusedSimpArgs false
set_option maxRecDepth 20000
theorem dataOk_in {k z : Int} (h : dataOk k z = true) : 0 ≤ z ∧ z ≤ 32 := by
  unfold dataOk at h
  split at h
  · exact inB_iff.1 h
  · split at h
    · have := inB_iff.1 h; omega
    · simp at h; omega
theorem bodyS_in (k : Int) {z : Int} (h : 0 ≤ z ∧ z ≤ 32) : 1 ≤ bodyS k z ∧ bodyS k z ≤ 42 := by
  unfold bodyS; (repeat' split) <;> omega
theorem cellsS_in (k : Int) {z : Int} (h : 0 ≤ z ∧ z ≤ 32) : 41 ≤ cellsS k z ∧ cellsS k z ≤ 1000 := by
  have := bodyS_in k h; unfold cellsS; omega
theorem l01In_c (a b c : Int) (w : World)  :
    Calls Try.prog 53 #[.int .i64 a, .int .i64 b, .int .i64 c] w (Ret fun v w' => v = .bool (inB a b c) ∧ Ext w w') := by
  have X := Ext.refl w
  refine calls_of (args := [.int .i64 a, .int .i64 b, .int .i64 c]) Try.func53 Try.ntmps53 rfl rfl ?_
  refine c_seqR ?_
  refine ops_cons rfl (ow_assign rfl ?_)
  refine ops_nil ?_
  refine c_seqR ?_
  refine ops_cons rfl (ow_move rfl ?_)
  refine ops_cons rfl (ow_move rfl ?_)
  refine ops_cons rfl (ow_geq2 rfl rfl (fun h1 => ?_) (fun h1 => ?_))
  · skip
    refine ops_cons rfl (ow_move rfl ?_)
    refine ops_want rfl rfl rfl (ow_move rfl ?_)
    refine ops_want rfl rfl rfl (ow_move rfl ?_)
    refine ops_want rfl rfl rfl (ow_leq rfl rfl ?_)
    refine ops_cons rfl (ow_pick rfl rfl ?_)
    refine ops_cons rfl (ow_assign rfl ?_)
    refine ops_nil ?_
    refine c_ret ?_
    refine fin_ret1 rfl rfl ?_
    exact ⟨by simp [inB, *], X⟩
  · skip
    refine ops_cons rfl (ow_move rfl ?_)
    refine ops_skip rfl rfl rfl rfl ?_
    refine ops_skip rfl rfl rfl rfl ?_
    refine ops_skip rfl rfl rfl rfl ?_
    refine ops_cons rfl (ow_pick rfl rfl ?_)
    refine ops_cons rfl (ow_assign rfl ?_)
    refine ops_nil ?_
    refine c_ret ?_
    refine fin_ret1 rfl rfl ?_
    exact ⟨by simp [inB, *], X⟩

theorem within_c (a b c : Int) (w : World)  :
    Calls Try.prog 50 #[.int .i64 a, .int .i64 b, .int .i64 c] w (Ret fun v w' => v = .bool (inB a b c) ∧ Ext w w') := by
  have X := Ext.refl w
  refine calls_of (args := [.int .i64 a, .int .i64 b, .int .i64 c]) Try.func50 Try.ntmps50 rfl rfl ?_
  refine c_seqR ?_
  refine ops_cons rfl (ow_assign rfl ?_)
  refine ops_nil ?_
  refine c_seqR ?_
  refine ops_cons rfl (ow_move rfl ?_)
  refine ops_cons rfl (ow_move rfl ?_)
  refine ops_cons rfl (ow_geq2 rfl rfl (fun h1 => ?_) (fun h1 => ?_))
  · skip
    refine ops_cons rfl (ow_move rfl ?_)
    refine ops_want rfl rfl rfl (ow_move rfl ?_)
    refine ops_want rfl rfl rfl (ow_move rfl ?_)
    refine ops_want rfl rfl rfl (ow_leq rfl rfl ?_)
    refine ops_cons rfl (ow_pick rfl rfl ?_)
    refine ops_cons rfl (ow_assign rfl ?_)
    refine ops_nil ?_
    refine c_ret ?_
    refine fin_ret1 rfl rfl ?_
    exact ⟨by simp [inB, *], X⟩
  · skip
    refine ops_cons rfl (ow_move rfl ?_)
    refine ops_skip rfl rfl rfl rfl ?_
    refine ops_skip rfl rfl rfl rfl ?_
    refine ops_skip rfl rfl rfl rfl ?_
    refine ops_cons rfl (ow_pick rfl rfl ?_)
    refine ops_cons rfl (ow_assign rfl ?_)
    refine ops_nil ?_
    refine c_ret ?_
    refine fin_ret1 rfl rfl ?_
    exact ⟨by simp [inB, *], X⟩

theorem l05Node_c (a : Int) (w : World)  :
    Calls Try.prog 97 #[.int .i64 a] w (Ret fun v w' => v = .bool (inB a 0 31) ∧ Ext w w') := by
  have X := Ext.refl w
  refine calls_of (args := [.int .i64 a]) Try.func97 Try.ntmps97 rfl rfl ?_
  refine c_seqR ?_
  refine ops_cons rfl (ow_assign rfl ?_)
  refine ops_nil ?_
  refine c_seqR ?_
  refine ops_cons rfl (ow_move rfl ?_)
  refine ops_cons rfl (ow_call ent53 rfl (ret_mono (l01In_c _ _ _ _) ?_))
  rintro _ w2 ⟨rfl, x1⟩
  replace X := Ext.trans X x1; clear x1
  refine ops_cons rfl (ow_assign rfl ?_)
  refine ops_nil ?_
  refine c_ret ?_
  refine fin_ret1 rfl rfl ?_
  exact ⟨by first | rfl | (simp [*]; done), X⟩

theorem isNode_c (a : Int) (w : World)  :
    Calls Try.prog 93 #[.int .i64 a] w (Ret fun v w' => v = .bool (inB a 0 31) ∧ Ext w w') := by
  have X := Ext.refl w
  refine calls_of (args := [.int .i64 a]) Try.func93 Try.ntmps93 rfl rfl ?_
  refine c_seqR ?_
  refine ops_cons rfl (ow_assign rfl ?_)
  refine ops_nil ?_
  refine c_seqR ?_
  refine ops_cons rfl (ow_move rfl ?_)
  refine ops_cons rfl (ow_call ent50 rfl (ret_mono (within_c _ _ _ _) ?_))
  rintro _ w2 ⟨rfl, x1⟩
  replace X := Ext.trans X x1; clear x1
  refine ops_cons rfl (ow_assign rfl ?_)
  refine ops_nil ?_
  refine c_ret ?_
  refine fin_ret1 rfl rfl ?_
  exact ⟨by first | rfl | (simp [*]; done), X⟩

theorem l06Kind_c (a : Int) (w : World)  :
    Calls Try.prog 98 #[.int .i64 a] w (Ret fun v w' => v = .bool (inB a 0 3) ∧ Ext w w') := by
  have X := Ext.refl w
  refine calls_of (args := [.int .i64 a]) Try.func98 Try.ntmps98 rfl rfl ?_
  refine c_seqR ?_
  refine ops_cons rfl (ow_assign rfl ?_)
  refine ops_nil ?_
  refine c_seqR ?_
  refine ops_cons rfl (ow_move rfl ?_)
  refine ops_cons rfl (ow_call ent53 rfl (ret_mono (l01In_c _ _ _ _) ?_))
  rintro _ w2 ⟨rfl, x1⟩
  replace X := Ext.trans X x1; clear x1
  refine ops_cons rfl (ow_assign rfl ?_)
  refine ops_nil ?_
  refine c_ret ?_
  refine fin_ret1 rfl rfl ?_
  exact ⟨by first | rfl | (simp [*]; done), X⟩

theorem isKind_c (a : Int) (w : World)  :
    Calls Try.prog 94 #[.int .i64 a] w (Ret fun v w' => v = .bool (inB a 0 3) ∧ Ext w w') := by
  have X := Ext.refl w
  refine calls_of (args := [.int .i64 a]) Try.func94 Try.ntmps94 rfl rfl ?_
  refine c_seqR ?_
  refine ops_cons rfl (ow_assign rfl ?_)
  refine ops_nil ?_
  refine c_seqR ?_
  refine ops_cons rfl (ow_move rfl ?_)
  refine ops_cons rfl (ow_call ent50 rfl (ret_mono (within_c _ _ _ _) ?_))
  rintro _ w2 ⟨rfl, x1⟩
  replace X := Ext.trans X x1; clear x1
  refine ops_cons rfl (ow_assign rfl ?_)
  refine ops_nil ?_
  refine c_ret ?_
  refine fin_ret1 rfl rfl ?_
  exact ⟨by first | rfl | (simp [*]; done), X⟩

theorem l06Size_c (a b : Int) (w : World)  :
    Calls Try.prog 99 #[.int .i64 a, .int .i64 b] w (Ret fun v w' => v = .bool (dataOk a b) ∧ Ext w w') := by
  have X := Ext.refl w
  refine calls_of (args := [.int .i64 a, .int .i64 b]) Try.func99 Try.ntmps99 rfl rfl ?_
  refine c_seqR ?_
  refine ops_cons rfl (ow_assign rfl ?_)
  refine ops_nil ?_
  refine c_seq ?_
  refine c_seqR ?_
  refine ops_cons rfl (ow_move rfl ?_)
  refine ops_nil ?_
  refine c_block ?_
  refine c_seqR ?_
  refine ops_cons rfl (ow_eql2 rfl rfl (fun h1 => ?_) (fun h1 => ?_))
  · skip
    refine ops_cons rfl (ow_assign rfl ?_)
    refine ops_nil ?_
    refine c_true rfl ?_
    refine c_seqR ?_
    refine ops_cons rfl (ow_move rfl ?_)
    refine ops_cons rfl (ow_call ent53 rfl (ret_mono (l01In_c _ _ _ _) ?_))
    rintro _ w3 ⟨rfl, x2⟩
    replace X := Ext.trans X x2; clear x2
    refine ops_cons rfl (ow_assign rfl ?_)
    refine ops_nil ?_
    refine c_ret ?_
    refine bq_r ?_
    refine tq_r ?_
    refine fin_ret1 rfl rfl ?_
    exact ⟨by simp [dataOk, *], X⟩
  · skip
    refine ops_cons rfl (ow_assign rfl ?_)
    refine ops_nil ?_
    refine c_false rfl ?_
    refine c_seqR ?_
    refine ops_cons rfl (ow_eql2 rfl rfl (fun h4 => ?_) (fun h4 => ?_))
    · skip
      refine ops_cons rfl (ow_assign rfl ?_)
      refine ops_nil ?_
      refine c_true rfl ?_
      refine c_seqR ?_
      refine ops_cons rfl (ow_move rfl ?_)
      refine ops_cons rfl (ow_call ent53 rfl (ret_mono (l01In_c _ _ _ _) ?_))
      rintro _ w6 ⟨rfl, x5⟩
      replace X := Ext.trans X x5; clear x5
      refine ops_cons rfl (ow_assign rfl ?_)
      refine ops_nil ?_
      refine c_ret ?_
      refine bq_r ?_
      refine tq_r ?_
      refine fin_ret1 rfl rfl ?_
      exact ⟨by simp [dataOk, *], X⟩
    · skip
      refine ops_cons rfl (ow_assign rfl ?_)
      refine ops_nil ?_
      refine c_false rfl ?_
      refine c_skip ?_
      refine bq_n ?_
      refine tq_n ?_
      refine c_seqR ?_
      refine ops_cons rfl (ow_move rfl ?_)
      refine ops_cons rfl (ow_eql rfl rfl ?_)
      refine ops_cons rfl (ow_assign rfl ?_)
      refine ops_nil ?_
      refine c_ret ?_
      refine fin_ret1 rfl rfl ?_
      exact ⟨by simp [dataOk, *], X⟩

theorem isDataSize_c (a b : Int) (w : World)  :
    Calls Try.prog 95 #[.int .i64 a, .int .i64 b] w (Ret fun v w' => v = .bool (dataOk a b) ∧ Ext w w') := by
  have X := Ext.refl w
  refine calls_of (args := [.int .i64 a, .int .i64 b]) Try.func95 Try.ntmps95 rfl rfl ?_
  refine c_seqR ?_
  refine ops_cons rfl (ow_assign rfl ?_)
  refine ops_nil ?_
  refine c_seq ?_
  refine c_seqR ?_
  refine ops_cons rfl (ow_move rfl ?_)
  refine ops_nil ?_
  refine c_block ?_
  refine c_seqR ?_
  refine ops_cons rfl (ow_eql2 rfl rfl (fun h1 => ?_) (fun h1 => ?_))
  · skip
    refine ops_cons rfl (ow_assign rfl ?_)
    refine ops_nil ?_
    refine c_true rfl ?_
    refine c_seqR ?_
    refine ops_cons rfl (ow_move rfl ?_)
    refine ops_cons rfl (ow_call ent50 rfl (ret_mono (within_c _ _ _ _) ?_))
    rintro _ w3 ⟨rfl, x2⟩
    replace X := Ext.trans X x2; clear x2
    refine ops_cons rfl (ow_assign rfl ?_)
    refine ops_nil ?_
    refine c_ret ?_
    refine bq_r ?_
    refine tq_r ?_
    refine fin_ret1 rfl rfl ?_
    exact ⟨by simp [dataOk, *], X⟩
  · skip
    refine ops_cons rfl (ow_assign rfl ?_)
    refine ops_nil ?_
    refine c_false rfl ?_
    refine c_seqR ?_
    refine ops_cons rfl (ow_eql2 rfl rfl (fun h4 => ?_) (fun h4 => ?_))
    · skip
      refine ops_cons rfl (ow_assign rfl ?_)
      refine ops_nil ?_
      refine c_true rfl ?_
      refine c_seqR ?_
      refine ops_cons rfl (ow_move rfl ?_)
      refine ops_cons rfl (ow_call ent50 rfl (ret_mono (within_c _ _ _ _) ?_))
      rintro _ w6 ⟨rfl, x5⟩
      replace X := Ext.trans X x5; clear x5
      refine ops_cons rfl (ow_assign rfl ?_)
      refine ops_nil ?_
      refine c_ret ?_
      refine bq_r ?_
      refine tq_r ?_
      refine fin_ret1 rfl rfl ?_
      exact ⟨by simp [dataOk, *], X⟩
    · skip
      refine ops_cons rfl (ow_assign rfl ?_)
      refine ops_nil ?_
      refine c_false rfl ?_
      refine c_skip ?_
      refine bq_n ?_
      refine tq_n ?_
      refine c_seqR ?_
      refine ops_cons rfl (ow_move rfl ?_)
      refine ops_cons rfl (ow_eql rfl rfl ?_)
      refine ops_cons rfl (ow_assign rfl ?_)
      refine ops_nil ?_
      refine c_ret ?_
      refine fin_ret1 rfl rfl ?_
      exact ⟨by simp [dataOk, *], X⟩

theorem l06State_c (a : Int) (w : World)  :
    Calls Try.prog 103 #[.int .i64 a] w (Ret fun v w' => v = .bool (decide (a ≠ 0)) ∧ Ext w w') := by
  have X := Ext.refl w
  refine calls_of (args := [.int .i64 a]) Try.func103 Try.ntmps103 rfl rfl ?_
  refine c_seqR ?_
  refine ops_cons rfl (ow_assign rfl ?_)
  refine ops_nil ?_
  refine c_seqR ?_
  refine ops_cons rfl (ow_move rfl ?_)
  refine ops_cons rfl (ow_neq rfl rfl ?_)
  refine ops_cons rfl (ow_assign rfl ?_)
  refine ops_nil ?_
  refine c_ret ?_
  refine fin_ret1 rfl rfl ?_
  exact ⟨by rfl, X⟩

theorem hasState_c (a : Int) (w : World)  :
    Calls Try.prog 105 #[.int .i64 a] w (Ret fun v w' => v = .bool (decide (a ≠ 0)) ∧ Ext w w') := by
  have X := Ext.refl w
  refine calls_of (args := [.int .i64 a]) Try.func105 Try.ntmps105 rfl rfl ?_
  refine c_seqR ?_
  refine ops_cons rfl (ow_assign rfl ?_)
  refine ops_nil ?_
  refine c_seqR ?_
  refine ops_cons rfl (ow_move rfl ?_)
  refine ops_cons rfl (ow_neq rfl rfl ?_)
  refine ops_cons rfl (ow_assign rfl ?_)
  refine ops_nil ?_
  refine c_ret ?_
  refine fin_ret1 rfl rfl ?_
  exact ⟨by rfl, X⟩

theorem l06Data_c (a : Int) (w : World)  :
    Calls Try.prog 90 #[.int .i64 a] w (Ret fun v w' => v = .bool (decide (a = 0 ∨ a = 2)) ∧ Ext w w') := by
  have X := Ext.refl w
  refine calls_of (args := [.int .i64 a]) Try.func90 Try.ntmps90 rfl rfl ?_
  refine c_seqR ?_
  refine ops_cons rfl (ow_assign rfl ?_)
  refine ops_nil ?_
  refine c_seqR ?_
  refine ops_cons rfl (ow_move rfl ?_)
  refine ops_cons rfl (ow_eql2 rfl rfl (fun h1 => ?_) (fun h1 => ?_))
  · skip
    refine ops_cons rfl (ow_move rfl ?_)
    refine ops_skip rfl rfl rfl rfl ?_
    refine ops_skip rfl rfl rfl rfl ?_
    refine ops_cons rfl (ow_pick rfl rfl ?_)
    refine ops_cons rfl (ow_assign rfl ?_)
    refine ops_nil ?_
    refine c_ret ?_
    refine fin_ret1 rfl rfl ?_
    exact ⟨by simp [*], X⟩
  · skip
    refine ops_cons rfl (ow_move rfl ?_)
    refine ops_want rfl rfl rfl (ow_move rfl ?_)
    refine ops_want rfl rfl rfl (ow_eql rfl rfl ?_)
    refine ops_cons rfl (ow_pick rfl rfl ?_)
    refine ops_cons rfl (ow_assign rfl ?_)
    refine ops_nil ?_
    refine c_ret ?_
    refine fin_ret1 rfl rfl ?_
    exact ⟨by simp [*], X⟩

theorem hasData_c (a : Int) (w : World)  :
    Calls Try.prog 106 #[.int .i64 a] w (Ret fun v w' => v = .bool (decide (a = 0 ∨ a = 2)) ∧ Ext w w') := by
  have X := Ext.refl w
  refine calls_of (args := [.int .i64 a]) Try.func106 Try.ntmps106 rfl rfl ?_
  refine c_seqR ?_
  refine ops_cons rfl (ow_assign rfl ?_)
  refine ops_nil ?_
  refine c_seqR ?_
  refine ops_cons rfl (ow_move rfl ?_)
  refine ops_cons rfl (ow_eql2 rfl rfl (fun h1 => ?_) (fun h1 => ?_))
  · skip
    refine ops_cons rfl (ow_move rfl ?_)
    refine ops_skip rfl rfl rfl rfl ?_
    refine ops_skip rfl rfl rfl rfl ?_
    refine ops_cons rfl (ow_pick rfl rfl ?_)
    refine ops_cons rfl (ow_assign rfl ?_)
    refine ops_nil ?_
    refine c_ret ?_
    refine fin_ret1 rfl rfl ?_
    exact ⟨by simp [*], X⟩
  · skip
    refine ops_cons rfl (ow_move rfl ?_)
    refine ops_want rfl rfl rfl (ow_move rfl ?_)
    refine ops_want rfl rfl rfl (ow_eql rfl rfl ?_)
    refine ops_cons rfl (ow_pick rfl rfl ?_)
    refine ops_cons rfl (ow_assign rfl ?_)
    refine ops_nil ?_
    refine c_ret ?_
    refine fin_ret1 rfl rfl ?_
    exact ⟨by simp [*], X⟩

theorem l06Body_c (a b : Int) (w : World) (hb : 0 ≤ b ∧ b ≤ 32) :
    Calls Try.prog 100 #[.int .i64 a, .int .i64 b] w (Ret fun v w' => v = .int .i64 (bodyS a b) ∧ Ext w w') := by
  have X := Ext.refl w
  refine calls_of (args := [.int .i64 a, .int .i64 b]) Try.func100 Try.ntmps100 rfl rfl ?_
  refine c_seqR ?_
  refine ops_cons rfl (ow_assign rfl ?_)
  refine ops_nil ?_
  refine c_seqR ?_
  refine ops_cons rfl (ow_assign rfl ?_)
  refine ops_nil ?_
  refine c_seq ?_
  refine c_seqR ?_
  refine ops_cons rfl (ow_move rfl ?_)
  refine ops_cons rfl (ow_callB ent103 rfl (l06State_c _ _) (fun w3 h1 x2 => ?_) (fun w3 h1 x2 => ?_))
  · skip
    replace X := Ext.trans X x2; clear x2
    refine ops_nil ?_
    refine c_true rfl ?_
    refine c_region ?_
    refine ops_cons rfl (ow_move rfl ?_)
    refine ops_cons rfl (ow_add rfl rfl (w64 (by omega)) ?_)
    refine ops_cons rfl (ow_assign rfl ?_)
    refine ops_nil ?_
    refine tq_n ?_
    refine c_seq ?_
    refine c_seqR ?_
    refine ops_cons rfl (ow_move rfl ?_)
    refine ops_cons rfl (ow_callB ent90 rfl (l06Data_c _ _) (fun w6 h4 x5 => ?_) (fun w6 h4 x5 => ?_))
    · skip
      replace X := Ext.trans X x5; clear x5
      refine ops_nil ?_
      refine c_true rfl ?_
      refine c_region ?_
      refine ops_cons rfl (ow_move rfl ?_)
      refine ops_cons rfl (ow_add rfl rfl (w64 (by omega)) ?_)
      refine ops_cons rfl (ow_move rfl ?_)
      refine ops_cons rfl (ow_add rfl rfl (w64 (by omega)) ?_)
      refine ops_cons rfl (ow_assign rfl ?_)
      refine ops_nil ?_
      refine tq_n ?_
      refine c_seqR ?_
      refine ops_cons rfl (ow_move rfl ?_)
      refine ops_cons rfl (ow_assign rfl ?_)
      refine ops_nil ?_
      refine c_ret ?_
      refine fin_ret1 rfl rfl ?_
      refine ⟨congrArg (Value.int .i64) ?_, X⟩
      simp only [decide_eq_true_eq, decide_eq_false_iff_not] at *
      unfold bodyS
      (repeat' split) <;> omega
    · skip
      replace X := Ext.trans X x5; clear x5
      refine ops_nil ?_
      refine c_false rfl ?_
      refine c_skip ?_
      refine tq_n ?_
      refine c_seqR ?_
      refine ops_cons rfl (ow_move rfl ?_)
      refine ops_cons rfl (ow_assign rfl ?_)
      refine ops_nil ?_
      refine c_ret ?_
      refine fin_ret1 rfl rfl ?_
      refine ⟨congrArg (Value.int .i64) ?_, X⟩
      simp only [decide_eq_true_eq, decide_eq_false_iff_not] at *
      unfold bodyS
      (repeat' split) <;> omega
  · skip
    replace X := Ext.trans X x2; clear x2
    refine ops_nil ?_
    refine c_false rfl ?_
    refine c_skip ?_
    refine tq_n ?_
    refine c_seq ?_
    refine c_seqR ?_
    refine ops_cons rfl (ow_move rfl ?_)
    refine ops_cons rfl (ow_callB ent90 rfl (l06Data_c _ _) (fun w9 h7 x8 => ?_) (fun w9 h7 x8 => ?_))
    · skip
      replace X := Ext.trans X x8; clear x8
      refine ops_nil ?_
      refine c_true rfl ?_
      refine c_region ?_
      refine ops_cons rfl (ow_move rfl ?_)
      refine ops_cons rfl (ow_add rfl rfl (w64 (by omega)) ?_)
      refine ops_cons rfl (ow_move rfl ?_)
      refine ops_cons rfl (ow_add rfl rfl (w64 (by omega)) ?_)
      refine ops_cons rfl (ow_assign rfl ?_)
      refine ops_nil ?_
      refine tq_n ?_
      refine c_seqR ?_
      refine ops_cons rfl (ow_move rfl ?_)
      refine ops_cons rfl (ow_assign rfl ?_)
      refine ops_nil ?_
      refine c_ret ?_
      refine fin_ret1 rfl rfl ?_
      refine ⟨congrArg (Value.int .i64) ?_, X⟩
      simp only [decide_eq_true_eq, decide_eq_false_iff_not] at *
      unfold bodyS
      (repeat' split) <;> omega
    · skip
      replace X := Ext.trans X x8; clear x8
      refine ops_nil ?_
      refine c_false rfl ?_
      refine c_skip ?_
      refine tq_n ?_
      refine c_seqR ?_
      refine ops_cons rfl (ow_move rfl ?_)
      refine ops_cons rfl (ow_assign rfl ?_)
      refine ops_nil ?_
      refine c_ret ?_
      refine fin_ret1 rfl rfl ?_
      refine ⟨congrArg (Value.int .i64) ?_, X⟩
      simp only [decide_eq_true_eq, decide_eq_false_iff_not] at *
      unfold bodyS
      (repeat' split) <;> omega

theorem bodySize_c (a b : Int) (w : World) (hb : 0 ≤ b ∧ b ≤ 32) :
    Calls Try.prog 102 #[.int .i64 a, .int .i64 b] w (Ret fun v w' => v = .int .i64 (bodyS a b) ∧ Ext w w') := by
  have X := Ext.refl w
  refine calls_of (args := [.int .i64 a, .int .i64 b]) Try.func102 Try.ntmps102 rfl rfl ?_
  refine c_seqR ?_
  refine ops_cons rfl (ow_assign rfl ?_)
  refine ops_nil ?_
  refine c_seqR ?_
  refine ops_cons rfl (ow_assign rfl ?_)
  refine ops_nil ?_
  refine c_seq ?_
  refine c_seqR ?_
  refine ops_cons rfl (ow_move rfl ?_)
  refine ops_cons rfl (ow_callB ent105 rfl (hasState_c _ _) (fun w3 h1 x2 => ?_) (fun w3 h1 x2 => ?_))
  · skip
    replace X := Ext.trans X x2; clear x2
    refine ops_nil ?_
    refine c_true rfl ?_
    refine c_region ?_
    refine ops_cons rfl (ow_move rfl ?_)
    refine ops_cons rfl (ow_add rfl rfl (w64 (by omega)) ?_)
    refine ops_cons rfl (ow_assign rfl ?_)
    refine ops_nil ?_
    refine tq_n ?_
    refine c_seq ?_
    refine c_seqR ?_
    refine ops_cons rfl (ow_move rfl ?_)
    refine ops_cons rfl (ow_callB ent106 rfl (hasData_c _ _) (fun w6 h4 x5 => ?_) (fun w6 h4 x5 => ?_))
    · skip
      replace X := Ext.trans X x5; clear x5
      refine ops_nil ?_
      refine c_true rfl ?_
      refine c_region ?_
      refine ops_cons rfl (ow_move rfl ?_)
      refine ops_cons rfl (ow_move rfl ?_)
      refine ops_cons rfl (ow_add rfl rfl (w64 (by omega)) ?_)
      refine ops_cons rfl (ow_add rfl rfl (w64 (by omega)) ?_)
      refine ops_cons rfl (ow_assign rfl ?_)
      refine ops_nil ?_
      refine tq_n ?_
      refine c_seqR ?_
      refine ops_cons rfl (ow_move rfl ?_)
      refine ops_cons rfl (ow_assign rfl ?_)
      refine ops_nil ?_
      refine c_ret ?_
      refine fin_ret1 rfl rfl ?_
      refine ⟨congrArg (Value.int .i64) ?_, X⟩
      simp only [decide_eq_true_eq, decide_eq_false_iff_not] at *
      unfold bodyS
      (repeat' split) <;> omega
    · skip
      replace X := Ext.trans X x5; clear x5
      refine ops_nil ?_
      refine c_false rfl ?_
      refine c_skip ?_
      refine tq_n ?_
      refine c_seqR ?_
      refine ops_cons rfl (ow_move rfl ?_)
      refine ops_cons rfl (ow_assign rfl ?_)
      refine ops_nil ?_
      refine c_ret ?_
      refine fin_ret1 rfl rfl ?_
      refine ⟨congrArg (Value.int .i64) ?_, X⟩
      simp only [decide_eq_true_eq, decide_eq_false_iff_not] at *
      unfold bodyS
      (repeat' split) <;> omega
  · skip
    replace X := Ext.trans X x2; clear x2
    refine ops_nil ?_
    refine c_false rfl ?_
    refine c_skip ?_
    refine tq_n ?_
    refine c_seq ?_
    refine c_seqR ?_
    refine ops_cons rfl (ow_move rfl ?_)
    refine ops_cons rfl (ow_callB ent106 rfl (hasData_c _ _) (fun w9 h7 x8 => ?_) (fun w9 h7 x8 => ?_))
    · skip
      replace X := Ext.trans X x8; clear x8
      refine ops_nil ?_
      refine c_true rfl ?_
      refine c_region ?_
      refine ops_cons rfl (ow_move rfl ?_)
      refine ops_cons rfl (ow_move rfl ?_)
      refine ops_cons rfl (ow_add rfl rfl (w64 (by omega)) ?_)
      refine ops_cons rfl (ow_add rfl rfl (w64 (by omega)) ?_)
      refine ops_cons rfl (ow_assign rfl ?_)
      refine ops_nil ?_
      refine tq_n ?_
      refine c_seqR ?_
      refine ops_cons rfl (ow_move rfl ?_)
      refine ops_cons rfl (ow_assign rfl ?_)
      refine ops_nil ?_
      refine c_ret ?_
      refine fin_ret1 rfl rfl ?_
      refine ⟨congrArg (Value.int .i64) ?_, X⟩
      simp only [decide_eq_true_eq, decide_eq_false_iff_not] at *
      unfold bodyS
      (repeat' split) <;> omega
    · skip
      replace X := Ext.trans X x8; clear x8
      refine ops_nil ?_
      refine c_false rfl ?_
      refine c_skip ?_
      refine tq_n ?_
      refine c_seqR ?_
      refine ops_cons rfl (ow_move rfl ?_)
      refine ops_cons rfl (ow_assign rfl ?_)
      refine ops_nil ?_
      refine c_ret ?_
      refine fin_ret1 rfl rfl ?_
      refine ⟨congrArg (Value.int .i64) ?_, X⟩
      simp only [decide_eq_true_eq, decide_eq_false_iff_not] at *
      unfold bodyS
      (repeat' split) <;> omega

theorem l08Cells_c (a b : Int) (w : World) (hb : 0 ≤ b ∧ b ≤ 32) :
    Calls Try.prog 87 #[.int .i64 a, .int .i64 b] w (Ret fun v w' => v = .int .i64 (cellsS a b) ∧ Ext w w') := by
  have h1 := bodyS_in a hb
  have X := Ext.refl w
  refine calls_of (args := [.int .i64 a, .int .i64 b]) Try.func87 Try.ntmps87 rfl rfl ?_
  refine c_seqR ?_
  refine ops_cons rfl (ow_assign rfl ?_)
  refine ops_nil ?_
  refine c_seqR ?_
  refine ops_cons rfl (ow_move rfl ?_)
  refine ops_cons rfl (ow_move rfl ?_)
  refine ops_cons rfl (ow_call ent100 rfl (ret_mono (l06Body_c _ _ _ hb) ?_))
  rintro _ w2 ⟨rfl, x1⟩
  replace X := Ext.trans X x1; clear x1
  refine ops_cons rfl (ow_add rfl rfl (w64 (by omega)) ?_)
  refine ops_cons rfl (ow_mul rfl rfl (w64 (by omega)) ?_)
  refine ops_cons rfl (ow_add rfl rfl (w64 (by omega)) ?_)
  refine ops_cons rfl (ow_assign rfl ?_)
  refine ops_nil ?_
  refine c_ret ?_
  refine fin_ret1 rfl rfl ?_
  exact ⟨by rfl, X⟩

theorem cellsNeeded_c (a b : Int) (w : World) (hb : 0 ≤ b ∧ b ≤ 32) :
    Calls Try.prog 96 #[.int .i64 a, .int .i64 b] w (Ret fun v w' => v = .int .i64 (cellsS a b) ∧ Ext w w') := by
  have h1 := bodyS_in a hb
  have X := Ext.refl w
  refine calls_of (args := [.int .i64 a, .int .i64 b]) Try.func96 Try.ntmps96 rfl rfl ?_
  refine c_seqR ?_
  refine ops_cons rfl (ow_assign rfl ?_)
  refine ops_nil ?_
  refine c_seqR ?_
  refine ops_cons rfl (ow_move rfl ?_)
  refine ops_cons rfl (ow_move rfl ?_)
  refine ops_cons rfl (ow_call ent102 rfl (ret_mono (bodySize_c _ _ _ hb) ?_))
  rintro _ w2 ⟨rfl, x1⟩
  replace X := Ext.trans X x1; clear x1
  refine ops_cons rfl (ow_add rfl rfl (w64 (by omega)) ?_)
  refine ops_cons rfl (ow_mul rfl rfl (w64 (by omega)) ?_)
  refine ops_cons rfl (ow_add rfl rfl (w64 (by omega)) ?_)
  refine ops_cons rfl (ow_assign rfl ?_)
  refine ops_nil ?_
  refine c_ret ?_
  refine fin_ret1 rfl rfl ?_
  exact ⟨by rfl, X⟩

theorem sIsDesc_c (d : Desc) (w : World)  :
    Calls Try.prog 86 #[.agg d.cells.toArray] w (Ret fun v w' => v = .bool (descOk d) ∧ Ext w w') := by
  have X := Ext.refl w
  refine calls_of (args := [.agg d.cells.toArray]) Try.func86 Try.ntmps86 rfl rfl ?_
  refine c_seqR ?_
  refine ops_cons rfl (ow_box rfl rfl ?_)
  intro g4 w3 eg4 b1 x2 zg4
  have lg4 : w.heap.size ≤ g4 := Nat.le_trans X.size (Nat.le_of_eq eg4.symm)
  replace X := Ext.trans X x2; clear x2
  refine ops_cons rfl (ow_assign rfl ?_)
  refine ops_nil ?_
  refine c_seq ?_
  refine c_seqR ?_
  refine ops_cons rfl (ow_fieldAddrB off39_0 rfl rfl ?_)
  refine ops_cons rfl (ow_loadB b1 ti2 rfl rfl ?_)
  refine ops_cons rfl (ow_callB ent97 rfl (l05Node_c _ _) (fun w7 h5 x6 => ?_) (fun w7 h5 x6 => ?_))
  · skip
    replace b1 := b1.ext x6
    replace X := Ext.trans X x6; clear x6
    refine ops_cons rfl (ow_not rfl ?_)
    refine ops_cons rfl (ow_move rfl ?_)
    refine ops_want rfl rfl rfl (ow_fieldAddrB off39_1 rfl rfl ?_)
    refine ops_want rfl rfl rfl (ow_loadB b1 ti2 rfl rfl ?_)
    refine ops_want rfl rfl rfl (ow_callB ent98 rfl (l06Kind_c _ _) (fun w10 h8 x9 => ?_) (fun w10 h8 x9 => ?_))
    · skip
      replace b1 := b1.ext x9
      replace X := Ext.trans X x9; clear x9
      refine ops_want rfl rfl rfl (ow_not rfl ?_)
      refine ops_cons rfl (ow_pick rfl rfl ?_)
      refine ops_cons rfl (ow_move rfl ?_)
      refine ops_want rfl rfl rfl (ow_fieldAddrB off39_1 rfl rfl ?_)
      refine ops_want rfl rfl rfl (ow_loadB b1 ti2 rfl rfl ?_)
      refine ops_want rfl rfl rfl (ow_fieldAddrB off39_2 rfl rfl ?_)
      refine ops_want rfl rfl rfl (ow_loadB b1 ti2 rfl rfl ?_)
      refine ops_want rfl rfl rfl (ow_callB ent99 rfl (l06Size_c _ _ _) (fun w13 h11 x12 => ?_) (fun w13 h11 x12 => ?_))
      · skip
        replace b1 := b1.ext x12
        replace X := Ext.trans X x12; clear x12
        refine ops_want rfl rfl rfl (ow_not rfl ?_)
        refine ops_cons rfl (ow_pick rfl rfl ?_)
        refine ops_cons rfl (ow_move rfl ?_)
        refine ops_want rfl rfl rfl (ow_fieldAddrB off39_1 rfl rfl ?_)
        refine ops_want rfl rfl rfl (ow_loadB b1 ti2 rfl rfl ?_)
        refine ops_want rfl rfl rfl (ow_eql2 rfl rfl (fun h14 => ?_) (fun h14 => ?_))
        · skip
          refine ops_want rfl rfl rfl (ow_move rfl ?_)
          refine ops_want rfl rfl rfl (ow_fieldAddrB off39_4 rfl rfl ?_)
          refine ops_want rfl rfl rfl (ow_loadB b1 ti4 rfl rfl ?_)
          cases hb15 : d.change
          · skip
            refine ops_want rfl rfl rfl (ow_pick rfl rfl ?_)
            refine ops_cons rfl (ow_pick rfl rfl ?_)
            refine ops_nil ?_
            refine c_false rfl ?_
            refine c_skip ?_
            refine tq_n ?_
            refine c_seqD [false, false, false, false, false, false, false, false, false, false] mixed (by kernel_rfl) ?_
            refine f_q rfl (fun wq sq => ow_fieldAddrB off39_3 rfl rfl ⟨rfl, Ext.refl _⟩) ?_
            refine f_q rfl (fun wq sq => ow_loadB (b1.ext sq) ti2 rfl rfl ⟨rfl, Ext.refl _⟩) ?_
            refine f_q rfl (fun wq sq => ow_fieldAddrB off39_1 rfl rfl ⟨rfl, Ext.refl _⟩) ?_
            refine f_q rfl (fun wq sq => ow_loadB (b1.ext sq) ti2 rfl rfl ⟨rfl, Ext.refl _⟩) ?_
            refine f_q rfl (fun wq sq => ow_fieldAddrB off39_2 rfl rfl ⟨rfl, Ext.refl _⟩) ?_
            refine f_q rfl (fun wq sq => ow_loadB (b1.ext sq) ti2 rfl rfl ⟨rfl, Ext.refl _⟩) ?_
            have hb : 0 ≤ d.size ∧ d.size ≤ 32 := dataOk_in ‹dataOk d.kind d.size = true›
            have h0 := cellsS_in d.kind hb
            refine f_q rfl (fun wq sq => ow_call ent87 rfl (l08Cells_c _ _ _ hb)) ?_
            refine f_q rfl (fun wq sq => ow_add rfl rfl (w64 (by omega)) ⟨rfl, Ext.refl _⟩) ?_
            refine f_q rfl (fun wq sq => ow_call ent53 rfl (l01In_c _ _ _ _)) ?_
            refine f_q rfl (fun wq sq => ow_assign rfl ⟨rfl, Ext.refl _⟩) ?_
            refine f_nil (fun w16 sq => ?_)
            have xq := sq
            replace b1 := b1.ext xq
            replace X := Ext.trans X xq; clear xq sq
            refine ops_nil ?_
            refine c_ret ?_
            refine fin_ret1 rfl rfl ?_
            refine ⟨congrArg Value.bool ?_, X⟩
            first | (simp [descOk, *]; done) | (simp_all [descOk]; done)
          · skip
            refine ops_want rfl rfl rfl (ow_pick rfl rfl ?_)
            refine ops_cons rfl (ow_pick rfl rfl ?_)
            refine ops_nil ?_
            refine c_true rfl ?_
            refine c_seqR ?_
            refine ops_cons rfl (ow_assign rfl ?_)
            refine ops_nil ?_
            refine c_ret ?_
            refine tq_r ?_
            refine fin_ret1 rfl rfl ?_
            refine ⟨congrArg Value.bool ?_, X⟩
            first | (simp [descOk, *]; done) | (simp_all [descOk]; done)
        · skip
          refine ops_want rfl rfl rfl (ow_move rfl ?_)
          refine ops_skip rfl rfl rfl rfl ?_
          refine ops_skip rfl rfl rfl rfl ?_
          refine ops_want rfl rfl rfl (ow_pick rfl rfl ?_)
          refine ops_cons rfl (ow_pick rfl rfl ?_)
          refine ops_nil ?_
          refine c_false rfl ?_
          refine c_skip ?_
          refine tq_n ?_
          refine c_seqD [false, false, false, false, false, false, false, false, false, false] mixed (by kernel_rfl) ?_
          refine f_q rfl (fun wq sq => ow_fieldAddrB off39_3 rfl rfl ⟨rfl, Ext.refl _⟩) ?_
          refine f_q rfl (fun wq sq => ow_loadB (b1.ext sq) ti2 rfl rfl ⟨rfl, Ext.refl _⟩) ?_
          refine f_q rfl (fun wq sq => ow_fieldAddrB off39_1 rfl rfl ⟨rfl, Ext.refl _⟩) ?_
          refine f_q rfl (fun wq sq => ow_loadB (b1.ext sq) ti2 rfl rfl ⟨rfl, Ext.refl _⟩) ?_
          refine f_q rfl (fun wq sq => ow_fieldAddrB off39_2 rfl rfl ⟨rfl, Ext.refl _⟩) ?_
          refine f_q rfl (fun wq sq => ow_loadB (b1.ext sq) ti2 rfl rfl ⟨rfl, Ext.refl _⟩) ?_
          have hb : 0 ≤ d.size ∧ d.size ≤ 32 := dataOk_in ‹dataOk d.kind d.size = true›
          have h0 := cellsS_in d.kind hb
          refine f_q rfl (fun wq sq => ow_call ent87 rfl (l08Cells_c _ _ _ hb)) ?_
          refine f_q rfl (fun wq sq => ow_add rfl rfl (w64 (by omega)) ⟨rfl, Ext.refl _⟩) ?_
          refine f_q rfl (fun wq sq => ow_call ent53 rfl (l01In_c _ _ _ _)) ?_
          refine f_q rfl (fun wq sq => ow_assign rfl ⟨rfl, Ext.refl _⟩) ?_
          refine f_nil (fun w17 sq => ?_)
          have xq := sq
          replace b1 := b1.ext xq
          replace X := Ext.trans X xq; clear xq sq
          refine ops_nil ?_
          refine c_ret ?_
          refine fin_ret1 rfl rfl ?_
          refine ⟨congrArg Value.bool ?_, X⟩
          first | (simp [descOk, *]; done) | (simp_all [descOk]; done)
      · skip
        replace b1 := b1.ext x12
        replace X := Ext.trans X x12; clear x12
        refine ops_want rfl rfl rfl (ow_not rfl ?_)
        refine ops_cons rfl (ow_pick rfl rfl ?_)
        refine ops_cons rfl (ow_move rfl ?_)
        refine ops_skip rfl rfl rfl rfl ?_
        refine ops_skip rfl rfl rfl rfl ?_
        refine ops_skip rfl rfl rfl rfl ?_
        refine ops_skip rfl rfl rfl rfl ?_
        refine ops_skip2 rfl rfl rfl ?_
        refine ops_skip2 rfl rfl rfl ?_
        refine ops_skip rfl rfl rfl rfl ?_
        refine ops_cons rfl (ow_pick rfl rfl ?_)
        refine ops_nil ?_
        refine c_true rfl ?_
        refine c_seqR ?_
        refine ops_cons rfl (ow_assign rfl ?_)
        refine ops_nil ?_
        refine c_ret ?_
        refine tq_r ?_
        refine fin_ret1 rfl rfl ?_
        refine ⟨congrArg Value.bool ?_, X⟩
        first | (simp [descOk, *]; done) | (simp_all [descOk]; done)
    · skip
      replace b1 := b1.ext x9
      replace X := Ext.trans X x9; clear x9
      refine ops_want rfl rfl rfl (ow_not rfl ?_)
      refine ops_cons rfl (ow_pick rfl rfl ?_)
      refine ops_cons rfl (ow_move rfl ?_)
      refine ops_skip rfl rfl rfl rfl ?_
      refine ops_skip rfl rfl rfl rfl ?_
      refine ops_skip rfl rfl rfl rfl ?_
      refine ops_skip rfl rfl rfl rfl ?_
      refine ops_skip rfl rfl rfl rfl ?_
      refine ops_skip rfl rfl rfl rfl ?_
      refine ops_cons rfl (ow_pick rfl rfl ?_)
      refine ops_cons rfl (ow_move rfl ?_)
      refine ops_skip rfl rfl rfl rfl ?_
      refine ops_skip rfl rfl rfl rfl ?_
      refine ops_skip rfl rfl rfl rfl ?_
      refine ops_skip rfl rfl rfl rfl ?_
      refine ops_skip2 rfl rfl rfl ?_
      refine ops_skip2 rfl rfl rfl ?_
      refine ops_skip rfl rfl rfl rfl ?_
      refine ops_cons rfl (ow_pick rfl rfl ?_)
      refine ops_nil ?_
      refine c_true rfl ?_
      refine c_seqR ?_
      refine ops_cons rfl (ow_assign rfl ?_)
      refine ops_nil ?_
      refine c_ret ?_
      refine tq_r ?_
      refine fin_ret1 rfl rfl ?_
      refine ⟨congrArg Value.bool ?_, X⟩
      first | (simp [descOk, *]; done) | (simp_all [descOk]; done)
  · skip
    replace b1 := b1.ext x6
    replace X := Ext.trans X x6; clear x6
    refine ops_cons rfl (ow_not rfl ?_)
    refine ops_cons rfl (ow_move rfl ?_)
    refine ops_skip rfl rfl rfl rfl ?_
    refine ops_skip rfl rfl rfl rfl ?_
    refine ops_skip rfl rfl rfl rfl ?_
    refine ops_skip rfl rfl rfl rfl ?_
    refine ops_cons rfl (ow_pick rfl rfl ?_)
    refine ops_cons rfl (ow_move rfl ?_)
    refine ops_skip rfl rfl rfl rfl ?_
    refine ops_skip rfl rfl rfl rfl ?_
    refine ops_skip rfl rfl rfl rfl ?_
    refine ops_skip rfl rfl rfl rfl ?_
    refine ops_skip rfl rfl rfl rfl ?_
    refine ops_skip rfl rfl rfl rfl ?_
    refine ops_cons rfl (ow_pick rfl rfl ?_)
    refine ops_cons rfl (ow_move rfl ?_)
    refine ops_skip rfl rfl rfl rfl ?_
    refine ops_skip rfl rfl rfl rfl ?_
    refine ops_skip rfl rfl rfl rfl ?_
    refine ops_skip rfl rfl rfl rfl ?_
    refine ops_skip2 rfl rfl rfl ?_
    refine ops_skip2 rfl rfl rfl ?_
    refine ops_skip rfl rfl rfl rfl ?_
    refine ops_cons rfl (ow_pick rfl rfl ?_)
    refine ops_nil ?_
    refine c_true rfl ?_
    refine c_seqR ?_
    refine ops_cons rfl (ow_assign rfl ?_)
    refine ops_nil ?_
    refine c_ret ?_
    refine tq_r ?_
    refine fin_ret1 rfl rfl ?_
    refine ⟨congrArg Value.bool ?_, X⟩
    first | (simp [descOk, *]; done) | (simp_all [descOk]; done)

theorem iIsDesc_c (d : Desc) (w : World)  :
    Calls Try.prog 85 #[.agg d.cells.toArray] w (Ret fun v w' => v = .bool (descOk d) ∧ Ext w w') := by
  have X := Ext.refl w
  refine calls_of (args := [.agg d.cells.toArray]) Try.func85 Try.ntmps85 rfl rfl ?_
  refine c_seqR ?_
  refine ops_cons rfl (ow_box rfl rfl ?_)
  intro g4 w3 eg4 b1 x2 zg4
  have lg4 : w.heap.size ≤ g4 := Nat.le_trans X.size (Nat.le_of_eq eg4.symm)
  replace X := Ext.trans X x2; clear x2
  refine ops_cons rfl (ow_assign rfl ?_)
  refine ops_nil ?_
  refine c_seq ?_
  refine c_seqR ?_
  refine ops_cons rfl (ow_fieldAddrB off39_0 rfl rfl ?_)
  refine ops_cons rfl (ow_loadB b1 ti2 rfl rfl ?_)
  refine ops_cons rfl (ow_callB ent93 rfl (isNode_c _ _) (fun w7 h5 x6 => ?_) (fun w7 h5 x6 => ?_))
  · skip
    replace b1 := b1.ext x6
    replace X := Ext.trans X x6; clear x6
    refine ops_cons rfl (ow_not rfl ?_)
    refine ops_cons rfl (ow_move rfl ?_)
    refine ops_want rfl rfl rfl (ow_fieldAddrB off39_1 rfl rfl ?_)
    refine ops_want rfl rfl rfl (ow_loadB b1 ti2 rfl rfl ?_)
    refine ops_want rfl rfl rfl (ow_callB ent94 rfl (isKind_c _ _) (fun w10 h8 x9 => ?_) (fun w10 h8 x9 => ?_))
    · skip
      replace b1 := b1.ext x9
      replace X := Ext.trans X x9; clear x9
      refine ops_want rfl rfl rfl (ow_not rfl ?_)
      refine ops_cons rfl (ow_pick rfl rfl ?_)
      refine ops_cons rfl (ow_move rfl ?_)
      refine ops_want rfl rfl rfl (ow_fieldAddrB off39_1 rfl rfl ?_)
      refine ops_want rfl rfl rfl (ow_loadB b1 ti2 rfl rfl ?_)
      refine ops_want rfl rfl rfl (ow_fieldAddrB off39_2 rfl rfl ?_)
      refine ops_want rfl rfl rfl (ow_loadB b1 ti2 rfl rfl ?_)
      refine ops_want rfl rfl rfl (ow_callB ent95 rfl (isDataSize_c _ _ _) (fun w13 h11 x12 => ?_) (fun w13 h11 x12 => ?_))
      · skip
        replace b1 := b1.ext x12
        replace X := Ext.trans X x12; clear x12
        refine ops_want rfl rfl rfl (ow_not rfl ?_)
        refine ops_cons rfl (ow_pick rfl rfl ?_)
        refine ops_cons rfl (ow_move rfl ?_)
        refine ops_want rfl rfl rfl (ow_fieldAddrB off39_4 rfl rfl ?_)
        refine ops_want rfl rfl rfl (ow_loadB b1 ti4 rfl rfl ?_)
        cases hb14 : d.change
        · skip
          refine ops_want rfl rfl rfl (ow_move rfl ?_)
          refine ops_skip rfl rfl rfl rfl ?_
          refine ops_skip rfl rfl rfl rfl ?_
          refine ops_skip rfl rfl rfl rfl ?_
          refine ops_want rfl rfl rfl (ow_pick rfl rfl ?_)
          refine ops_cons rfl (ow_pick rfl rfl ?_)
          refine ops_nil ?_
          refine c_false rfl ?_
          refine c_skip ?_
          refine tq_n ?_
          refine c_seqD [false, false, false, false, false, false, false, false, false, false] mixed (by kernel_rfl) ?_
          refine f_q rfl (fun wq sq => ow_fieldAddrB off39_3 rfl rfl ⟨rfl, Ext.refl _⟩) ?_
          refine f_q rfl (fun wq sq => ow_loadB (b1.ext sq) ti2 rfl rfl ⟨rfl, Ext.refl _⟩) ?_
          refine f_q rfl (fun wq sq => ow_fieldAddrB off39_1 rfl rfl ⟨rfl, Ext.refl _⟩) ?_
          refine f_q rfl (fun wq sq => ow_loadB (b1.ext sq) ti2 rfl rfl ⟨rfl, Ext.refl _⟩) ?_
          refine f_q rfl (fun wq sq => ow_fieldAddrB off39_2 rfl rfl ⟨rfl, Ext.refl _⟩) ?_
          refine f_q rfl (fun wq sq => ow_loadB (b1.ext sq) ti2 rfl rfl ⟨rfl, Ext.refl _⟩) ?_
          have hb : 0 ≤ d.size ∧ d.size ≤ 32 := dataOk_in ‹dataOk d.kind d.size = true›
          have h0 := cellsS_in d.kind hb
          refine f_q rfl (fun wq sq => ow_call ent96 rfl (cellsNeeded_c _ _ _ hb)) ?_
          refine f_q rfl (fun wq sq => ow_add rfl rfl (w64 (by omega)) ⟨rfl, Ext.refl _⟩) ?_
          refine f_q rfl (fun wq sq => ow_call ent50 rfl (within_c _ _ _ _)) ?_
          refine f_q rfl (fun wq sq => ow_assign rfl ⟨rfl, Ext.refl _⟩) ?_
          refine f_nil (fun w15 sq => ?_)
          have xq := sq
          replace b1 := b1.ext xq
          replace X := Ext.trans X xq; clear xq sq
          refine ops_nil ?_
          refine c_ret ?_
          refine fin_ret1 rfl rfl ?_
          refine ⟨congrArg Value.bool ?_, X⟩
          first | (simp [descOk, *]; done) | (simp_all [descOk]; done)
        · skip
          refine ops_want rfl rfl rfl (ow_move rfl ?_)
          refine ops_want rfl rfl rfl (ow_fieldAddrB off39_1 rfl rfl ?_)
          refine ops_want rfl rfl rfl (ow_loadB b1 ti2 rfl rfl ?_)
          refine ops_want rfl rfl rfl (ow_eql2 rfl rfl (fun h16 => ?_) (fun h16 => ?_))
          · skip
            refine ops_want rfl rfl rfl (ow_pick rfl rfl ?_)
            refine ops_cons rfl (ow_pick rfl rfl ?_)
            refine ops_nil ?_
            refine c_true rfl ?_
            refine c_seqR ?_
            refine ops_cons rfl (ow_assign rfl ?_)
            refine ops_nil ?_
            refine c_ret ?_
            refine tq_r ?_
            refine fin_ret1 rfl rfl ?_
            refine ⟨congrArg Value.bool ?_, X⟩
            first | (simp [descOk, *]; done) | (simp_all [descOk]; done)
          · skip
            refine ops_want rfl rfl rfl (ow_pick rfl rfl ?_)
            refine ops_cons rfl (ow_pick rfl rfl ?_)
            refine ops_nil ?_
            refine c_false rfl ?_
            refine c_skip ?_
            refine tq_n ?_
            refine c_seqD [false, false, false, false, false, false, false, false, false, false] mixed (by kernel_rfl) ?_
            refine f_q rfl (fun wq sq => ow_fieldAddrB off39_3 rfl rfl ⟨rfl, Ext.refl _⟩) ?_
            refine f_q rfl (fun wq sq => ow_loadB (b1.ext sq) ti2 rfl rfl ⟨rfl, Ext.refl _⟩) ?_
            refine f_q rfl (fun wq sq => ow_fieldAddrB off39_1 rfl rfl ⟨rfl, Ext.refl _⟩) ?_
            refine f_q rfl (fun wq sq => ow_loadB (b1.ext sq) ti2 rfl rfl ⟨rfl, Ext.refl _⟩) ?_
            refine f_q rfl (fun wq sq => ow_fieldAddrB off39_2 rfl rfl ⟨rfl, Ext.refl _⟩) ?_
            refine f_q rfl (fun wq sq => ow_loadB (b1.ext sq) ti2 rfl rfl ⟨rfl, Ext.refl _⟩) ?_
            have hb : 0 ≤ d.size ∧ d.size ≤ 32 := dataOk_in ‹dataOk d.kind d.size = true›
            have h0 := cellsS_in d.kind hb
            refine f_q rfl (fun wq sq => ow_call ent96 rfl (cellsNeeded_c _ _ _ hb)) ?_
            refine f_q rfl (fun wq sq => ow_add rfl rfl (w64 (by omega)) ⟨rfl, Ext.refl _⟩) ?_
            refine f_q rfl (fun wq sq => ow_call ent50 rfl (within_c _ _ _ _)) ?_
            refine f_q rfl (fun wq sq => ow_assign rfl ⟨rfl, Ext.refl _⟩) ?_
            refine f_nil (fun w17 sq => ?_)
            have xq := sq
            replace b1 := b1.ext xq
            replace X := Ext.trans X xq; clear xq sq
            refine ops_nil ?_
            refine c_ret ?_
            refine fin_ret1 rfl rfl ?_
            refine ⟨congrArg Value.bool ?_, X⟩
            first | (simp [descOk, *]; done) | (simp_all [descOk]; done)
      · skip
        replace b1 := b1.ext x12
        replace X := Ext.trans X x12; clear x12
        refine ops_want rfl rfl rfl (ow_not rfl ?_)
        refine ops_cons rfl (ow_pick rfl rfl ?_)
        refine ops_cons rfl (ow_move rfl ?_)
        refine ops_skip rfl rfl rfl rfl ?_
        refine ops_skip rfl rfl rfl rfl ?_
        refine ops_skip rfl rfl rfl rfl ?_
        refine ops_skip2 rfl rfl rfl ?_
        refine ops_skip2 rfl rfl rfl ?_
        refine ops_skip2 rfl rfl rfl ?_
        refine ops_skip rfl rfl rfl rfl ?_
        refine ops_cons rfl (ow_pick rfl rfl ?_)
        refine ops_nil ?_
        refine c_true rfl ?_
        refine c_seqR ?_
        refine ops_cons rfl (ow_assign rfl ?_)
        refine ops_nil ?_
        refine c_ret ?_
        refine tq_r ?_
        refine fin_ret1 rfl rfl ?_
        refine ⟨congrArg Value.bool ?_, X⟩
        first | (simp [descOk, *]; done) | (simp_all [descOk]; done)
    · skip
      replace b1 := b1.ext x9
      replace X := Ext.trans X x9; clear x9
      refine ops_want rfl rfl rfl (ow_not rfl ?_)
      refine ops_cons rfl (ow_pick rfl rfl ?_)
      refine ops_cons rfl (ow_move rfl ?_)
      refine ops_skip rfl rfl rfl rfl ?_
      refine ops_skip rfl rfl rfl rfl ?_
      refine ops_skip rfl rfl rfl rfl ?_
      refine ops_skip rfl rfl rfl rfl ?_
      refine ops_skip rfl rfl rfl rfl ?_
      refine ops_skip rfl rfl rfl rfl ?_
      refine ops_cons rfl (ow_pick rfl rfl ?_)
      refine ops_cons rfl (ow_move rfl ?_)
      refine ops_skip rfl rfl rfl rfl ?_
      refine ops_skip rfl rfl rfl rfl ?_
      refine ops_skip rfl rfl rfl rfl ?_
      refine ops_skip2 rfl rfl rfl ?_
      refine ops_skip2 rfl rfl rfl ?_
      refine ops_skip2 rfl rfl rfl ?_
      refine ops_skip rfl rfl rfl rfl ?_
      refine ops_cons rfl (ow_pick rfl rfl ?_)
      refine ops_nil ?_
      refine c_true rfl ?_
      refine c_seqR ?_
      refine ops_cons rfl (ow_assign rfl ?_)
      refine ops_nil ?_
      refine c_ret ?_
      refine tq_r ?_
      refine fin_ret1 rfl rfl ?_
      refine ⟨congrArg Value.bool ?_, X⟩
      first | (simp [descOk, *]; done) | (simp_all [descOk]; done)
  · skip
    replace b1 := b1.ext x6
    replace X := Ext.trans X x6; clear x6
    refine ops_cons rfl (ow_not rfl ?_)
    refine ops_cons rfl (ow_move rfl ?_)
    refine ops_skip rfl rfl rfl rfl ?_
    refine ops_skip rfl rfl rfl rfl ?_
    refine ops_skip rfl rfl rfl rfl ?_
    refine ops_skip rfl rfl rfl rfl ?_
    refine ops_cons rfl (ow_pick rfl rfl ?_)
    refine ops_cons rfl (ow_move rfl ?_)
    refine ops_skip rfl rfl rfl rfl ?_
    refine ops_skip rfl rfl rfl rfl ?_
    refine ops_skip rfl rfl rfl rfl ?_
    refine ops_skip rfl rfl rfl rfl ?_
    refine ops_skip rfl rfl rfl rfl ?_
    refine ops_skip rfl rfl rfl rfl ?_
    refine ops_cons rfl (ow_pick rfl rfl ?_)
    refine ops_cons rfl (ow_move rfl ?_)
    refine ops_skip rfl rfl rfl rfl ?_
    refine ops_skip rfl rfl rfl rfl ?_
    refine ops_skip rfl rfl rfl rfl ?_
    refine ops_skip2 rfl rfl rfl ?_
    refine ops_skip2 rfl rfl rfl ?_
    refine ops_skip2 rfl rfl rfl ?_
    refine ops_skip rfl rfl rfl rfl ?_
    refine ops_cons rfl (ow_pick rfl rfl ?_)
    refine ops_nil ?_
    refine c_true rfl ?_
    refine c_seqR ?_
    refine ops_cons rfl (ow_assign rfl ?_)
    refine ops_nil ?_
    refine c_ret ?_
    refine tq_r ?_
    refine fin_ret1 rfl rfl ?_
    refine ⟨congrArg Value.bool ?_, X⟩
    first | (simp [descOk, *]; done) | (simp_all [descOk]; done)
end Go.Proofs.Ytojgfbbdjobdnaa
