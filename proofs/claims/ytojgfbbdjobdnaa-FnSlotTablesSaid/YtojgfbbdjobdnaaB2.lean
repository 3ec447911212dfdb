/- Bytes of slot tables, and the code. No condition. -/
import Derived.Test.YtojgfbbdjobdnaaB1
namespace Go.Proofs.Ytojgfbbdjobdnaa
open Go.RowKit
set_option linter.unusedVariables false
set_option linter.unusedSimpArgs false
set_option maxRecDepth 20000
theorem sSTB_c (A : Option Addr) (B c : Nat) (xs : List SlotI) (w : World) (hs : Sl B w A (xs.flatMap SlotI.cells)) (hl : xs.length ≤ 1048576) :
    Calls Try.prog 26 #[.slice A xs.length c] w (Ret fun v w' => ∃ A' c', v = .tuple #[.slice A' (resB xs).1.length c', .int .i64 (resB xs).2] ∧ Own w' w.heap.size 2 1 A' (resB xs).1.length c' ((resB xs).1.flatMap eI) ∧ Ext w w') := by
  have Bhs := hs.1
  have X := Ext.refl w
  refine calls_of (args := [.slice A xs.length c]) Try.func26 Try.ntmps26 rfl rfl ?_
  refine c_seqR ?_
  refine ops_cons rfl (ow_assign rfl ?_)
  refine ops_cons rfl (ow_assign rfl ?_)
  refine ops_nil ?_
  refine c_seq ?_
  refine c_seqR ?_
  refine ops_cons rfl (ow_move rfl ?_)
  refine ops_cons rfl (ow_callB ent32 rfl (sIsST_c _ _ _ _ _ hs hl) (fun w2 hT x1 => ?_) (fun w2 hT x1 => ?_))
  · skip
    replace hs := hs.ext x1
    replace X := Ext.trans X x1; clear x1
    refine ops_cons rfl (ow_not rfl ?_)
    refine ops_nil ?_
    refine c_false rfl ?_
    refine c_skip ?_
    refine tq_n ?_
    refine c_seqR ?_
    refine ops_cons rfl (ow_move rfl ?_)
    refine ops_cons rfl (ow_call ent60 rfl (ret_mono (l12Bytes_c _ _ _ _ _ hs hT) ?_))
    rintro _ w4 ⟨A5, c6, rfl, oR, x3⟩
    replace oR := Own.low oR X.size
    replace hs := hs.ext x3
    replace X := Ext.trans X x3; clear x3
    refine ops_cons rfl (ow_assign rfl ?_)
    refine ops_cons rfl (ow_assign rfl ?_)
    refine ops_nil ?_
    refine c_ret ?_
    refine fin_ret2 rfl rfl rfl ?_
    first
    | (have e : resB xs = ([], 1) := by rw [resB, if_neg (by simp [hT])]
       rw [e]; exact ⟨none, 0, rfl, Own.nil_ _ _ _ _, X⟩)
    | (have e : resB xs = (stB xs, 0) := by rw [resB, if_pos hT]
       have e2 : (stB xs).length = 1 + 7 * xs.length := stP_len (Nat.le_refl _)
       rw [e]; dsimp only; rw [e2]; exact ⟨_, _, rfl, oR, X⟩)
  · skip
    replace hs := hs.ext x1
    replace X := Ext.trans X x1; clear x1
    refine ops_cons rfl (ow_not rfl ?_)
    refine ops_nil ?_
    refine c_true rfl ?_
    refine c_seqR ?_
    refine ops_cons rfl (ow_assign rfl ?_)
    refine ops_cons rfl (ow_assign rfl ?_)
    refine ops_nil ?_
    refine c_ret ?_
    refine tq_r ?_
    refine fin_ret2 rfl rfl rfl ?_
    first
    | (have e : resB xs = ([], 1) := by rw [resB, if_neg (by simp [hT])]
       rw [e]; exact ⟨none, 0, rfl, Own.nil_ _ _ _ _, X⟩)
    | (have e : resB xs = (stB xs, 0) := by rw [resB, if_pos hT]
       have e2 : (stB xs).length = 1 + 7 * xs.length := stP_len (Nat.le_refl _)
       rw [e]; dsimp only; rw [e2]; exact ⟨_, _, rfl, oR, X⟩)

theorem iSTB_c (A : Option Addr) (B c : Nat) (xs : List SlotI) (w : World) (hs : Sl B w A (xs.flatMap SlotI.cells)) (hl : xs.length ≤ 1048576) :
    Calls Try.prog 25 #[.slice A xs.length c] w (Ret fun v w' => ∃ A' c', v = .tuple #[.slice A' (resB xs).1.length c', .int .i64 (resB xs).2] ∧ Own w' w.heap.size 2 1 A' (resB xs).1.length c' ((resB xs).1.flatMap eI) ∧ Ext w w') := by
  have Bhs := hs.1
  have X := Ext.refl w
  refine calls_of (args := [.slice A xs.length c]) Try.func25 Try.ntmps25 rfl rfl ?_
  refine c_seqR ?_
  refine ops_cons rfl (ow_assign rfl ?_)
  refine ops_cons rfl (ow_assign rfl ?_)
  refine ops_nil ?_
  refine c_seq ?_
  refine c_seqR ?_
  refine ops_cons rfl (ow_move rfl ?_)
  refine ops_cons rfl (ow_callB ent31 rfl (iIsST_c _ _ _ _ _ hs hl) (fun w2 hT x1 => ?_) (fun w2 hT x1 => ?_))
  · skip
    replace hs := hs.ext x1
    replace X := Ext.trans X x1; clear x1
    refine ops_cons rfl (ow_not rfl ?_)
    refine ops_nil ?_
    refine c_false rfl ?_
    refine c_skip ?_
    refine tq_n ?_
    refine c_seqR ?_
    refine ops_cons rfl (ow_move rfl ?_)
    refine ops_cons rfl (ow_call ent59 rfl (ret_mono (slotTableBytes_c _ _ _ _ _ hs hT) ?_))
    rintro _ w4 ⟨A5, c6, rfl, oR, x3⟩
    replace oR := Own.low oR X.size
    replace hs := hs.ext x3
    replace X := Ext.trans X x3; clear x3
    refine ops_cons rfl (ow_assign rfl ?_)
    refine ops_cons rfl (ow_assign rfl ?_)
    refine ops_nil ?_
    refine c_ret ?_
    refine fin_ret2 rfl rfl rfl ?_
    first
    | (have e : resB xs = ([], 1) := by rw [resB, if_neg (by simp [hT])]
       rw [e]; exact ⟨none, 0, rfl, Own.nil_ _ _ _ _, X⟩)
    | (have e : resB xs = (stB xs, 0) := by rw [resB, if_pos hT]
       have e2 : (stB xs).length = 1 + 7 * xs.length := stP_len (Nat.le_refl _)
       rw [e]; dsimp only; rw [e2]; exact ⟨_, _, rfl, oR, X⟩)
  · skip
    replace hs := hs.ext x1
    replace X := Ext.trans X x1; clear x1
    refine ops_cons rfl (ow_not rfl ?_)
    refine ops_nil ?_
    refine c_true rfl ?_
    refine c_seqR ?_
    refine ops_cons rfl (ow_assign rfl ?_)
    refine ops_cons rfl (ow_assign rfl ?_)
    refine ops_nil ?_
    refine c_ret ?_
    refine tq_r ?_
    refine fin_ret2 rfl rfl rfl ?_
    first
    | (have e : resB xs = ([], 1) := by rw [resB, if_neg (by simp [hT])]
       rw [e]; exact ⟨none, 0, rfl, Own.nil_ _ _ _ _, X⟩)
    | (have e : resB xs = (stB xs, 0) := by rw [resB, if_pos hT]
       have e2 : (stB xs).length = 1 + 7 * xs.length := stP_len (Nat.le_refl _)
       rw [e]; dsimp only; rw [e2]; exact ⟨_, _, rfl, oR, X⟩)
end Go.Proofs.Ytojgfbbdjobdnaa
