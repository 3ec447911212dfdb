/- What the functions on demands compute, each walked once. No condition. -/
import Derived.Test.YtdikgcccdcgjdaaU1
namespace Go.Proofs.Ytdikgcccdcgjdaa
open Go.RowKit
set_option linter.unusedVariables false
set_option linter.unusedSimpArgs false
def inB (a b c : Int) : Bool := decide (b ≤ a) && decide (a ≤ c)
def evB (a : Int) : Bool := decide (a = 1) || decide (a = 2) || decide (a = 4) || decide (a = 8)
def demOk (d : Dem) : Bool := inB d.node 0 31 && evB d.every && inB d.size 1 32
def areD (xs : List Dem) : Bool := xs.all demOk && decide (xs.length ≤ 40)
theorem l01In_c (a b c : Int) (w : World)  :
    Calls Try.prog 37 #[.int .i64 a, .int .i64 b, .int .i64 c] w (Ret fun v w' => v = .bool (inB a b c) ∧ Ext w w') := by
  have X := Ext.refl w
  refine calls_of (args := [.int .i64 a, .int .i64 b, .int .i64 c]) Try.func37 Try.ntmps37 rfl rfl ?_
  refine c_seqR ?_
  refine ops_cons rfl (ow_assign rfl ?_)
  refine ops_nil ?_
  refine c_seqR ?_
  refine ops_cons rfl (ow_move rfl ?_)
  refine ops_cons rfl (ow_move rfl ?_)
  refine ops_cons rfl (ow_geq2 rfl rfl (fun h1 => ?_) (fun h1 => ?_))
  · skip
    refine ops_cons rfl (ow_move rfl ?_)
    refine ops_want rfl rfl rfl (ow_move rfl ?_)
    refine ops_want rfl rfl rfl (ow_move rfl ?_)
    refine ops_want rfl rfl rfl (ow_leq rfl rfl ?_)
    refine ops_cons rfl (ow_pick rfl rfl ?_)
    refine ops_cons rfl (ow_assign rfl ?_)
    refine ops_nil ?_
    refine c_ret ?_
    refine fin_ret1 rfl rfl ?_
    exact ⟨by simp [inB, *], X⟩
  · skip
    refine ops_cons rfl (ow_move rfl ?_)
    refine ops_skip rfl rfl rfl rfl ?_
    refine ops_skip rfl rfl rfl rfl ?_
    refine ops_skip rfl rfl rfl rfl ?_
    refine ops_cons rfl (ow_pick rfl rfl ?_)
    refine ops_cons rfl (ow_assign rfl ?_)
    refine ops_nil ?_
    refine c_ret ?_
    refine fin_ret1 rfl rfl ?_
    exact ⟨by simp [inB, *], X⟩

theorem within_c (a b c : Int) (w : World)  :
    Calls Try.prog 41 #[.int .i64 a, .int .i64 b, .int .i64 c] w (Ret fun v w' => v = .bool (inB a b c) ∧ Ext w w') := by
  have X := Ext.refl w
  refine calls_of (args := [.int .i64 a, .int .i64 b, .int .i64 c]) Try.func41 Try.ntmps41 rfl rfl ?_
  refine c_seqR ?_
  refine ops_cons rfl (ow_assign rfl ?_)
  refine ops_nil ?_
  refine c_seqR ?_
  refine ops_cons rfl (ow_move rfl ?_)
  refine ops_cons rfl (ow_move rfl ?_)
  refine ops_cons rfl (ow_geq2 rfl rfl (fun h1 => ?_) (fun h1 => ?_))
  · skip
    refine ops_cons rfl (ow_move rfl ?_)
    refine ops_want rfl rfl rfl (ow_move rfl ?_)
    refine ops_want rfl rfl rfl (ow_move rfl ?_)
    refine ops_want rfl rfl rfl (ow_leq rfl rfl ?_)
    refine ops_cons rfl (ow_pick rfl rfl ?_)
    refine ops_cons rfl (ow_assign rfl ?_)
    refine ops_nil ?_
    refine c_ret ?_
    refine fin_ret1 rfl rfl ?_
    exact ⟨by simp [inB, *], X⟩
  · skip
    refine ops_cons rfl (ow_move rfl ?_)
    refine ops_skip rfl rfl rfl rfl ?_
    refine ops_skip rfl rfl rfl rfl ?_
    refine ops_skip rfl rfl rfl rfl ?_
    refine ops_cons rfl (ow_pick rfl rfl ?_)
    refine ops_cons rfl (ow_assign rfl ?_)
    refine ops_nil ?_
    refine c_ret ?_
    refine fin_ret1 rfl rfl ?_
    exact ⟨by simp [inB, *], X⟩

theorem l05Node_c (a : Int) (w : World)  :
    Calls Try.prog 35 #[.int .i64 a] w (Ret fun v w' => v = .bool (inB a 0 31) ∧ Ext w w') := by
  have X := Ext.refl w
  refine calls_of (args := [.int .i64 a]) Try.func35 Try.ntmps35 rfl rfl ?_
  refine c_seqR ?_
  refine ops_cons rfl (ow_assign rfl ?_)
  refine ops_nil ?_
  refine c_seqR ?_
  refine ops_cons rfl (ow_move rfl ?_)
  refine ops_cons rfl (ow_call ent37 rfl (ret_mono (l01In_c _ _ _ _) ?_))
  rintro _ w2 ⟨rfl, x1⟩
  replace X := Ext.trans X x1; clear x1
  refine ops_cons rfl (ow_assign rfl ?_)
  refine ops_nil ?_
  refine c_ret ?_
  refine fin_ret1 rfl rfl ?_
  exact ⟨by first | rfl | (simp [*]; done), X⟩

theorem isNode_c (a : Int) (w : World)  :
    Calls Try.prog 39 #[.int .i64 a] w (Ret fun v w' => v = .bool (inB a 0 31) ∧ Ext w w') := by
  have X := Ext.refl w
  refine calls_of (args := [.int .i64 a]) Try.func39 Try.ntmps39 rfl rfl ?_
  refine c_seqR ?_
  refine ops_cons rfl (ow_assign rfl ?_)
  refine ops_nil ?_
  refine c_seqR ?_
  refine ops_cons rfl (ow_move rfl ?_)
  refine ops_cons rfl (ow_call ent41 rfl (ret_mono (within_c _ _ _ _) ?_))
  rintro _ w2 ⟨rfl, x1⟩
  replace X := Ext.trans X x1; clear x1
  refine ops_cons rfl (ow_assign rfl ?_)
  refine ops_nil ?_
  refine c_ret ?_
  refine fin_ret1 rfl rfl ?_
  exact ⟨by first | rfl | (simp [*]; done), X⟩

theorem l16Power_c (a : Int) (w : World)  :
    Calls Try.prog 36 #[.int .i64 a] w (Ret fun v w' => v = .bool (evB a) ∧ Ext w w') := by
  have X := Ext.refl w
  refine calls_of (args := [.int .i64 a]) Try.func36 Try.ntmps36 rfl rfl ?_
  refine c_seqR ?_
  refine ops_cons rfl (ow_assign rfl ?_)
  refine ops_nil ?_
  refine c_seqR ?_
  refine ops_cons rfl (ow_move rfl ?_)
  refine ops_cons rfl (ow_eql2 rfl rfl (fun h1 => ?_) (fun h1 => ?_))
  · skip
    refine ops_cons rfl (ow_move rfl ?_)
    refine ops_skip rfl rfl rfl rfl ?_
    refine ops_skip rfl rfl rfl rfl ?_
    refine ops_cons rfl (ow_pick rfl rfl ?_)
    refine ops_cons rfl (ow_move rfl ?_)
    refine ops_skip rfl rfl rfl rfl ?_
    refine ops_skip rfl rfl rfl rfl ?_
    refine ops_cons rfl (ow_pick rfl rfl ?_)
    refine ops_cons rfl (ow_move rfl ?_)
    refine ops_skip rfl rfl rfl rfl ?_
    refine ops_skip rfl rfl rfl rfl ?_
    refine ops_cons rfl (ow_pick rfl rfl ?_)
    refine ops_cons rfl (ow_assign rfl ?_)
    refine ops_nil ?_
    refine c_ret ?_
    refine fin_ret1 rfl rfl ?_
    exact ⟨by simp [evB, *], X⟩
  · skip
    refine ops_cons rfl (ow_move rfl ?_)
    refine ops_want rfl rfl rfl (ow_move rfl ?_)
    refine ops_want rfl rfl rfl (ow_eql2 rfl rfl (fun h2 => ?_) (fun h2 => ?_))
    · skip
      refine ops_cons rfl (ow_pick rfl rfl ?_)
      refine ops_cons rfl (ow_move rfl ?_)
      refine ops_skip rfl rfl rfl rfl ?_
      refine ops_skip rfl rfl rfl rfl ?_
      refine ops_cons rfl (ow_pick rfl rfl ?_)
      refine ops_cons rfl (ow_move rfl ?_)
      refine ops_skip rfl rfl rfl rfl ?_
      refine ops_skip rfl rfl rfl rfl ?_
      refine ops_cons rfl (ow_pick rfl rfl ?_)
      refine ops_cons rfl (ow_assign rfl ?_)
      refine ops_nil ?_
      refine c_ret ?_
      refine fin_ret1 rfl rfl ?_
      exact ⟨by simp [evB, *], X⟩
    · skip
      refine ops_cons rfl (ow_pick rfl rfl ?_)
      refine ops_cons rfl (ow_move rfl ?_)
      refine ops_want rfl rfl rfl (ow_move rfl ?_)
      refine ops_want rfl rfl rfl (ow_eql2 rfl rfl (fun h3 => ?_) (fun h3 => ?_))
      · skip
        refine ops_cons rfl (ow_pick rfl rfl ?_)
        refine ops_cons rfl (ow_move rfl ?_)
        refine ops_skip rfl rfl rfl rfl ?_
        refine ops_skip rfl rfl rfl rfl ?_
        refine ops_cons rfl (ow_pick rfl rfl ?_)
        refine ops_cons rfl (ow_assign rfl ?_)
        refine ops_nil ?_
        refine c_ret ?_
        refine fin_ret1 rfl rfl ?_
        exact ⟨by simp [evB, *], X⟩
      · skip
        refine ops_cons rfl (ow_pick rfl rfl ?_)
        refine ops_cons rfl (ow_move rfl ?_)
        refine ops_want rfl rfl rfl (ow_move rfl ?_)
        refine ops_want rfl rfl rfl (ow_eql rfl rfl ?_)
        refine ops_cons rfl (ow_pick rfl rfl ?_)
        refine ops_cons rfl (ow_assign rfl ?_)
        refine ops_nil ?_
        refine c_ret ?_
        refine fin_ret1 rfl rfl ?_
        exact ⟨by simp [evB, *], X⟩

theorem isEvery_c (a : Int) (w : World)  :
    Calls Try.prog 40 #[.int .i64 a] w (Ret fun v w' => v = .bool (evB a) ∧ Ext w w') := by
  have X := Ext.refl w
  refine calls_of (args := [.int .i64 a]) Try.func40 Try.ntmps40 rfl rfl ?_
  refine c_seqR ?_
  refine ops_cons rfl (ow_assign rfl ?_)
  refine ops_nil ?_
  refine c_seqR ?_
  refine ops_cons rfl (ow_move rfl ?_)
  refine ops_cons rfl (ow_eql2 rfl rfl (fun h1 => ?_) (fun h1 => ?_))
  · skip
    refine ops_cons rfl (ow_move rfl ?_)
    refine ops_skip rfl rfl rfl rfl ?_
    refine ops_skip rfl rfl rfl rfl ?_
    refine ops_cons rfl (ow_pick rfl rfl ?_)
    refine ops_cons rfl (ow_move rfl ?_)
    refine ops_skip rfl rfl rfl rfl ?_
    refine ops_skip rfl rfl rfl rfl ?_
    refine ops_cons rfl (ow_pick rfl rfl ?_)
    refine ops_cons rfl (ow_move rfl ?_)
    refine ops_skip rfl rfl rfl rfl ?_
    refine ops_skip rfl rfl rfl rfl ?_
    refine ops_cons rfl (ow_pick rfl rfl ?_)
    refine ops_cons rfl (ow_assign rfl ?_)
    refine ops_nil ?_
    refine c_ret ?_
    refine fin_ret1 rfl rfl ?_
    exact ⟨by simp [evB, *], X⟩
  · skip
    refine ops_cons rfl (ow_move rfl ?_)
    refine ops_want rfl rfl rfl (ow_move rfl ?_)
    refine ops_want rfl rfl rfl (ow_eql2 rfl rfl (fun h2 => ?_) (fun h2 => ?_))
    · skip
      refine ops_cons rfl (ow_pick rfl rfl ?_)
      refine ops_cons rfl (ow_move rfl ?_)
      refine ops_skip rfl rfl rfl rfl ?_
      refine ops_skip rfl rfl rfl rfl ?_
      refine ops_cons rfl (ow_pick rfl rfl ?_)
      refine ops_cons rfl (ow_move rfl ?_)
      refine ops_skip rfl rfl rfl rfl ?_
      refine ops_skip rfl rfl rfl rfl ?_
      refine ops_cons rfl (ow_pick rfl rfl ?_)
      refine ops_cons rfl (ow_assign rfl ?_)
      refine ops_nil ?_
      refine c_ret ?_
      refine fin_ret1 rfl rfl ?_
      exact ⟨by simp [evB, *], X⟩
    · skip
      refine ops_cons rfl (ow_pick rfl rfl ?_)
      refine ops_cons rfl (ow_move rfl ?_)
      refine ops_want rfl rfl rfl (ow_move rfl ?_)
      refine ops_want rfl rfl rfl (ow_eql2 rfl rfl (fun h3 => ?_) (fun h3 => ?_))
      · skip
        refine ops_cons rfl (ow_pick rfl rfl ?_)
        refine ops_cons rfl (ow_move rfl ?_)
        refine ops_skip rfl rfl rfl rfl ?_
        refine ops_skip rfl rfl rfl rfl ?_
        refine ops_cons rfl (ow_pick rfl rfl ?_)
        refine ops_cons rfl (ow_assign rfl ?_)
        refine ops_nil ?_
        refine c_ret ?_
        refine fin_ret1 rfl rfl ?_
        exact ⟨by simp [evB, *], X⟩
      · skip
        refine ops_cons rfl (ow_pick rfl rfl ?_)
        refine ops_cons rfl (ow_move rfl ?_)
        refine ops_want rfl rfl rfl (ow_move rfl ?_)
        refine ops_want rfl rfl rfl (ow_eql rfl rfl ?_)
        refine ops_cons rfl (ow_pick rfl rfl ?_)
        refine ops_cons rfl (ow_assign rfl ?_)
        refine ops_nil ?_
        refine c_ret ?_
        refine fin_ret1 rfl rfl ?_
        exact ⟨by simp [evB, *], X⟩

theorem sAreD_c (A : Option Addr) (B c : Nat) (xs : List Dem) (w : World) (hs : Sl B w A (xs.flatMap Dem.cells)) (hl : xs.length ≤ 1048576) :
    Calls Try.prog 17 #[.slice A xs.length c] w (Ret fun v w' => v = .bool (areD xs) ∧ Ext w w') := by
  have Bhs := hs.1
  have X := Ext.refl w
  refine calls_of (args := [.slice A xs.length c]) Try.func17 Try.ntmps17 rfl rfl ?_
  refine c_seqR ?_
  refine ops_cons rfl (ow_assign rfl ?_)
  refine ops_nil ?_
  refine c_seq ?_
  refine c_seqR ?_
  refine ops_cons rfl (ow_assign rfl ?_)
  refine ops_nil ?_
  refine c_block ?_
  refine c_loop (G := Nat) (fun k => [(0, .slice A xs.length c), (3, .int .i64 (k : Nat))]) (fun k wr => k ≤ xs.length ∧ Sl B wr A (xs.flatMap Dem.cells) ∧ xs.all demOk = (xs.drop k).all demOk ∧ Ext w wr) (fun k => xs.length - k) 0 (.cons rfl (.cons rfl (.nil _))) ?_ ?_
  · exact ⟨by omega, hs, rfl, X⟩
  clear hs
  clear X
  rintro k wr ⟨hk0, hs, hi, X⟩
  refine c_seq ?_
  refine c_seqR ?_
  refine ops_cons rfl (ow_move rfl ?_)
  refine ops_cons rfl (ow_move rfl ?_)
  refine ops_cons rfl (ow_len Try.underlying40 rfl ?_)
  refine ops_cons rfl (ow_lss2 rfl rfl (fun hk => ?_) (fun hk => ?_))
  · skip
    obtain ⟨x, hx, dx⟩ := drop_at' hk
    refine ops_nil ?_
    refine c_true rfl ?_
    refine c_skip ?_
    refine tq_n ?_
    refine c_seq ?_
    refine c_block ?_
    refine c_seqR ?_
    refine ops_cons rfl (ow_move rfl ?_)
    refine ops_cons rfl (ow_move rfl ?_)
    refine ops_cons rfl (ow_indexT hs Dem.len rfl el40 rfl rfl rfl hx rfl ?_)
    refine ops_cons rfl (ow_fieldAddr off58_0 rfl ?_)
    refine ops_cons rfl (ow_loadTF hs Dem.len hx ti2 rfl rfl rfl ?_)
    refine ops_cons rfl (ow_callB ent35 rfl (l05Node_c _ _) (fun w3 h1 x2 => ?_) (fun w3 h1 x2 => ?_))
    · skip
      replace hs := hs.ext x2
      replace X := Ext.trans X x2; clear x2
      refine ops_cons rfl (ow_not rfl ?_)
      refine ops_cons rfl (ow_move rfl ?_)
      refine ops_want rfl rfl rfl (ow_move rfl ?_)
      refine ops_want rfl rfl rfl (ow_move rfl ?_)
      refine ops_want rfl rfl rfl (ow_indexT hs Dem.len rfl el40 rfl rfl rfl hx rfl ?_)
      refine ops_want rfl rfl rfl (ow_fieldAddr off58_1 rfl ?_)
      refine ops_want rfl rfl rfl (ow_loadTF hs Dem.len hx ti2 rfl rfl rfl ?_)
      refine ops_want rfl rfl rfl (ow_callB ent36 rfl (l16Power_c _ _) (fun w6 h4 x5 => ?_) (fun w6 h4 x5 => ?_))
      · skip
        replace hs := hs.ext x5
        replace X := Ext.trans X x5; clear x5
        refine ops_want rfl rfl rfl (ow_not rfl ?_)
        refine ops_cons rfl (ow_pick rfl rfl ?_)
        refine ops_cons rfl (ow_move rfl ?_)
        refine ops_want rfl rfl rfl (ow_move rfl ?_)
        refine ops_want rfl rfl rfl (ow_move rfl ?_)
        refine ops_want rfl rfl rfl (ow_indexT hs Dem.len rfl el40 rfl rfl rfl hx rfl ?_)
        refine ops_want rfl rfl rfl (ow_fieldAddr off58_2 rfl ?_)
        refine ops_want rfl rfl rfl (ow_loadTF hs Dem.len hx ti2 rfl rfl rfl ?_)
        refine ops_want rfl rfl rfl (ow_callB ent37 rfl (l01In_c _ _ _ _) (fun w9 h7 x8 => ?_) (fun w9 h7 x8 => ?_))
        · skip
          replace hs := hs.ext x8
          replace X := Ext.trans X x8; clear x8
          refine ops_want rfl rfl rfl (ow_not rfl ?_)
          refine ops_cons rfl (ow_pick rfl rfl ?_)
          refine ops_nil ?_
          refine c_false rfl ?_
          refine c_skip ?_
          refine bq_n ?_
          refine tq_n ?_
          refine c_region ?_
          refine ops_cons rfl (ow_move rfl ?_)
          refine ops_cons rfl (ow_add rfl rfl (w64 (by omega)) ?_)
          refine ops_cons rfl (ow_assign rfl ?_)
          refine ops_nil ?_
          refine tq_n ⟨k + 1, (.cons rfl (.cons rfl (.nil _))), ?_, ?_⟩
          · exact ⟨by omega, hs, by rw [hi, dx]; simp [demOk, *], X⟩
          · omega
        · skip
          replace hs := hs.ext x8
          replace X := Ext.trans X x8; clear x8
          refine ops_want rfl rfl rfl (ow_not rfl ?_)
          refine ops_cons rfl (ow_pick rfl rfl ?_)
          refine ops_nil ?_
          refine c_true rfl ?_
          refine c_seqR ?_
          refine ops_cons rfl (ow_assign rfl ?_)
          refine ops_nil ?_
          refine c_ret ?_
          refine bq_r ?_
          refine tq_r ?_
          refine tq_r ?_
          refine bq_r ?_
          refine tq_r ?_
          refine fin_ret1 rfl rfl ?_
          refine ⟨congrArg Value.bool ?_, X⟩
          rw [areD, hi]
          first | (rw [drop_end hk]; simp <;> omega) | (rw [dx]; simp [demOk, *])
      · skip
        replace hs := hs.ext x5
        replace X := Ext.trans X x5; clear x5
        refine ops_want rfl rfl rfl (ow_not rfl ?_)
        refine ops_cons rfl (ow_pick rfl rfl ?_)
        refine ops_cons rfl (ow_move rfl ?_)
        refine ops_skip rfl rfl rfl rfl ?_
        refine ops_skip rfl rfl rfl rfl ?_
        refine ops_skip rfl rfl rfl rfl ?_
        refine ops_skip rfl rfl rfl rfl ?_
        refine ops_skip rfl rfl rfl rfl ?_
        refine ops_skip rfl rfl rfl rfl ?_
        refine ops_skip rfl rfl rfl rfl ?_
        refine ops_cons rfl (ow_pick rfl rfl ?_)
        refine ops_nil ?_
        refine c_true rfl ?_
        refine c_seqR ?_
        refine ops_cons rfl (ow_assign rfl ?_)
        refine ops_nil ?_
        refine c_ret ?_
        refine bq_r ?_
        refine tq_r ?_
        refine tq_r ?_
        refine bq_r ?_
        refine tq_r ?_
        refine fin_ret1 rfl rfl ?_
        refine ⟨congrArg Value.bool ?_, X⟩
        rw [areD, hi]
        first | (rw [drop_end hk]; simp <;> omega) | (rw [dx]; simp [demOk, *])
    · skip
      replace hs := hs.ext x2
      replace X := Ext.trans X x2; clear x2
      refine ops_cons rfl (ow_not rfl ?_)
      refine ops_cons rfl (ow_move rfl ?_)
      refine ops_skip rfl rfl rfl rfl ?_
      refine ops_skip rfl rfl rfl rfl ?_
      refine ops_skip rfl rfl rfl rfl ?_
      refine ops_skip rfl rfl rfl rfl ?_
      refine ops_skip rfl rfl rfl rfl ?_
      refine ops_skip rfl rfl rfl rfl ?_
      refine ops_skip rfl rfl rfl rfl ?_
      refine ops_cons rfl (ow_pick rfl rfl ?_)
      refine ops_cons rfl (ow_move rfl ?_)
      refine ops_skip rfl rfl rfl rfl ?_
      refine ops_skip rfl rfl rfl rfl ?_
      refine ops_skip rfl rfl rfl rfl ?_
      refine ops_skip rfl rfl rfl rfl ?_
      refine ops_skip rfl rfl rfl rfl ?_
      refine ops_skip rfl rfl rfl rfl ?_
      refine ops_skip rfl rfl rfl rfl ?_
      refine ops_cons rfl (ow_pick rfl rfl ?_)
      refine ops_nil ?_
      refine c_true rfl ?_
      refine c_seqR ?_
      refine ops_cons rfl (ow_assign rfl ?_)
      refine ops_nil ?_
      refine c_ret ?_
      refine bq_r ?_
      refine tq_r ?_
      refine tq_r ?_
      refine bq_r ?_
      refine tq_r ?_
      refine fin_ret1 rfl rfl ?_
      refine ⟨congrArg Value.bool ?_, X⟩
      rw [areD, hi]
      first | (rw [drop_end hk]; simp <;> omega) | (rw [dx]; simp [demOk, *])
  · skip
    refine ops_nil ?_
    refine c_false rfl ?_
    refine c_exit ?_
    refine tq_e ?_
    refine tq_e ?_
    refine bq_e ?_
    refine tq_n ?_
    refine c_seqR ?_
    refine ops_cons rfl (ow_move rfl ?_)
    refine ops_cons rfl (ow_len Try.underlying40 rfl ?_)
    refine ops_cons rfl (ow_leq rfl rfl ?_)
    refine ops_cons rfl (ow_assign rfl ?_)
    refine ops_nil ?_
    refine c_ret ?_
    refine fin_ret1 rfl rfl ?_
    refine ⟨congrArg Value.bool ?_, X⟩
    rw [areD, hi]
    first | (rw [drop_end hk]; simp <;> omega) | (rw [dx]; simp [demOk, *])

theorem iAreD_c (A : Option Addr) (B c : Nat) (xs : List Dem) (w : World) (hs : Sl B w A (xs.flatMap Dem.cells)) (hl : xs.length ≤ 1048576) :
    Calls Try.prog 19 #[.slice A xs.length c] w (Ret fun v w' => v = .bool (areD xs) ∧ Ext w w') := by
  have Bhs := hs.1
  have X := Ext.refl w
  refine calls_of (args := [.slice A xs.length c]) Try.func19 Try.ntmps19 rfl rfl ?_
  refine c_seqR ?_
  refine ops_cons rfl (ow_assign rfl ?_)
  refine ops_nil ?_
  refine c_seq ?_
  refine c_seqR ?_
  refine ops_cons rfl (ow_move rfl ?_)
  refine ops_cons rfl (ow_len Try.underlying40 rfl ?_)
  refine ops_cons rfl (ow_move rfl ?_)
  refine ops_nil ?_
  refine c_block ?_
  refine c_loop (G := Nat) (fun k => [(0, .slice A xs.length c), (5, .slice A xs.length c), (6, .int .i64 (xs.length : Nat)), (7, .int .i64 (k : Nat))]) (fun k wr => k ≤ xs.length ∧ Sl B wr A (xs.flatMap Dem.cells) ∧ xs.all demOk = (xs.drop k).all demOk ∧ Ext w wr) (fun k => xs.length - k) 0 (.cons rfl (.cons rfl (.cons rfl (.cons rfl (.nil _))))) ?_ ?_
  · exact ⟨by omega, hs, rfl, X⟩
  clear hs
  clear X
  rintro k wr ⟨hk0, hs, hi, X⟩
  refine c_seqR ?_
  refine ops_cons rfl (ow_lss2 rfl rfl (fun hk => ?_) (fun hk => ?_))
  · skip
    obtain ⟨x, hx, dx⟩ := drop_at' hk
    refine ops_nil ?_
    refine c_seq ?_
    refine c_true rfl ?_
    refine c_skip ?_
    refine tq_n ?_
    refine c_seq ?_
    refine c_block ?_
    refine c_seqR ?_
    refine ops_cons rfl (ow_indexT hs Dem.len rfl el40 rfl rfl rfl hx rfl ?_)
    refine ops_cons rfl (ow_loadTA hs Dem.len hx ti58 rfl ?_)
    refine ops_cons rfl (ow_alloc ti58 ?_)
    intro g4 w3 eg4 b1 x2 zg4
    have lg4 : w.heap.size ≤ g4 := Nat.le_trans X.size (Nat.le_of_eq eg4.symm)
    replace hs := hs.ext x2
    replace X := Ext.trans X x2; clear x2
    refine ops_cons rfl (ow_storeB b1 ti58 rfl rfl rfl rfl rfl rfl ?_)
    intro w6 b8 hg5 z7
    replace hs := hs.grown hg5 (by first | (intro h; injection h; omega) | (intro g hg; injection hg; omega))
    replace X := X.grown hg5 X.size (by intro g hg; injection hg; omega)
    clear hg5 b1
    refine ops_nil ?_
    refine c_seqR ?_
    refine ops_cons rfl (ow_fieldAddrB off58_0 rfl rfl ?_)
    refine ops_cons rfl (ow_loadB b8 ti2 rfl rfl ?_)
    refine ops_cons rfl (ow_callB ent39 rfl (isNode_c _ _) (fun w11 h9 x10 => ?_) (fun w11 h9 x10 => ?_))
    · skip
      replace hs := hs.ext x10
      replace b8 := b8.ext x10
      replace X := Ext.trans X x10; clear x10
      refine ops_cons rfl (ow_not rfl ?_)
      refine ops_cons rfl (ow_move rfl ?_)
      refine ops_want rfl rfl rfl (ow_fieldAddrB off58_1 rfl rfl ?_)
      refine ops_want rfl rfl rfl (ow_loadB b8 ti2 rfl rfl ?_)
      refine ops_want rfl rfl rfl (ow_callB ent40 rfl (isEvery_c _ _) (fun w14 h12 x13 => ?_) (fun w14 h12 x13 => ?_))
      · skip
        replace hs := hs.ext x13
        replace b8 := b8.ext x13
        replace X := Ext.trans X x13; clear x13
        refine ops_want rfl rfl rfl (ow_not rfl ?_)
        refine ops_cons rfl (ow_pick rfl rfl ?_)
        refine ops_cons rfl (ow_move rfl ?_)
        refine ops_want rfl rfl rfl (ow_fieldAddrB off58_2 rfl rfl ?_)
        refine ops_want rfl rfl rfl (ow_loadB b8 ti2 rfl rfl ?_)
        refine ops_want rfl rfl rfl (ow_callB ent41 rfl (within_c _ _ _ _) (fun w17 h15 x16 => ?_) (fun w17 h15 x16 => ?_))
        · skip
          replace hs := hs.ext x16
          replace b8 := b8.ext x16
          replace X := Ext.trans X x16; clear x16
          refine ops_want rfl rfl rfl (ow_not rfl ?_)
          refine ops_cons rfl (ow_pick rfl rfl ?_)
          refine ops_nil ?_
          refine c_false rfl ?_
          refine c_skip ?_
          refine bq_n ?_
          refine tq_n ?_
          refine c_region ?_
          refine ops_cons rfl (ow_add rfl rfl (w64 (by omega)) ?_)
          refine ops_cons rfl (ow_move rfl ?_)
          refine ops_nil ?_
          refine tq_n ⟨k + 1, (.cons rfl (.cons rfl (.cons rfl (.cons rfl (.nil _))))), ?_, ?_⟩
          · exact ⟨by omega, hs, by rw [hi, dx]; simp [demOk, *], X⟩
          · omega
        · skip
          replace hs := hs.ext x16
          replace b8 := b8.ext x16
          replace X := Ext.trans X x16; clear x16
          refine ops_want rfl rfl rfl (ow_not rfl ?_)
          refine ops_cons rfl (ow_pick rfl rfl ?_)
          refine ops_nil ?_
          refine c_true rfl ?_
          refine c_seqR ?_
          refine ops_cons rfl (ow_assign rfl ?_)
          refine ops_nil ?_
          refine c_ret ?_
          refine bq_r ?_
          refine tq_r ?_
          refine tq_r ?_
          refine bq_r ?_
          refine tq_r ?_
          refine fin_ret1 rfl rfl ?_
          refine ⟨congrArg Value.bool ?_, X⟩
          rw [areD, hi]
          first | (rw [drop_end hk]; simp <;> omega) | (rw [dx]; simp [demOk, *])
      · skip
        replace hs := hs.ext x13
        replace b8 := b8.ext x13
        replace X := Ext.trans X x13; clear x13
        refine ops_want rfl rfl rfl (ow_not rfl ?_)
        refine ops_cons rfl (ow_pick rfl rfl ?_)
        refine ops_cons rfl (ow_move rfl ?_)
        refine ops_skip rfl rfl rfl rfl ?_
        refine ops_skip rfl rfl rfl rfl ?_
        refine ops_skip rfl rfl rfl rfl ?_
        refine ops_skip rfl rfl rfl rfl ?_
        refine ops_cons rfl (ow_pick rfl rfl ?_)
        refine ops_nil ?_
        refine c_true rfl ?_
        refine c_seqR ?_
        refine ops_cons rfl (ow_assign rfl ?_)
        refine ops_nil ?_
        refine c_ret ?_
        refine bq_r ?_
        refine tq_r ?_
        refine tq_r ?_
        refine bq_r ?_
        refine tq_r ?_
        refine fin_ret1 rfl rfl ?_
        refine ⟨congrArg Value.bool ?_, X⟩
        rw [areD, hi]
        first | (rw [drop_end hk]; simp <;> omega) | (rw [dx]; simp [demOk, *])
    · skip
      replace hs := hs.ext x10
      replace b8 := b8.ext x10
      replace X := Ext.trans X x10; clear x10
      refine ops_cons rfl (ow_not rfl ?_)
      refine ops_cons rfl (ow_move rfl ?_)
      refine ops_skip rfl rfl rfl rfl ?_
      refine ops_skip rfl rfl rfl rfl ?_
      refine ops_skip rfl rfl rfl rfl ?_
      refine ops_skip rfl rfl rfl rfl ?_
      refine ops_cons rfl (ow_pick rfl rfl ?_)
      refine ops_cons rfl (ow_move rfl ?_)
      refine ops_skip rfl rfl rfl rfl ?_
      refine ops_skip rfl rfl rfl rfl ?_
      refine ops_skip rfl rfl rfl rfl ?_
      refine ops_skip rfl rfl rfl rfl ?_
      refine ops_cons rfl (ow_pick rfl rfl ?_)
      refine ops_nil ?_
      refine c_true rfl ?_
      refine c_seqR ?_
      refine ops_cons rfl (ow_assign rfl ?_)
      refine ops_nil ?_
      refine c_ret ?_
      refine bq_r ?_
      refine tq_r ?_
      refine tq_r ?_
      refine bq_r ?_
      refine tq_r ?_
      refine fin_ret1 rfl rfl ?_
      refine ⟨congrArg Value.bool ?_, X⟩
      rw [areD, hi]
      first | (rw [drop_end hk]; simp <;> omega) | (rw [dx]; simp [demOk, *])
  · skip
    refine ops_nil ?_
    refine c_seq ?_
    refine c_false rfl ?_
    refine c_exit ?_
    refine tq_e ?_
    refine tq_e ?_
    refine bq_e ?_
    refine tq_n ?_
    refine c_seqR ?_
    refine ops_cons rfl (ow_move rfl ?_)
    refine ops_cons rfl (ow_len Try.underlying40 rfl ?_)
    refine ops_cons rfl (ow_leq rfl rfl ?_)
    refine ops_cons rfl (ow_assign rfl ?_)
    refine ops_nil ?_
    refine c_ret ?_
    refine fin_ret1 rfl rfl ?_
    refine ⟨congrArg Value.bool ?_, X⟩
    rw [areD, hi]
    first | (rw [drop_end hk]; simp <;> omega) | (rw [dx]; simp [demOk, *])
end Go.Proofs.Ytdikgcccdcgjdaa
