/- Texts of the seat that a law needs, put together. No condition. -/
import Derived.Test.YtdoibplhbdkapaaGreatDoorCKP4
import Derived.Test.YtdoibplhbdkapaaGreatDoorCKP3
import Derived.RangeFuncFrom
import Derived.RangeFuncBox
import Derived.RangeFuncLeaves
import Derived.RangeFuncCalls
import Derived.TacticsIn
import Derived.RangeFuncBound
namespace Go.Proofs.YtdoibplhbdkapaaGreatDoor
open Go.RowKit
set_option linter.unusedVariables false
set_option linter.unusedSimpArgs false
set_option maxRecDepth 20000
theorem l01Rises_c (A : Option Addr) (B c : Nat) (xs : List Int) (n : Int) (w : World) (hs : Sl B w A (xs.flatMap eI)) (hl : xs.length ≤ 1048576) (hn : 0 ≤ n ∧ n ≤ 1048576) :
    Calls Tryz.prog 259 #[.slice A xs.length c, .int .i64 n] w (Ret fun v w' => v = .bool (risesB xs n) ∧ Ext w w') := by
  have Bhs := hs.1
  have X := Ext.refl w
  refine calls_of (args := [.slice A xs.length c, .int .i64 n]) Tryz.func259 Tryz.ntmps259 rfl rfl ?_
  refine c_seqR ?_
  refine ops_cons rfl (ow_assign rfl ?_)
  refine ops_nil ?_
  refine c_seq ?_
  refine c_seqR ?_
  refine ops_cons rfl (ow_assign rfl ?_)
  refine ops_nil ?_
  refine c_block ?_
  refine c_loop (G := Nat) (fun k => [(0, .slice A xs.length c), (1, .int .i64 n), (5, .int .i64 (k : Nat))]) (fun k wr => k ≤ xs.length ∧ risesFrom n none xs = risesFrom n (prevG xs k) (xs.drop k) ∧ Sl B wr A (xs.flatMap eI) ∧ Ext w wr) (fun k => xs.length - k) 0 (.cons rfl (.cons rfl (.cons rfl (.nil _)))) ?_ ?_
  · exact ⟨by omega, rfl, hs, X⟩
  clear hs
  clear X
  rintro k wr ⟨hk0, hi, hs, X⟩
  refine c_seq ?_
  refine c_seqR ?_
  refine ops_cons rfl (ow_move rfl ?_)
  refine ops_cons rfl (ow_move rfl ?_)
  refine ops_cons rfl (ow_len Tryz.underlying30 rfl ?_)
  refine ops_cons rfl (ow_lss2 rfl rfl (fun hk => ?_) (fun hk => ?_))
  obtain ⟨x, hx, dx⟩ := drop_at' hk
  refine ops_nil ?_
  refine c_true rfl ?_
  refine c_skip ?_
  refine tq_n ?_
  refine c_seq ?_
  refine c_block ?_
  refine c_seqD [false, false, false, false, false, false, false, false, false, false, false, false, false, false, false, false, false, false, false, false, false, false, false, false] mixed (by kernel_rfl) ?_
  refine f_q rfl (fun wq sq => ow_move rfl ⟨rfl, Ext.refl _⟩) ?_
  refine f_q rfl (fun wq sq => ow_move rfl ⟨rfl, Ext.refl _⟩) ?_
  refine f_q rfl (fun wq sq => ow_indexT (hs.ext sq) eI_len rfl el30 rfl rfl rfl hx rfl ⟨rfl, Ext.refl _⟩) ?_
  refine f_q rfl (fun wq sq => ow_loadT (hs.ext sq) eI_len hx ti2 rfl rfl rfl ⟨rfl, Ext.refl _⟩) ?_
  refine f_q rfl (fun wq sq => ow_move rfl ⟨rfl, Ext.refl _⟩) ?_
  refine f_q rfl (fun wq sq => ow_sub rfl rfl (w64 (by omega)) ⟨rfl, Ext.refl _⟩) ?_
  refine f_qB rfl (fun wq sq => ow_call ent111 rfl (l01In_c _ _ _ _)) (fun h1 => ?_) (fun h1 => ?_)
  refine f_q rfl (fun wq sq => ow_not rfl ⟨rfl, Ext.refl _⟩) ?_
  refine f_q rfl (fun wq sq => ow_move rfl ⟨rfl, Ext.refl _⟩) ?_
  refine f_qw rfl rfl rfl (fun wq sq => ow_move rfl ⟨rfl, Ext.refl _⟩) ?_
  refine f_qwb rfl rfl rfl (fun wq sq => ow_gtr rfl rfl ⟨rfl, Ext.refl _⟩) (fun hp => ?_) (fun hp => ?_)
  obtain ⟨y, hy⟩ : ∃ y, xs[k - 1]? = some y := ⟨_, List.getElem?_eq_getElem (by omega)⟩
  refine f_qw rfl rfl rfl (fun wq sq => ow_move rfl ⟨rfl, Ext.refl _⟩) ?_
  refine f_qw rfl rfl rfl (fun wq sq => ow_move rfl ⟨rfl, Ext.refl _⟩) ?_
  refine f_qw rfl rfl rfl (fun wq sq => ow_move rfl ⟨rfl, Ext.refl _⟩) ?_
  refine f_qw rfl rfl rfl (fun wq sq => ow_indexT (hs.ext sq) eI_len rfl el30 rfl rfl rfl hx rfl ⟨rfl, Ext.refl _⟩) ?_
  refine f_qw rfl rfl rfl (fun wq sq => ow_loadT (hs.ext sq) eI_len hx ti2 rfl rfl rfl ⟨rfl, Ext.refl _⟩) ?_
  refine f_qw rfl rfl rfl (fun wq sq => ow_move rfl ⟨rfl, Ext.refl _⟩) ?_
  refine f_qw rfl rfl rfl (fun wq sq => ow_move rfl ⟨rfl, Ext.refl _⟩) ?_
  refine f_qw rfl rfl rfl (fun wq sq => ow_sub rfl rfl (w64 (by omega)) ⟨rfl, Ext.refl _⟩) ?_
  refine f_qw rfl rfl rfl (fun wq sq => ow_indexT (hs.ext sq) eI_len rfl el30 rfl rfl rfl hy (by omega) ⟨rfl, Ext.refl _⟩) ?_
  refine f_qw rfl rfl rfl (fun wq sq => ow_loadT (hs.ext sq) eI_len hy ti2 rfl rfl rfl ⟨rfl, Ext.refl _⟩) ?_
  refine f_qwb rfl rfl rfl (fun wq sq => ow_leq rfl rfl ⟨rfl, Ext.refl _⟩) (fun h4 => ?_) (fun h4 => ?_)
  refine f_qw rfl rfl rfl (fun wq sq => ow_pick rfl rfl ⟨rfl, Ext.refl _⟩) ?_
  refine f_q rfl (fun wq sq => ow_pick rfl rfl ⟨rfl, Ext.refl _⟩) ?_
  refine f_nil (fun w5 sq => ?_)
  have xq := sq
  replace hs := hs.ext xq
  replace X := Ext.trans X xq; clear xq sq
  refine ops_nil ?_
  refine c_true rfl ?_
  refine c_seqR ?_
  refine ops_cons rfl (ow_assign rfl ?_)
  refine ops_nil ?_
  refine c_ret ?_
  refine bq_r ?_
  refine tq_r ?_
  refine tq_r ?_
  refine bq_r ?_
  refine tq_r ?_
  refine fin_ret1 rfl rfl ?_
  · skip
    refine ⟨congrArg Value.bool ?_, X⟩
    first
    | (rw [risesB, hi, drop_end hk, rises_nil])
    | (rw [risesB, hi, dx, rises_bad0 (by assumption)])
    | (rw [risesB, hi, dx, rises_bad0 (by simp [inB]; omega)])
    | (rw [risesB, hi, dx, prevG_pos ‹_› hy, rises_bad1 (by omega)])
  refine f_qw rfl rfl rfl (fun wq sq => ow_pick rfl rfl ⟨rfl, Ext.refl _⟩) ?_
  refine f_q rfl (fun wq sq => ow_pick rfl rfl ⟨rfl, Ext.refl _⟩) ?_
  refine f_nil (fun w6 sq => ?_)
  have xq := sq
  replace hs := hs.ext xq
  replace X := Ext.trans X xq; clear xq sq
  refine ops_nil ?_
  refine c_false rfl ?_
  refine c_skip ?_
  refine bq_n ?_
  refine tq_n ?_
  refine c_region ?_
  refine ops_cons rfl (ow_move rfl ?_)
  refine ops_cons rfl (ow_add rfl rfl (w64 (by omega)) ?_)
  refine ops_cons rfl (ow_assign rfl ?_)
  refine ops_nil ?_
  refine tq_n ⟨k + 1, (.cons rfl (.cons rfl (.cons rfl (.nil _)))), ?_, ?_⟩
  · skip
    exact ⟨by omega, (by
      rw [hi, dx, prevG_succ hx]
      have hB : inB x 0 (n - 1) = true := by first | assumption | (rw [inB_iff]; omega)
      first | rw [prevG_zero ‹_›, rises_ok0 hB] | rw [prevG_pos ‹_› hy, rises_ok1 hB (by omega)]), hs, X⟩
  · first | omega | (dsimp only; omega)
  refine f_qw rfl rfl rfl (fun wq sq => ow_move rfl ⟨rfl, Ext.refl _⟩) ?_
  refine f_qs rfl rfl rfl rfl ?_
  refine f_qs rfl rfl rfl rfl ?_
  refine f_qs rfl rfl rfl rfl ?_
  refine f_qs rfl rfl rfl rfl ?_
  refine f_qs rfl rfl rfl rfl ?_
  refine f_qs rfl rfl rfl rfl ?_
  refine f_qs rfl rfl rfl rfl ?_
  refine f_qs rfl rfl rfl rfl ?_
  refine f_qs rfl rfl rfl rfl ?_
  refine f_qs rfl rfl rfl rfl ?_
  refine f_qw rfl rfl rfl (fun wq sq => ow_pick rfl rfl ⟨rfl, Ext.refl _⟩) ?_
  refine f_q rfl (fun wq sq => ow_pick rfl rfl ⟨rfl, Ext.refl _⟩) ?_
  refine f_nil (fun w7 sq => ?_)
  have xq := sq
  replace hs := hs.ext xq
  replace X := Ext.trans X xq; clear xq sq
  refine ops_nil ?_
  refine c_false rfl ?_
  refine c_skip ?_
  refine bq_n ?_
  refine tq_n ?_
  refine c_region ?_
  refine ops_cons rfl (ow_move rfl ?_)
  refine ops_cons rfl (ow_add rfl rfl (w64 (by omega)) ?_)
  refine ops_cons rfl (ow_assign rfl ?_)
  refine ops_nil ?_
  refine tq_n ⟨k + 1, (.cons rfl (.cons rfl (.cons rfl (.nil _)))), ?_, ?_⟩
  · skip
    exact ⟨by omega, (by
      rw [hi, dx, prevG_succ hx]
      have hB : inB x 0 (n - 1) = true := by first | assumption | (rw [inB_iff]; omega)
      first | rw [prevG_zero ‹_›, rises_ok0 hB] | rw [prevG_pos ‹_› hy, rises_ok1 hB (by omega)]), hs, X⟩
  · first | omega | (dsimp only; omega)
  refine f_q rfl (fun wq sq => ow_not rfl ⟨rfl, Ext.refl _⟩) ?_
  refine f_q rfl (fun wq sq => ow_move rfl ⟨rfl, Ext.refl _⟩) ?_
  refine f_qs rfl rfl rfl rfl ?_
  refine f_qs rfl rfl rfl rfl ?_
  refine f_qs rfl rfl rfl rfl ?_
  refine f_qs rfl rfl rfl rfl ?_
  refine f_qs rfl rfl rfl rfl ?_
  refine f_qs rfl rfl rfl rfl ?_
  refine f_qs rfl rfl rfl rfl ?_
  refine f_qs rfl rfl rfl rfl ?_
  refine f_qs rfl rfl rfl rfl ?_
  refine f_qs rfl rfl rfl rfl ?_
  refine f_qs rfl rfl rfl rfl ?_
  refine f_qs rfl rfl rfl rfl ?_
  refine f_qs rfl rfl rfl rfl ?_
  refine f_qs rfl rfl rfl rfl ?_
  refine f_q rfl (fun wq sq => ow_pick rfl rfl ⟨rfl, Ext.refl _⟩) ?_
  refine f_nil (fun w9 sq => ?_)
  have xq := sq
  replace hs := hs.ext xq
  replace X := Ext.trans X xq; clear xq sq
  refine ops_nil ?_
  refine c_true rfl ?_
  refine c_seqR ?_
  refine ops_cons rfl (ow_assign rfl ?_)
  refine ops_nil ?_
  refine c_ret ?_
  refine bq_r ?_
  refine tq_r ?_
  refine tq_r ?_
  refine bq_r ?_
  refine tq_r ?_
  refine fin_ret1 rfl rfl ?_
  · skip
    refine ⟨congrArg Value.bool ?_, X⟩
    first
    | (rw [risesB, hi, drop_end hk, rises_nil])
    | (rw [risesB, hi, dx, rises_bad0 (by assumption)])
    | (rw [risesB, hi, dx, rises_bad0 (by simp [inB]; omega)])
    | (rw [risesB, hi, dx, prevG_pos ‹_› hy, rises_bad1 (by omega)])
  refine ops_nil ?_
  refine c_false rfl ?_
  refine c_exit ?_
  refine tq_e ?_
  refine tq_e ?_
  refine bq_e ?_
  refine tq_n ?_
  refine c_seqR ?_
  refine ops_cons rfl (ow_assign rfl ?_)
  refine ops_nil ?_
  refine c_ret ?_
  refine fin_ret1 rfl rfl ?_
  · skip
    refine ⟨congrArg Value.bool ?_, X⟩
    first
    | (rw [risesB, hi, drop_end hk, rises_nil])
    | (rw [risesB, hi, dx, rises_bad0 (by assumption)])
    | (rw [risesB, hi, dx, rises_bad0 (by simp [inB]; omega)])
    | (rw [risesB, hi, dx, prevG_pos ‹_› hy, rises_bad1 (by omega)])

theorem isRising_c (A : Option Addr) (B c : Nat) (xs : List Int) (n : Int) (w : World) (hs : Sl B w A (xs.flatMap eI)) (hl : xs.length ≤ 1048576) (hn : 0 ≤ n ∧ n ≤ 1048576) :
    Calls Tryz.prog 236 #[.slice A xs.length c, .int .i64 n] w (Ret fun v w' => v = .bool (risesB xs n) ∧ Ext w w') := by
  have Bhs := hs.1
  have X := Ext.refl w
  refine calls_of (args := [.slice A xs.length c, .int .i64 n]) Tryz.func236 Tryz.ntmps236 rfl rfl ?_
  refine c_seqR ?_
  refine ops_cons rfl (ow_assign rfl ?_)
  refine ops_nil ?_
  refine c_seq ?_
  refine c_seqR ?_
  refine ops_cons rfl (ow_move rfl ?_)
  refine ops_cons rfl (ow_len Tryz.underlying30 rfl ?_)
  refine ops_cons rfl (ow_move rfl ?_)
  refine ops_nil ?_
  refine c_block ?_
  refine c_loop (G := Nat) (fun k => [(0, .slice A xs.length c), (1, .int .i64 n), (7, .slice A xs.length c), (8, .int .i64 (xs.length : Nat)), (9, .int .i64 (k : Nat))]) (fun k wr => k ≤ xs.length ∧ risesFrom n none xs = risesFrom n (prevG xs k) (xs.drop k) ∧ Sl B wr A (xs.flatMap eI) ∧ Ext w wr) (fun k => xs.length - k) 0 (.cons rfl (.cons rfl (.cons rfl (.cons rfl (.cons rfl (.nil _)))))) ?_ ?_
  · exact ⟨by omega, rfl, hs, X⟩
  clear hs
  clear X
  rintro k wr ⟨hk0, hi, hs, X⟩
  refine c_seqR ?_
  refine ops_cons rfl (ow_lss2 rfl rfl (fun hk => ?_) (fun hk => ?_))
  obtain ⟨x, hx, dx⟩ := drop_at' hk
  refine ops_nil ?_
  refine c_seq ?_
  refine c_true rfl ?_
  refine c_skip ?_
  refine tq_n ?_
  refine c_seq ?_
  refine c_block ?_
  refine c_seqR ?_
  refine ops_cons rfl (ow_move rfl ?_)
  refine ops_cons rfl (ow_indexT hs eI_len rfl el30 rfl rfl rfl hx rfl ?_)
  refine ops_cons rfl (ow_loadT hs eI_len hx ti2 rfl rfl rfl ?_)
  refine ops_cons rfl (ow_assign rfl ?_)
  refine ops_cons rfl (ow_assign rfl ?_)
  refine ops_nil ?_
  refine c_seqR ?_
  refine ops_cons rfl (ow_move rfl ?_)
  refine ops_cons rfl (ow_lss2 rfl rfl (fun h1 => ?_) (fun h1 => ?_))
  refine ops_cons rfl (ow_move rfl ?_)
  refine ops_skip rfl rfl rfl rfl ?_
  refine ops_skip rfl rfl rfl rfl ?_
  refine ops_skip rfl rfl rfl rfl ?_
  refine ops_cons rfl (ow_pick rfl rfl ?_)
  refine ops_cons rfl (ow_move rfl ?_)
  refine ops_skip rfl rfl rfl rfl ?_
  refine ops_skip rfl rfl rfl rfl ?_
  refine ops_skip rfl rfl rfl rfl ?_
  refine ops_skip2 rfl rfl rfl ?_
  refine ops_skip2 rfl rfl rfl ?_
  refine ops_skip2 rfl rfl rfl ?_
  refine ops_skip2 rfl rfl rfl ?_
  refine ops_skip2 rfl rfl rfl ?_
  refine ops_skip2 rfl rfl rfl ?_
  refine ops_skip2 rfl rfl rfl ?_
  refine ops_skip rfl rfl rfl rfl ?_
  refine ops_cons rfl (ow_pick rfl rfl ?_)
  refine ops_nil ?_
  refine c_true rfl ?_
  refine c_seqR ?_
  refine ops_cons rfl (ow_assign rfl ?_)
  refine ops_nil ?_
  refine c_ret ?_
  refine bq_r ?_
  refine tq_r ?_
  refine tq_r ?_
  refine bq_r ?_
  refine tq_r ?_
  refine fin_ret1 rfl rfl ?_
  · skip
    refine ⟨congrArg Value.bool ?_, X⟩
    first
    | (rw [risesB, hi, drop_end hk, rises_nil])
    | (rw [risesB, hi, dx, rises_bad0 (by assumption)])
    | (rw [risesB, hi, dx, rises_bad0 (by simp [inB]; omega)])
    | (rw [risesB, hi, dx, prevG_pos ‹_› hy, rises_bad1 (by omega)])
  refine ops_cons rfl (ow_move rfl ?_)
  refine ops_want rfl rfl rfl (ow_move rfl ?_)
  refine ops_want rfl rfl rfl (ow_move rfl ?_)
  refine ops_want rfl rfl rfl (ow_geq2 rfl rfl (fun h2 => ?_) (fun h2 => ?_))
  refine ops_cons rfl (ow_pick rfl rfl ?_)
  refine ops_cons rfl (ow_move rfl ?_)
  refine ops_skip rfl rfl rfl rfl ?_
  refine ops_skip rfl rfl rfl rfl ?_
  refine ops_skip rfl rfl rfl rfl ?_
  refine ops_skip2 rfl rfl rfl ?_
  refine ops_skip2 rfl rfl rfl ?_
  refine ops_skip2 rfl rfl rfl ?_
  refine ops_skip2 rfl rfl rfl ?_
  refine ops_skip2 rfl rfl rfl ?_
  refine ops_skip2 rfl rfl rfl ?_
  refine ops_skip2 rfl rfl rfl ?_
  refine ops_skip rfl rfl rfl rfl ?_
  refine ops_cons rfl (ow_pick rfl rfl ?_)
  refine ops_nil ?_
  refine c_true rfl ?_
  refine c_seqR ?_
  refine ops_cons rfl (ow_assign rfl ?_)
  refine ops_nil ?_
  refine c_ret ?_
  refine bq_r ?_
  refine tq_r ?_
  refine tq_r ?_
  refine bq_r ?_
  refine tq_r ?_
  refine fin_ret1 rfl rfl ?_
  · skip
    refine ⟨congrArg Value.bool ?_, X⟩
    first
    | (rw [risesB, hi, drop_end hk, rises_nil])
    | (rw [risesB, hi, dx, rises_bad0 (by assumption)])
    | (rw [risesB, hi, dx, rises_bad0 (by simp [inB]; omega)])
    | (rw [risesB, hi, dx, prevG_pos ‹_› hy, rises_bad1 (by omega)])
  refine ops_cons rfl (ow_pick rfl rfl ?_)
  refine ops_cons rfl (ow_move rfl ?_)
  refine ops_want rfl rfl rfl (ow_move rfl ?_)
  refine ops_want rfl rfl rfl (ow_gtr2 rfl rfl (fun hp => ?_) (fun hp => ?_))
  obtain ⟨y, hy⟩ : ∃ y, xs[k - 1]? = some y := ⟨_, List.getElem?_eq_getElem (by omega)⟩
  refine ops_want rfl rfl rfl (ow_move rfl ?_)
  refine ops_want rfl rfl rfl (ow_move rfl ?_)
  refine ops_want rfl rfl rfl (ow_move rfl ?_)
  refine ops_want rfl rfl rfl (ow_sub rfl rfl (w64 (by omega)) ?_)
  refine ops_want rfl rfl rfl (ow_indexT hs eI_len rfl el30 rfl rfl rfl hy (by omega) ?_)
  refine ops_want rfl rfl rfl (ow_loadT hs eI_len hy ti2 rfl rfl rfl ?_)
  refine ops_want rfl rfl rfl (ow_move rfl ?_)
  refine ops_want rfl rfl rfl (ow_geq2 rfl rfl (fun h3 => ?_) (fun h3 => ?_))
  refine ops_want rfl rfl rfl (ow_pick rfl rfl ?_)
  refine ops_cons rfl (ow_pick rfl rfl ?_)
  refine ops_nil ?_
  refine c_true rfl ?_
  refine c_seqR ?_
  refine ops_cons rfl (ow_assign rfl ?_)
  refine ops_nil ?_
  refine c_ret ?_
  refine bq_r ?_
  refine tq_r ?_
  refine tq_r ?_
  refine bq_r ?_
  refine tq_r ?_
  refine fin_ret1 rfl rfl ?_
  · skip
    refine ⟨congrArg Value.bool ?_, X⟩
    first
    | (rw [risesB, hi, drop_end hk, rises_nil])
    | (rw [risesB, hi, dx, rises_bad0 (by assumption)])
    | (rw [risesB, hi, dx, rises_bad0 (by simp [inB]; omega)])
    | (rw [risesB, hi, dx, prevG_pos ‹_› hy, rises_bad1 (by omega)])
  refine ops_want rfl rfl rfl (ow_pick rfl rfl ?_)
  refine ops_cons rfl (ow_pick rfl rfl ?_)
  refine ops_nil ?_
  refine c_false rfl ?_
  refine c_skip ?_
  refine bq_n ?_
  refine tq_n ?_
  refine c_region ?_
  refine ops_cons rfl (ow_add rfl rfl (w64 (by omega)) ?_)
  refine ops_cons rfl (ow_move rfl ?_)
  refine ops_nil ?_
  refine tq_n ⟨k + 1, (.cons rfl (.cons rfl (.cons rfl (.cons rfl (.cons rfl (.nil _)))))), ?_, ?_⟩
  · skip
    exact ⟨by omega, (by
      rw [hi, dx, prevG_succ hx]
      have hB : inB x 0 (n - 1) = true := by first | assumption | (rw [inB_iff]; omega)
      first | rw [prevG_zero ‹_›, rises_ok0 hB] | rw [prevG_pos ‹_› hy, rises_ok1 hB (by omega)]), hs, X⟩
  · first | omega | (dsimp only; omega)
  refine ops_want rfl rfl rfl (ow_move rfl ?_)
  refine ops_skip rfl rfl rfl rfl ?_
  refine ops_skip rfl rfl rfl rfl ?_
  refine ops_skip rfl rfl rfl rfl ?_
  refine ops_skip rfl rfl rfl rfl ?_
  refine ops_skip rfl rfl rfl rfl ?_
  refine ops_skip rfl rfl rfl rfl ?_
  refine ops_skip rfl rfl rfl rfl ?_
  refine ops_want rfl rfl rfl (ow_pick rfl rfl ?_)
  refine ops_cons rfl (ow_pick rfl rfl ?_)
  refine ops_nil ?_
  refine c_false rfl ?_
  refine c_skip ?_
  refine bq_n ?_
  refine tq_n ?_
  refine c_region ?_
  refine ops_cons rfl (ow_add rfl rfl (w64 (by omega)) ?_)
  refine ops_cons rfl (ow_move rfl ?_)
  refine ops_nil ?_
  refine tq_n ⟨k + 1, (.cons rfl (.cons rfl (.cons rfl (.cons rfl (.cons rfl (.nil _)))))), ?_, ?_⟩
  · skip
    exact ⟨by omega, (by
      rw [hi, dx, prevG_succ hx]
      have hB : inB x 0 (n - 1) = true := by first | assumption | (rw [inB_iff]; omega)
      first | rw [prevG_zero ‹_›, rises_ok0 hB] | rw [prevG_pos ‹_› hy, rises_ok1 hB (by omega)]), hs, X⟩
  · first | omega | (dsimp only; omega)
  refine ops_nil ?_
  refine c_seq ?_
  refine c_false rfl ?_
  refine c_exit ?_
  refine tq_e ?_
  refine tq_e ?_
  refine bq_e ?_
  refine tq_n ?_
  refine c_seqR ?_
  refine ops_cons rfl (ow_assign rfl ?_)
  refine ops_nil ?_
  refine c_ret ?_
  refine fin_ret1 rfl rfl ?_
  · skip
    refine ⟨congrArg Value.bool ?_, X⟩
    first
    | (rw [risesB, hi, drop_end hk, rises_nil])
    | (rw [risesB, hi, dx, rises_bad0 (by assumption)])
    | (rw [risesB, hi, dx, rises_bad0 (by simp [inB]; omega)])
    | (rw [risesB, hi, dx, prevG_pos ‹_› hy, rises_bad1 (by omega)])

theorem l01Has_c (A : Option Addr) (B c : Nat) (xs : List Int) (n : Int) (w : World) (hs : Sl B w A (xs.flatMap eI)) (hl : xs.length ≤ 1048576) :
    Calls Tryz.prog 99 #[.slice A xs.length c, .int .i64 n] w (Ret fun v w' => v = .bool (hasB xs n) ∧ Ext w w') := by
  have Bhs := hs.1
  have X := Ext.refl w
  refine calls_of (args := [.slice A xs.length c, .int .i64 n]) Tryz.func99 Tryz.ntmps99 rfl rfl ?_
  refine c_seqR ?_
  refine ops_cons rfl (ow_assign rfl ?_)
  refine ops_nil ?_
  refine c_seq ?_
  refine c_seqR ?_
  refine ops_cons rfl (ow_assign rfl ?_)
  refine ops_nil ?_
  refine c_block ?_
  refine c_loop (G := Nat) (fun k => [(0, .slice A xs.length c), (1, .int .i64 n), (5, .int .i64 (k : Nat))]) (fun k wr => k ≤ xs.length ∧ hasB xs n = hasB (xs.drop k) n ∧ Sl B wr A (xs.flatMap eI) ∧ Ext w wr) (fun k => xs.length - k) 0 (.cons rfl (.cons rfl (.cons rfl (.nil _)))) ?_ ?_
  · exact ⟨by omega, rfl, hs, X⟩
  clear hs
  clear X
  rintro k wr ⟨hk0, hi, hs, X⟩
  refine c_seq ?_
  refine c_seqR ?_
  refine ops_cons rfl (ow_move rfl ?_)
  refine ops_cons rfl (ow_move rfl ?_)
  refine ops_cons rfl (ow_len Tryz.underlying30 rfl ?_)
  refine ops_cons rfl (ow_lss2 rfl rfl (fun hk => ?_) (fun hk => ?_))
  obtain ⟨x, hx, dx⟩ := drop_at' hk
  refine ops_nil ?_
  refine c_true rfl ?_
  refine c_skip ?_
  refine tq_n ?_
  refine c_seq ?_
  refine c_block ?_
  refine c_seqR ?_
  refine ops_cons rfl (ow_move rfl ?_)
  refine ops_cons rfl (ow_move rfl ?_)
  refine ops_cons rfl (ow_indexT hs eI_len rfl el30 rfl rfl rfl hx rfl ?_)
  refine ops_cons rfl (ow_loadT hs eI_len hx ti2 rfl rfl rfl ?_)
  refine ops_cons rfl (ow_move rfl ?_)
  refine ops_cons rfl (ow_eql2 rfl rfl (fun h1 => ?_) (fun h1 => ?_))
  refine ops_nil ?_
  refine c_true rfl ?_
  refine c_seqR ?_
  refine ops_cons rfl (ow_assign rfl ?_)
  refine ops_nil ?_
  refine c_ret ?_
  refine bq_r ?_
  refine tq_r ?_
  refine tq_r ?_
  refine bq_r ?_
  refine tq_r ?_
  refine fin_ret1 rfl rfl ?_
  · skip
    refine ⟨congrArg Value.bool ?_, X⟩
    first | (rw [hi, drop_end hk]; rfl) | (rw [hi, dx]; simp [hasB, *])
  refine ops_nil ?_
  refine c_false rfl ?_
  refine c_skip ?_
  refine bq_n ?_
  refine tq_n ?_
  refine c_region ?_
  refine ops_cons rfl (ow_move rfl ?_)
  refine ops_cons rfl (ow_add rfl rfl (w64 (by omega)) ?_)
  refine ops_cons rfl (ow_assign rfl ?_)
  refine ops_nil ?_
  refine tq_n ⟨k + 1, (.cons rfl (.cons rfl (.cons rfl (.nil _)))), ?_, ?_⟩
  · exact ⟨by omega, (by rw [hi, dx]; simp [hasB, *]), hs, X⟩
  · first | omega | (dsimp only; omega)
  refine ops_nil ?_
  refine c_false rfl ?_
  refine c_exit ?_
  refine tq_e ?_
  refine tq_e ?_
  refine bq_e ?_
  refine tq_n ?_
  refine c_seqR ?_
  refine ops_cons rfl (ow_assign rfl ?_)
  refine ops_nil ?_
  refine c_ret ?_
  refine fin_ret1 rfl rfl ?_
  · skip
    refine ⟨congrArg Value.bool ?_, X⟩
    first | (rw [hi, drop_end hk]; rfl) | (rw [hi, dx]; simp [hasB, *])

theorem index_c (A : Option Addr) (B c : Nat) (xs : List Int) (n : Int) (w : World) (hs : Sl B w A (xs.flatMap eI)) (hl : xs.length ≤ 1048576) :
    Calls Tryz.prog 167 #[.slice A xs.length c, .int .i64 n] w (Ret fun v w' => v = .int .i64 (idxI n 0 xs) ∧ Ext w w') := by
  have Bhs := hs.1
  have X := Ext.refl w
  refine calls_of (args := [.slice A xs.length c, .int .i64 n]) Tryz.func167 Tryz.ntmps167 rfl rfl ?_
  refine c_seqR ?_
  refine ops_cons rfl (ow_assign rfl ?_)
  refine ops_nil ?_
  refine c_seq ?_
  refine c_seqR ?_
  refine ops_cons rfl (ow_move rfl ?_)
  refine ops_cons rfl (ow_len Tryz.underlying30 rfl ?_)
  refine ops_cons rfl (ow_move rfl ?_)
  refine ops_nil ?_
  refine c_block ?_
  refine c_loop (G := Nat) (fun k => [(0, .slice A xs.length c), (1, .int .i64 n), (7, .int .i64 (xs.length : Nat)), (8, .int .i64 (k : Nat))]) (fun k wr => k ≤ xs.length ∧ idxI n 0 xs = idxI n k (xs.drop k) ∧ Sl B wr A (xs.flatMap eI) ∧ Ext w wr) (fun k => xs.length - k) 0 (.cons rfl (.cons rfl (.cons rfl (.cons rfl (.nil _))))) ?_ ?_
  · exact ⟨by omega, rfl, hs, X⟩
  clear hs
  clear X
  rintro k wr ⟨hk0, hi, hs, X⟩
  refine c_seqR ?_
  refine ops_cons rfl (ow_lss2 rfl rfl (fun hk => ?_) (fun hk => ?_))
  obtain ⟨x, hx, dx⟩ := drop_at' hk
  refine ops_nil ?_
  refine c_seq ?_
  refine c_true rfl ?_
  refine c_skip ?_
  refine tq_n ?_
  refine c_seq ?_
  refine c_block ?_
  refine c_seqR ?_
  refine ops_cons rfl (ow_move rfl ?_)
  refine ops_cons rfl (ow_assign rfl ?_)
  refine ops_nil ?_
  refine c_seqR ?_
  refine ops_cons rfl (ow_move rfl ?_)
  refine ops_cons rfl (ow_move rfl ?_)
  refine ops_cons rfl (ow_move rfl ?_)
  refine ops_cons rfl (ow_indexT hs eI_len rfl el30 rfl rfl rfl hx rfl ?_)
  refine ops_cons rfl (ow_loadT hs eI_len hx ti2 rfl rfl rfl ?_)
  refine ops_cons rfl (ow_eql2 rfl rfl (fun h1 => ?_) (fun h1 => ?_))
  refine ops_nil ?_
  refine c_true rfl ?_
  refine c_seqR ?_
  refine ops_cons rfl (ow_move rfl ?_)
  refine ops_cons rfl (ow_assign rfl ?_)
  refine ops_nil ?_
  refine c_ret ?_
  refine bq_r ?_
  refine tq_r ?_
  refine tq_r ?_
  refine bq_r ?_
  refine tq_r ?_
  refine fin_ret1 rfl rfl ?_
  · skip
    refine ⟨congrArg (Value.int .i64) ?_, X⟩
    first | (rw [hi, drop_end hk]; rfl) | (rw [hi, dx, idxI, if_pos (by omega)])
  refine ops_nil ?_
  refine c_false rfl ?_
  refine c_skip ?_
  refine bq_n ?_
  refine tq_n ?_
  refine c_region ?_
  refine ops_cons rfl (ow_add rfl rfl (w64 (by omega)) ?_)
  refine ops_cons rfl (ow_move rfl ?_)
  refine ops_nil ?_
  refine tq_n ⟨k + 1, (.cons rfl (.cons rfl (.cons rfl (.cons rfl (.nil _))))), ?_, ?_⟩
  · exact ⟨by omega, (by rw [hi, dx, idxI, if_neg (by omega)]; rfl), hs, X⟩
  · first | omega | (dsimp only; omega)
  refine ops_nil ?_
  refine c_seq ?_
  refine c_false rfl ?_
  refine c_exit ?_
  refine tq_e ?_
  refine tq_e ?_
  refine bq_e ?_
  refine tq_n ?_
  refine c_seqR ?_
  refine ops_cons rfl (ow_assign rfl ?_)
  refine ops_nil ?_
  refine c_ret ?_
  refine fin_ret1 rfl rfl ?_
  · skip
    refine ⟨congrArg (Value.int .i64) ?_, X⟩
    first | (rw [hi, drop_end hk]; rfl) | (rw [hi, dx, idxI, if_pos (by omega)])

theorem contains_c (A : Option Addr) (B c : Nat) (xs : List Int) (n : Int) (w : World) (hs : Sl B w A (xs.flatMap eI)) (hl : xs.length ≤ 1048576) :
    Calls Tryz.prog 83 #[.slice A xs.length c, .int .i64 n] w (Ret fun v w' => v = .bool (hasB xs n) ∧ Ext w w') := by
  have Bhs := hs.1
  have X := Ext.refl w
  refine calls_of (args := [.slice A xs.length c, .int .i64 n]) Tryz.func83 Tryz.ntmps83 rfl rfl ?_
  refine c_seqR ?_
  refine ops_cons rfl (ow_assign rfl ?_)
  refine ops_nil ?_
  refine c_seqR ?_
  refine ops_cons rfl (ow_move rfl ?_)
  refine ops_cons rfl (ow_move rfl ?_)
  refine ops_cons rfl (ow_call ent167 rfl (ret_mono (index_c _ _ _ _ _ _ hs hl) ?_))
  rintro _ w2 ⟨rfl, x1⟩
  replace hs := hs.ext x1
  replace X := Ext.trans X x1; clear x1
  refine ops_cons rfl (ow_geq rfl rfl ?_)
  refine ops_cons rfl (ow_assign rfl ?_)
  refine ops_nil ?_
  refine c_ret ?_
  refine fin_ret1 rfl rfl ?_
  exact ⟨congrArg Value.bool (idxI_has n xs 0 (by omega)), X⟩

end Go.Proofs.YtdoibplhbdkapaaGreatDoor
namespace Go.Proofs.YtdoibplhbdkapaaGreatDoor
open Go.RowKit
set_option linter.unusedVariables false
set_option linter.unusedSimpArgs false
set_option maxRecDepth 20000
theorem shl1 {z : Int} (h : 0 ≤ z ∧ z ≤ 1099511627776) : IntKind.i64.wrap (z * 2 ^ (min ((1 : Int).toNat) IntKind.i64.bits)) = z * 2 := by
  rw [show (2 : Int) ^ (min ((1 : Int).toNat) IntKind.i64.bits) = 2 from rfl]; exact w64 (by omega)
theorem shr_z {x z : Int} {j : Nat} (e : z = (j : Int)) (h : 0 ≤ x) (hj : j ≤ 63) : x.fdiv (2 ^ (min z.toNat IntKind.i64.bits)) = x / 2 ^ j := by subst e; exact shr_pow h hj
theorem wuz {n : Int} (h : 0 ≤ n ∧ n ≤ 9223372036854775807) : IntKind.u64.wrap n = n := by
  have h1 : n % 18446744073709551616 = n := by omega
  simp [IntKind.wrap, IntKind.bits, IntKind.signed, h1]
theorem u8v {xs : List Int} (hb : ∀ x ∈ xs, 0 ≤ x ∧ x ≤ 255) {k : Nat} {x : Int} (h : xs[k]? = some x) : 0 ≤ x ∧ x ≤ 255 := hb x (List.mem_of_getElem? h)
theorem crc_eq {r x : Int} (h : 0 ≤ r ∧ r < 16777216) : crcS r x = if (x + r / 8388608) % 2 = 1 then xorC (r * 2 % 16777216) else r * 2 % 16777216 := by
  unfold crcS
  rw [show r * 2 % 16777216 = r % 8388608 * 2 by omega, Int.add_comm]
theorem Sl.takeI {B : Nat} {w : World} {A : Option Addr} {xs : List Int} (h : Sl B w A (xs.flatMap eI)) (k : Nat) : Sl B w A ((xs.take k).flatMap eI) := by
  have e := flat_take (enc := eI) eI_len xs k
  rw [Nat.mul_one] at e
  rw [← e]
  exact ⟨h.1, fun j v hj => by
    rw [List.getElem?_take] at hj
    split at hj
    · exact h.2 j v hj
    · cases hj⟩
theorem add_add_ (a : Addr) (i j : Nat) : (a.add i).add j = a.add (i + j) := by
  unfold Addr.add
  by_cases hi : i = 0 <;> by_cases hj : j = 0 <;> simp [hi, hj, Nat.add_assoc]
theorem Sl.dropI {B : Nat} {w : World} {A : Option Addr} {xs : List Int} (h : Sl B w A (xs.flatMap eI)) (k : Nat) : Sl B w (A.map (·.add k)) ((xs.drop k).flatMap eI) := by
  have e := flat_drop (enc := eI) eI_len xs k
  rw [Nat.mul_one] at e
  rw [← e]
  refine ⟨h.1, fun j v hj => ?_⟩
  rw [List.getElem?_drop] at hj
  obtain ⟨h1, h2, h3⟩ := h.2 _ v hj
  cases A with
  | none => cases h1
  | some a =>
    refine ⟨rfl, ?_, ?_⟩
    · show (a.add k).block < B
      rw [block_of_add]; exact h2
    · show w.cell? ((a.add k).add j) = some v
      rw [add_add_]; exact h3
theorem appNum_c (A : Option Addr) (lo n c : Nat) (cs : List Value) (x : Int) (w : World) (oA : Own w lo 2 1 A n c cs) (hlo : lo ≤ w.heap.size) (hx : 0 ≤ x ∧ x ≤ 255) (hn : n ≤ 16777216) :
    Calls Tryz.prog 257 #[.slice A n c, .int .i64 x, .int .i64 8] w (Ret fun v w' => ∃ A' c', v = .slice A' (n + 8) c' ∧ Own w' lo 2 1 A' (n + 8) c' (cs ++ (bitP x 8).flatMap eI) ∧ Below lo w w') := by
  have X := Below.refl lo w
  refine calls_of (args := [.slice A n c, .int .i64 x, .int .i64 8]) Tryz.func257 Tryz.ntmps257 rfl rfl ?_
  refine c_seqR ?_
  refine ops_cons rfl (ow_assign rfl ?_)
  refine ops_nil ?_
  refine c_seq ?_
  refine c_seqR ?_
  refine ops_cons rfl (ow_move rfl ?_)
  refine ops_cons rfl (ow_sub rfl rfl (show IntKind.i64.wrap (8 - 1) = 7 by decide) ?_)
  refine ops_cons rfl (ow_assign rfl ?_)
  refine ops_nil ?_
  refine c_block ?_
  refine c_loop (G := Nat × Int × Nat × Option Addr × Nat) (fun ⟨k, z, n1, A1, c1⟩ => [(1, .int .i64 x), (6, .slice none 0 0), (0, .slice A1 n1 c1), (7, .int .i64 z)]) (fun ⟨k, z, n1, A1, c1⟩ wr => k ≤ 8 ∧ z = 7 - (k : Int) ∧ n1 = n + k ∧ Own wr lo 2 1 A1 n1 c1 (cs ++ (bitP x k).flatMap eI) ∧ Below lo w wr) (fun ⟨k, z, n1, A1, c1⟩ => 8 - k) (0, 7, n, A, c) (.cons rfl (.cons rfl (.cons rfl (.cons rfl (.nil _))))) ?_ ?_
  · exact ⟨by omega, (by omega), rfl, (oA.to (by simp [bitP])), X⟩
  clear oA
  clear X
  rintro ⟨k, z, n1, A1, c1⟩ wr ⟨hk0, hz, hn1, oA, X⟩
  refine c_seq ?_
  refine c_seqR ?_
  refine ops_cons rfl (ow_move rfl ?_)
  refine ops_cons rfl (ow_geq2 rfl rfl (fun hk => ?_) (fun hk => ?_))
  refine ops_nil ?_
  refine c_true rfl ?_
  refine c_skip ?_
  refine tq_n ?_
  refine c_seq ?_
  refine c_block ?_
  refine c_region ?_
  refine ops_cons rfl (ow_move rfl ?_)
  refine ops_cons rfl (ow_move rfl ?_)
  refine ops_cons rfl (ow_move rfl ?_)
  refine ops_cons rfl (ow_shr rfl rfl (by omega) (shr_z (j := 7 - k) (by omega) hx.1 (by omega)) ?_)
  refine ops_cons rfl (ow_and rfl rfl (bit_shr (by omega) (by omega)) ?_)
  refine ops_cons rfl (ow_buildSlice el30 ti2 rfl rfl rfl rfl rfl ?_)
  intro g1 w3 eg1 oS bbg1 x2 zg1
  replace oS := Own.low oS (Nat.le_trans hlo X.size)
  replace oA := oA.ext x2
  replace X := Below.trans X (Below.mono x2 (Nat.le_trans hlo X.size)); clear x2
  refine ops_cons rfl (ow_append (ts := #[]) oA (Nat.le_trans hlo X.size) oS.sl rfl (one_ints [bitI x (7 - k)]) el30 ti2 rfl rfl rfl rfl (by omega) (by omega) ?_)
  intro AoN coN w5 oN hg4
  replace X := X.grown hg4 (Nat.le_trans hlo X.size) (fun g hg => (Own.lt oA hg).1)
  clear hg4
  refine ops_cons rfl (ow_assign rfl ?_)
  refine ops_nil ?_
  refine bq_n ?_
  refine tq_n ?_
  refine c_region ?_
  refine ops_cons rfl (ow_move rfl ?_)
  refine ops_cons rfl (ow_sub rfl rfl (w64 (by omega)) ?_)
  refine ops_cons rfl (ow_assign rfl ?_)
  refine ops_nil ?_
  refine tq_n ⟨(k + 1, z - 1, n1 + 1, AoN, coN), (.cons rfl (.cons rfl (.cons rfl (.cons rfl (.nil _))))), ?_, ?_⟩
  · exact ⟨by omega, (by omega), (by omega), (oN.to (by rw [bitP_step, List.flatMap_append, ← List.append_assoc]; rfl)), X⟩
  · first | omega | (dsimp only; omega)
  refine ops_nil ?_
  refine c_false rfl ?_
  refine c_exit ?_
  refine tq_e ?_
  refine tq_e ?_
  refine bq_e ?_
  refine tq_n ?_
  refine c_seqR ?_
  refine ops_cons rfl (ow_move rfl ?_)
  refine ops_cons rfl (ow_assign rfl ?_)
  refine ops_nil ?_
  refine c_ret ?_
  refine fin_ret1 rfl rfl ?_
  · skip
    have e : k = 8 := by omega
    subst e; subst hn1
    exact ⟨A1, c1, rfl, oA, X⟩

theorem toBits_c (A : Option Addr) (B c : Nat) (xs : List Int) (w : World) (hs : Sl B w A (xs.flatMap eI)) (hl : xs.length ≤ 1048576) (hb : ∀ x ∈ xs, 0 ≤ x ∧ x ≤ 255) :
    Calls Tryz.prog 223 #[.slice A xs.length c] w (Ret fun v w' => ∃ A' c', v = .slice A' (bitsL xs).length c' ∧ Own w' w.heap.size 2 1 A' (bitsL xs).length c' ((bitsL xs).flatMap eI) ∧ Ext w w') := by
  have Bhs := hs.1
  have X := Ext.refl w
  refine calls_of (args := [.slice A xs.length c]) Tryz.func223 Tryz.ntmps223 rfl rfl ?_
  refine c_seqR ?_
  refine ops_cons rfl (ow_assign rfl ?_)
  refine ops_nil ?_
  refine c_seqR ?_
  refine ops_cons rfl (ow_buildSlice el30 ti2 rfl rfl rfl rfl rfl ?_)
  intro gO w2 egO oO bbgO x1 zgO
  replace oO := Own.low oO X.size
  replace hs := hs.ext x1
  replace X := Ext.trans X x1; clear x1
  refine ops_cons rfl (ow_assign rfl ?_)
  refine ops_nil ?_
  refine c_seq ?_
  refine c_seqR ?_
  refine ops_cons rfl (ow_move rfl ?_)
  refine ops_cons rfl (ow_len Tryz.underlying30 rfl ?_)
  refine ops_cons rfl (ow_move rfl ?_)
  refine ops_nil ?_
  refine c_block ?_
  refine c_loop (G := Nat × Nat × Option Addr × Nat) (fun ⟨k, n1, A1, c1⟩ => [(2, .slice none 0 0), (7, .slice A xs.length c), (8, .int .i64 (xs.length : Nat)), (3, .slice A1 n1 c1), (9, .int .i64 (k : Nat))]) (fun ⟨k, n1, A1, c1⟩ wr => k ≤ xs.length ∧ n1 = (bitsL (xs.take k)).length ∧ Own wr w.heap.size 2 1 A1 n1 c1 ((bitsL (xs.take k)).flatMap eI) ∧ Sl B wr A (xs.flatMap eI) ∧ Ext w wr) (fun ⟨k, n1, A1, c1⟩ => xs.length - k) (0, 0, some ⟨gO, 0, none⟩, 0) (.cons rfl (.cons rfl (.cons rfl (.cons rfl (.cons rfl (.nil _)))))) ?_ ?_
  · exact ⟨by omega, rfl, oO, hs, X⟩
  clear hs oO
  clear X
  rintro ⟨k, n1, A1, c1⟩ wr ⟨hk0, hn1, oO, hs, X⟩
  refine c_seqR ?_
  refine ops_cons rfl (ow_lss2 rfl rfl (fun hk => ?_) (fun hk => ?_))
  obtain ⟨x, hx, dx⟩ := drop_at' hk
  refine ops_nil ?_
  refine c_seq ?_
  refine c_true rfl ?_
  refine c_skip ?_
  refine tq_n ?_
  refine c_seq ?_
  refine c_block ?_
  refine c_seqR ?_
  refine ops_cons rfl (ow_indexT hs eI_len rfl el30 rfl rfl rfl hx rfl ?_)
  refine ops_cons rfl (ow_loadT hs eI_len hx ti2 rfl rfl rfl ?_)
  refine ops_cons rfl (ow_assign rfl ?_)
  refine ops_nil ?_
  refine c_region ?_
  refine ops_cons rfl (ow_move rfl ?_)
  refine ops_cons rfl (ow_move rfl ?_)
  have hxb := u8v hb hx
  have hn2 := bitsL_len (xs.take k)
  rw [List.length_take] at hn2
  refine ops_cons rfl (ow_call ent257 rfl (ret_mono (appNum_c A1 w.heap.size n1 c1 _ x _ oO X.size hxb (by omega)) ?_))
  rintro _ wB ⟨A2, c2, rfl, oN, xB⟩
  replace hs := hs.below (Below.mono xB Bhs)
  replace X := Below.trans X xB; clear xB oO
  refine ops_cons rfl (ow_assign rfl ?_)
  refine ops_nil ?_
  refine bq_n ?_
  refine tq_n ?_
  refine c_region ?_
  refine ops_cons rfl (ow_add rfl rfl (w64 (by omega)) ?_)
  refine ops_cons rfl (ow_move rfl ?_)
  refine ops_nil ?_
  refine tq_n ⟨(k + 1, n1 + 8, A2, c2), (.cons rfl (.cons rfl (.cons rfl (.cons rfl (.cons rfl (.nil _)))))), ?_, ?_⟩
  · exact ⟨by omega, (by rw [bitsL_step hx, List.length_append, bitP_len, hn1]), (oN.to (by rw [bitsL_step hx, List.flatMap_append])), hs, X⟩
  · first | omega | (dsimp only; omega)
  refine ops_nil ?_
  refine c_seq ?_
  refine c_false rfl ?_
  refine c_exit ?_
  refine tq_e ?_
  refine tq_e ?_
  refine bq_e ?_
  refine tq_n ?_
  refine c_seqR ?_
  refine ops_cons rfl (ow_move rfl ?_)
  refine ops_cons rfl (ow_assign rfl ?_)
  refine ops_nil ?_
  refine c_ret ?_
  refine fin_ret1 rfl rfl ?_
  · skip
    rw [show k = xs.length by omega, List.take_length] at oO hn1
    rw [← hn1]; exact ⟨A1, c1, rfl, oO, X⟩

theorem l01Bits_c (A : Option Addr) (B c : Nat) (xs : List Int) (w : World) (hs : Sl B w A (xs.flatMap eI)) (hl : xs.length ≤ 1048576) (hb : ∀ x ∈ xs, 0 ≤ x ∧ x ≤ 255) :
    Calls Tryz.prog 235 #[.slice A xs.length c] w (Ret fun v w' => ∃ A' c', v = .slice A' (bitsL xs).length c' ∧ Own w' w.heap.size 2 1 A' (bitsL xs).length c' ((bitsL xs).flatMap eI) ∧ Ext w w') := by
  have Bhs := hs.1
  have X := Ext.refl w
  refine calls_of (args := [.slice A xs.length c]) Tryz.func235 Tryz.ntmps235 rfl rfl ?_
  refine c_seqR ?_
  refine ops_cons rfl (ow_assign rfl ?_)
  refine ops_nil ?_
  refine c_seqR ?_
  refine ops_cons rfl (ow_buildSlice el30 ti2 rfl rfl rfl rfl rfl ?_)
  intro gO w2 egO oO bbgO x1 zgO
  replace oO := Own.low oO X.size
  replace hs := hs.ext x1
  replace X := Ext.trans X x1; clear x1
  refine ops_cons rfl (ow_assign rfl ?_)
  refine ops_nil ?_
  refine c_seq ?_
  refine c_seqR ?_
  refine ops_cons rfl (ow_assign rfl ?_)
  refine ops_nil ?_
  refine c_block ?_
  refine c_loop (G := Nat × Nat × Option Addr × Nat) (fun ⟨k, n1, A1, c1⟩ => [(0, .slice A xs.length c), (2, .slice none 0 0), (3, .slice A1 n1 c1), (4, .int .i64 (k : Nat))]) (fun ⟨k, n1, A1, c1⟩ wr => k ≤ xs.length ∧ n1 = (bitsL (xs.take k)).length ∧ Own wr w.heap.size 2 1 A1 n1 c1 ((bitsL (xs.take k)).flatMap eI) ∧ Sl B wr A (xs.flatMap eI) ∧ Ext w wr) (fun ⟨k, n1, A1, c1⟩ => xs.length - k) (0, 0, some ⟨gO, 0, none⟩, 0) (.cons rfl (.cons rfl (.cons rfl (.cons rfl (.nil _))))) ?_ ?_
  · exact ⟨by omega, rfl, oO, hs, X⟩
  clear hs oO
  clear X
  rintro ⟨k, n1, A1, c1⟩ wr ⟨hk0, hn1, oO, hs, X⟩
  refine c_seq ?_
  refine c_seqR ?_
  refine ops_cons rfl (ow_move rfl ?_)
  refine ops_cons rfl (ow_move rfl ?_)
  refine ops_cons rfl (ow_len Tryz.underlying30 rfl ?_)
  refine ops_cons rfl (ow_lss2 rfl rfl (fun hk => ?_) (fun hk => ?_))
  obtain ⟨x, hx, dx⟩ := drop_at' hk
  have hxb := u8v hb hx
  have hn2 := bitsL_len (xs.take k)
  rw [List.length_take] at hn2
  refine ops_nil ?_
  refine c_true rfl ?_
  refine c_skip ?_
  refine tq_n ?_
  refine c_seq ?_
  refine c_block ?_
  refine c_seqR ?_
  refine ops_cons rfl (ow_assign rfl ?_)
  refine ops_nil ?_
  refine c_block ?_
  refine c_loop (G := Nat × Int × Nat × Option Addr × Nat) (fun ⟨j, z, n2, A2, c2⟩ => [(0, .slice A xs.length c), (2, .slice none 0 0), (4, .int .i64 (k : Nat)), (7, .int .i64 (k : Nat)), (8, .slice A xs.length c), (9, .int .i64 (xs.length : Nat)), (3, .slice A2 n2 c2), (5, .int .i64 z)]) (fun ⟨j, z, n2, A2, c2⟩ wr => j ≤ 8 ∧ z = 7 - (j : Int) ∧ n2 = n1 + j ∧ Own wr w.heap.size 2 1 A2 n2 c2 (((bitsL (xs.take k)) ++ bitP x j).flatMap eI) ∧ Sl B wr A (xs.flatMap eI) ∧ Ext w wr) (fun ⟨j, z, n2, A2, c2⟩ => 8 - j) (0, 7, n1, A1, c1) (.cons rfl (.cons rfl (.cons rfl (.cons rfl (.cons rfl (.cons rfl (.cons rfl (.cons rfl (.nil _))))))))) ?_ ?_
  · exact ⟨by omega, (by omega), rfl, (oO.to (by simp [bitP])), hs, X⟩
  clear oO hs
  clear X
  rintro ⟨j, z, n2, A2, c2⟩ wr ⟨hj0, hz, hn3, oP, hs, X⟩
  refine c_seq ?_
  refine c_seqR ?_
  refine ops_cons rfl (ow_move rfl ?_)
  refine ops_cons rfl (ow_geq2 rfl rfl (fun hj => ?_) (fun hj => ?_))
  refine ops_nil ?_
  refine c_true rfl ?_
  refine c_skip ?_
  refine tq_n ?_
  refine c_seq ?_
  refine c_block ?_
  refine c_region ?_
  refine ops_cons rfl (ow_move rfl ?_)
  refine ops_cons rfl (ow_move rfl ?_)
  refine ops_cons rfl (ow_move rfl ?_)
  refine ops_cons rfl (ow_indexT hs eI_len rfl el30 rfl rfl rfl hx rfl ?_)
  refine ops_cons rfl (ow_loadT hs eI_len hx ti2 rfl rfl rfl ?_)
  refine ops_cons rfl (ow_move rfl ?_)
  refine ops_cons rfl (ow_conv Tryz.underlying3 Tryz.underlying140 rfl (wuz (by omega)) ?_)
  refine ops_cons rfl (ow_shr rfl rfl (by omega) (shr_z (j := 7 - j) (by omega) hxb.1 (by omega)) ?_)
  refine ops_cons rfl (ow_and rfl rfl (bit_shr (by omega) (by omega)) ?_)
  refine ops_cons rfl (ow_buildSlice el30 ti2 rfl rfl rfl rfl rfl ?_)
  intro g3 w5 eg3 oS bbg3 x4 zg3
  replace oS := Own.low oS X.size
  replace oP := oP.ext x4
  replace hs := hs.ext x4
  replace X := Ext.trans X x4; clear x4
  refine ops_cons rfl (ow_append (ts := #[]) oP X.size oS.sl rfl (one_ints [bitI x (7 - j)]) el30 ti2 rfl rfl rfl rfl (by omega) (by omega) ?_)
  intro AoN coN w7 oN hg6
  replace hs := hs.grown hg6 (fun g hg => Nat.le_trans Bhs (Own.lt oP hg).1)
  replace X := X.grown hg6 X.size (fun g hg => (Own.lt oP hg).1)
  clear hg6
  refine ops_cons rfl (ow_assign rfl ?_)
  refine ops_nil ?_
  refine bq_n ?_
  refine tq_n ?_
  refine c_region ?_
  refine ops_cons rfl (ow_move rfl ?_)
  refine ops_cons rfl (ow_sub rfl rfl (w64 (by omega)) ?_)
  refine ops_cons rfl (ow_assign rfl ?_)
  refine ops_nil ?_
  refine tq_n ⟨(j + 1, z - 1, n2 + 1, AoN, coN), (.cons rfl (.cons rfl (.cons rfl (.cons rfl (.cons rfl (.cons rfl (.cons rfl (.cons rfl (.nil _))))))))), ?_, ?_⟩
  · exact ⟨by omega, (by omega), (by omega), (oN.to (by rw [bitP_step, ← List.append_assoc]; exact Eq.symm (by rw [List.flatMap_append]; rfl))), hs, X⟩
  · first | omega | (dsimp only; omega)
  refine ops_nil ?_
  refine c_false rfl ?_
  refine c_exit ?_
  refine tq_e ?_
  refine tq_e ?_
  refine bq_e ?_
  refine bq_n ?_
  refine tq_n ?_
  refine c_region ?_
  refine ops_cons rfl (ow_move rfl ?_)
  refine ops_cons rfl (ow_add rfl rfl (w64 (by omega)) ?_)
  refine ops_cons rfl (ow_assign rfl ?_)
  refine ops_nil ?_
  refine tq_n ⟨(k + 1, n2, A2, c2), (.cons rfl (.cons rfl (.cons rfl (.cons rfl (.nil _))))), ?_, ?_⟩
  · exact ⟨by omega, (by rw [bitsL_step hx, List.length_append, bitP_len]; omega), (oP.to (by rw [bitsL_step hx, show j = 8 by omega])), hs, X⟩
  · first | omega | (dsimp only; omega)
  refine ops_nil ?_
  refine c_false rfl ?_
  refine c_exit ?_
  refine tq_e ?_
  refine tq_e ?_
  refine bq_e ?_
  refine tq_n ?_
  refine c_seqR ?_
  refine ops_cons rfl (ow_move rfl ?_)
  refine ops_cons rfl (ow_assign rfl ?_)
  refine ops_nil ?_
  refine c_ret ?_
  refine fin_ret1 rfl rfl ?_
  · skip
    rw [show k = xs.length by omega, List.take_length] at oO hn1
    rw [← hn1]; exact ⟨A1, c1, rfl, oO, X⟩

theorem iStdCrc_c  (w : World)  :
    Calls Tryz.prog 221 #[] w (Ret fun v w' => v = .agg #[.int .i64 24, .int .i64 6122955] ∧ Ext w w') := by
  have X := Ext.refl w
  refine calls_of (args := []) Tryz.func221 Tryz.ntmps221 rfl rfl ?_
  refine c_seqR ?_
  refine ops_cons rfl (ow_alloc ti218 ?_)
  intro g0 w2 eg0 b0 x1 zg0
  have lg0 : w.heap.size ≤ g0 := Nat.le_trans X.size (Nat.le_of_eq eg0.symm)
  replace X := Ext.trans X x1; clear x1
  refine ops_nil ?_
  refine c_seqR ?_
  refine ops_cons rfl (ow_buildP pl218 ti218 rfl rfl ?_)
  refine ops_cons rfl (ow_storeB b0 ti218 rfl rfl rfl rfl rfl rfl ?_)
  intro w4 b1 hg3 z5
  replace X := X.grown hg3 X.size (by intro g hg; injection hg; omega)
  clear hg3 b0
  refine ops_nil ?_
  refine c_ret ?_
  refine fin_cell1 rfl rfl b1 ti218 rfl ?_
  exact ⟨by rfl, X⟩

theorem sStdCrc_c  (w : World)  :
    Calls Tryz.prog 234 #[] w (Ret fun v w' => v = .agg #[.int .i64 24, .int .i64 6122955] ∧ Ext w w') := by
  have X := Ext.refl w
  refine calls_of (args := []) Tryz.func234 Tryz.ntmps234 rfl rfl ?_
  refine c_seqR ?_
  refine ops_cons rfl (ow_alloc ti218 ?_)
  intro g0 w2 eg0 b0 x1 zg0
  have lg0 : w.heap.size ≤ g0 := Nat.le_trans X.size (Nat.le_of_eq eg0.symm)
  replace X := Ext.trans X x1; clear x1
  refine ops_nil ?_
  refine c_seqR ?_
  refine ops_cons rfl (ow_buildP pl218 ti218 rfl rfl ?_)
  refine ops_cons rfl (ow_storeB b0 ti218 rfl rfl rfl rfl rfl rfl ?_)
  intro w4 b1 hg3 z5
  replace X := X.grown hg3 X.size (by intro g hg; injection hg; omega)
  clear hg3 b0
  refine ops_nil ?_
  refine c_ret ?_
  refine fin_cell1 rfl rfl b1 ti218 rfl ?_
  exact ⟨by rfl, X⟩

theorem feed_c (A : Option Addr) (B c : Nat) (xs : List Int) (r : Int) (w : World) (hs : Sl B w A (xs.flatMap eI)) (hl : xs.length ≤ 1048576) (hr : 0 ≤ r ∧ r < 16777216) (hb : ∀ b ∈ xs, 0 ≤ b ∧ b ≤ 1) :
    Calls Tryz.prog 222 #[.agg #[.int .i64 24, .int .i64 6122955], .int .i64 r, .slice A xs.length c] w (Ret fun v w' => v = .int .i64 (crcF r xs) ∧ Ext w w') := by
  have Bhs := hs.1
  have X := Ext.refl w
  refine calls_of (args := [.agg #[.int .i64 24, .int .i64 6122955], .int .i64 r, .slice A xs.length c]) Tryz.func222 Tryz.ntmps222 rfl rfl ?_
  refine c_seqR ?_
  refine ops_cons rfl (ow_box rfl rfl ?_)
  intro gC w2 egC bC x1 zgC
  have lgC : w.heap.size ≤ gC := Nat.le_trans X.size (Nat.le_of_eq egC.symm)
  have pgChs := Nat.le_trans hs.1 (Nat.le_of_eq egC.symm)
  replace hs := hs.ext x1
  replace X := Ext.trans X x1; clear x1
  refine ops_cons rfl (ow_assign rfl ?_)
  refine ops_nil ?_
  refine c_seq ?_
  refine c_seqR ?_
  refine ops_cons rfl (ow_move rfl ?_)
  refine ops_cons rfl (ow_len Tryz.underlying30 rfl ?_)
  refine ops_cons rfl (ow_move rfl ?_)
  refine ops_nil ?_
  refine c_block ?_
  refine c_loop (G := Nat × Int) (fun ⟨k, r1⟩ => [(3, .pointer (some ⟨gC, 0, none⟩)), (6, .int .i64 0), (10, .slice A xs.length c), (11, .int .i64 (xs.length : Nat)), (1, .int .i64 r1), (12, .int .i64 (k : Nat))]) (fun ⟨k, r1⟩ wr => k ≤ xs.length ∧ r1 = (crcF r (xs.take k)) ∧ Sl B wr A (xs.flatMap eI) ∧ Blk wr gC 218 [.int .i64 24, .int .i64 6122955] ∧ Ext w wr) (fun ⟨k, r1⟩ => xs.length - k) (0, r) (.cons rfl (.cons rfl (.cons rfl (.cons rfl (.cons rfl (.cons rfl (.nil _))))))) ?_ ?_
  · exact ⟨by omega, rfl, hs, bC, X⟩
  clear hs bC
  clear X
  rintro ⟨k, r1⟩ wr ⟨hk0, hr1, hs, bC, X⟩
  refine c_seqR ?_
  refine ops_cons rfl (ow_lss2 rfl rfl (fun hk => ?_) (fun hk => ?_))
  obtain ⟨x, hx, dx⟩ := drop_at' hk
  have hri := crcF_in (xs.take k) hr
  rw [← hr1] at hri
  have hxb := hb x (List.mem_of_getElem? hx)
  refine ops_nil ?_
  refine c_seq ?_
  refine c_true rfl ?_
  refine c_skip ?_
  refine tq_n ?_
  refine c_seq ?_
  refine c_block ?_
  refine c_seqR ?_
  refine ops_cons rfl (ow_indexT hs eI_len rfl el30 rfl rfl rfl hx rfl ?_)
  refine ops_cons rfl (ow_loadT hs eI_len hx ti2 rfl rfl rfl ?_)
  refine ops_cons rfl (ow_assign rfl ?_)
  refine ops_nil ?_
  refine c_seqR ?_
  refine ops_cons rfl (ow_move rfl ?_)
  refine ops_cons rfl (ow_move rfl ?_)
  refine ops_cons rfl (ow_fieldAddrB off218_0 rfl rfl ?_)
  refine ops_cons rfl (ow_loadB bC ti2 rfl rfl ?_)
  refine ops_cons rfl (ow_sub rfl rfl (show IntKind.i64.wrap (24 - 1) = 23 by decide) ?_)
  refine ops_cons rfl (ow_shr rfl rfl (by omega) (shrP 8388608 hri.1 (by omega) rfl) ?_)
  refine ops_cons rfl (ow_xor rfl rfl (xor01 (by omega) (by omega)) ?_)
  refine ops_cons rfl (ow_assign rfl ?_)
  refine ops_nil ?_
  refine c_seqR ?_
  refine ops_cons rfl (ow_move rfl ?_)
  refine ops_cons rfl (ow_shl rfl rfl (by omega) (shl1 (by omega)) ?_)
  refine ops_cons rfl (ow_fieldAddrB off218_0 rfl rfl ?_)
  refine ops_cons rfl (ow_loadB bC ti2 rfl rfl ?_)
  refine ops_cons rfl (ow_shl rfl rfl (by omega) (show IntKind.i64.wrap (1 * 2 ^ (min ((24 : Int).toNat) IntKind.i64.bits)) = 16777216 by decide) ?_)
  refine ops_cons rfl (ow_sub rfl rfl (show IntKind.i64.wrap (16777216 - 1) = 16777215 by decide) ?_)
  refine ops_cons rfl (ow_and rfl rfl (and24 (by omega)) ?_)
  refine ops_cons rfl (ow_assign rfl ?_)
  refine ops_nil ?_
  refine c_seqR ?_
  refine ops_cons rfl (ow_move rfl ?_)
  refine ops_cons rfl (ow_eql2 rfl rfl (fun ht => ?_) (fun ht => ?_))
  refine ops_nil ?_
  refine c_true rfl ?_
  refine c_region ?_
  refine ops_cons rfl (ow_move rfl ?_)
  refine ops_cons rfl (ow_fieldAddrB off218_1 rfl rfl ?_)
  refine ops_cons rfl (ow_loadB bC ti2 rfl rfl ?_)
  refine ops_cons rfl (ow_xor rfl rfl (xorC_eq (by omega)) ?_)
  refine ops_cons rfl (ow_assign rfl ?_)
  refine ops_nil ?_
  refine bq_n ?_
  refine tq_n ?_
  refine c_region ?_
  refine ops_cons rfl (ow_add rfl rfl (w64 (by omega)) ?_)
  refine ops_cons rfl (ow_move rfl ?_)
  refine ops_nil ?_
  refine tq_n ⟨(k + 1, xorC (r1 * 2 % 16777216)), (.cons rfl (.cons rfl (.cons rfl (.cons rfl (.cons rfl (.cons rfl (.nil _))))))), ?_, ?_⟩
  · exact ⟨by omega, (by rw [crcF_step hx, ← hr1, crc_eq hri, if_pos ht]), hs, bC, X⟩
  · first | omega | (dsimp only; omega)
  refine ops_nil ?_
  refine c_false rfl ?_
  refine c_skip ?_
  refine bq_n ?_
  refine tq_n ?_
  refine c_region ?_
  refine ops_cons rfl (ow_add rfl rfl (w64 (by omega)) ?_)
  refine ops_cons rfl (ow_move rfl ?_)
  refine ops_nil ?_
  refine tq_n ⟨(k + 1, r1 * 2 % 16777216), (.cons rfl (.cons rfl (.cons rfl (.cons rfl (.cons rfl (.cons rfl (.nil _))))))), ?_, ?_⟩
  · exact ⟨by omega, (by rw [crcF_step hx, ← hr1, crc_eq hri, if_neg ht]), hs, bC, X⟩
  · first | omega | (dsimp only; omega)
  refine ops_nil ?_
  refine c_seq ?_
  refine c_false rfl ?_
  refine c_exit ?_
  refine tq_e ?_
  refine tq_e ?_
  refine bq_e ?_
  refine tq_n ?_
  refine c_seqR ?_
  refine ops_cons rfl (ow_move rfl ?_)
  refine ops_cons rfl (ow_assign rfl ?_)
  refine ops_nil ?_
  refine c_ret ?_
  refine fin_ret1 rfl rfl ?_
  · skip
    refine ⟨congrArg (Value.int .i64) ?_, X⟩
    rw [hr1, show k = xs.length by omega, List.take_length]

theorem l02Feed_c (A : Option Addr) (B c : Nat) (xs : List Int) (r : Int) (w : World) (hs : Sl B w A (xs.flatMap eI)) (hl : xs.length ≤ 1048576) (hr : 0 ≤ r ∧ r < 16777216) (hb : ∀ b ∈ xs, 0 ≤ b ∧ b ≤ 1) :
    Calls Tryz.prog 233 #[.agg #[.int .i64 24, .int .i64 6122955], .int .i64 r, .slice A xs.length c] w (Ret fun v w' => v = .int .i64 (crcF r xs) ∧ Ext w w') := by
  have Bhs := hs.1
  have X := Ext.refl w
  refine calls_of (args := [.agg #[.int .i64 24, .int .i64 6122955], .int .i64 r, .slice A xs.length c]) Tryz.func233 Tryz.ntmps233 rfl rfl ?_
  refine c_seqR ?_
  refine ops_cons rfl (ow_box rfl rfl ?_)
  intro gC w2 egC bC x1 zgC
  have lgC : w.heap.size ≤ gC := Nat.le_trans X.size (Nat.le_of_eq egC.symm)
  have pgChs := Nat.le_trans hs.1 (Nat.le_of_eq egC.symm)
  replace hs := hs.ext x1
  replace X := Ext.trans X x1; clear x1
  refine ops_cons rfl (ow_assign rfl ?_)
  refine ops_nil ?_
  refine c_seqR ?_
  refine ops_cons rfl (ow_fieldAddrB off218_0 rfl rfl ?_)
  refine ops_cons rfl (ow_loadB bC ti2 rfl rfl ?_)
  refine ops_cons rfl (ow_sub rfl rfl (show IntKind.i64.wrap (24 - 1) = 23 by decide) ?_)
  refine ops_cons rfl (ow_conv Tryz.underlying2 Tryz.underlying140 rfl (show IntKind.u64.wrap 23 = 23 by decide) ?_)
  refine ops_cons rfl (ow_shl rfl rfl (by omega) (show IntKind.i64.wrap (1 * 2 ^ (min ((23 : Int).toNat) IntKind.i64.bits)) = 8388608 by decide) ?_)
  refine ops_cons rfl (ow_assign rfl ?_)
  refine ops_nil ?_
  refine c_seq ?_
  refine c_seqR ?_
  refine ops_cons rfl (ow_assign rfl ?_)
  refine ops_nil ?_
  refine c_block ?_
  refine c_loop (G := Nat × Int) (fun ⟨k, r1⟩ => [(2, .slice A xs.length c), (3, .pointer (some ⟨gC, 0, none⟩)), (6, .int .i64 0), (7, .int .i64 8388608), (1, .int .i64 r1), (8, .int .i64 (k : Nat))]) (fun ⟨k, r1⟩ wr => k ≤ xs.length ∧ r1 = (crcF r (xs.take k)) ∧ Sl B wr A (xs.flatMap eI) ∧ Blk wr gC 218 [.int .i64 24, .int .i64 6122955] ∧ Ext w wr) (fun ⟨k, r1⟩ => xs.length - k) (0, r) (.cons rfl (.cons rfl (.cons rfl (.cons rfl (.cons rfl (.cons rfl (.nil _))))))) ?_ ?_
  · exact ⟨by omega, rfl, hs, bC, X⟩
  clear hs bC
  clear X
  rintro ⟨k, r1⟩ wr ⟨hk0, hr1, hs, bC, X⟩
  refine c_seq ?_
  refine c_seqR ?_
  refine ops_cons rfl (ow_move rfl ?_)
  refine ops_cons rfl (ow_move rfl ?_)
  refine ops_cons rfl (ow_len Tryz.underlying30 rfl ?_)
  refine ops_cons rfl (ow_lss2 rfl rfl (fun hk => ?_) (fun hk => ?_))
  obtain ⟨x, hx, dx⟩ := drop_at' hk
  have hri := crcF_in (xs.take k) hr
  rw [← hr1] at hri
  have hxb := hb x (List.mem_of_getElem? hx)
  refine ops_nil ?_
  refine c_true rfl ?_
  refine c_skip ?_
  refine tq_n ?_
  refine c_seq ?_
  refine c_block ?_
  refine c_seqD [false, false, false, false, false, false, false, false, false] mixed (by kernel_rfl) ?_
  refine f_q rfl (fun wq sq => ow_move rfl ⟨rfl, Ext.refl _⟩) ?_
  refine f_q rfl (fun wq sq => ow_move rfl ⟨rfl, Ext.refl _⟩) ?_
  refine f_q rfl (fun wq sq => ow_quo rfl rfl (by omega) (q64 (by omega)) ⟨rfl, Ext.refl _⟩) ?_
  refine f_q rfl (fun wq sq => ow_move rfl ⟨rfl, Ext.refl _⟩) ?_
  refine f_q rfl (fun wq sq => ow_move rfl ⟨rfl, Ext.refl _⟩) ?_
  refine f_q rfl (fun wq sq => ow_indexT (hs.ext sq) eI_len rfl el30 rfl rfl rfl hx rfl ⟨rfl, Ext.refl _⟩) ?_
  refine f_q rfl (fun wq sq => ow_loadT (hs.ext sq) eI_len hx ti2 rfl rfl rfl ⟨rfl, Ext.refl _⟩) ?_
  refine f_q rfl (fun wq sq => ow_xor rfl rfl ((xor01 (by omega) (by omega)).trans (show _ = (x + r1 / 8388608) % 2 by rw [Int.add_comm])) ⟨rfl, Ext.refl _⟩) ?_
  refine f_q rfl (fun wq sq => ow_assign rfl ⟨rfl, Ext.refl _⟩) ?_
  refine f_nil (fun w3 sq => ?_)
  have xq := sq
  replace hs := hs.ext xq
  replace bC := bC.ext xq
  replace X := Ext.trans X xq; clear xq sq
  refine ops_nil ?_
  refine c_seqR ?_
  refine ops_cons rfl (ow_move rfl ?_)
  refine ops_cons rfl (ow_move rfl ?_)
  refine ops_cons rfl (ow_rem rfl rfl (by omega) (m64 (by omega)) ?_)
  refine ops_cons rfl (ow_mul rfl rfl (show IntKind.i64.wrap _ = r1 * 2 % 16777216 from (w64 (by omega)).trans (by omega)) ?_)
  refine ops_cons rfl (ow_assign rfl ?_)
  refine ops_nil ?_
  refine c_seqR ?_
  refine ops_cons rfl (ow_move rfl ?_)
  refine ops_cons rfl (ow_eql2 rfl rfl (fun ht => ?_) (fun ht => ?_))
  refine ops_nil ?_
  refine c_true rfl ?_
  refine c_region ?_
  refine ops_cons rfl (ow_move rfl ?_)
  refine ops_cons rfl (ow_fieldAddrB off218_1 rfl rfl ?_)
  refine ops_cons rfl (ow_loadB bC ti2 rfl rfl ?_)
  refine ops_cons rfl (ow_xor rfl rfl (xorC_eq (by omega)) ?_)
  refine ops_cons rfl (ow_assign rfl ?_)
  refine ops_nil ?_
  refine bq_n ?_
  refine tq_n ?_
  refine c_region ?_
  refine ops_cons rfl (ow_move rfl ?_)
  refine ops_cons rfl (ow_add rfl rfl (w64 (by omega)) ?_)
  refine ops_cons rfl (ow_assign rfl ?_)
  refine ops_nil ?_
  refine tq_n ⟨(k + 1, xorC (r1 * 2 % 16777216)), (.cons rfl (.cons rfl (.cons rfl (.cons rfl (.cons rfl (.cons rfl (.nil _))))))), ?_, ?_⟩
  · exact ⟨by omega, (by rw [crcF_step hx, ← hr1, crc_eq hri, if_pos ht]), hs, bC, X⟩
  · first | omega | (dsimp only; omega)
  refine ops_nil ?_
  refine c_false rfl ?_
  refine c_skip ?_
  refine bq_n ?_
  refine tq_n ?_
  refine c_region ?_
  refine ops_cons rfl (ow_move rfl ?_)
  refine ops_cons rfl (ow_add rfl rfl (w64 (by omega)) ?_)
  refine ops_cons rfl (ow_assign rfl ?_)
  refine ops_nil ?_
  refine tq_n ⟨(k + 1, r1 * 2 % 16777216), (.cons rfl (.cons rfl (.cons rfl (.cons rfl (.cons rfl (.cons rfl (.nil _))))))), ?_, ?_⟩
  · exact ⟨by omega, (by rw [crcF_step hx, ← hr1, crc_eq hri, if_neg ht]), hs, bC, X⟩
  · first | omega | (dsimp only; omega)
  refine ops_nil ?_
  refine c_false rfl ?_
  refine c_exit ?_
  refine tq_e ?_
  refine tq_e ?_
  refine bq_e ?_
  refine tq_n ?_
  refine c_seqR ?_
  refine ops_cons rfl (ow_move rfl ?_)
  refine ops_cons rfl (ow_assign rfl ?_)
  refine ops_nil ?_
  refine c_ret ?_
  refine fin_ret1 rfl rfl ?_
  · skip
    refine ⟨congrArg (Value.int .i64) ?_, X⟩
    rw [hr1, show k = xs.length by omega, List.take_length]
end Go.Proofs.YtdoibplhbdkapaaGreatDoor
namespace Go.Proofs.YtdoibplhbdkapaaGreatDoor
open Go.RowKit
set_option linter.unusedVariables false
set_option linter.unusedSimpArgs false
/-- a fence that bars nothing -/
def WideF (F : Fence) : Prop := F = Fence.wide ∨ ∃ l, F = Fence.wide.inRound l
theorem WideF.w : WideF Fence.wide := .inl rfl
theorem WideF.r (l : Nat) : WideF (Fence.wide.inRound l) := .inr ⟨l, rfl⟩
theorem callsW {F : Fence} (hF : WideF F) {m : Nat} {P : Program} {f : FuncId} {args : Array Value} {w : World} {R : Ending → World → Prop} (h : Calls P f args w R) : CallsIn F m P f args w R := by
  rcases hF with rfl | ⟨l, rfl⟩
  · exact callsIn_wide.2 h
  · exact CallsIn.inRound l (callsIn_wide.2 h)
theorem WideF.fn {F : Fence} (hF : WideF F) (f : FuncId) : F.fn f := by
  rcases hF with rfl | ⟨l, rfl⟩ <;> trivial
theorem WideF.deep {F : Fence} (hF : WideF F) (m : Nat) : F.depth.isSome = true → 1 ≤ m := by
  rcases hF with rfl | ⟨l, rfl⟩ <;> (intro h; cases h)
def noDef : Op → Bool
  | .defer _ => false
  | _ => true
theorem noDef_spec {op : Op} (h : noDef op = true) : ∀ c, op ≠ .defer c := fun c e => by subst e; cases h
def FitsD (D : List Deferred) (n : Nat) (e : List (Nat × Value)) (a : Act) : Prop := a.defers = D ∧ a.tmps.size = n ∧ ∀ t v, lk e t = some v → a.tmps.getD t undef = v
theorem FitsD.fits {D : List Deferred} {n : Nat} {e : List (Nat × Value)} {a : Act} (h : FitsD D n e a) : Fits n e { a with defers := [] } := ⟨rfl, h.2.1, h.2.2⟩
theorem FitsD.knows {D : List Deferred} {n : Nat} {e : List (Nat × Value)} {a : Act} (h : FitsD D n e a) : Knows e a.eval := h.fits.knows
theorem FitsD.put {D : List Deferred} {n : Nat} {e : List (Nat × Value)} {a : Act} (h : FitsD D n e a) (d : Option Tmp) (v : Value) (hd : dstOk n d = true) : FitsD D n (updO e d v) (a.put d v) := by
  have h1 := h.fits.put d v hd
  have h2 : ({ a with defers := [] } : Act).put d v = { a.put d v with defers := [] } := by cases d <;> rfl
  have h3 : (a.put d v).defers = a.defers := by cases d <;> rfl
  rw [h2] at h1
  exact ⟨h3.trans h.1, h1.2.1, h1.2.2⟩
section
variable {F : Fence} {m : Nat} {P : Program} {n : Nat} {D : List Deferred} {ops : Array Oper} {rest : List Oper} {e : List (Nat × Value)} {w : World} {K : List (Nat × Value) → World → Prop}
theorem wpIn_of_upto (hF : WideF F) {o : Oper} {a : Act} {w : World} {K : Value → World → Prop} {next : Act → World → Prop} {Q : Exit → Act → World → Prop} (hd : ∀ c, o.op ≠ .defer c)
    (h : upto P K ((execOp a.eval o).run P w)) (hk : ∀ v w', K v w' → next (a.put o.dst v) w') : o.wpIn F m P a w next Q := by
  refine ⟨fun f _ => hF.fn f, ?_⟩
  rw [Oper.semAt_eq _ _ _ hd]
  generalize (execOp a.eval o).run P w = r at *
  cases r with
  | halt x w => exact h.elim
  | ok n w =>
    cases n <;> simp only [upto] at h <;> simp only [Oper.uponIn] <;> first
      | exact hk _ _ h
      | exact ⟨hF.deep m, callsW hF (Calls.mono h (fun e w'' he => by cases e <;> first | exact hk _ _ he | exact he.elim))⟩
def OpsF (F : Fence) (m : Nat) (P : Program) (n : Nat) (D : List Deferred) (ops : Array Oper) (l : List Oper) (e : List (Nat × Value)) (w : World) (K : List (Nat × Value) → World → Prop) : Prop :=
  ∀ (a : Act) (Q : Exit → Act → World → Prop), FitsD D n e a → (∀ e' a' w', FitsD D n e' a' → K e' w' → Q .normal a' w') → wpListIn F m P ops Q l a w
theorem opsF_nil (h : K e w) : OpsF F m P n D ops [] e w K := fun _ _ ha hK => wpListIn_nil (hK _ _ _ ha h)
theorem opsF_cons (hF : WideF F) {dst : Option Tmp} {op : Op} {ty : TypeId} {pos : String} {af : Array Edge} (hd : dstOk n dst = true) (hn : noDef op = true)
    (h : OpWp P e op ty w fun v w' => OpsF F m P n D ops rest (updO e dst v) w' K) : OpsF F m P n D ops (⟨dst, op, ty, pos, af, none⟩ :: rest) e w K :=
  fun a Q ha hK => wpListIn_plain rfl fun K' hK' => wpIn_of_upto hF (o := ⟨dst, op, ty, pos, af, none⟩) (noDef_spec hn) (h a.eval dst pos af none ha.knows) fun v w' hv => hK' _ _ (hv _ Q (ha.put dst v hd) hK)
/-- a call of yield -/
theorem opsF_yield (hF : WideF F) {dst : Option Tmp} {x : Operand} {args : Array Operand} {ts : Array TypeId} {vs : List Value} {l : Nat} {ty : TypeId} {pos : String} {af : Array Edge} (hd : dstOk n dst = true)
    (hx : evO e x = some (.func (.yield l) #[] #[])) (hy : argsO e args.toList = some vs)
    (h : YieldAt F (m - 1) P l vs.toArray w fun en w' => ∃ v, en = .returned v ∧ OpsF F m P n D ops rest (updO e dst v) w' K) : OpsF F m P n D ops (⟨dst, .call ⟨.value x, args, ts⟩, ty, pos, af, none⟩ :: rest) e w K :=
  fun a Q ha hK => wpListIn_plain rfl fun K' hK' => by
    have h1 : args.map a.eval = vs.toArray := Array.ext' (by simpa using argsO_spec ha.knows _ _ hy)
    have h2 := ha.knows _ _ hx
    obtain ⟨fn, tmps, assign, body, hy, hR⟩ := h
    refine ⟨fun f _ => hF.fn f, ?_⟩
    rw [Oper.semAt_eq _ _ _ (fun c h => by cases h)]
    have hr : (execOp a.eval ⟨dst, .call ⟨.value x, args, ts⟩, ty, pos, af, none⟩).run P w = .ok (.round l fn tmps assign body) w := by
      simp only [execOp, resolve, h1, h2, Deferred.ofValue, invoke]
      simp only [Sem.run_bind, Sem.run_pure, Result.andThen_ok, Array.append_empty, Array.empty_append]
      exact hy
    rw [hr, Oper.uponIn_round]
    refine ⟨hF.deep m, hR.mono ?_⟩
    rintro en w' ⟨v, rfl, hv⟩
    exact hK' _ _ (hv _ Q (ha.put dst v hd) hK)
end
section
variable {m : Nat} {P : Program} {n : Nat} {e : List (Nat × Value)} {w : World} {Q : Exit → List (Nat × Value) → World → Prop}
theorem c_regF (m : Nat) {id : Nat} {l : List Oper} (h : OpsF Fence.wide m P n [] l.toArray l e w (fun e' w' => Q .normal e' w')) : CWp P n (.region id l.toArray false) e w Q :=
  fun a ha => (wpIn_wide (n := m)).1 (wpIn_region_lit (h a _ ha fun e' _ _ hf hk => ⟨e', hf, hk⟩))
theorem c_seqF (m : Nat) {id : Nat} {l : List Oper} {y : Code} (h : OpsF Fence.wide m P n [] l.toArray l e w (fun e' w' => CWp P n y e' w' Q)) : CWp P n (.seq (.region id l.toArray false) y) e w Q := c_seq (c_regF m h)
end
theorem gb_of_ext {w w' : World} (h : Ext w w') : w.grownBy w' none := ⟨h.os, h.tape, h.output, h.size, fun k hk _ => h.block k hk⟩
theorem abides_ext {β : Type} {B : Nat} {J : β → World → Prop} (hJ : AbidesFrom B J) {s : β} {w w' : World} (h : J s w) (x : Ext w w') : J s w' := hJ s w w' none h (gb_of_ext x) (fun r e => by cases e)
section
variable {P : Program} {e : List (Nat × Value)} {ty : TypeId} {w : World} {K : Value → World → Prop} {x lo hi mx : Operand} {t el : TypeId} {s n c l h : Nat} {A : Option Addr} {k1 k2 k3 : IntKind} {m1 m2 m3 : Int}
theorem ow_sliceLX (ht : elO P t = some (el, s)) (hx : evO e x = some (.slice A n c)) (h1 : evO e lo = some (.int k1 m1)) (e1 : m1 = (l : Int)) (hl : l ≤ n) (hK : K (.slice (if c = l then A else A.map (·.add (l * s))) (n - l) (c - l)) w) : OpWp P e (.slice t x (some lo) none none) ty w K := fun ρ d p a g hρ => by
  have g0 := hρ _ _ hx; have g1 := hρ _ _ h1
  obtain ⟨hu, hsz⟩ := elem_of ht
  subst e1
  have hr := run_slice_l (P := P) (w := w) t A n c hu k1 (l : Int) (by omega) (by omega)
  simp only [execOp, g0, Option.map_some, Option.map_none, g1, Sem.run_bind, run_sliceAt_slice w t _ _ _ _ hu, hr, hsz, Result.andThen_ok, Sem.run_pure, upto, sliced, Int.toNat_natCast]
  exact hK
theorem ow_sliceLHM (ht : elO P t = some (el, 1)) (hx : evO e x = some (.slice A n c)) (h1 : evO e lo = some (.int k1 m1)) (h2 : evO e hi = some (.int k2 m2)) (h3 : evO e mx = some (.int k3 m3)) (e1 : m1 = (l : Int)) (e2 : m2 = (h : Int)) (e3 : m3 = (h : Int)) (hlh : l < h) (hc : h ≤ c)
    (hK : K (.slice (A.map (·.add l)) (h - l) (h - l)) w) : OpWp P e (.slice t x (some lo) (some hi) (some mx)) ty w K := fun ρ d p a g hρ => by
  have g0 := hρ _ _ hx; have g1 := hρ _ _ h1; have g2 := hρ _ _ h2; have g3 := hρ _ _ h3
  obtain ⟨hu, hsz⟩ := elem_of ht
  subst e1; subst e2; subst e3
  have hr := run_slice_lhm (P := P) (w := w) t A n c hu k1 k2 k3 (l : Int) (h : Int) (h : Int) (by omega) (by omega) (by omega) (by omega)
  simp only [execOp, g0, Option.map_some, Option.map_none, g1, g2, g3, Sem.run_bind, run_sliceAt_slice w t _ _ _ _ hu, hr, hsz, Result.andThen_ok, Sem.run_pure, upto, sliced, Int.toNat_natCast]
  rw [if_neg (by omega), Nat.mul_one]
  exact hK
end
/-- an invariant of the rounds, carried by the iterator -/
def JK {β : Type} (J : β → World → Prop) (B : Nat) (s : β) (w : World) : Prop := AbidesFrom B J ∧ J s w
theorem JK.ext {β : Type} {J : β → World → Prop} {B : Nat} {s : β} {w w' : World} (h : JK J B s w) (x : Ext w w') : JK J B s w' := ⟨h.1, abides_ext h.1 h.2 x⟩
theorem yield_two {en : Ending} {A B : Prop} (h : (en = .returned (.bool true) ∧ A) ∨ (en = .returned (.bool false) ∧ B)) : ∃ b, en = .returned (.bool b) ∧ (b = true → A) ∧ (b = false → B) := by
  rcases h with ⟨h, a⟩ | ⟨h, b⟩
  · exact ⟨true, h, (fun _ => a), (fun h => by cases h)⟩
  · exact ⟨false, h, (fun h => by cases h), (fun _ => b)⟩
end Go.Proofs.YtdoibplhbdkapaaGreatDoor
