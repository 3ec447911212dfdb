/- Copies of tables of nodes. No condition. -/
import Derived.Test.YthdeoagoehkcfaaFlowT
import Derived.Test.YthdeoagoehkcfaaMod6
namespace Go.Proofs.Ythdeoagoehkcfaa
open Go.RowKit
set_option linter.unusedVariables false
set_option linter.unusedSimpArgs false
set_option maxRecDepth 20000
theorem eqNodeI_c (d : NodeI) (w : World)  :
    Calls Try.prog 77 #[.agg d.cells.toArray, .agg d.cells.toArray] w (Ret fun v w' => v = .bool true ∧ Ext w w') := by
  have X := Ext.refl w
  refine calls_of (args := [.agg d.cells.toArray, .agg d.cells.toArray]) Try.func77 Try.ntmps77 rfl rfl ?_
  refine c_seqR ?_
  refine ops_cons rfl (ow_box rfl rfl ?_)
  intro g4 w3 eg4 b1 x2 zg4
  have lg4 : w.heap.size ≤ g4 := Nat.le_trans X.size (Nat.le_of_eq eg4.symm)
  replace X := Ext.trans X x2; clear x2
  refine ops_cons rfl (ow_box rfl rfl ?_)
  intro g8 w7 eg8 b5 x6 zg8
  have lg8 : w.heap.size ≤ g8 := Nat.le_trans X.size (Nat.le_of_eq eg8.symm)
  have ng8b1 := Nat.lt_of_lt_of_eq b1.lt eg8.symm
  replace b1 := b1.ext x6
  replace X := Ext.trans X x6; clear x6
  refine ops_cons rfl (ow_assign rfl ?_)
  refine ops_nil ?_
  refine c_seq ?_
  refine c_seqR ?_
  refine ops_cons rfl (ow_fieldAddrB off73_0 rfl rfl ?_)
  refine ops_cons rfl (ow_loadB b1 ti2 rfl rfl ?_)
  refine ops_cons rfl (ow_fieldAddrB off73_0 rfl rfl ?_)
  refine ops_cons rfl (ow_loadB b5 ti2 rfl rfl ?_)
  refine ops_cons rfl (ow_neq2 rfl rfl (fun h9 => absurd h9 (by simp)) (fun h9 => ?_))
  refine ops_nil ?_
  refine c_false rfl ?_
  refine c_skip ?_
  refine tq_n ?_
  refine c_seq ?_
  refine c_seqR ?_
  refine ops_cons rfl (ow_fieldAddrB off73_1 rfl rfl ?_)
  refine ops_cons rfl (ow_loadB b1 ti9 rfl rfl ?_)
  refine ops_cons rfl (ow_fieldAddrB off73_1 rfl rfl ?_)
  refine ops_cons rfl (ow_loadB b5 ti9 rfl rfl ?_)
  refine ops_cons rfl (ow_neqS2 rfl rfl (fun h10 => absurd h10 (by simp)) (fun h10 => ?_))
  refine ops_nil ?_
  refine c_false rfl ?_
  refine c_skip ?_
  refine tq_n ?_
  refine c_seq ?_
  refine c_seqR ?_
  refine ops_cons rfl (ow_fieldAddrB off73_2 rfl rfl ?_)
  refine ops_cons rfl (ow_loadB b1 ti2 rfl rfl ?_)
  refine ops_cons rfl (ow_fieldAddrB off73_2 rfl rfl ?_)
  refine ops_cons rfl (ow_loadB b5 ti2 rfl rfl ?_)
  refine ops_cons rfl (ow_neq2 rfl rfl (fun h11 => absurd h11 (by simp)) (fun h11 => ?_))
  refine ops_nil ?_
  refine c_false rfl ?_
  refine c_skip ?_
  refine tq_n ?_
  refine c_seq ?_
  refine c_seqR ?_
  refine ops_cons rfl (ow_fieldAddrB off73_3 rfl rfl ?_)
  refine ops_cons rfl (ow_loadB b1 ti4 rfl rfl ?_)
  refine ops_cons rfl (ow_fieldAddrB off73_3 rfl rfl ?_)
  refine ops_cons rfl (ow_loadB b5 ti4 rfl rfl ?_)
  refine ops_cons rfl (ow_neqBd2 Try.underlying4 rfl rfl (fun h12 => absurd h12 (by simp)) (fun h12 => ?_))
  refine ops_nil ?_
  refine c_false rfl ?_
  refine c_skip ?_
  refine tq_n ?_
  refine c_seqR ?_
  refine ops_cons rfl (ow_assign rfl ?_)
  refine ops_nil ?_
  refine c_ret ?_
  refine fin_ret1 rfl rfl ?_
  exact ⟨by rfl, X⟩

theorem eqNodeS_c (A A' : Option Addr) (B B' c c' : Nat) (xs : List NodeI) (w : World) (hs : Sl B w A (xs.flatMap NodeI.cells)) (ht : Sl B' w A' (xs.flatMap NodeI.cells)) (hl : xs.length ≤ 1048576) :
    Calls Try.prog 46 #[.slice A xs.length c, .slice A' xs.length c'] w (Ret fun v w' => v = .bool true ∧ Ext w w') := by
  have Bhs := hs.1
  have Bht := ht.1
  have X := Ext.refl w
  refine calls_of (args := [.slice A xs.length c, .slice A' xs.length c']) Try.func46 Try.ntmps46 rfl rfl ?_
  refine c_seqR ?_
  refine ops_cons rfl (ow_assign rfl ?_)
  refine ops_nil ?_
  refine c_seq ?_
  refine c_seqR ?_
  refine ops_cons rfl (ow_move rfl ?_)
  refine ops_cons rfl (ow_len Try.underlying34 rfl ?_)
  refine ops_cons rfl (ow_move rfl ?_)
  refine ops_cons rfl (ow_len Try.underlying34 rfl ?_)
  refine ops_cons rfl (ow_neq2 rfl rfl (fun h1 => absurd h1 (by simp)) (fun h1 => ?_))
  refine ops_nil ?_
  refine c_false rfl ?_
  refine c_skip ?_
  refine tq_n ?_
  refine c_seq ?_
  refine c_seqR ?_
  refine ops_cons rfl (ow_assign rfl ?_)
  refine ops_nil ?_
  refine c_block ?_
  refine c_loop (G := Nat) (fun k => [(0, .slice A xs.length c), (1, .slice A' xs.length c'), (5, .int .i64 (k : Nat))]) (fun k wr => k ≤ xs.length ∧ Sl B wr A (xs.flatMap NodeI.cells) ∧ Sl B' wr A' (xs.flatMap NodeI.cells) ∧ Ext w wr) (fun k => xs.length - k) 0 (.cons rfl (.cons rfl (.cons rfl (.nil _)))) ?_ ?_
  · exact ⟨by omega, hs, ht, X⟩
  clear hs ht
  clear X
  rintro k wr ⟨hk0, hs, ht, X⟩
  refine c_seq ?_
  refine c_seqR ?_
  refine ops_cons rfl (ow_move rfl ?_)
  refine ops_cons rfl (ow_move rfl ?_)
  refine ops_cons rfl (ow_len Try.underlying34 rfl ?_)
  refine ops_cons rfl (ow_lss2 rfl rfl (fun hk => ?_) (fun hk => ?_))
  · skip
    obtain ⟨x, hx, dx⟩ := drop_at' hk
    refine ops_nil ?_
    refine c_true rfl ?_
    refine c_skip ?_
    refine tq_n ?_
    refine c_seq ?_
    refine c_block ?_
    refine c_seqD [false, false, false, false, false, false, false, false, false, false] mixed (by kernel_rfl) ?_
    refine f_q rfl (fun wq sq => ow_move rfl ⟨rfl, Ext.refl _⟩) ?_
    refine f_q rfl (fun wq sq => ow_move rfl ⟨rfl, Ext.refl _⟩) ?_
    refine f_q rfl (fun wq sq => ow_indexT (hs.ext sq) NodeI.len rfl el34 rfl rfl rfl hx rfl ⟨rfl, Ext.refl _⟩) ?_
    refine f_q rfl (fun wq sq => ow_loadTA (hs.ext sq) NodeI.len hx ti73 rfl ⟨rfl, Ext.refl _⟩) ?_
    refine f_q rfl (fun wq sq => ow_move rfl ⟨rfl, Ext.refl _⟩) ?_
    refine f_q rfl (fun wq sq => ow_move rfl ⟨rfl, Ext.refl _⟩) ?_
    refine f_q rfl (fun wq sq => ow_indexT (ht.ext sq) NodeI.len rfl el34 rfl rfl rfl hx rfl ⟨rfl, Ext.refl _⟩) ?_
    refine f_q rfl (fun wq sq => ow_loadTA (ht.ext sq) NodeI.len hx ti73 rfl ⟨rfl, Ext.refl _⟩) ?_
    refine f_q rfl (fun wq sq => ow_call ent77 rfl (eqNodeI_c _ _)) ?_
    refine f_q rfl (fun wq sq => ow_not rfl ⟨rfl, Ext.refl _⟩) ?_
    refine f_nil (fun w2 sq => ?_)
    have xq := sq
    replace hs := hs.ext xq
    replace ht := ht.ext xq
    replace X := Ext.trans X xq; clear xq sq
    refine ops_nil ?_
    refine c_false rfl ?_
    refine c_skip ?_
    refine bq_n ?_
    refine tq_n ?_
    refine c_region ?_
    refine ops_cons rfl (ow_move rfl ?_)
    refine ops_cons rfl (ow_add rfl rfl (w64 (by omega)) ?_)
    refine ops_cons rfl (ow_assign rfl ?_)
    refine ops_nil ?_
    refine tq_n ⟨k + 1, (.cons rfl (.cons rfl (.cons rfl (.nil _)))), ?_, ?_⟩
    · exact ⟨by omega, hs, ht, X⟩
    · omega
  · skip
    refine ops_nil ?_
    refine c_false rfl ?_
    refine c_exit ?_
    refine tq_e ?_
    refine tq_e ?_
    refine bq_e ?_
    refine tq_n ?_
    refine c_seqR ?_
    refine ops_cons rfl (ow_assign rfl ?_)
    refine ops_nil ?_
    refine c_ret ?_
    refine fin_ret1 rfl rfl ?_
    exact ⟨by rfl, X⟩
end Go.Proofs.Ythdeoagoehkcfaa
