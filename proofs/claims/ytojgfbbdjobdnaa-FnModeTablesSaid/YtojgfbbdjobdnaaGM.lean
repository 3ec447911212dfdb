/- Mode tables are compared. No condition. -/
import Derived.Test.YtojgfbbdjobdnaaGE
import Derived.Test.YtojgfbbdjobdnaaMod9
namespace Go.Proofs.Ytojgfbbdjobdnaa
open Go.RowKit
set_option linter.unusedVariables false
set_option linter.unusedSimpArgs false
set_option maxRecDepth 20000
theorem likeModes_c (A A' : Option Addr) (B B' B2 B3 c c' : Nat) (xs ys : List ModeI) (w : World) (hs : Sl B w A (xs.flatMap ModeI.cells)) (hn : Nexts B2 w xs) (ht : Sl B' w A' (ys.flatMap ModeI.cells)) (hn2 : Nexts B3 w ys) (em : xs.map (·.m) = ys.map (·.m)) (hl : xs.length ≤ 1048576) (hz : ∀ x ∈ xs, x.m.next.length ≤ 1048576) :
    Calls Try.prog 15 #[.slice A xs.length c, .slice A' ys.length c'] w (Ret fun v w' => v = .bool true ∧ Ext w w') := by
  have el : xs.length = ys.length := by have := congrArg List.length em; simpa using this
  have Bhs := hs.1
  have Bhn := hn.1
  have Bht := ht.1
  have Bhn2 := hn2.1
  have X := Ext.refl w
  refine calls_of (args := [.slice A xs.length c, .slice A' ys.length c']) Try.func15 Try.ntmps15 rfl rfl ?_
  refine c_seqR ?_
  refine ops_cons rfl (ow_assign rfl ?_)
  refine ops_nil ?_
  refine c_seq ?_
  refine c_seqR ?_
  refine ops_cons rfl (ow_move rfl ?_)
  refine ops_cons rfl (ow_len Try.underlying24 rfl ?_)
  refine ops_cons rfl (ow_move rfl ?_)
  refine ops_cons rfl (ow_len Try.underlying24 rfl ?_)
  refine ops_cons rfl (ow_neq2 rfl rfl (fun h1 => absurd h1 (by rw [el]; simp)) (fun h1 => ?_))
  refine ops_nil ?_
  refine c_false rfl ?_
  refine c_skip ?_
  refine tq_n ?_
  refine c_seq ?_
  refine c_seqR ?_
  refine ops_cons rfl (ow_assign rfl ?_)
  refine ops_nil ?_
  refine c_block ?_
  refine c_loop (G := Nat) (fun k => [(0, .slice A xs.length c), (1, .slice A' ys.length c'), (5, .int .i64 (k : Nat))]) (fun k wr => k ≤ xs.length ∧ Sl B wr A (xs.flatMap ModeI.cells) ∧ Nexts B2 wr xs ∧ Sl B' wr A' (ys.flatMap ModeI.cells) ∧ Nexts B3 wr ys ∧ Ext w wr) (fun k => xs.length - k) 0 (.cons rfl (.cons rfl (.cons rfl (.nil _)))) ?_ ?_
  · exact ⟨by omega, hs, hn, ht, hn2, X⟩
  clear hs hn ht hn2
  clear X
  rintro k wr ⟨hk0, hs, hn, ht, hn2, X⟩
  refine c_seq ?_
  refine c_seqR ?_
  refine ops_cons rfl (ow_move rfl ?_)
  refine ops_cons rfl (ow_move rfl ?_)
  refine ops_cons rfl (ow_len Try.underlying24 rfl ?_)
  refine ops_cons rfl (ow_lss2 rfl rfl (fun hk => ?_) (fun hk => ?_))
  · skip
    obtain ⟨x, hx, dx⟩ := drop_at' hk
    obtain ⟨y, hy, _⟩ := drop_at (xs := ys) (k := k) (by omega)
    have exy : x.m = y.m := by have h1 := map_at (f := (·.m)) hx; rw [em, map_at hy] at h1; injection h1 with h1; exact h1.symm
    obtain ⟨my, Ay, cy⟩ := y
    simp only at exy
    subst exy
    have hlx := hz x (List.mem_of_getElem? hx)
    refine ops_nil ?_
    refine c_true rfl ?_
    refine c_skip ?_
    refine tq_n ?_
    refine c_seq ?_
    refine c_block ?_
    refine c_seqD [false, false, false, false, false, false, false, false, false, false, false, false, false, false, false, false, false, false, false, false, false, false, false, false, false, false, false, false, false, false, false, false, false, false, false, false, false, false] mixed (by kernel_rfl) ?_
    refine f_q rfl (fun wq sq => ow_move rfl ⟨rfl, Ext.refl _⟩) ?_
    refine f_q rfl (fun wq sq => ow_move rfl ⟨rfl, Ext.refl _⟩) ?_
    refine f_q rfl (fun wq sq => ow_indexT (hs.ext sq) ModeI.len rfl el24 rfl rfl rfl hx rfl ⟨rfl, Ext.refl _⟩) ?_
    refine f_q rfl (fun wq sq => ow_fieldAddr off71_0 rfl ⟨rfl, Ext.refl _⟩) ?_
    refine f_q rfl (fun wq sq => ow_loadTF (hs.ext sq) ModeI.len hx ti2 rfl rfl rfl ⟨rfl, Ext.refl _⟩) ?_
    refine f_q rfl (fun wq sq => ow_move rfl ⟨rfl, Ext.refl _⟩) ?_
    refine f_q rfl (fun wq sq => ow_move rfl ⟨rfl, Ext.refl _⟩) ?_
    refine f_q rfl (fun wq sq => ow_indexT (ht.ext sq) ModeI.len rfl el24 rfl rfl rfl hy rfl ⟨rfl, Ext.refl _⟩) ?_
    refine f_q rfl (fun wq sq => ow_fieldAddr off71_0 rfl ⟨rfl, Ext.refl _⟩) ?_
    refine f_q rfl (fun wq sq => ow_loadTF (ht.ext sq) ModeI.len hy ti2 rfl rfl rfl ⟨rfl, Ext.refl _⟩) ?_
    refine f_qb rfl (fun wq sq => ow_neq rfl rfl ⟨rfl, Ext.refl _⟩) (fun h2 => absurd h2 (by simp)) (fun h2 => ?_)
    refine f_q rfl (fun wq sq => ow_move rfl ⟨rfl, Ext.refl _⟩) ?_
    refine f_qw rfl rfl rfl (fun wq sq => ow_move rfl ⟨rfl, Ext.refl _⟩) ?_
    refine f_qw rfl rfl rfl (fun wq sq => ow_move rfl ⟨rfl, Ext.refl _⟩) ?_
    refine f_qw rfl rfl rfl (fun wq sq => ow_indexT (hs.ext sq) ModeI.len rfl el24 rfl rfl rfl hx rfl ⟨rfl, Ext.refl _⟩) ?_
    refine f_qw rfl rfl rfl (fun wq sq => ow_fieldAddr off71_1 rfl ⟨rfl, Ext.refl _⟩) ?_
    refine f_qw rfl rfl rfl (fun wq sq => ow_loadTF (hs.ext sq) ModeI.len hx ti2 rfl rfl rfl ⟨rfl, Ext.refl _⟩) ?_
    refine f_qw rfl rfl rfl (fun wq sq => ow_move rfl ⟨rfl, Ext.refl _⟩) ?_
    refine f_qw rfl rfl rfl (fun wq sq => ow_move rfl ⟨rfl, Ext.refl _⟩) ?_
    refine f_qw rfl rfl rfl (fun wq sq => ow_indexT (ht.ext sq) ModeI.len rfl el24 rfl rfl rfl hy rfl ⟨rfl, Ext.refl _⟩) ?_
    refine f_qw rfl rfl rfl (fun wq sq => ow_fieldAddr off71_1 rfl ⟨rfl, Ext.refl _⟩) ?_
    refine f_qw rfl rfl rfl (fun wq sq => ow_loadTF (ht.ext sq) ModeI.len hy ti2 rfl rfl rfl ⟨rfl, Ext.refl _⟩) ?_
    refine f_qwb rfl rfl rfl (fun wq sq => ow_neq rfl rfl ⟨rfl, Ext.refl _⟩) (fun h3 => absurd h3 (by simp)) (fun h3 => ?_)
    refine f_q rfl (fun wq sq => ow_pick rfl rfl ⟨rfl, Ext.refl _⟩) ?_
    refine f_q rfl (fun wq sq => ow_move rfl ⟨rfl, Ext.refl _⟩) ?_
    refine f_qw rfl rfl rfl (fun wq sq => ow_move rfl ⟨rfl, Ext.refl _⟩) ?_
    refine f_qw rfl rfl rfl (fun wq sq => ow_move rfl ⟨rfl, Ext.refl _⟩) ?_
    refine f_qw rfl rfl rfl (fun wq sq => ow_indexT (hs.ext sq) ModeI.len rfl el24 rfl rfl rfl hx rfl ⟨rfl, Ext.refl _⟩) ?_
    refine f_qw rfl rfl rfl (fun wq sq => ow_fieldAddr off71_2 rfl ⟨rfl, Ext.refl _⟩) ?_
    refine f_qw rfl rfl rfl (fun wq sq => ow_loadTF (hs.ext sq) ModeI.len hx ti26 rfl rfl rfl ⟨rfl, Ext.refl _⟩) ?_
    refine f_qw rfl rfl rfl (fun wq sq => ow_move rfl ⟨rfl, Ext.refl _⟩) ?_
    refine f_qw rfl rfl rfl (fun wq sq => ow_move rfl ⟨rfl, Ext.refl _⟩) ?_
    refine f_qw rfl rfl rfl (fun wq sq => ow_indexT (ht.ext sq) ModeI.len rfl el24 rfl rfl rfl hy rfl ⟨rfl, Ext.refl _⟩) ?_
    refine f_qw rfl rfl rfl (fun wq sq => ow_fieldAddr off71_2 rfl ⟨rfl, Ext.refl _⟩) ?_
    refine f_qw rfl rfl rfl (fun wq sq => ow_loadTF (ht.ext sq) ModeI.len hy ti26 rfl rfl rfl ⟨rfl, Ext.refl _⟩) ?_
    refine f_qw rfl rfl rfl (fun wq sq => ow_call ent14 rfl (likeInts_c _ _ _ _ _ _ x.m.next _ ((hn.at_ hx).ext sq) ((hn2.at_ hy).ext sq) hlx)) ?_
    refine f_qw rfl rfl rfl (fun wq sq => ow_not rfl ⟨rfl, Ext.refl _⟩) ?_
    refine f_q rfl (fun wq sq => ow_pick rfl rfl ⟨rfl, Ext.refl _⟩) ?_
    refine f_nil (fun w4 sq => ?_)
    have xq := sq
    replace hs := hs.ext xq
    replace hn := hn.ext xq
    replace ht := ht.ext xq
    replace hn2 := hn2.ext xq
    replace X := Ext.trans X xq; clear xq sq
    refine ops_nil ?_
    refine c_false rfl ?_
    refine c_skip ?_
    refine bq_n ?_
    refine tq_n ?_
    refine c_region ?_
    refine ops_cons rfl (ow_move rfl ?_)
    refine ops_cons rfl (ow_add rfl rfl (w64 (by omega)) ?_)
    refine ops_cons rfl (ow_assign rfl ?_)
    refine ops_nil ?_
    refine tq_n ⟨k + 1, (.cons rfl (.cons rfl (.cons rfl (.nil _)))), ?_, ?_⟩
    · exact ⟨by omega, hs, hn, ht, hn2, X⟩
    · first | omega | (dsimp only; omega)
  · skip
    refine ops_nil ?_
    refine c_false rfl ?_
    refine c_exit ?_
    refine tq_e ?_
    refine tq_e ?_
    refine bq_e ?_
    refine tq_n ?_
    refine c_seqR ?_
    refine ops_cons rfl (ow_assign rfl ?_)
    refine ops_nil ?_
    refine c_ret ?_
    refine fin_ret1 rfl rfl ?_
    exact ⟨by rfl, X⟩
end Go.Proofs.Ytojgfbbdjobdnaa
