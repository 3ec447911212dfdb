/- Copies, sizes and comparisons of mode tables. No condition. -/
import Derived.Test.YtimabffnoanciaaFlowT
import Derived.Test.YtimabffnoanciaaMod3
namespace Go.Proofs.Ytimabffnoanciaa
open Go.RowKit
set_option linter.unusedVariables false
set_option linter.unusedSimpArgs false
set_option maxRecDepth 20000
theorem szInt_c (A : Option Addr) (c n : Nat) (left : Int) (w : World) (hl : 0 ≤ left ∧ left ≤ 1048576) (hn : n ≤ 9223372036854775807) :
    Calls Try.prog 115 #[.slice A n c, .int .i64 left] w (Ret fun v w' => v = .int .i64 (szInt n left) ∧ Ext w w') := by
  have X := Ext.refl w
  refine calls_of (args := [.slice A n c, .int .i64 left]) Try.func115 Try.ntmps115 rfl rfl ?_
  refine c_seqR ?_
  refine ops_cons rfl (ow_assign rfl ?_)
  refine ops_nil ?_
  refine c_seqR ?_
  refine ops_cons rfl (ow_move rfl ?_)
  refine ops_cons rfl (ow_move rfl ?_)
  refine ops_cons rfl (ow_len Try.underlying24 rfl ?_)
  refine ops_cons rfl (ow_sub rfl rfl (w64 (by omega)) ?_)
  refine ops_cons rfl (ow_assign rfl ?_)
  refine ops_nil ?_
  refine c_seq ?_
  refine c_seqR ?_
  refine ops_cons rfl (ow_move rfl ?_)
  refine ops_cons rfl (ow_lss2 rfl rfl (fun h1 => ?_) (fun h1 => ?_))
  · skip
    refine ops_nil ?_
    refine c_true rfl ?_
    refine c_seqR ?_
    refine ops_cons rfl (ow_assign rfl ?_)
    refine ops_nil ?_
    refine c_ret ?_
    refine tq_r ?_
    refine fin_ret1 rfl rfl ?_
    refine ⟨congrArg (Value.int .i64) ?_, X⟩
    unfold szInt
    first | rw [if_pos ‹_›] | rw [if_neg ‹_›]
  · skip
    refine ops_nil ?_
    refine c_false rfl ?_
    refine c_skip ?_
    refine tq_n ?_
    refine c_seqR ?_
    refine ops_cons rfl (ow_move rfl ?_)
    refine ops_cons rfl (ow_assign rfl ?_)
    refine ops_nil ?_
    refine c_ret ?_
    refine fin_ret1 rfl rfl ?_
    refine ⟨congrArg (Value.int .i64) ?_, X⟩
    unfold szInt
    first | rw [if_pos ‹_›] | rw [if_neg ‹_›]

theorem szMode_c (x : ModeI) (left : Int) (w : World) (hl : 0 ≤ left ∧ left ≤ 1048576) (hn : x.m.next.length ≤ 9223372036854775807) :
    Calls Try.prog 88 #[.agg x.cells.toArray, .int .i64 left] w (Ret fun v w' => v = .int .i64 (szInt x.m.next.length left) ∧ Ext w w') := by
  have X := Ext.refl w
  refine calls_of (args := [.agg x.cells.toArray, .int .i64 left]) Try.func88 Try.ntmps88 rfl rfl ?_
  refine c_seqR ?_
  refine ops_cons rfl (ow_box rfl rfl ?_)
  intro g4 w3 eg4 b1 x2 zg4
  have lg4 : w.heap.size ≤ g4 := Nat.le_trans X.size (Nat.le_of_eq eg4.symm)
  replace X := Ext.trans X x2; clear x2
  refine ops_cons rfl (ow_assign rfl ?_)
  refine ops_nil ?_
  refine c_seqR ?_
  refine ops_cons rfl (ow_fieldAddrB off110_2 rfl rfl ?_)
  refine ops_cons rfl (ow_loadB b1 ti24 rfl rfl ?_)
  refine ops_cons rfl (ow_move rfl ?_)
  refine ops_cons rfl (ow_call ent115 rfl (ret_mono (szInt_c _ _ _ _ _ hl hn) ?_))
  rintro _ w6 ⟨rfl, x5⟩
  replace b1 := b1.ext x5
  replace X := Ext.trans X x5; clear x5
  refine ops_cons rfl (ow_assign rfl ?_)
  refine ops_nil ?_
  refine c_seq ?_
  refine c_seqR ?_
  refine ops_cons rfl (ow_move rfl ?_)
  refine ops_cons rfl (ow_lss2 rfl rfl (fun h7 => ?_) (fun h7 => ?_))
  · skip
    refine ops_nil ?_
    refine c_true rfl ?_
    refine c_seqR ?_
    refine ops_cons rfl (ow_assign rfl ?_)
    refine ops_nil ?_
    refine c_ret ?_
    refine tq_r ?_
    refine fin_ret1 rfl rfl ?_
    refine ⟨congrArg (Value.int .i64) ?_, X⟩
    first | rfl | (unfold szInt at *; split <;> split at * <;> omega)
  · skip
    refine ops_nil ?_
    refine c_false rfl ?_
    refine c_skip ?_
    refine tq_n ?_
    refine c_seqR ?_
    refine ops_cons rfl (ow_move rfl ?_)
    refine ops_cons rfl (ow_assign rfl ?_)
    refine ops_nil ?_
    refine c_ret ?_
    refine fin_ret1 rfl rfl ?_
    refine ⟨congrArg (Value.int .i64) ?_, X⟩
    first | rfl | (unfold szInt at *; split <;> split at * <;> omega)

theorem szModes_c (A : Option Addr) (B B2 c : Nat) (xs : List ModeI) (w : World) (hs : Sl B w A (xs.flatMap ModeI.cells)) (hn : Nexts B2 w xs) (hl : xs.length ≤ 9223372036854775807) :
    Calls Try.prog 42 #[.slice A xs.length c, .int .i64 1048576] w (Ret fun v w' => v = .int .i64 (szM xs 1048576) ∧ Ext w w') := by
  have Bhs := hs.1
  have Bhn := hn.1
  have X := Ext.refl w
  refine calls_of (args := [.slice A xs.length c, .int .i64 1048576]) Try.func42 Try.ntmps42 rfl rfl ?_
  refine c_seqR ?_
  refine ops_cons rfl (ow_assign rfl ?_)
  refine ops_nil ?_
  refine c_seqR ?_
  refine ops_cons rfl (ow_move rfl ?_)
  refine ops_cons rfl (ow_move rfl ?_)
  refine ops_cons rfl (ow_len Try.underlying56 rfl ?_)
  refine ops_cons rfl (ow_sub rfl rfl (w64 (by omega)) ?_)
  refine ops_cons rfl (ow_assign rfl ?_)
  refine ops_nil ?_
  refine c_seq ?_
  refine c_seqR ?_
  refine ops_cons rfl (ow_move rfl ?_)
  refine ops_cons rfl (ow_lss2 rfl rfl (fun h1 => ?_) (fun h1 => ?_))
  · skip
    refine ops_nil ?_
    refine c_true rfl ?_
    refine c_seqR ?_
    refine ops_cons rfl (ow_assign rfl ?_)
    refine ops_nil ?_
    refine c_ret ?_
    refine tq_r ?_
    refine fin_ret1 rfl rfl ?_
    refine ⟨congrArg (Value.int .i64) ?_, X⟩
    first
    | (unfold szM; rw [if_pos ‹_›]; done)
    | (rw [hi, drop_end hk]; rfl)
    | (rw [hi, dx, szMs, if_pos ‹_›])
  · skip
    refine ops_nil ?_
    refine c_false rfl ?_
    refine c_skip ?_
    refine tq_n ?_
    refine c_seq ?_
    refine c_seqR ?_
    refine ops_cons rfl (ow_assign rfl ?_)
    refine ops_nil ?_
    refine c_block ?_
    refine c_loop (G := Nat × Int) (fun ⟨k, left⟩ => [(0, .slice A xs.length c), (1, .int .i64 left), (5, .int .i64 (k : Nat))]) (fun ⟨k, left⟩ wr => k ≤ xs.length ∧ (0 ≤ left ∧ left ≤ 1048576) ∧ szM xs 1048576 = szMs (xs.drop k) left ∧ Sl B wr A (xs.flatMap ModeI.cells) ∧ Nexts B2 wr xs ∧ Ext w wr) (fun ⟨k, left⟩ => xs.length - k) (0, 1048576 - (xs.length : Int)) (.cons rfl (.cons rfl (.cons rfl (.nil _)))) ?_ ?_
    · exact ⟨by omega, by omega, (by unfold szM; rw [if_neg ‹_›]; rfl), hs, hn, X⟩
    clear hs hn
    clear X
    rintro ⟨k, left⟩ wr ⟨hk0, hl0, hi, hs, hn, X⟩
    refine c_seq ?_
    refine c_seqR ?_
    refine ops_cons rfl (ow_move rfl ?_)
    refine ops_cons rfl (ow_move rfl ?_)
    refine ops_cons rfl (ow_len Try.underlying56 rfl ?_)
    refine ops_cons rfl (ow_lss2 rfl rfl (fun hk => ?_) (fun hk => ?_))
    · skip
      obtain ⟨x, hx, dx⟩ := drop_at' hk
      refine ops_nil ?_
      refine c_true rfl ?_
      refine c_skip ?_
      refine tq_n ?_
      refine c_seq ?_
      refine c_block ?_
      refine c_seqR ?_
      refine ops_cons rfl (ow_move rfl ?_)
      refine ops_cons rfl (ow_move rfl ?_)
      refine ops_cons rfl (ow_indexT hs ModeI.len rfl el56 rfl rfl rfl hx rfl ?_)
      refine ops_cons rfl (ow_loadTA hs ModeI.len hx ti110 rfl ?_)
      refine ops_cons rfl (ow_move rfl ?_)
      have hsz : szInt x.m.next.length left ≤ 1048576 := by unfold szInt; split <;> omega
      refine ops_cons rfl (ow_call ent88 rfl (ret_mono (szMode_c _ _ _ hl0 (hn.len hx)) ?_))
      rintro _ w3 ⟨rfl, x2⟩
      replace hs := hs.ext x2
      replace hn := hn.ext x2
      replace X := Ext.trans X x2; clear x2
      refine ops_cons rfl (ow_assign rfl ?_)
      refine ops_nil ?_
      refine c_seqR ?_
      refine ops_cons rfl (ow_move rfl ?_)
      refine ops_cons rfl (ow_lss2 rfl rfl (fun h4 => ?_) (fun h4 => ?_))
      · skip
        refine ops_nil ?_
        refine c_true rfl ?_
        refine c_seqR ?_
        refine ops_cons rfl (ow_assign rfl ?_)
        refine ops_nil ?_
        refine c_ret ?_
        refine bq_r ?_
        refine tq_r ?_
        refine tq_r ?_
        refine bq_r ?_
        refine tq_r ?_
        refine fin_ret1 rfl rfl ?_
        refine ⟨congrArg (Value.int .i64) ?_, X⟩
        first
        | (unfold szM; rw [if_pos ‹_›]; done)
        | (rw [hi, drop_end hk]; rfl)
        | (rw [hi, dx, szMs, if_pos ‹_›])
      · skip
        refine ops_nil ?_
        refine c_false rfl ?_
        refine c_skip ?_
        refine bq_n ?_
        refine tq_n ?_
        refine c_region ?_
        refine ops_cons rfl (ow_move rfl ?_)
        refine ops_cons rfl (ow_add rfl rfl (w64 (by omega)) ?_)
        refine ops_cons rfl (ow_assign rfl ?_)
        refine ops_nil ?_
        refine tq_n ⟨(k + 1, szInt x.m.next.length left), (.cons rfl (.cons rfl (.cons rfl (.nil _)))), ?_, ?_⟩
        · exact ⟨by omega, by omega, (by rw [hi, dx, szMs, if_neg ‹_›]), hs, hn, X⟩
        · first | omega | (dsimp only; omega)
    · skip
      refine ops_nil ?_
      refine c_false rfl ?_
      refine c_exit ?_
      refine tq_e ?_
      refine tq_e ?_
      refine bq_e ?_
      refine tq_n ?_
      refine c_seqR ?_
      refine ops_cons rfl (ow_move rfl ?_)
      refine ops_cons rfl (ow_assign rfl ?_)
      refine ops_nil ?_
      refine c_ret ?_
      refine fin_ret1 rfl rfl ?_
      refine ⟨congrArg (Value.int .i64) ?_, X⟩
      first
      | (unfold szM; rw [if_pos ‹_›]; done)
      | (rw [hi, drop_end hk]; rfl)
      | (rw [hi, dx, szMs, if_pos ‹_›])

theorem toInt_c (A : Option Addr) (B c : Nat) (xs : List Int) (w : World) (hs : Sl B w A (xs.flatMap eI)) (hl : xs.length ≤ 1048576) :
    Calls Try.prog 117 #[.slice A xs.length c] w (Ret fun v w' => ∃ A' c', v = .slice A' xs.length c' ∧ Own w' w.heap.size 2 1 A' xs.length c' (xs.flatMap eI) ∧ Ext w w') := by
  have Bhs := hs.1
  have X := Ext.refl w
  refine calls_of (args := [.slice A xs.length c]) Try.func117 Try.ntmps117 rfl rfl ?_
  refine c_seqR ?_
  refine ops_cons rfl (ow_assign rfl ?_)
  refine ops_nil ?_
  refine c_seqR ?_
  refine ops_cons rfl (ow_move rfl ?_)
  refine ops_cons rfl (ow_len Try.underlying24 rfl ?_)
  refine ops_cons rfl (ow_make el24 ti2 rfl rfl rfl rfl rfl rfl (by omega) (by omega) ?_)
  intro gO w2 egO oO x1
  replace oO := Own.low oO X.size
  replace hs := hs.ext x1
  replace X := Ext.trans X x1; clear x1
  replace oO := oO.to (cs' := (xs.take 0 ++ List.replicate (xs.length - 0) 0).flatMap eI) (by rw [List.take_zero, List.nil_append, Nat.sub_zero, ← repL_flat]; rfl)
  refine ops_cons rfl (ow_assign rfl ?_)
  refine ops_nil ?_
  refine c_seq ?_
  refine c_seqR ?_
  refine ops_cons rfl (ow_assign rfl ?_)
  refine ops_nil ?_
  refine c_block ?_
  refine c_loop (G := Nat) (fun k => [(0, .slice A xs.length c), (3, .slice (some ⟨gO, 0, none⟩) xs.length xs.length), (4, .int .i64 (k : Nat))]) (fun k wr => k ≤ xs.length ∧ Sl B wr A (xs.flatMap eI) ∧ Own wr w.heap.size 2 1 (some ⟨gO, 0, none⟩) xs.length xs.length ((xs.take k ++ List.replicate (xs.length - k) 0).flatMap eI) ∧ Ext w wr) (fun k => xs.length - k) 0 (.cons rfl (.cons rfl (.cons rfl (.nil _)))) ?_ ?_
  · exact ⟨by omega, hs, oO, X⟩
  clear hs oO
  clear X
  rintro k wr ⟨hk0, hs, oO, X⟩
  refine c_seq ?_
  refine c_seqR ?_
  refine ops_cons rfl (ow_move rfl ?_)
  refine ops_cons rfl (ow_move rfl ?_)
  refine ops_cons rfl (ow_len Try.underlying24 rfl ?_)
  refine ops_cons rfl (ow_lss2 rfl rfl (fun hk => ?_) (fun hk => ?_))
  · skip
    obtain ⟨x, hx, dx⟩ := drop_at' hk
    refine ops_nil ?_
    refine c_true rfl ?_
    refine c_skip ?_
    refine tq_n ?_
    refine c_seq ?_
    refine c_block ?_
    refine c_region ?_
    refine ops_cons rfl (ow_move rfl ?_)
    refine ops_cons rfl (ow_move rfl ?_)
    refine ops_cons rfl (ow_move rfl ?_)
    refine ops_cons rfl (ow_move rfl ?_)
    refine ops_cons rfl (ow_indexT hs eI_len rfl el24 rfl rfl rfl hx rfl ?_)
    refine ops_cons rfl (ow_loadT hs eI_len hx ti2 rfl rfl rfl ?_)
    refine ops_cons rfl (ow_indexT (oO).sl eI_len rfl el24 rfl (by simp <;> omega) rfl (at_fill (by omega)) rfl ?_)
    refine ops_cons rfl (ow_storeR oO ti2 rfl rfl rfl rfl (by omega) (by omega) rfl ?_)
    intro w4 oN hg3 z5
    replace hs := hs.grown hg3 (fun g hg => Nat.le_trans Bhs (Own.lt oO hg).1)
    replace X := X.grown hg3 X.size (fun g hg => (Own.lt oO hg).1)
    clear hg3 z5
    replace oN := oN.to (cs' := (xs.take (k + 1) ++ List.replicate (xs.length - (k + 1)) 0).flatMap eI) (by rw [← set_fill hx, ← set_flat eI_len x _ k (by simp <;> omega)]; try rfl)
    refine ops_nil ?_
    refine bq_n ?_
    refine tq_n ?_
    refine c_region ?_
    refine ops_cons rfl (ow_move rfl ?_)
    refine ops_cons rfl (ow_add rfl rfl (w64 (by omega)) ?_)
    refine ops_cons rfl (ow_assign rfl ?_)
    refine ops_nil ?_
    refine tq_n ⟨k + 1, (.cons rfl (.cons rfl (.cons rfl (.nil _)))), ?_, ?_⟩
    · exact ⟨by omega, hs, oN, X⟩
    · omega
  · skip
    rw [end_fill hk] at oO
    refine ops_nil ?_
    refine c_false rfl ?_
    refine c_exit ?_
    refine tq_e ?_
    refine tq_e ?_
    refine bq_e ?_
    refine tq_n ?_
    refine c_seqR ?_
    refine ops_cons rfl (ow_move rfl ?_)
    refine ops_cons rfl (ow_assign rfl ?_)
    refine ops_nil ?_
    refine c_ret ?_
    refine fin_ret1 rfl rfl ?_
    exact ⟨_, _, rfl, oO, X⟩

theorem eqInt_c (A A' : Option Addr) (B B' c c' : Nat) (xs : List Int) (w : World) (hs : Sl B w A (xs.flatMap eI)) (ht : Sl B' w A' (xs.flatMap eI)) (hl : xs.length ≤ 1048576) :
    Calls Try.prog 46 #[.slice A xs.length c, .slice A' xs.length c'] w (Ret fun v w' => v = .bool true ∧ Ext w w') := by
  have Bhs := hs.1
  have Bht := ht.1
  have X := Ext.refl w
  refine calls_of (args := [.slice A xs.length c, .slice A' xs.length c']) Try.func46 Try.ntmps46 rfl rfl ?_
  refine c_seqR ?_
  refine ops_cons rfl (ow_assign rfl ?_)
  refine ops_nil ?_
  refine c_seq ?_
  refine c_seqR ?_
  refine ops_cons rfl (ow_move rfl ?_)
  refine ops_cons rfl (ow_len Try.underlying24 rfl ?_)
  refine ops_cons rfl (ow_move rfl ?_)
  refine ops_cons rfl (ow_len Try.underlying24 rfl ?_)
  refine ops_cons rfl (ow_neq2 rfl rfl (fun h1 => absurd h1 (by simp)) (fun h1 => ?_))
  refine ops_nil ?_
  refine c_false rfl ?_
  refine c_skip ?_
  refine tq_n ?_
  refine c_seq ?_
  refine c_seqR ?_
  refine ops_cons rfl (ow_assign rfl ?_)
  refine ops_nil ?_
  refine c_block ?_
  refine c_loop (G := Nat) (fun k => [(0, .slice A xs.length c), (1, .slice A' xs.length c'), (5, .int .i64 (k : Nat))]) (fun k wr => k ≤ xs.length ∧ Sl B wr A (xs.flatMap eI) ∧ Sl B' wr A' (xs.flatMap eI) ∧ Ext w wr) (fun k => xs.length - k) 0 (.cons rfl (.cons rfl (.cons rfl (.nil _)))) ?_ ?_
  · exact ⟨by omega, hs, ht, X⟩
  clear hs ht
  clear X
  rintro k wr ⟨hk0, hs, ht, X⟩
  refine c_seq ?_
  refine c_seqR ?_
  refine ops_cons rfl (ow_move rfl ?_)
  refine ops_cons rfl (ow_move rfl ?_)
  refine ops_cons rfl (ow_len Try.underlying24 rfl ?_)
  refine ops_cons rfl (ow_lss2 rfl rfl (fun hk => ?_) (fun hk => ?_))
  · skip
    obtain ⟨x, hx, dx⟩ := drop_at' hk
    refine ops_nil ?_
    refine c_true rfl ?_
    refine c_skip ?_
    refine tq_n ?_
    refine c_seq ?_
    refine c_block ?_
    refine c_seqD [false, false, false, false, false, false, false, false, false] mixed (by kernel_rfl) ?_
    refine f_q rfl (fun wq sq => ow_move rfl ⟨rfl, Ext.refl _⟩) ?_
    refine f_q rfl (fun wq sq => ow_move rfl ⟨rfl, Ext.refl _⟩) ?_
    refine f_q rfl (fun wq sq => ow_indexT (hs.ext sq) eI_len rfl el24 rfl rfl rfl hx rfl ⟨rfl, Ext.refl _⟩) ?_
    refine f_q rfl (fun wq sq => ow_loadT (hs.ext sq) eI_len hx ti2 rfl rfl rfl ⟨rfl, Ext.refl _⟩) ?_
    refine f_q rfl (fun wq sq => ow_move rfl ⟨rfl, Ext.refl _⟩) ?_
    refine f_q rfl (fun wq sq => ow_move rfl ⟨rfl, Ext.refl _⟩) ?_
    refine f_q rfl (fun wq sq => ow_indexT (ht.ext sq) eI_len rfl el24 rfl rfl rfl hx rfl ⟨rfl, Ext.refl _⟩) ?_
    refine f_q rfl (fun wq sq => ow_loadT (ht.ext sq) eI_len hx ti2 rfl rfl rfl ⟨rfl, Ext.refl _⟩) ?_
    refine f_qb rfl (fun wq sq => ow_neq rfl rfl ⟨rfl, Ext.refl _⟩) (fun h2 => absurd h2 (by simp)) (fun h2 => ?_)
    refine f_nil (fun w3 sq => ?_)
    have xq := sq
    replace hs := hs.ext xq
    replace ht := ht.ext xq
    replace X := Ext.trans X xq; clear xq sq
    refine ops_nil ?_
    refine c_false rfl ?_
    refine c_skip ?_
    refine bq_n ?_
    refine tq_n ?_
    refine c_region ?_
    refine ops_cons rfl (ow_move rfl ?_)
    refine ops_cons rfl (ow_add rfl rfl (w64 (by omega)) ?_)
    refine ops_cons rfl (ow_assign rfl ?_)
    refine ops_nil ?_
    refine tq_n ⟨k + 1, (.cons rfl (.cons rfl (.cons rfl (.nil _)))), ?_, ?_⟩
    · exact ⟨by omega, hs, ht, X⟩
    · omega
  · skip
    refine ops_nil ?_
    refine c_false rfl ?_
    refine c_exit ?_
    refine tq_e ?_
    refine tq_e ?_
    refine bq_e ?_
    refine tq_n ?_
    refine c_seqR ?_
    refine ops_cons rfl (ow_assign rfl ?_)
    refine ops_nil ?_
    refine c_ret ?_
    refine fin_ret1 rfl rfl ?_
    exact ⟨by rfl, X⟩

theorem toMode_c (x : ModeI) (B : Nat) (w : World) (hs : Sl B w x.A (x.m.next.flatMap eI)) (hl : x.m.next.length ≤ 1048576) :
    Calls Try.prog 92 #[.agg x.cells.toArray] w (Ret fun v w' => ∃ A' c', v = .agg (⟨x.m, A', c'⟩ : ModeI).cells.toArray ∧ Own w' w.heap.size 2 1 A' x.m.next.length c' (x.m.next.flatMap eI) ∧ Ext w w') := by
  have Bhs := hs.1
  have X := Ext.refl w
  refine calls_of (args := [.agg x.cells.toArray]) Try.func92 Try.ntmps92 rfl rfl ?_
  refine c_seqR ?_
  refine ops_cons rfl (ow_box rfl rfl ?_)
  intro g4 w3 eg4 b1 x2 zg4
  have lg4 : w.heap.size ≤ g4 := Nat.le_trans X.size (Nat.le_of_eq eg4.symm)
  have pg4hs := Nat.le_trans hs.1 (Nat.le_of_eq eg4.symm)
  replace hs := hs.ext x2
  replace X := Ext.trans X x2; clear x2
  refine ops_cons rfl (ow_alloc ti114 ?_)
  intro g8 w7 eg8 b5 x6 zg8
  have lg8 : w.heap.size ≤ g8 := Nat.le_trans X.size (Nat.le_of_eq eg8.symm)
  have pg8hs := Nat.le_trans hs.1 (Nat.le_of_eq eg8.symm)
  have ng8b1 := Nat.lt_of_lt_of_eq b1.lt eg8.symm
  replace hs := hs.ext x6
  replace b1 := b1.ext x6
  replace X := Ext.trans X x6; clear x6
  refine ops_nil ?_
  refine c_seqR ?_
  refine ops_cons rfl (ow_alloc ti114 ?_)
  intro g12 w11 eg12 b9 x10 zg12
  have lg12 : w.heap.size ≤ g12 := Nat.le_trans X.size (Nat.le_of_eq eg12.symm)
  have pg12hs := Nat.le_trans hs.1 (Nat.le_of_eq eg12.symm)
  have ng12b1 := Nat.lt_of_lt_of_eq b1.lt eg12.symm
  have ng12b5 := Nat.lt_of_lt_of_eq b5.lt eg12.symm
  replace hs := hs.ext x10
  replace b1 := b1.ext x10
  replace b5 := b5.ext x10
  replace X := Ext.trans X x10; clear x10
  refine ops_nil ?_
  refine c_seqR ?_
  refine ops_cons rfl (ow_fieldAddrB off110_0 rfl rfl ?_)
  refine ops_cons rfl (ow_loadB b1 ti2 rfl rfl ?_)
  refine ops_cons rfl (ow_fieldAddrB off114_0 rfl rfl ?_)
  refine ops_cons rfl (ow_storeB b9 ti2 rfl rfl rfl rfl rfl rfl ?_)
  intro w14 b16 hg13 z15
  replace hs := hs.grown hg13 (by intro g hg; injection hg; omega)
  replace b1 := b1.grown hg13 (by intro h; injection h; omega)
  replace b5 := b5.grown hg13 (by intro h; injection h; omega)
  replace X := X.grown hg13 X.size (by intro g hg; injection hg; omega)
  clear hg13 b9
  refine ops_nil ?_
  refine c_seqR ?_
  refine ops_cons rfl (ow_fieldAddrB off110_1 rfl rfl ?_)
  refine ops_cons rfl (ow_loadB b1 ti2 rfl rfl ?_)
  refine ops_cons rfl (ow_fieldAddrB off114_1 rfl rfl ?_)
  refine ops_cons rfl (ow_storeB b16 ti2 rfl rfl rfl rfl rfl rfl ?_)
  intro w18 b20 hg17 z19
  replace hs := hs.grown hg17 (by intro g hg; injection hg; omega)
  replace b1 := b1.grown hg17 (by intro h; injection h; omega)
  replace b5 := b5.grown hg17 (by intro h; injection h; omega)
  replace X := X.grown hg17 X.size (by intro g hg; injection hg; omega)
  clear hg17 b16
  refine ops_nil ?_
  refine c_seqR ?_
  refine ops_cons rfl (ow_fieldAddrB off110_2 rfl rfl ?_)
  refine ops_cons rfl (ow_loadB b1 ti24 rfl rfl ?_)
  refine ops_cons rfl (ow_call ent117 rfl (ret_mono (toInt_c _ _ _ _ _ hs hl) ?_))
  rintro _ w22 ⟨A23, c24, rfl, oN, x21⟩
  replace oN := Own.low oN X.size
  replace hs := hs.ext x21
  replace b1 := b1.ext x21
  replace b5 := b5.ext x21
  replace b20 := b20.ext x21
  replace X := Ext.trans X x21; clear x21
  refine ops_cons rfl (ow_fieldAddrB off114_2 rfl rfl ?_)
  refine ops_cons rfl (ow_storeB b20 ti24 rfl rfl rfl rfl rfl rfl ?_)
  intro w26 b28 hg25 z27
  replace hs := hs.grown hg25 (by intro g hg; injection hg; omega)
  replace b1 := b1.grown hg25 (by intro h; injection h; omega)
  replace b5 := b5.grown hg25 (by intro h; injection h; omega)
  replace oN := oN.grownBlk hg25 (Own.neT oN b20 (by decide))
  replace X := X.grown hg25 X.size (by intro g hg; injection hg; omega)
  clear hg25 b20
  refine ops_nil ?_
  refine c_seqR ?_
  refine ops_cons rfl (ow_loadAB b28 ti114 rfl rfl ?_)
  refine ops_cons rfl (ow_storeB b5 ti114 rfl rfl rfl rfl rfl rfl ?_)
  intro w30 b32 hg29 z31
  replace hs := hs.grown hg29 (by intro g hg; injection hg; omega)
  replace b1 := b1.grown hg29 (by intro h; injection h; omega)
  replace oN := oN.grownBlk hg29 (Own.neT oN b5 (by decide))
  replace b28 := b28.grown hg29 (by intro h; injection h; omega)
  replace X := X.grown hg29 X.size (by intro g hg; injection hg; omega)
  clear hg29 b5
  refine ops_nil ?_
  refine c_ret ?_
  refine fin_cell1 rfl rfl b32 ti114 rfl ?_
  exact ⟨_, _, rfl, oN, X⟩

theorem toModes_c (A : Option Addr) (B B2 c : Nat) (xs : List ModeI) (w : World) (hs : Sl B w A (xs.flatMap ModeI.cells)) (hn : Nexts B2 w xs) (hl : xs.length ≤ 1048576) (hz : ∀ x ∈ xs, x.m.next.length ≤ 1048576) :
    Calls Try.prog 44 #[.slice A xs.length c] w (Ret fun v w' => ∃ A' c' ys, v = .slice A' (List.length ys) c' ∧ ys.map (·.m) = xs.map (·.m) ∧ Disj ys ∧ Own w' w.heap.size 114 3 A' ys.length c' (ys.flatMap ModeI.cells) ∧ NOwn w' w.heap.size 2 ys ∧ Ext w w') := by
  have Bhs := hs.1
  have Bhn := hn.1
  have X := Ext.refl w
  refine calls_of (args := [.slice A xs.length c]) Try.func44 Try.ntmps44 rfl rfl ?_
  refine c_seqR ?_
  refine ops_cons rfl (ow_assign rfl ?_)
  refine ops_nil ?_
  refine c_seqR ?_
  refine ops_cons rfl (ow_move rfl ?_)
  refine ops_cons rfl (ow_len Try.underlying56 rfl ?_)
  refine ops_cons rfl (ow_make el60 ti114 rfl rfl rfl rfl rfl rfl (by omega) (by omega) ?_)
  intro gO w2 egO oO x1
  replace oO := Own.low oO X.size
  replace hs := hs.ext x1
  replace hn := hn.ext x1
  replace X := Ext.trans X x1; clear x1
  replace oO := oO.to (cs' := (([] : List ModeI) ++ List.replicate (xs.length - 0) (⟨⟨0, 0, []⟩, none, 0⟩ : ModeI)).flatMap ModeI.cells) (by rw [List.nil_append, Nat.sub_zero, ← repL_flat]; try rfl)
  refine ops_cons rfl (ow_assign rfl ?_)
  refine ops_nil ?_
  refine c_seq ?_
  refine c_seqR ?_
  refine ops_cons rfl (ow_assign rfl ?_)
  refine ops_nil ?_
  refine c_block ?_
  refine c_loop (G := Nat × List ModeI) (fun ⟨k, ys⟩ => [(0, .slice A xs.length c), (2, .slice none 0 0), (3, .slice (some ⟨gO, 0, none⟩) xs.length xs.length), (4, .int .i64 (k : Nat))]) (fun ⟨k, ys⟩ wr => k ≤ xs.length ∧ ys.length = k ∧ ys.map (·.m) = (xs.take k).map (·.m) ∧ Disj ys ∧ Own wr w.heap.size 114 3 (some ⟨gO, 0, none⟩) xs.length xs.length ((ys ++ List.replicate (xs.length - k) (⟨⟨0, 0, []⟩, none, 0⟩ : ModeI)).flatMap ModeI.cells) ∧ NOwn wr w.heap.size 2 ys ∧ Sl B wr A (xs.flatMap ModeI.cells) ∧ Nexts B2 wr xs ∧ Ext w wr) (fun ⟨k, ys⟩ => xs.length - k) (0, []) (.cons rfl (.cons rfl (.cons rfl (.cons rfl (.nil _))))) ?_ ?_
  · exact ⟨by omega, rfl, rfl, Disj.nil_, oO, NOwn.nil_, hs, hn, X⟩
  clear hs hn oO
  clear X
  rintro ⟨k, ys⟩ wr ⟨hk0, hy, em, hd, oO, oM, hs, hn, X⟩
  refine c_seq ?_
  refine c_seqR ?_
  refine ops_cons rfl (ow_move rfl ?_)
  refine ops_cons rfl (ow_move rfl ?_)
  refine ops_cons rfl (ow_len Try.underlying56 rfl ?_)
  refine ops_cons rfl (ow_lss2 rfl rfl (fun hk => ?_) (fun hk => ?_))
  · skip
    obtain ⟨x, hx, dx⟩ := drop_at' hk
    refine ops_nil ?_
    refine c_true rfl ?_
    refine c_skip ?_
    refine tq_n ?_
    refine c_seq ?_
    refine c_block ?_
    refine c_region ?_
    refine ops_cons rfl (ow_move rfl ?_)
    refine ops_cons rfl (ow_move rfl ?_)
    refine ops_cons rfl (ow_move rfl ?_)
    refine ops_cons rfl (ow_move rfl ?_)
    refine ops_cons rfl (ow_indexT hs ModeI.len rfl el56 rfl rfl rfl hx rfl ?_)
    have hnx := hn.at_ hx
    have hlx := hz x (List.mem_of_getElem? hx)
    refine ops_cons rfl (ow_loadTA hs ModeI.len hx ti110 rfl ?_)
    have hbd := fun y hy g hg => (Own.lt (oM y hy).1 (g := g) hg).2
    refine ops_cons rfl (ow_call ent92 rfl (ret_mono (toMode_c _ _ _ hnx hlx) ?_))
    rintro _ w4 ⟨AN, cN, rfl, oN, x3⟩
    have LoN := X.size
    replace oO := oO.ext x3
    replace oM := oM.ext x3
    replace hs := hs.ext x3
    replace hn := hn.ext x3
    replace hnx := hnx.ext x3
    replace X := Ext.trans X x3; clear x3
    have hnb := fun g hg => (Own.lt oN (g := g) hg).1
    replace oN := Own.low oN LoN
    refine ops_cons rfl (ow_indexT (oO).sl ModeI.len rfl el60 rfl (by simp [hy]; omega) rfl (fill2_at hy (by omega)) rfl ?_)
    refine ops_cons rfl (ow_storeR oO ti114 rfl rfl rfl rfl (by omega) (by omega) rfl ?_)
    intro w6 oP hg5 z7
    replace oM := oM.grownO oO hg5 (by decide)
    replace hs := hs.grown hg5 (fun g hg => Nat.le_trans Bhs (Own.lt oO hg).1)
    replace hn := hn.grown hg5 (fun g hg => Nat.le_trans Bhn (Own.lt oO hg).1)
    replace hnx := hnx.grown hg5 (fun g hg => Nat.le_trans Bhn (Own.lt oO hg).1)
    replace oN := oN.grown hg5 (Own.neO oN oO (by decide))
    replace X := X.grown hg5 X.size (fun g hg => (Own.lt oO hg).1)
    clear hg5 z7
    replace oP := oP.to (cs' := ((ys ++ [(⟨x.m, AN, cN⟩ : ModeI)]) ++ List.replicate (xs.length - (k + 1)) (⟨⟨0, 0, []⟩, none, 0⟩ : ModeI)).flatMap ModeI.cells) (by rw [← fill2_set hy (by omega), ← set_flat ModeI.len _ _ k (by simp [hy]; omega)]; try rfl)
    refine ops_nil ?_
    refine bq_n ?_
    refine tq_n ?_
    refine c_region ?_
    refine ops_cons rfl (ow_move rfl ?_)
    refine ops_cons rfl (ow_add rfl rfl (w64 (by omega)) ?_)
    refine ops_cons rfl (ow_assign rfl ?_)
    refine ops_nil ?_
    refine tq_n ⟨(k + 1, ys ++ [⟨x.m, AN, cN⟩]), (.cons rfl (.cons rfl (.cons rfl (.cons rfl (.nil _))))), ?_, ?_⟩
    · exact ⟨by omega, (by simp [hy]), (by rw [List.take_add_one, hx]; simp [em]), hd.snoc (x := ⟨x.m, AN, cN⟩) (fun y hy g hg e => absurd (hbd y hy g hg) (Nat.not_lt.2 (hnb g e))), oP, oM.snoc (x := ⟨x.m, AN, cN⟩) oN (by show x.m.next.length ≤ _; omega), hs, hn, X⟩
    · first | omega | (dsimp only; omega)
  · skip
    rw [fill2_end (by omega)] at oO
    have hkk : k = xs.length := by omega
    refine ops_nil ?_
    refine c_false rfl ?_
    refine c_exit ?_
    refine tq_e ?_
    refine tq_e ?_
    refine bq_e ?_
    refine tq_n ?_
    refine c_seqR ?_
    refine ops_cons rfl (ow_move rfl ?_)
    refine ops_cons rfl (ow_assign rfl ?_)
    refine ops_nil ?_
    refine c_ret ?_
    refine fin_ret1 rfl rfl ?_
    have e : ys.length = xs.length := by omega
    rw [← e] at oO
    exact ⟨_, _, ys, by rw [e], by rw [em, List.take_of_length_le (by omega)], hd, oO, oM, X⟩

theorem eqMode_c (m : Mode) (A1 A2 : Option Addr) (c1 c2 B B2 : Nat) (w : World) (hs : Sl B w A1 (m.next.flatMap eI)) (ht : Sl B2 w A2 (m.next.flatMap eI)) (hl : m.next.length ≤ 1048576) :
    Calls Try.prog 95 #[.agg (⟨m, A1, c1⟩ : ModeI).cells.toArray, .agg (⟨m, A2, c2⟩ : ModeI).cells.toArray] w (Ret fun v w' => v = .bool true ∧ Ext w w') := by
  have Bhs := hs.1
  have Bht := ht.1
  have X := Ext.refl w
  refine calls_of (args := [.agg (⟨m, A1, c1⟩ : ModeI).cells.toArray, .agg (⟨m, A2, c2⟩ : ModeI).cells.toArray]) Try.func95 Try.ntmps95 rfl rfl ?_
  refine c_seqR ?_
  refine ops_cons rfl (ow_box rfl rfl ?_)
  intro g4 w3 eg4 b1 x2 zg4
  have lg4 : w.heap.size ≤ g4 := Nat.le_trans X.size (Nat.le_of_eq eg4.symm)
  have pg4hs := Nat.le_trans hs.1 (Nat.le_of_eq eg4.symm)
  have pg4ht := Nat.le_trans ht.1 (Nat.le_of_eq eg4.symm)
  replace hs := hs.ext x2
  replace ht := ht.ext x2
  replace X := Ext.trans X x2; clear x2
  refine ops_cons rfl (ow_box rfl rfl ?_)
  intro g8 w7 eg8 b5 x6 zg8
  have lg8 : w.heap.size ≤ g8 := Nat.le_trans X.size (Nat.le_of_eq eg8.symm)
  have pg8hs := Nat.le_trans hs.1 (Nat.le_of_eq eg8.symm)
  have pg8ht := Nat.le_trans ht.1 (Nat.le_of_eq eg8.symm)
  have ng8b1 := Nat.lt_of_lt_of_eq b1.lt eg8.symm
  replace hs := hs.ext x6
  replace ht := ht.ext x6
  replace b1 := b1.ext x6
  replace X := Ext.trans X x6; clear x6
  refine ops_cons rfl (ow_assign rfl ?_)
  refine ops_nil ?_
  refine c_seq ?_
  refine c_seqR ?_
  refine ops_cons rfl (ow_fieldAddrB off114_0 rfl rfl ?_)
  refine ops_cons rfl (ow_loadB b1 ti2 rfl rfl ?_)
  refine ops_cons rfl (ow_fieldAddrB off114_0 rfl rfl ?_)
  refine ops_cons rfl (ow_loadB b5 ti2 rfl rfl ?_)
  refine ops_cons rfl (ow_neq2 rfl rfl (fun h9 => absurd h9 (by simp)) (fun h9 => ?_))
  refine ops_nil ?_
  refine c_false rfl ?_
  refine c_skip ?_
  refine tq_n ?_
  refine c_seq ?_
  refine c_seqR ?_
  refine ops_cons rfl (ow_fieldAddrB off114_1 rfl rfl ?_)
  refine ops_cons rfl (ow_loadB b1 ti2 rfl rfl ?_)
  refine ops_cons rfl (ow_fieldAddrB off114_1 rfl rfl ?_)
  refine ops_cons rfl (ow_loadB b5 ti2 rfl rfl ?_)
  refine ops_cons rfl (ow_neq2 rfl rfl (fun h10 => absurd h10 (by simp)) (fun h10 => ?_))
  refine ops_nil ?_
  refine c_false rfl ?_
  refine c_skip ?_
  refine tq_n ?_
  refine c_seq ?_
  refine c_seqR ?_
  refine ops_cons rfl (ow_fieldAddrB off114_2 rfl rfl ?_)
  refine ops_cons rfl (ow_loadB b1 ti24 rfl rfl ?_)
  refine ops_cons rfl (ow_fieldAddrB off114_2 rfl rfl ?_)
  refine ops_cons rfl (ow_loadB b5 ti24 rfl rfl ?_)
  refine ops_cons rfl (ow_call ent46 rfl (ret_mono (eqInt_c _ _ _ _ _ _ _ _ hs ht hl) ?_))
  rintro _ w12 ⟨rfl, x11⟩
  replace hs := hs.ext x11
  replace ht := ht.ext x11
  replace b1 := b1.ext x11
  replace b5 := b5.ext x11
  replace X := Ext.trans X x11; clear x11
  refine ops_cons rfl (ow_not rfl ?_)
  refine ops_nil ?_
  refine c_false rfl ?_
  refine c_skip ?_
  refine tq_n ?_
  refine c_seqR ?_
  refine ops_cons rfl (ow_assign rfl ?_)
  refine ops_nil ?_
  refine c_ret ?_
  refine fin_ret1 rfl rfl ?_
  exact ⟨by rfl, X⟩

theorem eqModes_c (A A' : Option Addr) (B B' B2 B3 c c' : Nat) (xs ys : List ModeI) (w : World) (hs : Sl B w A (xs.flatMap ModeI.cells)) (hn : Nexts B2 w xs) (ht : Sl B' w A' (ys.flatMap ModeI.cells)) (hn2 : Nexts B3 w ys) (em : xs.map (·.m) = ys.map (·.m)) (hl : xs.length ≤ 1048576) (hz : ∀ x ∈ xs, x.m.next.length ≤ 1048576) :
    Calls Try.prog 47 #[.slice A xs.length c, .slice A' ys.length c'] w (Ret fun v w' => v = .bool true ∧ Ext w w') := by
  have el : xs.length = ys.length := by have := congrArg List.length em; simpa using this
  have Bhs := hs.1
  have Bhn := hn.1
  have Bht := ht.1
  have Bhn2 := hn2.1
  have X := Ext.refl w
  refine calls_of (args := [.slice A xs.length c, .slice A' ys.length c']) Try.func47 Try.ntmps47 rfl rfl ?_
  refine c_seqR ?_
  refine ops_cons rfl (ow_assign rfl ?_)
  refine ops_nil ?_
  refine c_seq ?_
  refine c_seqR ?_
  refine ops_cons rfl (ow_move rfl ?_)
  refine ops_cons rfl (ow_len Try.underlying60 rfl ?_)
  refine ops_cons rfl (ow_move rfl ?_)
  refine ops_cons rfl (ow_len Try.underlying60 rfl ?_)
  refine ops_cons rfl (ow_neq2 rfl rfl (fun h1 => absurd h1 (by rw [el]; simp)) (fun h1 => ?_))
  refine ops_nil ?_
  refine c_false rfl ?_
  refine c_skip ?_
  refine tq_n ?_
  refine c_seq ?_
  refine c_seqR ?_
  refine ops_cons rfl (ow_assign rfl ?_)
  refine ops_nil ?_
  refine c_block ?_
  refine c_loop (G := Nat) (fun k => [(0, .slice A xs.length c), (1, .slice A' ys.length c'), (5, .int .i64 (k : Nat))]) (fun k wr => k ≤ xs.length ∧ Sl B wr A (xs.flatMap ModeI.cells) ∧ Nexts B2 wr xs ∧ Sl B' wr A' (ys.flatMap ModeI.cells) ∧ Nexts B3 wr ys ∧ Ext w wr) (fun k => xs.length - k) 0 (.cons rfl (.cons rfl (.cons rfl (.nil _)))) ?_ ?_
  · exact ⟨by omega, hs, hn, ht, hn2, X⟩
  clear hs hn ht hn2
  clear X
  rintro k wr ⟨hk0, hs, hn, ht, hn2, X⟩
  refine c_seq ?_
  refine c_seqR ?_
  refine ops_cons rfl (ow_move rfl ?_)
  refine ops_cons rfl (ow_move rfl ?_)
  refine ops_cons rfl (ow_len Try.underlying60 rfl ?_)
  refine ops_cons rfl (ow_lss2 rfl rfl (fun hk => ?_) (fun hk => ?_))
  · skip
    obtain ⟨x, hx, dx⟩ := drop_at' hk
    obtain ⟨y, hy, _⟩ := drop_at (xs := ys) (k := k) (by omega)
    have exy : x.m = y.m := by have h1 := map_at (f := (·.m)) hx; rw [em, map_at hy] at h1; injection h1 with h1; exact h1.symm
    obtain ⟨my, Ay, cy⟩ := y
    simp only at exy
    subst exy
    have hlx := hz x (List.mem_of_getElem? hx)
    refine ops_nil ?_
    refine c_true rfl ?_
    refine c_skip ?_
    refine tq_n ?_
    refine c_seq ?_
    refine c_block ?_
    refine c_seqD [false, false, false, false, false, false, false, false, false, false] mixed (by kernel_rfl) ?_
    refine f_q rfl (fun wq sq => ow_move rfl ⟨rfl, Ext.refl _⟩) ?_
    refine f_q rfl (fun wq sq => ow_move rfl ⟨rfl, Ext.refl _⟩) ?_
    refine f_q rfl (fun wq sq => ow_indexT (hs.ext sq) ModeI.len rfl el60 rfl rfl rfl hx rfl ⟨rfl, Ext.refl _⟩) ?_
    refine f_q rfl (fun wq sq => ow_loadTA (hs.ext sq) ModeI.len hx ti114 rfl ⟨rfl, Ext.refl _⟩) ?_
    refine f_q rfl (fun wq sq => ow_move rfl ⟨rfl, Ext.refl _⟩) ?_
    refine f_q rfl (fun wq sq => ow_move rfl ⟨rfl, Ext.refl _⟩) ?_
    refine f_q rfl (fun wq sq => ow_indexT (ht.ext sq) ModeI.len rfl el60 rfl rfl rfl hy rfl ⟨rfl, Ext.refl _⟩) ?_
    refine f_q rfl (fun wq sq => ow_loadTA (ht.ext sq) ModeI.len hy ti114 rfl ⟨rfl, Ext.refl _⟩) ?_
    refine f_q rfl (fun wq sq => ow_call ent95 rfl (eqMode_c x.m x.A Ay x.c cy _ _ _ ((hn.at_ hx).ext sq) ((hn2.at_ hy).ext sq) hlx)) ?_
    refine f_q rfl (fun wq sq => ow_not rfl ⟨rfl, Ext.refl _⟩) ?_
    refine f_nil (fun w2 sq => ?_)
    have xq := sq
    replace hs := hs.ext xq
    replace hn := hn.ext xq
    replace ht := ht.ext xq
    replace hn2 := hn2.ext xq
    replace X := Ext.trans X xq; clear xq sq
    refine ops_nil ?_
    refine c_false rfl ?_
    refine c_skip ?_
    refine bq_n ?_
    refine tq_n ?_
    refine c_region ?_
    refine ops_cons rfl (ow_move rfl ?_)
    refine ops_cons rfl (ow_add rfl rfl (w64 (by omega)) ?_)
    refine ops_cons rfl (ow_assign rfl ?_)
    refine ops_nil ?_
    refine tq_n ⟨k + 1, (.cons rfl (.cons rfl (.cons rfl (.nil _)))), ?_, ?_⟩
    · exact ⟨by omega, hs, hn, ht, hn2, X⟩
    · first | omega | (dsimp only; omega)
  · skip
    refine ops_nil ?_
    refine c_false rfl ?_
    refine c_exit ?_
    refine tq_e ?_
    refine tq_e ?_
    refine bq_e ?_
    refine tq_n ?_
    refine c_seqR ?_
    refine ops_cons rfl (ow_assign rfl ?_)
    refine ops_nil ?_
    refine c_ret ?_
    refine fin_ret1 rfl rfl ?_
    exact ⟨by rfl, X⟩
end Go.Proofs.Ytimabffnoanciaa
