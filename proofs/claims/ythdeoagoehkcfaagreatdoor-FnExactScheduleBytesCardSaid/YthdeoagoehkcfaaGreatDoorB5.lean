/- Lists put together by the library. No condition. -/
import Derived.Test.YthdeoagoehkcfaaGreatDoorNB
import Derived.Test.YthdeoagoehkcfaaGreatDoorFlowM
namespace Go.Proofs.YthdeoagoehkcfaaGreatDoor
open Go.RowKit
set_option linter.unusedVariables false
set_option linter.unusedSimpArgs false
set_option maxRecDepth 20000
theorem growNil_c (n : Nat) (w : World) (hn : n ≤ 1048576) :
    Calls Tryz.prog 166 #[.slice none 0 0, .int .i64 (n : Nat)] w (Ret fun v w' => ∃ A' c', v = .slice A' 0 c' ∧ Own w' w.heap.size 2 1 A' 0 c' [] ∧ Ext w w') := by
  have X := Ext.refl w
  refine calls_of (args := [.slice none 0 0, .int .i64 (n : Nat)]) Tryz.func166 Tryz.ntmps166 rfl rfl ?_
  refine c_seqR ?_
  refine ops_cons rfl (ow_assign rfl ?_)
  refine ops_nil ?_
  refine c_seq ?_
  refine c_seqR ?_
  refine ops_cons rfl (ow_move rfl ?_)
  refine ops_cons rfl (ow_lss2 rfl rfl (fun h1 => absurd h1 (by omega)) (fun h1 => ?_))
  refine ops_nil ?_
  refine c_false rfl ?_
  refine c_skip ?_
  refine tq_n ?_
  refine c_seq ?_
  refine c_seqR ?_
  refine ops_cons rfl (ow_move rfl ?_)
  refine ops_cons rfl (ow_move rfl ?_)
  refine ops_cons rfl (ow_cap Tryz.underlying22 rfl ?_)
  refine ops_cons rfl (ow_move rfl ?_)
  refine ops_cons rfl (ow_len Tryz.underlying22 rfl ?_)
  refine ops_cons rfl (ow_sub rfl rfl (w64 (by omega)) ?_)
  refine ops_cons rfl (ow_sub rfl rfl (show IntKind.i64.wrap _ = ((n : Nat) : Int) by rw [w64 (by omega)]; omega) ?_)
  refine ops_cons rfl (ow_assign rfl ?_)
  refine ops_nil ?_
  refine c_seqR ?_
  refine ops_cons rfl (ow_move rfl ?_)
  refine ops_cons rfl (ow_gtr2 rfl rfl (fun hp => ?_) (fun hp => ?_))
  · skip
    refine ops_nil ?_
    refine c_true rfl ?_
    refine c_region ?_
    refine ops_cons rfl (ow_move rfl ?_)
    refine ops_cons rfl (ow_move rfl ?_)
    refine ops_cons rfl (ow_cap Tryz.underlying22 rfl ?_)
    refine ops_cons rfl (ow_sliceHO el22 rfl rfl (show _ = ((0 : Nat) : Int) from rfl) (Nat.le_refl _) ?_)
    refine ops_cons rfl (ow_move rfl ?_)
    refine ops_cons rfl (ow_appendZ (n := n) el22 Tryz.underlying3 ti2 rfl rfl rfl rfl (by omega) (by omega) (by omega) ?_)
    intro gZ cZ wZ csZ eZ oZ xZ
    replace X := Ext.trans X xZ
    refine ops_cons rfl (ow_move rfl ?_)
    refine ops_cons rfl (ow_len Tryz.underlying22 rfl ?_)
    refine ops_cons rfl (ow_sliceHO el22 rfl rfl (show _ = ((0 : Nat) : Int) from rfl) (Nat.zero_le _) ?_)
    have oY := Own.pre oZ (Nat.zero_le n)
    refine ops_cons rfl (ow_assign rfl ?_)
    refine ops_nil ?_
    refine tq_n ?_
    refine c_seqR ?_
    refine ops_cons rfl (ow_move rfl ?_)
    refine ops_cons rfl (ow_assign rfl ?_)
    refine ops_nil ?_
    refine c_ret ?_
    refine fin_ret1 rfl rfl ?_
    first
    | (exact ⟨_, _, rfl, oY.to (by simp), X⟩)
    | (exact ⟨none, 0, rfl, Own.nil_ _ _ _ _, X⟩)
  · skip
    refine ops_nil ?_
    refine c_false rfl ?_
    refine c_skip ?_
    refine tq_n ?_
    refine c_seqR ?_
    refine ops_cons rfl (ow_move rfl ?_)
    refine ops_cons rfl (ow_assign rfl ?_)
    refine ops_nil ?_
    refine c_ret ?_
    refine fin_ret1 rfl rfl ?_
    first
    | (exact ⟨_, _, rfl, oY.to (by simp), X⟩)
    | (exact ⟨none, 0, rfl, Own.nil_ _ _ _ _, X⟩)

theorem concat_c (A : Option Addr) (B B2 c : Nat) (rs : List ModeI) (w : World) (hs : Sl B w A (rs.flatMap rowC)) (hn : Nexts B2 w rs) (hl : rs.length ≤ 1000) (hL : (sumL rs).length ≤ 1048576) :
    Calls Tryz.prog 107 #[.slice A rs.length c] w (Ret fun v w' => ∃ A' c', v = .slice A' (sumL rs).length c' ∧ Own w' w.heap.size 2 1 A' (sumL rs).length c' ((sumL rs).flatMap eI) ∧ Ext w w') := by
  have hle := fun k => sumL_le rs k
  have Bhs := hs.1
  have Bhn := hn.1
  have X := Ext.refl w
  refine calls_of (args := [.slice A rs.length c]) Tryz.func107 Tryz.ntmps107 rfl rfl ?_
  refine c_seqR ?_
  refine ops_cons rfl (ow_assign rfl ?_)
  refine ops_nil ?_
  refine c_seqR ?_
  refine ops_cons rfl (ow_assign rfl ?_)
  refine ops_nil ?_
  refine c_seq ?_
  refine c_seqR ?_
  refine ops_cons rfl (ow_move rfl ?_)
  refine ops_cons rfl (ow_len Tryz.underlying154 rfl ?_)
  refine ops_cons rfl (ow_move rfl ?_)
  refine ops_nil ?_
  refine c_block ?_
  refine c_loop (G := Nat × Int) (fun ⟨k, t⟩ => [(0, .slice A rs.length c), (2, .slice none 0 0), (9, .slice A rs.length c), (10, .int .i64 (rs.length : Nat)), (3, .int .i64 t), (11, .int .i64 (k : Nat))]) (fun ⟨k, t⟩ wr => k ≤ rs.length ∧ t = ((sumL (rs.take k)).length : Int) ∧ Sl B wr A (rs.flatMap rowC) ∧ Nexts B2 wr rs ∧ Ext w wr) (fun ⟨k, t⟩ => rs.length - k) (0, 0) (.cons rfl (.cons rfl (.cons rfl (.cons rfl (.cons rfl (.cons rfl (.nil _))))))) ?_ ?_
  · exact ⟨by omega, rfl, hs, hn, X⟩
  clear hs hn
  clear X
  rintro ⟨k, t⟩ wr ⟨hk0, ht, hs, hn, X⟩
  refine c_seqR ?_
  refine ops_cons rfl (ow_lss2 rfl rfl (fun hk => ?_) (fun hk => ?_))
  · skip
    obtain ⟨x, hx, dx⟩ := drop_at' hk
    have hlk := hle k
    have hlk1 := hle (k + 1)
    rw [sumL_step hx, List.length_append] at hlk1
    refine ops_nil ?_
    refine c_seq ?_
    refine c_true rfl ?_
    refine c_skip ?_
    refine tq_n ?_
    refine c_seq ?_
    refine c_block ?_
    refine c_seqR ?_
    refine ops_cons rfl (ow_indexT hs rowC_len rfl el154 rfl rfl rfl hx rfl ?_)
    refine ops_cons rfl (ow_loadT hs rowC_len hx ti22 rfl rfl rfl ?_)
    refine ops_cons rfl (ow_assign rfl ?_)
    refine ops_nil ?_
    refine c_seqR ?_
    refine ops_cons rfl (ow_move rfl ?_)
    refine ops_cons rfl (ow_move rfl ?_)
    refine ops_cons rfl (ow_len Tryz.underlying22 rfl ?_)
    refine ops_cons rfl (ow_add rfl rfl (w64 (by omega)) ?_)
    refine ops_cons rfl (ow_assign rfl ?_)
    refine ops_nil ?_
    refine c_seqR ?_
    refine ops_cons rfl (ow_move rfl ?_)
    refine ops_cons rfl (ow_lss2 rfl rfl (fun h1 => absurd h1 (by omega)) (fun h1 => ?_))
    refine ops_nil ?_
    refine c_false rfl ?_
    refine c_skip ?_
    refine bq_n ?_
    refine tq_n ?_
    refine c_region ?_
    refine ops_cons rfl (ow_add rfl rfl (w64 (by omega)) ?_)
    refine ops_cons rfl (ow_move rfl ?_)
    refine ops_nil ?_
    refine tq_n ⟨(k + 1, t + (x.m.next.length : Int)), (.cons rfl (.cons rfl (.cons rfl (.cons rfl (.cons rfl (.cons rfl (.nil _))))))), ?_, ?_⟩
    · exact ⟨by omega, (by rw [sumL_step hx, List.length_append]; omega), hs, hn, X⟩
    · first | omega | (dsimp only; omega)
  · skip
    have hkk : k = rs.length := by omega
    refine ops_nil ?_
    refine c_seq ?_
    refine c_false rfl ?_
    refine c_exit ?_
    refine tq_e ?_
    refine tq_e ?_
    refine bq_e ?_
    refine tq_n ?_
    refine c_seqR ?_
    refine ops_cons rfl (ow_move rfl ?_)
    subst ht
    refine ops_cons rfl (ow_call ent166 rfl (ret_mono (growNil_c (sumL (rs.take k)).length _ (by have := hle k; omega)) ?_))
    rintro _ w3 ⟨AG, cG, rfl, oG, x2⟩
    replace oG := Own.low oG X.size
    replace hs := hs.ext x2
    replace hn := hn.ext x2
    replace X := Ext.trans X x2; clear x2
    refine ops_cons rfl (ow_assign rfl ?_)
    refine ops_nil ?_
    refine c_seq ?_
    refine c_seqR ?_
    refine ops_cons rfl (ow_move rfl ?_)
    refine ops_cons rfl (ow_len Tryz.underlying154 rfl ?_)
    refine ops_cons rfl (ow_move rfl ?_)
    refine ops_nil ?_
    refine c_block ?_
    refine c_loop (G := Nat × Nat × Option Addr × Nat) (fun ⟨j, n1, A1, c1⟩ => [(2, .slice none 0 0), (25, .slice A rs.length c), (26, .int .i64 (rs.length : Nat)), (6, .slice A1 n1 c1), (27, .int .i64 (j : Nat))]) (fun ⟨j, n1, A1, c1⟩ wr => j ≤ rs.length ∧ n1 = (sumL (rs.take j)).length ∧ Own wr w.heap.size 2 1 A1 n1 c1 ((sumL (rs.take j)).flatMap eI) ∧ Sl B wr A (rs.flatMap rowC) ∧ Nexts B2 wr rs ∧ Ext w wr) (fun ⟨j, n1, A1, c1⟩ => rs.length - j) (0, 0, AG, cG) (.cons rfl (.cons rfl (.cons rfl (.cons rfl (.cons rfl (.nil _)))))) ?_ ?_
    · exact ⟨by omega, rfl, oG, hs, hn, X⟩
    clear hs hn oG
    clear X
    rintro ⟨j, n1, A1, c1⟩ wr ⟨hj0, hn1, oO, hs, hn, X⟩
    refine c_seqR ?_
    refine ops_cons rfl (ow_lss2 rfl rfl (fun hj => ?_) (fun hj => ?_))
    · skip
      obtain ⟨y, hy, dy⟩ := drop_at' hj
      have hlj := hle (j + 1)
      rw [sumL_step hy, List.length_append] at hlj
      refine ops_nil ?_
      refine c_seq ?_
      refine c_true rfl ?_
      refine c_skip ?_
      refine tq_n ?_
      refine c_seq ?_
      refine c_block ?_
      refine c_seqR ?_
      refine ops_cons rfl (ow_indexT hs rowC_len rfl el154 rfl rfl rfl hy rfl ?_)
      have hny := hn.at_ hy
      refine ops_cons rfl (ow_loadT hs rowC_len hy ti22 rfl rfl rfl ?_)
      refine ops_cons rfl (ow_assign rfl ?_)
      refine ops_nil ?_
      refine c_region ?_
      refine ops_cons rfl (ow_move rfl ?_)
      refine ops_cons rfl (ow_move rfl ?_)
      refine ops_cons rfl (ow_append (ts := #[]) oO X.size hny (flat_len eI_len _) (one_ints _) el22 ti2 rfl rfl rfl rfl (by omega) (by omega) ?_)
      intro AoN coN w5 oN hg4
      replace hs := hs.grown hg4 (fun g hg => Nat.le_trans Bhs (Own.lt oO hg).1)
      replace hn := hn.grown hg4 (fun g hg => Nat.le_trans Bhn (Own.lt oO hg).1)
      replace hny := hny.grown hg4 (fun g hg => Nat.le_trans Bhn (Own.lt oO hg).1)
      replace X := X.grown hg4 X.size (fun g hg => (Own.lt oO hg).1)
      clear hg4
      refine ops_cons rfl (ow_assign rfl ?_)
      refine ops_nil ?_
      refine bq_n ?_
      refine tq_n ?_
      refine c_region ?_
      refine ops_cons rfl (ow_add rfl rfl (w64 (by omega)) ?_)
      refine ops_cons rfl (ow_move rfl ?_)
      refine ops_nil ?_
      refine tq_n ⟨(j + 1, n1 + y.m.next.length, AoN, coN), (.cons rfl (.cons rfl (.cons rfl (.cons rfl (.cons rfl (.nil _)))))), ?_, ?_⟩
      · exact ⟨by omega, (by rw [sumL_step hy, List.length_append]; omega), oN.to (by rw [sumL_step hy, List.flatMap_append]), hs, hn, X⟩
      · first | omega | (dsimp only; omega)
    · skip
      refine ops_nil ?_
      refine c_seq ?_
      refine c_false rfl ?_
      refine c_exit ?_
      refine tq_e ?_
      refine tq_e ?_
      refine bq_e ?_
      refine tq_n ?_
      refine c_seqR ?_
      refine ops_cons rfl (ow_move rfl ?_)
      refine ops_cons rfl (ow_assign rfl ?_)
      refine ops_nil ?_
      refine c_ret ?_
      refine fin_ret1 rfl rfl ?_
      rw [show j = rs.length by omega, List.take_length] at oO hn1
      rw [← hn1]; exact ⟨A1, c1, rfl, oO, X⟩
end Go.Proofs.YthdeoagoehkcfaaGreatDoor
