/- Marks of demands. No condition. -/
import Derived.Test.YtdoibplhbdkapaaU1
import Derived.Test.YtdoibplhbdkapaaMod15
import Derived.Test.YtdoibplhbdkapaaFlowH
namespace Go.Proofs.Ytdoibplhbdkapaa
open Go.RowKit
set_option linter.unusedVariables false
set_option linter.unusedSimpArgs false
set_option maxRecDepth 20000
def mkDem (a : Int) : Dem := (⟨a, a + 1, a + 1 + 1⟩ : Dem)
theorem markDem_c (A : Option Addr) (c lo : Nat) (xs : List Dem) (m : Int) (w : World) (oO : Own w lo 73 3 A xs.length c (xs.flatMap Dem.cells)) (hl : xs.length ≤ 1048576) (hm : 0 ≤ m ∧ m ≤ 1125899906842624) :
    Calls Try.prog 16 #[.slice A xs.length c, .int .i64 m] w (Ret fun v w' => v = .int .i64 (m + 3 * xs.length) ∧ Own w' lo 73 3 A xs.length c ((seqG (fun i => mkDem (m + 3 * (i : Nat))) xs.length).flatMap Dem.cells) ∧ w.grownBy w' (Value.slice A xs.length c).ownBlock) := by
  replace oO := oO.to (cs' := ((seqG (fun i => mkDem (m + 3 * (i : Nat))) 0 ++ xs.drop 0)).flatMap Dem.cells) rfl
  have X := gb_refl w (Value.slice A xs.length c).ownBlock
  refine calls_of (args := [.slice A xs.length c, .int .i64 m]) Try.func16 Try.ntmps16 rfl rfl ?_
  refine c_seqR ?_
  refine ops_cons rfl (ow_assign rfl ?_)
  refine ops_nil ?_
  refine c_seq ?_
  refine c_seqR ?_
  refine ops_cons rfl (ow_assign rfl ?_)
  refine ops_nil ?_
  refine c_block ?_
  refine c_loop (G := Nat × Int) (fun ⟨k, a⟩ => [(0, .slice A xs.length c), (1, .int .i64 a), (5, .int .i64 (k : Nat))]) (fun ⟨k, a⟩ wr => a = m + 3 * k ∧ k ≤ xs.length ∧ Own wr lo 73 3 A xs.length c ((seqG (fun i => mkDem (m + 3 * (i : Nat))) k ++ xs.drop k).flatMap Dem.cells) ∧ w.grownBy wr (Value.slice A xs.length c).ownBlock) (fun ⟨k, a⟩ => xs.length - k) (0, m) (.cons rfl (.cons rfl (.cons rfl (.nil _)))) ?_ ?_
  · exact ⟨by simp, by omega, oO, X⟩
  clear oO
  clear X
  rintro ⟨k, a⟩ wr ⟨ha, hk0, oO, X⟩
  subst ha
  refine c_seq ?_
  refine c_seqR ?_
  refine ops_cons rfl (ow_move rfl ?_)
  refine ops_cons rfl (ow_move rfl ?_)
  refine ops_cons rfl (ow_len Try.underlying30 rfl ?_)
  refine ops_cons rfl (ow_lss2 rfl rfl (fun hk => ?_) (fun hk => ?_))
  have hk1 : k < xs.length := by omega
  obtain ⟨x, hx, dx⟩ := drop_at' hk
  have hL := seqG_at' (g := fun i => mkDem (m + 3 * (i : Nat))) hx
  have hn := seqG_all (g := fun i => mkDem (m + 3 * (i : Nat))) hk0
  refine ops_nil ?_
  refine c_true rfl ?_
  refine c_skip ?_
  refine tq_n ?_
  refine c_seq ?_
  refine c_block ?_
  refine c_seqR ?_
  refine ops_cons rfl (ow_move rfl ?_)
  refine ops_cons rfl (ow_move rfl ?_)
  refine ops_cons rfl (ow_move rfl ?_)
  refine ops_cons rfl (ow_indexT (oO).sl Dem.len rfl el30 rfl (by omega) rfl hL rfl ?_)
  refine ops_cons rfl (ow_fieldAddr off73_0 rfl ?_)
  refine ops_cons rfl (ow_storeRF oO ti2 rfl rfl rfl rfl (by omega) (by omega) rfl ?_)
  intro w2 oO hg1 z3
  replace X : w.grownBy w2 (Value.slice A xs.length c).ownBlock := by first | exact gb_trans X hg1 | exact gb_new X hg1 (fun g hg => (Own.lt oO hg).1)
  clear hg1 z3
  replace oO := oO.to (cs' := ((seqG (fun i => mkDem (m + 3 * (i : Nat))) k ++ xs.drop k).set k (⟨m + 3 * k, x.every, x.size⟩ : Dem)).flatMap Dem.cells) (by
    have e1 := set_field (x := x) (x' := (⟨m + 3 * k, x.every, x.size⟩ : Dem)) (vs := [.int .i64 (m + 3 * k)]) Dem.len (s' := 1) (f := 0) rfl (by omega) (seqG (fun i => mkDem (m + 3 * (i : Nat))) k ++ xs.drop k) k (hL)
    exact e1)
  refine ops_nil ?_
  refine c_seqR ?_
  refine ops_cons rfl (ow_move rfl ?_)
  refine ops_cons rfl (ow_add rfl rfl (w64 (by omega)) ?_)
  refine ops_cons rfl (ow_assign rfl ?_)
  refine ops_nil ?_
  refine c_seqR ?_
  refine ops_cons rfl (ow_move rfl ?_)
  refine ops_cons rfl (ow_move rfl ?_)
  refine ops_cons rfl (ow_move rfl ?_)
  refine ops_cons rfl (ow_indexT (oO).sl Dem.len rfl el30 rfl (by simp only [List.length_set]; omega) rfl (set_at (by omega)) rfl ?_)
  refine ops_cons rfl (ow_fieldAddr off73_1 rfl ?_)
  refine ops_cons rfl (ow_storeRF oO ti2 rfl rfl rfl rfl (by omega) (by omega) rfl ?_)
  intro w5 oO hg4 z6
  replace X : w.grownBy w5 (Value.slice A xs.length c).ownBlock := by first | exact gb_trans X hg4 | exact gb_new X hg4 (fun g hg => (Own.lt oO hg).1)
  clear hg4 z6
  replace oO := oO.to (cs' := ((seqG (fun i => mkDem (m + 3 * (i : Nat))) k ++ xs.drop k).set k (⟨m + 3 * k, m + 3 * k + 1, x.size⟩ : Dem)).flatMap Dem.cells) (by
    have e1 := set_field (x := (⟨m + 3 * k, x.every, x.size⟩ : Dem)) (x' := (⟨m + 3 * k, m + 3 * k + 1, x.size⟩ : Dem)) (vs := [.int .i64 (m + 3 * k + 1)]) Dem.len (s' := 1) (f := 1) rfl (by omega) ((seqG (fun i => mkDem (m + 3 * (i : Nat))) k ++ xs.drop k).set k (⟨m + 3 * k, x.every, x.size⟩ : Dem)) k (set_at (x := (⟨m + 3 * k, x.every, x.size⟩ : Dem)) (l := (seqG (fun i => mkDem (m + 3 * (i : Nat))) k ++ xs.drop k)) (by omega))
    rw [List.set_set] at e1; exact e1)
  refine ops_nil ?_
  refine c_seqR ?_
  refine ops_cons rfl (ow_move rfl ?_)
  refine ops_cons rfl (ow_add rfl rfl (w64 (by omega)) ?_)
  refine ops_cons rfl (ow_assign rfl ?_)
  refine ops_nil ?_
  refine c_seqR ?_
  refine ops_cons rfl (ow_move rfl ?_)
  refine ops_cons rfl (ow_move rfl ?_)
  refine ops_cons rfl (ow_move rfl ?_)
  refine ops_cons rfl (ow_indexT (oO).sl Dem.len rfl el30 rfl (by simp only [List.length_set]; omega) rfl (set_at (by omega)) rfl ?_)
  refine ops_cons rfl (ow_fieldAddr off73_2 rfl ?_)
  refine ops_cons rfl (ow_storeRF oO ti2 rfl rfl rfl rfl (by omega) (by omega) rfl ?_)
  intro w9 oO hg7 z10
  replace X : w.grownBy w9 (Value.slice A xs.length c).ownBlock := by first | exact gb_trans X hg7 | exact gb_new X hg7 (fun g hg => (Own.lt oO hg).1)
  clear hg7 z10
  replace oO := oO.to (cs' := ((seqG (fun i => mkDem (m + 3 * (i : Nat))) k ++ xs.drop k).set k (⟨m + 3 * k, m + 3 * k + 1, m + 3 * k + 1 + 1⟩ : Dem)).flatMap Dem.cells) (by
    have e1 := set_field (x := (⟨m + 3 * k, m + 3 * k + 1, x.size⟩ : Dem)) (x' := (⟨m + 3 * k, m + 3 * k + 1, m + 3 * k + 1 + 1⟩ : Dem)) (vs := [.int .i64 (m + 3 * k + 1 + 1)]) Dem.len (s' := 1) (f := 2) rfl (by omega) ((seqG (fun i => mkDem (m + 3 * (i : Nat))) k ++ xs.drop k).set k (⟨m + 3 * k, m + 3 * k + 1, x.size⟩ : Dem)) k (set_at (x := (⟨m + 3 * k, m + 3 * k + 1, x.size⟩ : Dem)) (l := (seqG (fun i => mkDem (m + 3 * (i : Nat))) k ++ xs.drop k)) (by omega))
    rw [List.set_set] at e1; exact e1)
  replace oO := oO.to (cs' := ((seqG (fun i => mkDem (m + 3 * (i : Nat))) (k + 1)) ++ xs.drop (k + 1)).flatMap Dem.cells) (by rw [← seqG_set hk1]; rfl)
  refine ops_nil ?_
  refine c_region ?_
  refine ops_cons rfl (ow_move rfl ?_)
  refine ops_cons rfl (ow_add rfl rfl (w64 (by omega)) ?_)
  refine ops_cons rfl (ow_assign rfl ?_)
  refine ops_nil ?_
  refine bq_n ?_
  refine tq_n ?_
  refine c_region ?_
  refine ops_cons rfl (ow_move rfl ?_)
  refine ops_cons rfl (ow_add rfl rfl (w64 (by omega)) ?_)
  refine ops_cons rfl (ow_assign rfl ?_)
  refine ops_nil ?_
  refine tq_n ⟨(k + 1, m + 3 * k + 1 + 1 + 1), (.cons rfl (.cons rfl (.cons rfl (.nil _)))), ?_, ?_⟩
  · exact ⟨by omega, by omega, oO, X⟩
  · dsimp only; omega
  rw [seqG_end hk0 hk] at oO
  refine ops_nil ?_
  refine c_false rfl ?_
  refine c_exit ?_
  refine tq_e ?_
  refine tq_e ?_
  refine bq_e ?_
  refine tq_n ?_
  refine c_seqR ?_
  refine ops_cons rfl (ow_move rfl ?_)
  refine ops_cons rfl (ow_assign rfl ?_)
  refine ops_nil ?_
  refine c_ret ?_
  refine fin_ret1 rfl rfl ?_
  exact ⟨by rw [show k = xs.length by omega], oO, X⟩

theorem heldDem_c (A : Option Addr) (B c n : Nat) (m : Int) (w : World) (hs : Sl B w A ((seqG (fun i => mkDem (m + 3 * (i : Nat))) n).flatMap Dem.cells)) (hl : n ≤ 1048576) (hm : 0 ≤ m ∧ m ≤ 1125899906842624) :
    Calls Try.prog 17 #[.slice A n c, .int .i64 m] w (Ret fun v w' => v = .int .i64 (m + 3 * n) ∧ Ext w w') := by
  have Bhs := hs.1
  have X := Ext.refl w
  refine calls_of (args := [.slice A n c, .int .i64 m]) Try.func17 Try.ntmps17 rfl rfl ?_
  refine c_seqR ?_
  refine ops_cons rfl (ow_assign rfl ?_)
  refine ops_nil ?_
  refine c_seq ?_
  refine c_seqR ?_
  refine ops_cons rfl (ow_assign rfl ?_)
  refine ops_nil ?_
  refine c_block ?_
  refine c_loop (G := Nat × Int) (fun ⟨k, a⟩ => [(0, .slice A n c), (1, .int .i64 a), (5, .int .i64 (k : Nat))]) (fun ⟨k, a⟩ wr => a = m + 3 * k ∧ k ≤ n ∧ Sl B wr A ((seqG (fun i => mkDem (m + 3 * (i : Nat))) n).flatMap Dem.cells) ∧ Ext w wr) (fun ⟨k, a⟩ => n - k) (0, m) (.cons rfl (.cons rfl (.cons rfl (.nil _)))) ?_ ?_
  · exact ⟨by simp, by omega, hs, X⟩
  clear hs
  clear X
  rintro ⟨k, a⟩ wr ⟨ha, hk0, hs, X⟩
  subst ha
  refine c_seq ?_
  refine c_seqR ?_
  refine ops_cons rfl (ow_move rfl ?_)
  refine ops_cons rfl (ow_move rfl ?_)
  refine ops_cons rfl (ow_len Try.underlying30 rfl ?_)
  refine ops_cons rfl (ow_lss2 rfl rfl (fun hk => ?_) (fun hk => ?_))
  have hk1 : k < n := by omega
  refine ops_nil ?_
  refine c_true rfl ?_
  refine c_skip ?_
  refine tq_n ?_
  refine c_seq ?_
  refine c_block ?_
  refine c_seq ?_
  refine c_seqR ?_
  refine ops_cons rfl (ow_move rfl ?_)
  refine ops_cons rfl (ow_move rfl ?_)
  refine ops_cons rfl (ow_indexT hs Dem.len rfl el30 rfl (seqG_len _ _).symm rfl (seqG_at hk1) rfl ?_)
  refine ops_cons rfl (ow_fieldAddr off73_0 rfl ?_)
  refine ops_cons rfl (ow_loadTF hs Dem.len (seqG_at hk1) ti2 rfl rfl rfl ?_)
  refine ops_cons rfl (ow_move rfl ?_)
  refine ops_cons rfl (ow_neq2 rfl rfl (fun h1 => absurd h1 (by exact fun h => h rfl)) (fun h1 => ?_))
  refine ops_nil ?_
  refine c_false rfl ?_
  refine c_skip ?_
  refine tq_n ?_
  refine c_seqR ?_
  refine ops_cons rfl (ow_move rfl ?_)
  refine ops_cons rfl (ow_add rfl rfl (w64 (by omega)) ?_)
  refine ops_cons rfl (ow_assign rfl ?_)
  refine ops_nil ?_
  refine c_seq ?_
  refine c_seqR ?_
  refine ops_cons rfl (ow_move rfl ?_)
  refine ops_cons rfl (ow_move rfl ?_)
  refine ops_cons rfl (ow_indexT hs Dem.len rfl el30 rfl (seqG_len _ _).symm rfl (seqG_at hk1) rfl ?_)
  refine ops_cons rfl (ow_fieldAddr off73_1 rfl ?_)
  refine ops_cons rfl (ow_loadTF hs Dem.len (seqG_at hk1) ti2 rfl rfl rfl ?_)
  refine ops_cons rfl (ow_move rfl ?_)
  refine ops_cons rfl (ow_neq2 rfl rfl (fun h2 => absurd h2 (by exact fun h => h rfl)) (fun h2 => ?_))
  refine ops_nil ?_
  refine c_false rfl ?_
  refine c_skip ?_
  refine tq_n ?_
  refine c_seqR ?_
  refine ops_cons rfl (ow_move rfl ?_)
  refine ops_cons rfl (ow_add rfl rfl (w64 (by omega)) ?_)
  refine ops_cons rfl (ow_assign rfl ?_)
  refine ops_nil ?_
  refine c_seq ?_
  refine c_seqR ?_
  refine ops_cons rfl (ow_move rfl ?_)
  refine ops_cons rfl (ow_move rfl ?_)
  refine ops_cons rfl (ow_indexT hs Dem.len rfl el30 rfl (seqG_len _ _).symm rfl (seqG_at hk1) rfl ?_)
  refine ops_cons rfl (ow_fieldAddr off73_2 rfl ?_)
  refine ops_cons rfl (ow_loadTF hs Dem.len (seqG_at hk1) ti2 rfl rfl rfl ?_)
  refine ops_cons rfl (ow_move rfl ?_)
  refine ops_cons rfl (ow_neq2 rfl rfl (fun h3 => absurd h3 (by exact fun h => h rfl)) (fun h3 => ?_))
  refine ops_nil ?_
  refine c_false rfl ?_
  refine c_skip ?_
  refine tq_n ?_
  refine c_region ?_
  refine ops_cons rfl (ow_move rfl ?_)
  refine ops_cons rfl (ow_add rfl rfl (w64 (by omega)) ?_)
  refine ops_cons rfl (ow_assign rfl ?_)
  refine ops_nil ?_
  refine bq_n ?_
  refine tq_n ?_
  refine c_region ?_
  refine ops_cons rfl (ow_move rfl ?_)
  refine ops_cons rfl (ow_add rfl rfl (w64 (by omega)) ?_)
  refine ops_cons rfl (ow_assign rfl ?_)
  refine ops_nil ?_
  refine tq_n ⟨(k + 1, m + 3 * k + 1 + 1 + 1), (.cons rfl (.cons rfl (.cons rfl (.nil _)))), ?_, ?_⟩
  · exact ⟨by omega, by omega, hs, X⟩
  · dsimp only; omega
  refine ops_nil ?_
  refine c_false rfl ?_
  refine c_exit ?_
  refine tq_e ?_
  refine tq_e ?_
  refine bq_e ?_
  refine tq_n ?_
  refine c_seqR ?_
  refine ops_cons rfl (ow_move rfl ?_)
  refine ops_cons rfl (ow_assign rfl ?_)
  refine ops_nil ?_
  refine c_ret ?_
  refine fin_ret1 rfl rfl ?_
  exact ⟨by rw [show k = n by omega], X⟩
end Go.Proofs.Ytdoibplhbdkapaa
