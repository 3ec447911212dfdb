/- Marks written into a row and read again. No condition. -/
import Derived.Test.YtdikgcccdcgjdaaFlowT
import Derived.Test.YtdikgcccdcgjdaaFlowF
import Derived.Test.YtdikgcccdcgjdaaFlowH
namespace Go.Proofs.Ytdikgcccdcgjdaa
open Go.RowKit
set_option linter.unusedVariables false
set_option linter.unusedSimpArgs false
def seqI (m : Int) (n : Nat) : List Int := (List.range n).map fun (i : Nat) => m + i
theorem seqI_len (m : Int) (n : Nat) : (seqI m n).length = n := by simp [seqI]
theorem seqI_set {m : Int} {k : Nat} {xs : List Int} (hk : k < xs.length) : (seqI m k ++ xs.drop k).set k (m + k) = seqI m (k + 1) ++ xs.drop (k + 1) := by
  rw [List.set_append, if_neg (by simp [seqI_len]), seqI_len, Nat.sub_self, List.drop_eq_getElem_cons hk, List.set_cons_zero]
  simp [seqI, List.range_succ]
theorem seqI_at {m : Int} {k n : Nat} (h : k < n) : (seqI m n)[k]? = some (m + k) := by simp [seqI, h]
theorem seqI_at' {m : Int} {k : Nat} {xs : List Int} (hk : k < xs.length) : (seqI m k ++ xs.drop k)[k]? = some (xs[k]) := by
  rw [List.getElem?_append_right (by simp [seqI_len]), seqI_len, Nat.sub_self, List.getElem?_drop, Nat.add_zero, List.getElem?_eq_getElem hk]
theorem seqI_end {m : Int} {k : Nat} {xs : List Int} (h0 : k ≤ xs.length) (hk : ¬ (k : Int) < (xs.length : Int)) : seqI m k ++ xs.drop k = seqI m xs.length := by
  rw [drop_end hk, List.append_nil, show k = xs.length by omega]
theorem markI_c (A : Option Addr) (c lo : Nat) (xs : List Int) (m : Int) (w : World) (oO : Own w lo 2 1 A xs.length c (xs.flatMap eI)) (hlo : lo ≤ w.heap.size) (hl : xs.length ≤ 1048576) (hm : 0 ≤ m ∧ m ≤ 1099511627776) :
    Calls Try.prog 23 #[.slice A xs.length c, .int .i64 m] w (Ret fun v w' => v = .int .i64 (m + xs.length) ∧ Own w' lo 2 1 A xs.length c ((seqI m xs.length).flatMap eI) ∧ Below lo w w') := by
  replace oO := oO.to (cs' := (seqI m 0 ++ xs.drop 0).flatMap eI) rfl
  have X := Below.refl lo w
  refine calls_of (args := [.slice A xs.length c, .int .i64 m]) Try.func23 Try.ntmps23 rfl rfl ?_
  refine c_seqR ?_
  refine ops_cons rfl (ow_assign rfl ?_)
  refine ops_nil ?_
  refine c_seq ?_
  refine c_seqR ?_
  refine ops_cons rfl (ow_assign rfl ?_)
  refine ops_nil ?_
  refine c_block ?_
  refine c_loop (G := Nat × Int) (fun ⟨k, a⟩ => [(0, .slice A xs.length c), (1, .int .i64 a), (5, .int .i64 (k : Nat))]) (fun ⟨k, a⟩ wr => a = m + k ∧ k ≤ xs.length ∧ Own wr lo 2 1 A xs.length c ((seqI m k ++ xs.drop k).flatMap eI) ∧ Below lo w wr) (fun ⟨k, a⟩ => xs.length - k) (0, m) (.cons rfl (.cons rfl (.cons rfl (.nil _)))) ?_ ?_
  · exact ⟨by simp, by omega, oO, X⟩
  clear oO
  clear X
  rintro ⟨k, a⟩ wr ⟨ha, hk0, oO, X⟩
  subst ha
  refine c_seq ?_
  refine c_seqR ?_
  refine ops_cons rfl (ow_move rfl ?_)
  refine ops_cons rfl (ow_move rfl ?_)
  refine ops_cons rfl (ow_len Try.underlying32 rfl ?_)
  refine ops_cons rfl (ow_lss2 rfl rfl (fun hk => ?_) (fun hk => ?_))
  · skip
    have hk1 : k < xs.length := by omega
    refine ops_nil ?_
    refine c_true rfl ?_
    refine c_skip ?_
    refine tq_n ?_
    refine c_seq ?_
    refine c_block ?_
    refine c_seqR ?_
    refine ops_cons rfl (ow_move rfl ?_)
    refine ops_cons rfl (ow_move rfl ?_)
    refine ops_cons rfl (ow_move rfl ?_)
    refine ops_cons rfl (ow_indexT (oO).sl eI_len rfl el32 rfl (by simp [seqI_len]; omega) rfl (seqI_at' hk1) rfl ?_)
    refine ops_cons rfl (ow_storeR oO ti2 rfl rfl rfl rfl (by omega) (by omega) rfl ?_)
    intro w2 oN hg1 z3
    replace X := X.grown hg1 (Nat.le_trans hlo X.size) (fun g hg => (Own.lt oO hg).1)
    clear hg1 z3
    replace oN := oN.to (cs' := (seqI m (k + 1) ++ xs.drop (k + 1)).flatMap eI) (by rw [← seqI_set hk1, ← set_flat eI_len _ _ k (by simp [seqI_len]; omega)]; try rfl)
    refine ops_nil ?_
    refine c_region ?_
    refine ops_cons rfl (ow_move rfl ?_)
    refine ops_cons rfl (ow_add rfl rfl (w64 (by omega)) ?_)
    refine ops_cons rfl (ow_assign rfl ?_)
    refine ops_nil ?_
    refine bq_n ?_
    refine tq_n ?_
    refine c_region ?_
    refine ops_cons rfl (ow_move rfl ?_)
    refine ops_cons rfl (ow_add rfl rfl (w64 (by omega)) ?_)
    refine ops_cons rfl (ow_assign rfl ?_)
    refine ops_nil ?_
    refine tq_n ⟨(k + 1, m + k + 1), (.cons rfl (.cons rfl (.cons rfl (.nil _)))), ?_, ?_⟩
    · exact ⟨by omega, by omega, oN, X⟩
    · dsimp only; omega
  · skip
    rw [seqI_end hk0 hk] at oO
    refine ops_nil ?_
    refine c_false rfl ?_
    refine c_exit ?_
    refine tq_e ?_
    refine tq_e ?_
    refine bq_e ?_
    refine tq_n ?_
    refine c_seqR ?_
    refine ops_cons rfl (ow_move rfl ?_)
    refine ops_cons rfl (ow_assign rfl ?_)
    refine ops_nil ?_
    refine c_ret ?_
    refine fin_ret1 rfl rfl ?_
    exact ⟨by rw [show k = xs.length by omega], oO, X⟩

theorem heldI_c (A : Option Addr) (B c n : Nat) (m : Int) (w : World) (hs : Sl B w A ((seqI m n).flatMap eI)) (hl : n ≤ 1048576) (hm : 0 ≤ m ∧ m ≤ 1099511627776) :
    Calls Try.prog 24 #[.slice A n c, .int .i64 m] w (Ret fun v w' => v = .int .i64 (m + n) ∧ Ext w w') := by
  have Bhs := hs.1
  have X := Ext.refl w
  refine calls_of (args := [.slice A n c, .int .i64 m]) Try.func24 Try.ntmps24 rfl rfl ?_
  refine c_seqR ?_
  refine ops_cons rfl (ow_assign rfl ?_)
  refine ops_nil ?_
  refine c_seq ?_
  refine c_seqR ?_
  refine ops_cons rfl (ow_assign rfl ?_)
  refine ops_nil ?_
  refine c_block ?_
  refine c_loop (G := Nat × Int) (fun ⟨k, a⟩ => [(0, .slice A n c), (1, .int .i64 a), (5, .int .i64 (k : Nat))]) (fun ⟨k, a⟩ wr => a = m + k ∧ k ≤ n ∧ Sl B wr A ((seqI m n).flatMap eI) ∧ Ext w wr) (fun ⟨k, a⟩ => n - k) (0, m) (.cons rfl (.cons rfl (.cons rfl (.nil _)))) ?_ ?_
  · exact ⟨by simp, by omega, hs, X⟩
  clear hs
  clear X
  rintro ⟨k, a⟩ wr ⟨ha, hk0, hs, X⟩
  subst ha
  refine c_seq ?_
  refine c_seqR ?_
  refine ops_cons rfl (ow_move rfl ?_)
  refine ops_cons rfl (ow_move rfl ?_)
  refine ops_cons rfl (ow_len Try.underlying32 rfl ?_)
  refine ops_cons rfl (ow_lss2 rfl rfl (fun hk => ?_) (fun hk => ?_))
  · skip
    have hk1 : k < n := by omega
    refine ops_nil ?_
    refine c_true rfl ?_
    refine c_skip ?_
    refine tq_n ?_
    refine c_seq ?_
    refine c_block ?_
    refine c_seq ?_
    refine c_seqR ?_
    refine ops_cons rfl (ow_move rfl ?_)
    refine ops_cons rfl (ow_move rfl ?_)
    refine ops_cons rfl (ow_indexT hs eI_len rfl el32 rfl (seqI_len _ _).symm rfl (seqI_at hk1) rfl ?_)
    refine ops_cons rfl (ow_loadT hs eI_len (seqI_at hk1) ti2 rfl rfl rfl ?_)
    refine ops_cons rfl (ow_move rfl ?_)
    refine ops_cons rfl (ow_neq2 rfl rfl (fun h1 => absurd h1 (by simp)) (fun h1 => ?_))
    refine ops_nil ?_
    refine c_false rfl ?_
    refine c_skip ?_
    refine tq_n ?_
    refine c_region ?_
    refine ops_cons rfl (ow_move rfl ?_)
    refine ops_cons rfl (ow_add rfl rfl (w64 (by omega)) ?_)
    refine ops_cons rfl (ow_assign rfl ?_)
    refine ops_nil ?_
    refine bq_n ?_
    refine tq_n ?_
    refine c_region ?_
    refine ops_cons rfl (ow_move rfl ?_)
    refine ops_cons rfl (ow_add rfl rfl (w64 (by omega)) ?_)
    refine ops_cons rfl (ow_assign rfl ?_)
    refine ops_nil ?_
    refine tq_n ⟨(k + 1, m + k + 1), (.cons rfl (.cons rfl (.cons rfl (.nil _)))), ?_, ?_⟩
    · exact ⟨by omega, by omega, hs, X⟩
    · dsimp only; omega
  · skip
    refine ops_nil ?_
    refine c_false rfl ?_
    refine c_exit ?_
    refine tq_e ?_
    refine tq_e ?_
    refine bq_e ?_
    refine tq_n ?_
    refine c_seqR ?_
    refine ops_cons rfl (ow_move rfl ?_)
    refine ops_cons rfl (ow_assign rfl ?_)
    refine ops_nil ?_
    refine c_ret ?_
    refine fin_ret1 rfl rfl ?_
    exact ⟨by rw [show k = n by omega], X⟩
end Go.Proofs.Ytdikgcccdcgjdaa
