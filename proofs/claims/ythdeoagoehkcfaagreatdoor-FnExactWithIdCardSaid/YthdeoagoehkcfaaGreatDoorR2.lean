/- Lists of bytes. No condition. -/
import Derived.Test.YthdeoagoehkcfaaGreatDoorE1
import Derived.Test.YthdeoagoehkcfaaGreatDoorFlowK
namespace Go.Proofs.YthdeoagoehkcfaaGreatDoor
open Go.RowKit
set_option linter.unusedVariables false
set_option linter.unusedSimpArgs false
set_option maxRecDepth 20000
theorem l01All_c (A : Option Addr) (B c : Nat) (xs : List Int) (m hi0 : Int) (w : World) (hs : Sl B w A (xs.flatMap eI)) (hl : xs.length ≤ 1048576) :
    Calls Tryz.prog 123 #[.slice A xs.length c, .int .i64 m, .int .i64 hi0] w (Ret fun v w' => v = .bool (decide ((xs.length : Int) ≤ m) && xs.all fun x => inB x 0 hi0) ∧ Ext w w') := by
  have Bhs := hs.1
  have X := Ext.refl w
  refine calls_of (args := [.slice A xs.length c, .int .i64 m, .int .i64 hi0]) Tryz.func123 Tryz.ntmps123 rfl rfl ?_
  refine c_seqR ?_
  refine ops_cons rfl (ow_assign rfl ?_)
  refine ops_nil ?_
  refine c_seq ?_
  refine c_seqR ?_
  refine ops_cons rfl (ow_move rfl ?_)
  refine ops_cons rfl (ow_len Tryz.underlying22 rfl ?_)
  refine ops_cons rfl (ow_move rfl ?_)
  refine ops_cons rfl (ow_gtr2 rfl rfl (fun hm => ?_) (fun hm => ?_))
  · skip
    refine ops_nil ?_
    refine c_true rfl ?_
    refine c_seqR ?_
    refine ops_cons rfl (ow_assign rfl ?_)
    refine ops_nil ?_
    refine c_ret ?_
    refine tq_r ?_
    refine fin_ret1 rfl rfl ?_
    refine ⟨congrArg Value.bool ?_, X⟩
    first | (rw [decide_eq_false (by omega)]; rfl) | (rw [decide_eq_true (by omega), hi, drop_end hk]; rfl) | (rw [hi, dx]; simp [*])
  · skip
    refine ops_nil ?_
    refine c_false rfl ?_
    refine c_skip ?_
    refine tq_n ?_
    refine c_seq ?_
    refine c_seqR ?_
    refine ops_cons rfl (ow_assign rfl ?_)
    refine ops_nil ?_
    refine c_block ?_
    refine c_loop (G := Nat) (fun k => [(0, .slice A xs.length c), (2, .int .i64 hi0), (7, .int .i64 (k : Nat))]) (fun k wr => k ≤ xs.length ∧ xs.all (fun x => inB x 0 hi0) = (xs.drop k).all (fun x => inB x 0 hi0) ∧ Sl B wr A (xs.flatMap eI) ∧ Ext w wr) (fun k => xs.length - k) 0 (.cons rfl (.cons rfl (.cons rfl (.nil _)))) ?_ ?_
    · exact ⟨by omega, rfl, hs, X⟩
    clear hs
    clear X
    rintro k wr ⟨hk0, hi, hs, X⟩
    refine c_seq ?_
    refine c_seqR ?_
    refine ops_cons rfl (ow_move rfl ?_)
    refine ops_cons rfl (ow_move rfl ?_)
    refine ops_cons rfl (ow_len Tryz.underlying22 rfl ?_)
    refine ops_cons rfl (ow_lss2 rfl rfl (fun hk => ?_) (fun hk => ?_))
    · skip
      obtain ⟨x, hx, dx⟩ := drop_at' hk
      refine ops_nil ?_
      refine c_true rfl ?_
      refine c_skip ?_
      refine tq_n ?_
      refine c_seq ?_
      refine c_block ?_
      refine c_seqR ?_
      refine ops_cons rfl (ow_move rfl ?_)
      refine ops_cons rfl (ow_move rfl ?_)
      refine ops_cons rfl (ow_indexT hs eI_len rfl el22 rfl rfl rfl hx rfl ?_)
      refine ops_cons rfl (ow_loadT hs eI_len hx ti2 rfl rfl rfl ?_)
      refine ops_cons rfl (ow_move rfl ?_)
      refine ops_cons rfl (ow_callB ent64 rfl (l01In_c _ _ _ _) (fun w3 h1 x2 => ?_) (fun w3 h1 x2 => ?_))
      · skip
        replace hs := hs.ext x2
        replace X := Ext.trans X x2; clear x2
        refine ops_cons rfl (ow_not rfl ?_)
        refine ops_nil ?_
        refine c_false rfl ?_
        refine c_skip ?_
        refine bq_n ?_
        refine tq_n ?_
        refine c_region ?_
        refine ops_cons rfl (ow_move rfl ?_)
        refine ops_cons rfl (ow_add rfl rfl (w64 (by omega)) ?_)
        refine ops_cons rfl (ow_assign rfl ?_)
        refine ops_nil ?_
        refine tq_n ⟨k + 1, (.cons rfl (.cons rfl (.cons rfl (.nil _)))), ?_, ?_⟩
        · exact ⟨by omega, (by rw [hi, dx]; simp [*]), hs, X⟩
        · first | omega | (dsimp only; omega)
      · skip
        replace hs := hs.ext x2
        replace X := Ext.trans X x2; clear x2
        refine ops_cons rfl (ow_not rfl ?_)
        refine ops_nil ?_
        refine c_true rfl ?_
        refine c_seqR ?_
        refine ops_cons rfl (ow_assign rfl ?_)
        refine ops_nil ?_
        refine c_ret ?_
        refine bq_r ?_
        refine tq_r ?_
        refine tq_r ?_
        refine bq_r ?_
        refine tq_r ?_
        refine fin_ret1 rfl rfl ?_
        refine ⟨congrArg Value.bool ?_, X⟩
        first | (rw [decide_eq_false (by omega)]; rfl) | (rw [decide_eq_true (by omega), hi, drop_end hk]; rfl) | (rw [hi, dx]; simp [*])
    · skip
      refine ops_nil ?_
      refine c_false rfl ?_
      refine c_exit ?_
      refine tq_e ?_
      refine tq_e ?_
      refine bq_e ?_
      refine tq_n ?_
      refine c_seqR ?_
      refine ops_cons rfl (ow_assign rfl ?_)
      refine ops_nil ?_
      refine c_ret ?_
      refine fin_ret1 rfl rfl ?_
      refine ⟨congrArg Value.bool ?_, X⟩
      first | (rw [decide_eq_false (by omega)]; rfl) | (rw [decide_eq_true (by omega), hi, drop_end hk]; rfl) | (rw [hi, dx]; simp [*])

theorem sIsBytes_c (A : Option Addr) (B c : Nat) (xs : List Int) (w : World) (hs : Sl B w A (xs.flatMap eI)) (hl : xs.length ≤ 1048576) :
    Calls Tryz.prog 73 #[.slice A xs.length c] w (Ret fun v w' => v = .bool (isB xs) ∧ Ext w w') := by
  have Bhs := hs.1
  have X := Ext.refl w
  refine calls_of (args := [.slice A xs.length c]) Tryz.func73 Tryz.ntmps73 rfl rfl ?_
  refine c_seqR ?_
  refine ops_cons rfl (ow_assign rfl ?_)
  refine ops_nil ?_
  refine c_seqR ?_
  refine ops_cons rfl (ow_move rfl ?_)
  refine ops_cons rfl (ow_call ent123 rfl (ret_mono (l01All_c _ _ _ _ _ _ _ hs hl) ?_))
  rintro _ w2 ⟨rfl, x1⟩
  replace hs := hs.ext x1
  replace X := Ext.trans X x1; clear x1
  refine ops_cons rfl (ow_assign rfl ?_)
  refine ops_nil ?_
  refine c_ret ?_
  refine fin_ret1 rfl rfl ?_
  exact ⟨by rfl, X⟩

theorem iIsBytes_c (A : Option Addr) (B c : Nat) (xs : List Int) (w : World) (hs : Sl B w A (xs.flatMap eI)) (hl : xs.length ≤ 1048576) :
    Calls Tryz.prog 74 #[.slice A xs.length c] w (Ret fun v w' => v = .bool (isB xs) ∧ Ext w w') := by
  have Bhs := hs.1
  have X := Ext.refl w
  refine calls_of (args := [.slice A xs.length c]) Tryz.func74 Tryz.ntmps74 rfl rfl ?_
  refine c_seqR ?_
  refine ops_cons rfl (ow_assign rfl ?_)
  refine ops_nil ?_
  refine c_seqR ?_
  refine ops_cons rfl (ow_move rfl ?_)
  refine ops_cons rfl (ow_len Tryz.underlying22 rfl ?_)
  refine ops_cons rfl (ow_leq2 rfl rfl (fun hm => ?_) (fun hm => ?_))
  · skip
    refine ops_cons rfl (ow_move rfl ?_)
    refine ops_want rfl rfl rfl (ow_move rfl ?_)
    refine ops_want rfl rfl rfl (ow_call ent124 rfl (ret_mono (allWithin_c _ _ _ _ _ _ _ hs hl) ?_))
    rintro _ w2 ⟨rfl, x1⟩
    replace hs := hs.ext x1
    replace X := Ext.trans X x1; clear x1
    refine ops_cons rfl (ow_pick rfl rfl ?_)
    refine ops_cons rfl (ow_assign rfl ?_)
    refine ops_nil ?_
    refine c_ret ?_
    refine fin_ret1 rfl rfl ?_
    refine ⟨congrArg Value.bool ?_, X⟩
    first | (rw [isB, decide_eq_false (by omega)]; rfl) | (rw [isB, decide_eq_true (by omega)]; simp [*])
  · skip
    refine ops_cons rfl (ow_move rfl ?_)
    refine ops_skip rfl rfl rfl rfl ?_
    refine ops_skip rfl rfl rfl rfl ?_
    refine ops_cons rfl (ow_pick rfl rfl ?_)
    refine ops_cons rfl (ow_assign rfl ?_)
    refine ops_nil ?_
    refine c_ret ?_
    refine fin_ret1 rfl rfl ?_
    refine ⟨congrArg Value.bool ?_, X⟩
    first | (rw [isB, decide_eq_false (by omega)]; rfl) | (rw [isB, decide_eq_true (by omega)]; simp [*])

theorem l01Own_c (A : Option Addr) (B c n : Nat) (xs : List Int) (w : World) (hs : Sl B w A (xs.flatMap eI)) (en : n = xs.length) (hl : xs.length ≤ 1048576) :
    Calls Tryz.prog 112 #[.slice A n c] w (Ret fun v w' => ∃ A' c', v = .slice A' xs.length c' ∧ Own w' w.heap.size 2 1 A' xs.length c' (xs.flatMap eI) ∧ Ext w w') := by
  have Bhs := hs.1
  have X := Ext.refl w
  refine calls_of (args := [.slice A n c]) Tryz.func112 Tryz.ntmps112 rfl rfl ?_
  refine c_seqR ?_
  refine ops_cons rfl (ow_assign rfl ?_)
  refine ops_nil ?_
  refine c_seqR ?_
  refine ops_cons rfl (ow_buildSlice el22 ti2 rfl rfl rfl rfl rfl ?_)
  intro gO w2 egO oO bbgO x1 zgO
  replace oO := Own.low oO X.size
  replace hs := hs.ext x1
  replace X := Ext.trans X x1; clear x1
  refine ops_cons rfl (ow_move rfl ?_)
  refine ops_cons rfl (ow_append (ts := #[]) oO X.size hs (by rw [flat_len eI_len xs, en]) (one_ints _) el22 ti2 rfl rfl rfl rfl (by omega) (by omega) ?_)
  intro AoN coN w4 oN hg3
  replace hs := hs.grown hg3 (fun g hg => Nat.le_trans Bhs (Own.lt oO hg).1)
  replace X := X.grown hg3 X.size (fun g hg => (Own.lt oO hg).1)
  clear hg3
  refine ops_cons rfl (ow_assign rfl ?_)
  refine ops_nil ?_
  refine c_ret ?_
  refine fin_ret1 rfl rfl ?_
  rw [Nat.zero_add, en] at oN
  exact ⟨_, _, by rw [Nat.zero_add, en], oN, X⟩
end Go.Proofs.YthdeoagoehkcfaaGreatDoor
