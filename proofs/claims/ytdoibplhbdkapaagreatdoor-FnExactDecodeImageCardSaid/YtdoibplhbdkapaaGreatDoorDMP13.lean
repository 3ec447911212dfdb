/- Texts of the seat that a law needs, put together. No condition. -/
import Derived.Test.YtdoibplhbdkapaaGreatDoorDMP12
import Derived.Test.YtdoibplhbdkapaaGreatDoorDMP5
import Derived.Test.YtdoibplhbdkapaaGreatDoorDMP7
import Derived.Test.YtdoibplhbdkapaaGreatDoorDMP6
namespace Go.Proofs.YtdoibplhbdkapaaGreatDoor
open Go.RowKit
set_option linter.unusedVariables false
set_option linter.unusedSimpArgs false
set_option maxRecDepth 20000
def idxN (s : ByteArray) (k : Int) : List NodeI → Int
  | [] => -1
  | x :: r => if x.name = s then k else idxN s (k + 1) r
theorem idxN_has (s : ByteArray) : ∀ (xs : List NodeI) (k : Int), 0 ≤ k → decide (0 ≤ idxN s k xs) = nameIn s xs
  | [], k, h => by simp [idxN, nameIn]
  | x :: r, k, h => by
    rw [idxN]
    by_cases e : x.name = s
    · rw [if_pos e]; simp [nameIn, e, h]
    · rw [if_neg e, idxN_has s r (k + 1) (by omega)]; simp [nameIn, e]
theorem sIsNT_c (A : Option Addr) (B c : Nat) (xs : List NodeI) (w : World) (hs : Sl B w A (xs.flatMap NodeI.cells)) (hl : xs.length ≤ 1048576) (hm : ∀ x ∈ xs, x.name.size ≤ 9223372036854775807) :
    Calls Tryz.prog 224 #[.slice A xs.length c] w (Ret fun v w' => v = .bool (isNT xs) ∧ Ext w w') := by
  have Bhs := hs.1
  have X := Ext.refl w
  refine calls_of (args := [.slice A xs.length c]) Tryz.func224 Tryz.ntmps224 rfl rfl ?_
  refine c_seqR ?_
  refine ops_cons rfl (ow_assign rfl ?_)
  refine ops_nil ?_
  refine c_seq ?_
  refine c_seqR ?_
  refine ops_cons rfl (ow_move rfl ?_)
  refine ops_cons rfl (ow_len Tryz.underlying24 rfl ?_)
  refine ops_cons rfl (ow_callB ent111 rfl (l01In_c _ _ _ _) (fun w2 hB x1 => ?_) (fun w2 hB x1 => ?_))
  replace hs := hs.ext x1
  replace X := Ext.trans X x1; clear x1
  refine ops_cons rfl (ow_not rfl ?_)
  refine ops_nil ?_
  refine c_false rfl ?_
  refine c_skip ?_
  refine tq_n ?_
  refine c_seq ?_
  refine c_seqR ?_
  refine ops_cons rfl (ow_assign rfl ?_)
  refine ops_nil ?_
  refine c_block ?_
  refine c_loop (G := Nat) (fun k => [(0, .slice A xs.length c), (3, .int .i64 (k : Nat))]) (fun k wr => k ≤ xs.length ∧ ntFrom none [] xs = ntFrom (prevG xs k) (xs.take k) (xs.drop k) ∧ Sl B wr A (xs.flatMap NodeI.cells) ∧ Ext w wr) (fun k => xs.length - k) 0 (.cons rfl (.cons rfl (.nil _))) ?_ ?_
  · exact ⟨by omega, rfl, hs, X⟩
  clear hs
  clear X
  rintro k wr ⟨hk0, hi, hs, X⟩
  refine c_seq ?_
  refine c_seqR ?_
  refine ops_cons rfl (ow_move rfl ?_)
  refine ops_cons rfl (ow_move rfl ?_)
  refine ops_cons rfl (ow_len Tryz.underlying24 rfl ?_)
  refine ops_cons rfl (ow_lss2 rfl rfl (fun hk => ?_) (fun hk => ?_))
  obtain ⟨x, hx, dx⟩ := drop_at' hk
  have hmx := hm x (List.mem_of_getElem? hx)
  refine ops_nil ?_
  refine c_true rfl ?_
  refine c_skip ?_
  refine tq_n ?_
  refine c_seq ?_
  refine c_block ?_
  refine c_seq ?_
  refine c_seqD [false, false, false, false, false, false, false, false, false, false, false, false, false, false, false, false, false, false, false, false, false, false, false, false] mixed (by kernel_rfl) ?_
  refine f_q rfl (fun wq sq => ow_move rfl ⟨rfl, Ext.refl _⟩) ?_
  refine f_q rfl (fun wq sq => ow_move rfl ⟨rfl, Ext.refl _⟩) ?_
  refine f_q rfl (fun wq sq => ow_indexT (hs.ext sq) NodeI.len rfl el24 rfl rfl rfl hx rfl ⟨rfl, Ext.refl _⟩) ?_
  refine f_q rfl (fun wq sq => ow_loadTA (hs.ext sq) NodeI.len hx ti59 rfl ⟨rfl, Ext.refl _⟩) ?_
  refine f_qB rfl (fun wq sq => ow_call ent258 rfl (sIsNode_c _ _ hmx)) (fun h3 => ?_) (fun h3 => ?_)
  refine f_q rfl (fun wq sq => ow_not rfl ⟨rfl, Ext.refl _⟩) ?_
  refine f_q rfl (fun wq sq => ow_move rfl ⟨rfl, Ext.refl _⟩) ?_
  refine f_qw rfl rfl rfl (fun wq sq => ow_move rfl ⟨rfl, Ext.refl _⟩) ?_
  refine f_qwb rfl rfl rfl (fun wq sq => ow_gtr rfl rfl ⟨rfl, Ext.refl _⟩) (fun hp => ?_) (fun hp => ?_)
  obtain ⟨y, hy⟩ : ∃ y, xs[k - 1]? = some y := ⟨_, List.getElem?_eq_getElem (by omega)⟩
  refine f_qw rfl rfl rfl (fun wq sq => ow_move rfl ⟨rfl, Ext.refl _⟩) ?_
  refine f_qw rfl rfl rfl (fun wq sq => ow_move rfl ⟨rfl, Ext.refl _⟩) ?_
  refine f_qw rfl rfl rfl (fun wq sq => ow_move rfl ⟨rfl, Ext.refl _⟩) ?_
  refine f_qw rfl rfl rfl (fun wq sq => ow_indexT (hs.ext sq) NodeI.len rfl el24 rfl rfl rfl hx rfl ⟨rfl, Ext.refl _⟩) ?_
  refine f_qw rfl rfl rfl (fun wq sq => ow_fieldAddr off59_0 rfl ⟨rfl, Ext.refl _⟩) ?_
  refine f_qw rfl rfl rfl (fun wq sq => ow_loadTF (hs.ext sq) NodeI.len hx ti2 rfl rfl rfl ⟨rfl, Ext.refl _⟩) ?_
  refine f_qw rfl rfl rfl (fun wq sq => ow_move rfl ⟨rfl, Ext.refl _⟩) ?_
  refine f_qw rfl rfl rfl (fun wq sq => ow_move rfl ⟨rfl, Ext.refl _⟩) ?_
  refine f_qw rfl rfl rfl (fun wq sq => ow_sub rfl rfl (w64 (by omega)) ⟨rfl, Ext.refl _⟩) ?_
  refine f_qw rfl rfl rfl (fun wq sq => ow_indexT (hs.ext sq) NodeI.len rfl el24 rfl rfl rfl hy (by omega) ⟨rfl, Ext.refl _⟩) ?_
  refine f_qw rfl rfl rfl (fun wq sq => ow_fieldAddr off59_0 rfl ⟨rfl, Ext.refl _⟩) ?_
  refine f_qw rfl rfl rfl (fun wq sq => ow_loadTF (hs.ext sq) NodeI.len hy ti2 rfl rfl rfl ⟨rfl, Ext.refl _⟩) ?_
  refine f_qwb rfl rfl rfl (fun wq sq => ow_leq rfl rfl ⟨rfl, Ext.refl _⟩) (fun h6 => ?_) (fun h6 => ?_)
  refine f_qw rfl rfl rfl (fun wq sq => ow_pick rfl rfl ⟨rfl, Ext.refl _⟩) ?_
  refine f_q rfl (fun wq sq => ow_pick rfl rfl ⟨rfl, Ext.refl _⟩) ?_
  refine f_nil (fun w7 sq => ?_)
  have xq := sq
  replace hs := hs.ext xq
  replace X := Ext.trans X xq; clear xq sq
  refine ops_nil ?_
  refine c_true rfl ?_
  refine c_seqR ?_
  refine ops_cons rfl (ow_assign rfl ?_)
  refine ops_nil ?_
  refine c_ret ?_
  refine tq_r ?_
  refine bq_r ?_
  refine tq_r ?_
  refine tq_r ?_
  refine bq_r ?_
  refine tq_r ?_
  refine fin_ret1 rfl rfl ?_
  · skip
    refine ⟨congrArg Value.bool ?_, X⟩
    first
    | (rw [isNT, hB]; rfl)
    | (rw [isNT, hB, hi, drop_end hk, nt_nil]; rfl)
    | (rw [isNT, hi, drop_end hk, nt_nil, inB]; rw [Bool.eq_iff_iff]; simp; done)
    | (rw [isNT, hi, drop_end hk, nt_nil, inB]; rw [Bool.eq_iff_iff]; simp; omega)
    | (rw [isNT, hi, dx, nt_badx (by assumption), Bool.and_false]; done)
    | (rw [isNT, hi, dx, nt_badn (by assumption), Bool.and_false]; done)
    | (rw [isNT, hi, dx, prevG_pos (by omega) hy, nt_bado (by omega), Bool.and_false]; done)
    | (have hnm := nameIn_take hz ‹_›
       rw [isNT, hi, dx, nt_badn hnm, Bool.and_false])
  refine f_qw rfl rfl rfl (fun wq sq => ow_pick rfl rfl ⟨rfl, Ext.refl _⟩) ?_
  refine f_q rfl (fun wq sq => ow_pick rfl rfl ⟨rfl, Ext.refl _⟩) ?_
  refine f_nil (fun w9 sq => ?_)
  have xq := sq
  replace hs := hs.ext xq
  replace X := Ext.trans X xq; clear xq sq
  refine ops_nil ?_
  refine c_false rfl ?_
  refine c_skip ?_
  refine tq_n ?_
  refine c_seqR ?_
  refine ops_cons rfl (ow_assign rfl ?_)
  refine ops_nil ?_
  refine c_block ?_
  refine c_loop (G := Nat) (fun j => [(0, .slice A xs.length c), (3, .int .i64 (k : Nat)), (9, .int .i64 (k : Nat)), (10, .slice A xs.length c), (11, .int .i64 (xs.length : Nat)), (15, .slice A xs.length c), (16, .int .i64 (k : Nat)), (22, .int .i64 (k : Nat)), (25, .slice A xs.length c), (26, .int .i64 (k : Nat)), (30, .slice A xs.length c), (31, .int .i64 (k : Nat)), (4, .int .i64 (j : Nat))]) (fun j wr => j ≤ k ∧ nameIn x.name (xs.take k) = nameIn x.name ((xs.take k).drop j) ∧ Sl B wr A (xs.flatMap NodeI.cells) ∧ Ext w wr) (fun j => k - j) 0 (.cons rfl (.cons rfl (.cons rfl (.cons rfl (.cons rfl (.cons rfl (.cons rfl (.cons rfl (.cons rfl (.cons rfl (.cons rfl (.cons rfl (.cons rfl (.nil _)))))))))))))) ?_ ?_
  · exact ⟨by omega, rfl, hs, X⟩
  clear hs
  clear X
  rintro j wr ⟨hj0, hj2, hs, X⟩
  refine c_seq ?_
  refine c_seqR ?_
  refine ops_cons rfl (ow_move rfl ?_)
  refine ops_cons rfl (ow_move rfl ?_)
  refine ops_cons rfl (ow_lss2 rfl rfl (fun hj => ?_) (fun hj => ?_))
  have hq : (xs.take k).length = k := by simp; omega
  obtain ⟨z, hz, dz⟩ := drop_at' (xs := xs.take k) (k := j) (by omega)
  have hz2 : xs[j]? = some z := by
    rw [List.getElem?_take] at hz
    split at hz <;> simp_all
  refine ops_nil ?_
  refine c_true rfl ?_
  refine c_skip ?_
  refine tq_n ?_
  refine c_seq ?_
  refine c_block ?_
  refine c_seqD [false, false, false, false, false, false, false, false, false, false, false] mixed (by kernel_rfl) ?_
  refine f_q rfl (fun wq sq => ow_move rfl ⟨rfl, Ext.refl _⟩) ?_
  refine f_q rfl (fun wq sq => ow_move rfl ⟨rfl, Ext.refl _⟩) ?_
  refine f_q rfl (fun wq sq => ow_indexT (hs.ext sq) NodeI.len rfl el24 rfl rfl rfl hz2 rfl ⟨rfl, Ext.refl _⟩) ?_
  refine f_q rfl (fun wq sq => ow_fieldAddr off59_1 rfl ⟨rfl, Ext.refl _⟩) ?_
  refine f_q rfl (fun wq sq => ow_loadTF (hs.ext sq) NodeI.len hz2 ti9 rfl rfl rfl ⟨rfl, Ext.refl _⟩) ?_
  refine f_q rfl (fun wq sq => ow_move rfl ⟨rfl, Ext.refl _⟩) ?_
  refine f_q rfl (fun wq sq => ow_move rfl ⟨rfl, Ext.refl _⟩) ?_
  refine f_q rfl (fun wq sq => ow_indexT (hs.ext sq) NodeI.len rfl el24 rfl rfl rfl hx rfl ⟨rfl, Ext.refl _⟩) ?_
  refine f_q rfl (fun wq sq => ow_fieldAddr off59_1 rfl ⟨rfl, Ext.refl _⟩) ?_
  refine f_q rfl (fun wq sq => ow_loadTF (hs.ext sq) NodeI.len hx ti9 rfl rfl rfl ⟨rfl, Ext.refl _⟩) ?_
  refine f_qb rfl (fun wq sq => ow_eqlS rfl rfl ⟨rfl, Ext.refl _⟩) (fun he => ?_) (fun he => ?_)
  refine f_nil (fun w10 sq => ?_)
  have xq := sq
  replace hs := hs.ext xq
  replace X := Ext.trans X xq; clear xq sq
  refine ops_nil ?_
  refine c_true rfl ?_
  refine c_seqR ?_
  refine ops_cons rfl (ow_assign rfl ?_)
  refine ops_nil ?_
  refine c_ret ?_
  refine bq_r ?_
  refine tq_r ?_
  refine tq_r ?_
  refine bq_r ?_
  refine bq_r ?_
  refine tq_r ?_
  refine tq_r ?_
  refine bq_r ?_
  refine tq_r ?_
  refine fin_ret1 rfl rfl ?_
  · skip
    refine ⟨congrArg Value.bool ?_, X⟩
    first
    | (rw [isNT, hB]; rfl)
    | (rw [isNT, hB, hi, drop_end hk, nt_nil]; rfl)
    | (rw [isNT, hi, drop_end hk, nt_nil, inB]; rw [Bool.eq_iff_iff]; simp; done)
    | (rw [isNT, hi, drop_end hk, nt_nil, inB]; rw [Bool.eq_iff_iff]; simp; omega)
    | (rw [isNT, hi, dx, nt_badx (by assumption), Bool.and_false]; done)
    | (rw [isNT, hi, dx, nt_badn (by assumption), Bool.and_false]; done)
    | (rw [isNT, hi, dx, prevG_pos (by omega) hy, nt_bado (by omega), Bool.and_false]; done)
    | (have hnm := nameIn_take hz ‹_›
       rw [isNT, hi, dx, nt_badn hnm, Bool.and_false])
  refine f_nil (fun w11 sq => ?_)
  have xq := sq
  replace hs := hs.ext xq
  replace X := Ext.trans X xq; clear xq sq
  refine ops_nil ?_
  refine c_false rfl ?_
  refine c_skip ?_
  refine bq_n ?_
  refine tq_n ?_
  refine c_region ?_
  refine ops_cons rfl (ow_move rfl ?_)
  refine ops_cons rfl (ow_add rfl rfl (w64 (by omega)) ?_)
  refine ops_cons rfl (ow_assign rfl ?_)
  refine ops_nil ?_
  refine tq_n ⟨j + 1, (.cons rfl (.cons rfl (.cons rfl (.cons rfl (.cons rfl (.cons rfl (.cons rfl (.cons rfl (.cons rfl (.cons rfl (.cons rfl (.cons rfl (.cons rfl (.nil _)))))))))))))), ?_, ?_⟩
  · exact ⟨by omega, (by rw [hj2, dz]; simp [nameIn, *]), hs, X⟩
  · first | omega | (dsimp only; omega)
  refine ops_nil ?_
  refine c_false rfl ?_
  refine c_exit ?_
  refine tq_e ?_
  refine tq_e ?_
  refine bq_e ?_
  refine bq_n ?_
  refine tq_n ?_
  refine c_region ?_
  refine ops_cons rfl (ow_move rfl ?_)
  refine ops_cons rfl (ow_add rfl rfl (w64 (by omega)) ?_)
  refine ops_cons rfl (ow_assign rfl ?_)
  refine ops_nil ?_
  refine tq_n ⟨k + 1, (.cons rfl (.cons rfl (.nil _))), ?_, ?_⟩
  · skip
    exact ⟨by omega, (by
      have hpx : prevG xs (k + 1) = some x := prevG_succ hx
      have htk : xs.take (k + 1) = xs.take k ++ [x] := by rw [List.take_add_one, hx]; rfl
      rw [hi, dx, hpx, htk]
      have hnm : nameIn x.name (xs.take k) = false := by rw [hj2, List.drop_eq_nil_of_le (by simp; omega)]; rfl
      first | rw [prevG_zero ‹_›, nt_ok0 (by assumption) hnm] | rw [prevG_pos (by omega) hy, nt_ok1 (by assumption) (by omega) hnm]), hs, X⟩
  · first | omega | (dsimp only; omega)
  refine f_qw rfl rfl rfl (fun wq sq => ow_move rfl ⟨rfl, Ext.refl _⟩) ?_
  refine f_qs rfl rfl rfl rfl ?_
  refine f_qs rfl rfl rfl rfl ?_
  refine f_qs rfl rfl rfl rfl ?_
  refine f_qs rfl rfl rfl rfl ?_
  refine f_qs rfl rfl rfl rfl ?_
  refine f_qs rfl rfl rfl rfl ?_
  refine f_qs rfl rfl rfl rfl ?_
  refine f_qs rfl rfl rfl rfl ?_
  refine f_qs rfl rfl rfl rfl ?_
  refine f_qs rfl rfl rfl rfl ?_
  refine f_qs rfl rfl rfl rfl ?_
  refine f_qs rfl rfl rfl rfl ?_
  refine f_qw rfl rfl rfl (fun wq sq => ow_pick rfl rfl ⟨rfl, Ext.refl _⟩) ?_
  refine f_q rfl (fun wq sq => ow_pick rfl rfl ⟨rfl, Ext.refl _⟩) ?_
  refine f_nil (fun w12 sq => ?_)
  have xq := sq
  replace hs := hs.ext xq
  replace X := Ext.trans X xq; clear xq sq
  refine ops_nil ?_
  refine c_false rfl ?_
  refine c_skip ?_
  refine tq_n ?_
  refine c_seqR ?_
  refine ops_cons rfl (ow_assign rfl ?_)
  refine ops_nil ?_
  refine c_block ?_
  refine c_loop (G := Nat) (fun j => [(0, .slice A xs.length c), (3, .int .i64 (k : Nat)), (9, .int .i64 (k : Nat)), (10, .slice A xs.length c), (11, .int .i64 (xs.length : Nat)), (15, .slice A xs.length c), (16, .int .i64 (k : Nat)), (22, .int .i64 (k : Nat)), (4, .int .i64 (j : Nat))]) (fun j wr => j ≤ k ∧ nameIn x.name (xs.take k) = nameIn x.name ((xs.take k).drop j) ∧ Sl B wr A (xs.flatMap NodeI.cells) ∧ Ext w wr) (fun j => k - j) 0 (.cons rfl (.cons rfl (.cons rfl (.cons rfl (.cons rfl (.cons rfl (.cons rfl (.cons rfl (.cons rfl (.nil _)))))))))) ?_ ?_
  · exact ⟨by omega, rfl, hs, X⟩
  clear hs
  clear X
  rintro j wr ⟨hj0, hj2, hs, X⟩
  refine c_seq ?_
  refine c_seqR ?_
  refine ops_cons rfl (ow_move rfl ?_)
  refine ops_cons rfl (ow_move rfl ?_)
  refine ops_cons rfl (ow_lss2 rfl rfl (fun hj => ?_) (fun hj => ?_))
  have hq : (xs.take k).length = k := by simp; omega
  obtain ⟨z, hz, dz⟩ := drop_at' (xs := xs.take k) (k := j) (by omega)
  have hz2 : xs[j]? = some z := by
    rw [List.getElem?_take] at hz
    split at hz <;> simp_all
  refine ops_nil ?_
  refine c_true rfl ?_
  refine c_skip ?_
  refine tq_n ?_
  refine c_seq ?_
  refine c_block ?_
  refine c_seqD [false, false, false, false, false, false, false, false, false, false, false] mixed (by kernel_rfl) ?_
  refine f_q rfl (fun wq sq => ow_move rfl ⟨rfl, Ext.refl _⟩) ?_
  refine f_q rfl (fun wq sq => ow_move rfl ⟨rfl, Ext.refl _⟩) ?_
  refine f_q rfl (fun wq sq => ow_indexT (hs.ext sq) NodeI.len rfl el24 rfl rfl rfl hz2 rfl ⟨rfl, Ext.refl _⟩) ?_
  refine f_q rfl (fun wq sq => ow_fieldAddr off59_1 rfl ⟨rfl, Ext.refl _⟩) ?_
  refine f_q rfl (fun wq sq => ow_loadTF (hs.ext sq) NodeI.len hz2 ti9 rfl rfl rfl ⟨rfl, Ext.refl _⟩) ?_
  refine f_q rfl (fun wq sq => ow_move rfl ⟨rfl, Ext.refl _⟩) ?_
  refine f_q rfl (fun wq sq => ow_move rfl ⟨rfl, Ext.refl _⟩) ?_
  refine f_q rfl (fun wq sq => ow_indexT (hs.ext sq) NodeI.len rfl el24 rfl rfl rfl hx rfl ⟨rfl, Ext.refl _⟩) ?_
  refine f_q rfl (fun wq sq => ow_fieldAddr off59_1 rfl ⟨rfl, Ext.refl _⟩) ?_
  refine f_q rfl (fun wq sq => ow_loadTF (hs.ext sq) NodeI.len hx ti9 rfl rfl rfl ⟨rfl, Ext.refl _⟩) ?_
  refine f_qb rfl (fun wq sq => ow_eqlS rfl rfl ⟨rfl, Ext.refl _⟩) (fun he => ?_) (fun he => ?_)
  refine f_nil (fun w13 sq => ?_)
  have xq := sq
  replace hs := hs.ext xq
  replace X := Ext.trans X xq; clear xq sq
  refine ops_nil ?_
  refine c_true rfl ?_
  refine c_seqR ?_
  refine ops_cons rfl (ow_assign rfl ?_)
  refine ops_nil ?_
  refine c_ret ?_
  refine bq_r ?_
  refine tq_r ?_
  refine tq_r ?_
  refine bq_r ?_
  refine bq_r ?_
  refine tq_r ?_
  refine tq_r ?_
  refine bq_r ?_
  refine tq_r ?_
  refine fin_ret1 rfl rfl ?_
  · skip
    refine ⟨congrArg Value.bool ?_, X⟩
    first
    | (rw [isNT, hB]; rfl)
    | (rw [isNT, hB, hi, drop_end hk, nt_nil]; rfl)
    | (rw [isNT, hi, drop_end hk, nt_nil, inB]; rw [Bool.eq_iff_iff]; simp; done)
    | (rw [isNT, hi, drop_end hk, nt_nil, inB]; rw [Bool.eq_iff_iff]; simp; omega)
    | (rw [isNT, hi, dx, nt_badx (by assumption), Bool.and_false]; done)
    | (rw [isNT, hi, dx, nt_badn (by assumption), Bool.and_false]; done)
    | (rw [isNT, hi, dx, prevG_pos (by omega) hy, nt_bado (by omega), Bool.and_false]; done)
    | (have hnm := nameIn_take hz ‹_›
       rw [isNT, hi, dx, nt_badn hnm, Bool.and_false])
  refine f_nil (fun w14 sq => ?_)
  have xq := sq
  replace hs := hs.ext xq
  replace X := Ext.trans X xq; clear xq sq
  refine ops_nil ?_
  refine c_false rfl ?_
  refine c_skip ?_
  refine bq_n ?_
  refine tq_n ?_
  refine c_region ?_
  refine ops_cons rfl (ow_move rfl ?_)
  refine ops_cons rfl (ow_add rfl rfl (w64 (by omega)) ?_)
  refine ops_cons rfl (ow_assign rfl ?_)
  refine ops_nil ?_
  refine tq_n ⟨j + 1, (.cons rfl (.cons rfl (.cons rfl (.cons rfl (.cons rfl (.cons rfl (.cons rfl (.cons rfl (.cons rfl (.nil _)))))))))), ?_, ?_⟩
  · exact ⟨by omega, (by rw [hj2, dz]; simp [nameIn, *]), hs, X⟩
  · first | omega | (dsimp only; omega)
  refine ops_nil ?_
  refine c_false rfl ?_
  refine c_exit ?_
  refine tq_e ?_
  refine tq_e ?_
  refine bq_e ?_
  refine bq_n ?_
  refine tq_n ?_
  refine c_region ?_
  refine ops_cons rfl (ow_move rfl ?_)
  refine ops_cons rfl (ow_add rfl rfl (w64 (by omega)) ?_)
  refine ops_cons rfl (ow_assign rfl ?_)
  refine ops_nil ?_
  refine tq_n ⟨k + 1, (.cons rfl (.cons rfl (.nil _))), ?_, ?_⟩
  · skip
    exact ⟨by omega, (by
      have hpx : prevG xs (k + 1) = some x := prevG_succ hx
      have htk : xs.take (k + 1) = xs.take k ++ [x] := by rw [List.take_add_one, hx]; rfl
      rw [hi, dx, hpx, htk]
      have hnm : nameIn x.name (xs.take k) = false := by rw [hj2, List.drop_eq_nil_of_le (by simp; omega)]; rfl
      first | rw [prevG_zero ‹_›, nt_ok0 (by assumption) hnm] | rw [prevG_pos (by omega) hy, nt_ok1 (by assumption) (by omega) hnm]), hs, X⟩
  · first | omega | (dsimp only; omega)
  refine f_q rfl (fun wq sq => ow_not rfl ⟨rfl, Ext.refl _⟩) ?_
  refine f_q rfl (fun wq sq => ow_move rfl ⟨rfl, Ext.refl _⟩) ?_
  refine f_qs rfl rfl rfl rfl ?_
  refine f_qs rfl rfl rfl rfl ?_
  refine f_qs rfl rfl rfl rfl ?_
  refine f_qs rfl rfl rfl rfl ?_
  refine f_qs rfl rfl rfl rfl ?_
  refine f_qs rfl rfl rfl rfl ?_
  refine f_qs rfl rfl rfl rfl ?_
  refine f_qs rfl rfl rfl rfl ?_
  refine f_qs rfl rfl rfl rfl ?_
  refine f_qs rfl rfl rfl rfl ?_
  refine f_qs rfl rfl rfl rfl ?_
  refine f_qs rfl rfl rfl rfl ?_
  refine f_qs rfl rfl rfl rfl ?_
  refine f_qs rfl rfl rfl rfl ?_
  refine f_qs rfl rfl rfl rfl ?_
  refine f_qs rfl rfl rfl rfl ?_
  refine f_q rfl (fun wq sq => ow_pick rfl rfl ⟨rfl, Ext.refl _⟩) ?_
  refine f_nil (fun w15 sq => ?_)
  have xq := sq
  replace hs := hs.ext xq
  replace X := Ext.trans X xq; clear xq sq
  refine ops_nil ?_
  refine c_true rfl ?_
  refine c_seqR ?_
  refine ops_cons rfl (ow_assign rfl ?_)
  refine ops_nil ?_
  refine c_ret ?_
  refine tq_r ?_
  refine bq_r ?_
  refine tq_r ?_
  refine tq_r ?_
  refine bq_r ?_
  refine tq_r ?_
  refine fin_ret1 rfl rfl ?_
  · skip
    refine ⟨congrArg Value.bool ?_, X⟩
    first
    | (rw [isNT, hB]; rfl)
    | (rw [isNT, hB, hi, drop_end hk, nt_nil]; rfl)
    | (rw [isNT, hi, drop_end hk, nt_nil, inB]; rw [Bool.eq_iff_iff]; simp; done)
    | (rw [isNT, hi, drop_end hk, nt_nil, inB]; rw [Bool.eq_iff_iff]; simp; omega)
    | (rw [isNT, hi, dx, nt_badx (by assumption), Bool.and_false]; done)
    | (rw [isNT, hi, dx, nt_badn (by assumption), Bool.and_false]; done)
    | (rw [isNT, hi, dx, prevG_pos (by omega) hy, nt_bado (by omega), Bool.and_false]; done)
    | (have hnm := nameIn_take hz ‹_›
       rw [isNT, hi, dx, nt_badn hnm, Bool.and_false])
  refine ops_nil ?_
  refine c_false rfl ?_
  refine c_exit ?_
  refine tq_e ?_
  refine tq_e ?_
  refine bq_e ?_
  refine tq_n ?_
  refine c_seqR ?_
  refine ops_cons rfl (ow_assign rfl ?_)
  refine ops_nil ?_
  refine c_ret ?_
  refine fin_ret1 rfl rfl ?_
  · skip
    refine ⟨congrArg Value.bool ?_, X⟩
    first
    | (rw [isNT, hB]; rfl)
    | (rw [isNT, hB, hi, drop_end hk, nt_nil]; rfl)
    | (rw [isNT, hi, drop_end hk, nt_nil, inB]; rw [Bool.eq_iff_iff]; simp; done)
    | (rw [isNT, hi, drop_end hk, nt_nil, inB]; rw [Bool.eq_iff_iff]; simp; omega)
    | (rw [isNT, hi, dx, nt_badx (by assumption), Bool.and_false]; done)
    | (rw [isNT, hi, dx, nt_badn (by assumption), Bool.and_false]; done)
    | (rw [isNT, hi, dx, prevG_pos (by omega) hy, nt_bado (by omega), Bool.and_false]; done)
    | (have hnm := nameIn_take hz ‹_›
       rw [isNT, hi, dx, nt_badn hnm, Bool.and_false])
  replace hs := hs.ext x1
  replace X := Ext.trans X x1; clear x1
  refine ops_cons rfl (ow_not rfl ?_)
  refine ops_nil ?_
  refine c_true rfl ?_
  refine c_seqR ?_
  refine ops_cons rfl (ow_assign rfl ?_)
  refine ops_nil ?_
  refine c_ret ?_
  refine tq_r ?_
  refine fin_ret1 rfl rfl ?_
  · skip
    refine ⟨congrArg Value.bool ?_, X⟩
    first
    | (rw [isNT, hB]; rfl)
    | (rw [isNT, hB, hi, drop_end hk, nt_nil]; rfl)
    | (rw [isNT, hi, drop_end hk, nt_nil, inB]; rw [Bool.eq_iff_iff]; simp; done)
    | (rw [isNT, hi, drop_end hk, nt_nil, inB]; rw [Bool.eq_iff_iff]; simp; omega)
    | (rw [isNT, hi, dx, nt_badx (by assumption), Bool.and_false]; done)
    | (rw [isNT, hi, dx, nt_badn (by assumption), Bool.and_false]; done)
    | (rw [isNT, hi, dx, prevG_pos (by omega) hy, nt_bado (by omega), Bool.and_false]; done)
    | (have hnm := nameIn_take hz ‹_›
       rw [isNT, hi, dx, nt_badn hnm, Bool.and_false])

theorem nameEq_c (y : NodeI) (gx : Nat) (x : NodeI) (w : World) (q : Blk w gx 59 x.cells) :
    Calls Tryz.prog 199 #[.agg y.cells.toArray, .pointer (some ⟨gx, 0, none⟩)] w (Ret fun v w' => v = .bool (decide (y.name = x.name)) ∧ Ext w w') := by
  have X := Ext.refl w
  refine calls_of (args := [.agg y.cells.toArray, .pointer (some ⟨gx, 0, none⟩)]) Tryz.func199 Tryz.ntmps199 rfl rfl ?_
  refine c_seqR ?_
  refine ops_cons rfl (ow_box rfl rfl ?_)
  intro g4 w3 eg4 b1 x2 zg4
  have lg4 : w.heap.size ≤ g4 := Nat.le_trans X.size (Nat.le_of_eq eg4.symm)
  have ng4q := Nat.lt_of_lt_of_eq q.lt eg4.symm
  replace q := q.ext x2
  replace X := Ext.trans X x2; clear x2
  refine ops_cons rfl (ow_assign rfl ?_)
  refine ops_nil ?_
  refine c_seqR ?_
  refine ops_cons rfl (ow_fieldAddrB off59_1 rfl rfl ?_)
  refine ops_cons rfl (ow_loadB b1 ti9 rfl rfl ?_)
  refine ops_cons rfl (ow_fieldAddrB off59_1 rfl rfl ?_)
  refine ops_cons rfl (ow_loadB q ti9 rfl rfl ?_)
  refine ops_cons rfl (ow_eqlS rfl rfl ?_)
  refine ops_cons rfl (ow_assign rfl ?_)
  refine ops_nil ?_
  refine c_ret ?_
  refine fin_ret1 rfl rfl ?_
  exact ⟨by rfl, X⟩

theorem idxN_c (A : Option Addr) (B c : Nat) (xs : List NodeI) (gx : Nat) (x : NodeI) (w : World) (hs : Sl B w A (xs.flatMap NodeI.cells)) (hl : xs.length ≤ 1048576) (q : Blk w gx 59 x.cells) :
    Calls Tryz.prog 249 #[.slice A xs.length c, .func (.func 199) #[] #[.pointer (some ⟨gx, 0, none⟩)]] w (Ret fun v w' => v = .int .i64 (idxN x.name 0 xs) ∧ Ext w w') := by
  have Bhs := hs.1
  have X := Ext.refl w
  refine calls_of (args := [.slice A xs.length c, .func (.func 199) #[] #[.pointer (some ⟨gx, 0, none⟩)]]) Tryz.func249 Tryz.ntmps249 rfl rfl ?_
  refine c_seqR ?_
  refine ops_cons rfl (ow_assign rfl ?_)
  refine ops_nil ?_
  refine c_seq ?_
  refine c_seqR ?_
  refine ops_cons rfl (ow_move rfl ?_)
  refine ops_cons rfl (ow_len Tryz.underlying24 rfl ?_)
  refine ops_cons rfl (ow_move rfl ?_)
  refine ops_nil ?_
  refine c_block ?_
  refine c_loop (G := Nat) (fun k => [(0, .slice A xs.length c), (1, .func (.func 199) #[] #[.pointer (some ⟨gx, 0, none⟩)]), (7, .int .i64 (xs.length : Nat)), (8, .int .i64 (k : Nat))]) (fun k wr => k ≤ xs.length ∧ idxN x.name 0 xs = idxN x.name k (xs.drop k) ∧ Sl B wr A (xs.flatMap NodeI.cells) ∧ Blk wr gx 59 x.cells ∧ Ext w wr) (fun k => xs.length - k) 0 (.cons rfl (.cons rfl (.cons rfl (.cons rfl (.nil _))))) ?_ ?_
  · exact ⟨by omega, rfl, hs, q, X⟩
  clear hs q
  clear X
  rintro k wr ⟨hk0, hi, hs, q, X⟩
  refine c_seqR ?_
  refine ops_cons rfl (ow_lss2 rfl rfl (fun hk => ?_) (fun hk => ?_))
  obtain ⟨y, hx, dx⟩ := drop_at' hk
  refine ops_nil ?_
  refine c_seq ?_
  refine c_true rfl ?_
  refine c_skip ?_
  refine tq_n ?_
  refine c_seq ?_
  refine c_block ?_
  refine c_seqR ?_
  refine ops_cons rfl (ow_move rfl ?_)
  refine ops_cons rfl (ow_assign rfl ?_)
  refine ops_nil ?_
  refine c_seqR ?_
  refine ops_cons rfl (ow_move rfl ?_)
  refine ops_cons rfl (ow_move rfl ?_)
  refine ops_cons rfl (ow_move rfl ?_)
  refine ops_cons rfl (ow_indexT hs NodeI.len rfl el24 rfl rfl rfl hx rfl ?_)
  refine ops_cons rfl (ow_loadTA hs NodeI.len hx ti59 rfl ?_)
  refine ops_cons rfl (ow_callVLB ent199 rfl rfl (nameEq_c _ _ _ _ q) (fun w2 hF x1 => ?_) (fun w2 hF x1 => ?_))
  replace hs := hs.ext x1
  replace q := q.ext x1
  replace X := Ext.trans X x1; clear x1
  refine ops_nil ?_
  refine c_true rfl ?_
  refine c_seqR ?_
  refine ops_cons rfl (ow_move rfl ?_)
  refine ops_cons rfl (ow_assign rfl ?_)
  refine ops_nil ?_
  refine c_ret ?_
  refine bq_r ?_
  refine tq_r ?_
  refine tq_r ?_
  refine bq_r ?_
  refine tq_r ?_
  refine fin_ret1 rfl rfl ?_
  · skip
    refine ⟨congrArg (Value.int .i64) ?_, X⟩
    first | (rw [hi, drop_end hk]; rfl) | (rw [hi, dx, idxN, if_pos (by simpa using hF)])
  replace hs := hs.ext x1
  replace q := q.ext x1
  replace X := Ext.trans X x1; clear x1
  refine ops_nil ?_
  refine c_false rfl ?_
  refine c_skip ?_
  refine bq_n ?_
  refine tq_n ?_
  refine c_region ?_
  refine ops_cons rfl (ow_add rfl rfl (w64 (by omega)) ?_)
  refine ops_cons rfl (ow_move rfl ?_)
  refine ops_nil ?_
  refine tq_n ⟨k + 1, (.cons rfl (.cons rfl (.cons rfl (.cons rfl (.nil _))))), ?_, ?_⟩
  · exact ⟨by omega, (by rw [hi, dx, idxN, if_neg (by simpa using hF)]; rfl), hs, q, X⟩
  · first | omega | (dsimp only; omega)
  refine ops_nil ?_
  refine c_seq ?_
  refine c_false rfl ?_
  refine c_exit ?_
  refine tq_e ?_
  refine tq_e ?_
  refine bq_e ?_
  refine tq_n ?_
  refine c_seqR ?_
  refine ops_cons rfl (ow_assign rfl ?_)
  refine ops_nil ?_
  refine c_ret ?_
  refine fin_ret1 rfl rfl ?_
  · skip
    refine ⟨congrArg (Value.int .i64) ?_, X⟩
    first | (rw [hi, drop_end hk]; rfl) | (rw [hi, dx, idxN, if_pos (by simpa using hF)])

theorem ctN_c (A : Option Addr) (B c : Nat) (xs : List NodeI) (gx : Nat) (x : NodeI) (w : World) (hs : Sl B w A (xs.flatMap NodeI.cells)) (hl : xs.length ≤ 1048576) (q : Blk w gx 59 x.cells) :
    Calls Tryz.prog 198 #[.slice A xs.length c, .func (.func 199) #[] #[.pointer (some ⟨gx, 0, none⟩)]] w (Ret fun v w' => v = .bool (nameIn x.name xs) ∧ Ext w w') := by
  have Bhs := hs.1
  have X := Ext.refl w
  refine calls_of (args := [.slice A xs.length c, .func (.func 199) #[] #[.pointer (some ⟨gx, 0, none⟩)]]) Tryz.func198 Tryz.ntmps198 rfl rfl ?_
  refine c_seqR ?_
  refine ops_cons rfl (ow_assign rfl ?_)
  refine ops_nil ?_
  refine c_seqR ?_
  refine ops_cons rfl (ow_move rfl ?_)
  refine ops_cons rfl (ow_move rfl ?_)
  refine ops_cons rfl (ow_call ent249 rfl (ret_mono (idxN_c _ _ _ _ gx x _ hs hl q) ?_))
  rintro _ w2 ⟨rfl, x1⟩
  replace hs := hs.ext x1
  replace q := q.ext x1
  replace X := Ext.trans X x1; clear x1
  refine ops_cons rfl (ow_geq rfl rfl ?_)
  refine ops_cons rfl (ow_assign rfl ?_)
  refine ops_nil ?_
  refine c_ret ?_
  refine fin_ret1 rfl rfl ?_
  exact ⟨congrArg Value.bool (idxN_has x.name xs 0 (by omega)), X⟩

theorem iIsNT_c (A : Option Addr) (B c : Nat) (xs : List NodeI) (hcap : xs.length ≤ c) (w : World) (hs : Sl B w A (xs.flatMap NodeI.cells)) (hl : xs.length ≤ 1048576) (hm : ∀ x ∈ xs, x.name.size ≤ 9223372036854775807) :
    Calls Tryz.prog 113 #[.slice A xs.length c] w (Ret fun v w' => v = .bool (isNT xs) ∧ Ext w w') := by
  have Bhs := hs.1
  have X := Ext.refl w
  refine calls_of (args := [.slice A xs.length c]) Tryz.func113 Tryz.ntmps113 rfl rfl ?_
  refine c_seqR ?_
  refine ops_cons rfl (ow_assign rfl ?_)
  refine ops_nil ?_
  refine c_seq ?_
  refine c_seqR ?_
  refine ops_cons rfl (ow_move rfl ?_)
  refine ops_cons rfl (ow_len Tryz.underlying24 rfl ?_)
  refine ops_cons rfl (ow_move rfl ?_)
  refine ops_nil ?_
  refine c_block ?_
  refine c_loop (G := Nat) (fun k => [(0, .slice A xs.length c), (5, .slice A xs.length c), (6, .int .i64 (xs.length : Nat)), (7, .int .i64 (k : Nat))]) (fun k wr => k ≤ xs.length ∧ ntFrom none [] xs = ntFrom (prevG xs k) (xs.take k) (xs.drop k) ∧ Sl B wr A (xs.flatMap NodeI.cells) ∧ Ext w wr) (fun k => xs.length - k) 0 (.cons rfl (.cons rfl (.cons rfl (.cons rfl (.nil _))))) ?_ ?_
  · exact ⟨by omega, rfl, hs, X⟩
  clear hs
  clear X
  rintro k wr ⟨hk0, hi, hs, X⟩
  refine c_seqR ?_
  refine ops_cons rfl (ow_lss2 rfl rfl (fun hk => ?_) (fun hk => ?_))
  obtain ⟨x, hx, dx⟩ := drop_at' hk
  have hmx := hm x (List.mem_of_getElem? hx)
  refine ops_nil ?_
  refine c_seq ?_
  refine c_true rfl ?_
  refine c_skip ?_
  refine tq_n ?_
  refine c_seq ?_
  refine c_block ?_
  refine c_seqR ?_
  refine ops_cons rfl (ow_move rfl ?_)
  refine ops_cons rfl (ow_indexT hs NodeI.len rfl el24 rfl rfl rfl hx rfl ?_)
  refine ops_cons rfl (ow_loadTA hs NodeI.len hx ti59 rfl ?_)
  refine ops_cons rfl (ow_alloc ti59 ?_)
  intro gX w2 egX bX x1 zgX
  have lgX : w.heap.size ≤ gX := Nat.le_trans X.size (Nat.le_of_eq egX.symm)
  have pgXhs := Nat.le_trans hs.1 (Nat.le_of_eq egX.symm)
  replace hs := hs.ext x1
  replace X := Ext.trans X x1; clear x1
  refine ops_cons rfl (ow_assign rfl ?_)
  refine ops_cons rfl (ow_storeB bX ti59 rfl rfl rfl rfl rfl rfl ?_)
  intro w4 bY hg3 z5
  replace hs := hs.grown hg3 (by intro g hg; injection hg; omega)
  replace X := X.grown hg3 X.size (by intro g hg; injection hg; omega)
  clear hg3 bX
  refine ops_nil ?_
  refine c_seq ?_
  refine c_seqD [false, false, false, false, false, false, false, false, false, false, false, false, false, false, false, false, false, false] mixed (by kernel_rfl) ?_
  refine f_q rfl (fun wq sq => ow_loadAB (bY.ext sq) ti59 rfl rfl ⟨rfl, Ext.refl _⟩) ?_
  refine f_qB rfl (fun wq sq => ow_call ent197 rfl (iIsNode_c _ _ hmx)) (fun h6 => ?_) (fun h6 => ?_)
  refine f_q rfl (fun wq sq => ow_not rfl ⟨rfl, Ext.refl _⟩) ?_
  refine f_q rfl (fun wq sq => ow_move rfl ⟨rfl, Ext.refl _⟩) ?_
  refine f_qw rfl rfl rfl (fun wq sq => ow_move rfl ⟨rfl, Ext.refl _⟩) ?_
  refine f_qwb rfl rfl rfl (fun wq sq => ow_gtr rfl rfl ⟨rfl, Ext.refl _⟩) (fun hp => ?_) (fun hp => ?_)
  obtain ⟨y, hy⟩ : ∃ y, xs[k - 1]? = some y := ⟨_, List.getElem?_eq_getElem (by omega)⟩
  refine f_qw rfl rfl rfl (fun wq sq => ow_move rfl ⟨rfl, Ext.refl _⟩) ?_
  refine f_qw rfl rfl rfl (fun wq sq => ow_move rfl ⟨rfl, Ext.refl _⟩) ?_
  refine f_qw rfl rfl rfl (fun wq sq => ow_move rfl ⟨rfl, Ext.refl _⟩) ?_
  refine f_qw rfl rfl rfl (fun wq sq => ow_sub rfl rfl (w64 (by omega)) ⟨rfl, Ext.refl _⟩) ?_
  refine f_qw rfl rfl rfl (fun wq sq => ow_indexT (hs.ext sq) NodeI.len rfl el24 rfl rfl rfl hy (by omega) ⟨rfl, Ext.refl _⟩) ?_
  refine f_qw rfl rfl rfl (fun wq sq => ow_fieldAddr off59_0 rfl ⟨rfl, Ext.refl _⟩) ?_
  refine f_qw rfl rfl rfl (fun wq sq => ow_loadTF (hs.ext sq) NodeI.len hy ti2 rfl rfl rfl ⟨rfl, Ext.refl _⟩) ?_
  refine f_qw rfl rfl rfl (fun wq sq => ow_fieldAddrB off59_0 rfl rfl ⟨rfl, Ext.refl _⟩) ?_
  refine f_qw rfl rfl rfl (fun wq sq => ow_loadB (bY.ext sq) ti2 rfl rfl ⟨rfl, Ext.refl _⟩) ?_
  refine f_qwb rfl rfl rfl (fun wq sq => ow_geq rfl rfl ⟨rfl, Ext.refl _⟩) (fun h10 => ?_) (fun h10 => ?_)
  refine f_qw rfl rfl rfl (fun wq sq => ow_pick rfl rfl ⟨rfl, Ext.refl _⟩) ?_
  refine f_q rfl (fun wq sq => ow_pick rfl rfl ⟨rfl, Ext.refl _⟩) ?_
  refine f_nil (fun w11 sq => ?_)
  have xq := sq
  replace hs := hs.ext xq
  replace bY := bY.ext xq
  replace X := Ext.trans X xq; clear xq sq
  refine ops_nil ?_
  refine c_true rfl ?_
  refine c_seqR ?_
  refine ops_cons rfl (ow_assign rfl ?_)
  refine ops_nil ?_
  refine c_ret ?_
  refine tq_r ?_
  refine bq_r ?_
  refine tq_r ?_
  refine tq_r ?_
  refine bq_r ?_
  refine tq_r ?_
  refine fin_ret1 rfl rfl ?_
  · skip
    refine ⟨congrArg Value.bool ?_, X⟩
    first
    | (rw [isNT, hB]; rfl)
    | (rw [isNT, hB, hi, drop_end hk, nt_nil]; rfl)
    | (rw [isNT, hi, drop_end hk, nt_nil, inB]; rw [Bool.eq_iff_iff]; simp; done)
    | (rw [isNT, hi, drop_end hk, nt_nil, inB]; rw [Bool.eq_iff_iff]; simp; omega)
    | (rw [isNT, hi, dx, nt_badx (by assumption), Bool.and_false]; done)
    | (rw [isNT, hi, dx, nt_badn (by assumption), Bool.and_false]; done)
    | (rw [isNT, hi, dx, prevG_pos (by omega) hy, nt_bado (by omega), Bool.and_false]; done)
  refine f_qw rfl rfl rfl (fun wq sq => ow_pick rfl rfl ⟨rfl, Ext.refl _⟩) ?_
  refine f_q rfl (fun wq sq => ow_pick rfl rfl ⟨rfl, Ext.refl _⟩) ?_
  refine f_nil (fun w12 sq => ?_)
  have xq := sq
  replace hs := hs.ext xq
  replace bY := bY.ext xq
  replace X := Ext.trans X xq; clear xq sq
  refine ops_nil ?_
  refine c_false rfl ?_
  refine c_skip ?_
  refine tq_n ?_
  refine c_seqR ?_
  refine ops_cons rfl (ow_move rfl ?_)
  refine ops_cons rfl (ow_move rfl ?_)
  refine ops_cons rfl (ow_sliceH el24 hs NodeI.len rfl rfl rfl (by omega) ?_)
  intro Aq hq
  refine ops_cons rfl (ow_makeFunc rfl ?_)
  refine ops_cons rfl (ow_callB ent198 rfl (by have := ctN_c Aq B c (xs.take k) gX x _ hq (by simp; omega) bY; rw [show (xs.take k).length = k by simp; omega] at this; exact this) (fun w14 hc x13 => ?_) (fun w14 hc x13 => ?_))
  replace hs := hs.ext x13
  replace bY := bY.ext x13
  replace hq := hq.ext x13
  replace X := Ext.trans X x13; clear x13
  refine ops_nil ?_
  refine c_true rfl ?_
  refine c_seqR ?_
  refine ops_cons rfl (ow_assign rfl ?_)
  refine ops_nil ?_
  refine c_ret ?_
  refine bq_r ?_
  refine tq_r ?_
  refine tq_r ?_
  refine bq_r ?_
  refine tq_r ?_
  refine fin_ret1 rfl rfl ?_
  · skip
    refine ⟨congrArg Value.bool ?_, X⟩
    first
    | (rw [isNT, hB]; rfl)
    | (rw [isNT, hB, hi, drop_end hk, nt_nil]; rfl)
    | (rw [isNT, hi, drop_end hk, nt_nil, inB]; rw [Bool.eq_iff_iff]; simp; done)
    | (rw [isNT, hi, drop_end hk, nt_nil, inB]; rw [Bool.eq_iff_iff]; simp; omega)
    | (rw [isNT, hi, dx, nt_badx (by assumption), Bool.and_false]; done)
    | (rw [isNT, hi, dx, nt_badn (by assumption), Bool.and_false]; done)
    | (rw [isNT, hi, dx, prevG_pos (by omega) hy, nt_bado (by omega), Bool.and_false]; done)
  replace hs := hs.ext x13
  replace bY := bY.ext x13
  replace hq := hq.ext x13
  replace X := Ext.trans X x13; clear x13
  refine ops_nil ?_
  refine c_false rfl ?_
  refine c_skip ?_
  refine bq_n ?_
  refine tq_n ?_
  refine c_region ?_
  refine ops_cons rfl (ow_add rfl rfl (w64 (by omega)) ?_)
  refine ops_cons rfl (ow_move rfl ?_)
  refine ops_nil ?_
  refine tq_n ⟨k + 1, (.cons rfl (.cons rfl (.cons rfl (.cons rfl (.nil _))))), ?_, ?_⟩
  · skip
    exact ⟨by omega, (by
      have hpx : prevG xs (k + 1) = some x := prevG_succ hx
      have htk : xs.take (k + 1) = xs.take k ++ [x] := by rw [List.take_add_one, hx]; rfl
      rw [hi, dx, hpx, htk]
      have hnm : nameIn x.name (xs.take k) = false := hc
      first | rw [prevG_zero ‹_›, nt_ok0 (by assumption) hnm] | rw [prevG_pos (by omega) hy, nt_ok1 (by assumption) (by omega) hnm]), hs, X⟩
  · first | omega | (dsimp only; omega)
  refine f_qw rfl rfl rfl (fun wq sq => ow_move rfl ⟨rfl, Ext.refl _⟩) ?_
  refine f_qs rfl rfl rfl rfl ?_
  refine f_qs rfl rfl rfl rfl ?_
  refine f_qs rfl rfl rfl rfl ?_
  refine f_qs rfl rfl rfl rfl ?_
  refine f_qs rfl rfl rfl rfl ?_
  refine f_qs rfl rfl rfl rfl ?_
  refine f_qs rfl rfl rfl rfl ?_
  refine f_qs rfl rfl rfl rfl ?_
  refine f_qs rfl rfl rfl rfl ?_
  refine f_qw rfl rfl rfl (fun wq sq => ow_pick rfl rfl ⟨rfl, Ext.refl _⟩) ?_
  refine f_q rfl (fun wq sq => ow_pick rfl rfl ⟨rfl, Ext.refl _⟩) ?_
  refine f_nil (fun w15 sq => ?_)
  have xq := sq
  replace hs := hs.ext xq
  replace bY := bY.ext xq
  replace X := Ext.trans X xq; clear xq sq
  refine ops_nil ?_
  refine c_false rfl ?_
  refine c_skip ?_
  refine tq_n ?_
  refine c_seqR ?_
  refine ops_cons rfl (ow_move rfl ?_)
  refine ops_cons rfl (ow_move rfl ?_)
  refine ops_cons rfl (ow_sliceH el24 hs NodeI.len rfl rfl rfl (by omega) ?_)
  intro Aq hq
  refine ops_cons rfl (ow_makeFunc rfl ?_)
  refine ops_cons rfl (ow_callB ent198 rfl (by have := ctN_c Aq B c (xs.take k) gX x _ hq (by simp; omega) bY; rw [show (xs.take k).length = k by simp; omega] at this; exact this) (fun w17 hc x16 => ?_) (fun w17 hc x16 => ?_))
  replace hs := hs.ext x16
  replace bY := bY.ext x16
  replace hq := hq.ext x16
  replace X := Ext.trans X x16; clear x16
  refine ops_nil ?_
  refine c_true rfl ?_
  refine c_seqR ?_
  refine ops_cons rfl (ow_assign rfl ?_)
  refine ops_nil ?_
  refine c_ret ?_
  refine bq_r ?_
  refine tq_r ?_
  refine tq_r ?_
  refine bq_r ?_
  refine tq_r ?_
  refine fin_ret1 rfl rfl ?_
  · skip
    refine ⟨congrArg Value.bool ?_, X⟩
    first
    | (rw [isNT, hB]; rfl)
    | (rw [isNT, hB, hi, drop_end hk, nt_nil]; rfl)
    | (rw [isNT, hi, drop_end hk, nt_nil, inB]; rw [Bool.eq_iff_iff]; simp; done)
    | (rw [isNT, hi, drop_end hk, nt_nil, inB]; rw [Bool.eq_iff_iff]; simp; omega)
    | (rw [isNT, hi, dx, nt_badx (by assumption), Bool.and_false]; done)
    | (rw [isNT, hi, dx, nt_badn (by assumption), Bool.and_false]; done)
    | (rw [isNT, hi, dx, prevG_pos (by omega) hy, nt_bado (by omega), Bool.and_false]; done)
  replace hs := hs.ext x16
  replace bY := bY.ext x16
  replace hq := hq.ext x16
  replace X := Ext.trans X x16; clear x16
  refine ops_nil ?_
  refine c_false rfl ?_
  refine c_skip ?_
  refine bq_n ?_
  refine tq_n ?_
  refine c_region ?_
  refine ops_cons rfl (ow_add rfl rfl (w64 (by omega)) ?_)
  refine ops_cons rfl (ow_move rfl ?_)
  refine ops_nil ?_
  refine tq_n ⟨k + 1, (.cons rfl (.cons rfl (.cons rfl (.cons rfl (.nil _))))), ?_, ?_⟩
  · skip
    exact ⟨by omega, (by
      have hpx : prevG xs (k + 1) = some x := prevG_succ hx
      have htk : xs.take (k + 1) = xs.take k ++ [x] := by rw [List.take_add_one, hx]; rfl
      rw [hi, dx, hpx, htk]
      have hnm : nameIn x.name (xs.take k) = false := hc
      first | rw [prevG_zero ‹_›, nt_ok0 (by assumption) hnm] | rw [prevG_pos (by omega) hy, nt_ok1 (by assumption) (by omega) hnm]), hs, X⟩
  · first | omega | (dsimp only; omega)
  refine f_q rfl (fun wq sq => ow_not rfl ⟨rfl, Ext.refl _⟩) ?_
  refine f_q rfl (fun wq sq => ow_move rfl ⟨rfl, Ext.refl _⟩) ?_
  refine f_qs rfl rfl rfl rfl ?_
  refine f_qs rfl rfl rfl rfl ?_
  refine f_qs rfl rfl rfl rfl ?_
  refine f_qs rfl rfl rfl rfl ?_
  refine f_qs rfl rfl rfl rfl ?_
  refine f_qs rfl rfl rfl rfl ?_
  refine f_qs rfl rfl rfl rfl ?_
  refine f_qs rfl rfl rfl rfl ?_
  refine f_qs rfl rfl rfl rfl ?_
  refine f_qs rfl rfl rfl rfl ?_
  refine f_qs rfl rfl rfl rfl ?_
  refine f_qs rfl rfl rfl rfl ?_
  refine f_qs rfl rfl rfl rfl ?_
  refine f_q rfl (fun wq sq => ow_pick rfl rfl ⟨rfl, Ext.refl _⟩) ?_
  refine f_nil (fun w18 sq => ?_)
  have xq := sq
  replace hs := hs.ext xq
  replace bY := bY.ext xq
  replace X := Ext.trans X xq; clear xq sq
  refine ops_nil ?_
  refine c_true rfl ?_
  refine c_seqR ?_
  refine ops_cons rfl (ow_assign rfl ?_)
  refine ops_nil ?_
  refine c_ret ?_
  refine tq_r ?_
  refine bq_r ?_
  refine tq_r ?_
  refine tq_r ?_
  refine bq_r ?_
  refine tq_r ?_
  refine fin_ret1 rfl rfl ?_
  · skip
    refine ⟨congrArg Value.bool ?_, X⟩
    first
    | (rw [isNT, hB]; rfl)
    | (rw [isNT, hB, hi, drop_end hk, nt_nil]; rfl)
    | (rw [isNT, hi, drop_end hk, nt_nil, inB]; rw [Bool.eq_iff_iff]; simp; done)
    | (rw [isNT, hi, drop_end hk, nt_nil, inB]; rw [Bool.eq_iff_iff]; simp; omega)
    | (rw [isNT, hi, dx, nt_badx (by assumption), Bool.and_false]; done)
    | (rw [isNT, hi, dx, nt_badn (by assumption), Bool.and_false]; done)
    | (rw [isNT, hi, dx, prevG_pos (by omega) hy, nt_bado (by omega), Bool.and_false]; done)
  refine ops_nil ?_
  refine c_seq ?_
  refine c_false rfl ?_
  refine c_exit ?_
  refine tq_e ?_
  refine tq_e ?_
  refine bq_e ?_
  refine tq_n ?_
  refine c_seqR ?_
  refine ops_cons rfl (ow_move rfl ?_)
  refine ops_cons rfl (ow_len Tryz.underlying24 rfl ?_)
  refine ops_cons rfl (ow_geq2 rfl rfl (fun h19 => ?_) (fun h19 => ?_))
  refine ops_cons rfl (ow_move rfl ?_)
  refine ops_want rfl rfl rfl (ow_move rfl ?_)
  refine ops_want rfl rfl rfl (ow_len Tryz.underlying24 rfl ?_)
  refine ops_want rfl rfl rfl (ow_leq rfl rfl ?_)
  refine ops_cons rfl (ow_pick rfl rfl ?_)
  refine ops_cons rfl (ow_assign rfl ?_)
  refine ops_nil ?_
  refine c_ret ?_
  refine fin_ret1 rfl rfl ?_
  · skip
    refine ⟨congrArg Value.bool ?_, X⟩
    first
    | (rw [isNT, hB]; rfl)
    | (rw [isNT, hB, hi, drop_end hk, nt_nil]; rfl)
    | (rw [isNT, hi, drop_end hk, nt_nil, inB]; rw [Bool.eq_iff_iff]; simp; done)
    | (rw [isNT, hi, drop_end hk, nt_nil, inB]; rw [Bool.eq_iff_iff]; simp; omega)
    | (rw [isNT, hi, dx, nt_badx (by assumption), Bool.and_false]; done)
    | (rw [isNT, hi, dx, nt_badn (by assumption), Bool.and_false]; done)
    | (rw [isNT, hi, dx, prevG_pos (by omega) hy, nt_bado (by omega), Bool.and_false]; done)
  refine ops_cons rfl (ow_move rfl ?_)
  refine ops_skip rfl rfl rfl rfl ?_
  refine ops_skip rfl rfl rfl rfl ?_
  refine ops_skip rfl rfl rfl rfl ?_
  refine ops_cons rfl (ow_pick rfl rfl ?_)
  refine ops_cons rfl (ow_assign rfl ?_)
  refine ops_nil ?_
  refine c_ret ?_
  refine fin_ret1 rfl rfl ?_
  · skip
    refine ⟨congrArg Value.bool ?_, X⟩
    first
    | (rw [isNT, hB]; rfl)
    | (rw [isNT, hB, hi, drop_end hk, nt_nil]; rfl)
    | (rw [isNT, hi, drop_end hk, nt_nil, inB]; rw [Bool.eq_iff_iff]; simp; done)
    | (rw [isNT, hi, drop_end hk, nt_nil, inB]; rw [Bool.eq_iff_iff]; simp; omega)
    | (rw [isNT, hi, dx, nt_badx (by assumption), Bool.and_false]; done)
    | (rw [isNT, hi, dx, nt_badn (by assumption), Bool.and_false]; done)
    | (rw [isNT, hi, dx, prevG_pos (by omega) hy, nt_bado (by omega), Bool.and_false]; done)
end Go.Proofs.YtdoibplhbdkapaaGreatDoor
namespace Go.Proofs.YtdoibplhbdkapaaGreatDoor
open Go.RowKit
set_option linter.unusedVariables false
set_option linter.unusedSimpArgs false
set_option maxRecDepth 20000
theorem l10Bytes_c (A : Option Addr) (B c : Nat) (xs : List NodeI) (w : World) (hs : Sl B w A (xs.flatMap NodeI.cells)) (hN : isNT xs = true) :
    Calls Tryz.prog 155 #[.slice A xs.length c] w (Ret fun v w' => ∃ A' c', v = .slice A' (ntB xs).length c' ∧ Own w' w.heap.size 2 1 A' (ntB xs).length c' ((ntB xs).flatMap eI) ∧ Ext w w') := by
  have hnl := isNT_len hN
  have Bhs := hs.1
  have X := Ext.refl w
  refine calls_of (args := [.slice A xs.length c]) Tryz.func155 Tryz.ntmps155 rfl rfl ?_
  refine c_seqR ?_
  refine ops_cons rfl (ow_assign rfl ?_)
  refine ops_nil ?_
  refine c_seqR ?_
  refine ops_cons rfl (ow_move rfl ?_)
  refine ops_cons rfl (ow_len Tryz.underlying24 rfl ?_)
  refine ops_cons rfl (ow_buildSlice el30 ti2 rfl rfl rfl rfl rfl ?_)
  intro gO w2 egO oO bbgO x1 zgO
  replace oO := Own.low oO X.size
  replace hs := hs.ext x1
  replace X := Ext.trans X x1; clear x1
  replace oO := oO.to (cs' := (ntP xs 0).flatMap eI) rfl
  refine ops_cons rfl (ow_assign rfl ?_)
  refine ops_nil ?_
  refine c_seq ?_
  refine c_seqR ?_
  refine ops_cons rfl (ow_assign rfl ?_)
  refine ops_nil ?_
  refine c_block ?_
  refine c_loop (G := Nat × Nat × Option Addr × Nat) (fun ⟨k, n1, A1, c1⟩ => [(0, .slice A xs.length c), (2, .slice none 0 0), (3, .slice A1 n1 c1), (4, .int .i64 (k : Nat))]) (fun ⟨k, n1, A1, c1⟩ wr => k ≤ xs.length ∧ n1 = (ntP xs k).length ∧ n1 ≤ 1 + 11 * k ∧ Own wr w.heap.size 2 1 A1 n1 c1 ((ntP xs k).flatMap eI) ∧ Sl B wr A (xs.flatMap NodeI.cells) ∧ Ext w wr) (fun ⟨k, n1, A1, c1⟩ => xs.length - k) (0, 1, some ⟨gO, 0, none⟩, 1) (.cons rfl (.cons rfl (.cons rfl (.cons rfl (.nil _))))) ?_ ?_
  · exact ⟨by omega, rfl, (Nat.le_refl _), oO, hs, X⟩
  clear hs oO
  clear X
  rintro ⟨k, n1, A1, c1⟩ wr ⟨hk0, hn, hn1, oO, hs, X⟩
  refine c_seq ?_
  refine c_seqR ?_
  refine ops_cons rfl (ow_move rfl ?_)
  refine ops_cons rfl (ow_move rfl ?_)
  refine ops_cons rfl (ow_len Tryz.underlying24 rfl ?_)
  refine ops_cons rfl (ow_lss2 rfl rfl (fun hk => ?_) (fun hk => ?_))
  obtain ⟨x, hx, dx⟩ := drop_at' hk
  have hok := isNT_all hN x (List.mem_of_getElem? hx)
  have hxi := nodeOk_in hok
  have hxs := nodeOk_size hok
  refine ops_nil ?_
  refine c_true rfl ?_
  refine c_skip ?_
  refine tq_n ?_
  refine c_seq ?_
  refine c_block ?_
  refine c_seqR ?_
  refine ops_cons rfl (ow_move rfl ?_)
  refine ops_cons rfl (ow_move rfl ?_)
  refine ops_cons rfl (ow_indexT hs NodeI.len rfl el24 rfl rfl rfl hx rfl ?_)
  refine ops_cons rfl (ow_loadTA hs NodeI.len hx ti59 rfl ?_)
  refine ops_cons rfl (ow_alloc ti59 ?_)
  intro gX w4 egX bX x3 zgX
  have lgX : w.heap.size ≤ gX := Nat.le_trans X.size (Nat.le_of_eq egX.symm)
  have pgXhs := Nat.le_trans hs.1 (Nat.le_of_eq egX.symm)
  replace oO := oO.ext x3
  replace hs := hs.ext x3
  replace X := Ext.trans X x3; clear x3
  refine ops_cons rfl (ow_storeB bX ti59 rfl rfl rfl rfl rfl rfl ?_)
  intro w6 bY hg5 z7
  replace oO := oO.grownBlk hg5 (Own.neT oO bX (by decide))
  replace hs := hs.grown hg5 (by intro g hg; injection hg; omega)
  replace X := X.grown hg5 X.size (by intro g hg; injection hg; omega)
  clear hg5 bX
  refine ops_nil ?_
  refine c_seqR ?_
  refine ops_cons rfl (ow_assign rfl ?_)
  refine ops_nil ?_
  refine c_seq ?_
  refine c_seqR ?_
  refine ops_cons rfl (ow_fieldAddrB off59_3 rfl rfl ?_)
  refine ops_cons rfl (ow_loadB bY ti4 rfl rfl ?_)
  cases hpa : x.passive
  refine ops_nil ?_
  refine c_false rfl ?_
  refine c_skip ?_
  refine tq_n ?_
  refine c_seqR ?_
  refine ops_cons rfl (ow_move rfl ?_)
  refine ops_cons rfl (ow_fieldAddrB off59_0 rfl rfl ?_)
  refine ops_cons rfl (ow_loadB bY ti2 rfl rfl ?_)
  refine ops_cons rfl (ow_fieldAddrB off59_2 rfl rfl ?_)
  refine ops_cons rfl (ow_loadB bY ti2 rfl rfl ?_)
  refine ops_cons rfl (ow_quo rfl rfl (by omega) (q64 (by omega)) ?_)
  refine ops_cons rfl (ow_fieldAddrB off59_2 rfl rfl ?_)
  refine ops_cons rfl (ow_loadB bY ti2 rfl rfl ?_)
  refine ops_cons rfl (ow_rem rfl rfl (by omega) (m64 (by omega)) ?_)
  refine ops_cons rfl (ow_move rfl ?_)
  refine ops_cons rfl (ow_fieldAddrB off59_1 rfl rfl ?_)
  refine ops_cons rfl (ow_loadB bY ti9 rfl rfl ?_)
  refine ops_cons rfl (ow_lenS Tryz.underlying9 rfl ?_)
  refine ops_cons rfl (ow_buildSlice el30 ti2 rfl rfl rfl rfl rfl ?_)
  intro g8 w10 eg8 oS bbg8 x9 zg8
  replace oS := Own.low oS X.size
  replace oO := oO.ext x9
  replace hs := hs.ext x9
  replace bY := bY.ext x9
  replace X := Ext.trans X x9; clear x9
  refine ops_cons rfl (ow_append (ts := #[]) oO X.size oS.sl (by first | rfl | simp) (by first | exact List.all_eq_true.1 rfl | simp [Value.oneCell']) el30 ti2 rfl rfl rfl rfl (by omega) (by omega) ?_)
  intro AoM coM w12 oM hg11
  replace hs := hs.grown hg11 (fun g hg => Nat.le_trans Bhs (Own.lt oO hg).1)
  replace bY := bY.grown hg11 (fun h => Own.neT oO bY (by decide) h.symm)
  replace X := X.grown hg11 X.size (fun g hg => (Own.lt oO hg).1)
  clear hg11
  replace oM := oM.to (cs' := ((ntP xs k).flatMap eI ++ (nodeH x).flatMap eI)) (by simp only [nodeH, hpa]; rfl)
  refine ops_cons rfl (ow_assign rfl ?_)
  refine ops_nil ?_
  refine c_seqR ?_
  refine ops_cons rfl (ow_assign rfl ?_)
  refine ops_nil ?_
  refine c_block ?_
  refine c_loop (G := Nat × Nat × Option Addr × Nat) (fun ⟨j, n2, A2, c2⟩ => [(0, .slice A xs.length c), (2, .slice none 0 0), (4, .int .i64 (k : Nat)), (5, .pointer (some ⟨gX, 0, none⟩)), (6, .int .i64 0), (11, .int .i64 (k : Nat)), (12, .slice A xs.length c), (13, .int .i64 (xs.length : Nat)), (17, .slice A xs.length c), (18, .int .i64 (k : Nat)), (23, .slice A1 n1 c1), (32, .int .i64 0), (3, .slice A2 n2 c2), (7, .int .i64 (j : Nat))]) (fun ⟨j, n2, A2, c2⟩ wr => j ≤ x.name.size ∧ n2 = ((ntP xs k ++ nodeH x) ++ (nameI x).take j).length ∧ n2 ≤ 1 + 11 * k + 5 + j ∧ Own wr w.heap.size 2 1 A2 n2 c2 (((ntP xs k ++ nodeH x) ++ (nameI x).take j).flatMap eI) ∧ Sl B wr A (xs.flatMap NodeI.cells) ∧ Blk wr gX 59 x.cells ∧ Ext w wr) (fun ⟨j, n2, A2, c2⟩ => x.name.size - j) (0, n1 + 5, AoM, coM) (.cons rfl (.cons rfl (.cons rfl (.cons rfl (.cons rfl (.cons rfl (.cons rfl (.cons rfl (.cons rfl (.cons rfl (.cons rfl (.cons rfl (.cons rfl (.cons rfl (.nil _))))))))))))))) ?_ ?_
  · exact ⟨by omega, (by rw [List.take_zero, List.append_nil, List.length_append, ← hn]; rfl), (by omega), oM.to (by rw [List.take_zero, List.append_nil, List.flatMap_append]; try rfl), hs, bY, X⟩
  clear hs bY oM
  clear X
  rintro ⟨j, n2, A2, c2⟩ wr ⟨hj0, hn2, hn3, oP, hs, bY, X⟩
  refine c_seq ?_
  refine c_seqR ?_
  refine ops_cons rfl (ow_move rfl ?_)
  refine ops_cons rfl (ow_fieldAddrB off59_1 rfl rfl ?_)
  refine ops_cons rfl (ow_loadB bY ti9 rfl rfl ?_)
  refine ops_cons rfl (ow_lenS Tryz.underlying9 rfl ?_)
  refine ops_cons rfl (ow_lss2 rfl rfl (fun hj => ?_) (fun hj => ?_))
  have hjl : j < x.name.size := by omega
  refine ops_nil ?_
  refine c_true rfl ?_
  refine c_skip ?_
  refine tq_n ?_
  refine c_seq ?_
  refine c_block ?_
  refine c_region ?_
  refine ops_cons rfl (ow_move rfl ?_)
  refine ops_cons rfl (ow_fieldAddrB off59_1 rfl rfl ?_)
  refine ops_cons rfl (ow_loadB bY ti9 rfl rfl ?_)
  refine ops_cons rfl (ow_move rfl ?_)
  refine ops_cons rfl (ow_indexS Tryz.underlying9 rfl rfl (by omega) (by omega) ?_)
  refine ops_cons rfl (ow_conv Tryz.underlying5 Tryz.underlying2 rfl (w64 (by have := (x.name.data.toList.getD ((j : Int)).toNat 0).toNat_lt; omega)) ?_)
  refine ops_cons rfl (ow_buildSlice el30 ti2 rfl rfl rfl rfl rfl ?_)
  intro g13 w15 eg13 oT bbg13 x14 zg13
  replace oT := Own.low oT X.size
  replace oP := oP.ext x14
  replace hs := hs.ext x14
  replace bY := bY.ext x14
  replace X := Ext.trans X x14; clear x14
  refine ops_cons rfl (ow_append (ts := #[]) oP X.size oT.sl (by first | rfl | simp) (by first | exact List.all_eq_true.1 rfl | simp [Value.oneCell']) el30 ti2 rfl rfl rfl rfl (by omega) (by omega) ?_)
  intro AoQ coQ w17 oQ hg16
  replace hs := hs.grown hg16 (fun g hg => Nat.le_trans Bhs (Own.lt oP hg).1)
  replace bY := bY.grown hg16 (fun h => Own.neT oP bY (by decide) h.symm)
  replace X := X.grown hg16 X.size (fun g hg => (Own.lt oP hg).1)
  clear hg16
  refine ops_cons rfl (ow_assign rfl ?_)
  refine ops_nil ?_
  refine bq_n ?_
  refine tq_n ?_
  refine c_region ?_
  refine ops_cons rfl (ow_move rfl ?_)
  refine ops_cons rfl (ow_add rfl rfl (w64 (by omega)) ?_)
  refine ops_cons rfl (ow_assign rfl ?_)
  refine ops_nil ?_
  refine tq_n ⟨(j + 1, n2 + 1, AoQ, coQ), (.cons rfl (.cons rfl (.cons rfl (.cons rfl (.cons rfl (.cons rfl (.cons rfl (.cons rfl (.cons rfl (.cons rfl (.cons rfl (.cons rfl (.cons rfl (.cons rfl (.nil _))))))))))))))), ?_, ?_⟩
  · exact ⟨by omega, (by rw [hn2, take_snoc (nameI_at hjl)]; simp only [List.length_append, List.length_cons, List.length_nil]; try omega), (by omega), oQ.to (by rw [take_snoc (nameI_at hjl), ← List.append_assoc]; exact Eq.symm (by rw [List.flatMap_append]; rfl)), hs, bY, X⟩
  · first | omega | (dsimp only; omega)
  have hje : j = x.name.size := by omega
  refine ops_nil ?_
  refine c_false rfl ?_
  refine c_exit ?_
  refine tq_e ?_
  refine tq_e ?_
  refine bq_e ?_
  refine bq_n ?_
  refine tq_n ?_
  refine c_region ?_
  refine ops_cons rfl (ow_move rfl ?_)
  refine ops_cons rfl (ow_add rfl rfl (w64 (by omega)) ?_)
  refine ops_cons rfl (ow_assign rfl ?_)
  refine ops_nil ?_
  refine tq_n ⟨(k + 1, n2, A2, c2), (.cons rfl (.cons rfl (.cons rfl (.cons rfl (.nil _))))), ?_, ?_⟩
  · exact ⟨by omega, (by rw [ntP_step hx, List.length_append, hn2, List.length_append, hje, ← nameI_len, List.take_length]), (by omega), oP.to (by rw [ntP_step hx, hje, ← nameI_len, List.take_length]), hs, X⟩
  · first | omega | (dsimp only; omega)
  refine ops_nil ?_
  refine c_true rfl ?_
  refine c_region ?_
  refine ops_cons rfl (ow_assign rfl ?_)
  refine ops_nil ?_
  refine tq_n ?_
  refine c_seqR ?_
  refine ops_cons rfl (ow_move rfl ?_)
  refine ops_cons rfl (ow_fieldAddrB off59_0 rfl rfl ?_)
  refine ops_cons rfl (ow_loadB bY ti2 rfl rfl ?_)
  refine ops_cons rfl (ow_fieldAddrB off59_2 rfl rfl ?_)
  refine ops_cons rfl (ow_loadB bY ti2 rfl rfl ?_)
  refine ops_cons rfl (ow_quo rfl rfl (by omega) (q64 (by omega)) ?_)
  refine ops_cons rfl (ow_fieldAddrB off59_2 rfl rfl ?_)
  refine ops_cons rfl (ow_loadB bY ti2 rfl rfl ?_)
  refine ops_cons rfl (ow_rem rfl rfl (by omega) (m64 (by omega)) ?_)
  refine ops_cons rfl (ow_move rfl ?_)
  refine ops_cons rfl (ow_fieldAddrB off59_1 rfl rfl ?_)
  refine ops_cons rfl (ow_loadB bY ti9 rfl rfl ?_)
  refine ops_cons rfl (ow_lenS Tryz.underlying9 rfl ?_)
  refine ops_cons rfl (ow_buildSlice el30 ti2 rfl rfl rfl rfl rfl ?_)
  intro g18 w20 eg18 oS bbg18 x19 zg18
  replace oS := Own.low oS X.size
  replace oO := oO.ext x19
  replace hs := hs.ext x19
  replace bY := bY.ext x19
  replace X := Ext.trans X x19; clear x19
  refine ops_cons rfl (ow_append (ts := #[]) oO X.size oS.sl (by first | rfl | simp) (by first | exact List.all_eq_true.1 rfl | simp [Value.oneCell']) el30 ti2 rfl rfl rfl rfl (by omega) (by omega) ?_)
  intro AoM coM w22 oM hg21
  replace hs := hs.grown hg21 (fun g hg => Nat.le_trans Bhs (Own.lt oO hg).1)
  replace bY := bY.grown hg21 (fun h => Own.neT oO bY (by decide) h.symm)
  replace X := X.grown hg21 X.size (fun g hg => (Own.lt oO hg).1)
  clear hg21
  replace oM := oM.to (cs' := ((ntP xs k).flatMap eI ++ (nodeH x).flatMap eI)) (by simp only [nodeH, hpa]; rfl)
  refine ops_cons rfl (ow_assign rfl ?_)
  refine ops_nil ?_
  refine c_seqR ?_
  refine ops_cons rfl (ow_assign rfl ?_)
  refine ops_nil ?_
  refine c_block ?_
  refine c_loop (G := Nat × Nat × Option Addr × Nat) (fun ⟨j, n2, A2, c2⟩ => [(0, .slice A xs.length c), (2, .slice none 0 0), (4, .int .i64 (k : Nat)), (5, .pointer (some ⟨gX, 0, none⟩)), (6, .int .i64 1), (11, .int .i64 (k : Nat)), (12, .slice A xs.length c), (13, .int .i64 (xs.length : Nat)), (17, .slice A xs.length c), (18, .int .i64 (k : Nat)), (23, .slice A1 n1 c1), (32, .int .i64 1), (3, .slice A2 n2 c2), (7, .int .i64 (j : Nat))]) (fun ⟨j, n2, A2, c2⟩ wr => j ≤ x.name.size ∧ n2 = ((ntP xs k ++ nodeH x) ++ (nameI x).take j).length ∧ n2 ≤ 1 + 11 * k + 5 + j ∧ Own wr w.heap.size 2 1 A2 n2 c2 (((ntP xs k ++ nodeH x) ++ (nameI x).take j).flatMap eI) ∧ Sl B wr A (xs.flatMap NodeI.cells) ∧ Blk wr gX 59 x.cells ∧ Ext w wr) (fun ⟨j, n2, A2, c2⟩ => x.name.size - j) (0, n1 + 5, AoM, coM) (.cons rfl (.cons rfl (.cons rfl (.cons rfl (.cons rfl (.cons rfl (.cons rfl (.cons rfl (.cons rfl (.cons rfl (.cons rfl (.cons rfl (.cons rfl (.cons rfl (.nil _))))))))))))))) ?_ ?_
  · exact ⟨by omega, (by rw [List.take_zero, List.append_nil, List.length_append, ← hn]; rfl), (by omega), oM.to (by rw [List.take_zero, List.append_nil, List.flatMap_append]; try rfl), hs, bY, X⟩
  clear hs bY oM
  clear X
  rintro ⟨j, n2, A2, c2⟩ wr ⟨hj0, hn2, hn3, oP, hs, bY, X⟩
  refine c_seq ?_
  refine c_seqR ?_
  refine ops_cons rfl (ow_move rfl ?_)
  refine ops_cons rfl (ow_fieldAddrB off59_1 rfl rfl ?_)
  refine ops_cons rfl (ow_loadB bY ti9 rfl rfl ?_)
  refine ops_cons rfl (ow_lenS Tryz.underlying9 rfl ?_)
  refine ops_cons rfl (ow_lss2 rfl rfl (fun hj => ?_) (fun hj => ?_))
  have hjl : j < x.name.size := by omega
  refine ops_nil ?_
  refine c_true rfl ?_
  refine c_skip ?_
  refine tq_n ?_
  refine c_seq ?_
  refine c_block ?_
  refine c_region ?_
  refine ops_cons rfl (ow_move rfl ?_)
  refine ops_cons rfl (ow_fieldAddrB off59_1 rfl rfl ?_)
  refine ops_cons rfl (ow_loadB bY ti9 rfl rfl ?_)
  refine ops_cons rfl (ow_move rfl ?_)
  refine ops_cons rfl (ow_indexS Tryz.underlying9 rfl rfl (by omega) (by omega) ?_)
  refine ops_cons rfl (ow_conv Tryz.underlying5 Tryz.underlying2 rfl (w64 (by have := (x.name.data.toList.getD ((j : Int)).toNat 0).toNat_lt; omega)) ?_)
  refine ops_cons rfl (ow_buildSlice el30 ti2 rfl rfl rfl rfl rfl ?_)
  intro g23 w25 eg23 oT bbg23 x24 zg23
  replace oT := Own.low oT X.size
  replace oP := oP.ext x24
  replace hs := hs.ext x24
  replace bY := bY.ext x24
  replace X := Ext.trans X x24; clear x24
  refine ops_cons rfl (ow_append (ts := #[]) oP X.size oT.sl (by first | rfl | simp) (by first | exact List.all_eq_true.1 rfl | simp [Value.oneCell']) el30 ti2 rfl rfl rfl rfl (by omega) (by omega) ?_)
  intro AoQ coQ w27 oQ hg26
  replace hs := hs.grown hg26 (fun g hg => Nat.le_trans Bhs (Own.lt oP hg).1)
  replace bY := bY.grown hg26 (fun h => Own.neT oP bY (by decide) h.symm)
  replace X := X.grown hg26 X.size (fun g hg => (Own.lt oP hg).1)
  clear hg26
  refine ops_cons rfl (ow_assign rfl ?_)
  refine ops_nil ?_
  refine bq_n ?_
  refine tq_n ?_
  refine c_region ?_
  refine ops_cons rfl (ow_move rfl ?_)
  refine ops_cons rfl (ow_add rfl rfl (w64 (by omega)) ?_)
  refine ops_cons rfl (ow_assign rfl ?_)
  refine ops_nil ?_
  refine tq_n ⟨(j + 1, n2 + 1, AoQ, coQ), (.cons rfl (.cons rfl (.cons rfl (.cons rfl (.cons rfl (.cons rfl (.cons rfl (.cons rfl (.cons rfl (.cons rfl (.cons rfl (.cons rfl (.cons rfl (.cons rfl (.nil _))))))))))))))), ?_, ?_⟩
  · exact ⟨by omega, (by rw [hn2, take_snoc (nameI_at hjl)]; simp only [List.length_append, List.length_cons, List.length_nil]; try omega), (by omega), oQ.to (by rw [take_snoc (nameI_at hjl), ← List.append_assoc]; exact Eq.symm (by rw [List.flatMap_append]; rfl)), hs, bY, X⟩
  · first | omega | (dsimp only; omega)
  have hje : j = x.name.size := by omega
  refine ops_nil ?_
  refine c_false rfl ?_
  refine c_exit ?_
  refine tq_e ?_
  refine tq_e ?_
  refine bq_e ?_
  refine bq_n ?_
  refine tq_n ?_
  refine c_region ?_
  refine ops_cons rfl (ow_move rfl ?_)
  refine ops_cons rfl (ow_add rfl rfl (w64 (by omega)) ?_)
  refine ops_cons rfl (ow_assign rfl ?_)
  refine ops_nil ?_
  refine tq_n ⟨(k + 1, n2, A2, c2), (.cons rfl (.cons rfl (.cons rfl (.cons rfl (.nil _))))), ?_, ?_⟩
  · exact ⟨by omega, (by rw [ntP_step hx, List.length_append, hn2, List.length_append, hje, ← nameI_len, List.take_length]), (by omega), oP.to (by rw [ntP_step hx, hje, ← nameI_len, List.take_length]), hs, X⟩
  · first | omega | (dsimp only; omega)
  refine ops_nil ?_
  refine c_false rfl ?_
  refine c_exit ?_
  refine tq_e ?_
  refine tq_e ?_
  refine bq_e ?_
  refine tq_n ?_
  refine c_seqR ?_
  refine ops_cons rfl (ow_move rfl ?_)
  refine ops_cons rfl (ow_assign rfl ?_)
  refine ops_nil ?_
  refine c_ret ?_
  refine fin_ret1 rfl rfl ?_
  · skip
    rw [show k = xs.length by omega] at oO hn
    unfold ntB
    rw [← hn]
    exact ⟨_, _, rfl, oO, X⟩

theorem nodeTableBytes_c (A : Option Addr) (B c : Nat) (xs : List NodeI) (w : World) (hs : Sl B w A (xs.flatMap NodeI.cells)) (hN : isNT xs = true) :
    Calls Tryz.prog 148 #[.slice A xs.length c] w (Ret fun v w' => ∃ A' c', v = .slice A' (ntB xs).length c' ∧ Own w' w.heap.size 2 1 A' (ntB xs).length c' ((ntB xs).flatMap eI) ∧ Ext w w') := by
  have hnl := isNT_len hN
  have Bhs := hs.1
  have X := Ext.refl w
  refine calls_of (args := [.slice A xs.length c]) Tryz.func148 Tryz.ntmps148 rfl rfl ?_
  refine c_seqR ?_
  refine ops_cons rfl (ow_assign rfl ?_)
  refine ops_nil ?_
  refine c_seqR ?_
  refine ops_cons rfl (ow_move rfl ?_)
  refine ops_cons rfl (ow_len Tryz.underlying24 rfl ?_)
  refine ops_cons rfl (ow_buildSlice el30 ti2 rfl rfl rfl rfl rfl ?_)
  intro gO w2 egO oO bbgO x1 zgO
  replace oO := Own.low oO X.size
  replace hs := hs.ext x1
  replace X := Ext.trans X x1; clear x1
  replace oO := oO.to (cs' := (ntP xs 0).flatMap eI) rfl
  refine ops_cons rfl (ow_assign rfl ?_)
  refine ops_nil ?_
  refine c_seq ?_
  refine c_seqR ?_
  refine ops_cons rfl (ow_move rfl ?_)
  refine ops_cons rfl (ow_len Tryz.underlying24 rfl ?_)
  refine ops_cons rfl (ow_move rfl ?_)
  refine ops_nil ?_
  refine c_block ?_
  refine c_loop (G := Nat × Nat × Option Addr × Nat) (fun ⟨k, n1, A1, c1⟩ => [(2, .slice none 0 0), (10, .slice A xs.length c), (11, .int .i64 (xs.length : Nat)), (3, .slice A1 n1 c1), (12, .int .i64 (k : Nat))]) (fun ⟨k, n1, A1, c1⟩ wr => k ≤ xs.length ∧ n1 = (ntP xs k).length ∧ n1 ≤ 1 + 11 * k ∧ Own wr w.heap.size 2 1 A1 n1 c1 ((ntP xs k).flatMap eI) ∧ Sl B wr A (xs.flatMap NodeI.cells) ∧ Ext w wr) (fun ⟨k, n1, A1, c1⟩ => xs.length - k) (0, 1, some ⟨gO, 0, none⟩, 1) (.cons rfl (.cons rfl (.cons rfl (.cons rfl (.cons rfl (.nil _)))))) ?_ ?_
  · exact ⟨by omega, rfl, (Nat.le_refl _), oO, hs, X⟩
  clear hs oO
  clear X
  rintro ⟨k, n1, A1, c1⟩ wr ⟨hk0, hn, hn1, oO, hs, X⟩
  refine c_seqR ?_
  refine ops_cons rfl (ow_lss2 rfl rfl (fun hk => ?_) (fun hk => ?_))
  obtain ⟨x, hx, dx⟩ := drop_at' hk
  have hok := isNT_all hN x (List.mem_of_getElem? hx)
  have hxi := nodeOk_in hok
  have hxs := nodeOk_size hok
  refine ops_nil ?_
  refine c_seq ?_
  refine c_true rfl ?_
  refine c_skip ?_
  refine tq_n ?_
  refine c_seq ?_
  refine c_block ?_
  refine c_seqR ?_
  refine ops_cons rfl (ow_indexT hs NodeI.len rfl el24 rfl rfl rfl hx rfl ?_)
  refine ops_cons rfl (ow_loadTA hs NodeI.len hx ti59 rfl ?_)
  refine ops_cons rfl (ow_alloc ti59 ?_)
  intro gX w4 egX bX x3 zgX
  have lgX : w.heap.size ≤ gX := Nat.le_trans X.size (Nat.le_of_eq egX.symm)
  have pgXhs := Nat.le_trans hs.1 (Nat.le_of_eq egX.symm)
  replace oO := oO.ext x3
  replace hs := hs.ext x3
  replace X := Ext.trans X x3; clear x3
  refine ops_cons rfl (ow_storeB bX ti59 rfl rfl rfl rfl rfl rfl ?_)
  intro w6 bY hg5 z7
  replace oO := oO.grownBlk hg5 (Own.neT oO bX (by decide))
  replace hs := hs.grown hg5 (by intro g hg; injection hg; omega)
  replace X := X.grown hg5 X.size (by intro g hg; injection hg; omega)
  clear hg5 bX
  refine ops_nil ?_
  refine c_seqD [false, false, false, false, false, false, false, false, false, false, false, false, false, false, false, true] mixed (by kernel_rfl) ?_
  refine f_q rfl (fun wq sq => ow_move rfl ⟨rfl, Ext.refl _⟩) ?_
  refine f_q rfl (fun wq sq => ow_fieldAddrB off59_0 rfl rfl ⟨rfl, Ext.refl _⟩) ?_
  refine f_q rfl (fun wq sq => ow_loadB (bY.ext sq) ti2 rfl rfl ⟨rfl, Ext.refl _⟩) ?_
  refine f_q rfl (fun wq sq => ow_fieldAddrB off59_2 rfl rfl ⟨rfl, Ext.refl _⟩) ?_
  refine f_q rfl (fun wq sq => ow_loadB (bY.ext sq) ti2 rfl rfl ⟨rfl, Ext.refl _⟩) ?_
  refine f_q rfl (fun wq sq => ow_quo rfl rfl (by omega) (q64 (by omega)) ⟨rfl, Ext.refl _⟩) ?_
  refine f_q rfl (fun wq sq => ow_fieldAddrB off59_2 rfl rfl ⟨rfl, Ext.refl _⟩) ?_
  refine f_q rfl (fun wq sq => ow_loadB (bY.ext sq) ti2 rfl rfl ⟨rfl, Ext.refl _⟩) ?_
  refine f_q rfl (fun wq sq => ow_rem rfl rfl (by omega) (m64 (by omega)) ⟨rfl, Ext.refl _⟩) ?_
  refine f_q rfl (fun wq sq => ow_fieldAddrB off59_3 rfl rfl ⟨rfl, Ext.refl _⟩) ?_
  refine f_q rfl (fun wq sq => ow_loadB (bY.ext sq) ti4 rfl rfl ⟨rfl, Ext.refl _⟩) ?_
  refine f_q rfl (fun wq sq => ow_call ent217 rfl (oneIf_c _ _)) ?_
  refine f_q rfl (fun wq sq => ow_fieldAddrB off59_1 rfl rfl ⟨rfl, Ext.refl _⟩) ?_
  refine f_q rfl (fun wq sq => ow_loadB (bY.ext sq) ti9 rfl rfl ⟨rfl, Ext.refl _⟩) ?_
  refine f_q rfl (fun wq sq => ow_lenS Tryz.underlying9 rfl ⟨rfl, Ext.refl _⟩) ?_
  refine f_op (fun gS : Nat => Value.slice (some ⟨gS, 0, none⟩) 5 5) (fun gS wz => Own wz w.heap.size 2 1 (some ⟨gS, 0, none⟩) 5 5 ((nodeH x).flatMap eI)) 0 rfl ⟨inj_own, fun _ _ _ h k => h.ext k, fun wq sq => ow_buildSlice el30 ti2 rfl rfl rfl rfl rfl (fun g w' hg ho hb hx hz => ⟨g, rfl, Own.low ho (Nat.le_trans X.size (sq).size), hx⟩)⟩ ?_
  intro gS
  refine f_nil (fun w9 sq => ?_)
  have xq := sq.1
  have oS := sq.2
  replace oO := oO.ext xq
  replace hs := hs.ext xq
  replace bY := bY.ext xq
  replace X := Ext.trans X xq; clear xq sq
  refine ops_cons rfl (ow_append (ts := #[]) oO X.size oS.sl (by first | rfl | simp) (by first | exact List.all_eq_true.1 rfl | simp [Value.oneCell']) el30 ti2 rfl rfl rfl rfl (by omega) (by omega) ?_)
  intro AoM coM w11 oM hg10
  replace hs := hs.grown hg10 (fun g hg => Nat.le_trans Bhs (Own.lt oO hg).1)
  replace bY := bY.grown hg10 (fun h => Own.neT oO bY (by decide) h.symm)
  replace X := X.grown hg10 X.size (fun g hg => (Own.lt oO hg).1)
  clear hg10
  refine ops_cons rfl (ow_assign rfl ?_)
  refine ops_nil ?_
  refine c_seqR ?_
  refine ops_cons rfl (ow_fieldAddrB off59_1 rfl rfl ?_)
  refine ops_cons rfl (ow_loadB bY ti9 rfl rfl ?_)
  refine ops_cons rfl (ow_lenS Tryz.underlying9 rfl ?_)
  refine ops_cons rfl (ow_move rfl ?_)
  refine ops_nil ?_
  refine c_block ?_
  refine c_loop (G := Nat × Nat × Option Addr × Nat) (fun ⟨j, n2, A2, c2⟩ => [(2, .slice none 0 0), (5, .pointer (some ⟨gX, 0, none⟩)), (10, .slice A xs.length c), (11, .int .i64 (xs.length : Nat)), (12, .int .i64 (k : Nat)), (16, .slice A1 n1 c1), (35, .int .i64 (x.name.size : Nat)), (3, .slice A2 n2 c2), (36, .int .i64 (j : Nat))]) (fun ⟨j, n2, A2, c2⟩ wr => j ≤ x.name.size ∧ n2 = ((ntP xs k ++ nodeH x) ++ (nameI x).take j).length ∧ n2 ≤ 1 + 11 * k + 5 + j ∧ Own wr w.heap.size 2 1 A2 n2 c2 (((ntP xs k ++ nodeH x) ++ (nameI x).take j).flatMap eI) ∧ Sl B wr A (xs.flatMap NodeI.cells) ∧ Blk wr gX 59 x.cells ∧ Ext w wr) (fun ⟨j, n2, A2, c2⟩ => x.name.size - j) (0, n1 + 5, AoM, coM) (.cons rfl (.cons rfl (.cons rfl (.cons rfl (.cons rfl (.cons rfl (.cons rfl (.cons rfl (.cons rfl (.nil _)))))))))) ?_ ?_
  · exact ⟨by omega, (by rw [List.take_zero, List.append_nil, List.length_append, ← hn]; rfl), (by omega), oM.to (by rw [List.take_zero, List.append_nil, List.flatMap_append]; try rfl), hs, bY, X⟩
  clear hs bY oM
  clear X
  rintro ⟨j, n2, A2, c2⟩ wr ⟨hj0, hn2, hn3, oP, hs, bY, X⟩
  refine c_seqR ?_
  refine ops_cons rfl (ow_lss2 rfl rfl (fun hj => ?_) (fun hj => ?_))
  have hjl : j < x.name.size := by omega
  refine ops_nil ?_
  refine c_seq ?_
  refine c_true rfl ?_
  refine c_skip ?_
  refine tq_n ?_
  refine c_seq ?_
  refine c_block ?_
  refine c_seqR ?_
  refine ops_cons rfl (ow_move rfl ?_)
  refine ops_cons rfl (ow_assign rfl ?_)
  refine ops_nil ?_
  refine c_region ?_
  refine ops_cons rfl (ow_move rfl ?_)
  refine ops_cons rfl (ow_fieldAddrB off59_1 rfl rfl ?_)
  refine ops_cons rfl (ow_loadB bY ti9 rfl rfl ?_)
  refine ops_cons rfl (ow_move rfl ?_)
  refine ops_cons rfl (ow_indexS Tryz.underlying9 rfl rfl (by omega) (by omega) ?_)
  refine ops_cons rfl (ow_conv Tryz.underlying5 Tryz.underlying2 rfl (w64 (by have := (x.name.data.toList.getD ((j : Int)).toNat 0).toNat_lt; omega)) ?_)
  refine ops_cons rfl (ow_buildSlice el30 ti2 rfl rfl rfl rfl rfl ?_)
  intro g12 w14 eg12 oT bbg12 x13 zg12
  replace oT := Own.low oT X.size
  replace oP := oP.ext x13
  replace hs := hs.ext x13
  replace bY := bY.ext x13
  replace X := Ext.trans X x13; clear x13
  refine ops_cons rfl (ow_append (ts := #[]) oP X.size oT.sl (by first | rfl | simp) (by first | exact List.all_eq_true.1 rfl | simp [Value.oneCell']) el30 ti2 rfl rfl rfl rfl (by omega) (by omega) ?_)
  intro AoQ coQ w16 oQ hg15
  replace hs := hs.grown hg15 (fun g hg => Nat.le_trans Bhs (Own.lt oP hg).1)
  replace bY := bY.grown hg15 (fun h => Own.neT oP bY (by decide) h.symm)
  replace X := X.grown hg15 X.size (fun g hg => (Own.lt oP hg).1)
  clear hg15
  refine ops_cons rfl (ow_assign rfl ?_)
  refine ops_nil ?_
  refine bq_n ?_
  refine tq_n ?_
  refine c_region ?_
  refine ops_cons rfl (ow_add rfl rfl (w64 (by omega)) ?_)
  refine ops_cons rfl (ow_move rfl ?_)
  refine ops_nil ?_
  refine tq_n ⟨(j + 1, n2 + 1, AoQ, coQ), (.cons rfl (.cons rfl (.cons rfl (.cons rfl (.cons rfl (.cons rfl (.cons rfl (.cons rfl (.cons rfl (.nil _)))))))))), ?_, ?_⟩
  · exact ⟨by omega, (by rw [hn2, take_snoc (nameI_at hjl)]; simp only [List.length_append, List.length_cons, List.length_nil]; try omega), (by omega), oQ.to (by rw [take_snoc (nameI_at hjl), ← List.append_assoc]; exact Eq.symm (by rw [List.flatMap_append]; rfl)), hs, bY, X⟩
  · first | omega | (dsimp only; omega)
  have hje : j = x.name.size := by omega
  refine ops_nil ?_
  refine c_seq ?_
  refine c_false rfl ?_
  refine c_exit ?_
  refine tq_e ?_
  refine tq_e ?_
  refine bq_e ?_
  refine bq_n ?_
  refine tq_n ?_
  refine c_region ?_
  refine ops_cons rfl (ow_add rfl rfl (w64 (by omega)) ?_)
  refine ops_cons rfl (ow_move rfl ?_)
  refine ops_nil ?_
  refine tq_n ⟨(k + 1, n2, A2, c2), (.cons rfl (.cons rfl (.cons rfl (.cons rfl (.cons rfl (.nil _)))))), ?_, ?_⟩
  · exact ⟨by omega, (by rw [ntP_step hx, List.length_append, hn2, List.length_append, hje, ← nameI_len, List.take_length]), (by omega), oP.to (by rw [ntP_step hx, hje, ← nameI_len, List.take_length]), hs, X⟩
  · first | omega | (dsimp only; omega)
  refine ops_nil ?_
  refine c_seq ?_
  refine c_false rfl ?_
  refine c_exit ?_
  refine tq_e ?_
  refine tq_e ?_
  refine bq_e ?_
  refine tq_n ?_
  refine c_seqR ?_
  refine ops_cons rfl (ow_move rfl ?_)
  refine ops_cons rfl (ow_assign rfl ?_)
  refine ops_nil ?_
  refine c_ret ?_
  refine fin_ret1 rfl rfl ?_
  · skip
    rw [show k = xs.length by omega] at oO hn
    unfold ntB
    rw [← hn]
    exact ⟨_, _, rfl, oO, X⟩
end Go.Proofs.YtdoibplhbdkapaaGreatDoor
