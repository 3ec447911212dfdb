/- What the load of demands is. No condition. -/
import Derived.Test.YtdikgcccdcgjdaaU2
namespace Go.Proofs.Ytdikgcccdcgjdaa
open Go.RowKit
set_option linter.unusedVariables false
set_option linter.unusedSimpArgs false
def loadG (n : Int) : List Dem → Int
  | [] => n
  | d :: ds => loadG (n + Int.tdiv 8 d.every) ds
theorem areD_at {xs : List Dem} {k : Nat} {x : Dem} (h : areD xs = true) (hx : xs[k]? = some x) : x.every ≠ 0 ∧ 0 ≤ Int.tdiv 8 x.every ∧ Int.tdiv 8 x.every ≤ 8 := by
  have h1 := List.all_eq_true.1 (by simp only [areD, Bool.and_eq_true] at h; exact h.1) x (List.mem_of_getElem? hx)
  simp only [demOk, evB, Bool.and_eq_true, Bool.or_eq_true, decide_eq_true_eq] at h1
  rcases h1.1.2 with ((h | h) | h) | h <;> rw [h] <;> decide
theorem sLoad_c (A : Option Addr) (B c : Nat) (xs : List Dem) (w : World) (hs : Sl B w A (xs.flatMap Dem.cells)) (hl : xs.length ≤ 1048576) :
    Calls Try.prog 25 #[.slice A xs.length c] w (Ret fun v w' => v = .tuple #[.int .i64 (if areD xs = true then loadG 0 xs else 0), .int .i64 (if areD xs = true then 0 else 1)] ∧ Ext w w') := by
  have Bhs := hs.1
  have X := Ext.refl w
  refine calls_of (args := [.slice A xs.length c]) Try.func25 Try.ntmps25 rfl rfl ?_
  refine c_seqR ?_
  refine ops_cons rfl (ow_assign rfl ?_)
  refine ops_cons rfl (ow_assign rfl ?_)
  refine ops_nil ?_
  refine c_seq ?_
  refine c_seqR ?_
  refine ops_cons rfl (ow_move rfl ?_)
  refine ops_cons rfl (ow_callB ent17 rfl (sAreD_c _ _ _ _ _ hs hl) (fun w2 hd x1 => ?_) (fun w2 hd x1 => ?_))
  · skip
    replace hs := hs.ext x1
    replace X := Ext.trans X x1; clear x1
    refine ops_cons rfl (ow_not rfl ?_)
    refine ops_nil ?_
    refine c_false rfl ?_
    refine c_skip ?_
    refine tq_n ?_
    refine c_seqR ?_
    refine ops_cons rfl (ow_assign rfl ?_)
    refine ops_nil ?_
    refine c_seq ?_
    refine c_seqR ?_
    refine ops_cons rfl (ow_assign rfl ?_)
    refine ops_nil ?_
    refine c_block ?_
    refine c_loop (G := Nat × Int) (fun ⟨k, n⟩ => [(0, .slice A xs.length c), (4, .int .i64 n), (5, .int .i64 (k : Nat))]) (fun ⟨k, n⟩ wr => k ≤ xs.length ∧ Sl B wr A (xs.flatMap Dem.cells) ∧ loadG 0 xs = loadG n (xs.drop k) ∧ 0 ≤ n ∧ n ≤ 8 * k ∧ Ext w wr) (fun ⟨k, n⟩ => xs.length - k) (0, 0) (.cons rfl (.cons rfl (.cons rfl (.nil _)))) ?_ ?_
    · exact ⟨by omega, hs, rfl, by omega, by omega, X⟩
    clear hs
    clear X
    rintro ⟨k, n⟩ wr ⟨hk0, hs, hi, hn0, hn8, X⟩
    refine c_seq ?_
    refine c_seqR ?_
    refine ops_cons rfl (ow_move rfl ?_)
    refine ops_cons rfl (ow_move rfl ?_)
    refine ops_cons rfl (ow_len Try.underlying40 rfl ?_)
    refine ops_cons rfl (ow_lss2 rfl rfl (fun hk => ?_) (fun hk => ?_))
    · skip
      obtain ⟨x, hx, dx⟩ := drop_at' hk
      have dk := areD_at hd hx
      have q1 := dk.1; have q2 := dk.2.1; have q3 := dk.2.2
      refine ops_nil ?_
      refine c_true rfl ?_
      refine c_skip ?_
      refine tq_n ?_
      refine c_seq ?_
      refine c_block ?_
      refine c_region ?_
      refine ops_cons rfl (ow_move rfl ?_)
      refine ops_cons rfl (ow_move rfl ?_)
      refine ops_cons rfl (ow_move rfl ?_)
      refine ops_cons rfl (ow_indexT hs Dem.len rfl el40 rfl rfl rfl hx rfl ?_)
      refine ops_cons rfl (ow_fieldAddr off58_1 rfl ?_)
      refine ops_cons rfl (ow_loadTF hs Dem.len hx ti2 rfl rfl rfl ?_)
      refine ops_cons rfl (ow_quo rfl rfl q1 (w64 (by omega)) ?_)
      refine ops_cons rfl (ow_add rfl rfl (w64 (by omega)) ?_)
      refine ops_cons rfl (ow_assign rfl ?_)
      refine ops_nil ?_
      refine bq_n ?_
      refine tq_n ?_
      refine c_region ?_
      refine ops_cons rfl (ow_move rfl ?_)
      refine ops_cons rfl (ow_add rfl rfl (w64 (by omega)) ?_)
      refine ops_cons rfl (ow_assign rfl ?_)
      refine ops_nil ?_
      refine tq_n ⟨(k + 1, n + Int.tdiv 8 x.every), (.cons rfl (.cons rfl (.cons rfl (.nil _)))), ?_, ?_⟩
      · exact ⟨by omega, hs, by rw [hi, dx]; rfl, by omega, by omega, X⟩
      · dsimp only; omega
    · skip
      refine ops_nil ?_
      refine c_false rfl ?_
      refine c_exit ?_
      refine tq_e ?_
      refine tq_e ?_
      refine bq_e ?_
      refine tq_n ?_
      refine c_seqR ?_
      refine ops_cons rfl (ow_move rfl ?_)
      refine ops_cons rfl (ow_assign rfl ?_)
      refine ops_cons rfl (ow_assign rfl ?_)
      refine ops_nil ?_
      refine c_ret ?_
      refine fin_ret2 rfl rfl rfl ?_
      refine ⟨?_, X⟩
      first | (rw [hd, hi, drop_end hk]; rfl) | (rw [hd]; rfl)
  · skip
    replace hs := hs.ext x1
    replace X := Ext.trans X x1; clear x1
    refine ops_cons rfl (ow_not rfl ?_)
    refine ops_nil ?_
    refine c_true rfl ?_
    refine c_seqR ?_
    refine ops_cons rfl (ow_assign rfl ?_)
    refine ops_cons rfl (ow_assign rfl ?_)
    refine ops_nil ?_
    refine c_ret ?_
    refine tq_r ?_
    refine fin_ret2 rfl rfl rfl ?_
    refine ⟨?_, X⟩
    first | (rw [hd, hi, drop_end hk]; rfl) | (rw [hd]; rfl)

theorem iLoad_c (A : Option Addr) (B c : Nat) (xs : List Dem) (w : World) (hs : Sl B w A (xs.flatMap Dem.cells)) (hl : xs.length ≤ 1048576) :
    Calls Try.prog 26 #[.slice A xs.length c] w (Ret fun v w' => v = .tuple #[.int .i64 (if areD xs = true then loadG 0 xs else 0), .int .i64 (if areD xs = true then 0 else 1)] ∧ Ext w w') := by
  have Bhs := hs.1
  have X := Ext.refl w
  refine calls_of (args := [.slice A xs.length c]) Try.func26 Try.ntmps26 rfl rfl ?_
  refine c_seqR ?_
  refine ops_cons rfl (ow_assign rfl ?_)
  refine ops_cons rfl (ow_assign rfl ?_)
  refine ops_nil ?_
  refine c_seq ?_
  refine c_seqR ?_
  refine ops_cons rfl (ow_move rfl ?_)
  refine ops_cons rfl (ow_callB ent19 rfl (iAreD_c _ _ _ _ _ hs hl) (fun w2 hd x1 => ?_) (fun w2 hd x1 => ?_))
  · skip
    replace hs := hs.ext x1
    replace X := Ext.trans X x1; clear x1
    refine ops_cons rfl (ow_not rfl ?_)
    refine ops_nil ?_
    refine c_false rfl ?_
    refine c_skip ?_
    refine tq_n ?_
    refine c_seqR ?_
    refine ops_cons rfl (ow_assign rfl ?_)
    refine ops_nil ?_
    refine c_seq ?_
    refine c_seqR ?_
    refine ops_cons rfl (ow_move rfl ?_)
    refine ops_cons rfl (ow_len Try.underlying40 rfl ?_)
    refine ops_cons rfl (ow_move rfl ?_)
    refine ops_nil ?_
    refine c_block ?_
    refine c_loop (G := Nat × Int) (fun ⟨k, n⟩ => [(0, .slice A xs.length c), (4, .int .i64 n), (10, .slice A xs.length c), (11, .int .i64 (xs.length : Nat)), (12, .int .i64 (k : Nat))]) (fun ⟨k, n⟩ wr => k ≤ xs.length ∧ Sl B wr A (xs.flatMap Dem.cells) ∧ loadG 0 xs = loadG n (xs.drop k) ∧ 0 ≤ n ∧ n ≤ 8 * k ∧ Ext w wr) (fun ⟨k, n⟩ => xs.length - k) (0, 0) (.cons rfl (.cons rfl (.cons rfl (.cons rfl (.cons rfl (.nil _)))))) ?_ ?_
    · exact ⟨by omega, hs, rfl, by omega, by omega, X⟩
    clear hs
    clear X
    rintro ⟨k, n⟩ wr ⟨hk0, hs, hi, hn0, hn8, X⟩
    refine c_seqR ?_
    refine ops_cons rfl (ow_lss2 rfl rfl (fun hk => ?_) (fun hk => ?_))
    · skip
      obtain ⟨x, hx, dx⟩ := drop_at' hk
      have dk := areD_at hd hx
      have q1 := dk.1; have q2 := dk.2.1; have q3 := dk.2.2
      refine ops_nil ?_
      refine c_seq ?_
      refine c_true rfl ?_
      refine c_skip ?_
      refine tq_n ?_
      refine c_seq ?_
      refine c_block ?_
      refine c_seqR ?_
      refine ops_cons rfl (ow_indexT hs Dem.len rfl el40 rfl rfl rfl hx rfl ?_)
      refine ops_cons rfl (ow_loadTA hs Dem.len hx ti58 rfl ?_)
      refine ops_cons rfl (ow_alloc ti58 ?_)
      intro g6 w5 eg6 b3 x4 zg6
      have lg6 : w.heap.size ≤ g6 := Nat.le_trans X.size (Nat.le_of_eq eg6.symm)
      replace hs := hs.ext x4
      replace X := Ext.trans X x4; clear x4
      refine ops_cons rfl (ow_storeB b3 ti58 rfl rfl rfl rfl rfl rfl ?_)
      intro w8 b10 hg7 z9
      replace hs := hs.grown hg7 (by first | (intro h; injection h; omega) | (intro g hg; injection hg; omega))
      replace X := X.grown hg7 X.size (by intro g hg; injection hg; omega)
      clear hg7 b3
      refine ops_nil ?_
      refine c_region ?_
      refine ops_cons rfl (ow_move rfl ?_)
      refine ops_cons rfl (ow_fieldAddrB off58_1 rfl rfl ?_)
      refine ops_cons rfl (ow_loadB b10 ti2 rfl rfl ?_)
      refine ops_cons rfl (ow_quo rfl rfl q1 (w64 (by omega)) ?_)
      refine ops_cons rfl (ow_add rfl rfl (w64 (by omega)) ?_)
      refine ops_cons rfl (ow_assign rfl ?_)
      refine ops_nil ?_
      refine bq_n ?_
      refine tq_n ?_
      refine c_region ?_
      refine ops_cons rfl (ow_add rfl rfl (w64 (by omega)) ?_)
      refine ops_cons rfl (ow_move rfl ?_)
      refine ops_nil ?_
      refine tq_n ⟨(k + 1, n + Int.tdiv 8 x.every), (.cons rfl (.cons rfl (.cons rfl (.cons rfl (.cons rfl (.nil _)))))), ?_, ?_⟩
      · exact ⟨by omega, hs, by rw [hi, dx]; rfl, by omega, by omega, X⟩
      · dsimp only; omega
    · skip
      refine ops_nil ?_
      refine c_seq ?_
      refine c_false rfl ?_
      refine c_exit ?_
      refine tq_e ?_
      refine tq_e ?_
      refine bq_e ?_
      refine tq_n ?_
      refine c_seqR ?_
      refine ops_cons rfl (ow_move rfl ?_)
      refine ops_cons rfl (ow_assign rfl ?_)
      refine ops_cons rfl (ow_assign rfl ?_)
      refine ops_nil ?_
      refine c_ret ?_
      refine fin_ret2 rfl rfl rfl ?_
      refine ⟨?_, X⟩
      first | (rw [hd, hi, drop_end hk]; rfl) | (rw [hd]; rfl)
  · skip
    replace hs := hs.ext x1
    replace X := Ext.trans X x1; clear x1
    refine ops_cons rfl (ow_not rfl ?_)
    refine ops_nil ?_
    refine c_true rfl ?_
    refine c_seqR ?_
    refine ops_cons rfl (ow_assign rfl ?_)
    refine ops_cons rfl (ow_assign rfl ?_)
    refine ops_nil ?_
    refine c_ret ?_
    refine tq_r ?_
    refine fin_ret2 rfl rfl rfl ?_
    refine ⟨?_, X⟩
    first | (rw [hd, hi, drop_end hk]; rfl) | (rw [hd]; rfl)
end Go.Proofs.Ytdikgcccdcgjdaa
