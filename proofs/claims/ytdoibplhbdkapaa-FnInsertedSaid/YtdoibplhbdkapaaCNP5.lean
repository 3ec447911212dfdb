/- Texts of the seat that a law needs, put together. No condition. -/
import Derived.Test.YtdoibplhbdkapaaCNP4
import Derived.Test.YtdoibplhbdkapaaCNP2
import Derived.Laws.StructEq
import Derived.Lib.AppendZeros
import Derived.Laws.CopyRow
namespace Go.Proofs.Ytdoibplhbdkapaa
open Go.RowKit
set_option linter.unusedVariables false
set_option linter.unusedSimpArgs false
set_option maxRecDepth 20000
def findD (xs : List SlotI) (m r s : Int) : Desc × Int := if isST xs = true then (if findS (hitS m r s) 0 xs < 0 then (⟨0, 0, 0, 0, false⟩, 4) else match xs[(findS (hitS m r s) 0 xs).toNat]? with
    | some x => (x.desc, 0)
    | none => (⟨0, 0, 0, 0, false⟩, 4)) else (⟨0, 0, 0, 0, false⟩, 1)
theorem find_at {xs : List SlotI} {f : SlotI → Bool} (h : ¬ findS f 0 xs < 0) : ∃ (j : Nat) (x : SlotI), findS f 0 xs = (j : Int) ∧ xs[j]? = some x ∧ f x = true := by
  rcases findS_lt (f := f) xs 0 with h1 | ⟨j, x, h1, h2, h3⟩
  · rw [show ((0 : Nat) : Int) = 0 from rfl] at h1; omega
  · exact ⟨j, x, by rw [show ((0 : Nat) : Int) = 0 from rfl] at h1; rw [h1]; congr 1; omega, h2, h3⟩
theorem l12Find_c (A : Option Addr) (B c : Nat) (xs : List SlotI) (m r s : Int) (w : World) (hs : Sl B w A (xs.flatMap SlotI.cells)) (hl : xs.length ≤ 1048576) :
    Calls Try.prog 53 #[.slice A xs.length c, .int .i64 m, .int .i64 r, .int .i64 s] w (Ret fun v w' => v = .int .i64 (findS (hitS m r s) 0 xs) ∧ Ext w w') := by
  have Bhs := hs.1
  have X := Ext.refl w
  refine calls_of (args := [.slice A xs.length c, .int .i64 m, .int .i64 r, .int .i64 s]) Try.func53 Try.ntmps53 rfl rfl ?_
  refine c_seqR ?_
  refine ops_cons rfl (ow_assign rfl ?_)
  refine ops_nil ?_
  refine c_seq ?_
  refine c_seqR ?_
  refine ops_cons rfl (ow_assign rfl ?_)
  refine ops_nil ?_
  refine c_block ?_
  refine c_loop (G := Nat) (fun k => [(0, .slice A xs.length c), (1, .int .i64 m), (2, .int .i64 r), (3, .int .i64 s), (9, .int .i64 (k : Nat))]) (fun k wr => k ≤ xs.length ∧ (findS (hitS m r s) 0 xs) = findS (hitS m r s) (k : Int) (xs.drop k) ∧ Sl B wr A (xs.flatMap SlotI.cells) ∧ Ext w wr) (fun k => xs.length - k) 0 (.cons rfl (.cons rfl (.cons rfl (.cons rfl (.cons rfl (.nil _)))))) ?_ ?_
  · exact ⟨by omega, rfl, hs, X⟩
  clear hs
  clear X
  rintro k wr ⟨hk0, hi, hs, X⟩
  refine c_seq ?_
  refine c_seqR ?_
  refine ops_cons rfl (ow_move rfl ?_)
  refine ops_cons rfl (ow_move rfl ?_)
  refine ops_cons rfl (ow_len Try.underlying43 rfl ?_)
  refine ops_cons rfl (ow_lss2 rfl rfl (fun hk => ?_) (fun hk => ?_))
  obtain ⟨x, hx, dx⟩ := drop_at' hk
  refine ops_nil ?_
  refine c_true rfl ?_
  refine c_skip ?_
  refine tq_n ?_
  refine c_seq ?_
  refine c_block ?_
  refine c_seqR ?_
  refine ops_cons rfl (ow_move rfl ?_)
  refine ops_cons rfl (ow_move rfl ?_)
  refine ops_cons rfl (ow_indexT hs SlotI.len rfl el43 rfl rfl rfl hx rfl ?_)
  refine ops_cons rfl (ow_fieldAddr off49_0 rfl ?_)
  refine ops_cons rfl (ow_loadTF hs SlotI.len hx ti2 rfl rfl rfl ?_)
  refine ops_cons rfl (ow_move rfl ?_)
  refine ops_cons rfl (ow_eql2 rfl rfl (fun h1 => ?_) (fun h1 => ?_))
  refine ops_cons rfl (ow_move rfl ?_)
  refine ops_want rfl rfl rfl (ow_move rfl ?_)
  refine ops_want rfl rfl rfl (ow_move rfl ?_)
  refine ops_want rfl rfl rfl (ow_indexT hs SlotI.len rfl el43 rfl rfl rfl hx rfl ?_)
  refine ops_want rfl rfl rfl (ow_fieldAddr off49_1 rfl ?_)
  refine ops_want rfl rfl rfl (ow_loadTF hs SlotI.len hx ti2 rfl rfl rfl ?_)
  refine ops_want rfl rfl rfl (ow_move rfl ?_)
  refine ops_want rfl rfl rfl (ow_eql2 rfl rfl (fun h2 => ?_) (fun h2 => ?_))
  refine ops_cons rfl (ow_pick rfl rfl ?_)
  refine ops_cons rfl (ow_move rfl ?_)
  refine ops_want rfl rfl rfl (ow_move rfl ?_)
  refine ops_want rfl rfl rfl (ow_move rfl ?_)
  refine ops_want rfl rfl rfl (ow_indexT hs SlotI.len rfl el43 rfl rfl rfl hx rfl ?_)
  refine ops_want rfl rfl rfl (ow_fieldAddr off49_2 rfl ?_)
  refine ops_want rfl rfl rfl (ow_loadTF hs SlotI.len hx ti2 rfl rfl rfl ?_)
  refine ops_want rfl rfl rfl (ow_move rfl ?_)
  refine ops_want rfl rfl rfl (ow_eql2 rfl rfl (fun h3 => ?_) (fun h3 => ?_))
  refine ops_cons rfl (ow_pick rfl rfl ?_)
  refine ops_nil ?_
  refine c_true rfl ?_
  refine c_seqR ?_
  refine ops_cons rfl (ow_move rfl ?_)
  refine ops_cons rfl (ow_assign rfl ?_)
  refine ops_nil ?_
  refine c_ret ?_
  refine bq_r ?_
  refine tq_r ?_
  refine tq_r ?_
  refine bq_r ?_
  refine tq_r ?_
  refine fin_ret1 rfl rfl ?_
  · skip
    refine ⟨congrArg (Value.int .i64) ?_, X⟩
    first
    | (rw [hi, drop_end hk]; rfl)
    | (rw [hi, dx, findS, if_pos (by simp [hitS, *])])
  refine ops_cons rfl (ow_pick rfl rfl ?_)
  refine ops_nil ?_
  refine c_false rfl ?_
  refine c_skip ?_
  refine bq_n ?_
  refine tq_n ?_
  refine c_region ?_
  refine ops_cons rfl (ow_move rfl ?_)
  refine ops_cons rfl (ow_add rfl rfl (w64 (by omega)) ?_)
  refine ops_cons rfl (ow_assign rfl ?_)
  refine ops_nil ?_
  refine tq_n ⟨k + 1, (.cons rfl (.cons rfl (.cons rfl (.cons rfl (.cons rfl (.nil _)))))), ?_, ?_⟩
  · exact ⟨by omega, (by rw [hi, dx, findS, if_neg (by simp [hitS, *])]; rfl), hs, X⟩
  · first | omega | (dsimp only; omega)
  refine ops_cons rfl (ow_pick rfl rfl ?_)
  refine ops_cons rfl (ow_move rfl ?_)
  refine ops_skip rfl rfl rfl rfl ?_
  refine ops_skip rfl rfl rfl rfl ?_
  refine ops_skip rfl rfl rfl rfl ?_
  refine ops_skip rfl rfl rfl rfl ?_
  refine ops_skip rfl rfl rfl rfl ?_
  refine ops_skip rfl rfl rfl rfl ?_
  refine ops_skip rfl rfl rfl rfl ?_
  refine ops_cons rfl (ow_pick rfl rfl ?_)
  refine ops_nil ?_
  refine c_false rfl ?_
  refine c_skip ?_
  refine bq_n ?_
  refine tq_n ?_
  refine c_region ?_
  refine ops_cons rfl (ow_move rfl ?_)
  refine ops_cons rfl (ow_add rfl rfl (w64 (by omega)) ?_)
  refine ops_cons rfl (ow_assign rfl ?_)
  refine ops_nil ?_
  refine tq_n ⟨k + 1, (.cons rfl (.cons rfl (.cons rfl (.cons rfl (.cons rfl (.nil _)))))), ?_, ?_⟩
  · exact ⟨by omega, (by rw [hi, dx, findS, if_neg (by simp [hitS, *])]; rfl), hs, X⟩
  · first | omega | (dsimp only; omega)
  refine ops_cons rfl (ow_move rfl ?_)
  refine ops_skip rfl rfl rfl rfl ?_
  refine ops_skip rfl rfl rfl rfl ?_
  refine ops_skip rfl rfl rfl rfl ?_
  refine ops_skip rfl rfl rfl rfl ?_
  refine ops_skip rfl rfl rfl rfl ?_
  refine ops_skip rfl rfl rfl rfl ?_
  refine ops_skip rfl rfl rfl rfl ?_
  refine ops_cons rfl (ow_pick rfl rfl ?_)
  refine ops_cons rfl (ow_move rfl ?_)
  refine ops_skip rfl rfl rfl rfl ?_
  refine ops_skip rfl rfl rfl rfl ?_
  refine ops_skip rfl rfl rfl rfl ?_
  refine ops_skip rfl rfl rfl rfl ?_
  refine ops_skip rfl rfl rfl rfl ?_
  refine ops_skip rfl rfl rfl rfl ?_
  refine ops_skip rfl rfl rfl rfl ?_
  refine ops_cons rfl (ow_pick rfl rfl ?_)
  refine ops_nil ?_
  refine c_false rfl ?_
  refine c_skip ?_
  refine bq_n ?_
  refine tq_n ?_
  refine c_region ?_
  refine ops_cons rfl (ow_move rfl ?_)
  refine ops_cons rfl (ow_add rfl rfl (w64 (by omega)) ?_)
  refine ops_cons rfl (ow_assign rfl ?_)
  refine ops_nil ?_
  refine tq_n ⟨k + 1, (.cons rfl (.cons rfl (.cons rfl (.cons rfl (.cons rfl (.nil _)))))), ?_, ?_⟩
  · exact ⟨by omega, (by rw [hi, dx, findS, if_neg (by simp [hitS, *])]; rfl), hs, X⟩
  · first | omega | (dsimp only; omega)
  refine ops_nil ?_
  refine c_false rfl ?_
  refine c_exit ?_
  refine tq_e ?_
  refine tq_e ?_
  refine bq_e ?_
  refine tq_n ?_
  refine c_seqR ?_
  refine ops_cons rfl (ow_assign rfl ?_)
  refine ops_nil ?_
  refine c_ret ?_
  refine fin_ret1 rfl rfl ?_
  · skip
    refine ⟨congrArg (Value.int .i64) ?_, X⟩
    first
    | (rw [hi, drop_end hk]; rfl)
    | (rw [hi, dx, findS, if_pos (by simp [hitS, *])])

theorem findSlot1_c (x : SlotI) (g1 g2 g3 : Nat) (m r s : Int) (w : World) (q1 : Blk w g1 2 [.int .i64 m]) (q2 : Blk w g2 2 [.int .i64 r]) (q3 : Blk w g3 2 [.int .i64 s]) :
    Calls Try.prog 91 #[.agg x.cells.toArray, .pointer (some ⟨g1, 0, none⟩), .pointer (some ⟨g2, 0, none⟩), .pointer (some ⟨g3, 0, none⟩)] w (Ret fun v w' => v = .bool (hitS m r s x) ∧ Ext w w') := by
  have X := Ext.refl w
  refine calls_of (args := [.agg x.cells.toArray, .pointer (some ⟨g1, 0, none⟩), .pointer (some ⟨g2, 0, none⟩), .pointer (some ⟨g3, 0, none⟩)]) Try.func91 Try.ntmps91 rfl rfl ?_
  refine c_seqR ?_
  refine ops_cons rfl (ow_box rfl rfl ?_)
  intro g4 w3 eg4 b1 x2 zg4
  have lg4 : w.heap.size ≤ g4 := Nat.le_trans X.size (Nat.le_of_eq eg4.symm)
  have ng4q1 := Nat.lt_of_lt_of_eq q1.lt eg4.symm
  have ng4q2 := Nat.lt_of_lt_of_eq q2.lt eg4.symm
  have ng4q3 := Nat.lt_of_lt_of_eq q3.lt eg4.symm
  replace q1 := q1.ext x2
  replace q2 := q2.ext x2
  replace q3 := q3.ext x2
  replace X := Ext.trans X x2; clear x2
  refine ops_cons rfl (ow_assign rfl ?_)
  refine ops_nil ?_
  refine c_seqR ?_
  refine ops_cons rfl (ow_fieldAddrB off49_0 rfl rfl ?_)
  refine ops_cons rfl (ow_loadB b1 ti2 rfl rfl ?_)
  refine ops_cons rfl (ow_loadB q1 ti2 rfl rfl ?_)
  refine ops_cons rfl (ow_eql2 rfl rfl (fun h5 => ?_) (fun h5 => ?_))
  refine ops_cons rfl (ow_move rfl ?_)
  refine ops_want rfl rfl rfl (ow_fieldAddrB off49_1 rfl rfl ?_)
  refine ops_want rfl rfl rfl (ow_loadB b1 ti2 rfl rfl ?_)
  refine ops_want rfl rfl rfl (ow_loadB q2 ti2 rfl rfl ?_)
  refine ops_want rfl rfl rfl (ow_eql2 rfl rfl (fun h6 => ?_) (fun h6 => ?_))
  refine ops_cons rfl (ow_pick rfl rfl ?_)
  refine ops_cons rfl (ow_move rfl ?_)
  refine ops_want rfl rfl rfl (ow_fieldAddrB off49_2 rfl rfl ?_)
  refine ops_want rfl rfl rfl (ow_loadB b1 ti2 rfl rfl ?_)
  refine ops_want rfl rfl rfl (ow_loadB q3 ti2 rfl rfl ?_)
  refine ops_want rfl rfl rfl (ow_eql rfl rfl ?_)
  refine ops_cons rfl (ow_pick rfl rfl ?_)
  refine ops_cons rfl (ow_assign rfl ?_)
  refine ops_nil ?_
  refine c_ret ?_
  refine fin_ret1 rfl rfl ?_
  exact ⟨by simp [hitS, *], X⟩
  refine ops_cons rfl (ow_pick rfl rfl ?_)
  refine ops_cons rfl (ow_move rfl ?_)
  refine ops_skip rfl rfl rfl rfl ?_
  refine ops_skip rfl rfl rfl rfl ?_
  refine ops_skip rfl rfl rfl rfl ?_
  refine ops_skip rfl rfl rfl rfl ?_
  refine ops_cons rfl (ow_pick rfl rfl ?_)
  refine ops_cons rfl (ow_assign rfl ?_)
  refine ops_nil ?_
  refine c_ret ?_
  refine fin_ret1 rfl rfl ?_
  exact ⟨by simp [hitS, *], X⟩
  refine ops_cons rfl (ow_move rfl ?_)
  refine ops_skip rfl rfl rfl rfl ?_
  refine ops_skip rfl rfl rfl rfl ?_
  refine ops_skip rfl rfl rfl rfl ?_
  refine ops_skip rfl rfl rfl rfl ?_
  refine ops_cons rfl (ow_pick rfl rfl ?_)
  refine ops_cons rfl (ow_move rfl ?_)
  refine ops_skip rfl rfl rfl rfl ?_
  refine ops_skip rfl rfl rfl rfl ?_
  refine ops_skip rfl rfl rfl rfl ?_
  refine ops_skip rfl rfl rfl rfl ?_
  refine ops_cons rfl (ow_pick rfl rfl ?_)
  refine ops_cons rfl (ow_assign rfl ?_)
  refine ops_nil ?_
  refine c_ret ?_
  refine fin_ret1 rfl rfl ?_
  exact ⟨by simp [hitS, *], X⟩

theorem indexFunc_c (A : Option Addr) (B c : Nat) (xs : List SlotI) (g1 g2 g3 : Nat) (m r s : Int) (w : World) (hs : Sl B w A (xs.flatMap SlotI.cells)) (q1 : Blk w g1 2 [.int .i64 m]) (q2 : Blk w g2 2 [.int .i64 r]) (q3 : Blk w g3 2 [.int .i64 s]) (hl : xs.length ≤ 1048576) :
    Calls Try.prog 90 #[.slice A xs.length c, .func (.func 91) #[] #[.pointer (some ⟨g1, 0, none⟩), .pointer (some ⟨g2, 0, none⟩), .pointer (some ⟨g3, 0, none⟩)]] w (Ret fun v w' => v = .int .i64 (findS (hitS m r s) 0 xs) ∧ Ext w w') := by
  have Bhs := hs.1
  have X := Ext.refl w
  refine calls_of (args := [.slice A xs.length c, .func (.func 91) #[] #[.pointer (some ⟨g1, 0, none⟩), .pointer (some ⟨g2, 0, none⟩), .pointer (some ⟨g3, 0, none⟩)]]) Try.func90 Try.ntmps90 rfl rfl ?_
  refine c_seqR ?_
  refine ops_cons rfl (ow_assign rfl ?_)
  refine ops_nil ?_
  refine c_seq ?_
  refine c_seqR ?_
  refine ops_cons rfl (ow_move rfl ?_)
  refine ops_cons rfl (ow_len Try.underlying43 rfl ?_)
  refine ops_cons rfl (ow_move rfl ?_)
  refine ops_nil ?_
  refine c_block ?_
  refine c_loop (G := Nat) (fun k => [(0, .slice A xs.length c), (1, .func (.func 91) #[] #[.pointer (some ⟨g1, 0, none⟩), .pointer (some ⟨g2, 0, none⟩), .pointer (some ⟨g3, 0, none⟩)]), (7, .int .i64 (xs.length : Nat)), (8, .int .i64 (k : Nat))]) (fun k wr => k ≤ xs.length ∧ (findS (hitS m r s) 0 xs) = findS (hitS m r s) (k : Int) (xs.drop k) ∧ Sl B wr A (xs.flatMap SlotI.cells) ∧ Blk wr g1 2 [.int .i64 m] ∧ Blk wr g2 2 [.int .i64 r] ∧ Blk wr g3 2 [.int .i64 s] ∧ Ext w wr) (fun k => xs.length - k) 0 (.cons rfl (.cons rfl (.cons rfl (.cons rfl (.nil _))))) ?_ ?_
  · exact ⟨by omega, rfl, hs, q1, q2, q3, X⟩
  clear hs q1 q2 q3
  clear X
  rintro k wr ⟨hk0, hi, hs, q1, q2, q3, X⟩
  refine c_seqR ?_
  refine ops_cons rfl (ow_lss2 rfl rfl (fun hk => ?_) (fun hk => ?_))
  obtain ⟨x, hx, dx⟩ := drop_at' hk
  refine ops_nil ?_
  refine c_seq ?_
  refine c_true rfl ?_
  refine c_skip ?_
  refine tq_n ?_
  refine c_seq ?_
  refine c_block ?_
  refine c_seqR ?_
  refine ops_cons rfl (ow_move rfl ?_)
  refine ops_cons rfl (ow_assign rfl ?_)
  refine ops_nil ?_
  refine c_seqR ?_
  refine ops_cons rfl (ow_move rfl ?_)
  refine ops_cons rfl (ow_move rfl ?_)
  refine ops_cons rfl (ow_move rfl ?_)
  refine ops_cons rfl (ow_indexT hs SlotI.len rfl el43 rfl rfl rfl hx rfl ?_)
  refine ops_cons rfl (ow_loadTA hs SlotI.len hx ti49 rfl ?_)
  refine ops_cons rfl (ow_callVLB ent91 rfl rfl (findSlot1_c _ _ _ _ _ _ _ _ q1 q2 q3) (fun w3 h1 x2 => ?_) (fun w3 h1 x2 => ?_))
  replace hs := hs.ext x2
  replace q1 := q1.ext x2
  replace q2 := q2.ext x2
  replace q3 := q3.ext x2
  replace X := Ext.trans X x2; clear x2
  refine ops_nil ?_
  refine c_true rfl ?_
  refine c_seqR ?_
  refine ops_cons rfl (ow_move rfl ?_)
  refine ops_cons rfl (ow_assign rfl ?_)
  refine ops_nil ?_
  refine c_ret ?_
  refine bq_r ?_
  refine tq_r ?_
  refine tq_r ?_
  refine bq_r ?_
  refine tq_r ?_
  refine fin_ret1 rfl rfl ?_
  · skip
    refine ⟨congrArg (Value.int .i64) ?_, X⟩
    first
    | (rw [hi, drop_end hk]; rfl)
    | (rw [hi, dx, findS, if_pos (by simp [*])])
  replace hs := hs.ext x2
  replace q1 := q1.ext x2
  replace q2 := q2.ext x2
  replace q3 := q3.ext x2
  replace X := Ext.trans X x2; clear x2
  refine ops_nil ?_
  refine c_false rfl ?_
  refine c_skip ?_
  refine bq_n ?_
  refine tq_n ?_
  refine c_region ?_
  refine ops_cons rfl (ow_add rfl rfl (w64 (by omega)) ?_)
  refine ops_cons rfl (ow_move rfl ?_)
  refine ops_nil ?_
  refine tq_n ⟨k + 1, (.cons rfl (.cons rfl (.cons rfl (.cons rfl (.nil _))))), ?_, ?_⟩
  · exact ⟨by omega, (by rw [hi, dx, findS, if_neg (by simp [*])]; rfl), hs, q1, q2, q3, X⟩
  · first | omega | (dsimp only; omega)
  refine ops_nil ?_
  refine c_seq ?_
  refine c_false rfl ?_
  refine c_exit ?_
  refine tq_e ?_
  refine tq_e ?_
  refine bq_e ?_
  refine tq_n ?_
  refine c_seqR ?_
  refine ops_cons rfl (ow_assign rfl ?_)
  refine ops_nil ?_
  refine c_ret ?_
  refine fin_ret1 rfl rfl ?_
  · skip
    refine ⟨congrArg (Value.int .i64) ?_, X⟩
    first
    | (rw [hi, drop_end hk]; rfl)
    | (rw [hi, dx, findS, if_pos (by simp [*])])

theorem findSlot_c (A : Option Addr) (B c : Nat) (xs : List SlotI) (m r s : Int) (w : World) (hs : Sl B w A (xs.flatMap SlotI.cells)) (hl : xs.length ≤ 1048576) :
    Calls Try.prog 66 #[.slice A xs.length c, .int .i64 m, .int .i64 r, .int .i64 s] w (Ret fun v w' => v = .int .i64 (findS (hitS m r s) 0 xs) ∧ Ext w w') := by
  have Bhs := hs.1
  have X := Ext.refl w
  refine calls_of (args := [.slice A xs.length c, .int .i64 m, .int .i64 r, .int .i64 s]) Try.func66 Try.ntmps66 rfl rfl ?_
  refine c_seqR ?_
  refine ops_cons rfl (ow_box rfl rfl ?_)
  intro g4 w3 eg4 b1 x2 zg4
  have lg4 : w.heap.size ≤ g4 := Nat.le_trans X.size (Nat.le_of_eq eg4.symm)
  have pg4hs := Nat.le_trans hs.1 (Nat.le_of_eq eg4.symm)
  replace hs := hs.ext x2
  replace X := Ext.trans X x2; clear x2
  refine ops_cons rfl (ow_box rfl rfl ?_)
  intro g8 w7 eg8 b5 x6 zg8
  have lg8 : w.heap.size ≤ g8 := Nat.le_trans X.size (Nat.le_of_eq eg8.symm)
  have pg8hs := Nat.le_trans hs.1 (Nat.le_of_eq eg8.symm)
  have ng8b1 := Nat.lt_of_lt_of_eq b1.lt eg8.symm
  replace hs := hs.ext x6
  replace b1 := b1.ext x6
  replace X := Ext.trans X x6; clear x6
  refine ops_cons rfl (ow_box rfl rfl ?_)
  intro g12 w11 eg12 b9 x10 zg12
  have lg12 : w.heap.size ≤ g12 := Nat.le_trans X.size (Nat.le_of_eq eg12.symm)
  have pg12hs := Nat.le_trans hs.1 (Nat.le_of_eq eg12.symm)
  have ng12b1 := Nat.lt_of_lt_of_eq b1.lt eg12.symm
  have ng12b5 := Nat.lt_of_lt_of_eq b5.lt eg12.symm
  replace hs := hs.ext x10
  replace b1 := b1.ext x10
  replace b5 := b5.ext x10
  replace X := Ext.trans X x10; clear x10
  refine ops_cons rfl (ow_assign rfl ?_)
  refine ops_nil ?_
  refine c_seqR ?_
  refine ops_cons rfl (ow_move rfl ?_)
  refine ops_cons rfl (ow_makeFunc rfl ?_)
  refine ops_cons rfl (ow_call ent90 rfl (ret_mono (indexFunc_c _ _ _ _ _ _ _ _ _ _ _ hs b1 b5 b9 hl) ?_))
  rintro _ w14 ⟨rfl, x13⟩
  replace hs := hs.ext x13
  replace b1 := b1.ext x13
  replace b5 := b5.ext x13
  replace b9 := b9.ext x13
  replace X := Ext.trans X x13; clear x13
  refine ops_cons rfl (ow_assign rfl ?_)
  refine ops_nil ?_
  refine c_ret ?_
  refine fin_ret1 rfl rfl ?_
  exact ⟨by rfl, X⟩

theorem iFindSlot_c (A : Option Addr) (B c : Nat) (xs : List SlotI) (m r s : Int) (w : World) (hs : Sl B w A (xs.flatMap SlotI.cells)) (hl : xs.length ≤ 1048576) :
    Calls Try.prog 32 #[.slice A xs.length c, .int .i64 m, .int .i64 r, .int .i64 s] w (Ret fun v w' => v = .tuple #[.agg (findD xs m r s).1.cells.toArray, .int .i64 (findD xs m r s).2] ∧ Ext w w') := by
  have Bhs := hs.1
  have X := Ext.refl w
  refine calls_of (args := [.slice A xs.length c, .int .i64 m, .int .i64 r, .int .i64 s]) Try.func32 Try.ntmps32 rfl rfl ?_
  refine c_seqR ?_
  refine ops_cons rfl (ow_alloc ti47 ?_)
  intro g4 w3 eg4 b1 x2 zg4
  have lg4 : w.heap.size ≤ g4 := Nat.le_trans X.size (Nat.le_of_eq eg4.symm)
  have pg4hs := Nat.le_trans hs.1 (Nat.le_of_eq eg4.symm)
  replace hs := hs.ext x2
  replace X := Ext.trans X x2; clear x2
  refine ops_cons rfl (ow_assign rfl ?_)
  refine ops_nil ?_
  refine c_seq ?_
  refine c_seqR ?_
  refine ops_cons rfl (ow_move rfl ?_)
  refine ops_cons rfl (ow_callB ent34 rfl (iIsST_c _ _ _ _ _ hs hl) (fun w6 hT x5 => ?_) (fun w6 hT x5 => ?_))
  replace hs := hs.ext x5
  replace b1 := b1.ext x5
  replace X := Ext.trans X x5; clear x5
  refine ops_cons rfl (ow_not rfl ?_)
  refine ops_nil ?_
  refine c_false rfl ?_
  refine c_skip ?_
  refine tq_n ?_
  refine c_seqR ?_
  refine ops_cons rfl (ow_move rfl ?_)
  refine ops_cons rfl (ow_move rfl ?_)
  refine ops_cons rfl (ow_move rfl ?_)
  refine ops_cons rfl (ow_move rfl ?_)
  refine ops_cons rfl (ow_call ent66 rfl (ret_mono (findSlot_c _ _ _ _ _ _ _ _ hs hl) ?_))
  rintro _ w9 ⟨rfl, x7⟩
  replace hs := hs.ext x7
  replace b1 := b1.ext x7
  replace X := Ext.trans X x7; clear x7
  refine ops_cons rfl (ow_assign rfl ?_)
  refine ops_nil ?_
  refine c_seq ?_
  refine c_seqR ?_
  refine ops_cons rfl (ow_move rfl ?_)
  refine ops_cons rfl (ow_lss2 rfl rfl (fun hF => ?_) (fun hF => ?_))
  refine ops_nil ?_
  refine c_true rfl ?_
  refine c_seqR ?_
  refine ops_cons rfl (ow_buildP pl47 ti47 rfl rfl ?_)
  refine ops_cons rfl (ow_storeB b1 ti47 rfl rfl rfl rfl rfl rfl ?_)
  intro w11 b13 hg10 z12
  replace hs := hs.grown hg10 (by intro g hg; injection hg; omega)
  replace X := X.grown hg10 X.size (by intro g hg; injection hg; omega)
  clear hg10 b1
  refine ops_cons rfl (ow_assign rfl ?_)
  refine ops_nil ?_
  refine c_ret ?_
  refine tq_r ?_
  refine fin_cell2 rfl rfl b13 ti47 rfl rfl ?_
  · skip
    first
    | (have e : findD xs m r s = (x.desc, 0) := by rw [findD, if_pos hT, if_neg hF, hj]; simp [hx]
       rw [e]; exact ⟨rfl, X⟩)
    | (have e : findD xs m r s = (⟨0, 0, 0, 0, false⟩, 4) := by rw [findD, if_pos hT, if_pos hF]
       rw [e]; exact ⟨rfl, X⟩)
    | (have e : findD xs m r s = (⟨0, 0, 0, 0, false⟩, 1) := by rw [findD, if_neg (by simp [hT])]
       rw [e]; exact ⟨rfl, X⟩)
  obtain ⟨j, x, hj, hx, hh⟩ := find_at hF
  refine ops_nil ?_
  refine c_false rfl ?_
  refine c_skip ?_
  refine tq_n ?_
  refine c_seqR ?_
  refine ops_cons rfl (ow_move rfl ?_)
  refine ops_cons rfl (ow_move rfl ?_)
  refine ops_cons rfl (ow_indexT hs SlotI.len rfl el43 rfl rfl rfl hx hj ?_)
  refine ops_cons rfl (ow_fieldAddr off49_3 rfl ?_)
  refine ops_cons rfl (ow_loadTFA hs SlotI.len hx ti47 rfl rfl ?_)
  refine ops_cons rfl (ow_storeB b1 ti47 rfl rfl rfl rfl rfl rfl ?_)
  intro w15 b17 hg14 z16
  replace hs := hs.grown hg14 (by intro g hg; injection hg; omega)
  replace X := X.grown hg14 X.size (by intro g hg; injection hg; omega)
  clear hg14 b1
  refine ops_cons rfl (ow_assign rfl ?_)
  refine ops_nil ?_
  refine c_ret ?_
  refine fin_cell2 rfl rfl b17 ti47 rfl rfl ?_
  · skip
    first
    | (have e : findD xs m r s = (x.desc, 0) := by rw [findD, if_pos hT, if_neg hF, hj]; simp [hx]
       rw [e]; exact ⟨rfl, X⟩)
    | (have e : findD xs m r s = (⟨0, 0, 0, 0, false⟩, 4) := by rw [findD, if_pos hT, if_pos hF]
       rw [e]; exact ⟨rfl, X⟩)
    | (have e : findD xs m r s = (⟨0, 0, 0, 0, false⟩, 1) := by rw [findD, if_neg (by simp [hT])]
       rw [e]; exact ⟨rfl, X⟩)
  replace hs := hs.ext x5
  replace b1 := b1.ext x5
  replace X := Ext.trans X x5; clear x5
  refine ops_cons rfl (ow_not rfl ?_)
  refine ops_nil ?_
  refine c_true rfl ?_
  refine c_seqR ?_
  refine ops_cons rfl (ow_buildP pl47 ti47 rfl rfl ?_)
  refine ops_cons rfl (ow_storeB b1 ti47 rfl rfl rfl rfl rfl rfl ?_)
  intro w19 b21 hg18 z20
  replace hs := hs.grown hg18 (by intro g hg; injection hg; omega)
  replace X := X.grown hg18 X.size (by intro g hg; injection hg; omega)
  clear hg18 b1
  refine ops_cons rfl (ow_assign rfl ?_)
  refine ops_nil ?_
  refine c_ret ?_
  refine tq_r ?_
  refine fin_cell2 rfl rfl b21 ti47 rfl rfl ?_
  · skip
    first
    | (have e : findD xs m r s = (x.desc, 0) := by rw [findD, if_pos hT, if_neg hF, hj]; simp [hx]
       rw [e]; exact ⟨rfl, X⟩)
    | (have e : findD xs m r s = (⟨0, 0, 0, 0, false⟩, 4) := by rw [findD, if_pos hT, if_pos hF]
       rw [e]; exact ⟨rfl, X⟩)
    | (have e : findD xs m r s = (⟨0, 0, 0, 0, false⟩, 1) := by rw [findD, if_neg (by simp [hT])]
       rw [e]; exact ⟨rfl, X⟩)
end Go.Proofs.Ytdoibplhbdkapaa
namespace Go.Proofs.Ytdoibplhbdkapaa
open Go.RowKit
set_option linter.unusedVariables false
set_option linter.unusedSimpArgs false

def WI (P : Program) (ops : Array Oper) (I : World → Prop) (K : Act → World → Prop) : Nat → Array Bool → Act → World → Prop
  | 0, listed, a, w => listed = finOf ops ops.size ∧ I w ∧ K a w
  | fuel + 1, listed, a, w => I w ∧ rdy ops ops.size listed ≠ [] ∧ ∀ i ∈ rdy ops ops.size listed, ∀ o, ops[i]? = some o →
      OpX P ops o a w fun u w' => WI P ops I K fuel (listed.setIfInBounds i true) (a.put o.dst u) w'

section
variable {P : Program} {ops : Array Oper} {I : World → Prop} {K : Act → World → Prop}
theorem WI.inv : ∀ {fuel : Nat} {listed : Array Bool} {a : Act} {w : World}, WI P ops I K fuel listed a w → I w
  | 0, _, _, _, h => h.2.1
  | _ + 1, _, _, _, h => h.1

theorem WI_first {i : Nat} {oi : Oper} {v : Value} (hi : ops[i]? = some oi) (hsel : ∀ (j : Nat) (o : Oper) cs b, ops[j]? = some o → o.op ≠ .select cs b) :
    ∀ (fuel : Nat) (listed : Array Bool) (a : Act) (w : World),
      (∀ j oj, ops[j]? = some oj → j ≠ i → listed.getD j true = false → (∀ e ∈ oj.after, Region.binds .any e = true → e.on ≠ i) → oi.apart ops oj = true) →
      i ∈ rdy ops ops.size listed → (∀ w, I w → OpX P ops oi a w fun u w' => u = v ∧ w' = w) →
      WI P ops I K fuel (listed.setIfInBounds i true) (a.put oi.dst v) w → WI P ops I K (fuel + 1) listed a w := by
  have here : ∀ (fuel : Nat) (listed : Array Bool) (a : Act) (w : World), (∀ w, I w → OpX P ops oi a w fun u w' => u = v ∧ w' = w) →
      WI P ops I K fuel (listed.setIfInBounds i true) (a.put oi.dst v) w →
      OpX P ops oi a w fun u w' => WI P ops I K fuel (listed.setIfInBounds i true) (a.put oi.dst u) w' := by
    intro fuel listed a w hy H
    refine OpX.mono (hy w H.inv) fun u w' ⟨h1, h2⟩ => ?_
    subst h1; subst h2; exact H
  intro fuel
  induction fuel with
  | zero =>
    intro listed a w _ hr hy H
    refine ⟨H.inv, fun h => (by rw [h] at hr; cases hr), fun j hj o ho => ?_⟩
    by_cases hji : j = i
    · subst hji
      obtain rfl : o = oi := by rw [hi] at ho; injection ho with ho; exact ho.symm
      exact here 0 listed a w hy H
    · exfalso
      obtain ⟨hj1, hj2⟩ := mem_rdy.1 hj
      have h1 := (mem_ready.1 (ready_mono hj1 hji)).1
      rw [H.1, finOf_spec j hj2] at h1
      cases h1
  | succ fuel ih =>
    intro listed a w hfree hr hy H
    refine ⟨H.inv, fun h => (by rw [h] at hr; cases hr), fun j hj oj hoj => ?_⟩
    by_cases hji : j = i
    · subst hji
      obtain rfl : oj = oi := by rw [hi] at hoj; injection hoj with ho; exact ho.symm
      exact here _ listed a w hy H
    · obtain ⟨hj1, hj2⟩ := mem_rdy.1 hj
      obtain ⟨hi1, hi2⟩ := mem_rdy.1 hr
      have hex := H.2.2 j (mem_rdy.2 ⟨ready_mono hj1 hji, hj2⟩) oj hoj
      obtain ⟨hjun, oj', hoj', hall⟩ := mem_ready.1 hj1
      obtain rfl : oj' = oj := by rw [hoj] at hoj'; injection hoj' with ho; exact ho.symm
      have hnot : ∀ e ∈ oj'.after, Region.binds .any e = true → e.on ≠ i := fun e he hb heq => by
        have h1 := hall e he hb
        have h0 := (mem_ready.1 hi1).1
        rw [heq] at h1
        rcases Nat.lt_or_ge i listed.size with h' | h'
        · simp [h'] at h0 h1; rw [h0] at h1; cases h1
        · simp [Array.getElem?_eq_none h'] at h1
      have hap := hfree j oj' hoj hji hjun hnot
      obtain ⟨ha1, ha2, ha3⟩ := Oper.apart_spec hap
      refine OpX.mono ((OpX.put (fun cs b => hsel j oj' cs b hoj) ha1).1 hex) fun u w' hu => ?_
      refine ih _ _ _ ?_ (mem_rdy.2 ⟨ready_mono hi1 (Ne.symm hji), hi2⟩) (fun w hw => (OpX.put (fun cs b => hsel i oi cs b hi) ha3).2 (hy w hw)) ?_
      · intro k ok hk hki hun hno
        refine hfree k ok hk hki ?_ hno
        by_cases hjk : j = k
        · subst hjk; exact hjun
        · rw [getD_set_ne true hjk] at hun; exact hun
      · rw [Array.setIfInBounds_comm _ _ hji, ← Act.put_comm a v u ha2]
        exact hu

theorem WI_any {Q : Exit → Act → World → Prop} (hK : ∀ a w, K a w → wpAny P .any ops Q 0 (finOf ops ops.size) a w) :
    ∀ (fuel : Nat) (listed : Array Bool) (a : Act) (w : World), WI P ops I K fuel listed a w → wpAny P .any ops Q fuel listed a w := by
  intro fuel
  induction fuel with
  | zero => intro listed a w h; obtain ⟨rfl, _, h2⟩ := h; exact hK _ _ h2
  | succ fuel ih =>
    intro listed a w h
    obtain ⟨_, hne, hall⟩ := h
    obtain ⟨k, hk⟩ := List.exists_mem_of_ne_nil _ hne
    refine ⟨fun h0 => (by have := (mem_rdy.1 hk).1; rw [h0] at this; cases this), fun i hi => ?_⟩
    obtain ⟨hiun, oi, hoi, hedge⟩ := mem_ready.1 hi
    have him : i < ops.size := (Array.getElem?_eq_some_iff.1 hoi).1
    exact OpX.wpOp hoi (hall i (mem_rdy.2 ⟨hi, him⟩) oi hoi) fun v w' hv => ih _ _ _ hv
end

theorem ready_fin (ops : Array Oper) : Region.ready .any ops (finOf ops ops.size) = [] := by
  apply List.eq_nil_iff_forall_not_mem.2
  intro i hi
  obtain ⟨h1, o, ho, _⟩ := mem_ready.1 hi
  have hlt : i < ops.size := (Array.getElem?_eq_some_iff.1 ho).1
  rw [finOf_spec i hlt] at h1
  cases h1
def WE (P : Program) (n : Nat) (ops : Array Oper) (I : World → Prop) (K : Act → World → Prop) (fuel : Nat) (listed : Array Bool) (e : List (Nat × Value)) (w : World) : Prop :=
  ∀ a, Fits n e a → WI P ops I K fuel listed a w

section
variable {P : Program} {n : Nat} {ops : Array Oper} {I : World → Prop} {K : Act → World → Prop} {fuel : Nat} {listed listed' : Array Bool} {e : List (Nat × Value)} {w : World}
/-- a quiet one is taken first -/
theorem wi_take (i : Nat) {dst : Option Tmp} {op : Op} {ty : TypeId} {pos : String} {af : Array Edge} {v : Value} (hi : ops[i]? = some ⟨dst, op, ty, pos, af, none⟩) (hs : Region.noSelect ops = true) (hd : dstOk n dst = true)
    (ht : takeB ops ops.size listed i = true) (hl : listed.setIfInBounds i true = listed') (hy : ∀ w, I w → OpWp P e op ty w fun u w' => u = v ∧ w' = w)
    (h : WE P n ops I K fuel listed' (updO e dst v) w) : WE P n ops I K (fuel + 1) listed e w := fun a ha => by
  simp only [takeB, Bool.and_eq_true] at ht
  refine WI_first hi (Region.noSelect_spec hs) fuel listed a w (Region.free_spec hi ht.1) (by simpa using ht.2) (fun w hw => (hy w hw).opX ha) ?_
  rw [hl]
  exact h _ (ha.put dst v hd)
/-- number i alone may come up -/
theorem wi_one (i : Nat) {dst : Option Tmp} {op : Op} {ty : TypeId} {pos : String} {af : Array Edge} (hi : ops[i]? = some ⟨dst, op, ty, pos, af, none⟩) (hd : dstOk n dst = true)
    (hr : rdy ops ops.size listed = [i]) (hl : listed.setIfInBounds i true = listed') (hI : I w) (hy : OpWp P e op ty w fun u w' => WE P n ops I K fuel listed' (updO e dst u) w') : WE P n ops I K (fuel + 1) listed e w := fun a ha => by
  refine ⟨hI, by rw [hr]; simp, fun j hj o ho => ?_⟩
  rw [hr] at hj
  obtain rfl : j = i := by simpa using hj
  obtain rfl : ⟨dst, op, ty, pos, af, none⟩ = o := by rw [hi] at ho; injection ho
  refine OpX.mono (OpWp.opX ha hy) fun u w' hu => ?_
  rw [hl]
  exact hu _ (ha.put dst u hd)
/-- numbers i and k alone may come up -/
theorem wi_two (i k : Nat) {listed'' : Array Bool} {dst : Option Tmp} {op : Op} {ty : TypeId} {pos : String} {af : Array Edge} {dst2 : Option Tmp} {op2 : Op} {ty2 : TypeId} {pos2 : String} {af2 : Array Edge} (hi : ops[i]? = some ⟨dst, op, ty, pos, af, none⟩) (hk : ops[k]? = some ⟨dst2, op2, ty2, pos2, af2, none⟩) (hd : dstOk n dst = true) (hd2 : dstOk n dst2 = true)
    (hr : rdy ops ops.size listed = [i, k]) (hl : listed.setIfInBounds i true = listed') (hl2 : listed.setIfInBounds k true = listed'') (hI : I w) (hy : OpWp P e op ty w fun u w' => WE P n ops I K fuel listed' (updO e dst u) w')
    (hy2 : OpWp P e op2 ty2 w fun u w' => WE P n ops I K fuel listed'' (updO e dst2 u) w') : WE P n ops I K (fuel + 1) listed e w := fun a ha => by
  refine ⟨hI, by rw [hr]; simp, fun j hj o ho => ?_⟩
  rw [hr] at hj
  simp only [List.mem_cons, List.not_mem_nil, or_false] at hj
  rcases hj with rfl | rfl
  · obtain rfl : ⟨dst, op, ty, pos, af, none⟩ = o := by rw [hi] at ho; injection ho
    refine OpX.mono (OpWp.opX ha hy) fun u w' hu => ?_
    rw [hl]
    exact hu _ (ha.put dst u hd)
  · obtain rfl : ⟨dst2, op2, ty2, pos2, af2, none⟩ = o := by rw [hk] at ho; injection ho
    refine OpX.mono (OpWp.opX ha hy2) fun u w' hu => ?_
    rw [hl2]
    exact hu _ (ha.put dst2 u hd2)
/-- all are done -/
theorem wi_done (hl : listed = finOf ops ops.size) (hI : I w) (h : ∀ a, Fits n e a → K a w) : WE P n ops I K 0 listed e w := fun a ha => ⟨hl, hI, h a ha⟩
end

theorem c_seqI {P : Program} {n : Nat} {id : Nat} {l : List Oper} {e : List (Nat × Value)} {w : World} {Q : Exit → List (Nat × Value) → World → Prop} {y : Code} (I : World → Prop)
    (hx : P.follows .mixedOrders = true)
    (h : WE P n l.toArray I (fun a w => ∃ e', Fits n e' a ∧ CWp P n y e' w Q) l.toArray.size (Array.replicate l.toArray.size false) e w.drew) : CWp P n (.seq (.region id l.toArray true) y) e w Q := c_seq fun a ha => by
  refine wp_region_any hx ?_
  exact WI_any (K := fun a w => ∃ e', Fits n e' a ∧ CWp P n y e' w Q) (Q := fun x a' w' => ∃ e', Fits n e' a' ∧ thenQ (fun e' w' => CWp P n y e' w' Q) Q x e' w') (fun a w ⟨e', hf, hk⟩ => ⟨ready_fin _, e', hf, hk⟩) _ _ _ _ (h a ha)
theorem gb_ext {w a b : World} {row : Option Nat} (h : w.grownBy a row) (k : Ext a b) : w.grownBy b row :=
  ⟨k.os.trans h.os, k.tape.trans h.tape, k.output.trans h.output, Nat.le_trans h.size k.size, fun i hi hr => (k.block i (Nat.lt_of_lt_of_le hi h.size)).trans (h.block i hi hr)⟩
theorem gb_new {w a b : World} {row row' : Option Nat} (h : w.grownBy a row) (k : a.grownBy b row') (hr : ∀ g, row' = some g → w.heap.size ≤ g) : w.grownBy b row :=
  ⟨k.os.trans h.os, k.tape.trans h.tape, k.output.trans h.output, Nat.le_trans h.size k.size, fun i hi hn => (k.block i (Nat.lt_of_lt_of_le hi h.size) (fun e => by have := hr i e.symm; omega)).trans (h.block i hi hn)⟩
end Go.Proofs.Ytdoibplhbdkapaa
namespace Go.Proofs.Ytdoibplhbdkapaa
open Go.RowKit
set_option linter.unusedVariables false

theorem Own.cap {w : World} {lo n c s : Nat} {t : TypeId} {A : Option Addr} {cs : List Value} (h : Own w lo t s A n c cs) : n ≤ c := by
  rcases Nat.eq_zero_or_pos n with e | e
  · omega
  · obtain ⟨_, _, _, _, _, hn, _⟩ := h.form e; exact hn
theorem flat_drop {α : Type} {enc : α → List Value} {s : Nat} (he : ∀ x, (enc x).length = s) : ∀ (xs : List α) (k : Nat), (xs.flatMap enc).drop (k * s) = (xs.drop k).flatMap enc
  | xs, 0 => by simp
  | [], k + 1 => by simp
  | x :: r, k + 1 => by
    rw [List.flatMap_cons, Nat.add_mul, Nat.one_mul, Nat.add_comm, List.drop_append, List.drop_of_length_le (by rw [he]; omega), he, List.nil_append, show s + k * s - s = k * s by omega, flat_drop he r k]; rfl
theorem flat_take {α : Type} {enc : α → List Value} {s : Nat} (he : ∀ x, (enc x).length = s) : ∀ (xs : List α) (k : Nat), (xs.flatMap enc).take (k * s) = (xs.take k).flatMap enc
  | xs, 0 => by simp
  | [], k + 1 => by simp
  | x :: r, k + 1 => by
    rw [List.flatMap_cons, Nat.add_mul, Nat.one_mul, Nat.add_comm, List.take_append, List.take_of_length_le (by rw [he]; omega), he, show s + k * s - s = k * s by omega, flat_take he r k]; rfl
theorem map_add0 (A : Option Addr) : A.map (·.add 0) = A := by cases A <;> rfl
/-- a part of a row that is read -/
theorem Sl.part {α : Type} {enc : α → List Value} {s : Nat} {w : World} {B : Nat} {A : Option Addr} {xs : List α} (h : Sl B w A (xs.flatMap enc)) (he : ∀ x, (enc x).length = s) (l m c : Nat) (hm : c = l → m = 0) :
    Sl B w (if c = l then A else A.map (·.add (l * s))) (((xs.drop l).take m).flatMap enc) := by
  by_cases hc : c = l
  · rw [hm hc]; simp only [List.take_zero, List.flatMap_nil]; exact Sl.nil_ h.1 _
  · rw [if_neg hc]
    have h1 := h.cut (l * s) (m * s)
    rw [flat_drop he, flat_take he] at h1
    by_cases h0 : l * s = 0
    · rw [if_pos h0] at h1; rw [h0, map_add0]; exact h1
    · rw [if_neg h0] at h1; exact h1
section
variable {P : Program} {e : List (Nat × Value)} {w : World} {K : Value → World → Prop} {ty t el : TypeId} {x lo hi : Operand} {s : Nat} {α : Type} {enc : α → List Value} {B n c l h : Nat} {A : Option Addr} {xs : List α} {k1 k2 : IntKind} {m1 m2 : Int}
theorem elem_of (ht : elO P t = some (el, s)) : P.underlying t = some (.slice (P.elem t)) ∧ ∀ w, (sizeOf (P.elem t)).run P w = .ok s w := by
  obtain ⟨ti, hu, hti, hts⟩ := elO_spec ht
  have he : P.elem t = el := by simp [Program.elem, hu]
  rw [he]
  exact ⟨hu, fun w => by simp only [run_sizeOf' hti, hts]⟩
theorem ow_sliceL (ht : elO P t = some (el, s)) (hs : Sl B w A (xs.flatMap enc)) (he : ∀ x, (enc x).length = s) (hx : evO e x = some (.slice A n c)) (h1 : evO e lo = some (.int k1 m1)) (e1 : m1 = (l : Int)) (hn : n = xs.length)
    (hlh : l ≤ n) (hc : n ≤ c) (hK : ∀ A', Sl B w A' ((xs.drop l).flatMap enc) → K (.slice A' (n - l) (c - l)) w) : OpWp P e (.slice t x (some lo) none none) ty w K := fun ρ d p a g hρ => by
  have g0 := hρ _ _ hx; have g1 := hρ _ _ h1
  obtain ⟨hu, hsz⟩ := elem_of ht
  subst e1
  have hr := run_slice_l (P := P) (w := w) t A n c hu k1 (l : Int) (by omega) (by omega)
  simp only [execOp, g0, Option.map_some, Option.map_none, g1, Sem.run_bind, run_sliceAt_slice w t _ _ _ _ hu, hr, hsz, Result.andThen_ok, Sem.run_pure, upto, sliced, Int.toNat_natCast]
  have h3 := hs.part he l (n - l) c (fun e => by omega)
  rw [List.take_of_length_le (by simp; omega)] at h3
  exact hK _ h3
end
end Go.Proofs.Ytdoibplhbdkapaa
namespace Go.Proofs.Ytdoibplhbdkapaa
open Go.RowKit
set_option linter.unusedVariables false
set_option linter.unusedSimpArgs false
section
variable {P : Program} {e : List (Nat × Value)} {ty : TypeId} {w : World} {K : Value → World → Prop} {x y : Operand} {t el : TypeId} {s b : Nat} {z : List Value} {a : Bool}
end
section
variable {P : Program} {n : Nat} {ops : Array Oper} {I : World → Prop} {K : Act → World → Prop} {fuel : Nat} {listed listed' : Array Bool} {e : List (Nat × Value)} {w : World}
end
end Go.Proofs.Ytdoibplhbdkapaa
namespace Go.Proofs.Ytdoibplhbdkapaa
open Go.RowKit
set_option linter.unusedVariables false
set_option linter.unusedSimpArgs false
set_option maxRecDepth 20000
theorem cmpS_lt {a b : SlotI} : cmpS a b < 0 ↔ a.mode < b.mode ∨ (a.mode = b.mode ∧ (a.round < b.round ∨ (a.round = b.round ∧ a.slot < b.slot))) := by
  simp only [cmpS, cmpI]
  (repeat' split) <;> omega
theorem cmpS_eq0 {a b : SlotI} : cmpS a b = 0 ↔ a.mode = b.mode ∧ a.round = b.round ∧ a.slot = b.slot := by
  simp only [cmpS, cmpI]
  (repeat' split) <;> omega
theorem cmpS_in (a b : SlotI) : -1 ≤ cmpS a b ∧ cmpS a b ≤ 1 := by
  simp only [cmpS, cmpI]
  (repeat' split) <;> omega
theorem cmpS_neg (a b : SlotI) : cmpS b a = 0 - cmpS a b := by
  simp only [cmpS, cmpI]
  (repeat' split) <;> omega
theorem cmpS_trans {a b c : SlotI} (h1 : cmpS a b < 0) (h2 : cmpS b c < 0) : cmpS a c < 0 := by
  rw [cmpS_lt] at *; omega
theorem okFrom_pw : ∀ (xs : List SlotI) (p : Option SlotI), okFrom p xs = true → xs.Pairwise (fun a b => cmpS a b < 0) ∧ ∀ y, p = some y → ∀ x ∈ xs, cmpS y x < 0
  | [], p, _ => ⟨.nil, fun y _ x hx => by simp at hx⟩
  | x :: r, p, h => by
    have h1 : okFrom (some x) r = true ∧ ∀ y, p = some y → cmpS y x < 0 := by
      cases p <;> simp [okFrom] at h
      · exact ⟨h.2, fun y hy => by cases hy⟩
      · exact ⟨h.2, fun y hy => by cases hy; exact h.1.2⟩
    obtain ⟨h2, h3⟩ := okFrom_pw r (some x) h1.1
    refine ⟨List.Pairwise.cons (fun z hz => h3 x rfl z hz) h2, fun y hy z hz => ?_⟩
    rcases List.mem_cons.1 hz with rfl | hz
    · exact h1.2 y hy
    · exact cmpS_trans (h1.2 y hy) (h3 x rfl z hz)
theorem pw_okFrom : ∀ (xs : List SlotI) (p : Option SlotI), (∀ x ∈ xs, slotOk x = true) → xs.Pairwise (fun a b => cmpS a b < 0) → (∀ y, p = some y → ∀ x ∈ xs, cmpS y x < 0) → okFrom p xs = true
  | [], p, _, _, _ => by cases p <;> rfl
  | x :: r, p, h1, h2, h3 => by
    have h4 := List.pairwise_cons.1 h2
    have h5 := pw_okFrom r (some x) (fun z hz => h1 z (by simp [hz])) h4.2 (fun y hy z hz => by cases hy; exact h4.1 z hz)
    cases p with
    | none => simp [okFrom, h1 x (by simp), h5]
    | some y => simp [okFrom, h1 x (by simp), h5, h3 y rfl x (by simp)]
theorem isST_pw {xs : List SlotI} (h : isST xs = true) : xs.Pairwise (fun a b => cmpS a b < 0) := by
  simp only [isST, Bool.and_eq_true] at h
  exact (okFrom_pw xs none h.1).1
theorem pw_at : ∀ {xs : List SlotI} {i j : Nat} {a b : SlotI}, xs.Pairwise (fun a b => cmpS a b < 0) → xs[i]? = some a → xs[j]? = some b → i < j → cmpS a b < 0
  | [], i, j, a, b, _, ha, _, _ => by simp at ha
  | x :: r, 0, j + 1, a, b, h, ha, hb, _ => by
    simp at ha; subst ha
    exact (List.pairwise_cons.1 h).1 b (List.mem_of_getElem? (by simpa using hb))
  | x :: r, i + 1, j + 1, a, b, h, ha, hb, hij => pw_at (List.pairwise_cons.1 h).2 (by simpa using ha) (by simpa using hb) (by omega)
  | x :: r, i, 0, a, b, _, _, _, hij => by omega
/-- p is the place of x -/
def BS (xs : List SlotI) (x : SlotI) (p : Nat) : Prop := p ≤ xs.length ∧ (∀ k y, xs[k]? = some y → k < p → cmpS y x < 0) ∧ ∀ k y, xs[k]? = some y → p ≤ k → 0 ≤ cmpS y x
def hitB (xs : List SlotI) (x : SlotI) (p : Nat) : Bool := match xs[p]? with
  | some y => decide (cmpS y x = 0)
  | none => false
theorem hit_cmp {x y : SlotI} : hitS x.mode x.round x.slot y = true ↔ cmpS y x = 0 := by
  rw [cmpS_eq0]; simp [hitS, and_assoc]
theorem findS_nn {f : SlotI → Bool} : ∀ (xs : List SlotI) (k : Int), 0 ≤ k → (∃ y ∈ xs, f y = true) → 0 ≤ findS f k xs
  | [], _, _, ⟨y, hy, _⟩ => by simp at hy
  | x :: r, k, hk, ⟨y, hy, hf⟩ => by
    rw [findS]; split
    · exact hk
    · rename_i h
      rcases List.mem_cons.1 hy with rfl | hy
      · exact absurd hf h
      · exact findS_nn r (k + 1) (by omega) ⟨y, hy, hf⟩
theorem bs_hit {xs : List SlotI} {x : SlotI} {p : Nat} (hp : xs.Pairwise (fun a b => cmpS a b < 0)) (hb : BS xs x p) : hitB xs x p = true ↔ ¬ findS (hitS x.mode x.round x.slot) 0 xs < 0 := by
  constructor
  · intro h
    unfold hitB at h
    split at h
    · rename_i y hy
      have := findS_nn (f := hitS x.mode x.round x.slot) xs 0 (Int.le_refl _) ⟨y, List.mem_of_getElem? hy, hit_cmp.2 (by simpa using h)⟩
      omega
    · cases h
  · intro h
    obtain ⟨j, y, _, hy, hh⟩ := find_at h
    have h0 := hit_cmp.1 hh
    have hj : p ≤ j := by
      rcases Nat.lt_or_ge j p with h1 | h1
      · have := hb.2.1 j y hy h1; omega
      · exact h1
    have hjl := (List.getElem?_eq_some_iff.1 hy).1
    have hz := List.getElem?_eq_getElem (show p < xs.length by omega)
    have h2 := hb.2.2 p _ hz (Nat.le_refl _)
    rcases Nat.eq_or_lt_of_le hj with rfl | h3
    · unfold hitB; rw [hy]; simpa using h0
    · have h4 := pw_at hp hz hy h3
      rw [cmpS_lt] at h4; rw [cmpS_eq0] at h0
      have h5 : ¬ cmpS xs[p] x < 0 := by omega
      rw [cmpS_lt] at h5; omega
def insL (xs : List SlotI) (x : SlotI) (p : Nat) : List SlotI := xs.take p ++ x :: xs.drop p
theorem insL_len {xs : List SlotI} {x : SlotI} {p : Nat} (h : p ≤ xs.length) : (insL xs x p).length = xs.length + 1 := by
  rw [insL, List.length_append, List.length_cons, List.length_take, List.length_drop]; omega
theorem bs_take {xs : List SlotI} {x : SlotI} {p : Nat} (hb : BS xs x p) : ∀ y ∈ xs.take p, cmpS y x < 0 := fun y hy => by
  obtain ⟨k, hk⟩ := List.mem_iff_getElem?.1 hy
  rw [List.getElem?_take] at hk
  split at hk
  · exact hb.2.1 k y hk (by assumption)
  · cases hk
theorem bs_drop {xs : List SlotI} {x : SlotI} {p : Nat} (hp : xs.Pairwise (fun a b => cmpS a b < 0)) (hb : BS xs x p) (hn : hitB xs x p = false) : ∀ y ∈ xs.drop p, 0 < cmpS y x := fun y hy => by
  obtain ⟨k, hk⟩ := List.mem_iff_getElem?.1 hy
  rw [List.getElem?_drop] at hk
  have h1 := hb.2.2 _ y hk (by omega)
  by_cases h0 : cmpS y x = 0
  · have h2 := findS_nn (f := hitS x.mode x.round x.slot) xs 0 (Int.le_refl _) ⟨y, List.mem_of_getElem? hk, hit_cmp.2 h0⟩
    have := (bs_hit hp hb).2 (by omega)
    rw [hn] at this; cases this
  · omega
def ltL (xs : List SlotI) (x : SlotI) : List SlotI := xs.filter fun y => decide (cmpS y x < 0)
def gtL (xs : List SlotI) (x : SlotI) : List SlotI := xs.filter fun y => decide (0 < cmpS y x)
theorem ltL_len (xs : List SlotI) (x : SlotI) : (ltL xs x).length ≤ xs.length := List.length_filter_le _ _
theorem gtL_len (xs : List SlotI) (x : SlotI) : (gtL xs x).length ≤ xs.length := List.length_filter_le _ _
theorem ltL_step {xs : List SlotI} {k : Nat} {x y : SlotI} (h : xs[k]? = some y) : ltL (xs.take (k + 1)) x = if cmpS y x < 0 then ltL (xs.take k) x ++ [y] else ltL (xs.take k) x := by
  unfold ltL
  rw [List.take_add_one, h, Option.toList_some, List.filter_append]
  by_cases h1 : cmpS y x < 0 <;> simp [h1]
theorem gtL_step {xs : List SlotI} {k : Nat} {x y : SlotI} (h : xs[k]? = some y) : gtL (xs.take (k + 1)) x = if 0 < cmpS y x then gtL (xs.take k) x ++ [y] else gtL (xs.take k) x := by
  unfold gtL
  rw [List.take_add_one, h, Option.toList_some, List.filter_append]
  by_cases h1 : 0 < cmpS y x <;> simp [h1]
theorem bs_filter {xs : List SlotI} {x : SlotI} {p : Nat} (hp : xs.Pairwise (fun a b => cmpS a b < 0)) (hb : BS xs x p) (hn : hitB xs x p = false) : ltL xs x ++ x :: gtL xs x = insL xs x p := by
  have e1 : ltL xs x = xs.take p := by
    have : ltL (xs.take p ++ xs.drop p) x = xs.take p := by
      unfold ltL
      rw [List.filter_append, List.filter_eq_self.2 (fun y hy => by simpa using bs_take hb y hy), List.filter_eq_nil_iff.2 (fun y hy => by have := bs_drop hp hb hn y hy; simp; omega), List.append_nil]
    rwa [List.take_append_drop] at this
  have e2 : gtL xs x = xs.drop p := by
    have : gtL (xs.take p ++ xs.drop p) x = xs.drop p := by
      unfold gtL
      rw [List.filter_append, List.filter_eq_nil_iff.2 (fun y hy => by have := bs_take hb y hy; simp; omega), List.filter_eq_self.2 (fun y hy => by simpa using bs_drop hp hb hn y hy), List.nil_append]
    rwa [List.take_append_drop] at this
  rw [e1, e2, insL]
def insF (xs : List SlotI) (x : SlotI) : List SlotI × Int := if isST xs = true then (if slotOk x = true then (if findS (hitS x.mode x.round x.slot) 0 xs < 0 then (if xs.length = 120 then ([], 3) else (ltL xs x ++ x :: gtL xs x, 0)) else ([], 5)) else ([], 2)) else ([], 1)
theorem insF_len (xs : List SlotI) (x : SlotI) : (insF xs x).1.length ≤ 1048576 := by
  unfold insF
  split
  · rename_i h
    have := isST_len h
    have := ltL_len xs x
    have := gtL_len xs x
    split
    · split
      · split
        · simp
        · simp only [List.length_append, List.length_cons]; omega
      · simp
    · simp
  · simp
/-- what is known when the code is 0 -/
theorem insF_ok {xs : List SlotI} {x : SlotI} (h : ¬ (insF xs x).2 ≠ 0) : isST xs = true ∧ slotOk x = true ∧ findS (hitS x.mode x.round x.slot) 0 xs < 0 ∧ xs.length < 120 ∧ (insF xs x).1 = ltL xs x ++ x :: gtL xs x := by
  have h0 : (insF xs x).2 = 0 := by omega
  unfold insF at h0 ⊢
  split at h0
  · rename_i h1
    have h5 := isST_len h1
    split at h0
    · rename_i h2
      split at h0
      · rename_i h3
        split at h0
        · cases h0
        · rename_i h4
          rw [if_pos h1, if_pos h2, if_pos h3, if_neg h4]
          exact ⟨h1, h2, h3, by omega, rfl⟩
      · cases h0
    · cases h0
  · cases h0
theorem mem_lt {xs : List SlotI} {x y : SlotI} : y ∈ ltL xs x ↔ y ∈ xs ∧ cmpS y x < 0 := by simp [ltL, List.mem_filter]
theorem mem_gt {xs : List SlotI} {x y : SlotI} : y ∈ gtL xs x ↔ y ∈ xs ∧ 0 < cmpS y x := by simp [gtL, List.mem_filter]
theorem find_none {xs : List SlotI} {f : SlotI → Bool} (h : findS f 0 xs < 0) : ∀ y ∈ xs, f y = false := fun y hy => by
  cases h1 : f y with
  | false => rfl
  | true => have := findS_nn xs 0 (Int.le_refl _) ⟨y, hy, h1⟩; omega
theorem ins_st {xs : List SlotI} {x : SlotI} (h1 : isST xs = true) (h2 : slotOk x = true) (h4 : (ltL xs x ++ x :: gtL xs x).length ≤ 120) : isST (ltL xs x ++ x :: gtL xs x) = true := by
  have hp := isST_pw h1
  have ho : ∀ y ∈ xs, slotOk y = true := fun y hy => by
    obtain ⟨k, hk⟩ := List.mem_iff_getElem?.1 hy; exact isST_at h1 hk
  rw [isST, Bool.and_eq_true, decide_eq_true_eq]
  refine ⟨pw_okFrom _ none (fun y hy => ?_) ?_ (fun y hy => by cases hy), h4⟩
  · rcases List.mem_append.1 hy with hy | hy
    · exact ho y (mem_lt.1 hy).1
    · rcases List.mem_cons.1 hy with rfl | hy
      · exact h2
      · exact ho y (mem_gt.1 hy).1
  · rw [List.pairwise_append, List.pairwise_cons]
    refine ⟨hp.sublist List.filter_sublist, ⟨fun y hy => ?_, hp.sublist List.filter_sublist⟩, fun a ha b hb => ?_⟩
    · have := (mem_gt.1 hy).2
      rw [cmpS_neg y x]; omega
    · have h5 := (mem_lt.1 ha).2
      rcases List.mem_cons.1 hb with rfl | hb
      · exact h5
      · have h6 := (mem_gt.1 hb).2
        exact cmpS_trans h5 (by rw [cmpS_neg b x]; omega)
theorem pw_same {xs : List SlotI} (hp : xs.Pairwise (fun a b => cmpS a b < 0)) {a b : SlotI} (ha : a ∈ xs) (hb : b ∈ xs) (h : cmpS a b = 0) : a = b := by
  obtain ⟨i, hi⟩ := List.mem_iff_getElem?.1 ha
  obtain ⟨j, hj⟩ := List.mem_iff_getElem?.1 hb
  rcases Nat.lt_trichotomy i j with h1 | h1 | h1
  · have := pw_at hp hi hj h1; omega
  · subst h1; rw [hi] at hj; injection hj
  · have := pw_at hp hj hi h1; rw [cmpS_neg a b] at this; omega
theorem ins_find {ys : List SlotI} {x : SlotI} (h1 : isST ys = true) (h2 : x ∈ ys) : findD ys x.mode x.round x.slot = (x.desc, 0) := by
  have h3 := findS_nn (f := hitS x.mode x.round x.slot) ys 0 (Int.le_refl _) ⟨x, h2, hit_cmp.2 (cmpS_eq0.2 ⟨rfl, rfl, rfl⟩)⟩
  have h4 : ¬ findS (hitS x.mode x.round x.slot) 0 ys < 0 := by omega
  obtain ⟨j, y, hj, hy, hh⟩ := find_at h4
  have h5 := pw_same (isST_pw h1) (List.mem_of_getElem? hy) h2 (hit_cmp.1 hh)
  subst h5
  rw [findD, if_pos h1, if_neg h4, hj]; simp [hy]
theorem part_count {x : SlotI} (f : SlotI → Bool) : ∀ (xs : List SlotI), (∀ y ∈ xs, cmpS y x ≠ 0) → xs.countP f = (ltL xs x).countP f + (gtL xs x).countP f
  | [], _ => rfl
  | y :: r, h => by
    have h1 := part_count f r fun z hz => h z (by simp [hz])
    have h2 := h y (by simp)
    unfold ltL gtL at h1 ⊢
    by_cases h3 : cmpS y x < 0
    · have h4 : ¬ 0 < cmpS y x := by omega
      rw [List.filter_cons_of_pos (by simpa using h3), List.filter_cons_of_neg (by simpa using h4), List.countP_cons, List.countP_cons, h1]; omega
    · have h4 : 0 < cmpS y x := by omega
      rw [List.filter_cons_of_neg (by simpa using h3), List.filter_cons_of_pos (by simpa using h4), List.countP_cons, List.countP_cons, h1]; omega
theorem no_hit {xs : List SlotI} {x : SlotI} (h : findS (hitS x.mode x.round x.slot) 0 xs < 0) : ∀ y ∈ xs, cmpS y x ≠ 0 := fun y hy h0 => by
  have := find_none h y hy
  rw [hit_cmp.2 h0] at this; cases this
theorem ins_len {xs : List SlotI} {x : SlotI} (h : findS (hitS x.mode x.round x.slot) 0 xs < 0) : (ltL xs x ++ x :: gtL xs x).length = xs.length + 1 := by
  have := part_count (fun _ => true) xs (no_hit h)
  simp only [List.countP_true] at this
  rw [List.length_append, List.length_cons]; omega
theorem shr1 {z : Int} (h : 0 ≤ z) : z.fdiv (2 ^ (min ((1 : Int).toNat) IntKind.u64.bits)) = z / 2 := by
  show z.fdiv 2 = _
  rw [Int.fdiv_eq_ediv_of_nonneg _ (by omega)]
theorem wu {n : Int} (h : 0 ≤ n ∧ n ≤ 9223372036854775807) : IntKind.u64.wrap n = n := by
  have h1 : n % 18446744073709551616 = n := by omega
  simp [IntKind.wrap, IntKind.bits, IntKind.signed, h1]
theorem insCmp_c (a b : SlotI) (w : World)  :
    Calls Try.prog 57 #[.agg a.cells.toArray, .agg b.cells.toArray] w (Ret fun v w' => v = .int .i64 (cmpS a b) ∧ Ext w w') := by
  have X := Ext.refl w
  refine calls_of (args := [.agg a.cells.toArray, .agg b.cells.toArray]) Try.func57 Try.ntmps57 rfl rfl ?_
  refine c_seqR ?_
  refine ops_cons rfl (ow_box rfl rfl ?_)
  intro g4 w3 eg4 b1 x2 zg4
  have lg4 : w.heap.size ≤ g4 := Nat.le_trans X.size (Nat.le_of_eq eg4.symm)
  replace X := Ext.trans X x2; clear x2
  refine ops_cons rfl (ow_box rfl rfl ?_)
  intro g8 w7 eg8 b5 x6 zg8
  have lg8 : w.heap.size ≤ g8 := Nat.le_trans X.size (Nat.le_of_eq eg8.symm)
  have ng8b1 := Nat.lt_of_lt_of_eq b1.lt eg8.symm
  replace b1 := b1.ext x6
  replace X := Ext.trans X x6; clear x6
  refine ops_cons rfl (ow_assign rfl ?_)
  refine ops_nil ?_
  refine c_seqR ?_
  refine ops_cons rfl (ow_loadAB b1 ti49 rfl rfl ?_)
  refine ops_cons rfl (ow_loadAB b5 ti49 rfl rfl ?_)
  refine ops_cons rfl (ow_call ent30 rfl (ret_mono (iCompareSlots_c _ _ _) ?_))
  rintro _ w10 ⟨rfl, x9⟩
  replace b1 := b1.ext x9
  replace b5 := b5.ext x9
  replace X := Ext.trans X x9; clear x9
  refine ops_cons rfl (ow_assign rfl ?_)
  refine ops_nil ?_
  refine c_ret ?_
  refine fin_ret1 rfl rfl ?_
  exact ⟨by rfl, X⟩

theorem bsearch_c (A : Option Addr) (B c : Nat) (xs : List SlotI) (x : SlotI) (w : World) (hs : Sl B w A (xs.flatMap SlotI.cells)) (hl : xs.length ≤ 120) (hp : xs.Pairwise (fun a b => cmpS a b < 0)) :
    Calls Try.prog 56 #[.slice A xs.length c, .agg x.cells.toArray, .func (.func 57) #[] #[]] w (Ret fun v w' => ∃ p, v = .tuple #[.int .i64 (p : Nat), .bool (hitB xs x p)] ∧ BS xs x p ∧ Ext w w') := by
  have Bhs := hs.1
  have X := Ext.refl w
  refine calls_of (args := [.slice A xs.length c, .agg x.cells.toArray, .func (.func 57) #[] #[]]) Try.func56 Try.ntmps56 rfl rfl ?_
  refine c_seqR ?_
  refine ops_cons rfl (ow_box rfl rfl ?_)
  intro gX w2 egX bX x1 zgX
  have lgX : w.heap.size ≤ gX := Nat.le_trans X.size (Nat.le_of_eq egX.symm)
  have pgXhs := Nat.le_trans hs.1 (Nat.le_of_eq egX.symm)
  replace hs := hs.ext x1
  replace X := Ext.trans X x1; clear x1
  refine ops_cons rfl (ow_assign rfl ?_)
  refine ops_cons rfl (ow_assign rfl ?_)
  refine ops_nil ?_
  refine c_seqR ?_
  refine ops_cons rfl (ow_move rfl ?_)
  refine ops_cons rfl (ow_len Try.underlying43 rfl ?_)
  refine ops_cons rfl (ow_assign rfl ?_)
  refine ops_nil ?_
  refine c_seqR ?_
  refine ops_cons rfl (ow_move rfl ?_)
  refine ops_cons rfl (ow_assign rfl ?_)
  refine ops_cons rfl (ow_assign rfl ?_)
  refine ops_nil ?_
  refine c_seq ?_
  refine c_block ?_
  refine c_loop (G := Nat × Nat) (fun ⟨a, b⟩ => [(0, .slice A xs.length c), (2, .func (.func 57) #[] #[]), (4, .pointer (some ⟨gX, 0, none⟩)), (6, .int .i64 0), (7, .bool false), (8, .int .i64 (xs.length : Nat)), (9, .int .i64 (a : Nat)), (10, .int .i64 (b : Nat))]) (fun ⟨a, b⟩ wr => (a ≤ b ∧ b ≤ xs.length) ∧ (∀ k y, xs[k]? = some y → k < a → cmpS y x < 0) ∧ (∀ k y, xs[k]? = some y → b ≤ k → 0 ≤ cmpS y x) ∧ Sl B wr A (xs.flatMap SlotI.cells) ∧ Blk wr gX 49 x.cells ∧ Ext w wr) (fun ⟨a, b⟩ => b - a) (0, xs.length) (.cons rfl (.cons rfl (.cons rfl (.cons rfl (.cons rfl (.cons rfl (.cons rfl (.cons rfl (.nil _))))))))) ?_ ?_
  · exact ⟨⟨Nat.zero_le _, Nat.le_refl _⟩, (fun k y _ h => absurd h (Nat.not_lt_zero _)), (fun k y hk h => absurd (List.getElem?_eq_some_iff.1 hk).1 (Nat.not_lt.2 h)), hs, bX, X⟩
  clear hs bX
  clear X
  rintro ⟨a, b⟩ wr ⟨hab, hlo, hhi, hs, bX, X⟩
  refine c_seq ?_
  refine c_seqR ?_
  refine ops_cons rfl (ow_move rfl ?_)
  refine ops_cons rfl (ow_move rfl ?_)
  refine ops_cons rfl (ow_lss2 rfl rfl (fun hk => ?_) (fun hk => ?_))
  obtain ⟨y, hy, dy⟩ := drop_at (xs := xs) (k := (a + b) / 2) (by omega)
  refine ops_nil ?_
  refine c_true rfl ?_
  refine c_skip ?_
  refine tq_n ?_
  refine c_block ?_
  refine c_seqR ?_
  refine ops_cons rfl (ow_move rfl ?_)
  refine ops_cons rfl (ow_move rfl ?_)
  refine ops_cons rfl (ow_add rfl rfl (w64 (by omega)) ?_)
  refine ops_cons rfl (ow_conv Try.underlying3 Try.underlying104 rfl (wu (by omega)) ?_)
  refine ops_cons rfl (ow_shr rfl rfl (by omega) (shr1 (by omega)) ?_)
  refine ops_cons rfl (ow_conv Try.underlying104 Try.underlying3 rfl (show IntKind.i64.wrap _ = (((a + b) / 2 : Nat) : Int) from (w64 (by omega)).trans (by omega)) ?_)
  refine ops_cons rfl (ow_assign rfl ?_)
  refine ops_nil ?_
  refine c_seqD [false, false, false, false, false, false, false, false] mixed (by kernel_rfl) ?_
  refine f_q rfl (fun wq sq => ow_move rfl ⟨rfl, Ext.refl _⟩) ?_
  refine f_q rfl (fun wq sq => ow_move rfl ⟨rfl, Ext.refl _⟩) ?_
  refine f_q rfl (fun wq sq => ow_move rfl ⟨rfl, Ext.refl _⟩) ?_
  refine f_q rfl (fun wq sq => ow_indexT (hs.ext sq) SlotI.len rfl el43 rfl rfl rfl hy rfl ⟨rfl, Ext.refl _⟩) ?_
  refine f_q rfl (fun wq sq => ow_loadTA (hs.ext sq) SlotI.len hy ti49 rfl ⟨rfl, Ext.refl _⟩) ?_
  refine f_q rfl (fun wq sq => ow_loadAB (bX.ext sq) ti49 rfl rfl ⟨rfl, Ext.refl _⟩) ?_
  refine f_q rfl (fun wq sq => ow_callVL ent57 rfl rfl (insCmp_c y x _)) ?_
  refine f_qb rfl (fun wq sq => ow_lss rfl rfl ⟨rfl, Ext.refl _⟩) (fun hc => ?_) (fun hc => ?_)
  refine f_nil (fun w3 sq => ?_)
  have xq := sq
  replace hs := hs.ext xq
  replace bX := bX.ext xq
  replace X := Ext.trans X xq; clear xq sq
  refine ops_nil ?_
  refine c_true rfl ?_
  refine c_region ?_
  refine ops_cons rfl (ow_move rfl ?_)
  refine ops_cons rfl (ow_add rfl rfl (show IntKind.i64.wrap _ = (((a + b) / 2 + 1 : Nat) : Int) from (w64 (by omega)).trans (by omega)) ?_)
  refine ops_cons rfl (ow_assign rfl ?_)
  refine ops_nil ?_
  refine bq_n ?_
  refine tq_n ⟨((a + b) / 2 + 1, b), (.cons rfl (.cons rfl (.cons rfl (.cons rfl (.cons rfl (.cons rfl (.cons rfl (.cons rfl (.nil _))))))))), ?_, ?_⟩
  · exact ⟨⟨by omega, by omega⟩, (fun k z hz h => (Nat.lt_or_eq_of_le (Nat.le_of_lt_succ h)).elim (fun h => cmpS_trans (pw_at hp hz hy h) hc) (fun h => by subst h; rw [hy] at hz; injection hz with hz; subst hz; exact hc)), hhi, hs, bX, X⟩
  · first | omega | (dsimp only; omega)
  refine f_nil (fun w4 sq => ?_)
  have xq := sq
  replace hs := hs.ext xq
  replace bX := bX.ext xq
  replace X := Ext.trans X xq; clear xq sq
  refine ops_nil ?_
  refine c_false rfl ?_
  refine c_region ?_
  refine ops_cons rfl (ow_move rfl ?_)
  refine ops_cons rfl (ow_assign rfl ?_)
  refine ops_nil ?_
  refine bq_n ?_
  refine tq_n ⟨(a, (a + b) / 2), (.cons rfl (.cons rfl (.cons rfl (.cons rfl (.cons rfl (.cons rfl (.cons rfl (.cons rfl (.nil _))))))))), ?_, ?_⟩
  · exact ⟨⟨by omega, by omega⟩, hlo, (fun k z hz h => (Nat.lt_or_eq_of_le h).elim (fun h => Int.not_lt.1 fun h2 => hc (cmpS_trans (pw_at hp hy hz h) h2)) (fun h => by subst h; rw [hy] at hz; injection hz with hz; subst hz; exact Int.not_lt.1 hc)), hs, bX, X⟩
  · first | omega | (dsimp only; omega)
  refine ops_nil ?_
  refine c_false rfl ?_
  refine c_exit ?_
  refine tq_e ?_
  refine tq_e ?_
  refine bq_e ?_
  refine tq_n ?_
  refine c_seqD [false, false, false, false, false, false, false, false, false, false, false, false, false, false, false, false] mixed (by kernel_rfl) ?_
  refine f_q rfl (fun wq sq => ow_move rfl ⟨rfl, Ext.refl _⟩) ?_
  refine f_q rfl (fun wq sq => ow_move rfl ⟨rfl, Ext.refl _⟩) ?_
  refine f_q rfl (fun wq sq => ow_move rfl ⟨rfl, Ext.refl _⟩) ?_
  refine f_qb rfl (fun wq sq => ow_lss rfl rfl ⟨rfl, Ext.refl _⟩) (fun hl1 => ?_) (fun hl1 => ?_)
  obtain ⟨y, hy, dy⟩ := drop_at (xs := xs) (k := a) (by omega)
  refine f_q rfl (fun wq sq => ow_move rfl ⟨rfl, Ext.refl _⟩) ?_
  refine f_qw rfl rfl rfl (fun wq sq => ow_move rfl ⟨rfl, Ext.refl _⟩) ?_
  refine f_qw rfl rfl rfl (fun wq sq => ow_move rfl ⟨rfl, Ext.refl _⟩) ?_
  refine f_qw rfl rfl rfl (fun wq sq => ow_move rfl ⟨rfl, Ext.refl _⟩) ?_
  refine f_qw rfl rfl rfl (fun wq sq => ow_indexT (hs.ext sq) SlotI.len rfl el43 rfl rfl rfl hy rfl ⟨rfl, Ext.refl _⟩) ?_
  refine f_qw rfl rfl rfl (fun wq sq => ow_loadTA (hs.ext sq) SlotI.len hy ti49 rfl ⟨rfl, Ext.refl _⟩) ?_
  refine f_qw rfl rfl rfl (fun wq sq => ow_loadAB (bX.ext sq) ti49 rfl rfl ⟨rfl, Ext.refl _⟩) ?_
  refine f_qw rfl rfl rfl (fun wq sq => ow_callVL ent57 rfl rfl (insCmp_c y x _)) ?_
  refine f_qw rfl rfl rfl (fun wq sq => ow_eql rfl rfl ⟨rfl, Ext.refl _⟩) ?_
  refine f_q rfl (fun wq sq => ow_pick rfl rfl ⟨rfl, Ext.refl _⟩) ?_
  refine f_q rfl (fun wq sq => ow_assign rfl ⟨rfl, Ext.refl _⟩) ?_
  refine f_q rfl (fun wq sq => ow_assign rfl ⟨rfl, Ext.refl _⟩) ?_
  refine f_nil (fun w5 sq => ?_)
  have xq := sq
  replace hs := hs.ext xq
  replace bX := bX.ext xq
  replace X := Ext.trans X xq; clear xq sq
  refine ops_nil ?_
  refine c_ret ?_
  refine fin_ret2 rfl rfl rfl ?_
  · skip
    have hBS : BS xs x a := ⟨by omega, hlo, fun k y hk h => hhi k y hk (by omega)⟩
    first
    | (refine ⟨a, ?_, hBS, X⟩
       have e : hitB xs x a = decide (cmpS y x = 0) := by unfold hitB; rw [hy]
       rw [e])
    | (refine ⟨a, ?_, hBS, X⟩
       have e : hitB xs x a = false := by unfold hitB; rw [List.getElem?_eq_none (by omega)]
       rw [e])
  refine f_q rfl (fun wq sq => ow_move rfl ⟨rfl, Ext.refl _⟩) ?_
  refine f_qs rfl rfl rfl rfl ?_
  refine f_qs rfl rfl rfl rfl ?_
  refine f_qs rfl rfl rfl rfl ?_
  refine f_qs rfl rfl rfl rfl ?_
  refine f_qs rfl rfl rfl rfl ?_
  refine f_qs rfl rfl rfl rfl ?_
  refine f_qs rfl rfl rfl rfl ?_
  refine f_qs rfl rfl rfl rfl ?_
  refine f_q rfl (fun wq sq => ow_pick rfl rfl ⟨rfl, Ext.refl _⟩) ?_
  refine f_q rfl (fun wq sq => ow_assign rfl ⟨rfl, Ext.refl _⟩) ?_
  refine f_q rfl (fun wq sq => ow_assign rfl ⟨rfl, Ext.refl _⟩) ?_
  refine f_nil (fun w6 sq => ?_)
  have xq := sq
  replace hs := hs.ext xq
  replace bX := bX.ext xq
  replace X := Ext.trans X xq; clear xq sq
  refine ops_nil ?_
  refine c_ret ?_
  refine fin_ret2 rfl rfl rfl ?_
  · skip
    have hBS : BS xs x a := ⟨by omega, hlo, fun k y hk h => hhi k y hk (by omega)⟩
    first
    | (refine ⟨a, ?_, hBS, X⟩
       have e : hitB xs x a = decide (cmpS y x = 0) := by unfold hitB; rw [hy]
       rw [e])
    | (refine ⟨a, ?_, hBS, X⟩
       have e : hitB xs x a = false := by unfold hitB; rw [List.getElem?_eq_none (by omega)]
       rw [e])
end Go.Proofs.Ytdoibplhbdkapaa
namespace Go.Proofs.Ytdoibplhbdkapaa
open Go.RowKit
set_option linter.unusedVariables false
set_option linter.unusedSimpArgs false

def WZ (P : Program) (ops : Array Oper) (z : Nat) (I : World → Prop) (K : Act → World → Prop) : Nat → Array Bool → Act → World → Prop
  | 0, listed, a, w => listed = finOf ops ops.size ∧ (listed.getD z true = false → I w) ∧ K a w
  | fuel + 1, listed, a, w => (listed.getD z true = false → I w) ∧ rdy ops ops.size listed ≠ [] ∧ ∀ i ∈ rdy ops ops.size listed, ∀ o, ops[i]? = some o →
      OpX P ops o a w fun u w' => WZ P ops z I K fuel (listed.setIfInBounds i true) (a.put o.dst u) w'
section
variable {P : Program} {ops : Array Oper} {z : Nat} {I : World → Prop} {K : Act → World → Prop}
theorem WZ.inv : ∀ {fuel : Nat} {listed : Array Bool} {a : Act} {w : World}, WZ P ops z I K fuel listed a w → listed.getD z true = false → I w
  | 0, _, _, _, h => h.2.1
  | _ + 1, _, _, _, h => h.1

end

section
variable {P : Program} {n : Nat} {ops : Array Oper} {z : Nat} {I : World → Prop} {K : Act → World → Prop} {fuel : Nat} {listed listed' : Array Bool} {e : List (Nat × Value)} {w : World}
end

section
variable {P : Program} {n : Nat} {ops : Array Oper} {z : Nat} {I : World → Prop} {K : Act → World → Prop} {fuel : Nat} {listed listed' : Array Bool} {e : List (Nat × Value)} {w : World}
end
end Go.Proofs.Ytdoibplhbdkapaa
namespace Go.Proofs.Ytdoibplhbdkapaa
open Go.RowKit
set_option linter.unusedVariables false
set_option linter.unusedSimpArgs false
theorem run_equalN {P : Program} {t el : TypeId} {w : World} {A : Option Addr} {n c : Nat} (ht : P.underlying t = some (.slice el)) : (Op.equal t (.slice A n c) (.slice none 0 0)).run P w = .ok A.isNone w := by
  unfold Op.equal
  rw [show Op.maxDepth = 9999 + 1 from rfl, Op.equalIn]
  cases A <;> simp [run_underlying ht]
section
variable {P : Program} {e : List (Nat × Value)} {ty t t' el : TypeId} {w : World} {K : Value → World → Prop} {x y : Operand} {A : Option Addr} {n c : Nat}
theorem ow_eqlN2 (ht : P.underlying t = some (.slice el)) (hx : evO e x = some (.slice A n c)) (hy : evO e y = some (.slice none 0 0)) (h1 : A = none → K (.bool true) w) (h2 : A ≠ none → K (.bool false) w) : OpWp P e (.binOp .eql t x y t') ty w K := fun ρ d p a g hρ => by
  have g1 := hρ _ _ hx; have g2 := hρ _ _ hy
  have h3 := run_equalN (P := P) (w := w) (A := A) (n := n) (c := c) ht
  simp only [execOp, g1, g2, eqGuard, binOp]
  cases A with
  | none => simp [h3, upto]; exact h1 rfl
  | some a => simp [h3, upto]; exact h2 (by simp)
end
/-- a row at no address has no elements -/
theorem Sl.none_nil {α : Type} {enc : α → List Value} {s B : Nat} {w : World} {xs : List α} (h : Sl B w none (xs.flatMap enc)) (he : ∀ x, (enc x).length = s) (h0 : 0 < s) : xs = [] := by
  cases xs with
  | nil => rfl
  | cons x r =>
    exfalso
    have h1 := he x
    cases hx : enc x with
    | nil => rw [hx] at h1; simp at h1; omega
    | cons v vs =>
      have h2 := (h.2 0 v (by simp [hx])).1
      simp at h2
theorem Own.pre {w : World} {lo n c s h : Nat} {t : TypeId} {A : Option Addr} {cs : List Value} (o : Own w lo t s A n c cs) (hh : h ≤ n) : Own w lo t s A h c (cs.take (h * s)) := by
  have hl : (cs.take (h * s)).length = h * s := by
    rw [List.length_take, o.1]
    exact Nat.min_eq_left (Nat.mul_le_mul_right s hh)
  refine ⟨hl, ?_⟩
  rcases o.2 with ⟨h1, h2⟩ | ⟨g, cap, cur, hv, hlo, hg, hnc, hm, hs, hc⟩
  · simp only [Value.slice.injEq] at h1
    obtain ⟨rfl, h3, rfl⟩ := h1
    left
    have h4 : h = 0 := by omega
    subst h4
    exact ⟨rfl, rfl⟩
  · simp only [Value.slice.injEq] at hv
    obtain ⟨rfl, _, rfl⟩ := hv
    right
    refine ⟨g, c, cur, rfl, hlo, hg, by omega, hm, hs, ?_⟩
    rw [← hc, List.take_take, Nat.min_eq_left (Nat.mul_le_mul_right s hh)]
section
variable {P : Program} {n : Nat} {fn : Func} {R : Value → World → Prop} {e : List (Nat × Value)} {w : World}
end
section
variable {P : Program} {e : List (Nat × Value)} {ty t t' : TypeId} {w : World} {K : Value → World → Prop} {x y : Operand} {a : Array Value}
theorem ow_neqA (hx : evO e x = some (.agg a)) (hy : evO e y = some (.agg a)) (hm : P.eqGuardType P.depth t = false) (he : ∀ w, (Op.equalIn 10000 t (.agg a) (.agg a)).run P w = .ok true w) (h : K (.bool false) w) : OpWp P e (.binOp .neq t x y t') ty w K := fun ρ d p af g hρ => by
  have g1 := hρ _ _ hx; have g2 := hρ _ _ hy
  have h3 := run_eqGuard_agg (P := P) w .neq t x y a a hm
  have h4 := run_neq_struct (P := P) w t a a
  rw [he] at h4
  simp only [execOp, g1, g2, Sem.run_bind, h3, Result.andThen_ok, h4, Bool.not_true]
  simpa [upto] using h
theorem ow_eqlA (hx : evO e x = some (.agg a)) (hy : evO e y = some (.agg a)) (hm : P.eqGuardType P.depth t = false) (he : ∀ w, (Op.equalIn 10000 t (.agg a) (.agg a)).run P w = .ok true w) (h : K (.bool true) w) : OpWp P e (.binOp .eql t x y t') ty w K := fun ρ d p af g hρ => by
  have g1 := hρ _ _ hx; have g2 := hρ _ _ hy
  have h3 := run_eqGuard_agg (P := P) w .eql t x y a a hm
  have h4 := run_eql_struct (P := P) w t a a
  rw [he] at h4
  simp only [execOp, g1, g2, Sem.run_bind, h3, Result.andThen_ok, h4]
  simpa [upto] using h
end
section
variable {P : Program} {e : List (Nat × Value)} {w : World} {K : Value → World → Prop} {ty t el : TypeId} {x hi : Operand} {s n c h : Nat} {A : Option Addr} {k2 : IntKind} {m2 : Int}
theorem ow_sliceHO (ht : elO P t = some (el, s)) (hx : evO e x = some (.slice A n c)) (h2 : evO e hi = some (.int k2 m2)) (e2 : m2 = (h : Int))
    (hc : h ≤ c) (hK : K (.slice A h c) w) : OpWp P e (.slice t x none (some hi) none) ty w K := fun ρ d p a g hρ => by
  have g0 := hρ _ _ hx; have g2 := hρ _ _ h2
  obtain ⟨hu, hsz⟩ := elem_of ht
  subst e2
  have hr := run_slice_h (P := P) (w := w) t A n c hu k2 (h : Int) (by omega) (by omega)
  simp only [execOp, g0, Option.map_some, Option.map_none, g2, Sem.run_bind, run_sliceAt_slice w t _ _ _ _ hu, hr, hsz, Result.andThen_ok, Sem.run_pure, upto, sliced, Int.toNat_natCast]
  have e1 : (if c = 0 then A else A.map (·.add (0 * s))) = A := by split <;> simp [map_add0]
  simpa [map_add0] using hK
end
end Go.Proofs.Ytdoibplhbdkapaa
namespace Go.Proofs.Ytdoibplhbdkapaa
open Go.RowKit
set_option linter.unusedVariables false
set_option linter.unusedSimpArgs false
section
variable {P : Program} {e : List (Nat × Value)} {ty : TypeId} {w : World} {K : Value → World → Prop} {x y : Operand} {t tn el : TypeId} {s b : Nat} {z : List Value} {a : Bool}
theorem ow_cap {A : Option Addr} {l c : Nat} (ht : P.underlying t = some (.slice el)) (hx : evO e x = some (.slice A l c)) (h : K (.int .i64 c) w) : OpWp P e (.call ⟨.builtin .cap, #[x], #[t]⟩) ty w K := fun ρ d p a g hρ => by
  have h1 := hρ _ _ hx
  simp [execOp, resolve, invoke, builtin, h1, Builtin.cap_, run_underlying ht, upto, goInt]; exact h
end
end Go.Proofs.Ytdoibplhbdkapaa
namespace Go.Proofs.Ytdoibplhbdkapaa
open Go.RowKit
set_option linter.unusedVariables false
set_option linter.unusedSimpArgs false
section
variable {P : Program} {e : List (Nat × Value)} {ty : TypeId} {w : World} {K : Value → World → Prop} {x y lo hi : Operand} {t el : TypeId} {s b : Nat} {z : List Value} {a : Bool}
theorem ow_sliceLG {g n c l : Nat} {k1 : IntKind} {m1 : Int} (ht : elO P t = some (el, s)) (hx : evO e x = some (.slice (some ⟨g, 0, none⟩) n c)) (h1 : evO e lo = some (.int k1 m1)) (e1 : m1 = (l : Int))
    (hl : l < n) (hc : n ≤ c) (hK : K (.slice (some ⟨g, l * s, none⟩) (n - l) (c - l)) w) : OpWp P e (.slice t x (some lo) none none) ty w K := fun ρ d p af gd hρ => by
  have g0 := hρ _ _ hx; have g1 := hρ _ _ h1
  obtain ⟨hu, hsz⟩ := elem_of ht
  subst e1
  have hr := run_slice_l (P := P) (w := w) t (some ⟨g, 0, none⟩) n c hu k1 (l : Int) (by omega) (by omega)
  simp only [execOp, g0, Option.map_some, Option.map_none, g1, Sem.run_bind, run_sliceAt_slice w t _ _ _ _ hu, hr, hsz, Result.andThen_ok, Sem.run_pure, upto, sliced, Int.toNat_natCast]
  rw [if_neg (by omega), add_blk, Nat.zero_add]
  exact hK
end
end Go.Proofs.Ytdoibplhbdkapaa
