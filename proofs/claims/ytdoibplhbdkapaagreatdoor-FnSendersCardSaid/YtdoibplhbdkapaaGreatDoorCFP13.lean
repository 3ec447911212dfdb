/- Texts of the seat that a law needs, put together. No condition. -/
import Derived.Test.YtdoibplhbdkapaaGreatDoorCFP12
import Derived.Test.YtdoibplhbdkapaaGreatDoorCFP6
import Derived.Test.YtdoibplhbdkapaaGreatDoorCFP3
namespace Go.Proofs.YtdoibplhbdkapaaGreatDoor
open Go.RowKit
set_option linter.unusedVariables false
set_option linter.unusedSimpArgs false
set_option maxRecDepth 20000
theorem l12Find_c (A : Option Addr) (B c : Nat) (xs : List SlotI) (m r s : Int) (w : World) (hs : Sl B w A (xs.flatMap SlotI.cells)) (hl : xs.length ≤ 1048576) :
    Calls Tryz.prog 107 #[.slice A xs.length c, .int .i64 m, .int .i64 r, .int .i64 s] w (Ret fun v w' => v = .int .i64 (findS (hitS m r s) 0 xs) ∧ Ext w w') := by
  have Bhs := hs.1
  have X := Ext.refl w
  refine calls_of (args := [.slice A xs.length c, .int .i64 m, .int .i64 r, .int .i64 s]) Tryz.func107 Tryz.ntmps107 rfl rfl ?_
  refine c_seqR ?_
  refine ops_cons rfl (ow_assign rfl ?_)
  refine ops_nil ?_
  refine c_seq ?_
  refine c_seqR ?_
  refine ops_cons rfl (ow_assign rfl ?_)
  refine ops_nil ?_
  refine c_block ?_
  refine c_loop (G := Nat) (fun k => [(0, .slice A xs.length c), (1, .int .i64 m), (2, .int .i64 r), (3, .int .i64 s), (9, .int .i64 (k : Nat))]) (fun k wr => k ≤ xs.length ∧ (findS (hitS m r s) 0 xs) = findS (hitS m r s) (k : Int) (xs.drop k) ∧ Sl B wr A (xs.flatMap SlotI.cells) ∧ Ext w wr) (fun k => xs.length - k) 0 (.cons rfl (.cons rfl (.cons rfl (.cons rfl (.cons rfl (.nil _)))))) ?_ ?_
  · exact ⟨by omega, rfl, hs, X⟩
  clear hs
  clear X
  rintro k wr ⟨hk0, hi, hs, X⟩
  refine c_seq ?_
  refine c_seqR ?_
  refine ops_cons rfl (ow_move rfl ?_)
  refine ops_cons rfl (ow_move rfl ?_)
  refine ops_cons rfl (ow_len Tryz.underlying26 rfl ?_)
  refine ops_cons rfl (ow_lss2 rfl rfl (fun hk => ?_) (fun hk => ?_))
  obtain ⟨x, hx, dx⟩ := drop_at' hk
  refine ops_nil ?_
  refine c_true rfl ?_
  refine c_skip ?_
  refine tq_n ?_
  refine c_seq ?_
  refine c_block ?_
  refine c_seqR ?_
  refine ops_cons rfl (ow_move rfl ?_)
  refine ops_cons rfl (ow_move rfl ?_)
  refine ops_cons rfl (ow_indexT hs SlotI.len rfl el26 rfl rfl rfl hx rfl ?_)
  refine ops_cons rfl (ow_fieldAddr off89_0 rfl ?_)
  refine ops_cons rfl (ow_loadTF hs SlotI.len hx ti2 rfl rfl rfl ?_)
  refine ops_cons rfl (ow_move rfl ?_)
  refine ops_cons rfl (ow_eql2 rfl rfl (fun h1 => ?_) (fun h1 => ?_))
  refine ops_cons rfl (ow_move rfl ?_)
  refine ops_want rfl rfl rfl (ow_move rfl ?_)
  refine ops_want rfl rfl rfl (ow_move rfl ?_)
  refine ops_want rfl rfl rfl (ow_indexT hs SlotI.len rfl el26 rfl rfl rfl hx rfl ?_)
  refine ops_want rfl rfl rfl (ow_fieldAddr off89_1 rfl ?_)
  refine ops_want rfl rfl rfl (ow_loadTF hs SlotI.len hx ti2 rfl rfl rfl ?_)
  refine ops_want rfl rfl rfl (ow_move rfl ?_)
  refine ops_want rfl rfl rfl (ow_eql2 rfl rfl (fun h2 => ?_) (fun h2 => ?_))
  refine ops_cons rfl (ow_pick rfl rfl ?_)
  refine ops_cons rfl (ow_move rfl ?_)
  refine ops_want rfl rfl rfl (ow_move rfl ?_)
  refine ops_want rfl rfl rfl (ow_move rfl ?_)
  refine ops_want rfl rfl rfl (ow_indexT hs SlotI.len rfl el26 rfl rfl rfl hx rfl ?_)
  refine ops_want rfl rfl rfl (ow_fieldAddr off89_2 rfl ?_)
  refine ops_want rfl rfl rfl (ow_loadTF hs SlotI.len hx ti2 rfl rfl rfl ?_)
  refine ops_want rfl rfl rfl (ow_move rfl ?_)
  refine ops_want rfl rfl rfl (ow_eql2 rfl rfl (fun h3 => ?_) (fun h3 => ?_))
  refine ops_cons rfl (ow_pick rfl rfl ?_)
  refine ops_nil ?_
  refine c_true rfl ?_
  refine c_seqR ?_
  refine ops_cons rfl (ow_move rfl ?_)
  refine ops_cons rfl (ow_assign rfl ?_)
  refine ops_nil ?_
  refine c_ret ?_
  refine bq_r ?_
  refine tq_r ?_
  refine tq_r ?_
  refine bq_r ?_
  refine tq_r ?_
  refine fin_ret1 rfl rfl ?_
  · skip
    refine ⟨congrArg (Value.int .i64) ?_, X⟩
    first
    | (rw [hi, drop_end hk]; rfl)
    | (rw [hi, dx, findS, if_pos (by simp [hitS, *])])
  refine ops_cons rfl (ow_pick rfl rfl ?_)
  refine ops_nil ?_
  refine c_false rfl ?_
  refine c_skip ?_
  refine bq_n ?_
  refine tq_n ?_
  refine c_region ?_
  refine ops_cons rfl (ow_move rfl ?_)
  refine ops_cons rfl (ow_add rfl rfl (w64 (by omega)) ?_)
  refine ops_cons rfl (ow_assign rfl ?_)
  refine ops_nil ?_
  refine tq_n ⟨k + 1, (.cons rfl (.cons rfl (.cons rfl (.cons rfl (.cons rfl (.nil _)))))), ?_, ?_⟩
  · exact ⟨by omega, (by rw [hi, dx, findS, if_neg (by simp [hitS, *])]; rfl), hs, X⟩
  · first | omega | (dsimp only; omega)
  refine ops_cons rfl (ow_pick rfl rfl ?_)
  refine ops_cons rfl (ow_move rfl ?_)
  refine ops_skip rfl rfl rfl rfl ?_
  refine ops_skip rfl rfl rfl rfl ?_
  refine ops_skip rfl rfl rfl rfl ?_
  refine ops_skip rfl rfl rfl rfl ?_
  refine ops_skip rfl rfl rfl rfl ?_
  refine ops_skip rfl rfl rfl rfl ?_
  refine ops_skip rfl rfl rfl rfl ?_
  refine ops_cons rfl (ow_pick rfl rfl ?_)
  refine ops_nil ?_
  refine c_false rfl ?_
  refine c_skip ?_
  refine bq_n ?_
  refine tq_n ?_
  refine c_region ?_
  refine ops_cons rfl (ow_move rfl ?_)
  refine ops_cons rfl (ow_add rfl rfl (w64 (by omega)) ?_)
  refine ops_cons rfl (ow_assign rfl ?_)
  refine ops_nil ?_
  refine tq_n ⟨k + 1, (.cons rfl (.cons rfl (.cons rfl (.cons rfl (.cons rfl (.nil _)))))), ?_, ?_⟩
  · exact ⟨by omega, (by rw [hi, dx, findS, if_neg (by simp [hitS, *])]; rfl), hs, X⟩
  · first | omega | (dsimp only; omega)
  refine ops_cons rfl (ow_move rfl ?_)
  refine ops_skip rfl rfl rfl rfl ?_
  refine ops_skip rfl rfl rfl rfl ?_
  refine ops_skip rfl rfl rfl rfl ?_
  refine ops_skip rfl rfl rfl rfl ?_
  refine ops_skip rfl rfl rfl rfl ?_
  refine ops_skip rfl rfl rfl rfl ?_
  refine ops_skip rfl rfl rfl rfl ?_
  refine ops_cons rfl (ow_pick rfl rfl ?_)
  refine ops_cons rfl (ow_move rfl ?_)
  refine ops_skip rfl rfl rfl rfl ?_
  refine ops_skip rfl rfl rfl rfl ?_
  refine ops_skip rfl rfl rfl rfl ?_
  refine ops_skip rfl rfl rfl rfl ?_
  refine ops_skip rfl rfl rfl rfl ?_
  refine ops_skip rfl rfl rfl rfl ?_
  refine ops_skip rfl rfl rfl rfl ?_
  refine ops_cons rfl (ow_pick rfl rfl ?_)
  refine ops_nil ?_
  refine c_false rfl ?_
  refine c_skip ?_
  refine bq_n ?_
  refine tq_n ?_
  refine c_region ?_
  refine ops_cons rfl (ow_move rfl ?_)
  refine ops_cons rfl (ow_add rfl rfl (w64 (by omega)) ?_)
  refine ops_cons rfl (ow_assign rfl ?_)
  refine ops_nil ?_
  refine tq_n ⟨k + 1, (.cons rfl (.cons rfl (.cons rfl (.cons rfl (.cons rfl (.nil _)))))), ?_, ?_⟩
  · exact ⟨by omega, (by rw [hi, dx, findS, if_neg (by simp [hitS, *])]; rfl), hs, X⟩
  · first | omega | (dsimp only; omega)
  refine ops_nil ?_
  refine c_false rfl ?_
  refine c_exit ?_
  refine tq_e ?_
  refine tq_e ?_
  refine bq_e ?_
  refine tq_n ?_
  refine c_seqR ?_
  refine ops_cons rfl (ow_assign rfl ?_)
  refine ops_nil ?_
  refine c_ret ?_
  refine fin_ret1 rfl rfl ?_
  · skip
    refine ⟨congrArg (Value.int .i64) ?_, X⟩
    first
    | (rw [hi, drop_end hk]; rfl)
    | (rw [hi, dx, findS, if_pos (by simp [hitS, *])])

theorem findSlot1_c (x : SlotI) (g1 g2 g3 : Nat) (m r s : Int) (w : World) (q1 : Blk w g1 2 [.int .i64 m]) (q2 : Blk w g2 2 [.int .i64 r]) (q3 : Blk w g3 2 [.int .i64 s]) :
    Calls Tryz.prog 191 #[.agg x.cells.toArray, .pointer (some ⟨g1, 0, none⟩), .pointer (some ⟨g2, 0, none⟩), .pointer (some ⟨g3, 0, none⟩)] w (Ret fun v w' => v = .bool (hitS m r s x) ∧ Ext w w') := by
  have X := Ext.refl w
  refine calls_of (args := [.agg x.cells.toArray, .pointer (some ⟨g1, 0, none⟩), .pointer (some ⟨g2, 0, none⟩), .pointer (some ⟨g3, 0, none⟩)]) Tryz.func191 Tryz.ntmps191 rfl rfl ?_
  refine c_seqR ?_
  refine ops_cons rfl (ow_box rfl rfl ?_)
  intro g4 w3 eg4 b1 x2 zg4
  have lg4 : w.heap.size ≤ g4 := Nat.le_trans X.size (Nat.le_of_eq eg4.symm)
  have ng4q1 := Nat.lt_of_lt_of_eq q1.lt eg4.symm
  have ng4q2 := Nat.lt_of_lt_of_eq q2.lt eg4.symm
  have ng4q3 := Nat.lt_of_lt_of_eq q3.lt eg4.symm
  replace q1 := q1.ext x2
  replace q2 := q2.ext x2
  replace q3 := q3.ext x2
  replace X := Ext.trans X x2; clear x2
  refine ops_cons rfl (ow_assign rfl ?_)
  refine ops_nil ?_
  refine c_seqR ?_
  refine ops_cons rfl (ow_fieldAddrB off89_0 rfl rfl ?_)
  refine ops_cons rfl (ow_loadB b1 ti2 rfl rfl ?_)
  refine ops_cons rfl (ow_loadB q1 ti2 rfl rfl ?_)
  refine ops_cons rfl (ow_eql2 rfl rfl (fun h5 => ?_) (fun h5 => ?_))
  refine ops_cons rfl (ow_move rfl ?_)
  refine ops_want rfl rfl rfl (ow_fieldAddrB off89_1 rfl rfl ?_)
  refine ops_want rfl rfl rfl (ow_loadB b1 ti2 rfl rfl ?_)
  refine ops_want rfl rfl rfl (ow_loadB q2 ti2 rfl rfl ?_)
  refine ops_want rfl rfl rfl (ow_eql2 rfl rfl (fun h6 => ?_) (fun h6 => ?_))
  refine ops_cons rfl (ow_pick rfl rfl ?_)
  refine ops_cons rfl (ow_move rfl ?_)
  refine ops_want rfl rfl rfl (ow_fieldAddrB off89_2 rfl rfl ?_)
  refine ops_want rfl rfl rfl (ow_loadB b1 ti2 rfl rfl ?_)
  refine ops_want rfl rfl rfl (ow_loadB q3 ti2 rfl rfl ?_)
  refine ops_want rfl rfl rfl (ow_eql rfl rfl ?_)
  refine ops_cons rfl (ow_pick rfl rfl ?_)
  refine ops_cons rfl (ow_assign rfl ?_)
  refine ops_nil ?_
  refine c_ret ?_
  refine fin_ret1 rfl rfl ?_
  exact ⟨by simp [hitS, *], X⟩
  refine ops_cons rfl (ow_pick rfl rfl ?_)
  refine ops_cons rfl (ow_move rfl ?_)
  refine ops_skip rfl rfl rfl rfl ?_
  refine ops_skip rfl rfl rfl rfl ?_
  refine ops_skip rfl rfl rfl rfl ?_
  refine ops_skip rfl rfl rfl rfl ?_
  refine ops_cons rfl (ow_pick rfl rfl ?_)
  refine ops_cons rfl (ow_assign rfl ?_)
  refine ops_nil ?_
  refine c_ret ?_
  refine fin_ret1 rfl rfl ?_
  exact ⟨by simp [hitS, *], X⟩
  refine ops_cons rfl (ow_move rfl ?_)
  refine ops_skip rfl rfl rfl rfl ?_
  refine ops_skip rfl rfl rfl rfl ?_
  refine ops_skip rfl rfl rfl rfl ?_
  refine ops_skip rfl rfl rfl rfl ?_
  refine ops_cons rfl (ow_pick rfl rfl ?_)
  refine ops_cons rfl (ow_move rfl ?_)
  refine ops_skip rfl rfl rfl rfl ?_
  refine ops_skip rfl rfl rfl rfl ?_
  refine ops_skip rfl rfl rfl rfl ?_
  refine ops_skip rfl rfl rfl rfl ?_
  refine ops_cons rfl (ow_pick rfl rfl ?_)
  refine ops_cons rfl (ow_assign rfl ?_)
  refine ops_nil ?_
  refine c_ret ?_
  refine fin_ret1 rfl rfl ?_
  exact ⟨by simp [hitS, *], X⟩

theorem indexFunc_c (A : Option Addr) (B c : Nat) (xs : List SlotI) (g1 g2 g3 : Nat) (m r s : Int) (w : World) (hs : Sl B w A (xs.flatMap SlotI.cells)) (q1 : Blk w g1 2 [.int .i64 m]) (q2 : Blk w g2 2 [.int .i64 r]) (q3 : Blk w g3 2 [.int .i64 s]) (hl : xs.length ≤ 1048576) :
    Calls Tryz.prog 190 #[.slice A xs.length c, .func (.func 191) #[] #[.pointer (some ⟨g1, 0, none⟩), .pointer (some ⟨g2, 0, none⟩), .pointer (some ⟨g3, 0, none⟩)]] w (Ret fun v w' => v = .int .i64 (findS (hitS m r s) 0 xs) ∧ Ext w w') := by
  have Bhs := hs.1
  have X := Ext.refl w
  refine calls_of (args := [.slice A xs.length c, .func (.func 191) #[] #[.pointer (some ⟨g1, 0, none⟩), .pointer (some ⟨g2, 0, none⟩), .pointer (some ⟨g3, 0, none⟩)]]) Tryz.func190 Tryz.ntmps190 rfl rfl ?_
  refine c_seqR ?_
  refine ops_cons rfl (ow_assign rfl ?_)
  refine ops_nil ?_
  refine c_seq ?_
  refine c_seqR ?_
  refine ops_cons rfl (ow_move rfl ?_)
  refine ops_cons rfl (ow_len Tryz.underlying26 rfl ?_)
  refine ops_cons rfl (ow_move rfl ?_)
  refine ops_nil ?_
  refine c_block ?_
  refine c_loop (G := Nat) (fun k => [(0, .slice A xs.length c), (1, .func (.func 191) #[] #[.pointer (some ⟨g1, 0, none⟩), .pointer (some ⟨g2, 0, none⟩), .pointer (some ⟨g3, 0, none⟩)]), (7, .int .i64 (xs.length : Nat)), (8, .int .i64 (k : Nat))]) (fun k wr => k ≤ xs.length ∧ (findS (hitS m r s) 0 xs) = findS (hitS m r s) (k : Int) (xs.drop k) ∧ Sl B wr A (xs.flatMap SlotI.cells) ∧ Blk wr g1 2 [.int .i64 m] ∧ Blk wr g2 2 [.int .i64 r] ∧ Blk wr g3 2 [.int .i64 s] ∧ Ext w wr) (fun k => xs.length - k) 0 (.cons rfl (.cons rfl (.cons rfl (.cons rfl (.nil _))))) ?_ ?_
  · exact ⟨by omega, rfl, hs, q1, q2, q3, X⟩
  clear hs q1 q2 q3
  clear X
  rintro k wr ⟨hk0, hi, hs, q1, q2, q3, X⟩
  refine c_seqR ?_
  refine ops_cons rfl (ow_lss2 rfl rfl (fun hk => ?_) (fun hk => ?_))
  obtain ⟨x, hx, dx⟩ := drop_at' hk
  refine ops_nil ?_
  refine c_seq ?_
  refine c_true rfl ?_
  refine c_skip ?_
  refine tq_n ?_
  refine c_seq ?_
  refine c_block ?_
  refine c_seqR ?_
  refine ops_cons rfl (ow_move rfl ?_)
  refine ops_cons rfl (ow_assign rfl ?_)
  refine ops_nil ?_
  refine c_seqR ?_
  refine ops_cons rfl (ow_move rfl ?_)
  refine ops_cons rfl (ow_move rfl ?_)
  refine ops_cons rfl (ow_move rfl ?_)
  refine ops_cons rfl (ow_indexT hs SlotI.len rfl el26 rfl rfl rfl hx rfl ?_)
  refine ops_cons rfl (ow_loadTA hs SlotI.len hx ti89 rfl ?_)
  refine ops_cons rfl (ow_callVLB ent191 rfl rfl (findSlot1_c _ _ _ _ _ _ _ _ q1 q2 q3) (fun w3 h1 x2 => ?_) (fun w3 h1 x2 => ?_))
  replace hs := hs.ext x2
  replace q1 := q1.ext x2
  replace q2 := q2.ext x2
  replace q3 := q3.ext x2
  replace X := Ext.trans X x2; clear x2
  refine ops_nil ?_
  refine c_true rfl ?_
  refine c_seqR ?_
  refine ops_cons rfl (ow_move rfl ?_)
  refine ops_cons rfl (ow_assign rfl ?_)
  refine ops_nil ?_
  refine c_ret ?_
  refine bq_r ?_
  refine tq_r ?_
  refine tq_r ?_
  refine bq_r ?_
  refine tq_r ?_
  refine fin_ret1 rfl rfl ?_
  · skip
    refine ⟨congrArg (Value.int .i64) ?_, X⟩
    first
    | (rw [hi, drop_end hk]; rfl)
    | (rw [hi, dx, findS, if_pos (by simp [*])])
  replace hs := hs.ext x2
  replace q1 := q1.ext x2
  replace q2 := q2.ext x2
  replace q3 := q3.ext x2
  replace X := Ext.trans X x2; clear x2
  refine ops_nil ?_
  refine c_false rfl ?_
  refine c_skip ?_
  refine bq_n ?_
  refine tq_n ?_
  refine c_region ?_
  refine ops_cons rfl (ow_add rfl rfl (w64 (by omega)) ?_)
  refine ops_cons rfl (ow_move rfl ?_)
  refine ops_nil ?_
  refine tq_n ⟨k + 1, (.cons rfl (.cons rfl (.cons rfl (.cons rfl (.nil _))))), ?_, ?_⟩
  · exact ⟨by omega, (by rw [hi, dx, findS, if_neg (by simp [*])]; rfl), hs, q1, q2, q3, X⟩
  · first | omega | (dsimp only; omega)
  refine ops_nil ?_
  refine c_seq ?_
  refine c_false rfl ?_
  refine c_exit ?_
  refine tq_e ?_
  refine tq_e ?_
  refine bq_e ?_
  refine tq_n ?_
  refine c_seqR ?_
  refine ops_cons rfl (ow_assign rfl ?_)
  refine ops_nil ?_
  refine c_ret ?_
  refine fin_ret1 rfl rfl ?_
  · skip
    refine ⟨congrArg (Value.int .i64) ?_, X⟩
    first
    | (rw [hi, drop_end hk]; rfl)
    | (rw [hi, dx, findS, if_pos (by simp [*])])

theorem findSlot_c (A : Option Addr) (B c : Nat) (xs : List SlotI) (m r s : Int) (w : World) (hs : Sl B w A (xs.flatMap SlotI.cells)) (hl : xs.length ≤ 1048576) :
    Calls Tryz.prog 106 #[.slice A xs.length c, .int .i64 m, .int .i64 r, .int .i64 s] w (Ret fun v w' => v = .int .i64 (findS (hitS m r s) 0 xs) ∧ Ext w w') := by
  have Bhs := hs.1
  have X := Ext.refl w
  refine calls_of (args := [.slice A xs.length c, .int .i64 m, .int .i64 r, .int .i64 s]) Tryz.func106 Tryz.ntmps106 rfl rfl ?_
  refine c_seqR ?_
  refine ops_cons rfl (ow_box rfl rfl ?_)
  intro g4 w3 eg4 b1 x2 zg4
  have lg4 : w.heap.size ≤ g4 := Nat.le_trans X.size (Nat.le_of_eq eg4.symm)
  have pg4hs := Nat.le_trans hs.1 (Nat.le_of_eq eg4.symm)
  replace hs := hs.ext x2
  replace X := Ext.trans X x2; clear x2
  refine ops_cons rfl (ow_box rfl rfl ?_)
  intro g8 w7 eg8 b5 x6 zg8
  have lg8 : w.heap.size ≤ g8 := Nat.le_trans X.size (Nat.le_of_eq eg8.symm)
  have pg8hs := Nat.le_trans hs.1 (Nat.le_of_eq eg8.symm)
  have ng8b1 := Nat.lt_of_lt_of_eq b1.lt eg8.symm
  replace hs := hs.ext x6
  replace b1 := b1.ext x6
  replace X := Ext.trans X x6; clear x6
  refine ops_cons rfl (ow_box rfl rfl ?_)
  intro g12 w11 eg12 b9 x10 zg12
  have lg12 : w.heap.size ≤ g12 := Nat.le_trans X.size (Nat.le_of_eq eg12.symm)
  have pg12hs := Nat.le_trans hs.1 (Nat.le_of_eq eg12.symm)
  have ng12b1 := Nat.lt_of_lt_of_eq b1.lt eg12.symm
  have ng12b5 := Nat.lt_of_lt_of_eq b5.lt eg12.symm
  replace hs := hs.ext x10
  replace b1 := b1.ext x10
  replace b5 := b5.ext x10
  replace X := Ext.trans X x10; clear x10
  refine ops_cons rfl (ow_assign rfl ?_)
  refine ops_nil ?_
  refine c_seqR ?_
  refine ops_cons rfl (ow_move rfl ?_)
  refine ops_cons rfl (ow_makeFunc rfl ?_)
  refine ops_cons rfl (ow_call ent190 rfl (ret_mono (indexFunc_c _ _ _ _ _ _ _ _ _ _ _ hs b1 b5 b9 hl) ?_))
  rintro _ w14 ⟨rfl, x13⟩
  replace hs := hs.ext x13
  replace b1 := b1.ext x13
  replace b5 := b5.ext x13
  replace b9 := b9.ext x13
  replace X := Ext.trans X x13; clear x13
  refine ops_cons rfl (ow_assign rfl ?_)
  refine ops_nil ?_
  refine c_ret ?_
  refine fin_ret1 rfl rfl ?_
  exact ⟨by rfl, X⟩
end Go.Proofs.YtdoibplhbdkapaaGreatDoor
namespace Go.Proofs.YtdoibplhbdkapaaGreatDoor
open Go.RowKit
set_option linter.unusedVariables false
set_option linter.unusedSimpArgs false
set_option maxRecDepth 20000
theorem l01Rises_c (A : Option Addr) (B c : Nat) (xs : List Int) (n : Int) (w : World) (hs : Sl B w A (xs.flatMap eI)) (hl : xs.length ≤ 1048576) (hn : 0 ≤ n ∧ n ≤ 1048576) :
    Calls Tryz.prog 259 #[.slice A xs.length c, .int .i64 n] w (Ret fun v w' => v = .bool (risesB xs n) ∧ Ext w w') := by
  have Bhs := hs.1
  have X := Ext.refl w
  refine calls_of (args := [.slice A xs.length c, .int .i64 n]) Tryz.func259 Tryz.ntmps259 rfl rfl ?_
  refine c_seqR ?_
  refine ops_cons rfl (ow_assign rfl ?_)
  refine ops_nil ?_
  refine c_seq ?_
  refine c_seqR ?_
  refine ops_cons rfl (ow_assign rfl ?_)
  refine ops_nil ?_
  refine c_block ?_
  refine c_loop (G := Nat) (fun k => [(0, .slice A xs.length c), (1, .int .i64 n), (5, .int .i64 (k : Nat))]) (fun k wr => k ≤ xs.length ∧ risesFrom n none xs = risesFrom n (prevG xs k) (xs.drop k) ∧ Sl B wr A (xs.flatMap eI) ∧ Ext w wr) (fun k => xs.length - k) 0 (.cons rfl (.cons rfl (.cons rfl (.nil _)))) ?_ ?_
  · exact ⟨by omega, rfl, hs, X⟩
  clear hs
  clear X
  rintro k wr ⟨hk0, hi, hs, X⟩
  refine c_seq ?_
  refine c_seqR ?_
  refine ops_cons rfl (ow_move rfl ?_)
  refine ops_cons rfl (ow_move rfl ?_)
  refine ops_cons rfl (ow_len Tryz.underlying30 rfl ?_)
  refine ops_cons rfl (ow_lss2 rfl rfl (fun hk => ?_) (fun hk => ?_))
  obtain ⟨x, hx, dx⟩ := drop_at' hk
  refine ops_nil ?_
  refine c_true rfl ?_
  refine c_skip ?_
  refine tq_n ?_
  refine c_seq ?_
  refine c_block ?_
  refine c_seqD [false, false, false, false, false, false, false, false, false, false, false, false, false, false, false, false, false, false, false, false, false, false, false, false] mixed (by kernel_rfl) ?_
  refine f_q rfl (fun wq sq => ow_move rfl ⟨rfl, Ext.refl _⟩) ?_
  refine f_q rfl (fun wq sq => ow_move rfl ⟨rfl, Ext.refl _⟩) ?_
  refine f_q rfl (fun wq sq => ow_indexT (hs.ext sq) eI_len rfl el30 rfl rfl rfl hx rfl ⟨rfl, Ext.refl _⟩) ?_
  refine f_q rfl (fun wq sq => ow_loadT (hs.ext sq) eI_len hx ti2 rfl rfl rfl ⟨rfl, Ext.refl _⟩) ?_
  refine f_q rfl (fun wq sq => ow_move rfl ⟨rfl, Ext.refl _⟩) ?_
  refine f_q rfl (fun wq sq => ow_sub rfl rfl (w64 (by omega)) ⟨rfl, Ext.refl _⟩) ?_
  refine f_qB rfl (fun wq sq => ow_call ent111 rfl (l01In_c _ _ _ _)) (fun h1 => ?_) (fun h1 => ?_)
  refine f_q rfl (fun wq sq => ow_not rfl ⟨rfl, Ext.refl _⟩) ?_
  refine f_q rfl (fun wq sq => ow_move rfl ⟨rfl, Ext.refl _⟩) ?_
  refine f_qw rfl rfl rfl (fun wq sq => ow_move rfl ⟨rfl, Ext.refl _⟩) ?_
  refine f_qwb rfl rfl rfl (fun wq sq => ow_gtr rfl rfl ⟨rfl, Ext.refl _⟩) (fun hp => ?_) (fun hp => ?_)
  obtain ⟨y, hy⟩ : ∃ y, xs[k - 1]? = some y := ⟨_, List.getElem?_eq_getElem (by omega)⟩
  refine f_qw rfl rfl rfl (fun wq sq => ow_move rfl ⟨rfl, Ext.refl _⟩) ?_
  refine f_qw rfl rfl rfl (fun wq sq => ow_move rfl ⟨rfl, Ext.refl _⟩) ?_
  refine f_qw rfl rfl rfl (fun wq sq => ow_move rfl ⟨rfl, Ext.refl _⟩) ?_
  refine f_qw rfl rfl rfl (fun wq sq => ow_indexT (hs.ext sq) eI_len rfl el30 rfl rfl rfl hx rfl ⟨rfl, Ext.refl _⟩) ?_
  refine f_qw rfl rfl rfl (fun wq sq => ow_loadT (hs.ext sq) eI_len hx ti2 rfl rfl rfl ⟨rfl, Ext.refl _⟩) ?_
  refine f_qw rfl rfl rfl (fun wq sq => ow_move rfl ⟨rfl, Ext.refl _⟩) ?_
  refine f_qw rfl rfl rfl (fun wq sq => ow_move rfl ⟨rfl, Ext.refl _⟩) ?_
  refine f_qw rfl rfl rfl (fun wq sq => ow_sub rfl rfl (w64 (by omega)) ⟨rfl, Ext.refl _⟩) ?_
  refine f_qw rfl rfl rfl (fun wq sq => ow_indexT (hs.ext sq) eI_len rfl el30 rfl rfl rfl hy (by omega) ⟨rfl, Ext.refl _⟩) ?_
  refine f_qw rfl rfl rfl (fun wq sq => ow_loadT (hs.ext sq) eI_len hy ti2 rfl rfl rfl ⟨rfl, Ext.refl _⟩) ?_
  refine f_qwb rfl rfl rfl (fun wq sq => ow_leq rfl rfl ⟨rfl, Ext.refl _⟩) (fun h4 => ?_) (fun h4 => ?_)
  refine f_qw rfl rfl rfl (fun wq sq => ow_pick rfl rfl ⟨rfl, Ext.refl _⟩) ?_
  refine f_q rfl (fun wq sq => ow_pick rfl rfl ⟨rfl, Ext.refl _⟩) ?_
  refine f_nil (fun w5 sq => ?_)
  have xq := sq
  replace hs := hs.ext xq
  replace X := Ext.trans X xq; clear xq sq
  refine ops_nil ?_
  refine c_true rfl ?_
  refine c_seqR ?_
  refine ops_cons rfl (ow_assign rfl ?_)
  refine ops_nil ?_
  refine c_ret ?_
  refine bq_r ?_
  refine tq_r ?_
  refine tq_r ?_
  refine bq_r ?_
  refine tq_r ?_
  refine fin_ret1 rfl rfl ?_
  · skip
    refine ⟨congrArg Value.bool ?_, X⟩
    first
    | (rw [risesB, hi, drop_end hk, rises_nil])
    | (rw [risesB, hi, dx, rises_bad0 (by assumption)])
    | (rw [risesB, hi, dx, rises_bad0 (by simp [inB]; omega)])
    | (rw [risesB, hi, dx, prevG_pos ‹_› hy, rises_bad1 (by omega)])
  refine f_qw rfl rfl rfl (fun wq sq => ow_pick rfl rfl ⟨rfl, Ext.refl _⟩) ?_
  refine f_q rfl (fun wq sq => ow_pick rfl rfl ⟨rfl, Ext.refl _⟩) ?_
  refine f_nil (fun w6 sq => ?_)
  have xq := sq
  replace hs := hs.ext xq
  replace X := Ext.trans X xq; clear xq sq
  refine ops_nil ?_
  refine c_false rfl ?_
  refine c_skip ?_
  refine bq_n ?_
  refine tq_n ?_
  refine c_region ?_
  refine ops_cons rfl (ow_move rfl ?_)
  refine ops_cons rfl (ow_add rfl rfl (w64 (by omega)) ?_)
  refine ops_cons rfl (ow_assign rfl ?_)
  refine ops_nil ?_
  refine tq_n ⟨k + 1, (.cons rfl (.cons rfl (.cons rfl (.nil _)))), ?_, ?_⟩
  · skip
    exact ⟨by omega, (by
      rw [hi, dx, prevG_succ hx]
      have hB : inB x 0 (n - 1) = true := by first | assumption | (rw [inB_iff]; omega)
      first | rw [prevG_zero ‹_›, rises_ok0 hB] | rw [prevG_pos ‹_› hy, rises_ok1 hB (by omega)]), hs, X⟩
  · first | omega | (dsimp only; omega)
  refine f_qw rfl rfl rfl (fun wq sq => ow_move rfl ⟨rfl, Ext.refl _⟩) ?_
  refine f_qs rfl rfl rfl rfl ?_
  refine f_qs rfl rfl rfl rfl ?_
  refine f_qs rfl rfl rfl rfl ?_
  refine f_qs rfl rfl rfl rfl ?_
  refine f_qs rfl rfl rfl rfl ?_
  refine f_qs rfl rfl rfl rfl ?_
  refine f_qs rfl rfl rfl rfl ?_
  refine f_qs rfl rfl rfl rfl ?_
  refine f_qs rfl rfl rfl rfl ?_
  refine f_qs rfl rfl rfl rfl ?_
  refine f_qw rfl rfl rfl (fun wq sq => ow_pick rfl rfl ⟨rfl, Ext.refl _⟩) ?_
  refine f_q rfl (fun wq sq => ow_pick rfl rfl ⟨rfl, Ext.refl _⟩) ?_
  refine f_nil (fun w7 sq => ?_)
  have xq := sq
  replace hs := hs.ext xq
  replace X := Ext.trans X xq; clear xq sq
  refine ops_nil ?_
  refine c_false rfl ?_
  refine c_skip ?_
  refine bq_n ?_
  refine tq_n ?_
  refine c_region ?_
  refine ops_cons rfl (ow_move rfl ?_)
  refine ops_cons rfl (ow_add rfl rfl (w64 (by omega)) ?_)
  refine ops_cons rfl (ow_assign rfl ?_)
  refine ops_nil ?_
  refine tq_n ⟨k + 1, (.cons rfl (.cons rfl (.cons rfl (.nil _)))), ?_, ?_⟩
  · skip
    exact ⟨by omega, (by
      rw [hi, dx, prevG_succ hx]
      have hB : inB x 0 (n - 1) = true := by first | assumption | (rw [inB_iff]; omega)
      first | rw [prevG_zero ‹_›, rises_ok0 hB] | rw [prevG_pos ‹_› hy, rises_ok1 hB (by omega)]), hs, X⟩
  · first | omega | (dsimp only; omega)
  refine f_q rfl (fun wq sq => ow_not rfl ⟨rfl, Ext.refl _⟩) ?_
  refine f_q rfl (fun wq sq => ow_move rfl ⟨rfl, Ext.refl _⟩) ?_
  refine f_qs rfl rfl rfl rfl ?_
  refine f_qs rfl rfl rfl rfl ?_
  refine f_qs rfl rfl rfl rfl ?_
  refine f_qs rfl rfl rfl rfl ?_
  refine f_qs rfl rfl rfl rfl ?_
  refine f_qs rfl rfl rfl rfl ?_
  refine f_qs rfl rfl rfl rfl ?_
  refine f_qs rfl rfl rfl rfl ?_
  refine f_qs rfl rfl rfl rfl ?_
  refine f_qs rfl rfl rfl rfl ?_
  refine f_qs rfl rfl rfl rfl ?_
  refine f_qs rfl rfl rfl rfl ?_
  refine f_qs rfl rfl rfl rfl ?_
  refine f_qs rfl rfl rfl rfl ?_
  refine f_q rfl (fun wq sq => ow_pick rfl rfl ⟨rfl, Ext.refl _⟩) ?_
  refine f_nil (fun w9 sq => ?_)
  have xq := sq
  replace hs := hs.ext xq
  replace X := Ext.trans X xq; clear xq sq
  refine ops_nil ?_
  refine c_true rfl ?_
  refine c_seqR ?_
  refine ops_cons rfl (ow_assign rfl ?_)
  refine ops_nil ?_
  refine c_ret ?_
  refine bq_r ?_
  refine tq_r ?_
  refine tq_r ?_
  refine bq_r ?_
  refine tq_r ?_
  refine fin_ret1 rfl rfl ?_
  · skip
    refine ⟨congrArg Value.bool ?_, X⟩
    first
    | (rw [risesB, hi, drop_end hk, rises_nil])
    | (rw [risesB, hi, dx, rises_bad0 (by assumption)])
    | (rw [risesB, hi, dx, rises_bad0 (by simp [inB]; omega)])
    | (rw [risesB, hi, dx, prevG_pos ‹_› hy, rises_bad1 (by omega)])
  refine ops_nil ?_
  refine c_false rfl ?_
  refine c_exit ?_
  refine tq_e ?_
  refine tq_e ?_
  refine bq_e ?_
  refine tq_n ?_
  refine c_seqR ?_
  refine ops_cons rfl (ow_assign rfl ?_)
  refine ops_nil ?_
  refine c_ret ?_
  refine fin_ret1 rfl rfl ?_
  · skip
    refine ⟨congrArg Value.bool ?_, X⟩
    first
    | (rw [risesB, hi, drop_end hk, rises_nil])
    | (rw [risesB, hi, dx, rises_bad0 (by assumption)])
    | (rw [risesB, hi, dx, rises_bad0 (by simp [inB]; omega)])
    | (rw [risesB, hi, dx, prevG_pos ‹_› hy, rises_bad1 (by omega)])

theorem isRising_c (A : Option Addr) (B c : Nat) (xs : List Int) (n : Int) (w : World) (hs : Sl B w A (xs.flatMap eI)) (hl : xs.length ≤ 1048576) (hn : 0 ≤ n ∧ n ≤ 1048576) :
    Calls Tryz.prog 236 #[.slice A xs.length c, .int .i64 n] w (Ret fun v w' => v = .bool (risesB xs n) ∧ Ext w w') := by
  have Bhs := hs.1
  have X := Ext.refl w
  refine calls_of (args := [.slice A xs.length c, .int .i64 n]) Tryz.func236 Tryz.ntmps236 rfl rfl ?_
  refine c_seqR ?_
  refine ops_cons rfl (ow_assign rfl ?_)
  refine ops_nil ?_
  refine c_seq ?_
  refine c_seqR ?_
  refine ops_cons rfl (ow_move rfl ?_)
  refine ops_cons rfl (ow_len Tryz.underlying30 rfl ?_)
  refine ops_cons rfl (ow_move rfl ?_)
  refine ops_nil ?_
  refine c_block ?_
  refine c_loop (G := Nat) (fun k => [(0, .slice A xs.length c), (1, .int .i64 n), (7, .slice A xs.length c), (8, .int .i64 (xs.length : Nat)), (9, .int .i64 (k : Nat))]) (fun k wr => k ≤ xs.length ∧ risesFrom n none xs = risesFrom n (prevG xs k) (xs.drop k) ∧ Sl B wr A (xs.flatMap eI) ∧ Ext w wr) (fun k => xs.length - k) 0 (.cons rfl (.cons rfl (.cons rfl (.cons rfl (.cons rfl (.nil _)))))) ?_ ?_
  · exact ⟨by omega, rfl, hs, X⟩
  clear hs
  clear X
  rintro k wr ⟨hk0, hi, hs, X⟩
  refine c_seqR ?_
  refine ops_cons rfl (ow_lss2 rfl rfl (fun hk => ?_) (fun hk => ?_))
  obtain ⟨x, hx, dx⟩ := drop_at' hk
  refine ops_nil ?_
  refine c_seq ?_
  refine c_true rfl ?_
  refine c_skip ?_
  refine tq_n ?_
  refine c_seq ?_
  refine c_block ?_
  refine c_seqR ?_
  refine ops_cons rfl (ow_move rfl ?_)
  refine ops_cons rfl (ow_indexT hs eI_len rfl el30 rfl rfl rfl hx rfl ?_)
  refine ops_cons rfl (ow_loadT hs eI_len hx ti2 rfl rfl rfl ?_)
  refine ops_cons rfl (ow_assign rfl ?_)
  refine ops_cons rfl (ow_assign rfl ?_)
  refine ops_nil ?_
  refine c_seqR ?_
  refine ops_cons rfl (ow_move rfl ?_)
  refine ops_cons rfl (ow_lss2 rfl rfl (fun h1 => ?_) (fun h1 => ?_))
  refine ops_cons rfl (ow_move rfl ?_)
  refine ops_skip rfl rfl rfl rfl ?_
  refine ops_skip rfl rfl rfl rfl ?_
  refine ops_skip rfl rfl rfl rfl ?_
  refine ops_cons rfl (ow_pick rfl rfl ?_)
  refine ops_cons rfl (ow_move rfl ?_)
  refine ops_skip rfl rfl rfl rfl ?_
  refine ops_skip rfl rfl rfl rfl ?_
  refine ops_skip rfl rfl rfl rfl ?_
  refine ops_skip2 rfl rfl rfl ?_
  refine ops_skip2 rfl rfl rfl ?_
  refine ops_skip2 rfl rfl rfl ?_
  refine ops_skip2 rfl rfl rfl ?_
  refine ops_skip2 rfl rfl rfl ?_
  refine ops_skip2 rfl rfl rfl ?_
  refine ops_skip2 rfl rfl rfl ?_
  refine ops_skip rfl rfl rfl rfl ?_
  refine ops_cons rfl (ow_pick rfl rfl ?_)
  refine ops_nil ?_
  refine c_true rfl ?_
  refine c_seqR ?_
  refine ops_cons rfl (ow_assign rfl ?_)
  refine ops_nil ?_
  refine c_ret ?_
  refine bq_r ?_
  refine tq_r ?_
  refine tq_r ?_
  refine bq_r ?_
  refine tq_r ?_
  refine fin_ret1 rfl rfl ?_
  · skip
    refine ⟨congrArg Value.bool ?_, X⟩
    first
    | (rw [risesB, hi, drop_end hk, rises_nil])
    | (rw [risesB, hi, dx, rises_bad0 (by assumption)])
    | (rw [risesB, hi, dx, rises_bad0 (by simp [inB]; omega)])
    | (rw [risesB, hi, dx, prevG_pos ‹_› hy, rises_bad1 (by omega)])
  refine ops_cons rfl (ow_move rfl ?_)
  refine ops_want rfl rfl rfl (ow_move rfl ?_)
  refine ops_want rfl rfl rfl (ow_move rfl ?_)
  refine ops_want rfl rfl rfl (ow_geq2 rfl rfl (fun h2 => ?_) (fun h2 => ?_))
  refine ops_cons rfl (ow_pick rfl rfl ?_)
  refine ops_cons rfl (ow_move rfl ?_)
  refine ops_skip rfl rfl rfl rfl ?_
  refine ops_skip rfl rfl rfl rfl ?_
  refine ops_skip rfl rfl rfl rfl ?_
  refine ops_skip2 rfl rfl rfl ?_
  refine ops_skip2 rfl rfl rfl ?_
  refine ops_skip2 rfl rfl rfl ?_
  refine ops_skip2 rfl rfl rfl ?_
  refine ops_skip2 rfl rfl rfl ?_
  refine ops_skip2 rfl rfl rfl ?_
  refine ops_skip2 rfl rfl rfl ?_
  refine ops_skip rfl rfl rfl rfl ?_
  refine ops_cons rfl (ow_pick rfl rfl ?_)
  refine ops_nil ?_
  refine c_true rfl ?_
  refine c_seqR ?_
  refine ops_cons rfl (ow_assign rfl ?_)
  refine ops_nil ?_
  refine c_ret ?_
  refine bq_r ?_
  refine tq_r ?_
  refine tq_r ?_
  refine bq_r ?_
  refine tq_r ?_
  refine fin_ret1 rfl rfl ?_
  · skip
    refine ⟨congrArg Value.bool ?_, X⟩
    first
    | (rw [risesB, hi, drop_end hk, rises_nil])
    | (rw [risesB, hi, dx, rises_bad0 (by assumption)])
    | (rw [risesB, hi, dx, rises_bad0 (by simp [inB]; omega)])
    | (rw [risesB, hi, dx, prevG_pos ‹_› hy, rises_bad1 (by omega)])
  refine ops_cons rfl (ow_pick rfl rfl ?_)
  refine ops_cons rfl (ow_move rfl ?_)
  refine ops_want rfl rfl rfl (ow_move rfl ?_)
  refine ops_want rfl rfl rfl (ow_gtr2 rfl rfl (fun hp => ?_) (fun hp => ?_))
  obtain ⟨y, hy⟩ : ∃ y, xs[k - 1]? = some y := ⟨_, List.getElem?_eq_getElem (by omega)⟩
  refine ops_want rfl rfl rfl (ow_move rfl ?_)
  refine ops_want rfl rfl rfl (ow_move rfl ?_)
  refine ops_want rfl rfl rfl (ow_move rfl ?_)
  refine ops_want rfl rfl rfl (ow_sub rfl rfl (w64 (by omega)) ?_)
  refine ops_want rfl rfl rfl (ow_indexT hs eI_len rfl el30 rfl rfl rfl hy (by omega) ?_)
  refine ops_want rfl rfl rfl (ow_loadT hs eI_len hy ti2 rfl rfl rfl ?_)
  refine ops_want rfl rfl rfl (ow_move rfl ?_)
  refine ops_want rfl rfl rfl (ow_geq2 rfl rfl (fun h3 => ?_) (fun h3 => ?_))
  refine ops_want rfl rfl rfl (ow_pick rfl rfl ?_)
  refine ops_cons rfl (ow_pick rfl rfl ?_)
  refine ops_nil ?_
  refine c_true rfl ?_
  refine c_seqR ?_
  refine ops_cons rfl (ow_assign rfl ?_)
  refine ops_nil ?_
  refine c_ret ?_
  refine bq_r ?_
  refine tq_r ?_
  refine tq_r ?_
  refine bq_r ?_
  refine tq_r ?_
  refine fin_ret1 rfl rfl ?_
  · skip
    refine ⟨congrArg Value.bool ?_, X⟩
    first
    | (rw [risesB, hi, drop_end hk, rises_nil])
    | (rw [risesB, hi, dx, rises_bad0 (by assumption)])
    | (rw [risesB, hi, dx, rises_bad0 (by simp [inB]; omega)])
    | (rw [risesB, hi, dx, prevG_pos ‹_› hy, rises_bad1 (by omega)])
  refine ops_want rfl rfl rfl (ow_pick rfl rfl ?_)
  refine ops_cons rfl (ow_pick rfl rfl ?_)
  refine ops_nil ?_
  refine c_false rfl ?_
  refine c_skip ?_
  refine bq_n ?_
  refine tq_n ?_
  refine c_region ?_
  refine ops_cons rfl (ow_add rfl rfl (w64 (by omega)) ?_)
  refine ops_cons rfl (ow_move rfl ?_)
  refine ops_nil ?_
  refine tq_n ⟨k + 1, (.cons rfl (.cons rfl (.cons rfl (.cons rfl (.cons rfl (.nil _)))))), ?_, ?_⟩
  · skip
    exact ⟨by omega, (by
      rw [hi, dx, prevG_succ hx]
      have hB : inB x 0 (n - 1) = true := by first | assumption | (rw [inB_iff]; omega)
      first | rw [prevG_zero ‹_›, rises_ok0 hB] | rw [prevG_pos ‹_› hy, rises_ok1 hB (by omega)]), hs, X⟩
  · first | omega | (dsimp only; omega)
  refine ops_want rfl rfl rfl (ow_move rfl ?_)
  refine ops_skip rfl rfl rfl rfl ?_
  refine ops_skip rfl rfl rfl rfl ?_
  refine ops_skip rfl rfl rfl rfl ?_
  refine ops_skip rfl rfl rfl rfl ?_
  refine ops_skip rfl rfl rfl rfl ?_
  refine ops_skip rfl rfl rfl rfl ?_
  refine ops_skip rfl rfl rfl rfl ?_
  refine ops_want rfl rfl rfl (ow_pick rfl rfl ?_)
  refine ops_cons rfl (ow_pick rfl rfl ?_)
  refine ops_nil ?_
  refine c_false rfl ?_
  refine c_skip ?_
  refine bq_n ?_
  refine tq_n ?_
  refine c_region ?_
  refine ops_cons rfl (ow_add rfl rfl (w64 (by omega)) ?_)
  refine ops_cons rfl (ow_move rfl ?_)
  refine ops_nil ?_
  refine tq_n ⟨k + 1, (.cons rfl (.cons rfl (.cons rfl (.cons rfl (.cons rfl (.nil _)))))), ?_, ?_⟩
  · skip
    exact ⟨by omega, (by
      rw [hi, dx, prevG_succ hx]
      have hB : inB x 0 (n - 1) = true := by first | assumption | (rw [inB_iff]; omega)
      first | rw [prevG_zero ‹_›, rises_ok0 hB] | rw [prevG_pos ‹_› hy, rises_ok1 hB (by omega)]), hs, X⟩
  · first | omega | (dsimp only; omega)
  refine ops_nil ?_
  refine c_seq ?_
  refine c_false rfl ?_
  refine c_exit ?_
  refine tq_e ?_
  refine tq_e ?_
  refine bq_e ?_
  refine tq_n ?_
  refine c_seqR ?_
  refine ops_cons rfl (ow_assign rfl ?_)
  refine ops_nil ?_
  refine c_ret ?_
  refine fin_ret1 rfl rfl ?_
  · skip
    refine ⟨congrArg Value.bool ?_, X⟩
    first
    | (rw [risesB, hi, drop_end hk, rises_nil])
    | (rw [risesB, hi, dx, rises_bad0 (by assumption)])
    | (rw [risesB, hi, dx, rises_bad0 (by simp [inB]; omega)])
    | (rw [risesB, hi, dx, prevG_pos ‹_› hy, rises_bad1 (by omega)])

theorem l01Has_c (A : Option Addr) (B c : Nat) (xs : List Int) (n : Int) (w : World) (hs : Sl B w A (xs.flatMap eI)) (hl : xs.length ≤ 1048576) :
    Calls Tryz.prog 99 #[.slice A xs.length c, .int .i64 n] w (Ret fun v w' => v = .bool (hasB xs n) ∧ Ext w w') := by
  have Bhs := hs.1
  have X := Ext.refl w
  refine calls_of (args := [.slice A xs.length c, .int .i64 n]) Tryz.func99 Tryz.ntmps99 rfl rfl ?_
  refine c_seqR ?_
  refine ops_cons rfl (ow_assign rfl ?_)
  refine ops_nil ?_
  refine c_seq ?_
  refine c_seqR ?_
  refine ops_cons rfl (ow_assign rfl ?_)
  refine ops_nil ?_
  refine c_block ?_
  refine c_loop (G := Nat) (fun k => [(0, .slice A xs.length c), (1, .int .i64 n), (5, .int .i64 (k : Nat))]) (fun k wr => k ≤ xs.length ∧ hasB xs n = hasB (xs.drop k) n ∧ Sl B wr A (xs.flatMap eI) ∧ Ext w wr) (fun k => xs.length - k) 0 (.cons rfl (.cons rfl (.cons rfl (.nil _)))) ?_ ?_
  · exact ⟨by omega, rfl, hs, X⟩
  clear hs
  clear X
  rintro k wr ⟨hk0, hi, hs, X⟩
  refine c_seq ?_
  refine c_seqR ?_
  refine ops_cons rfl (ow_move rfl ?_)
  refine ops_cons rfl (ow_move rfl ?_)
  refine ops_cons rfl (ow_len Tryz.underlying30 rfl ?_)
  refine ops_cons rfl (ow_lss2 rfl rfl (fun hk => ?_) (fun hk => ?_))
  obtain ⟨x, hx, dx⟩ := drop_at' hk
  refine ops_nil ?_
  refine c_true rfl ?_
  refine c_skip ?_
  refine tq_n ?_
  refine c_seq ?_
  refine c_block ?_
  refine c_seqR ?_
  refine ops_cons rfl (ow_move rfl ?_)
  refine ops_cons rfl (ow_move rfl ?_)
  refine ops_cons rfl (ow_indexT hs eI_len rfl el30 rfl rfl rfl hx rfl ?_)
  refine ops_cons rfl (ow_loadT hs eI_len hx ti2 rfl rfl rfl ?_)
  refine ops_cons rfl (ow_move rfl ?_)
  refine ops_cons rfl (ow_eql2 rfl rfl (fun h1 => ?_) (fun h1 => ?_))
  refine ops_nil ?_
  refine c_true rfl ?_
  refine c_seqR ?_
  refine ops_cons rfl (ow_assign rfl ?_)
  refine ops_nil ?_
  refine c_ret ?_
  refine bq_r ?_
  refine tq_r ?_
  refine tq_r ?_
  refine bq_r ?_
  refine tq_r ?_
  refine fin_ret1 rfl rfl ?_
  · skip
    refine ⟨congrArg Value.bool ?_, X⟩
    first | (rw [hi, drop_end hk]; rfl) | (rw [hi, dx]; simp [hasB, *])
  refine ops_nil ?_
  refine c_false rfl ?_
  refine c_skip ?_
  refine bq_n ?_
  refine tq_n ?_
  refine c_region ?_
  refine ops_cons rfl (ow_move rfl ?_)
  refine ops_cons rfl (ow_add rfl rfl (w64 (by omega)) ?_)
  refine ops_cons rfl (ow_assign rfl ?_)
  refine ops_nil ?_
  refine tq_n ⟨k + 1, (.cons rfl (.cons rfl (.cons rfl (.nil _)))), ?_, ?_⟩
  · exact ⟨by omega, (by rw [hi, dx]; simp [hasB, *]), hs, X⟩
  · first | omega | (dsimp only; omega)
  refine ops_nil ?_
  refine c_false rfl ?_
  refine c_exit ?_
  refine tq_e ?_
  refine tq_e ?_
  refine bq_e ?_
  refine tq_n ?_
  refine c_seqR ?_
  refine ops_cons rfl (ow_assign rfl ?_)
  refine ops_nil ?_
  refine c_ret ?_
  refine fin_ret1 rfl rfl ?_
  · skip
    refine ⟨congrArg Value.bool ?_, X⟩
    first | (rw [hi, drop_end hk]; rfl) | (rw [hi, dx]; simp [hasB, *])

theorem index_c (A : Option Addr) (B c : Nat) (xs : List Int) (n : Int) (w : World) (hs : Sl B w A (xs.flatMap eI)) (hl : xs.length ≤ 1048576) :
    Calls Tryz.prog 167 #[.slice A xs.length c, .int .i64 n] w (Ret fun v w' => v = .int .i64 (idxI n 0 xs) ∧ Ext w w') := by
  have Bhs := hs.1
  have X := Ext.refl w
  refine calls_of (args := [.slice A xs.length c, .int .i64 n]) Tryz.func167 Tryz.ntmps167 rfl rfl ?_
  refine c_seqR ?_
  refine ops_cons rfl (ow_assign rfl ?_)
  refine ops_nil ?_
  refine c_seq ?_
  refine c_seqR ?_
  refine ops_cons rfl (ow_move rfl ?_)
  refine ops_cons rfl (ow_len Tryz.underlying30 rfl ?_)
  refine ops_cons rfl (ow_move rfl ?_)
  refine ops_nil ?_
  refine c_block ?_
  refine c_loop (G := Nat) (fun k => [(0, .slice A xs.length c), (1, .int .i64 n), (7, .int .i64 (xs.length : Nat)), (8, .int .i64 (k : Nat))]) (fun k wr => k ≤ xs.length ∧ idxI n 0 xs = idxI n k (xs.drop k) ∧ Sl B wr A (xs.flatMap eI) ∧ Ext w wr) (fun k => xs.length - k) 0 (.cons rfl (.cons rfl (.cons rfl (.cons rfl (.nil _))))) ?_ ?_
  · exact ⟨by omega, rfl, hs, X⟩
  clear hs
  clear X
  rintro k wr ⟨hk0, hi, hs, X⟩
  refine c_seqR ?_
  refine ops_cons rfl (ow_lss2 rfl rfl (fun hk => ?_) (fun hk => ?_))
  obtain ⟨x, hx, dx⟩ := drop_at' hk
  refine ops_nil ?_
  refine c_seq ?_
  refine c_true rfl ?_
  refine c_skip ?_
  refine tq_n ?_
  refine c_seq ?_
  refine c_block ?_
  refine c_seqR ?_
  refine ops_cons rfl (ow_move rfl ?_)
  refine ops_cons rfl (ow_assign rfl ?_)
  refine ops_nil ?_
  refine c_seqR ?_
  refine ops_cons rfl (ow_move rfl ?_)
  refine ops_cons rfl (ow_move rfl ?_)
  refine ops_cons rfl (ow_move rfl ?_)
  refine ops_cons rfl (ow_indexT hs eI_len rfl el30 rfl rfl rfl hx rfl ?_)
  refine ops_cons rfl (ow_loadT hs eI_len hx ti2 rfl rfl rfl ?_)
  refine ops_cons rfl (ow_eql2 rfl rfl (fun h1 => ?_) (fun h1 => ?_))
  refine ops_nil ?_
  refine c_true rfl ?_
  refine c_seqR ?_
  refine ops_cons rfl (ow_move rfl ?_)
  refine ops_cons rfl (ow_assign rfl ?_)
  refine ops_nil ?_
  refine c_ret ?_
  refine bq_r ?_
  refine tq_r ?_
  refine tq_r ?_
  refine bq_r ?_
  refine tq_r ?_
  refine fin_ret1 rfl rfl ?_
  · skip
    refine ⟨congrArg (Value.int .i64) ?_, X⟩
    first | (rw [hi, drop_end hk]; rfl) | (rw [hi, dx, idxI, if_pos (by omega)])
  refine ops_nil ?_
  refine c_false rfl ?_
  refine c_skip ?_
  refine bq_n ?_
  refine tq_n ?_
  refine c_region ?_
  refine ops_cons rfl (ow_add rfl rfl (w64 (by omega)) ?_)
  refine ops_cons rfl (ow_move rfl ?_)
  refine ops_nil ?_
  refine tq_n ⟨k + 1, (.cons rfl (.cons rfl (.cons rfl (.cons rfl (.nil _))))), ?_, ?_⟩
  · exact ⟨by omega, (by rw [hi, dx, idxI, if_neg (by omega)]; rfl), hs, X⟩
  · first | omega | (dsimp only; omega)
  refine ops_nil ?_
  refine c_seq ?_
  refine c_false rfl ?_
  refine c_exit ?_
  refine tq_e ?_
  refine tq_e ?_
  refine bq_e ?_
  refine tq_n ?_
  refine c_seqR ?_
  refine ops_cons rfl (ow_assign rfl ?_)
  refine ops_nil ?_
  refine c_ret ?_
  refine fin_ret1 rfl rfl ?_
  · skip
    refine ⟨congrArg (Value.int .i64) ?_, X⟩
    first | (rw [hi, drop_end hk]; rfl) | (rw [hi, dx, idxI, if_pos (by omega)])

theorem contains_c (A : Option Addr) (B c : Nat) (xs : List Int) (n : Int) (w : World) (hs : Sl B w A (xs.flatMap eI)) (hl : xs.length ≤ 1048576) :
    Calls Tryz.prog 83 #[.slice A xs.length c, .int .i64 n] w (Ret fun v w' => v = .bool (hasB xs n) ∧ Ext w w') := by
  have Bhs := hs.1
  have X := Ext.refl w
  refine calls_of (args := [.slice A xs.length c, .int .i64 n]) Tryz.func83 Tryz.ntmps83 rfl rfl ?_
  refine c_seqR ?_
  refine ops_cons rfl (ow_assign rfl ?_)
  refine ops_nil ?_
  refine c_seqR ?_
  refine ops_cons rfl (ow_move rfl ?_)
  refine ops_cons rfl (ow_move rfl ?_)
  refine ops_cons rfl (ow_call ent167 rfl (ret_mono (index_c _ _ _ _ _ _ hs hl) ?_))
  rintro _ w2 ⟨rfl, x1⟩
  replace hs := hs.ext x1
  replace X := Ext.trans X x1; clear x1
  refine ops_cons rfl (ow_geq rfl rfl ?_)
  refine ops_cons rfl (ow_assign rfl ?_)
  refine ops_nil ?_
  refine c_ret ?_
  refine fin_ret1 rfl rfl ?_
  exact ⟨congrArg Value.bool (idxI_has n xs 0 (by omega)), X⟩

end Go.Proofs.YtdoibplhbdkapaaGreatDoor
namespace Go.Proofs.YtdoibplhbdkapaaGreatDoor
open Go.RowKit
set_option linter.unusedVariables false
set_option linter.unusedSimpArgs false
set_option maxRecDepth 20000
theorem sIsMT_c (A : Option Addr) (B B2 c : Nat) (xs : List ModeI) (w : World) (hs : Sl B w A (xs.flatMap ModeI.cells)) (hn : Nexts B2 w xs) (hl : xs.length ≤ 1048576) (hz : ∀ x ∈ xs, x.m.next.length ≤ 1048576) :
    Calls Tryz.prog 225 #[.slice A xs.length c] w (Ret fun v w' => v = .bool (isMT (xs.map (·.m))) ∧ Ext w w') := by
  have Bhs := hs.1
  have Bhn := hn.1
  have X := Ext.refl w
  refine calls_of (args := [.slice A xs.length c]) Tryz.func225 Tryz.ntmps225 rfl rfl ?_
  refine c_seqR ?_
  refine ops_cons rfl (ow_assign rfl ?_)
  refine ops_nil ?_
  refine c_seq ?_
  refine c_seqR ?_
  refine ops_cons rfl (ow_move rfl ?_)
  refine ops_cons rfl (ow_len Tryz.underlying25 rfl ?_)
  refine ops_cons rfl (ow_callB ent111 rfl (l01In_c _ _ _ _) (fun w2 hB x1 => ?_) (fun w2 hB x1 => ?_))
  replace hs := hs.ext x1
  replace hn := hn.ext x1
  replace X := Ext.trans X x1; clear x1
  refine ops_cons rfl (ow_not rfl ?_)
  refine ops_nil ?_
  refine c_false rfl ?_
  refine c_skip ?_
  refine tq_n ?_
  refine c_seq ?_
  refine c_seqR ?_
  refine ops_cons rfl (ow_assign rfl ?_)
  refine ops_nil ?_
  refine c_block ?_
  refine c_loop (G := Nat) (fun k => [(0, .slice A xs.length c), (3, .int .i64 (k : Nat))]) (fun k wr => k ≤ xs.length ∧ modesFrom (xs.length : Int) 0 (xs.map (·.m)) = modesFrom (xs.length : Int) k ((xs.drop k).map (·.m)) ∧ Sl B wr A (xs.flatMap ModeI.cells) ∧ Nexts B2 wr xs ∧ Ext w wr) (fun k => xs.length - k) 0 (.cons rfl (.cons rfl (.nil _))) ?_ ?_
  · exact ⟨by omega, rfl, hs, hn, X⟩
  clear hs hn
  clear X
  rintro k wr ⟨hk0, hi, hs, hn, X⟩
  refine c_seq ?_
  refine c_seqR ?_
  refine ops_cons rfl (ow_move rfl ?_)
  refine ops_cons rfl (ow_move rfl ?_)
  refine ops_cons rfl (ow_len Tryz.underlying25 rfl ?_)
  refine ops_cons rfl (ow_lss2 rfl rfl (fun hk => ?_) (fun hk => ?_))
  obtain ⟨x, hx, dx⟩ := drop_at' hk
  refine ops_nil ?_
  refine c_true rfl ?_
  refine c_skip ?_
  refine tq_n ?_
  refine c_seq ?_
  refine c_block ?_
  refine c_seqR ?_
  refine ops_cons rfl (ow_move rfl ?_)
  refine ops_cons rfl (ow_move rfl ?_)
  refine ops_cons rfl (ow_indexT hs ModeI.len rfl el25 rfl rfl rfl hx rfl ?_)
  have hnx := hn.at_ hx
  have hlx := hz x (List.mem_of_getElem? hx)
  refine ops_cons rfl (ow_loadTA hs ModeI.len hx ti92 rfl ?_)
  refine ops_cons rfl (ow_alloc ti92 ?_)
  intro g6 w5 eg6 b3 x4 zg6
  have lg6 : w.heap.size ≤ g6 := Nat.le_trans X.size (Nat.le_of_eq eg6.symm)
  have pg6hs := Nat.le_trans hs.1 (Nat.le_of_eq eg6.symm)
  have pg6hn := Nat.le_trans hn.1 (Nat.le_of_eq eg6.symm)
  have pg6hnx := Nat.le_trans hnx.1 (Nat.le_of_eq eg6.symm)
  replace hs := hs.ext x4
  replace hn := hn.ext x4
  replace hnx := hnx.ext x4
  replace X := Ext.trans X x4; clear x4
  refine ops_cons rfl (ow_storeB b3 ti92 rfl rfl rfl rfl rfl rfl ?_)
  intro w9 b11 hg7 z10
  replace hs := hs.grown hg7 (by intro g hg; injection hg; omega)
  replace hn := hn.grown hg7 (by intro g hg; injection hg; omega)
  replace hnx := hnx.grown hg7 (by intro g hg; injection hg; omega)
  replace X := X.grown hg7 X.size (by intro g hg; injection hg; omega)
  clear hg7 b3
  refine ops_nil ?_
  refine c_seqR ?_
  refine ops_cons rfl (ow_fieldAddrB off92_0 rfl rfl ?_)
  refine ops_cons rfl (ow_loadB b11 ti2 rfl rfl ?_)
  refine ops_cons rfl (ow_callB ent111 rfl (l01In_c _ _ _ _) (fun w14 h12 x13 => ?_) (fun w14 h12 x13 => ?_))
  replace hs := hs.ext x13
  replace hn := hn.ext x13
  replace hnx := hnx.ext x13
  replace b11 := b11.ext x13
  replace X := Ext.trans X x13; clear x13
  refine ops_cons rfl (ow_not rfl ?_)
  refine ops_cons rfl (ow_move rfl ?_)
  refine ops_want rfl rfl rfl (ow_fieldAddrB off92_1 rfl rfl ?_)
  refine ops_want rfl rfl rfl (ow_loadB b11 ti2 rfl rfl ?_)
  refine ops_want rfl rfl rfl (ow_callB ent111 rfl (l01In_c _ _ _ _) (fun w17 h15 x16 => ?_) (fun w17 h15 x16 => ?_))
  replace hs := hs.ext x16
  replace hn := hn.ext x16
  replace hnx := hnx.ext x16
  replace b11 := b11.ext x16
  replace X := Ext.trans X x16; clear x16
  refine ops_want rfl rfl rfl (ow_not rfl ?_)
  refine ops_cons rfl (ow_pick rfl rfl ?_)
  refine ops_cons rfl (ow_move rfl ?_)
  refine ops_want rfl rfl rfl (ow_fieldAddrB off92_2 rfl rfl ?_)
  refine ops_want rfl rfl rfl (ow_loadB b11 ti30 rfl rfl ?_)
  refine ops_want rfl rfl rfl (ow_move rfl ?_)
  refine ops_want rfl rfl rfl (ow_len Tryz.underlying25 rfl ?_)
  refine ops_want rfl rfl rfl (ow_callB ent259 rfl (l01Rises_c _ _ _ _ _ _ hnx hlx (by omega)) (fun w20 h18 x19 => ?_) (fun w20 h18 x19 => ?_))
  replace hs := hs.ext x19
  replace hn := hn.ext x19
  replace hnx := hnx.ext x19
  replace b11 := b11.ext x19
  replace X := Ext.trans X x19; clear x19
  refine ops_want rfl rfl rfl (ow_not rfl ?_)
  refine ops_cons rfl (ow_pick rfl rfl ?_)
  refine ops_cons rfl (ow_move rfl ?_)
  refine ops_want rfl rfl rfl (ow_fieldAddrB off92_2 rfl rfl ?_)
  refine ops_want rfl rfl rfl (ow_loadB b11 ti30 rfl rfl ?_)
  refine ops_want rfl rfl rfl (ow_move rfl ?_)
  refine ops_want rfl rfl rfl (ow_callB ent99 rfl (l01Has_c _ _ _ _ _ _ hnx hlx) (fun w23 h21 x22 => ?_) (fun w23 h21 x22 => ?_))
  replace hs := hs.ext x22
  replace hn := hn.ext x22
  replace hnx := hnx.ext x22
  replace b11 := b11.ext x22
  replace X := Ext.trans X x22; clear x22
  refine ops_cons rfl (ow_pick rfl rfl ?_)
  refine ops_nil ?_
  refine c_true rfl ?_
  refine c_seqR ?_
  refine ops_cons rfl (ow_assign rfl ?_)
  refine ops_nil ?_
  refine c_ret ?_
  refine bq_r ?_
  refine tq_r ?_
  refine tq_r ?_
  refine bq_r ?_
  refine tq_r ?_
  refine fin_ret1 rfl rfl ?_
  · skip
    refine ⟨congrArg Value.bool ?_, X⟩
    rw [isMT, List.length_map]
    first
    | (rw [hB]; rfl)
    | (rw [hB, hi, drop_end hk]; rfl)
    | (rw [hi, drop_end hk]; simp [modesFrom, inB, *]; done)
    | (rw [hi, drop_end hk]; simp [modesFrom, inB]; omega)
    | (rw [hi, dx, List.map_cons, modesFrom]; simp [modeOk, *])
  replace hs := hs.ext x22
  replace hn := hn.ext x22
  replace hnx := hnx.ext x22
  replace b11 := b11.ext x22
  replace X := Ext.trans X x22; clear x22
  refine ops_cons rfl (ow_pick rfl rfl ?_)
  refine ops_nil ?_
  refine c_false rfl ?_
  refine c_skip ?_
  refine bq_n ?_
  refine tq_n ?_
  refine c_region ?_
  refine ops_cons rfl (ow_move rfl ?_)
  refine ops_cons rfl (ow_add rfl rfl (w64 (by omega)) ?_)
  refine ops_cons rfl (ow_assign rfl ?_)
  refine ops_nil ?_
  refine tq_n ⟨k + 1, (.cons rfl (.cons rfl (.nil _))), ?_, ?_⟩
  · exact ⟨by omega, (by rw [hi, dx, List.map_cons, modesFrom]; simp [modeOk, *]), hs, hn, X⟩
  · first | omega | (dsimp only; omega)
  replace hs := hs.ext x19
  replace hn := hn.ext x19
  replace hnx := hnx.ext x19
  replace b11 := b11.ext x19
  replace X := Ext.trans X x19; clear x19
  refine ops_want rfl rfl rfl (ow_not rfl ?_)
  refine ops_cons rfl (ow_pick rfl rfl ?_)
  refine ops_cons rfl (ow_move rfl ?_)
  refine ops_skip rfl rfl rfl rfl ?_
  refine ops_skip rfl rfl rfl rfl ?_
  refine ops_skip rfl rfl rfl rfl ?_
  refine ops_skip rfl rfl rfl rfl ?_
  refine ops_cons rfl (ow_pick rfl rfl ?_)
  refine ops_nil ?_
  refine c_true rfl ?_
  refine c_seqR ?_
  refine ops_cons rfl (ow_assign rfl ?_)
  refine ops_nil ?_
  refine c_ret ?_
  refine bq_r ?_
  refine tq_r ?_
  refine tq_r ?_
  refine bq_r ?_
  refine tq_r ?_
  refine fin_ret1 rfl rfl ?_
  · skip
    refine ⟨congrArg Value.bool ?_, X⟩
    rw [isMT, List.length_map]
    first
    | (rw [hB]; rfl)
    | (rw [hB, hi, drop_end hk]; rfl)
    | (rw [hi, drop_end hk]; simp [modesFrom, inB, *]; done)
    | (rw [hi, drop_end hk]; simp [modesFrom, inB]; omega)
    | (rw [hi, dx, List.map_cons, modesFrom]; simp [modeOk, *])
  replace hs := hs.ext x16
  replace hn := hn.ext x16
  replace hnx := hnx.ext x16
  replace b11 := b11.ext x16
  replace X := Ext.trans X x16; clear x16
  refine ops_want rfl rfl rfl (ow_not rfl ?_)
  refine ops_cons rfl (ow_pick rfl rfl ?_)
  refine ops_cons rfl (ow_move rfl ?_)
  refine ops_skip rfl rfl rfl rfl ?_
  refine ops_skip rfl rfl rfl rfl ?_
  refine ops_skip rfl rfl rfl rfl ?_
  refine ops_skip rfl rfl rfl rfl ?_
  refine ops_skip rfl rfl rfl rfl ?_
  refine ops_skip rfl rfl rfl rfl ?_
  refine ops_cons rfl (ow_pick rfl rfl ?_)
  refine ops_cons rfl (ow_move rfl ?_)
  refine ops_skip rfl rfl rfl rfl ?_
  refine ops_skip rfl rfl rfl rfl ?_
  refine ops_skip rfl rfl rfl rfl ?_
  refine ops_skip rfl rfl rfl rfl ?_
  refine ops_cons rfl (ow_pick rfl rfl ?_)
  refine ops_nil ?_
  refine c_true rfl ?_
  refine c_seqR ?_
  refine ops_cons rfl (ow_assign rfl ?_)
  refine ops_nil ?_
  refine c_ret ?_
  refine bq_r ?_
  refine tq_r ?_
  refine tq_r ?_
  refine bq_r ?_
  refine tq_r ?_
  refine fin_ret1 rfl rfl ?_
  · skip
    refine ⟨congrArg Value.bool ?_, X⟩
    rw [isMT, List.length_map]
    first
    | (rw [hB]; rfl)
    | (rw [hB, hi, drop_end hk]; rfl)
    | (rw [hi, drop_end hk]; simp [modesFrom, inB, *]; done)
    | (rw [hi, drop_end hk]; simp [modesFrom, inB]; omega)
    | (rw [hi, dx, List.map_cons, modesFrom]; simp [modeOk, *])
  replace hs := hs.ext x13
  replace hn := hn.ext x13
  replace hnx := hnx.ext x13
  replace b11 := b11.ext x13
  replace X := Ext.trans X x13; clear x13
  refine ops_cons rfl (ow_not rfl ?_)
  refine ops_cons rfl (ow_move rfl ?_)
  refine ops_skip rfl rfl rfl rfl ?_
  refine ops_skip rfl rfl rfl rfl ?_
  refine ops_skip rfl rfl rfl rfl ?_
  refine ops_skip rfl rfl rfl rfl ?_
  refine ops_cons rfl (ow_pick rfl rfl ?_)
  refine ops_cons rfl (ow_move rfl ?_)
  refine ops_skip rfl rfl rfl rfl ?_
  refine ops_skip rfl rfl rfl rfl ?_
  refine ops_skip rfl rfl rfl rfl ?_
  refine ops_skip rfl rfl rfl rfl ?_
  refine ops_skip rfl rfl rfl rfl ?_
  refine ops_skip rfl rfl rfl rfl ?_
  refine ops_cons rfl (ow_pick rfl rfl ?_)
  refine ops_cons rfl (ow_move rfl ?_)
  refine ops_skip rfl rfl rfl rfl ?_
  refine ops_skip rfl rfl rfl rfl ?_
  refine ops_skip rfl rfl rfl rfl ?_
  refine ops_skip rfl rfl rfl rfl ?_
  refine ops_cons rfl (ow_pick rfl rfl ?_)
  refine ops_nil ?_
  refine c_true rfl ?_
  refine c_seqR ?_
  refine ops_cons rfl (ow_assign rfl ?_)
  refine ops_nil ?_
  refine c_ret ?_
  refine bq_r ?_
  refine tq_r ?_
  refine tq_r ?_
  refine bq_r ?_
  refine tq_r ?_
  refine fin_ret1 rfl rfl ?_
  · skip
    refine ⟨congrArg Value.bool ?_, X⟩
    rw [isMT, List.length_map]
    first
    | (rw [hB]; rfl)
    | (rw [hB, hi, drop_end hk]; rfl)
    | (rw [hi, drop_end hk]; simp [modesFrom, inB, *]; done)
    | (rw [hi, drop_end hk]; simp [modesFrom, inB]; omega)
    | (rw [hi, dx, List.map_cons, modesFrom]; simp [modeOk, *])
  refine ops_nil ?_
  refine c_false rfl ?_
  refine c_exit ?_
  refine tq_e ?_
  refine tq_e ?_
  refine bq_e ?_
  refine tq_n ?_
  refine c_seqR ?_
  refine ops_cons rfl (ow_assign rfl ?_)
  refine ops_nil ?_
  refine c_ret ?_
  refine fin_ret1 rfl rfl ?_
  · skip
    refine ⟨congrArg Value.bool ?_, X⟩
    rw [isMT, List.length_map]
    first
    | (rw [hB]; rfl)
    | (rw [hB, hi, drop_end hk]; rfl)
    | (rw [hi, drop_end hk]; simp [modesFrom, inB, *]; done)
    | (rw [hi, drop_end hk]; simp [modesFrom, inB]; omega)
    | (rw [hi, dx, List.map_cons, modesFrom]; simp [modeOk, *])
  replace hs := hs.ext x1
  replace hn := hn.ext x1
  replace X := Ext.trans X x1; clear x1
  refine ops_cons rfl (ow_not rfl ?_)
  refine ops_nil ?_
  refine c_true rfl ?_
  refine c_seqR ?_
  refine ops_cons rfl (ow_assign rfl ?_)
  refine ops_nil ?_
  refine c_ret ?_
  refine tq_r ?_
  refine fin_ret1 rfl rfl ?_
  · skip
    refine ⟨congrArg Value.bool ?_, X⟩
    rw [isMT, List.length_map]
    first
    | (rw [hB]; rfl)
    | (rw [hB, hi, drop_end hk]; rfl)
    | (rw [hi, drop_end hk]; simp [modesFrom, inB, *]; done)
    | (rw [hi, drop_end hk]; simp [modesFrom, inB]; omega)
    | (rw [hi, dx, List.map_cons, modesFrom]; simp [modeOk, *])

theorem iIsMT_c (A : Option Addr) (B B2 c : Nat) (xs : List ModeI) (w : World) (hs : Sl B w A (xs.flatMap ModeI.cells)) (hn : Nexts B2 w xs) (hl : xs.length ≤ 1048576) (hz : ∀ x ∈ xs, x.m.next.length ≤ 1048576) :
    Calls Tryz.prog 163 #[.slice A xs.length c] w (Ret fun v w' => v = .bool (isMT (xs.map (·.m))) ∧ Ext w w') := by
  have Bhs := hs.1
  have Bhn := hn.1
  have X := Ext.refl w
  refine calls_of (args := [.slice A xs.length c]) Tryz.func163 Tryz.ntmps163 rfl rfl ?_
  refine c_seqR ?_
  refine ops_cons rfl (ow_assign rfl ?_)
  refine ops_nil ?_
  refine c_seq ?_
  refine c_seqR ?_
  refine ops_cons rfl (ow_move rfl ?_)
  refine ops_cons rfl (ow_len Tryz.underlying25 rfl ?_)
  refine ops_cons rfl (ow_move rfl ?_)
  refine ops_nil ?_
  refine c_block ?_
  refine c_loop (G := Nat) (fun k => [(0, .slice A xs.length c), (5, .slice A xs.length c), (6, .int .i64 (xs.length : Nat)), (7, .int .i64 (k : Nat))]) (fun k wr => k ≤ xs.length ∧ modesFrom (xs.length : Int) 0 (xs.map (·.m)) = modesFrom (xs.length : Int) k ((xs.drop k).map (·.m)) ∧ Sl B wr A (xs.flatMap ModeI.cells) ∧ Nexts B2 wr xs ∧ Ext w wr) (fun k => xs.length - k) 0 (.cons rfl (.cons rfl (.cons rfl (.cons rfl (.nil _))))) ?_ ?_
  · exact ⟨by omega, rfl, hs, hn, X⟩
  clear hs hn
  clear X
  rintro k wr ⟨hk0, hi, hs, hn, X⟩
  refine c_seqR ?_
  refine ops_cons rfl (ow_lss2 rfl rfl (fun hk => ?_) (fun hk => ?_))
  obtain ⟨x, hx, dx⟩ := drop_at' hk
  refine ops_nil ?_
  refine c_seq ?_
  refine c_true rfl ?_
  refine c_skip ?_
  refine tq_n ?_
  refine c_seq ?_
  refine c_block ?_
  refine c_seqR ?_
  refine ops_cons rfl (ow_move rfl ?_)
  refine ops_cons rfl (ow_indexT hs ModeI.len rfl el25 rfl rfl rfl hx rfl ?_)
  have hnx := hn.at_ hx
  have hlx := hz x (List.mem_of_getElem? hx)
  refine ops_cons rfl (ow_loadTA hs ModeI.len hx ti92 rfl ?_)
  refine ops_cons rfl (ow_alloc ti92 ?_)
  intro g4 w3 eg4 b1 x2 zg4
  have lg4 : w.heap.size ≤ g4 := Nat.le_trans X.size (Nat.le_of_eq eg4.symm)
  have pg4hs := Nat.le_trans hs.1 (Nat.le_of_eq eg4.symm)
  have pg4hn := Nat.le_trans hn.1 (Nat.le_of_eq eg4.symm)
  have pg4hnx := Nat.le_trans hnx.1 (Nat.le_of_eq eg4.symm)
  replace hs := hs.ext x2
  replace hn := hn.ext x2
  replace hnx := hnx.ext x2
  replace X := Ext.trans X x2; clear x2
  refine ops_cons rfl (ow_assign rfl ?_)
  refine ops_cons rfl (ow_storeB b1 ti92 rfl rfl rfl rfl rfl rfl ?_)
  intro w6 b8 hg5 z7
  replace hs := hs.grown hg5 (by intro g hg; injection hg; omega)
  replace hn := hn.grown hg5 (by intro g hg; injection hg; omega)
  replace hnx := hnx.grown hg5 (by intro g hg; injection hg; omega)
  replace X := X.grown hg5 X.size (by intro g hg; injection hg; omega)
  clear hg5 b1
  refine ops_nil ?_
  refine c_seqR ?_
  refine ops_cons rfl (ow_fieldAddrB off92_0 rfl rfl ?_)
  refine ops_cons rfl (ow_loadB b8 ti2 rfl rfl ?_)
  refine ops_cons rfl (ow_callB ent109 rfl (within_c _ _ _ _) (fun w11 h9 x10 => ?_) (fun w11 h9 x10 => ?_))
  replace hs := hs.ext x10
  replace hn := hn.ext x10
  replace hnx := hnx.ext x10
  replace b8 := b8.ext x10
  replace X := Ext.trans X x10; clear x10
  refine ops_cons rfl (ow_not rfl ?_)
  refine ops_cons rfl (ow_move rfl ?_)
  refine ops_want rfl rfl rfl (ow_fieldAddrB off92_1 rfl rfl ?_)
  refine ops_want rfl rfl rfl (ow_loadB b8 ti2 rfl rfl ?_)
  refine ops_want rfl rfl rfl (ow_callB ent109 rfl (within_c _ _ _ _) (fun w14 h12 x13 => ?_) (fun w14 h12 x13 => ?_))
  replace hs := hs.ext x13
  replace hn := hn.ext x13
  replace hnx := hnx.ext x13
  replace b8 := b8.ext x13
  replace X := Ext.trans X x13; clear x13
  refine ops_want rfl rfl rfl (ow_not rfl ?_)
  refine ops_cons rfl (ow_pick rfl rfl ?_)
  refine ops_cons rfl (ow_move rfl ?_)
  refine ops_want rfl rfl rfl (ow_fieldAddrB off92_2 rfl rfl ?_)
  refine ops_want rfl rfl rfl (ow_loadB b8 ti30 rfl rfl ?_)
  refine ops_want rfl rfl rfl (ow_move rfl ?_)
  refine ops_want rfl rfl rfl (ow_len Tryz.underlying25 rfl ?_)
  refine ops_want rfl rfl rfl (ow_callB ent236 rfl (isRising_c _ _ _ _ _ _ hnx hlx (by omega)) (fun w17 h15 x16 => ?_) (fun w17 h15 x16 => ?_))
  replace hs := hs.ext x16
  replace hn := hn.ext x16
  replace hnx := hnx.ext x16
  replace b8 := b8.ext x16
  replace X := Ext.trans X x16; clear x16
  refine ops_want rfl rfl rfl (ow_not rfl ?_)
  refine ops_cons rfl (ow_pick rfl rfl ?_)
  refine ops_cons rfl (ow_move rfl ?_)
  refine ops_want rfl rfl rfl (ow_fieldAddrB off92_2 rfl rfl ?_)
  refine ops_want rfl rfl rfl (ow_loadB b8 ti30 rfl rfl ?_)
  refine ops_want rfl rfl rfl (ow_move rfl ?_)
  refine ops_want rfl rfl rfl (ow_callB ent83 rfl (contains_c _ _ _ _ _ _ hnx hlx) (fun w20 h18 x19 => ?_) (fun w20 h18 x19 => ?_))
  replace hs := hs.ext x19
  replace hn := hn.ext x19
  replace hnx := hnx.ext x19
  replace b8 := b8.ext x19
  replace X := Ext.trans X x19; clear x19
  refine ops_cons rfl (ow_pick rfl rfl ?_)
  refine ops_nil ?_
  refine c_true rfl ?_
  refine c_seqR ?_
  refine ops_cons rfl (ow_assign rfl ?_)
  refine ops_nil ?_
  refine c_ret ?_
  refine bq_r ?_
  refine tq_r ?_
  refine tq_r ?_
  refine bq_r ?_
  refine tq_r ?_
  refine fin_ret1 rfl rfl ?_
  · skip
    refine ⟨congrArg Value.bool ?_, X⟩
    rw [isMT, List.length_map]
    first
    | (rw [hB]; rfl)
    | (rw [hB, hi, drop_end hk]; rfl)
    | (rw [hi, drop_end hk]; simp [modesFrom, inB, *]; done)
    | (rw [hi, drop_end hk]; simp [modesFrom, inB]; omega)
    | (rw [hi, dx, List.map_cons, modesFrom]; simp [modeOk, *])
  replace hs := hs.ext x19
  replace hn := hn.ext x19
  replace hnx := hnx.ext x19
  replace b8 := b8.ext x19
  replace X := Ext.trans X x19; clear x19
  refine ops_cons rfl (ow_pick rfl rfl ?_)
  refine ops_nil ?_
  refine c_false rfl ?_
  refine c_skip ?_
  refine bq_n ?_
  refine tq_n ?_
  refine c_region ?_
  refine ops_cons rfl (ow_add rfl rfl (w64 (by omega)) ?_)
  refine ops_cons rfl (ow_move rfl ?_)
  refine ops_nil ?_
  refine tq_n ⟨k + 1, (.cons rfl (.cons rfl (.cons rfl (.cons rfl (.nil _))))), ?_, ?_⟩
  · exact ⟨by omega, (by rw [hi, dx, List.map_cons, modesFrom]; simp [modeOk, *]), hs, hn, X⟩
  · first | omega | (dsimp only; omega)
  replace hs := hs.ext x16
  replace hn := hn.ext x16
  replace hnx := hnx.ext x16
  replace b8 := b8.ext x16
  replace X := Ext.trans X x16; clear x16
  refine ops_want rfl rfl rfl (ow_not rfl ?_)
  refine ops_cons rfl (ow_pick rfl rfl ?_)
  refine ops_cons rfl (ow_move rfl ?_)
  refine ops_skip rfl rfl rfl rfl ?_
  refine ops_skip rfl rfl rfl rfl ?_
  refine ops_skip rfl rfl rfl rfl ?_
  refine ops_skip rfl rfl rfl rfl ?_
  refine ops_cons rfl (ow_pick rfl rfl ?_)
  refine ops_nil ?_
  refine c_true rfl ?_
  refine c_seqR ?_
  refine ops_cons rfl (ow_assign rfl ?_)
  refine ops_nil ?_
  refine c_ret ?_
  refine bq_r ?_
  refine tq_r ?_
  refine tq_r ?_
  refine bq_r ?_
  refine tq_r ?_
  refine fin_ret1 rfl rfl ?_
  · skip
    refine ⟨congrArg Value.bool ?_, X⟩
    rw [isMT, List.length_map]
    first
    | (rw [hB]; rfl)
    | (rw [hB, hi, drop_end hk]; rfl)
    | (rw [hi, drop_end hk]; simp [modesFrom, inB, *]; done)
    | (rw [hi, drop_end hk]; simp [modesFrom, inB]; omega)
    | (rw [hi, dx, List.map_cons, modesFrom]; simp [modeOk, *])
  replace hs := hs.ext x13
  replace hn := hn.ext x13
  replace hnx := hnx.ext x13
  replace b8 := b8.ext x13
  replace X := Ext.trans X x13; clear x13
  refine ops_want rfl rfl rfl (ow_not rfl ?_)
  refine ops_cons rfl (ow_pick rfl rfl ?_)
  refine ops_cons rfl (ow_move rfl ?_)
  refine ops_skip rfl rfl rfl rfl ?_
  refine ops_skip rfl rfl rfl rfl ?_
  refine ops_skip rfl rfl rfl rfl ?_
  refine ops_skip rfl rfl rfl rfl ?_
  refine ops_skip rfl rfl rfl rfl ?_
  refine ops_skip rfl rfl rfl rfl ?_
  refine ops_cons rfl (ow_pick rfl rfl ?_)
  refine ops_cons rfl (ow_move rfl ?_)
  refine ops_skip rfl rfl rfl rfl ?_
  refine ops_skip rfl rfl rfl rfl ?_
  refine ops_skip rfl rfl rfl rfl ?_
  refine ops_skip rfl rfl rfl rfl ?_
  refine ops_cons rfl (ow_pick rfl rfl ?_)
  refine ops_nil ?_
  refine c_true rfl ?_
  refine c_seqR ?_
  refine ops_cons rfl (ow_assign rfl ?_)
  refine ops_nil ?_
  refine c_ret ?_
  refine bq_r ?_
  refine tq_r ?_
  refine tq_r ?_
  refine bq_r ?_
  refine tq_r ?_
  refine fin_ret1 rfl rfl ?_
  · skip
    refine ⟨congrArg Value.bool ?_, X⟩
    rw [isMT, List.length_map]
    first
    | (rw [hB]; rfl)
    | (rw [hB, hi, drop_end hk]; rfl)
    | (rw [hi, drop_end hk]; simp [modesFrom, inB, *]; done)
    | (rw [hi, drop_end hk]; simp [modesFrom, inB]; omega)
    | (rw [hi, dx, List.map_cons, modesFrom]; simp [modeOk, *])
  replace hs := hs.ext x10
  replace hn := hn.ext x10
  replace hnx := hnx.ext x10
  replace b8 := b8.ext x10
  replace X := Ext.trans X x10; clear x10
  refine ops_cons rfl (ow_not rfl ?_)
  refine ops_cons rfl (ow_move rfl ?_)
  refine ops_skip rfl rfl rfl rfl ?_
  refine ops_skip rfl rfl rfl rfl ?_
  refine ops_skip rfl rfl rfl rfl ?_
  refine ops_skip rfl rfl rfl rfl ?_
  refine ops_cons rfl (ow_pick rfl rfl ?_)
  refine ops_cons rfl (ow_move rfl ?_)
  refine ops_skip rfl rfl rfl rfl ?_
  refine ops_skip rfl rfl rfl rfl ?_
  refine ops_skip rfl rfl rfl rfl ?_
  refine ops_skip rfl rfl rfl rfl ?_
  refine ops_skip rfl rfl rfl rfl ?_
  refine ops_skip rfl rfl rfl rfl ?_
  refine ops_cons rfl (ow_pick rfl rfl ?_)
  refine ops_cons rfl (ow_move rfl ?_)
  refine ops_skip rfl rfl rfl rfl ?_
  refine ops_skip rfl rfl rfl rfl ?_
  refine ops_skip rfl rfl rfl rfl ?_
  refine ops_skip rfl rfl rfl rfl ?_
  refine ops_cons rfl (ow_pick rfl rfl ?_)
  refine ops_nil ?_
  refine c_true rfl ?_
  refine c_seqR ?_
  refine ops_cons rfl (ow_assign rfl ?_)
  refine ops_nil ?_
  refine c_ret ?_
  refine bq_r ?_
  refine tq_r ?_
  refine tq_r ?_
  refine bq_r ?_
  refine tq_r ?_
  refine fin_ret1 rfl rfl ?_
  · skip
    refine ⟨congrArg Value.bool ?_, X⟩
    rw [isMT, List.length_map]
    first
    | (rw [hB]; rfl)
    | (rw [hB, hi, drop_end hk]; rfl)
    | (rw [hi, drop_end hk]; simp [modesFrom, inB, *]; done)
    | (rw [hi, drop_end hk]; simp [modesFrom, inB]; omega)
    | (rw [hi, dx, List.map_cons, modesFrom]; simp [modeOk, *])
  refine ops_nil ?_
  refine c_seq ?_
  refine c_false rfl ?_
  refine c_exit ?_
  refine tq_e ?_
  refine tq_e ?_
  refine bq_e ?_
  refine tq_n ?_
  refine c_seqR ?_
  refine ops_cons rfl (ow_move rfl ?_)
  refine ops_cons rfl (ow_len Tryz.underlying25 rfl ?_)
  refine ops_cons rfl (ow_geq2 rfl rfl (fun h21 => ?_) (fun h21 => ?_))
  refine ops_cons rfl (ow_move rfl ?_)
  refine ops_want rfl rfl rfl (ow_move rfl ?_)
  refine ops_want rfl rfl rfl (ow_len Tryz.underlying25 rfl ?_)
  refine ops_want rfl rfl rfl (ow_leq rfl rfl ?_)
  refine ops_cons rfl (ow_pick rfl rfl ?_)
  refine ops_cons rfl (ow_assign rfl ?_)
  refine ops_nil ?_
  refine c_ret ?_
  refine fin_ret1 rfl rfl ?_
  · skip
    refine ⟨congrArg Value.bool ?_, X⟩
    rw [isMT, List.length_map]
    first
    | (rw [hB]; rfl)
    | (rw [hB, hi, drop_end hk]; rfl)
    | (rw [hi, drop_end hk]; simp [modesFrom, inB, *]; done)
    | (rw [hi, drop_end hk]; simp [modesFrom, inB]; omega)
    | (rw [hi, dx, List.map_cons, modesFrom]; simp [modeOk, *])
  refine ops_cons rfl (ow_move rfl ?_)
  refine ops_skip rfl rfl rfl rfl ?_
  refine ops_skip rfl rfl rfl rfl ?_
  refine ops_skip rfl rfl rfl rfl ?_
  refine ops_cons rfl (ow_pick rfl rfl ?_)
  refine ops_cons rfl (ow_assign rfl ?_)
  refine ops_nil ?_
  refine c_ret ?_
  refine fin_ret1 rfl rfl ?_
  · skip
    refine ⟨congrArg Value.bool ?_, X⟩
    rw [isMT, List.length_map]
    first
    | (rw [hB]; rfl)
    | (rw [hB, hi, drop_end hk]; rfl)
    | (rw [hi, drop_end hk]; simp [modesFrom, inB, *]; done)
    | (rw [hi, drop_end hk]; simp [modesFrom, inB]; omega)
    | (rw [hi, dx, List.map_cons, modesFrom]; simp [modeOk, *])
end Go.Proofs.YtdoibplhbdkapaaGreatDoor
