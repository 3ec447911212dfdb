/- What finding slots gives. No condition. -/
import Derived.Test.YtojgfbbdjobdnaaGreatDoorD2
namespace Go.Proofs.YtojgfbbdjobdnaaGreatDoor
open Go.RowKit
set_option linter.unusedVariables false
set_option linter.unusedSimpArgs false
set_option maxRecDepth 20000
theorem l12Find_c (A : Option Addr) (B c : Nat) (xs : List SlotI) (m r s : Int) (w : World) (hs : Sl B w A (xs.flatMap SlotI.cells)) (hl : xs.length ≤ 1048576) :
    Calls Tryz.prog 129 #[.slice A xs.length c, .int .i64 m, .int .i64 r, .int .i64 s] w (Ret fun v w' => v = .int .i64 (findS (hitS m r s) 0 xs) ∧ Ext w w') := by
  have Bhs := hs.1
  have X := Ext.refl w
  refine calls_of (args := [.slice A xs.length c, .int .i64 m, .int .i64 r, .int .i64 s]) Tryz.func129 Tryz.ntmps129 rfl rfl ?_
  refine c_seqR ?_
  refine ops_cons rfl (ow_assign rfl ?_)
  refine ops_nil ?_
  refine c_seq ?_
  refine c_seqR ?_
  refine ops_cons rfl (ow_assign rfl ?_)
  refine ops_nil ?_
  refine c_block ?_
  refine c_loop (G := Nat) (fun k => [(0, .slice A xs.length c), (1, .int .i64 m), (2, .int .i64 r), (3, .int .i64 s), (9, .int .i64 (k : Nat))]) (fun k wr => k ≤ xs.length ∧ (findS (hitS m r s) 0 xs) = findS (hitS m r s) (k : Int) (xs.drop k) ∧ Sl B wr A (xs.flatMap SlotI.cells) ∧ Ext w wr) (fun k => xs.length - k) 0 (.cons rfl (.cons rfl (.cons rfl (.cons rfl (.cons rfl (.nil _)))))) ?_ ?_
  · exact ⟨by omega, rfl, hs, X⟩
  clear hs
  clear X
  rintro k wr ⟨hk0, hi, hs, X⟩
  refine c_seq ?_
  refine c_seqR ?_
  refine ops_cons rfl (ow_move rfl ?_)
  refine ops_cons rfl (ow_move rfl ?_)
  refine ops_cons rfl (ow_len Tryz.underlying26 rfl ?_)
  refine ops_cons rfl (ow_lss2 rfl rfl (fun hk => ?_) (fun hk => ?_))
  obtain ⟨x, hx, dx⟩ := drop_at' hk
  refine ops_nil ?_
  refine c_true rfl ?_
  refine c_skip ?_
  refine tq_n ?_
  refine c_seq ?_
  refine c_block ?_
  refine c_seqR ?_
  refine ops_cons rfl (ow_move rfl ?_)
  refine ops_cons rfl (ow_move rfl ?_)
  refine ops_cons rfl (ow_indexT hs SlotI.len rfl el26 rfl rfl rfl hx rfl ?_)
  refine ops_cons rfl (ow_fieldAddr off89_0 rfl ?_)
  refine ops_cons rfl (ow_loadTF hs SlotI.len hx ti2 rfl rfl rfl ?_)
  refine ops_cons rfl (ow_move rfl ?_)
  refine ops_cons rfl (ow_eql2 rfl rfl (fun h1 => ?_) (fun h1 => ?_))
  refine ops_cons rfl (ow_move rfl ?_)
  refine ops_want rfl rfl rfl (ow_move rfl ?_)
  refine ops_want rfl rfl rfl (ow_move rfl ?_)
  refine ops_want rfl rfl rfl (ow_indexT hs SlotI.len rfl el26 rfl rfl rfl hx rfl ?_)
  refine ops_want rfl rfl rfl (ow_fieldAddr off89_1 rfl ?_)
  refine ops_want rfl rfl rfl (ow_loadTF hs SlotI.len hx ti2 rfl rfl rfl ?_)
  refine ops_want rfl rfl rfl (ow_move rfl ?_)
  refine ops_want rfl rfl rfl (ow_eql2 rfl rfl (fun h2 => ?_) (fun h2 => ?_))
  refine ops_cons rfl (ow_pick rfl rfl ?_)
  refine ops_cons rfl (ow_move rfl ?_)
  refine ops_want rfl rfl rfl (ow_move rfl ?_)
  refine ops_want rfl rfl rfl (ow_move rfl ?_)
  refine ops_want rfl rfl rfl (ow_indexT hs SlotI.len rfl el26 rfl rfl rfl hx rfl ?_)
  refine ops_want rfl rfl rfl (ow_fieldAddr off89_2 rfl ?_)
  refine ops_want rfl rfl rfl (ow_loadTF hs SlotI.len hx ti2 rfl rfl rfl ?_)
  refine ops_want rfl rfl rfl (ow_move rfl ?_)
  refine ops_want rfl rfl rfl (ow_eql2 rfl rfl (fun h3 => ?_) (fun h3 => ?_))
  refine ops_cons rfl (ow_pick rfl rfl ?_)
  refine ops_nil ?_
  refine c_true rfl ?_
  refine c_seqR ?_
  refine ops_cons rfl (ow_move rfl ?_)
  refine ops_cons rfl (ow_assign rfl ?_)
  refine ops_nil ?_
  refine c_ret ?_
  refine bq_r ?_
  refine tq_r ?_
  refine tq_r ?_
  refine bq_r ?_
  refine tq_r ?_
  refine fin_ret1 rfl rfl ?_
  · skip
    refine ⟨congrArg (Value.int .i64) ?_, X⟩
    first
    | (rw [hi, drop_end hk]; rfl)
    | (rw [hi, dx, findS, if_pos (by simp [hitS, *])])
  refine ops_cons rfl (ow_pick rfl rfl ?_)
  refine ops_nil ?_
  refine c_false rfl ?_
  refine c_skip ?_
  refine bq_n ?_
  refine tq_n ?_
  refine c_region ?_
  refine ops_cons rfl (ow_move rfl ?_)
  refine ops_cons rfl (ow_add rfl rfl (w64 (by omega)) ?_)
  refine ops_cons rfl (ow_assign rfl ?_)
  refine ops_nil ?_
  refine tq_n ⟨k + 1, (.cons rfl (.cons rfl (.cons rfl (.cons rfl (.cons rfl (.nil _)))))), ?_, ?_⟩
  · exact ⟨by omega, (by rw [hi, dx, findS, if_neg (by simp [hitS, *])]; rfl), hs, X⟩
  · first | omega | (dsimp only; omega)
  refine ops_cons rfl (ow_pick rfl rfl ?_)
  refine ops_cons rfl (ow_move rfl ?_)
  refine ops_skip rfl rfl rfl rfl ?_
  refine ops_skip rfl rfl rfl rfl ?_
  refine ops_skip rfl rfl rfl rfl ?_
  refine ops_skip rfl rfl rfl rfl ?_
  refine ops_skip rfl rfl rfl rfl ?_
  refine ops_skip rfl rfl rfl rfl ?_
  refine ops_skip rfl rfl rfl rfl ?_
  refine ops_cons rfl (ow_pick rfl rfl ?_)
  refine ops_nil ?_
  refine c_false rfl ?_
  refine c_skip ?_
  refine bq_n ?_
  refine tq_n ?_
  refine c_region ?_
  refine ops_cons rfl (ow_move rfl ?_)
  refine ops_cons rfl (ow_add rfl rfl (w64 (by omega)) ?_)
  refine ops_cons rfl (ow_assign rfl ?_)
  refine ops_nil ?_
  refine tq_n ⟨k + 1, (.cons rfl (.cons rfl (.cons rfl (.cons rfl (.cons rfl (.nil _)))))), ?_, ?_⟩
  · exact ⟨by omega, (by rw [hi, dx, findS, if_neg (by simp [hitS, *])]; rfl), hs, X⟩
  · first | omega | (dsimp only; omega)
  refine ops_cons rfl (ow_move rfl ?_)
  refine ops_skip rfl rfl rfl rfl ?_
  refine ops_skip rfl rfl rfl rfl ?_
  refine ops_skip rfl rfl rfl rfl ?_
  refine ops_skip rfl rfl rfl rfl ?_
  refine ops_skip rfl rfl rfl rfl ?_
  refine ops_skip rfl rfl rfl rfl ?_
  refine ops_skip rfl rfl rfl rfl ?_
  refine ops_cons rfl (ow_pick rfl rfl ?_)
  refine ops_cons rfl (ow_move rfl ?_)
  refine ops_skip rfl rfl rfl rfl ?_
  refine ops_skip rfl rfl rfl rfl ?_
  refine ops_skip rfl rfl rfl rfl ?_
  refine ops_skip rfl rfl rfl rfl ?_
  refine ops_skip rfl rfl rfl rfl ?_
  refine ops_skip rfl rfl rfl rfl ?_
  refine ops_skip rfl rfl rfl rfl ?_
  refine ops_cons rfl (ow_pick rfl rfl ?_)
  refine ops_nil ?_
  refine c_false rfl ?_
  refine c_skip ?_
  refine bq_n ?_
  refine tq_n ?_
  refine c_region ?_
  refine ops_cons rfl (ow_move rfl ?_)
  refine ops_cons rfl (ow_add rfl rfl (w64 (by omega)) ?_)
  refine ops_cons rfl (ow_assign rfl ?_)
  refine ops_nil ?_
  refine tq_n ⟨k + 1, (.cons rfl (.cons rfl (.cons rfl (.cons rfl (.cons rfl (.nil _)))))), ?_, ?_⟩
  · exact ⟨by omega, (by rw [hi, dx, findS, if_neg (by simp [hitS, *])]; rfl), hs, X⟩
  · first | omega | (dsimp only; omega)
  refine ops_nil ?_
  refine c_false rfl ?_
  refine c_exit ?_
  refine tq_e ?_
  refine tq_e ?_
  refine bq_e ?_
  refine tq_n ?_
  refine c_seqR ?_
  refine ops_cons rfl (ow_assign rfl ?_)
  refine ops_nil ?_
  refine c_ret ?_
  refine fin_ret1 rfl rfl ?_
  · skip
    refine ⟨congrArg (Value.int .i64) ?_, X⟩
    first
    | (rw [hi, drop_end hk]; rfl)
    | (rw [hi, dx, findS, if_pos (by simp [hitS, *])])

theorem findSlot1_c (x : SlotI) (g1 g2 g3 : Nat) (m r s : Int) (w : World) (q1 : Blk w g1 2 [.int .i64 m]) (q2 : Blk w g2 2 [.int .i64 r]) (q3 : Blk w g3 2 [.int .i64 s]) :
    Calls Tryz.prog 200 #[.agg x.cells.toArray, .pointer (some ⟨g1, 0, none⟩), .pointer (some ⟨g2, 0, none⟩), .pointer (some ⟨g3, 0, none⟩)] w (Ret fun v w' => v = .bool (hitS m r s x) ∧ Ext w w') := by
  have X := Ext.refl w
  refine calls_of (args := [.agg x.cells.toArray, .pointer (some ⟨g1, 0, none⟩), .pointer (some ⟨g2, 0, none⟩), .pointer (some ⟨g3, 0, none⟩)]) Tryz.func200 Tryz.ntmps200 rfl rfl ?_
  refine c_seqR ?_
  refine ops_cons rfl (ow_box rfl rfl ?_)
  intro g4 w3 eg4 b1 x2 zg4
  have lg4 : w.heap.size ≤ g4 := Nat.le_trans X.size (Nat.le_of_eq eg4.symm)
  have ng4q1 := Nat.lt_of_lt_of_eq q1.lt eg4.symm
  have ng4q2 := Nat.lt_of_lt_of_eq q2.lt eg4.symm
  have ng4q3 := Nat.lt_of_lt_of_eq q3.lt eg4.symm
  replace q1 := q1.ext x2
  replace q2 := q2.ext x2
  replace q3 := q3.ext x2
  replace X := Ext.trans X x2; clear x2
  refine ops_cons rfl (ow_assign rfl ?_)
  refine ops_nil ?_
  refine c_seqR ?_
  refine ops_cons rfl (ow_fieldAddrB off89_0 rfl rfl ?_)
  refine ops_cons rfl (ow_loadB b1 ti2 rfl rfl ?_)
  refine ops_cons rfl (ow_loadB q1 ti2 rfl rfl ?_)
  refine ops_cons rfl (ow_eql2 rfl rfl (fun h5 => ?_) (fun h5 => ?_))
  refine ops_cons rfl (ow_move rfl ?_)
  refine ops_want rfl rfl rfl (ow_fieldAddrB off89_1 rfl rfl ?_)
  refine ops_want rfl rfl rfl (ow_loadB b1 ti2 rfl rfl ?_)
  refine ops_want rfl rfl rfl (ow_loadB q2 ti2 rfl rfl ?_)
  refine ops_want rfl rfl rfl (ow_eql2 rfl rfl (fun h6 => ?_) (fun h6 => ?_))
  refine ops_cons rfl (ow_pick rfl rfl ?_)
  refine ops_cons rfl (ow_move rfl ?_)
  refine ops_want rfl rfl rfl (ow_fieldAddrB off89_2 rfl rfl ?_)
  refine ops_want rfl rfl rfl (ow_loadB b1 ti2 rfl rfl ?_)
  refine ops_want rfl rfl rfl (ow_loadB q3 ti2 rfl rfl ?_)
  refine ops_want rfl rfl rfl (ow_eql rfl rfl ?_)
  refine ops_cons rfl (ow_pick rfl rfl ?_)
  refine ops_cons rfl (ow_assign rfl ?_)
  refine ops_nil ?_
  refine c_ret ?_
  refine fin_ret1 rfl rfl ?_
  exact ⟨by simp [hitS, *], X⟩
  refine ops_cons rfl (ow_pick rfl rfl ?_)
  refine ops_cons rfl (ow_move rfl ?_)
  refine ops_skip rfl rfl rfl rfl ?_
  refine ops_skip rfl rfl rfl rfl ?_
  refine ops_skip rfl rfl rfl rfl ?_
  refine ops_skip rfl rfl rfl rfl ?_
  refine ops_cons rfl (ow_pick rfl rfl ?_)
  refine ops_cons rfl (ow_assign rfl ?_)
  refine ops_nil ?_
  refine c_ret ?_
  refine fin_ret1 rfl rfl ?_
  exact ⟨by simp [hitS, *], X⟩
  refine ops_cons rfl (ow_move rfl ?_)
  refine ops_skip rfl rfl rfl rfl ?_
  refine ops_skip rfl rfl rfl rfl ?_
  refine ops_skip rfl rfl rfl rfl ?_
  refine ops_skip rfl rfl rfl rfl ?_
  refine ops_cons rfl (ow_pick rfl rfl ?_)
  refine ops_cons rfl (ow_move rfl ?_)
  refine ops_skip rfl rfl rfl rfl ?_
  refine ops_skip rfl rfl rfl rfl ?_
  refine ops_skip rfl rfl rfl rfl ?_
  refine ops_skip rfl rfl rfl rfl ?_
  refine ops_cons rfl (ow_pick rfl rfl ?_)
  refine ops_cons rfl (ow_assign rfl ?_)
  refine ops_nil ?_
  refine c_ret ?_
  refine fin_ret1 rfl rfl ?_
  exact ⟨by simp [hitS, *], X⟩

theorem indexFunc_c (A : Option Addr) (B c : Nat) (xs : List SlotI) (g1 g2 g3 : Nat) (m r s : Int) (w : World) (hs : Sl B w A (xs.flatMap SlotI.cells)) (q1 : Blk w g1 2 [.int .i64 m]) (q2 : Blk w g2 2 [.int .i64 r]) (q3 : Blk w g3 2 [.int .i64 s]) (hl : xs.length ≤ 1048576) :
    Calls Tryz.prog 192 #[.slice A xs.length c, .func (.func 200) #[] #[.pointer (some ⟨g1, 0, none⟩), .pointer (some ⟨g2, 0, none⟩), .pointer (some ⟨g3, 0, none⟩)]] w (Ret fun v w' => v = .int .i64 (findS (hitS m r s) 0 xs) ∧ Ext w w') := by
  have Bhs := hs.1
  have X := Ext.refl w
  refine calls_of (args := [.slice A xs.length c, .func (.func 200) #[] #[.pointer (some ⟨g1, 0, none⟩), .pointer (some ⟨g2, 0, none⟩), .pointer (some ⟨g3, 0, none⟩)]]) Tryz.func192 Tryz.ntmps192 rfl rfl ?_
  refine c_seqR ?_
  refine ops_cons rfl (ow_assign rfl ?_)
  refine ops_nil ?_
  refine c_seq ?_
  refine c_seqR ?_
  refine ops_cons rfl (ow_move rfl ?_)
  refine ops_cons rfl (ow_len Tryz.underlying26 rfl ?_)
  refine ops_cons rfl (ow_move rfl ?_)
  refine ops_nil ?_
  refine c_block ?_
  refine c_loop (G := Nat) (fun k => [(0, .slice A xs.length c), (1, .func (.func 200) #[] #[.pointer (some ⟨g1, 0, none⟩), .pointer (some ⟨g2, 0, none⟩), .pointer (some ⟨g3, 0, none⟩)]), (7, .int .i64 (xs.length : Nat)), (8, .int .i64 (k : Nat))]) (fun k wr => k ≤ xs.length ∧ (findS (hitS m r s) 0 xs) = findS (hitS m r s) (k : Int) (xs.drop k) ∧ Sl B wr A (xs.flatMap SlotI.cells) ∧ Blk wr g1 2 [.int .i64 m] ∧ Blk wr g2 2 [.int .i64 r] ∧ Blk wr g3 2 [.int .i64 s] ∧ Ext w wr) (fun k => xs.length - k) 0 (.cons rfl (.cons rfl (.cons rfl (.cons rfl (.nil _))))) ?_ ?_
  · exact ⟨by omega, rfl, hs, q1, q2, q3, X⟩
  clear hs q1 q2 q3
  clear X
  rintro k wr ⟨hk0, hi, hs, q1, q2, q3, X⟩
  refine c_seqR ?_
  refine ops_cons rfl (ow_lss2 rfl rfl (fun hk => ?_) (fun hk => ?_))
  obtain ⟨x, hx, dx⟩ := drop_at' hk
  refine ops_nil ?_
  refine c_seq ?_
  refine c_true rfl ?_
  refine c_skip ?_
  refine tq_n ?_
  refine c_seq ?_
  refine c_block ?_
  refine c_seqR ?_
  refine ops_cons rfl (ow_move rfl ?_)
  refine ops_cons rfl (ow_assign rfl ?_)
  refine ops_nil ?_
  refine c_seqR ?_
  refine ops_cons rfl (ow_move rfl ?_)
  refine ops_cons rfl (ow_move rfl ?_)
  refine ops_cons rfl (ow_move rfl ?_)
  refine ops_cons rfl (ow_indexT hs SlotI.len rfl el26 rfl rfl rfl hx rfl ?_)
  refine ops_cons rfl (ow_loadTA hs SlotI.len hx ti89 rfl ?_)
  refine ops_cons rfl (ow_callVLB ent200 rfl rfl (findSlot1_c _ _ _ _ _ _ _ _ q1 q2 q3) (fun w3 h1 x2 => ?_) (fun w3 h1 x2 => ?_))
  replace hs := hs.ext x2
  replace q1 := q1.ext x2
  replace q2 := q2.ext x2
  replace q3 := q3.ext x2
  replace X := Ext.trans X x2; clear x2
  refine ops_nil ?_
  refine c_true rfl ?_
  refine c_seqR ?_
  refine ops_cons rfl (ow_move rfl ?_)
  refine ops_cons rfl (ow_assign rfl ?_)
  refine ops_nil ?_
  refine c_ret ?_
  refine bq_r ?_
  refine tq_r ?_
  refine tq_r ?_
  refine bq_r ?_
  refine tq_r ?_
  refine fin_ret1 rfl rfl ?_
  · skip
    refine ⟨congrArg (Value.int .i64) ?_, X⟩
    first
    | (rw [hi, drop_end hk]; rfl)
    | (rw [hi, dx, findS, if_pos (by simp [*])])
  replace hs := hs.ext x2
  replace q1 := q1.ext x2
  replace q2 := q2.ext x2
  replace q3 := q3.ext x2
  replace X := Ext.trans X x2; clear x2
  refine ops_nil ?_
  refine c_false rfl ?_
  refine c_skip ?_
  refine bq_n ?_
  refine tq_n ?_
  refine c_region ?_
  refine ops_cons rfl (ow_add rfl rfl (w64 (by omega)) ?_)
  refine ops_cons rfl (ow_move rfl ?_)
  refine ops_nil ?_
  refine tq_n ⟨k + 1, (.cons rfl (.cons rfl (.cons rfl (.cons rfl (.nil _))))), ?_, ?_⟩
  · exact ⟨by omega, (by rw [hi, dx, findS, if_neg (by simp [*])]; rfl), hs, q1, q2, q3, X⟩
  · first | omega | (dsimp only; omega)
  refine ops_nil ?_
  refine c_seq ?_
  refine c_false rfl ?_
  refine c_exit ?_
  refine tq_e ?_
  refine tq_e ?_
  refine bq_e ?_
  refine tq_n ?_
  refine c_seqR ?_
  refine ops_cons rfl (ow_assign rfl ?_)
  refine ops_nil ?_
  refine c_ret ?_
  refine fin_ret1 rfl rfl ?_
  · skip
    refine ⟨congrArg (Value.int .i64) ?_, X⟩
    first
    | (rw [hi, drop_end hk]; rfl)
    | (rw [hi, dx, findS, if_pos (by simp [*])])

theorem findSlot_c (A : Option Addr) (B c : Nat) (xs : List SlotI) (m r s : Int) (w : World) (hs : Sl B w A (xs.flatMap SlotI.cells)) (hl : xs.length ≤ 1048576) :
    Calls Tryz.prog 128 #[.slice A xs.length c, .int .i64 m, .int .i64 r, .int .i64 s] w (Ret fun v w' => v = .int .i64 (findS (hitS m r s) 0 xs) ∧ Ext w w') := by
  have Bhs := hs.1
  have X := Ext.refl w
  refine calls_of (args := [.slice A xs.length c, .int .i64 m, .int .i64 r, .int .i64 s]) Tryz.func128 Tryz.ntmps128 rfl rfl ?_
  refine c_seqR ?_
  refine ops_cons rfl (ow_box rfl rfl ?_)
  intro g4 w3 eg4 b1 x2 zg4
  have lg4 : w.heap.size ≤ g4 := Nat.le_trans X.size (Nat.le_of_eq eg4.symm)
  have pg4hs := Nat.le_trans hs.1 (Nat.le_of_eq eg4.symm)
  replace hs := hs.ext x2
  replace X := Ext.trans X x2; clear x2
  refine ops_cons rfl (ow_box rfl rfl ?_)
  intro g8 w7 eg8 b5 x6 zg8
  have lg8 : w.heap.size ≤ g8 := Nat.le_trans X.size (Nat.le_of_eq eg8.symm)
  have pg8hs := Nat.le_trans hs.1 (Nat.le_of_eq eg8.symm)
  have ng8b1 := Nat.lt_of_lt_of_eq b1.lt eg8.symm
  replace hs := hs.ext x6
  replace b1 := b1.ext x6
  replace X := Ext.trans X x6; clear x6
  refine ops_cons rfl (ow_box rfl rfl ?_)
  intro g12 w11 eg12 b9 x10 zg12
  have lg12 : w.heap.size ≤ g12 := Nat.le_trans X.size (Nat.le_of_eq eg12.symm)
  have pg12hs := Nat.le_trans hs.1 (Nat.le_of_eq eg12.symm)
  have ng12b1 := Nat.lt_of_lt_of_eq b1.lt eg12.symm
  have ng12b5 := Nat.lt_of_lt_of_eq b5.lt eg12.symm
  replace hs := hs.ext x10
  replace b1 := b1.ext x10
  replace b5 := b5.ext x10
  replace X := Ext.trans X x10; clear x10
  refine ops_cons rfl (ow_assign rfl ?_)
  refine ops_nil ?_
  refine c_seqR ?_
  refine ops_cons rfl (ow_move rfl ?_)
  refine ops_cons rfl (ow_makeFunc rfl ?_)
  refine ops_cons rfl (ow_call ent192 rfl (ret_mono (indexFunc_c _ _ _ _ _ _ _ _ _ _ _ hs b1 b5 b9 hl) ?_))
  rintro _ w14 ⟨rfl, x13⟩
  replace hs := hs.ext x13
  replace b1 := b1.ext x13
  replace b5 := b5.ext x13
  replace b9 := b9.ext x13
  replace X := Ext.trans X x13; clear x13
  refine ops_cons rfl (ow_assign rfl ?_)
  refine ops_nil ?_
  refine c_ret ?_
  refine fin_ret1 rfl rfl ?_
  exact ⟨by rfl, X⟩
end Go.Proofs.YtojgfbbdjobdnaaGreatDoor
