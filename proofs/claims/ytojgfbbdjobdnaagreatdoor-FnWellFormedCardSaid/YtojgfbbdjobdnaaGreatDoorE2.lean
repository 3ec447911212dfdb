/- Which tables of modes are valid. No condition. -/
import Derived.Test.YtojgfbbdjobdnaaGreatDoorE1
namespace Go.Proofs.YtojgfbbdjobdnaaGreatDoor
open Go.RowKit
set_option linter.unusedVariables false
set_option linter.unusedSimpArgs false
set_option maxRecDepth 20000
theorem sIsMT_c (A : Option Addr) (B B2 c : Nat) (xs : List ModeI) (w : World) (hs : Sl B w A (xs.flatMap ModeI.cells)) (hn : Nexts B2 w xs) (hl : xs.length ≤ 1048576) (hz : ∀ x ∈ xs, x.m.next.length ≤ 1048576) :
    Calls Tryz.prog 118 #[.slice A xs.length c] w (Ret fun v w' => v = .bool (isMT (xs.map (·.m))) ∧ Ext w w') := by
  have Bhs := hs.1
  have Bhn := hn.1
  have X := Ext.refl w
  refine calls_of (args := [.slice A xs.length c]) Tryz.func118 Tryz.ntmps118 rfl rfl ?_
  refine c_seqR ?_
  refine ops_cons rfl (ow_assign rfl ?_)
  refine ops_nil ?_
  refine c_seq ?_
  refine c_seqR ?_
  refine ops_cons rfl (ow_move rfl ?_)
  refine ops_cons rfl (ow_len Tryz.underlying25 rfl ?_)
  refine ops_cons rfl (ow_callB ent116 rfl (l01In_c _ _ _ _) (fun w2 hB x1 => ?_) (fun w2 hB x1 => ?_))
  replace hs := hs.ext x1
  replace hn := hn.ext x1
  replace X := Ext.trans X x1; clear x1
  refine ops_cons rfl (ow_not rfl ?_)
  refine ops_nil ?_
  refine c_false rfl ?_
  refine c_skip ?_
  refine tq_n ?_
  refine c_seq ?_
  refine c_seqR ?_
  refine ops_cons rfl (ow_assign rfl ?_)
  refine ops_nil ?_
  refine c_block ?_
  refine c_loop (G := Nat) (fun k => [(0, .slice A xs.length c), (3, .int .i64 (k : Nat))]) (fun k wr => k ≤ xs.length ∧ modesFrom (xs.length : Int) 0 (xs.map (·.m)) = modesFrom (xs.length : Int) k ((xs.drop k).map (·.m)) ∧ Sl B wr A (xs.flatMap ModeI.cells) ∧ Nexts B2 wr xs ∧ Ext w wr) (fun k => xs.length - k) 0 (.cons rfl (.cons rfl (.nil _))) ?_ ?_
  · exact ⟨by omega, rfl, hs, hn, X⟩
  clear hs hn
  clear X
  rintro k wr ⟨hk0, hi, hs, hn, X⟩
  refine c_seq ?_
  refine c_seqR ?_
  refine ops_cons rfl (ow_move rfl ?_)
  refine ops_cons rfl (ow_move rfl ?_)
  refine ops_cons rfl (ow_len Tryz.underlying25 rfl ?_)
  refine ops_cons rfl (ow_lss2 rfl rfl (fun hk => ?_) (fun hk => ?_))
  obtain ⟨x, hx, dx⟩ := drop_at' hk
  refine ops_nil ?_
  refine c_true rfl ?_
  refine c_skip ?_
  refine tq_n ?_
  refine c_seq ?_
  refine c_block ?_
  refine c_seqR ?_
  refine ops_cons rfl (ow_move rfl ?_)
  refine ops_cons rfl (ow_move rfl ?_)
  refine ops_cons rfl (ow_indexT hs ModeI.len rfl el25 rfl rfl rfl hx rfl ?_)
  have hnx := hn.at_ hx
  have hlx := hz x (List.mem_of_getElem? hx)
  refine ops_cons rfl (ow_loadTA hs ModeI.len hx ti45 rfl ?_)
  refine ops_cons rfl (ow_alloc ti45 ?_)
  intro g6 w5 eg6 b3 x4 zg6
  have lg6 : w.heap.size ≤ g6 := Nat.le_trans X.size (Nat.le_of_eq eg6.symm)
  have pg6hs := Nat.le_trans hs.1 (Nat.le_of_eq eg6.symm)
  have pg6hn := Nat.le_trans hn.1 (Nat.le_of_eq eg6.symm)
  have pg6hnx := Nat.le_trans hnx.1 (Nat.le_of_eq eg6.symm)
  replace hs := hs.ext x4
  replace hn := hn.ext x4
  replace hnx := hnx.ext x4
  replace X := Ext.trans X x4; clear x4
  refine ops_cons rfl (ow_storeB b3 ti45 rfl rfl rfl rfl rfl rfl ?_)
  intro w9 b11 hg7 z10
  replace hs := hs.grown hg7 (by intro g hg; injection hg; omega)
  replace hn := hn.grown hg7 (by intro g hg; injection hg; omega)
  replace hnx := hnx.grown hg7 (by intro g hg; injection hg; omega)
  replace X := X.grown hg7 X.size (by intro g hg; injection hg; omega)
  clear hg7 b3
  refine ops_nil ?_
  refine c_seqR ?_
  refine ops_cons rfl (ow_fieldAddrB off45_0 rfl rfl ?_)
  refine ops_cons rfl (ow_loadB b11 ti2 rfl rfl ?_)
  refine ops_cons rfl (ow_callB ent116 rfl (l01In_c _ _ _ _) (fun w14 h12 x13 => ?_) (fun w14 h12 x13 => ?_))
  replace hs := hs.ext x13
  replace hn := hn.ext x13
  replace hnx := hnx.ext x13
  replace b11 := b11.ext x13
  replace X := Ext.trans X x13; clear x13
  refine ops_cons rfl (ow_not rfl ?_)
  refine ops_cons rfl (ow_move rfl ?_)
  refine ops_want rfl rfl rfl (ow_fieldAddrB off45_1 rfl rfl ?_)
  refine ops_want rfl rfl rfl (ow_loadB b11 ti2 rfl rfl ?_)
  refine ops_want rfl rfl rfl (ow_callB ent116 rfl (l01In_c _ _ _ _) (fun w17 h15 x16 => ?_) (fun w17 h15 x16 => ?_))
  replace hs := hs.ext x16
  replace hn := hn.ext x16
  replace hnx := hnx.ext x16
  replace b11 := b11.ext x16
  replace X := Ext.trans X x16; clear x16
  refine ops_want rfl rfl rfl (ow_not rfl ?_)
  refine ops_cons rfl (ow_pick rfl rfl ?_)
  refine ops_cons rfl (ow_move rfl ?_)
  refine ops_want rfl rfl rfl (ow_fieldAddrB off45_2 rfl rfl ?_)
  refine ops_want rfl rfl rfl (ow_loadB b11 ti30 rfl rfl ?_)
  refine ops_want rfl rfl rfl (ow_move rfl ?_)
  refine ops_want rfl rfl rfl (ow_len Tryz.underlying25 rfl ?_)
  refine ops_want rfl rfl rfl (ow_callB ent195 rfl (l01Rises_c _ _ _ _ _ _ hnx hlx (by omega)) (fun w20 h18 x19 => ?_) (fun w20 h18 x19 => ?_))
  replace hs := hs.ext x19
  replace hn := hn.ext x19
  replace hnx := hnx.ext x19
  replace b11 := b11.ext x19
  replace X := Ext.trans X x19; clear x19
  refine ops_want rfl rfl rfl (ow_not rfl ?_)
  refine ops_cons rfl (ow_pick rfl rfl ?_)
  refine ops_cons rfl (ow_move rfl ?_)
  refine ops_want rfl rfl rfl (ow_fieldAddrB off45_2 rfl rfl ?_)
  refine ops_want rfl rfl rfl (ow_loadB b11 ti30 rfl rfl ?_)
  refine ops_want rfl rfl rfl (ow_move rfl ?_)
  refine ops_want rfl rfl rfl (ow_callB ent96 rfl (l01Has_c _ _ _ _ _ _ hnx hlx) (fun w23 h21 x22 => ?_) (fun w23 h21 x22 => ?_))
  replace hs := hs.ext x22
  replace hn := hn.ext x22
  replace hnx := hnx.ext x22
  replace b11 := b11.ext x22
  replace X := Ext.trans X x22; clear x22
  refine ops_cons rfl (ow_pick rfl rfl ?_)
  refine ops_nil ?_
  refine c_true rfl ?_
  refine c_seqR ?_
  refine ops_cons rfl (ow_assign rfl ?_)
  refine ops_nil ?_
  refine c_ret ?_
  refine bq_r ?_
  refine tq_r ?_
  refine tq_r ?_
  refine bq_r ?_
  refine tq_r ?_
  refine fin_ret1 rfl rfl ?_
  · skip
    refine ⟨congrArg Value.bool ?_, X⟩
    rw [isMT, List.length_map]
    first
    | (rw [hB]; rfl)
    | (rw [hB, hi, drop_end hk]; rfl)
    | (rw [hi, drop_end hk]; simp [modesFrom, inB, *]; done)
    | (rw [hi, drop_end hk]; simp [modesFrom, inB]; omega)
    | (rw [hi, dx, List.map_cons, modesFrom]; simp [modeOk, *])
  replace hs := hs.ext x22
  replace hn := hn.ext x22
  replace hnx := hnx.ext x22
  replace b11 := b11.ext x22
  replace X := Ext.trans X x22; clear x22
  refine ops_cons rfl (ow_pick rfl rfl ?_)
  refine ops_nil ?_
  refine c_false rfl ?_
  refine c_skip ?_
  refine bq_n ?_
  refine tq_n ?_
  refine c_region ?_
  refine ops_cons rfl (ow_move rfl ?_)
  refine ops_cons rfl (ow_add rfl rfl (w64 (by omega)) ?_)
  refine ops_cons rfl (ow_assign rfl ?_)
  refine ops_nil ?_
  refine tq_n ⟨k + 1, (.cons rfl (.cons rfl (.nil _))), ?_, ?_⟩
  · exact ⟨by omega, (by rw [hi, dx, List.map_cons, modesFrom]; simp [modeOk, *]), hs, hn, X⟩
  · first | omega | (dsimp only; omega)
  replace hs := hs.ext x19
  replace hn := hn.ext x19
  replace hnx := hnx.ext x19
  replace b11 := b11.ext x19
  replace X := Ext.trans X x19; clear x19
  refine ops_want rfl rfl rfl (ow_not rfl ?_)
  refine ops_cons rfl (ow_pick rfl rfl ?_)
  refine ops_cons rfl (ow_move rfl ?_)
  refine ops_skip rfl rfl rfl rfl ?_
  refine ops_skip rfl rfl rfl rfl ?_
  refine ops_skip rfl rfl rfl rfl ?_
  refine ops_skip rfl rfl rfl rfl ?_
  refine ops_cons rfl (ow_pick rfl rfl ?_)
  refine ops_nil ?_
  refine c_true rfl ?_
  refine c_seqR ?_
  refine ops_cons rfl (ow_assign rfl ?_)
  refine ops_nil ?_
  refine c_ret ?_
  refine bq_r ?_
  refine tq_r ?_
  refine tq_r ?_
  refine bq_r ?_
  refine tq_r ?_
  refine fin_ret1 rfl rfl ?_
  · skip
    refine ⟨congrArg Value.bool ?_, X⟩
    rw [isMT, List.length_map]
    first
    | (rw [hB]; rfl)
    | (rw [hB, hi, drop_end hk]; rfl)
    | (rw [hi, drop_end hk]; simp [modesFrom, inB, *]; done)
    | (rw [hi, drop_end hk]; simp [modesFrom, inB]; omega)
    | (rw [hi, dx, List.map_cons, modesFrom]; simp [modeOk, *])
  replace hs := hs.ext x16
  replace hn := hn.ext x16
  replace hnx := hnx.ext x16
  replace b11 := b11.ext x16
  replace X := Ext.trans X x16; clear x16
  refine ops_want rfl rfl rfl (ow_not rfl ?_)
  refine ops_cons rfl (ow_pick rfl rfl ?_)
  refine ops_cons rfl (ow_move rfl ?_)
  refine ops_skip rfl rfl rfl rfl ?_
  refine ops_skip rfl rfl rfl rfl ?_
  refine ops_skip rfl rfl rfl rfl ?_
  refine ops_skip rfl rfl rfl rfl ?_
  refine ops_skip rfl rfl rfl rfl ?_
  refine ops_skip rfl rfl rfl rfl ?_
  refine ops_cons rfl (ow_pick rfl rfl ?_)
  refine ops_cons rfl (ow_move rfl ?_)
  refine ops_skip rfl rfl rfl rfl ?_
  refine ops_skip rfl rfl rfl rfl ?_
  refine ops_skip rfl rfl rfl rfl ?_
  refine ops_skip rfl rfl rfl rfl ?_
  refine ops_cons rfl (ow_pick rfl rfl ?_)
  refine ops_nil ?_
  refine c_true rfl ?_
  refine c_seqR ?_
  refine ops_cons rfl (ow_assign rfl ?_)
  refine ops_nil ?_
  refine c_ret ?_
  refine bq_r ?_
  refine tq_r ?_
  refine tq_r ?_
  refine bq_r ?_
  refine tq_r ?_
  refine fin_ret1 rfl rfl ?_
  · skip
    refine ⟨congrArg Value.bool ?_, X⟩
    rw [isMT, List.length_map]
    first
    | (rw [hB]; rfl)
    | (rw [hB, hi, drop_end hk]; rfl)
    | (rw [hi, drop_end hk]; simp [modesFrom, inB, *]; done)
    | (rw [hi, drop_end hk]; simp [modesFrom, inB]; omega)
    | (rw [hi, dx, List.map_cons, modesFrom]; simp [modeOk, *])
  replace hs := hs.ext x13
  replace hn := hn.ext x13
  replace hnx := hnx.ext x13
  replace b11 := b11.ext x13
  replace X := Ext.trans X x13; clear x13
  refine ops_cons rfl (ow_not rfl ?_)
  refine ops_cons rfl (ow_move rfl ?_)
  refine ops_skip rfl rfl rfl rfl ?_
  refine ops_skip rfl rfl rfl rfl ?_
  refine ops_skip rfl rfl rfl rfl ?_
  refine ops_skip rfl rfl rfl rfl ?_
  refine ops_cons rfl (ow_pick rfl rfl ?_)
  refine ops_cons rfl (ow_move rfl ?_)
  refine ops_skip rfl rfl rfl rfl ?_
  refine ops_skip rfl rfl rfl rfl ?_
  refine ops_skip rfl rfl rfl rfl ?_
  refine ops_skip rfl rfl rfl rfl ?_
  refine ops_skip rfl rfl rfl rfl ?_
  refine ops_skip rfl rfl rfl rfl ?_
  refine ops_cons rfl (ow_pick rfl rfl ?_)
  refine ops_cons rfl (ow_move rfl ?_)
  refine ops_skip rfl rfl rfl rfl ?_
  refine ops_skip rfl rfl rfl rfl ?_
  refine ops_skip rfl rfl rfl rfl ?_
  refine ops_skip rfl rfl rfl rfl ?_
  refine ops_cons rfl (ow_pick rfl rfl ?_)
  refine ops_nil ?_
  refine c_true rfl ?_
  refine c_seqR ?_
  refine ops_cons rfl (ow_assign rfl ?_)
  refine ops_nil ?_
  refine c_ret ?_
  refine bq_r ?_
  refine tq_r ?_
  refine tq_r ?_
  refine bq_r ?_
  refine tq_r ?_
  refine fin_ret1 rfl rfl ?_
  · skip
    refine ⟨congrArg Value.bool ?_, X⟩
    rw [isMT, List.length_map]
    first
    | (rw [hB]; rfl)
    | (rw [hB, hi, drop_end hk]; rfl)
    | (rw [hi, drop_end hk]; simp [modesFrom, inB, *]; done)
    | (rw [hi, drop_end hk]; simp [modesFrom, inB]; omega)
    | (rw [hi, dx, List.map_cons, modesFrom]; simp [modeOk, *])
  refine ops_nil ?_
  refine c_false rfl ?_
  refine c_exit ?_
  refine tq_e ?_
  refine tq_e ?_
  refine bq_e ?_
  refine tq_n ?_
  refine c_seqR ?_
  refine ops_cons rfl (ow_assign rfl ?_)
  refine ops_nil ?_
  refine c_ret ?_
  refine fin_ret1 rfl rfl ?_
  · skip
    refine ⟨congrArg Value.bool ?_, X⟩
    rw [isMT, List.length_map]
    first
    | (rw [hB]; rfl)
    | (rw [hB, hi, drop_end hk]; rfl)
    | (rw [hi, drop_end hk]; simp [modesFrom, inB, *]; done)
    | (rw [hi, drop_end hk]; simp [modesFrom, inB]; omega)
    | (rw [hi, dx, List.map_cons, modesFrom]; simp [modeOk, *])
  replace hs := hs.ext x1
  replace hn := hn.ext x1
  replace X := Ext.trans X x1; clear x1
  refine ops_cons rfl (ow_not rfl ?_)
  refine ops_nil ?_
  refine c_true rfl ?_
  refine c_seqR ?_
  refine ops_cons rfl (ow_assign rfl ?_)
  refine ops_nil ?_
  refine c_ret ?_
  refine tq_r ?_
  refine fin_ret1 rfl rfl ?_
  · skip
    refine ⟨congrArg Value.bool ?_, X⟩
    rw [isMT, List.length_map]
    first
    | (rw [hB]; rfl)
    | (rw [hB, hi, drop_end hk]; rfl)
    | (rw [hi, drop_end hk]; simp [modesFrom, inB, *]; done)
    | (rw [hi, drop_end hk]; simp [modesFrom, inB]; omega)
    | (rw [hi, dx, List.map_cons, modesFrom]; simp [modeOk, *])

theorem iIsMT_c (A : Option Addr) (B B2 c : Nat) (xs : List ModeI) (w : World) (hs : Sl B w A (xs.flatMap ModeI.cells)) (hn : Nexts B2 w xs) (hl : xs.length ≤ 1048576) (hz : ∀ x ∈ xs, x.m.next.length ≤ 1048576) :
    Calls Tryz.prog 109 #[.slice A xs.length c] w (Ret fun v w' => v = .bool (isMT (xs.map (·.m))) ∧ Ext w w') := by
  have Bhs := hs.1
  have Bhn := hn.1
  have X := Ext.refl w
  refine calls_of (args := [.slice A xs.length c]) Tryz.func109 Tryz.ntmps109 rfl rfl ?_
  refine c_seqR ?_
  refine ops_cons rfl (ow_assign rfl ?_)
  refine ops_nil ?_
  refine c_seq ?_
  refine c_seqR ?_
  refine ops_cons rfl (ow_move rfl ?_)
  refine ops_cons rfl (ow_len Tryz.underlying25 rfl ?_)
  refine ops_cons rfl (ow_move rfl ?_)
  refine ops_nil ?_
  refine c_block ?_
  refine c_loop (G := Nat) (fun k => [(0, .slice A xs.length c), (5, .slice A xs.length c), (6, .int .i64 (xs.length : Nat)), (7, .int .i64 (k : Nat))]) (fun k wr => k ≤ xs.length ∧ modesFrom (xs.length : Int) 0 (xs.map (·.m)) = modesFrom (xs.length : Int) k ((xs.drop k).map (·.m)) ∧ Sl B wr A (xs.flatMap ModeI.cells) ∧ Nexts B2 wr xs ∧ Ext w wr) (fun k => xs.length - k) 0 (.cons rfl (.cons rfl (.cons rfl (.cons rfl (.nil _))))) ?_ ?_
  · exact ⟨by omega, rfl, hs, hn, X⟩
  clear hs hn
  clear X
  rintro k wr ⟨hk0, hi, hs, hn, X⟩
  refine c_seqR ?_
  refine ops_cons rfl (ow_lss2 rfl rfl (fun hk => ?_) (fun hk => ?_))
  obtain ⟨x, hx, dx⟩ := drop_at' hk
  refine ops_nil ?_
  refine c_seq ?_
  refine c_true rfl ?_
  refine c_skip ?_
  refine tq_n ?_
  refine c_seq ?_
  refine c_block ?_
  refine c_seqR ?_
  refine ops_cons rfl (ow_move rfl ?_)
  refine ops_cons rfl (ow_indexT hs ModeI.len rfl el25 rfl rfl rfl hx rfl ?_)
  have hnx := hn.at_ hx
  have hlx := hz x (List.mem_of_getElem? hx)
  refine ops_cons rfl (ow_loadTA hs ModeI.len hx ti45 rfl ?_)
  refine ops_cons rfl (ow_alloc ti45 ?_)
  intro g4 w3 eg4 b1 x2 zg4
  have lg4 : w.heap.size ≤ g4 := Nat.le_trans X.size (Nat.le_of_eq eg4.symm)
  have pg4hs := Nat.le_trans hs.1 (Nat.le_of_eq eg4.symm)
  have pg4hn := Nat.le_trans hn.1 (Nat.le_of_eq eg4.symm)
  have pg4hnx := Nat.le_trans hnx.1 (Nat.le_of_eq eg4.symm)
  replace hs := hs.ext x2
  replace hn := hn.ext x2
  replace hnx := hnx.ext x2
  replace X := Ext.trans X x2; clear x2
  refine ops_cons rfl (ow_assign rfl ?_)
  refine ops_cons rfl (ow_storeB b1 ti45 rfl rfl rfl rfl rfl rfl ?_)
  intro w6 b8 hg5 z7
  replace hs := hs.grown hg5 (by intro g hg; injection hg; omega)
  replace hn := hn.grown hg5 (by intro g hg; injection hg; omega)
  replace hnx := hnx.grown hg5 (by intro g hg; injection hg; omega)
  replace X := X.grown hg5 X.size (by intro g hg; injection hg; omega)
  clear hg5 b1
  refine ops_nil ?_
  refine c_seqR ?_
  refine ops_cons rfl (ow_fieldAddrB off45_0 rfl rfl ?_)
  refine ops_cons rfl (ow_loadB b8 ti2 rfl rfl ?_)
  refine ops_cons rfl (ow_callB ent107 rfl (within_c _ _ _ _) (fun w11 h9 x10 => ?_) (fun w11 h9 x10 => ?_))
  replace hs := hs.ext x10
  replace hn := hn.ext x10
  replace hnx := hnx.ext x10
  replace b8 := b8.ext x10
  replace X := Ext.trans X x10; clear x10
  refine ops_cons rfl (ow_not rfl ?_)
  refine ops_cons rfl (ow_move rfl ?_)
  refine ops_want rfl rfl rfl (ow_fieldAddrB off45_1 rfl rfl ?_)
  refine ops_want rfl rfl rfl (ow_loadB b8 ti2 rfl rfl ?_)
  refine ops_want rfl rfl rfl (ow_callB ent107 rfl (within_c _ _ _ _) (fun w14 h12 x13 => ?_) (fun w14 h12 x13 => ?_))
  replace hs := hs.ext x13
  replace hn := hn.ext x13
  replace hnx := hnx.ext x13
  replace b8 := b8.ext x13
  replace X := Ext.trans X x13; clear x13
  refine ops_want rfl rfl rfl (ow_not rfl ?_)
  refine ops_cons rfl (ow_pick rfl rfl ?_)
  refine ops_cons rfl (ow_move rfl ?_)
  refine ops_want rfl rfl rfl (ow_fieldAddrB off45_2 rfl rfl ?_)
  refine ops_want rfl rfl rfl (ow_loadB b8 ti30 rfl rfl ?_)
  refine ops_want rfl rfl rfl (ow_move rfl ?_)
  refine ops_want rfl rfl rfl (ow_len Tryz.underlying25 rfl ?_)
  refine ops_want rfl rfl rfl (ow_callB ent189 rfl (isRising_c _ _ _ _ _ _ hnx hlx (by omega)) (fun w17 h15 x16 => ?_) (fun w17 h15 x16 => ?_))
  replace hs := hs.ext x16
  replace hn := hn.ext x16
  replace hnx := hnx.ext x16
  replace b8 := b8.ext x16
  replace X := Ext.trans X x16; clear x16
  refine ops_want rfl rfl rfl (ow_not rfl ?_)
  refine ops_cons rfl (ow_pick rfl rfl ?_)
  refine ops_cons rfl (ow_move rfl ?_)
  refine ops_want rfl rfl rfl (ow_fieldAddrB off45_2 rfl rfl ?_)
  refine ops_want rfl rfl rfl (ow_loadB b8 ti30 rfl rfl ?_)
  refine ops_want rfl rfl rfl (ow_move rfl ?_)
  refine ops_want rfl rfl rfl (ow_callB ent89 rfl (contains_c _ _ _ _ _ _ hnx hlx) (fun w20 h18 x19 => ?_) (fun w20 h18 x19 => ?_))
  replace hs := hs.ext x19
  replace hn := hn.ext x19
  replace hnx := hnx.ext x19
  replace b8 := b8.ext x19
  replace X := Ext.trans X x19; clear x19
  refine ops_cons rfl (ow_pick rfl rfl ?_)
  refine ops_nil ?_
  refine c_true rfl ?_
  refine c_seqR ?_
  refine ops_cons rfl (ow_assign rfl ?_)
  refine ops_nil ?_
  refine c_ret ?_
  refine bq_r ?_
  refine tq_r ?_
  refine tq_r ?_
  refine bq_r ?_
  refine tq_r ?_
  refine fin_ret1 rfl rfl ?_
  · skip
    refine ⟨congrArg Value.bool ?_, X⟩
    rw [isMT, List.length_map]
    first
    | (rw [hB]; rfl)
    | (rw [hB, hi, drop_end hk]; rfl)
    | (rw [hi, drop_end hk]; simp [modesFrom, inB, *]; done)
    | (rw [hi, drop_end hk]; simp [modesFrom, inB]; omega)
    | (rw [hi, dx, List.map_cons, modesFrom]; simp [modeOk, *])
  replace hs := hs.ext x19
  replace hn := hn.ext x19
  replace hnx := hnx.ext x19
  replace b8 := b8.ext x19
  replace X := Ext.trans X x19; clear x19
  refine ops_cons rfl (ow_pick rfl rfl ?_)
  refine ops_nil ?_
  refine c_false rfl ?_
  refine c_skip ?_
  refine bq_n ?_
  refine tq_n ?_
  refine c_region ?_
  refine ops_cons rfl (ow_add rfl rfl (w64 (by omega)) ?_)
  refine ops_cons rfl (ow_move rfl ?_)
  refine ops_nil ?_
  refine tq_n ⟨k + 1, (.cons rfl (.cons rfl (.cons rfl (.cons rfl (.nil _))))), ?_, ?_⟩
  · exact ⟨by omega, (by rw [hi, dx, List.map_cons, modesFrom]; simp [modeOk, *]), hs, hn, X⟩
  · first | omega | (dsimp only; omega)
  replace hs := hs.ext x16
  replace hn := hn.ext x16
  replace hnx := hnx.ext x16
  replace b8 := b8.ext x16
  replace X := Ext.trans X x16; clear x16
  refine ops_want rfl rfl rfl (ow_not rfl ?_)
  refine ops_cons rfl (ow_pick rfl rfl ?_)
  refine ops_cons rfl (ow_move rfl ?_)
  refine ops_skip rfl rfl rfl rfl ?_
  refine ops_skip rfl rfl rfl rfl ?_
  refine ops_skip rfl rfl rfl rfl ?_
  refine ops_skip rfl rfl rfl rfl ?_
  refine ops_cons rfl (ow_pick rfl rfl ?_)
  refine ops_nil ?_
  refine c_true rfl ?_
  refine c_seqR ?_
  refine ops_cons rfl (ow_assign rfl ?_)
  refine ops_nil ?_
  refine c_ret ?_
  refine bq_r ?_
  refine tq_r ?_
  refine tq_r ?_
  refine bq_r ?_
  refine tq_r ?_
  refine fin_ret1 rfl rfl ?_
  · skip
    refine ⟨congrArg Value.bool ?_, X⟩
    rw [isMT, List.length_map]
    first
    | (rw [hB]; rfl)
    | (rw [hB, hi, drop_end hk]; rfl)
    | (rw [hi, drop_end hk]; simp [modesFrom, inB, *]; done)
    | (rw [hi, drop_end hk]; simp [modesFrom, inB]; omega)
    | (rw [hi, dx, List.map_cons, modesFrom]; simp [modeOk, *])
  replace hs := hs.ext x13
  replace hn := hn.ext x13
  replace hnx := hnx.ext x13
  replace b8 := b8.ext x13
  replace X := Ext.trans X x13; clear x13
  refine ops_want rfl rfl rfl (ow_not rfl ?_)
  refine ops_cons rfl (ow_pick rfl rfl ?_)
  refine ops_cons rfl (ow_move rfl ?_)
  refine ops_skip rfl rfl rfl rfl ?_
  refine ops_skip rfl rfl rfl rfl ?_
  refine ops_skip rfl rfl rfl rfl ?_
  refine ops_skip rfl rfl rfl rfl ?_
  refine ops_skip rfl rfl rfl rfl ?_
  refine ops_skip rfl rfl rfl rfl ?_
  refine ops_cons rfl (ow_pick rfl rfl ?_)
  refine ops_cons rfl (ow_move rfl ?_)
  refine ops_skip rfl rfl rfl rfl ?_
  refine ops_skip rfl rfl rfl rfl ?_
  refine ops_skip rfl rfl rfl rfl ?_
  refine ops_skip rfl rfl rfl rfl ?_
  refine ops_cons rfl (ow_pick rfl rfl ?_)
  refine ops_nil ?_
  refine c_true rfl ?_
  refine c_seqR ?_
  refine ops_cons rfl (ow_assign rfl ?_)
  refine ops_nil ?_
  refine c_ret ?_
  refine bq_r ?_
  refine tq_r ?_
  refine tq_r ?_
  refine bq_r ?_
  refine tq_r ?_
  refine fin_ret1 rfl rfl ?_
  · skip
    refine ⟨congrArg Value.bool ?_, X⟩
    rw [isMT, List.length_map]
    first
    | (rw [hB]; rfl)
    | (rw [hB, hi, drop_end hk]; rfl)
    | (rw [hi, drop_end hk]; simp [modesFrom, inB, *]; done)
    | (rw [hi, drop_end hk]; simp [modesFrom, inB]; omega)
    | (rw [hi, dx, List.map_cons, modesFrom]; simp [modeOk, *])
  replace hs := hs.ext x10
  replace hn := hn.ext x10
  replace hnx := hnx.ext x10
  replace b8 := b8.ext x10
  replace X := Ext.trans X x10; clear x10
  refine ops_cons rfl (ow_not rfl ?_)
  refine ops_cons rfl (ow_move rfl ?_)
  refine ops_skip rfl rfl rfl rfl ?_
  refine ops_skip rfl rfl rfl rfl ?_
  refine ops_skip rfl rfl rfl rfl ?_
  refine ops_skip rfl rfl rfl rfl ?_
  refine ops_cons rfl (ow_pick rfl rfl ?_)
  refine ops_cons rfl (ow_move rfl ?_)
  refine ops_skip rfl rfl rfl rfl ?_
  refine ops_skip rfl rfl rfl rfl ?_
  refine ops_skip rfl rfl rfl rfl ?_
  refine ops_skip rfl rfl rfl rfl ?_
  refine ops_skip rfl rfl rfl rfl ?_
  refine ops_skip rfl rfl rfl rfl ?_
  refine ops_cons rfl (ow_pick rfl rfl ?_)
  refine ops_cons rfl (ow_move rfl ?_)
  refine ops_skip rfl rfl rfl rfl ?_
  refine ops_skip rfl rfl rfl rfl ?_
  refine ops_skip rfl rfl rfl rfl ?_
  refine ops_skip rfl rfl rfl rfl ?_
  refine ops_cons rfl (ow_pick rfl rfl ?_)
  refine ops_nil ?_
  refine c_true rfl ?_
  refine c_seqR ?_
  refine ops_cons rfl (ow_assign rfl ?_)
  refine ops_nil ?_
  refine c_ret ?_
  refine bq_r ?_
  refine tq_r ?_
  refine tq_r ?_
  refine bq_r ?_
  refine tq_r ?_
  refine fin_ret1 rfl rfl ?_
  · skip
    refine ⟨congrArg Value.bool ?_, X⟩
    rw [isMT, List.length_map]
    first
    | (rw [hB]; rfl)
    | (rw [hB, hi, drop_end hk]; rfl)
    | (rw [hi, drop_end hk]; simp [modesFrom, inB, *]; done)
    | (rw [hi, drop_end hk]; simp [modesFrom, inB]; omega)
    | (rw [hi, dx, List.map_cons, modesFrom]; simp [modeOk, *])
  refine ops_nil ?_
  refine c_seq ?_
  refine c_false rfl ?_
  refine c_exit ?_
  refine tq_e ?_
  refine tq_e ?_
  refine bq_e ?_
  refine tq_n ?_
  refine c_seqR ?_
  refine ops_cons rfl (ow_move rfl ?_)
  refine ops_cons rfl (ow_len Tryz.underlying25 rfl ?_)
  refine ops_cons rfl (ow_geq2 rfl rfl (fun h21 => ?_) (fun h21 => ?_))
  refine ops_cons rfl (ow_move rfl ?_)
  refine ops_want rfl rfl rfl (ow_move rfl ?_)
  refine ops_want rfl rfl rfl (ow_len Tryz.underlying25 rfl ?_)
  refine ops_want rfl rfl rfl (ow_leq rfl rfl ?_)
  refine ops_cons rfl (ow_pick rfl rfl ?_)
  refine ops_cons rfl (ow_assign rfl ?_)
  refine ops_nil ?_
  refine c_ret ?_
  refine fin_ret1 rfl rfl ?_
  · skip
    refine ⟨congrArg Value.bool ?_, X⟩
    rw [isMT, List.length_map]
    first
    | (rw [hB]; rfl)
    | (rw [hB, hi, drop_end hk]; rfl)
    | (rw [hi, drop_end hk]; simp [modesFrom, inB, *]; done)
    | (rw [hi, drop_end hk]; simp [modesFrom, inB]; omega)
    | (rw [hi, dx, List.map_cons, modesFrom]; simp [modeOk, *])
  refine ops_cons rfl (ow_move rfl ?_)
  refine ops_skip rfl rfl rfl rfl ?_
  refine ops_skip rfl rfl rfl rfl ?_
  refine ops_skip rfl rfl rfl rfl ?_
  refine ops_cons rfl (ow_pick rfl rfl ?_)
  refine ops_cons rfl (ow_assign rfl ?_)
  refine ops_nil ?_
  refine c_ret ?_
  refine fin_ret1 rfl rfl ?_
  · skip
    refine ⟨congrArg Value.bool ?_, X⟩
    rw [isMT, List.length_map]
    first
    | (rw [hB]; rfl)
    | (rw [hB, hi, drop_end hk]; rfl)
    | (rw [hi, drop_end hk]; simp [modesFrom, inB, *]; done)
    | (rw [hi, drop_end hk]; simp [modesFrom, inB]; omega)
    | (rw [hi, dx, List.map_cons, modesFrom]; simp [modeOk, *])
end Go.Proofs.YtojgfbbdjobdnaaGreatDoor
