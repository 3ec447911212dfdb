/- Copies of slot tables. No condition. -/
import Derived.Test.YtdoibplhbdkapaaD1
namespace Go.Proofs.Ytdoibplhbdkapaa
open Go.RowKit
set_option linter.unusedVariables false
set_option linter.unusedSimpArgs false
set_option maxRecDepth 20000
theorem szSlotI_c (A : Option Addr) (c : Nat) (xs : List SlotI) (w : World) (hl : xs.length ≤ 9223372036854775807) :
    Calls Try.prog 18 #[.slice A xs.length c, .int .i64 1048576] w (Ret fun v w' => v = .int .i64 (if 1048576 - (xs.length : Int) < 0 then -1 else 1048576 - (xs.length : Int)) ∧ Ext w w') := by
  have X := Ext.refl w
  refine calls_of (args := [.slice A xs.length c, .int .i64 1048576]) Try.func18 Try.ntmps18 rfl rfl ?_
  refine c_seqR ?_
  refine ops_cons rfl (ow_assign rfl ?_)
  refine ops_nil ?_
  refine c_seqR ?_
  refine ops_cons rfl (ow_move rfl ?_)
  refine ops_cons rfl (ow_move rfl ?_)
  refine ops_cons rfl (ow_len Try.underlying37 rfl ?_)
  refine ops_cons rfl (ow_sub rfl rfl (w64 (by omega)) ?_)
  refine ops_cons rfl (ow_assign rfl ?_)
  refine ops_nil ?_
  refine c_seq ?_
  refine c_seqR ?_
  refine ops_cons rfl (ow_move rfl ?_)
  refine ops_cons rfl (ow_lss2 rfl rfl (fun h1 => ?_) (fun h1 => ?_))
  refine ops_nil ?_
  refine c_true rfl ?_
  refine c_seqR ?_
  refine ops_cons rfl (ow_assign rfl ?_)
  refine ops_nil ?_
  refine c_ret ?_
  refine tq_r ?_
  refine fin_ret1 rfl rfl ?_
  exact ⟨by first | rw [if_pos ‹_›] | rw [if_neg ‹_›], X⟩
  refine ops_nil ?_
  refine c_false rfl ?_
  refine c_skip ?_
  refine tq_n ?_
  refine c_seqR ?_
  refine ops_cons rfl (ow_move rfl ?_)
  refine ops_cons rfl (ow_assign rfl ?_)
  refine ops_nil ?_
  refine c_ret ?_
  refine fin_ret1 rfl rfl ?_
  exact ⟨by first | rw [if_pos ‹_›] | rw [if_neg ‹_›], X⟩

theorem toDesc_c (d : Desc) (w : World)  :
    Calls Try.prog 54 #[.agg d.cells.toArray] w (Ret fun v w' => v = .agg d.cells.toArray ∧ Ext w w') := by
  have X := Ext.refl w
  refine calls_of (args := [.agg d.cells.toArray]) Try.func54 Try.ntmps54 rfl rfl ?_
  refine c_seqR ?_
  refine ops_cons rfl (ow_box rfl rfl ?_)
  intro g4 w3 eg4 b1 x2 zg4
  have lg4 : w.heap.size ≤ g4 := Nat.le_trans X.size (Nat.le_of_eq eg4.symm)
  replace X := Ext.trans X x2; clear x2
  refine ops_cons rfl (ow_alloc ti47 ?_)
  intro g8 w7 eg8 b5 x6 zg8
  have lg8 : w.heap.size ≤ g8 := Nat.le_trans X.size (Nat.le_of_eq eg8.symm)
  have ng8b1 := Nat.lt_of_lt_of_eq b1.lt eg8.symm
  replace b1 := b1.ext x6
  replace X := Ext.trans X x6; clear x6
  refine ops_nil ?_
  refine c_seqR ?_
  refine ops_cons rfl (ow_alloc ti47 ?_)
  intro g12 w11 eg12 b9 x10 zg12
  have lg12 : w.heap.size ≤ g12 := Nat.le_trans X.size (Nat.le_of_eq eg12.symm)
  have ng12b1 := Nat.lt_of_lt_of_eq b1.lt eg12.symm
  have ng12b5 := Nat.lt_of_lt_of_eq b5.lt eg12.symm
  replace b1 := b1.ext x10
  replace b5 := b5.ext x10
  replace X := Ext.trans X x10; clear x10
  refine ops_nil ?_
  refine c_seqR ?_
  refine ops_cons rfl (ow_fieldAddrB off39_0 rfl rfl ?_)
  refine ops_cons rfl (ow_loadB b1 ti2 rfl rfl ?_)
  refine ops_cons rfl (ow_fieldAddrB off47_0 rfl rfl ?_)
  refine ops_cons rfl (ow_storeB b9 ti2 rfl rfl rfl rfl rfl rfl ?_)
  intro w14 b16 hg13 z15
  replace b1 := b1.grown hg13 (by intro h; injection h; omega)
  replace b5 := b5.grown hg13 (by intro h; injection h; omega)
  replace X := X.grown hg13 X.size (by intro g hg; injection hg; omega)
  clear hg13 b9
  refine ops_nil ?_
  refine c_seqR ?_
  refine ops_cons rfl (ow_fieldAddrB off39_1 rfl rfl ?_)
  refine ops_cons rfl (ow_loadB b1 ti2 rfl rfl ?_)
  refine ops_cons rfl (ow_fieldAddrB off47_1 rfl rfl ?_)
  refine ops_cons rfl (ow_storeB b16 ti2 rfl rfl rfl rfl rfl rfl ?_)
  intro w18 b20 hg17 z19
  replace b1 := b1.grown hg17 (by intro h; injection h; omega)
  replace b5 := b5.grown hg17 (by intro h; injection h; omega)
  replace X := X.grown hg17 X.size (by intro g hg; injection hg; omega)
  clear hg17 b16
  refine ops_nil ?_
  refine c_seqR ?_
  refine ops_cons rfl (ow_fieldAddrB off39_2 rfl rfl ?_)
  refine ops_cons rfl (ow_loadB b1 ti2 rfl rfl ?_)
  refine ops_cons rfl (ow_fieldAddrB off47_2 rfl rfl ?_)
  refine ops_cons rfl (ow_storeB b20 ti2 rfl rfl rfl rfl rfl rfl ?_)
  intro w22 b24 hg21 z23
  replace b1 := b1.grown hg21 (by intro h; injection h; omega)
  replace b5 := b5.grown hg21 (by intro h; injection h; omega)
  replace X := X.grown hg21 X.size (by intro g hg; injection hg; omega)
  clear hg21 b20
  refine ops_nil ?_
  refine c_seqR ?_
  refine ops_cons rfl (ow_fieldAddrB off39_3 rfl rfl ?_)
  refine ops_cons rfl (ow_loadB b1 ti2 rfl rfl ?_)
  refine ops_cons rfl (ow_fieldAddrB off47_3 rfl rfl ?_)
  refine ops_cons rfl (ow_storeB b24 ti2 rfl rfl rfl rfl rfl rfl ?_)
  intro w26 b28 hg25 z27
  replace b1 := b1.grown hg25 (by intro h; injection h; omega)
  replace b5 := b5.grown hg25 (by intro h; injection h; omega)
  replace X := X.grown hg25 X.size (by intro g hg; injection hg; omega)
  clear hg25 b24
  refine ops_nil ?_
  refine c_seqR ?_
  refine ops_cons rfl (ow_fieldAddrB off39_4 rfl rfl ?_)
  refine ops_cons rfl (ow_loadB b1 ti4 rfl rfl ?_)
  refine ops_cons rfl (ow_fieldAddrB off47_4 rfl rfl ?_)
  refine ops_cons rfl (ow_storeB b28 ti4 rfl rfl rfl rfl rfl rfl ?_)
  intro w30 b32 hg29 z31
  replace b1 := b1.grown hg29 (by intro h; injection h; omega)
  replace b5 := b5.grown hg29 (by intro h; injection h; omega)
  replace X := X.grown hg29 X.size (by intro g hg; injection hg; omega)
  clear hg29 b28
  refine ops_nil ?_
  refine c_seqR ?_
  refine ops_cons rfl (ow_loadAB b32 ti47 rfl rfl ?_)
  refine ops_cons rfl (ow_storeB b5 ti47 rfl rfl rfl rfl rfl rfl ?_)
  intro w34 b36 hg33 z35
  replace b1 := b1.grown hg33 (by intro h; injection h; omega)
  replace b32 := b32.grown hg33 (by intro h; injection h; omega)
  replace X := X.grown hg33 X.size (by intro g hg; injection hg; omega)
  clear hg33 b5
  refine ops_nil ?_
  refine c_ret ?_
  refine fin_cell1 rfl rfl b36 ti47 rfl ?_
  exact ⟨by rfl, X⟩

theorem toSlotI_c (d : SlotI) (w : World)  :
    Calls Try.prog 21 #[.agg d.cells.toArray] w (Ret fun v w' => v = .agg d.cells.toArray ∧ Ext w w') := by
  have X := Ext.refl w
  refine calls_of (args := [.agg d.cells.toArray]) Try.func21 Try.ntmps21 rfl rfl ?_
  refine c_seqR ?_
  refine ops_cons rfl (ow_box rfl rfl ?_)
  intro g4 w3 eg4 b1 x2 zg4
  have lg4 : w.heap.size ≤ g4 := Nat.le_trans X.size (Nat.le_of_eq eg4.symm)
  replace X := Ext.trans X x2; clear x2
  refine ops_cons rfl (ow_alloc ti49 ?_)
  intro g8 w7 eg8 b5 x6 zg8
  have lg8 : w.heap.size ≤ g8 := Nat.le_trans X.size (Nat.le_of_eq eg8.symm)
  have ng8b1 := Nat.lt_of_lt_of_eq b1.lt eg8.symm
  replace b1 := b1.ext x6
  replace X := Ext.trans X x6; clear x6
  refine ops_nil ?_
  refine c_seqR ?_
  refine ops_cons rfl (ow_alloc ti49 ?_)
  intro g12 w11 eg12 b9 x10 zg12
  have lg12 : w.heap.size ≤ g12 := Nat.le_trans X.size (Nat.le_of_eq eg12.symm)
  have ng12b1 := Nat.lt_of_lt_of_eq b1.lt eg12.symm
  have ng12b5 := Nat.lt_of_lt_of_eq b5.lt eg12.symm
  replace b1 := b1.ext x10
  replace b5 := b5.ext x10
  replace X := Ext.trans X x10; clear x10
  refine ops_nil ?_
  refine c_seqR ?_
  refine ops_cons rfl (ow_fieldAddrB off41_0 rfl rfl ?_)
  refine ops_cons rfl (ow_loadB b1 ti2 rfl rfl ?_)
  refine ops_cons rfl (ow_fieldAddrB off49_0 rfl rfl ?_)
  refine ops_cons rfl (ow_storeB b9 ti2 rfl rfl rfl rfl rfl rfl ?_)
  intro w14 b16 hg13 z15
  replace b1 := b1.grown hg13 (by intro h; injection h; omega)
  replace b5 := b5.grown hg13 (by intro h; injection h; omega)
  replace X := X.grown hg13 X.size (by intro g hg; injection hg; omega)
  clear hg13 b9
  refine ops_nil ?_
  refine c_seqR ?_
  refine ops_cons rfl (ow_fieldAddrB off41_1 rfl rfl ?_)
  refine ops_cons rfl (ow_loadB b1 ti2 rfl rfl ?_)
  refine ops_cons rfl (ow_fieldAddrB off49_1 rfl rfl ?_)
  refine ops_cons rfl (ow_storeB b16 ti2 rfl rfl rfl rfl rfl rfl ?_)
  intro w18 b20 hg17 z19
  replace b1 := b1.grown hg17 (by intro h; injection h; omega)
  replace b5 := b5.grown hg17 (by intro h; injection h; omega)
  replace X := X.grown hg17 X.size (by intro g hg; injection hg; omega)
  clear hg17 b16
  refine ops_nil ?_
  refine c_seqR ?_
  refine ops_cons rfl (ow_fieldAddrB off41_2 rfl rfl ?_)
  refine ops_cons rfl (ow_loadB b1 ti2 rfl rfl ?_)
  refine ops_cons rfl (ow_fieldAddrB off49_2 rfl rfl ?_)
  refine ops_cons rfl (ow_storeB b20 ti2 rfl rfl rfl rfl rfl rfl ?_)
  intro w22 b24 hg21 z23
  replace b1 := b1.grown hg21 (by intro h; injection h; omega)
  replace b5 := b5.grown hg21 (by intro h; injection h; omega)
  replace X := X.grown hg21 X.size (by intro g hg; injection hg; omega)
  clear hg21 b20
  refine ops_nil ?_
  refine c_seqR ?_
  refine ops_cons rfl (ow_fieldAddrB off41_3 rfl rfl ?_)
  refine ops_cons rfl (ow_loadAB b1 ti39 rfl rfl ?_)
  refine ops_cons rfl (ow_call ent54 rfl (ret_mono (toDesc_c _ _) ?_))
  rintro _ w26 ⟨rfl, x25⟩
  replace b1 := b1.ext x25
  replace b5 := b5.ext x25
  replace b24 := b24.ext x25
  replace X := Ext.trans X x25; clear x25
  refine ops_cons rfl (ow_fieldAddrB off49_3 rfl rfl ?_)
  refine ops_cons rfl (ow_storeB b24 ti47 rfl rfl rfl rfl rfl rfl ?_)
  intro w28 b30 hg27 z29
  replace b1 := b1.grown hg27 (by intro h; injection h; omega)
  replace b5 := b5.grown hg27 (by intro h; injection h; omega)
  replace X := X.grown hg27 X.size (by intro g hg; injection hg; omega)
  clear hg27 b24
  refine ops_nil ?_
  refine c_seqR ?_
  refine ops_cons rfl (ow_loadAB b30 ti49 rfl rfl ?_)
  refine ops_cons rfl (ow_storeB b5 ti49 rfl rfl rfl rfl rfl rfl ?_)
  intro w32 b34 hg31 z33
  replace b1 := b1.grown hg31 (by intro h; injection h; omega)
  replace b30 := b30.grown hg31 (by intro h; injection h; omega)
  replace X := X.grown hg31 X.size (by intro g hg; injection hg; omega)
  clear hg31 b5
  refine ops_nil ?_
  refine c_ret ?_
  refine fin_cell1 rfl rfl b34 ti49 rfl ?_
  exact ⟨by rfl, X⟩

theorem toSlotIS_c (A : Option Addr) (B c : Nat) (xs : List SlotI) (w : World) (hs : Sl B w A (xs.flatMap SlotI.cells)) (hl : xs.length ≤ 1048576) :
    Calls Try.prog 20 #[.slice A xs.length c] w (Ret fun v w' => ∃ A' c', v = .slice A' xs.length c' ∧ Own w' w.heap.size 49 8 A' xs.length c' (xs.flatMap SlotI.cells) ∧ Ext w w') := by
  have Bhs := hs.1
  have X := Ext.refl w
  refine calls_of (args := [.slice A xs.length c]) Try.func20 Try.ntmps20 rfl rfl ?_
  refine c_seqR ?_
  refine ops_cons rfl (ow_assign rfl ?_)
  refine ops_nil ?_
  refine c_seqR ?_
  refine ops_cons rfl (ow_move rfl ?_)
  refine ops_cons rfl (ow_len Try.underlying37 rfl ?_)
  refine ops_cons rfl (ow_make el43 ti49 rfl rfl rfl rfl rfl rfl (by omega) (by omega) ?_)
  intro gO w2 egO oO x1
  replace oO := Own.low oO X.size
  replace hs := hs.ext x1
  replace X := Ext.trans X x1; clear x1
  replace oO := oO.to (cs' := (xs.take 0 ++ List.replicate (xs.length - 0) (⟨0, 0, 0, ⟨0, 0, 0, 0, false⟩⟩ : SlotI)).flatMap SlotI.cells) (by rw [List.take_zero, List.nil_append, Nat.sub_zero, ← repL_flat]; rfl)
  refine ops_cons rfl (ow_assign rfl ?_)
  refine ops_nil ?_
  refine c_seq ?_
  refine c_seqR ?_
  refine ops_cons rfl (ow_assign rfl ?_)
  refine ops_nil ?_
  refine c_block ?_
  refine c_loop (G := Nat) (fun k => [(0, .slice A xs.length c), (3, .slice (some ⟨gO, 0, none⟩) xs.length xs.length), (4, .int .i64 (k : Nat))]) (fun k wr => k ≤ xs.length ∧ Sl B wr A (xs.flatMap SlotI.cells) ∧ Own wr w.heap.size 49 8 (some ⟨gO, 0, none⟩) xs.length xs.length ((xs.take k ++ List.replicate (xs.length - k) (⟨0, 0, 0, ⟨0, 0, 0, 0, false⟩⟩ : SlotI)).flatMap SlotI.cells) ∧ Ext w wr) (fun k => xs.length - k) 0 (.cons rfl (.cons rfl (.cons rfl (.nil _)))) ?_ ?_
  · exact ⟨by omega, hs, oO, X⟩
  clear hs oO
  clear X
  rintro k wr ⟨hk0, hs, oO, X⟩
  refine c_seq ?_
  refine c_seqR ?_
  refine ops_cons rfl (ow_move rfl ?_)
  refine ops_cons rfl (ow_move rfl ?_)
  refine ops_cons rfl (ow_len Try.underlying37 rfl ?_)
  refine ops_cons rfl (ow_lss2 rfl rfl (fun hk => ?_) (fun hk => ?_))
  obtain ⟨x, hx, dx⟩ := drop_at' hk
  refine ops_nil ?_
  refine c_true rfl ?_
  refine c_skip ?_
  refine tq_n ?_
  refine c_seq ?_
  refine c_block ?_
  refine c_region ?_
  refine ops_cons rfl (ow_move rfl ?_)
  refine ops_cons rfl (ow_move rfl ?_)
  refine ops_cons rfl (ow_move rfl ?_)
  refine ops_cons rfl (ow_move rfl ?_)
  refine ops_cons rfl (ow_indexT hs SlotI.len rfl el37 rfl rfl rfl hx rfl ?_)
  refine ops_cons rfl (ow_loadTA hs SlotI.len hx ti41 rfl ?_)
  refine ops_cons rfl (ow_call ent21 rfl (ret_mono (toSlotI_c _ _) ?_))
  rintro _ w4 ⟨rfl, x3⟩
  replace hs := hs.ext x3
  replace oO := oO.ext x3
  replace X := Ext.trans X x3; clear x3
  refine ops_cons rfl (ow_indexT (oO).sl SlotI.len rfl el43 rfl (by simp <;> omega) rfl (at_fill (by omega)) rfl ?_)
  refine ops_cons rfl (ow_storeR oO ti49 rfl rfl rfl rfl (by omega) (by omega) rfl ?_)
  intro w6 oN hg5 z7
  replace hs := hs.grown hg5 (fun g hg => Nat.le_trans Bhs (Own.lt oO hg).1)
  replace X := X.grown hg5 X.size (fun g hg => (Own.lt oO hg).1)
  clear hg5 z7
  replace oN := oN.to (cs' := (xs.take (k + 1) ++ List.replicate (xs.length - (k + 1)) (⟨0, 0, 0, ⟨0, 0, 0, 0, false⟩⟩ : SlotI)).flatMap SlotI.cells) (by rw [← set_fill hx, ← set_flat SlotI.len x _ k (by simp <;> omega)]; try rfl)
  refine ops_nil ?_
  refine bq_n ?_
  refine tq_n ?_
  refine c_region ?_
  refine ops_cons rfl (ow_move rfl ?_)
  refine ops_cons rfl (ow_add rfl rfl (w64 (by omega)) ?_)
  refine ops_cons rfl (ow_assign rfl ?_)
  refine ops_nil ?_
  refine tq_n ⟨k + 1, (.cons rfl (.cons rfl (.cons rfl (.nil _)))), ?_, ?_⟩
  · exact ⟨by omega, hs, oN, X⟩
  · omega
  rw [end_fill hk] at oO
  refine ops_nil ?_
  refine c_false rfl ?_
  refine c_exit ?_
  refine tq_e ?_
  refine tq_e ?_
  refine bq_e ?_
  refine tq_n ?_
  refine c_seqR ?_
  refine ops_cons rfl (ow_move rfl ?_)
  refine ops_cons rfl (ow_assign rfl ?_)
  refine ops_nil ?_
  refine c_ret ?_
  refine fin_ret1 rfl rfl ?_
  exact ⟨_, _, rfl, oO, X⟩

theorem eqDesc_c (d : Desc) (w : World)  :
    Calls Try.prog 86 #[.agg d.cells.toArray, .agg d.cells.toArray] w (Ret fun v w' => v = .bool true ∧ Ext w w') := by
  have X := Ext.refl w
  refine calls_of (args := [.agg d.cells.toArray, .agg d.cells.toArray]) Try.func86 Try.ntmps86 rfl rfl ?_
  refine c_seqR ?_
  refine ops_cons rfl (ow_box rfl rfl ?_)
  intro g4 w3 eg4 b1 x2 zg4
  have lg4 : w.heap.size ≤ g4 := Nat.le_trans X.size (Nat.le_of_eq eg4.symm)
  replace X := Ext.trans X x2; clear x2
  refine ops_cons rfl (ow_box rfl rfl ?_)
  intro g8 w7 eg8 b5 x6 zg8
  have lg8 : w.heap.size ≤ g8 := Nat.le_trans X.size (Nat.le_of_eq eg8.symm)
  have ng8b1 := Nat.lt_of_lt_of_eq b1.lt eg8.symm
  replace b1 := b1.ext x6
  replace X := Ext.trans X x6; clear x6
  refine ops_cons rfl (ow_assign rfl ?_)
  refine ops_nil ?_
  refine c_seq ?_
  refine c_seqR ?_
  refine ops_cons rfl (ow_fieldAddrB off47_0 rfl rfl ?_)
  refine ops_cons rfl (ow_loadB b1 ti2 rfl rfl ?_)
  refine ops_cons rfl (ow_fieldAddrB off47_0 rfl rfl ?_)
  refine ops_cons rfl (ow_loadB b5 ti2 rfl rfl ?_)
  refine ops_cons rfl (ow_neq2 rfl rfl (fun h9 => absurd h9 (by simp)) (fun h9 => ?_))
  refine ops_nil ?_
  refine c_false rfl ?_
  refine c_skip ?_
  refine tq_n ?_
  refine c_seq ?_
  refine c_seqR ?_
  refine ops_cons rfl (ow_fieldAddrB off47_1 rfl rfl ?_)
  refine ops_cons rfl (ow_loadB b1 ti2 rfl rfl ?_)
  refine ops_cons rfl (ow_fieldAddrB off47_1 rfl rfl ?_)
  refine ops_cons rfl (ow_loadB b5 ti2 rfl rfl ?_)
  refine ops_cons rfl (ow_neq2 rfl rfl (fun h10 => absurd h10 (by simp)) (fun h10 => ?_))
  refine ops_nil ?_
  refine c_false rfl ?_
  refine c_skip ?_
  refine tq_n ?_
  refine c_seq ?_
  refine c_seqR ?_
  refine ops_cons rfl (ow_fieldAddrB off47_2 rfl rfl ?_)
  refine ops_cons rfl (ow_loadB b1 ti2 rfl rfl ?_)
  refine ops_cons rfl (ow_fieldAddrB off47_2 rfl rfl ?_)
  refine ops_cons rfl (ow_loadB b5 ti2 rfl rfl ?_)
  refine ops_cons rfl (ow_neq2 rfl rfl (fun h11 => absurd h11 (by simp)) (fun h11 => ?_))
  refine ops_nil ?_
  refine c_false rfl ?_
  refine c_skip ?_
  refine tq_n ?_
  refine c_seq ?_
  refine c_seqR ?_
  refine ops_cons rfl (ow_fieldAddrB off47_3 rfl rfl ?_)
  refine ops_cons rfl (ow_loadB b1 ti2 rfl rfl ?_)
  refine ops_cons rfl (ow_fieldAddrB off47_3 rfl rfl ?_)
  refine ops_cons rfl (ow_loadB b5 ti2 rfl rfl ?_)
  refine ops_cons rfl (ow_neq2 rfl rfl (fun h12 => absurd h12 (by simp)) (fun h12 => ?_))
  refine ops_nil ?_
  refine c_false rfl ?_
  refine c_skip ?_
  refine tq_n ?_
  refine c_seq ?_
  refine c_seqR ?_
  refine ops_cons rfl (ow_fieldAddrB off47_4 rfl rfl ?_)
  refine ops_cons rfl (ow_loadB b1 ti4 rfl rfl ?_)
  refine ops_cons rfl (ow_fieldAddrB off47_4 rfl rfl ?_)
  refine ops_cons rfl (ow_loadB b5 ti4 rfl rfl ?_)
  refine ops_cons rfl (ow_neqBd2 Try.underlying4 rfl rfl (fun h13 => absurd h13 (by simp)) (fun h13 => ?_))
  refine ops_nil ?_
  refine c_false rfl ?_
  refine c_skip ?_
  refine tq_n ?_
  refine c_seqR ?_
  refine ops_cons rfl (ow_assign rfl ?_)
  refine ops_nil ?_
  refine c_ret ?_
  refine fin_ret1 rfl rfl ?_
  exact ⟨by rfl, X⟩

theorem eqSlotI_c (d : SlotI) (w : World)  :
    Calls Try.prog 60 #[.agg d.cells.toArray, .agg d.cells.toArray] w (Ret fun v w' => v = .bool true ∧ Ext w w') := by
  have X := Ext.refl w
  refine calls_of (args := [.agg d.cells.toArray, .agg d.cells.toArray]) Try.func60 Try.ntmps60 rfl rfl ?_
  refine c_seqR ?_
  refine ops_cons rfl (ow_box rfl rfl ?_)
  intro g4 w3 eg4 b1 x2 zg4
  have lg4 : w.heap.size ≤ g4 := Nat.le_trans X.size (Nat.le_of_eq eg4.symm)
  replace X := Ext.trans X x2; clear x2
  refine ops_cons rfl (ow_box rfl rfl ?_)
  intro g8 w7 eg8 b5 x6 zg8
  have lg8 : w.heap.size ≤ g8 := Nat.le_trans X.size (Nat.le_of_eq eg8.symm)
  have ng8b1 := Nat.lt_of_lt_of_eq b1.lt eg8.symm
  replace b1 := b1.ext x6
  replace X := Ext.trans X x6; clear x6
  refine ops_cons rfl (ow_assign rfl ?_)
  refine ops_nil ?_
  refine c_seq ?_
  refine c_seqR ?_
  refine ops_cons rfl (ow_fieldAddrB off49_0 rfl rfl ?_)
  refine ops_cons rfl (ow_loadB b1 ti2 rfl rfl ?_)
  refine ops_cons rfl (ow_fieldAddrB off49_0 rfl rfl ?_)
  refine ops_cons rfl (ow_loadB b5 ti2 rfl rfl ?_)
  refine ops_cons rfl (ow_neq2 rfl rfl (fun h9 => absurd h9 (by simp)) (fun h9 => ?_))
  refine ops_nil ?_
  refine c_false rfl ?_
  refine c_skip ?_
  refine tq_n ?_
  refine c_seq ?_
  refine c_seqR ?_
  refine ops_cons rfl (ow_fieldAddrB off49_1 rfl rfl ?_)
  refine ops_cons rfl (ow_loadB b1 ti2 rfl rfl ?_)
  refine ops_cons rfl (ow_fieldAddrB off49_1 rfl rfl ?_)
  refine ops_cons rfl (ow_loadB b5 ti2 rfl rfl ?_)
  refine ops_cons rfl (ow_neq2 rfl rfl (fun h10 => absurd h10 (by simp)) (fun h10 => ?_))
  refine ops_nil ?_
  refine c_false rfl ?_
  refine c_skip ?_
  refine tq_n ?_
  refine c_seq ?_
  refine c_seqR ?_
  refine ops_cons rfl (ow_fieldAddrB off49_2 rfl rfl ?_)
  refine ops_cons rfl (ow_loadB b1 ti2 rfl rfl ?_)
  refine ops_cons rfl (ow_fieldAddrB off49_2 rfl rfl ?_)
  refine ops_cons rfl (ow_loadB b5 ti2 rfl rfl ?_)
  refine ops_cons rfl (ow_neq2 rfl rfl (fun h11 => absurd h11 (by simp)) (fun h11 => ?_))
  refine ops_nil ?_
  refine c_false rfl ?_
  refine c_skip ?_
  refine tq_n ?_
  refine c_seq ?_
  refine c_seqR ?_
  refine ops_cons rfl (ow_fieldAddrB off49_3 rfl rfl ?_)
  refine ops_cons rfl (ow_loadAB b1 ti47 rfl rfl ?_)
  refine ops_cons rfl (ow_fieldAddrB off49_3 rfl rfl ?_)
  refine ops_cons rfl (ow_loadAB b5 ti47 rfl rfl ?_)
  refine ops_cons rfl (ow_call ent86 rfl (ret_mono (eqDesc_c _ _) ?_))
  rintro _ w13 ⟨rfl, x12⟩
  replace b1 := b1.ext x12
  replace b5 := b5.ext x12
  replace X := Ext.trans X x12; clear x12
  refine ops_cons rfl (ow_not rfl ?_)
  refine ops_nil ?_
  refine c_false rfl ?_
  refine c_skip ?_
  refine tq_n ?_
  refine c_seqR ?_
  refine ops_cons rfl (ow_assign rfl ?_)
  refine ops_nil ?_
  refine c_ret ?_
  refine fin_ret1 rfl rfl ?_
  exact ⟨by rfl, X⟩

theorem eqSlotIS_c (A A' : Option Addr) (B B' c c' : Nat) (xs : List SlotI) (w : World) (hs : Sl B w A (xs.flatMap SlotI.cells)) (ht : Sl B' w A' (xs.flatMap SlotI.cells)) (hl : xs.length ≤ 1048576) :
    Calls Try.prog 23 #[.slice A xs.length c, .slice A' xs.length c'] w (Ret fun v w' => v = .bool true ∧ Ext w w') := by
  have Bhs := hs.1
  have Bht := ht.1
  have X := Ext.refl w
  refine calls_of (args := [.slice A xs.length c, .slice A' xs.length c']) Try.func23 Try.ntmps23 rfl rfl ?_
  refine c_seqR ?_
  refine ops_cons rfl (ow_assign rfl ?_)
  refine ops_nil ?_
  refine c_seq ?_
  refine c_seqR ?_
  refine ops_cons rfl (ow_move rfl ?_)
  refine ops_cons rfl (ow_len Try.underlying43 rfl ?_)
  refine ops_cons rfl (ow_move rfl ?_)
  refine ops_cons rfl (ow_len Try.underlying43 rfl ?_)
  refine ops_cons rfl (ow_neq2 rfl rfl (fun h1 => absurd h1 (by simp)) (fun h1 => ?_))
  refine ops_nil ?_
  refine c_false rfl ?_
  refine c_skip ?_
  refine tq_n ?_
  refine c_seq ?_
  refine c_seqR ?_
  refine ops_cons rfl (ow_assign rfl ?_)
  refine ops_nil ?_
  refine c_block ?_
  refine c_loop (G := Nat) (fun k => [(0, .slice A xs.length c), (1, .slice A' xs.length c'), (5, .int .i64 (k : Nat))]) (fun k wr => k ≤ xs.length ∧ Sl B wr A (xs.flatMap SlotI.cells) ∧ Sl B' wr A' (xs.flatMap SlotI.cells) ∧ Ext w wr) (fun k => xs.length - k) 0 (.cons rfl (.cons rfl (.cons rfl (.nil _)))) ?_ ?_
  · exact ⟨by omega, hs, ht, X⟩
  clear hs ht
  clear X
  rintro k wr ⟨hk0, hs, ht, X⟩
  refine c_seq ?_
  refine c_seqR ?_
  refine ops_cons rfl (ow_move rfl ?_)
  refine ops_cons rfl (ow_move rfl ?_)
  refine ops_cons rfl (ow_len Try.underlying43 rfl ?_)
  refine ops_cons rfl (ow_lss2 rfl rfl (fun hk => ?_) (fun hk => ?_))
  obtain ⟨x, hx, dx⟩ := drop_at' hk
  refine ops_nil ?_
  refine c_true rfl ?_
  refine c_skip ?_
  refine tq_n ?_
  refine c_seq ?_
  refine c_block ?_
  refine c_seqD [false, false, false, false, false, false, false, false, false, false] mixed (by kernel_rfl) ?_
  refine f_q rfl (fun wq sq => ow_move rfl ⟨rfl, Ext.refl _⟩) ?_
  refine f_q rfl (fun wq sq => ow_move rfl ⟨rfl, Ext.refl _⟩) ?_
  refine f_q rfl (fun wq sq => ow_indexT (hs.ext sq) SlotI.len rfl el43 rfl rfl rfl hx rfl ⟨rfl, Ext.refl _⟩) ?_
  refine f_q rfl (fun wq sq => ow_loadTA (hs.ext sq) SlotI.len hx ti49 rfl ⟨rfl, Ext.refl _⟩) ?_
  refine f_q rfl (fun wq sq => ow_move rfl ⟨rfl, Ext.refl _⟩) ?_
  refine f_q rfl (fun wq sq => ow_move rfl ⟨rfl, Ext.refl _⟩) ?_
  refine f_q rfl (fun wq sq => ow_indexT (ht.ext sq) SlotI.len rfl el43 rfl rfl rfl hx rfl ⟨rfl, Ext.refl _⟩) ?_
  refine f_q rfl (fun wq sq => ow_loadTA (ht.ext sq) SlotI.len hx ti49 rfl ⟨rfl, Ext.refl _⟩) ?_
  refine f_q rfl (fun wq sq => ow_call ent60 rfl (eqSlotI_c _ _)) ?_
  refine f_q rfl (fun wq sq => ow_not rfl ⟨rfl, Ext.refl _⟩) ?_
  refine f_nil (fun w2 sq => ?_)
  have xq := sq
  replace hs := hs.ext xq
  replace ht := ht.ext xq
  replace X := Ext.trans X xq; clear xq sq
  refine ops_nil ?_
  refine c_false rfl ?_
  refine c_skip ?_
  refine bq_n ?_
  refine tq_n ?_
  refine c_region ?_
  refine ops_cons rfl (ow_move rfl ?_)
  refine ops_cons rfl (ow_add rfl rfl (w64 (by omega)) ?_)
  refine ops_cons rfl (ow_assign rfl ?_)
  refine ops_nil ?_
  refine tq_n ⟨k + 1, (.cons rfl (.cons rfl (.cons rfl (.nil _)))), ?_, ?_⟩
  · exact ⟨by omega, hs, ht, X⟩
  · omega
  refine ops_nil ?_
  refine c_false rfl ?_
  refine c_exit ?_
  refine tq_e ?_
  refine tq_e ?_
  refine bq_e ?_
  refine tq_n ?_
  refine c_seqR ?_
  refine ops_cons rfl (ow_assign rfl ?_)
  refine ops_nil ?_
  refine c_ret ?_
  refine fin_ret1 rfl rfl ?_
  exact ⟨by rfl, X⟩
end Go.Proofs.Ytdoibplhbdkapaa
