/- Texts of the seat that a law needs, put together. No condition. -/
import Derived.Test.YtdoibplhbdkapaaGreatDoorDMP17
namespace Go.Proofs.YtdoibplhbdkapaaGreatDoor
open Go.RowKit
set_option linter.unusedVariables false
set_option linter.unusedSimpArgs false
set_option maxRecDepth 20000
theorem sumD_c (A : Option Addr) (B c : Nat) (xs : List SlotI) (w : World) (hs : Sl B w A (xs.flatMap SlotI.cells)) (hl : xs.length ≤ 1048576) (hd : ∀ x ∈ xs, 0 ≤ x.desc.duration ∧ x.desc.duration ≤ 1000) :
    Calls Tryz.prog 205 #[.slice A xs.length c] w (Ret fun v w' => v = .int .i64 (sumD xs) ∧ Ext w w') := by
  have Bhs := hs.1
  have X := Ext.refl w
  refine calls_of (args := [.slice A xs.length c]) Tryz.func205 Tryz.ntmps205 rfl rfl ?_
  refine c_seqR ?_
  refine ops_cons rfl (ow_assign rfl ?_)
  refine ops_nil ?_
  refine c_seqR ?_
  refine ops_cons rfl (ow_assign rfl ?_)
  refine ops_nil ?_
  refine c_seq ?_
  refine c_seqR ?_
  refine ops_cons rfl (ow_move rfl ?_)
  refine ops_cons rfl (ow_len Tryz.underlying26 rfl ?_)
  refine ops_cons rfl (ow_move rfl ?_)
  refine ops_nil ?_
  refine c_block ?_
  refine c_loop (G := Nat × Int) (fun ⟨k, n⟩ => [(2, .int .i64 0), (6, .slice A xs.length c), (7, .int .i64 (xs.length : Nat)), (3, .int .i64 n), (8, .int .i64 (k : Nat))]) (fun ⟨k, n⟩ wr => k ≤ xs.length ∧ (0 ≤ n ∧ n ≤ 1000 * k) ∧ sumD xs = n + sumD (xs.drop k) ∧ Sl B wr A (xs.flatMap SlotI.cells) ∧ Ext w wr) (fun ⟨k, n⟩ => xs.length - k) (0, 0) (.cons rfl (.cons rfl (.cons rfl (.cons rfl (.cons rfl (.nil _)))))) ?_ ?_
  · exact ⟨by omega, by omega, (by simp), hs, X⟩
  clear hs
  clear X
  rintro ⟨k, n⟩ wr ⟨hk0, hn, hi, hs, X⟩
  refine c_seqR ?_
  refine ops_cons rfl (ow_lss2 rfl rfl (fun hk => ?_) (fun hk => ?_))
  obtain ⟨x, hx, dx⟩ := drop_at' hk
  have hdx := hd x (List.mem_of_getElem? hx)
  refine ops_nil ?_
  refine c_seq ?_
  refine c_true rfl ?_
  refine c_skip ?_
  refine tq_n ?_
  refine c_seq ?_
  refine c_block ?_
  refine c_seqR ?_
  refine ops_cons rfl (ow_indexT hs SlotI.len rfl el26 rfl rfl rfl hx rfl ?_)
  refine ops_cons rfl (ow_loadTA hs SlotI.len hx ti89 rfl ?_)
  refine ops_cons rfl (ow_alloc ti89 ?_)
  intro g4 w3 eg4 b1 x2 zg4
  have lg4 : w.heap.size ≤ g4 := Nat.le_trans X.size (Nat.le_of_eq eg4.symm)
  have pg4hs := Nat.le_trans hs.1 (Nat.le_of_eq eg4.symm)
  replace hs := hs.ext x2
  replace X := Ext.trans X x2; clear x2
  refine ops_cons rfl (ow_storeB b1 ti89 rfl rfl rfl rfl rfl rfl ?_)
  intro w6 b8 hg5 z7
  replace hs := hs.grown hg5 (by intro g hg; injection hg; omega)
  replace X := X.grown hg5 X.size (by intro g hg; injection hg; omega)
  clear hg5 b1
  refine ops_nil ?_
  refine c_region ?_
  refine ops_cons rfl (ow_move rfl ?_)
  refine ops_cons rfl (ow_fieldAddrB off89_3 rfl rfl ?_)
  refine ops_cons rfl (ow_fieldAddrB off67_3 rfl rfl ?_)
  refine ops_cons rfl (ow_loadB b8 ti2 rfl rfl ?_)
  refine ops_cons rfl (ow_add rfl rfl (w64 (by omega)) ?_)
  refine ops_cons rfl (ow_assign rfl ?_)
  refine ops_nil ?_
  refine bq_n ?_
  refine tq_n ?_
  refine c_region ?_
  refine ops_cons rfl (ow_add rfl rfl (w64 (by omega)) ?_)
  refine ops_cons rfl (ow_move rfl ?_)
  refine ops_nil ?_
  refine tq_n ⟨(k + 1, n + x.desc.duration), (.cons rfl (.cons rfl (.cons rfl (.cons rfl (.cons rfl (.nil _)))))), ?_, ?_⟩
  · exact ⟨by omega, by omega, (by rw [hi, dx, sumD]; omega), hs, X⟩
  · first | omega | (dsimp only; omega)
  refine ops_nil ?_
  refine c_seq ?_
  refine c_false rfl ?_
  refine c_exit ?_
  refine tq_e ?_
  refine tq_e ?_
  refine bq_e ?_
  refine tq_n ?_
  refine c_seqR ?_
  refine ops_cons rfl (ow_move rfl ?_)
  refine ops_cons rfl (ow_assign rfl ?_)
  refine ops_nil ?_
  refine c_ret ?_
  refine fin_ret1 rfl rfl ?_
  exact ⟨by rw [hi, drop_end hk]; simp [sumD], X⟩

theorem modeSlots_c (m : MedlI) (B : Nat) (mode : Int) (w : World) (hm : Med B w m) (hz : m.small) :
    Calls Tryz.prog 120 #[.agg m.cells.toArray, .int .i64 mode] w (Ret fun v w' => ∃ A' c', v = .slice A' (ofMode mode m.ss).length c' ∧ Own w' w.heap.size 89 8 A' (ofMode mode m.ss).length c' ((ofMode mode m.ss).flatMap SlotI.cells) ∧ Ext w w') := by
  have hls := hz.ls
  have hlm := hz.lm
  have hln := hz.ln
  have Bhm := hm.1
  have X := Ext.refl w
  refine calls_of (args := [.agg m.cells.toArray, .int .i64 mode]) Tryz.func120 Tryz.ntmps120 rfl rfl ?_
  refine c_seqR ?_
  refine ops_cons rfl (ow_box rfl rfl ?_)
  intro g4 w3 eg4 b1 x2 zg4
  have lg4 : w.heap.size ≤ g4 := Nat.le_trans X.size (Nat.le_of_eq eg4.symm)
  have pg4hm := Nat.le_trans hm.1 (Nat.le_of_eq eg4.symm)
  replace hm := hm.ext x2
  replace X := Ext.trans X x2; clear x2
  refine ops_cons rfl (ow_assign rfl ?_)
  refine ops_nil ?_
  refine c_seqR ?_
  refine ops_cons rfl (ow_buildSlice el26 ti89 rfl rfl rfl rfl rfl ?_)
  intro gO w6 egO oO bbgO x5 zgO
  replace oO := Own.low oO X.size
  replace hm := hm.ext x5
  replace b1 := b1.ext x5
  replace X := Ext.trans X x5; clear x5
  refine ops_cons rfl (ow_assign rfl ?_)
  refine ops_nil ?_
  refine c_seq ?_
  refine c_seqR ?_
  refine ops_cons rfl (ow_fieldAddrB off28_3 rfl rfl ?_)
  refine ops_cons rfl (ow_loadB b1 ti26 rfl rfl ?_)
  refine ops_cons rfl (ow_len Tryz.underlying26 rfl ?_)
  refine ops_cons rfl (ow_move rfl ?_)
  refine ops_nil ?_
  refine c_block ?_
  refine c_loop (G := Nat × Nat × List SlotI × Option Addr × Nat) (fun ⟨k, n1, ys, A1, c1⟩ => [(1, .int .i64 mode), (4, .slice none 0 0), (10, .slice m.As m.ss.length m.cs), (11, .int .i64 (m.ss.length : Nat)), (5, .slice A1 n1 c1), (12, .int .i64 (k : Nat))]) (fun ⟨k, n1, ys, A1, c1⟩ wr => k ≤ m.ss.length ∧ n1 = ys.length ∧ n1 ≤ k ∧ ofMode mode m.ss = ys ++ ofMode mode (m.ss.drop k) ∧ Own wr w.heap.size 89 8 A1 n1 c1 (ys.flatMap SlotI.cells) ∧ Med B wr m ∧ Blk wr g4 28 m.cells ∧ Ext w wr) (fun ⟨k, n1, ys, A1, c1⟩ => m.ss.length - k) (0, 0, [], some ⟨gO, 0, none⟩, 0) (.cons rfl (.cons rfl (.cons rfl (.cons rfl (.cons rfl (.cons rfl (.nil _))))))) ?_ ?_
  · exact ⟨by omega, rfl, by omega, rfl, oO, hm, b1, X⟩
  clear hm b1 oO
  clear X
  rintro ⟨k, n1, ys, A1, c1⟩ wr ⟨hk0, hn, hn1, hi, oO, hm, b1, X⟩
  refine c_seqR ?_
  refine ops_cons rfl (ow_lss2 rfl rfl (fun hk => ?_) (fun hk => ?_))
  obtain ⟨x, hx, dx⟩ := drop_at' hk
  refine ops_nil ?_
  refine c_seq ?_
  refine c_true rfl ?_
  refine c_skip ?_
  refine tq_n ?_
  refine c_seq ?_
  refine c_block ?_
  refine c_seqR ?_
  refine ops_cons rfl (ow_indexT hm.ss SlotI.len rfl el26 rfl rfl rfl hx rfl ?_)
  refine ops_cons rfl (ow_loadTA hm.ss SlotI.len hx ti89 rfl ?_)
  have UO := fun g hg => (Own.lt oO (g := g) hg).2
  refine ops_cons rfl (ow_alloc ti89 ?_)
  intro gX w9 egX bX x7 zgX
  have lgX : w.heap.size ≤ gX := Nat.le_trans X.size (Nat.le_of_eq egX.symm)
  have pgXhm := Nat.le_trans hm.1 (Nat.le_of_eq egX.symm)
  have ngXb1 := Nat.lt_of_lt_of_eq b1.lt egX.symm
  replace oO := oO.ext x7
  replace hm := hm.ext x7
  replace b1 := b1.ext x7
  replace X := Ext.trans X x7; clear x7
  refine ops_cons rfl (ow_storeB bX ti89 rfl rfl rfl rfl rfl rfl ?_)
  intro w11 bY hg10 z12
  replace oO := oO.grownBlk hg10 (fun h => by have := UO _ h; omega)
  replace hm := hm.grown hg10 (by intro g hg; injection hg; omega)
  replace b1 := b1.grown hg10 (by intro h; injection h; omega)
  replace X := X.grown hg10 X.size (by intro g hg; injection hg; omega)
  clear hg10 bX
  refine ops_nil ?_
  refine c_seqR ?_
  refine ops_cons rfl (ow_fieldAddrB off89_0 rfl rfl ?_)
  refine ops_cons rfl (ow_loadB bY ti2 rfl rfl ?_)
  refine ops_cons rfl (ow_move rfl ?_)
  refine ops_cons rfl (ow_eql2 rfl rfl (fun he => ?_) (fun he => ?_))
  refine ops_nil ?_
  refine c_true rfl ?_
  refine c_region ?_
  refine ops_cons rfl (ow_move rfl ?_)
  refine ops_cons rfl (ow_loadAB bY ti89 rfl rfl ?_)
  refine ops_cons rfl (ow_buildSlice el26 ti89 rfl rfl rfl rfl rfl ?_)
  intro g14 w16 eg14 o13 bbg14 x15 zg14
  replace o13 := Own.low o13 X.size
  replace oO := oO.ext x15
  replace hm := hm.ext x15
  replace b1 := b1.ext x15
  replace bY := bY.ext x15
  replace X := Ext.trans X x15; clear x15
  refine ops_cons rfl (ow_append (ts := #[]) oO X.size o13.sl (by first | rfl | simp) (by first | exact List.all_eq_true.1 rfl | simp [Value.oneCell']) el26 ti89 rfl rfl rfl rfl (by omega) (by omega) ?_)
  intro AoN coN w18 oN hg17
  replace hm := hm.grown hg17 (fun g hg => Nat.le_trans Bhm (Own.lt oO hg).1)
  replace b1 := b1.grown hg17 (fun h => Own.neT oO b1 (by decide) h.symm)
  replace bY := bY.grown hg17 (fun h => by have := UO _ h.symm; omega)
  replace X := X.grown hg17 X.size (fun g hg => (Own.lt oO hg).1)
  clear hg17
  refine ops_cons rfl (ow_assign rfl ?_)
  refine ops_nil ?_
  refine bq_n ?_
  refine tq_n ?_
  refine c_region ?_
  refine ops_cons rfl (ow_add rfl rfl (w64 (by omega)) ?_)
  refine ops_cons rfl (ow_move rfl ?_)
  refine ops_nil ?_
  refine tq_n ⟨(k + 1, n1 + 1, ys ++ [x], AoN, coN), (.cons rfl (.cons rfl (.cons rfl (.cons rfl (.cons rfl (.cons rfl (.nil _))))))), ?_, ?_⟩
  · exact ⟨by omega, by simp [hn], by omega, (by rw [hi, dx, ofMode_cons_t he]; simp), oN.to (snoc SlotI.cells ys _).symm, hm, b1, X⟩
  · first | omega | (dsimp only; omega)
  refine ops_nil ?_
  refine c_false rfl ?_
  refine c_skip ?_
  refine bq_n ?_
  refine tq_n ?_
  refine c_region ?_
  refine ops_cons rfl (ow_add rfl rfl (w64 (by omega)) ?_)
  refine ops_cons rfl (ow_move rfl ?_)
  refine ops_nil ?_
  refine tq_n ⟨(k + 1, n1, ys, A1, c1), (.cons rfl (.cons rfl (.cons rfl (.cons rfl (.cons rfl (.cons rfl (.nil _))))))), ?_, ?_⟩
  · exact ⟨by omega, hn, by omega, (by rw [hi, dx, ofMode_cons_f he]), oO, hm, b1, X⟩
  · first | omega | (dsimp only; omega)
  refine ops_nil ?_
  refine c_seq ?_
  refine c_false rfl ?_
  refine c_exit ?_
  refine tq_e ?_
  refine tq_e ?_
  refine bq_e ?_
  refine tq_n ?_
  refine c_seqR ?_
  refine ops_cons rfl (ow_move rfl ?_)
  refine ops_cons rfl (ow_assign rfl ?_)
  refine ops_nil ?_
  refine c_ret ?_
  refine fin_ret1 rfl rfl ?_
  · skip
    have e : ofMode mode m.ss = ys := by rw [hi, drop_end hk]; simp [ofMode]
    rw [e, ← hn]; exact ⟨A1, c1, rfl, oO, X⟩

theorem l13Cycle_c (m : MedlI) (B : Nat) (mode : Int) (w : World) (hm : Med B w m) (hz : m.small) (hok : ∀ x ∈ m.ss, slotOk x = true) :
    Calls Tryz.prog 230 #[.agg m.cells.toArray, .int .i64 mode] w (Ret fun v w' => v = .int .i64 (cyc m.ss mode) ∧ Ext w w') := by
  have hls := hz.ls
  have hlm := hz.lm
  have hln := hz.ln
  have Bhm := hm.1
  have X := Ext.refl w
  refine calls_of (args := [.agg m.cells.toArray, .int .i64 mode]) Tryz.func230 Tryz.ntmps230 rfl rfl ?_
  refine c_seqR ?_
  refine ops_cons rfl (ow_box rfl rfl ?_)
  intro g4 w3 eg4 b1 x2 zg4
  have lg4 : w.heap.size ≤ g4 := Nat.le_trans X.size (Nat.le_of_eq eg4.symm)
  have pg4hm := Nat.le_trans hm.1 (Nat.le_of_eq eg4.symm)
  replace hm := hm.ext x2
  replace X := Ext.trans X x2; clear x2
  refine ops_cons rfl (ow_assign rfl ?_)
  refine ops_nil ?_
  refine c_seqR ?_
  refine ops_cons rfl (ow_assign rfl ?_)
  refine ops_nil ?_
  refine c_seq ?_
  refine c_seqR ?_
  refine ops_cons rfl (ow_assign rfl ?_)
  refine ops_nil ?_
  refine c_block ?_
  refine c_loop (G := Nat × Int) (fun ⟨k, n⟩ => [(1, .int .i64 mode), (2, .pointer (some ⟨g4, 0, none⟩)), (4, .int .i64 0), (5, .int .i64 n), (6, .int .i64 (k : Nat))]) (fun ⟨k, n⟩ wr => k ≤ m.ss.length ∧ (0 ≤ n ∧ n ≤ 1000 * k) ∧ cyc m.ss mode = n + cyc (m.ss.drop k) mode ∧ Med B wr m ∧ Blk wr g4 28 m.cells ∧ Ext w wr) (fun ⟨k, n⟩ => m.ss.length - k) (0, 0) (.cons rfl (.cons rfl (.cons rfl (.cons rfl (.cons rfl (.nil _)))))) ?_ ?_
  · exact ⟨by omega, by omega, (by simp), hm, b1, X⟩
  clear hm b1
  clear X
  rintro ⟨k, n⟩ wr ⟨hk0, hn, hi, hm, b1, X⟩
  refine c_seq ?_
  refine c_seqR ?_
  refine ops_cons rfl (ow_move rfl ?_)
  refine ops_cons rfl (ow_fieldAddrB off28_3 rfl rfl ?_)
  refine ops_cons rfl (ow_loadB b1 ti26 rfl rfl ?_)
  refine ops_cons rfl (ow_len Tryz.underlying26 rfl ?_)
  refine ops_cons rfl (ow_lss2 rfl rfl (fun hk => ?_) (fun hk => ?_))
  obtain ⟨x, hx, dx⟩ := drop_at' hk
  have hxs := slotI (hok x (List.mem_of_getElem? hx))
  refine ops_nil ?_
  refine c_true rfl ?_
  refine c_skip ?_
  refine tq_n ?_
  refine c_seq ?_
  refine c_block ?_
  refine c_seqR ?_
  refine ops_cons rfl (ow_fieldAddrB off28_3 rfl rfl ?_)
  refine ops_cons rfl (ow_loadB b1 ti26 rfl rfl ?_)
  refine ops_cons rfl (ow_move rfl ?_)
  refine ops_cons rfl (ow_indexT hm.ss SlotI.len rfl el26 rfl rfl rfl hx rfl ?_)
  refine ops_cons rfl (ow_fieldAddr off89_0 rfl ?_)
  refine ops_cons rfl (ow_loadTF hm.ss SlotI.len hx ti2 rfl rfl rfl ?_)
  refine ops_cons rfl (ow_move rfl ?_)
  refine ops_cons rfl (ow_eql2 rfl rfl (fun he => ?_) (fun he => ?_))
  refine ops_nil ?_
  refine c_true rfl ?_
  refine c_region ?_
  refine ops_cons rfl (ow_move rfl ?_)
  refine ops_cons rfl (ow_fieldAddrB off28_3 rfl rfl ?_)
  refine ops_cons rfl (ow_loadB b1 ti26 rfl rfl ?_)
  refine ops_cons rfl (ow_move rfl ?_)
  refine ops_cons rfl (ow_indexT hm.ss SlotI.len rfl el26 rfl rfl rfl hx rfl ?_)
  refine ops_cons rfl (ow_fieldAddr off89_3 rfl ?_)
  refine ops_cons rfl (ow_fieldAddr off67_3 rfl ?_)
  refine ops_cons rfl (ow_loadTFF hm.ss SlotI.len hx ti2 rfl rfl rfl ?_)
  refine ops_cons rfl (ow_add rfl rfl (w64 (by omega)) ?_)
  refine ops_cons rfl (ow_assign rfl ?_)
  refine ops_nil ?_
  refine bq_n ?_
  refine tq_n ?_
  refine c_region ?_
  refine ops_cons rfl (ow_move rfl ?_)
  refine ops_cons rfl (ow_add rfl rfl (w64 (by omega)) ?_)
  refine ops_cons rfl (ow_assign rfl ?_)
  refine ops_nil ?_
  refine tq_n ⟨(k + 1, n + x.desc.duration), (.cons rfl (.cons rfl (.cons rfl (.cons rfl (.cons rfl (.nil _)))))), ?_, ?_⟩
  · exact ⟨by omega, by omega, (by rw [hi, dx, cyc, ofMode_cons_t he, sumD]; unfold cyc; omega), hm, b1, X⟩
  · first | omega | (dsimp only; omega)
  refine ops_nil ?_
  refine c_false rfl ?_
  refine c_skip ?_
  refine bq_n ?_
  refine tq_n ?_
  refine c_region ?_
  refine ops_cons rfl (ow_move rfl ?_)
  refine ops_cons rfl (ow_add rfl rfl (w64 (by omega)) ?_)
  refine ops_cons rfl (ow_assign rfl ?_)
  refine ops_nil ?_
  refine tq_n ⟨(k + 1, n), (.cons rfl (.cons rfl (.cons rfl (.cons rfl (.cons rfl (.nil _)))))), ?_, ?_⟩
  · exact ⟨by omega, by omega, (by rw [hi, dx, cyc, ofMode_cons_f he]; rfl), hm, b1, X⟩
  · first | omega | (dsimp only; omega)
  refine ops_nil ?_
  refine c_false rfl ?_
  refine c_exit ?_
  refine tq_e ?_
  refine tq_e ?_
  refine bq_e ?_
  refine tq_n ?_
  refine c_seqR ?_
  refine ops_cons rfl (ow_move rfl ?_)
  refine ops_cons rfl (ow_assign rfl ?_)
  refine ops_nil ?_
  refine c_ret ?_
  refine fin_ret1 rfl rfl ?_
  exact ⟨by rw [hi, drop_end hk]; simp [cyc, ofMode, sumD], X⟩

theorem isShort_c (m : MedlI) (B : Nat) (w : World) (hm : Med B w m) (hz : m.small) (hok : ∀ x ∈ m.ss, slotOk x = true) :
    Calls Tryz.prog 188 #[.agg m.cells.toArray] w (Ret fun v w' => v = .bool (shortB m.d) ∧ Ext w w') := by
  have hls := hz.ls
  have hlm := hz.lm
  have hln := hz.ln
  have Bhm := hm.1
  have X := Ext.refl w
  refine calls_of (args := [.agg m.cells.toArray]) Tryz.func188 Tryz.ntmps188 rfl rfl ?_
  refine c_seqR ?_
  refine ops_cons rfl (ow_box rfl rfl ?_)
  intro g4 w3 eg4 b1 x2 zg4
  have lg4 : w.heap.size ≤ g4 := Nat.le_trans X.size (Nat.le_of_eq eg4.symm)
  have pg4hm := Nat.le_trans hm.1 (Nat.le_of_eq eg4.symm)
  replace hm := hm.ext x2
  replace X := Ext.trans X x2; clear x2
  refine ops_cons rfl (ow_assign rfl ?_)
  refine ops_nil ?_
  refine c_seq ?_
  refine c_seqR ?_
  refine ops_cons rfl (ow_fieldAddrB off28_2 rfl rfl ?_)
  refine ops_cons rfl (ow_loadB b1 ti25 rfl rfl ?_)
  refine ops_cons rfl (ow_len Tryz.underlying25 rfl ?_)
  refine ops_cons rfl (ow_move rfl ?_)
  refine ops_nil ?_
  refine c_block ?_
  refine c_loop (G := Nat) (fun k => [(1, .pointer (some ⟨g4, 0, none⟩)), (6, .int .i64 (m.ms.length : Nat)), (7, .int .i64 (k : Nat))]) (fun k wr => k ≤ m.ms.length ∧ shortB m.d = ((List.range m.ms.length).drop k).all (fun (i : Nat) => decide (cyc m.ss i ≤ 32000)) ∧ Med B wr m ∧ Blk wr g4 28 m.cells ∧ Ext w wr) (fun k => m.ms.length - k) 0 (.cons rfl (.cons rfl (.cons rfl (.nil _)))) ?_ ?_
  · exact ⟨by omega, short_eq, hm, b1, X⟩
  clear hm b1
  clear X
  rintro k wr ⟨hk0, hi, hm, b1, X⟩
  refine c_seqR ?_
  refine ops_cons rfl (ow_lss2 rfl rfl (fun hk => ?_) (fun hk => ?_))
  have hk1 : k < m.ms.length := by omega
  refine ops_nil ?_
  refine c_seq ?_
  refine c_true rfl ?_
  refine c_skip ?_
  refine tq_n ?_
  refine c_seq ?_
  refine c_block ?_
  refine c_seqR ?_
  refine ops_cons rfl (ow_move rfl ?_)
  refine ops_cons rfl (ow_assign rfl ?_)
  refine ops_nil ?_
  refine c_seqR ?_
  refine ops_cons rfl (ow_loadAB b1 ti28 rfl rfl ?_)
  refine ops_cons rfl (ow_move rfl ?_)
  refine ops_cons rfl (ow_call ent120 rfl (ret_mono (modeSlots_c m _ _ _ hm hz) ?_))
  rintro _ w6 ⟨A7, c8, rfl, oL, x5⟩
  replace oL := Own.low oL X.size
  replace hm := hm.ext x5
  replace b1 := b1.ext x5
  replace X := Ext.trans X x5; clear x5
  refine ops_cons rfl (ow_call ent205 rfl (ret_mono (sumD_c _ _ _ _ _ (oL).sl (Nat.le_trans (ofMode_len _ _) hls) (fun y hy => by have h1 := ofMode_sub _ _ y hy; have h2 := slotI (hok y h1.1); omega)) ?_))
  rintro _ w10 ⟨rfl, x9⟩
  replace hm := hm.ext x9
  replace b1 := b1.ext x9
  replace oL := oL.ext x9
  replace X := Ext.trans X x9; clear x9
  refine ops_cons rfl (ow_gtr2 rfl rfl (fun hc => ?_) (fun hc => ?_))
  refine ops_nil ?_
  refine c_true rfl ?_
  refine c_seqR ?_
  refine ops_cons rfl (ow_assign rfl ?_)
  refine ops_nil ?_
  refine c_ret ?_
  refine bq_r ?_
  refine tq_r ?_
  refine tq_r ?_
  refine bq_r ?_
  refine tq_r ?_
  refine fin_ret1 rfl rfl ?_
  · skip
    refine ⟨congrArg Value.bool ?_, X⟩
    first
    | (rw [hi, short_step hk1, decide_eq_false (show ¬ cyc m.ss k ≤ 32000 by unfold cyc; omega)]; rfl)
    | (rw [hi, short_end hk]; done)
  refine ops_nil ?_
  refine c_false rfl ?_
  refine c_skip ?_
  refine bq_n ?_
  refine tq_n ?_
  refine c_region ?_
  refine ops_cons rfl (ow_add rfl rfl (w64 (by omega)) ?_)
  refine ops_cons rfl (ow_move rfl ?_)
  refine ops_nil ?_
  refine tq_n ⟨k + 1, (.cons rfl (.cons rfl (.cons rfl (.nil _)))), ?_, ?_⟩
  · exact ⟨by omega, (by rw [hi, short_step hk1, decide_eq_true (show cyc m.ss k ≤ 32000 by unfold cyc; omega)]; rfl), hm, b1, X⟩
  · first | omega | (dsimp only; omega)
  refine ops_nil ?_
  refine c_seq ?_
  refine c_false rfl ?_
  refine c_exit ?_
  refine tq_e ?_
  refine tq_e ?_
  refine bq_e ?_
  refine tq_n ?_
  refine c_seqR ?_
  refine ops_cons rfl (ow_assign rfl ?_)
  refine ops_nil ?_
  refine c_ret ?_
  refine fin_ret1 rfl rfl ?_
  · skip
    refine ⟨congrArg Value.bool ?_, X⟩
    first
    | (rw [hi, short_step hk1, decide_eq_false (show ¬ cyc m.ss k ≤ 32000 by unfold cyc; omega)]; rfl)
    | (rw [hi, short_end hk]; done)

theorem l13Served_c (m : MedlI) (B : Nat) (w : World) (hm : Med B w m) (hz : m.small) (hok : ∀ x ∈ m.ss, slotOk x = true) (hN : isNT m.ns = true) (hT : isMT (m.ms.map (·.m)) = true) :
    Calls Tryz.prog 231 #[.agg m.cells.toArray] w (Ret fun v w' => v = .bool (servS (actV m.ns) m.ss 0 (m.ms.map (·.m))) ∧ Ext w w') := by
  have hls := hz.ls
  have hlm := hz.lm
  have hln := hz.ln
  have Bhm := hm.1
  have X := Ext.refl w
  refine calls_of (args := [.agg m.cells.toArray]) Tryz.func231 Tryz.ntmps231 rfl rfl ?_
  refine c_seqR ?_
  refine ops_cons rfl (ow_box rfl rfl ?_)
  intro g4 w3 eg4 b1 x2 zg4
  have lg4 : w.heap.size ≤ g4 := Nat.le_trans X.size (Nat.le_of_eq eg4.symm)
  have pg4hm := Nat.le_trans hm.1 (Nat.le_of_eq eg4.symm)
  replace hm := hm.ext x2
  replace X := Ext.trans X x2; clear x2
  refine ops_cons rfl (ow_assign rfl ?_)
  refine ops_nil ?_
  refine c_seqR ?_
  refine ops_cons rfl (ow_fieldAddrB off28_1 rfl rfl ?_)
  refine ops_cons rfl (ow_loadB b1 ti24 rfl rfl ?_)
  refine ops_cons rfl (ow_call ent181 rfl (ret_mono (l10Active_c _ _ _ m.ns _ hm.sn hln (isNT_ids hN)) ?_))
  rintro _ w6 ⟨rfl, x5⟩
  replace hm := hm.ext x5
  replace b1 := b1.ext x5
  replace X := Ext.trans X x5; clear x5
  refine ops_cons rfl (ow_assign rfl ?_)
  refine ops_nil ?_
  refine c_seq ?_
  refine c_seqR ?_
  refine ops_cons rfl (ow_assign rfl ?_)
  refine ops_nil ?_
  refine c_block ?_
  refine c_loop (G := Nat) (fun k => [(1, .pointer (some ⟨g4, 0, none⟩)), (3, .int .i64 (actV m.ns : Nat)), (4, .int .i64 (k : Nat))]) (fun k wr => k ≤ m.ms.length ∧ servS (actV m.ns) m.ss 0 (m.ms.map (·.m)) = servS (actV m.ns) m.ss (k : Int) ((m.ms.drop k).map (·.m)) ∧ Med B wr m ∧ Blk wr g4 28 m.cells ∧ Ext w wr) (fun k => m.ms.length - k) 0 (.cons rfl (.cons rfl (.cons rfl (.nil _)))) ?_ ?_
  · exact ⟨by omega, rfl, hm, b1, X⟩
  clear hm b1
  clear X
  rintro k wr ⟨hk0, hi, hm, b1, X⟩
  refine c_seq ?_
  refine c_seqR ?_
  refine ops_cons rfl (ow_move rfl ?_)
  refine ops_cons rfl (ow_fieldAddrB off28_2 rfl rfl ?_)
  refine ops_cons rfl (ow_loadB b1 ti25 rfl rfl ?_)
  refine ops_cons rfl (ow_len Tryz.underlying25 rfl ?_)
  refine ops_cons rfl (ow_lss2 rfl rfl (fun hk => ?_) (fun hk => ?_))
  obtain ⟨x, hx, dx⟩ := drop_at' hk
  have hxi := isMT_in hT x.m (List.mem_map.2 ⟨x, List.mem_of_getElem? hx, rfl⟩)
  refine ops_nil ?_
  refine c_true rfl ?_
  refine c_skip ?_
  refine tq_n ?_
  refine c_seq ?_
  refine c_block ?_
  refine c_seqR ?_
  refine ops_cons rfl (ow_assign rfl ?_)
  refine ops_nil ?_
  refine c_block ?_
  refine c_loop (G := Nat) (fun r => [(1, .pointer (some ⟨g4, 0, none⟩)), (3, .int .i64 (actV m.ns : Nat)), (4, .int .i64 (k : Nat)), (11, .int .i64 (k : Nat)), (13, .slice m.Am m.ms.length m.cm), (14, .int .i64 (m.ms.length : Nat)), (5, .int .i64 (r : Nat))]) (fun r wr => (r : Int) ≤ x.m.rounds ∧ servS (actV m.ns) m.ss 0 (m.ms.map (·.m)) = (servR (fun (r : Nat) => decide (sndV m.ss k r = actV m.ns)) x.m.rounds.toNat r && servS (actV m.ns) m.ss ((k + 1 : Nat) : Int) ((m.ms.drop (k + 1)).map (·.m))) ∧ Med B wr m ∧ Blk wr g4 28 m.cells ∧ Ext w wr) (fun r => x.m.rounds.toNat - r) 0 (.cons rfl (.cons rfl (.cons rfl (.cons rfl (.cons rfl (.cons rfl (.cons rfl (.nil _)))))))) ?_ ?_
  · exact ⟨by omega, (by rw [hi, dx]; rfl), hm, b1, X⟩
  clear hm b1
  clear X
  rintro r wr ⟨hr0, hi2, hm, b1, X⟩
  refine c_seq ?_
  refine c_seqR ?_
  refine ops_cons rfl (ow_move rfl ?_)
  refine ops_cons rfl (ow_fieldAddrB off28_2 rfl rfl ?_)
  refine ops_cons rfl (ow_loadB b1 ti25 rfl rfl ?_)
  refine ops_cons rfl (ow_move rfl ?_)
  refine ops_cons rfl (ow_indexT hm.sm ModeI.len rfl el25 rfl rfl rfl hx rfl ?_)
  refine ops_cons rfl (ow_fieldAddr off92_0 rfl ?_)
  refine ops_cons rfl (ow_loadTF hm.sm ModeI.len hx ti2 rfl rfl rfl ?_)
  refine ops_cons rfl (ow_lss2 rfl rfl (fun hr => ?_) (fun hr => ?_))
  refine ops_nil ?_
  refine c_true rfl ?_
  refine c_skip ?_
  refine tq_n ?_
  refine c_seq ?_
  refine c_block ?_
  refine c_seqR ?_
  refine ops_cons rfl (ow_assign rfl ?_)
  refine ops_nil ?_
  refine c_seq ?_
  refine c_seqR ?_
  refine ops_cons rfl (ow_assign rfl ?_)
  refine ops_nil ?_
  refine c_block ?_
  refine c_loop (G := Nat × Nat) (fun ⟨j, a⟩ => [(1, .pointer (some ⟨g4, 0, none⟩)), (3, .int .i64 (actV m.ns : Nat)), (4, .int .i64 (k : Nat)), (5, .int .i64 (r : Nat)), (11, .int .i64 (k : Nat)), (13, .slice m.Am m.ms.length m.cm), (14, .int .i64 (m.ms.length : Nat)), (18, .int .i64 (r : Nat)), (20, .slice m.Am m.ms.length m.cm), (21, .int .i64 (k : Nat)), (6, .int .i64 (a : Nat)), (7, .int .i64 (j : Nat))]) (fun ⟨j, a⟩ wr => j ≤ m.ss.length ∧ a < 4294967296 ∧ sndV m.ss k r = vecF (fun x : SlotI => decide (x.mode = (k : Int)) && decide (x.round = (r : Int))) (fun x => x.desc.node) a (m.ss.drop j) ∧ Med B wr m ∧ Blk wr g4 28 m.cells ∧ Ext w wr) (fun ⟨j, a⟩ => m.ss.length - j) (0, 0) (.cons rfl (.cons rfl (.cons rfl (.cons rfl (.cons rfl (.cons rfl (.cons rfl (.cons rfl (.cons rfl (.cons rfl (.cons rfl (.cons rfl (.nil _))))))))))))) ?_ ?_
  · exact ⟨by omega, (by omega), rfl, hm, b1, X⟩
  clear hm b1
  clear X
  rintro ⟨j, a⟩ wr ⟨hj0, ha, hi3, hm, b1, X⟩
  refine c_seq ?_
  refine c_seqR ?_
  refine ops_cons rfl (ow_move rfl ?_)
  refine ops_cons rfl (ow_fieldAddrB off28_3 rfl rfl ?_)
  refine ops_cons rfl (ow_loadB b1 ti26 rfl rfl ?_)
  refine ops_cons rfl (ow_len Tryz.underlying26 rfl ?_)
  refine ops_cons rfl (ow_lss2 rfl rfl (fun hj => ?_) (fun hj => ?_))
  obtain ⟨y, hy, dy⟩ := drop_at' hj
  have hys := slotI (hok y (List.mem_of_getElem? hy))
  refine ops_nil ?_
  refine c_true rfl ?_
  refine c_skip ?_
  refine tq_n ?_
  refine c_seq ?_
  refine c_block ?_
  refine c_seqR ?_
  refine ops_cons rfl (ow_fieldAddrB off28_3 rfl rfl ?_)
  refine ops_cons rfl (ow_loadB b1 ti26 rfl rfl ?_)
  refine ops_cons rfl (ow_move rfl ?_)
  refine ops_cons rfl (ow_indexT hm.ss SlotI.len rfl el26 rfl rfl rfl hy rfl ?_)
  refine ops_cons rfl (ow_fieldAddr off89_0 rfl ?_)
  refine ops_cons rfl (ow_loadTF hm.ss SlotI.len hy ti2 rfl rfl rfl ?_)
  refine ops_cons rfl (ow_move rfl ?_)
  refine ops_cons rfl (ow_eql2 rfl rfl (fun h7 => ?_) (fun h7 => ?_))
  refine ops_cons rfl (ow_move rfl ?_)
  refine ops_want rfl rfl rfl (ow_fieldAddrB off28_3 rfl rfl ?_)
  refine ops_want rfl rfl rfl (ow_loadB b1 ti26 rfl rfl ?_)
  refine ops_want rfl rfl rfl (ow_move rfl ?_)
  refine ops_want rfl rfl rfl (ow_indexT hm.ss SlotI.len rfl el26 rfl rfl rfl hy rfl ?_)
  refine ops_want rfl rfl rfl (ow_fieldAddr off89_1 rfl ?_)
  refine ops_want rfl rfl rfl (ow_loadTF hm.ss SlotI.len hy ti2 rfl rfl rfl ?_)
  refine ops_want rfl rfl rfl (ow_move rfl ?_)
  refine ops_want rfl rfl rfl (ow_eql2 rfl rfl (fun h8 => ?_) (fun h8 => ?_))
  refine ops_cons rfl (ow_pick rfl rfl ?_)
  refine ops_nil ?_
  refine c_true rfl ?_
  refine c_region ?_
  refine ops_cons rfl (ow_move rfl ?_)
  refine ops_cons rfl (ow_fieldAddrB off28_3 rfl rfl ?_)
  refine ops_cons rfl (ow_loadB b1 ti26 rfl rfl ?_)
  refine ops_cons rfl (ow_move rfl ?_)
  refine ops_cons rfl (ow_indexT hm.ss SlotI.len rfl el26 rfl rfl rfl hy rfl ?_)
  refine ops_cons rfl (ow_fieldAddr off89_3 rfl ?_)
  refine ops_cons rfl (ow_fieldAddr off67_0 rfl ?_)
  refine ops_cons rfl (ow_loadTFF hm.ss SlotI.len hy ti2 rfl rfl rfl ?_)
  refine ops_cons rfl (ow_call ent246 rfl (ret_mono (l05Set_c _ _ _ ha hys.2.1) ?_))
  rintro _ w10 ⟨rfl, x9⟩
  replace hm := hm.ext x9
  replace b1 := b1.ext x9
  replace X := Ext.trans X x9; clear x9
  refine ops_cons rfl (ow_assign rfl ?_)
  refine ops_nil ?_
  refine bq_n ?_
  refine tq_n ?_
  refine c_region ?_
  refine ops_cons rfl (ow_move rfl ?_)
  refine ops_cons rfl (ow_add rfl rfl (w64 (by omega)) ?_)
  refine ops_cons rfl (ow_assign rfl ?_)
  refine ops_nil ?_
  refine tq_n ⟨(j + 1, withN a y.desc.node), (.cons rfl (.cons rfl (.cons rfl (.cons rfl (.cons rfl (.cons rfl (.cons rfl (.cons rfl (.cons rfl (.cons rfl (.cons rfl (.cons rfl (.nil _))))))))))))), ?_, ?_⟩
  · exact ⟨by omega, (withN_lt ha hys.2.1), (by rw [hi3, dy, vecF]; simp [*]), hm, b1, X⟩
  · first | omega | (dsimp only; omega)
  refine ops_cons rfl (ow_pick rfl rfl ?_)
  refine ops_nil ?_
  refine c_false rfl ?_
  refine c_skip ?_
  refine bq_n ?_
  refine tq_n ?_
  refine c_region ?_
  refine ops_cons rfl (ow_move rfl ?_)
  refine ops_cons rfl (ow_add rfl rfl (w64 (by omega)) ?_)
  refine ops_cons rfl (ow_assign rfl ?_)
  refine ops_nil ?_
  refine tq_n ⟨(j + 1, a), (.cons rfl (.cons rfl (.cons rfl (.cons rfl (.cons rfl (.cons rfl (.cons rfl (.cons rfl (.cons rfl (.cons rfl (.cons rfl (.cons rfl (.nil _))))))))))))), ?_, ?_⟩
  · exact ⟨by omega, ha, (by rw [hi3, dy, vecF]; simp [*]), hm, b1, X⟩
  · first | omega | (dsimp only; omega)
  refine ops_cons rfl (ow_move rfl ?_)
  refine ops_skip rfl rfl rfl rfl ?_
  refine ops_skip rfl rfl rfl rfl ?_
  refine ops_skip rfl rfl rfl rfl ?_
  refine ops_skip rfl rfl rfl rfl ?_
  refine ops_skip rfl rfl rfl rfl ?_
  refine ops_skip rfl rfl rfl rfl ?_
  refine ops_skip rfl rfl rfl rfl ?_
  refine ops_skip rfl rfl rfl rfl ?_
  refine ops_cons rfl (ow_pick rfl rfl ?_)
  refine ops_nil ?_
  refine c_false rfl ?_
  refine c_skip ?_
  refine bq_n ?_
  refine tq_n ?_
  refine c_region ?_
  refine ops_cons rfl (ow_move rfl ?_)
  refine ops_cons rfl (ow_add rfl rfl (w64 (by omega)) ?_)
  refine ops_cons rfl (ow_assign rfl ?_)
  refine ops_nil ?_
  refine tq_n ⟨(j + 1, a), (.cons rfl (.cons rfl (.cons rfl (.cons rfl (.cons rfl (.cons rfl (.cons rfl (.cons rfl (.cons rfl (.cons rfl (.cons rfl (.cons rfl (.nil _))))))))))))), ?_, ?_⟩
  · exact ⟨by omega, ha, (by rw [hi3, dy, vecF]; simp [*]), hm, b1, X⟩
  · first | omega | (dsimp only; omega)
  have hsv : sndV m.ss k r = a := by rw [hi3, drop_end hj]; rfl
  have hac := actV_lt hN
  refine ops_nil ?_
  refine c_false rfl ?_
  refine c_exit ?_
  refine tq_e ?_
  refine tq_e ?_
  refine bq_e ?_
  refine tq_n ?_
  refine c_seqR ?_
  refine ops_cons rfl (ow_move rfl ?_)
  refine ops_cons rfl (ow_move rfl ?_)
  refine ops_cons rfl (ow_neq2 rfl rfl (fun hv => ?_) (fun hv => ?_))
  refine ops_nil ?_
  refine c_true rfl ?_
  refine c_seqR ?_
  refine ops_cons rfl (ow_assign rfl ?_)
  refine ops_nil ?_
  refine c_ret ?_
  refine bq_r ?_
  refine tq_r ?_
  refine tq_r ?_
  refine bq_r ?_
  refine bq_r ?_
  refine tq_r ?_
  refine tq_r ?_
  refine bq_r ?_
  refine tq_r ?_
  refine fin_ret1 rfl rfl ?_
  · skip
    refine ⟨congrArg Value.bool ?_, X⟩
    first
    | (rw [hi, drop_end hk]; rfl)
    | (rw [hi2, servR_step (by omega), decide_eq_false (show ¬ sndV m.ss k r = actV m.ns by rw [hsv]; omega)]; rfl)
  refine ops_nil ?_
  refine c_false rfl ?_
  refine c_skip ?_
  refine bq_n ?_
  refine tq_n ?_
  refine c_region ?_
  refine ops_cons rfl (ow_move rfl ?_)
  refine ops_cons rfl (ow_add rfl rfl (w64 (by omega)) ?_)
  refine ops_cons rfl (ow_assign rfl ?_)
  refine ops_nil ?_
  refine tq_n ⟨r + 1, (.cons rfl (.cons rfl (.cons rfl (.cons rfl (.cons rfl (.cons rfl (.cons rfl (.nil _)))))))), ?_, ?_⟩
  · exact ⟨by omega, (by rw [hi2, servR_step (by omega), decide_eq_true (show sndV m.ss k r = actV m.ns by rw [hsv]; omega)]; rfl), hm, b1, X⟩
  · first | omega | (dsimp only; omega)
  refine ops_nil ?_
  refine c_false rfl ?_
  refine c_exit ?_
  refine tq_e ?_
  refine tq_e ?_
  refine bq_e ?_
  refine bq_n ?_
  refine tq_n ?_
  refine c_region ?_
  refine ops_cons rfl (ow_move rfl ?_)
  refine ops_cons rfl (ow_add rfl rfl (w64 (by omega)) ?_)
  refine ops_cons rfl (ow_assign rfl ?_)
  refine ops_nil ?_
  refine tq_n ⟨k + 1, (.cons rfl (.cons rfl (.cons rfl (.nil _)))), ?_, ?_⟩
  · exact ⟨by omega, (by rw [hi2, servR_end (by omega)]; rfl), hm, b1, X⟩
  · first | omega | (dsimp only; omega)
  refine ops_nil ?_
  refine c_false rfl ?_
  refine c_exit ?_
  refine tq_e ?_
  refine tq_e ?_
  refine bq_e ?_
  refine tq_n ?_
  refine c_seqR ?_
  refine ops_cons rfl (ow_assign rfl ?_)
  refine ops_nil ?_
  refine c_ret ?_
  refine fin_ret1 rfl rfl ?_
  · skip
    refine ⟨congrArg Value.bool ?_, X⟩
    first
    | (rw [hi, drop_end hk]; rfl)
    | (rw [hi2, servR_step (by omega), decide_eq_false (show ¬ sndV m.ss k r = actV m.ns by rw [hsv]; omega)]; rfl)

theorem allSend_c (m : MedlI) (B : Nat) (w : World) (hm : Med B w m) (hz : m.small) (hok : ∀ x ∈ m.ss, slotOk x = true) (hN : isNT m.ns = true) (hT : isMT (m.ms.map (·.m)) = true) :
    Calls Tryz.prog 189 #[.agg m.cells.toArray] w (Ret fun v w' => v = .bool (servI (actV m.ns) m.ss 0 (m.ms.map (·.m))) ∧ Ext w w') := by
  have hls := hz.ls
  have hlm := hz.lm
  have hln := hz.ln
  have Bhm := hm.1
  have X := Ext.refl w
  refine calls_of (args := [.agg m.cells.toArray]) Tryz.func189 Tryz.ntmps189 rfl rfl ?_
  refine c_seqR ?_
  refine ops_cons rfl (ow_box rfl rfl ?_)
  intro g4 w3 eg4 b1 x2 zg4
  have lg4 : w.heap.size ≤ g4 := Nat.le_trans X.size (Nat.le_of_eq eg4.symm)
  have pg4hm := Nat.le_trans hm.1 (Nat.le_of_eq eg4.symm)
  replace hm := hm.ext x2
  replace X := Ext.trans X x2; clear x2
  refine ops_cons rfl (ow_assign rfl ?_)
  refine ops_nil ?_
  refine c_seq ?_
  refine c_seqR ?_
  refine ops_cons rfl (ow_fieldAddrB off28_2 rfl rfl ?_)
  refine ops_cons rfl (ow_loadB b1 ti25 rfl rfl ?_)
  refine ops_cons rfl (ow_len Tryz.underlying25 rfl ?_)
  refine ops_cons rfl (ow_move rfl ?_)
  refine ops_nil ?_
  refine c_block ?_
  refine c_loop (G := Nat) (fun k => [(1, .pointer (some ⟨g4, 0, none⟩)), (10, .slice m.Am m.ms.length m.cm), (11, .int .i64 (m.ms.length : Nat)), (12, .int .i64 (k : Nat))]) (fun k wr => k ≤ m.ms.length ∧ servI (actV m.ns) m.ss 0 (m.ms.map (·.m)) = servI (actV m.ns) m.ss (k : Int) ((m.ms.drop k).map (·.m)) ∧ Med B wr m ∧ Blk wr g4 28 m.cells ∧ Ext w wr) (fun k => m.ms.length - k) 0 (.cons rfl (.cons rfl (.cons rfl (.cons rfl (.nil _))))) ?_ ?_
  · exact ⟨by omega, rfl, hm, b1, X⟩
  clear hm b1
  clear X
  rintro k wr ⟨hk0, hi, hm, b1, X⟩
  refine c_seqR ?_
  refine ops_cons rfl (ow_lss2 rfl rfl (fun hk => ?_) (fun hk => ?_))
  obtain ⟨x, hx, dx⟩ := drop_at' hk
  have hxi := isMT_in hT x.m (List.mem_map.2 ⟨x, List.mem_of_getElem? hx, rfl⟩)
  refine ops_nil ?_
  refine c_seq ?_
  refine c_true rfl ?_
  refine c_skip ?_
  refine tq_n ?_
  refine c_seq ?_
  refine c_block ?_
  refine c_seqR ?_
  refine ops_cons rfl (ow_move rfl ?_)
  refine ops_cons rfl (ow_indexT hm.sm ModeI.len rfl el25 rfl rfl rfl hx rfl ?_)
  refine ops_cons rfl (ow_loadTA hm.sm ModeI.len hx ti92 rfl ?_)
  refine ops_cons rfl (ow_alloc ti92 ?_)
  intro gX w6 egX bX x5 zgX
  have lgX : w.heap.size ≤ gX := Nat.le_trans X.size (Nat.le_of_eq egX.symm)
  have pgXhm := Nat.le_trans hm.1 (Nat.le_of_eq egX.symm)
  have ngXb1 := Nat.lt_of_lt_of_eq b1.lt egX.symm
  replace hm := hm.ext x5
  replace b1 := b1.ext x5
  replace X := Ext.trans X x5; clear x5
  refine ops_cons rfl (ow_assign rfl ?_)
  refine ops_cons rfl (ow_storeB bX ti92 rfl rfl rfl rfl rfl rfl ?_)
  intro w9 bY hg7 z10
  replace hm := hm.grown hg7 (by intro g hg; injection hg; omega)
  replace b1 := b1.grown hg7 (by intro h; injection h; omega)
  replace X := X.grown hg7 X.size (by intro g hg; injection hg; omega)
  clear hg7 bX
  refine ops_nil ?_
  refine c_seqR ?_
  refine ops_cons rfl (ow_fieldAddrB off92_0 rfl rfl ?_)
  refine ops_cons rfl (ow_loadB bY ti2 rfl rfl ?_)
  refine ops_cons rfl (ow_move rfl ?_)
  refine ops_nil ?_
  refine c_block ?_
  refine c_loop (G := Nat) (fun r => [(1, .pointer (some ⟨g4, 0, none⟩)), (3, .int .i64 (k : Nat)), (4, .pointer (some ⟨gX, 0, none⟩)), (10, .slice m.Am m.ms.length m.cm), (11, .int .i64 (m.ms.length : Nat)), (12, .int .i64 (k : Nat)), (14, .int .i64 (k : Nat)), (18, .int .i64 x.m.rounds), (19, .int .i64 (r : Nat))]) (fun r wr => (r : Int) ≤ x.m.rounds ∧ servI (actV m.ns) m.ss 0 (m.ms.map (·.m)) = (servR (fun (r : Nat) => decide (lackN (actV m.ns) (sndV m.ss k r) = 0)) x.m.rounds.toNat r && servI (actV m.ns) m.ss ((k + 1 : Nat) : Int) ((m.ms.drop (k + 1)).map (·.m))) ∧ Med B wr m ∧ Blk wr g4 28 m.cells ∧ Blk wr gX 92 x.cells ∧ Ext w wr) (fun r => x.m.rounds.toNat - r) 0 (.cons rfl (.cons rfl (.cons rfl (.cons rfl (.cons rfl (.cons rfl (.cons rfl (.cons rfl (.cons rfl (.nil _)))))))))) ?_ ?_
  · exact ⟨by omega, (by rw [hi, dx]; rfl), hm, b1, bY, X⟩
  clear hm b1 bY
  clear X
  rintro r wr ⟨hr0, hi2, hm, b1, bY, X⟩
  refine c_seqR ?_
  refine ops_cons rfl (ow_lss2 rfl rfl (fun hr => ?_) (fun hr => ?_))
  refine ops_nil ?_
  refine c_seq ?_
  refine c_true rfl ?_
  refine c_skip ?_
  refine tq_n ?_
  refine c_seq ?_
  refine c_block ?_
  refine c_seqR ?_
  refine ops_cons rfl (ow_move rfl ?_)
  refine ops_cons rfl (ow_assign rfl ?_)
  refine ops_nil ?_
  refine c_seqR ?_
  refine ops_cons rfl (ow_assign rfl ?_)
  refine ops_nil ?_
  refine c_seq ?_
  refine c_seqR ?_
  refine ops_cons rfl (ow_fieldAddrB off28_3 rfl rfl ?_)
  refine ops_cons rfl (ow_loadB b1 ti26 rfl rfl ?_)
  refine ops_cons rfl (ow_len Tryz.underlying26 rfl ?_)
  refine ops_cons rfl (ow_move rfl ?_)
  refine ops_nil ?_
  refine c_block ?_
  refine c_loop (G := Nat × Nat) (fun ⟨j, a⟩ => [(1, .pointer (some ⟨g4, 0, none⟩)), (3, .int .i64 (k : Nat)), (4, .pointer (some ⟨gX, 0, none⟩)), (5, .int .i64 (r : Nat)), (10, .slice m.Am m.ms.length m.cm), (11, .int .i64 (m.ms.length : Nat)), (12, .int .i64 (k : Nat)), (14, .int .i64 (k : Nat)), (18, .int .i64 x.m.rounds), (19, .int .i64 (r : Nat)), (21, .int .i64 (r : Nat)), (23, .slice m.As m.ss.length m.cs), (24, .int .i64 (m.ss.length : Nat)), (6, .int .i64 (a : Nat)), (25, .int .i64 (j : Nat))]) (fun ⟨j, a⟩ wr => j ≤ m.ss.length ∧ a < 4294967296 ∧ sndV m.ss k r = vecF (fun x : SlotI => decide (x.mode = (k : Int)) && decide (x.round = (r : Int))) (fun x => x.desc.node) a (m.ss.drop j) ∧ Med B wr m ∧ Blk wr g4 28 m.cells ∧ Blk wr gX 92 x.cells ∧ Ext w wr) (fun ⟨j, a⟩ => m.ss.length - j) (0, 0) (.cons rfl (.cons rfl (.cons rfl (.cons rfl (.cons rfl (.cons rfl (.cons rfl (.cons rfl (.cons rfl (.cons rfl (.cons rfl (.cons rfl (.cons rfl (.cons rfl (.cons rfl (.nil _)))))))))))))))) ?_ ?_
  · exact ⟨by omega, (by omega), rfl, hm, b1, bY, X⟩
  clear hm b1 bY
  clear X
  rintro ⟨j, a⟩ wr ⟨hj0, ha, hi3, hm, b1, bY, X⟩
  refine c_seqR ?_
  refine ops_cons rfl (ow_lss2 rfl rfl (fun hj => ?_) (fun hj => ?_))
  obtain ⟨y, hy, dy⟩ := drop_at' hj
  have hys := slotI (hok y (List.mem_of_getElem? hy))
  refine ops_nil ?_
  refine c_seq ?_
  refine c_true rfl ?_
  refine c_skip ?_
  refine tq_n ?_
  refine c_seq ?_
  refine c_block ?_
  refine c_seqR ?_
  refine ops_cons rfl (ow_indexT hm.ss SlotI.len rfl el26 rfl rfl rfl hy rfl ?_)
  refine ops_cons rfl (ow_loadTA hm.ss SlotI.len hy ti89 rfl ?_)
  refine ops_cons rfl (ow_alloc ti89 ?_)
  intro g14 w13 eg14 b11 x12 zg14
  have lg14 : w.heap.size ≤ g14 := Nat.le_trans X.size (Nat.le_of_eq eg14.symm)
  have pg14hm := Nat.le_trans hm.1 (Nat.le_of_eq eg14.symm)
  have ng14b1 := Nat.lt_of_lt_of_eq b1.lt eg14.symm
  have ng14bY := Nat.lt_of_lt_of_eq bY.lt eg14.symm
  replace hm := hm.ext x12
  replace b1 := b1.ext x12
  replace bY := bY.ext x12
  replace X := Ext.trans X x12; clear x12
  refine ops_cons rfl (ow_storeB b11 ti89 rfl rfl rfl rfl rfl rfl ?_)
  intro w16 b18 hg15 z17
  replace hm := hm.grown hg15 (by intro g hg; injection hg; omega)
  replace b1 := b1.grown hg15 (by intro h; injection h; omega)
  replace bY := bY.grown hg15 (by intro h; injection h; omega)
  replace X := X.grown hg15 X.size (by intro g hg; injection hg; omega)
  clear hg15 b11
  refine ops_nil ?_
  refine c_seqR ?_
  refine ops_cons rfl (ow_fieldAddrB off89_0 rfl rfl ?_)
  refine ops_cons rfl (ow_loadB b18 ti2 rfl rfl ?_)
  refine ops_cons rfl (ow_move rfl ?_)
  refine ops_cons rfl (ow_eql2 rfl rfl (fun h19 => ?_) (fun h19 => ?_))
  refine ops_cons rfl (ow_move rfl ?_)
  refine ops_want rfl rfl rfl (ow_fieldAddrB off89_1 rfl rfl ?_)
  refine ops_want rfl rfl rfl (ow_loadB b18 ti2 rfl rfl ?_)
  refine ops_want rfl rfl rfl (ow_move rfl ?_)
  refine ops_want rfl rfl rfl (ow_eql2 rfl rfl (fun h20 => ?_) (fun h20 => ?_))
  refine ops_cons rfl (ow_pick rfl rfl ?_)
  refine ops_nil ?_
  refine c_true rfl ?_
  refine c_region ?_
  refine ops_cons rfl (ow_move rfl ?_)
  refine ops_cons rfl (ow_fieldAddrB off89_3 rfl rfl ?_)
  refine ops_cons rfl (ow_fieldAddrB off67_0 rfl rfl ?_)
  refine ops_cons rfl (ow_loadB b18 ti2 rfl rfl ?_)
  refine ops_cons rfl (ow_shl rfl rfl hys.2.1.1 rfl ?_)
  refine ops_cons rfl (ow_or rfl rfl (bits_with ha hys.2.1) ?_)
  refine ops_cons rfl (ow_assign rfl ?_)
  refine ops_nil ?_
  refine bq_n ?_
  refine tq_n ?_
  refine c_region ?_
  refine ops_cons rfl (ow_add rfl rfl (w64 (by omega)) ?_)
  refine ops_cons rfl (ow_move rfl ?_)
  refine ops_nil ?_
  refine tq_n ⟨(j + 1, withN a y.desc.node), (.cons rfl (.cons rfl (.cons rfl (.cons rfl (.cons rfl (.cons rfl (.cons rfl (.cons rfl (.cons rfl (.cons rfl (.cons rfl (.cons rfl (.cons rfl (.cons rfl (.cons rfl (.nil _)))))))))))))))), ?_, ?_⟩
  · exact ⟨by omega, (withN_lt ha hys.2.1), (by rw [hi3, dy, vecF]; simp [*]), hm, b1, bY, X⟩
  · first | omega | (dsimp only; omega)
  refine ops_cons rfl (ow_pick rfl rfl ?_)
  refine ops_nil ?_
  refine c_false rfl ?_
  refine c_skip ?_
  refine bq_n ?_
  refine tq_n ?_
  refine c_region ?_
  refine ops_cons rfl (ow_add rfl rfl (w64 (by omega)) ?_)
  refine ops_cons rfl (ow_move rfl ?_)
  refine ops_nil ?_
  refine tq_n ⟨(j + 1, a), (.cons rfl (.cons rfl (.cons rfl (.cons rfl (.cons rfl (.cons rfl (.cons rfl (.cons rfl (.cons rfl (.cons rfl (.cons rfl (.cons rfl (.cons rfl (.cons rfl (.cons rfl (.nil _)))))))))))))))), ?_, ?_⟩
  · exact ⟨by omega, ha, (by rw [hi3, dy, vecF]; simp [*]), hm, b1, bY, X⟩
  · first | omega | (dsimp only; omega)
  refine ops_cons rfl (ow_move rfl ?_)
  refine ops_skip rfl rfl rfl rfl ?_
  refine ops_skip rfl rfl rfl rfl ?_
  refine ops_skip rfl rfl rfl rfl ?_
  refine ops_skip rfl rfl rfl rfl ?_
  refine ops_cons rfl (ow_pick rfl rfl ?_)
  refine ops_nil ?_
  refine c_false rfl ?_
  refine c_skip ?_
  refine bq_n ?_
  refine tq_n ?_
  refine c_region ?_
  refine ops_cons rfl (ow_add rfl rfl (w64 (by omega)) ?_)
  refine ops_cons rfl (ow_move rfl ?_)
  refine ops_nil ?_
  refine tq_n ⟨(j + 1, a), (.cons rfl (.cons rfl (.cons rfl (.cons rfl (.cons rfl (.cons rfl (.cons rfl (.cons rfl (.cons rfl (.cons rfl (.cons rfl (.cons rfl (.cons rfl (.cons rfl (.cons rfl (.nil _)))))))))))))))), ?_, ?_⟩
  · exact ⟨by omega, ha, (by rw [hi3, dy, vecF]; simp [*]), hm, b1, bY, X⟩
  · first | omega | (dsimp only; omega)
  have hsv : sndV m.ss k r = a := by rw [hi3, drop_end hj]; rfl
  have hac := actV_lt hN
  refine ops_nil ?_
  refine c_seq ?_
  refine c_false rfl ?_
  refine c_exit ?_
  refine tq_e ?_
  refine tq_e ?_
  refine bq_e ?_
  refine tq_n ?_
  refine c_seqR ?_
  refine ops_cons rfl (ow_fieldAddrB off28_1 rfl rfl ?_)
  refine ops_cons rfl (ow_loadB b1 ti24 rfl rfl ?_)
  refine ops_cons rfl (ow_call ent114 rfl (ret_mono (activeVector_c _ _ _ m.ns _ hm.sn hln (isNT_ids hN)) ?_))
  rintro _ w22 ⟨rfl, x21⟩
  replace hm := hm.ext x21
  replace b1 := b1.ext x21
  replace bY := bY.ext x21
  replace X := Ext.trans X x21; clear x21
  refine ops_cons rfl (ow_move rfl ?_)
  refine ops_cons rfl (ow_andNot rfl rfl (bits_andNot (by omega) (by omega)) ?_)
  refine ops_cons rfl (ow_neq2 rfl rfl (fun hv => ?_) (fun hv => ?_))
  refine ops_nil ?_
  refine c_true rfl ?_
  refine c_seqR ?_
  refine ops_cons rfl (ow_assign rfl ?_)
  refine ops_nil ?_
  refine c_ret ?_
  refine bq_r ?_
  refine tq_r ?_
  refine tq_r ?_
  refine bq_r ?_
  refine bq_r ?_
  refine tq_r ?_
  refine tq_r ?_
  refine bq_r ?_
  refine tq_r ?_
  refine fin_ret1 rfl rfl ?_
  · skip
    refine ⟨congrArg Value.bool ?_, X⟩
    first
    | (rw [hi, drop_end hk]; rfl)
    | (rw [hi2, servR_step (by omega), decide_eq_false (show ¬ lackN (actV m.ns) (sndV m.ss k r) = 0 by rw [hsv]; omega)]; rfl)
  refine ops_nil ?_
  refine c_false rfl ?_
  refine c_skip ?_
  refine bq_n ?_
  refine tq_n ?_
  refine c_region ?_
  refine ops_cons rfl (ow_add rfl rfl (w64 (by omega)) ?_)
  refine ops_cons rfl (ow_move rfl ?_)
  refine ops_nil ?_
  refine tq_n ⟨r + 1, (.cons rfl (.cons rfl (.cons rfl (.cons rfl (.cons rfl (.cons rfl (.cons rfl (.cons rfl (.cons rfl (.nil _)))))))))), ?_, ?_⟩
  · exact ⟨by omega, (by rw [hi2, servR_step (by omega), decide_eq_true (show lackN (actV m.ns) (sndV m.ss k r) = 0 by rw [hsv]; omega)]; rfl), hm, b1, bY, X⟩
  · first | omega | (dsimp only; omega)
  refine ops_nil ?_
  refine c_seq ?_
  refine c_false rfl ?_
  refine c_exit ?_
  refine tq_e ?_
  refine tq_e ?_
  refine bq_e ?_
  refine bq_n ?_
  refine tq_n ?_
  refine c_region ?_
  refine ops_cons rfl (ow_add rfl rfl (w64 (by omega)) ?_)
  refine ops_cons rfl (ow_move rfl ?_)
  refine ops_nil ?_
  refine tq_n ⟨k + 1, (.cons rfl (.cons rfl (.cons rfl (.cons rfl (.nil _))))), ?_, ?_⟩
  · exact ⟨by omega, (by rw [hi2, servR_end (by omega)]; rfl), hm, b1, X⟩
  · first | omega | (dsimp only; omega)
  refine ops_nil ?_
  refine c_seq ?_
  refine c_false rfl ?_
  refine c_exit ?_
  refine tq_e ?_
  refine tq_e ?_
  refine bq_e ?_
  refine tq_n ?_
  refine c_seqR ?_
  refine ops_cons rfl (ow_assign rfl ?_)
  refine ops_nil ?_
  refine c_ret ?_
  refine fin_ret1 rfl rfl ?_
  · skip
    refine ⟨congrArg Value.bool ?_, X⟩
    first
    | (rw [hi, drop_end hk]; rfl)
    | (rw [hi2, servR_step (by omega), decide_eq_false (show ¬ lackN (actV m.ns) (sndV m.ss k r) = 0 by rw [hsv]; omega)]; rfl)

theorem l13Senders_c (m : MedlI) (B : Nat) (w : World) (hm : Med B w m) (hz : m.small) (hok : ∀ x ∈ m.ss, slotOk x = true) (hN : isNT m.ns = true) :
    Calls Tryz.prog 228 #[.agg m.cells.toArray] w (Ret fun v w' => v = .bool (sendersB m.d) ∧ Ext w w') := by
  have hls := hz.ls
  have hlm := hz.lm
  have hln := hz.ln
  have hac := actV_lt hN
  have Bhm := hm.1
  have X := Ext.refl w
  refine calls_of (args := [.agg m.cells.toArray]) Tryz.func228 Tryz.ntmps228 rfl rfl ?_
  refine c_seqR ?_
  refine ops_cons rfl (ow_box rfl rfl ?_)
  intro g4 w3 eg4 b1 x2 zg4
  have lg4 : w.heap.size ≤ g4 := Nat.le_trans X.size (Nat.le_of_eq eg4.symm)
  have pg4hm := Nat.le_trans hm.1 (Nat.le_of_eq eg4.symm)
  replace hm := hm.ext x2
  replace X := Ext.trans X x2; clear x2
  refine ops_cons rfl (ow_assign rfl ?_)
  refine ops_nil ?_
  refine c_seqR ?_
  refine ops_cons rfl (ow_fieldAddrB off28_1 rfl rfl ?_)
  refine ops_cons rfl (ow_loadB b1 ti24 rfl rfl ?_)
  refine ops_cons rfl (ow_call ent181 rfl (ret_mono (l10Active_c _ _ _ m.ns _ hm.sn hln (isNT_ids hN)) ?_))
  rintro _ w6 ⟨rfl, x5⟩
  replace hm := hm.ext x5
  replace b1 := b1.ext x5
  replace X := Ext.trans X x5; clear x5
  refine ops_cons rfl (ow_assign rfl ?_)
  refine ops_nil ?_
  refine c_seq ?_
  refine c_seqR ?_
  refine ops_cons rfl (ow_assign rfl ?_)
  refine ops_nil ?_
  refine c_block ?_
  refine c_loop (G := Nat) (fun k => [(1, .pointer (some ⟨g4, 0, none⟩)), (3, .int .i64 (actV m.ns : Nat)), (4, .int .i64 (k : Nat))]) (fun k wr => k ≤ m.ss.length ∧ sendersB m.d = ((m.ss.drop k).all fun x => hasN (actV m.ns) x.desc.node) ∧ Med B wr m ∧ Blk wr g4 28 m.cells ∧ Ext w wr) (fun k => m.ss.length - k) 0 (.cons rfl (.cons rfl (.cons rfl (.nil _)))) ?_ ?_
  · exact ⟨by omega, rfl, hm, b1, X⟩
  clear hm b1
  clear X
  rintro k wr ⟨hk0, hi, hm, b1, X⟩
  refine c_seq ?_
  refine c_seqR ?_
  refine ops_cons rfl (ow_move rfl ?_)
  refine ops_cons rfl (ow_fieldAddrB off28_3 rfl rfl ?_)
  refine ops_cons rfl (ow_loadB b1 ti26 rfl rfl ?_)
  refine ops_cons rfl (ow_len Tryz.underlying26 rfl ?_)
  refine ops_cons rfl (ow_lss2 rfl rfl (fun hk => ?_) (fun hk => ?_))
  obtain ⟨x, hx, dx⟩ := drop_at' hk
  have hxs := slotI (hok x (List.mem_of_getElem? hx))
  refine ops_nil ?_
  refine c_true rfl ?_
  refine c_skip ?_
  refine tq_n ?_
  refine c_seq ?_
  refine c_block ?_
  refine c_seqR ?_
  refine ops_cons rfl (ow_move rfl ?_)
  refine ops_cons rfl (ow_fieldAddrB off28_3 rfl rfl ?_)
  refine ops_cons rfl (ow_loadB b1 ti26 rfl rfl ?_)
  refine ops_cons rfl (ow_move rfl ?_)
  refine ops_cons rfl (ow_indexT hm.ss SlotI.len rfl el26 rfl rfl rfl hx rfl ?_)
  refine ops_cons rfl (ow_fieldAddr off89_3 rfl ?_)
  refine ops_cons rfl (ow_fieldAddr off67_0 rfl ?_)
  refine ops_cons rfl (ow_loadTFF hm.ss SlotI.len hx ti2 rfl rfl rfl ?_)
  refine ops_cons rfl (ow_callB ent245 rfl (l05Has_c _ _ _ hac hxs.2.1) (fun w9 hh x7 => ?_) (fun w9 hh x7 => ?_))
  replace hm := hm.ext x7
  replace b1 := b1.ext x7
  replace X := Ext.trans X x7; clear x7
  refine ops_cons rfl (ow_not rfl ?_)
  refine ops_nil ?_
  refine c_false rfl ?_
  refine c_skip ?_
  refine bq_n ?_
  refine tq_n ?_
  refine c_region ?_
  refine ops_cons rfl (ow_move rfl ?_)
  refine ops_cons rfl (ow_add rfl rfl (w64 (by omega)) ?_)
  refine ops_cons rfl (ow_assign rfl ?_)
  refine ops_nil ?_
  refine tq_n ⟨k + 1, (.cons rfl (.cons rfl (.cons rfl (.nil _)))), ?_, ?_⟩
  · exact ⟨by omega, (by rw [hi, dx, List.all_cons, hh]; rfl), hm, b1, X⟩
  · first | omega | (dsimp only; omega)
  replace hm := hm.ext x7
  replace b1 := b1.ext x7
  replace X := Ext.trans X x7; clear x7
  refine ops_cons rfl (ow_not rfl ?_)
  refine ops_nil ?_
  refine c_true rfl ?_
  refine c_seqR ?_
  refine ops_cons rfl (ow_assign rfl ?_)
  refine ops_nil ?_
  refine c_ret ?_
  refine bq_r ?_
  refine tq_r ?_
  refine tq_r ?_
  refine bq_r ?_
  refine tq_r ?_
  refine fin_ret1 rfl rfl ?_
  · skip
    refine ⟨congrArg Value.bool ?_, X⟩
    first | (rw [hi, drop_end hk]; rfl) | (rw [hi, dx, List.all_cons, hh]; rfl)
  refine ops_nil ?_
  refine c_false rfl ?_
  refine c_exit ?_
  refine tq_e ?_
  refine tq_e ?_
  refine bq_e ?_
  refine tq_n ?_
  refine c_seqR ?_
  refine ops_cons rfl (ow_assign rfl ?_)
  refine ops_nil ?_
  refine c_ret ?_
  refine fin_ret1 rfl rfl ?_
  · skip
    refine ⟨congrArg Value.bool ?_, X⟩
    first | (rw [hi, drop_end hk]; rfl) | (rw [hi, dx, List.all_cons, hh]; rfl)
end Go.Proofs.YtdoibplhbdkapaaGreatDoor
