/- Texts of the seat that a law needs, put together. No condition. -/
import Derived.Test.YtdoibplhbdkapaaGreatDoorCEP20
import Derived.Test.YtdoibplhbdkapaaGreatDoorCEP5
namespace Go.Proofs.YtdoibplhbdkapaaGreatDoor
open Go.RowKit
set_option linter.unusedVariables false
set_option linter.unusedSimpArgs false
set_option maxRecDepth 20000
theorem l15Start_c (m : MedlI) (B : Nat) (mode a b : Int) (w : World) (hm : Med B w m) (hz : m.small) (hok : ∀ x ∈ m.ss, slotOk x = true) :
    Calls Tryz.prog 122 #[.agg m.cells.toArray, .int .i64 mode, .int .i64 a, .int .i64 b] w (Ret fun v w' => v = .int .i64 (startD m.ss mode a b) ∧ Ext w w') := by
  have hls := hz.ls
  have hlm := hz.lm
  have hln := hz.ln
  have Bhm := hm.1
  have X := Ext.refl w
  refine calls_of (args := [.agg m.cells.toArray, .int .i64 mode, .int .i64 a, .int .i64 b]) Tryz.func122 Tryz.ntmps122 rfl rfl ?_
  refine c_seqR ?_
  refine ops_cons rfl (ow_box rfl rfl ?_)
  intro g4 w3 eg4 b1 x2 zg4
  have lg4 : w.heap.size ≤ g4 := Nat.le_trans X.size (Nat.le_of_eq eg4.symm)
  have pg4hm := Nat.le_trans hm.1 (Nat.le_of_eq eg4.symm)
  replace hm := hm.ext x2
  replace X := Ext.trans X x2; clear x2
  refine ops_cons rfl (ow_assign rfl ?_)
  refine ops_nil ?_
  refine c_seqR ?_
  refine ops_cons rfl (ow_assign rfl ?_)
  refine ops_nil ?_
  refine c_seq ?_
  refine c_seqR ?_
  refine ops_cons rfl (ow_assign rfl ?_)
  refine ops_nil ?_
  refine c_block ?_
  refine c_loop (G := Nat × Int) (fun ⟨k, n⟩ => [(1, .int .i64 mode), (2, .int .i64 a), (3, .int .i64 b), (4, .pointer (some ⟨g4, 0, none⟩)), (8, .int .i64 0), (9, .int .i64 n), (10, .int .i64 (k : Nat))]) (fun ⟨k, n⟩ wr => k ≤ m.ss.length ∧ (0 ≤ n ∧ n ≤ 1000 * k) ∧ startD m.ss mode a b = n + startD (m.ss.drop k) mode a b ∧ Med B wr m ∧ Blk wr g4 28 m.cells ∧ Ext w wr) (fun ⟨k, n⟩ => m.ss.length - k) (0, 0) (.cons rfl (.cons rfl (.cons rfl (.cons rfl (.cons rfl (.cons rfl (.cons rfl (.nil _)))))))) ?_ ?_
  · exact ⟨by omega, by omega, (by simp), hm, b1, X⟩
  clear hm b1
  clear X
  rintro ⟨k, n⟩ wr ⟨hk0, hn, hi, hm, b1, X⟩
  refine c_seq ?_
  refine c_seqR ?_
  refine ops_cons rfl (ow_move rfl ?_)
  refine ops_cons rfl (ow_fieldAddrB off28_3 rfl rfl ?_)
  refine ops_cons rfl (ow_loadB b1 ti26 rfl rfl ?_)
  refine ops_cons rfl (ow_len Tryz.underlying26 rfl ?_)
  refine ops_cons rfl (ow_lss2 rfl rfl (fun hk => ?_) (fun hk => ?_))
  obtain ⟨x, hx, dx⟩ := drop_at' hk
  have hxs := slotI (hok x (List.mem_of_getElem? hx))
  refine ops_nil ?_
  refine c_true rfl ?_
  refine c_skip ?_
  refine tq_n ?_
  refine c_seq ?_
  refine c_block ?_
  refine c_seqR ?_
  refine ops_cons rfl (ow_fieldAddrB off28_3 rfl rfl ?_)
  refine ops_cons rfl (ow_loadB b1 ti26 rfl rfl ?_)
  refine ops_cons rfl (ow_move rfl ?_)
  refine ops_cons rfl (ow_indexT hm.ss SlotI.len rfl el26 rfl rfl rfl hx rfl ?_)
  refine ops_cons rfl (ow_loadTA hm.ss SlotI.len hx ti89 rfl ?_)
  refine ops_cons rfl (ow_alloc ti89 ?_)
  intro g8 w7 eg8 b5 x6 zg8
  have lg8 : w.heap.size ≤ g8 := Nat.le_trans X.size (Nat.le_of_eq eg8.symm)
  have pg8hm := Nat.le_trans hm.1 (Nat.le_of_eq eg8.symm)
  have ng8b1 := Nat.lt_of_lt_of_eq b1.lt eg8.symm
  replace hm := hm.ext x6
  replace b1 := b1.ext x6
  replace X := Ext.trans X x6; clear x6
  refine ops_cons rfl (ow_storeB b5 ti89 rfl rfl rfl rfl rfl rfl ?_)
  intro w10 b12 hg9 z11
  replace hm := hm.grown hg9 (by intro g hg; injection hg; omega)
  replace b1 := b1.grown hg9 (by intro h; injection h; omega)
  replace X := X.grown hg9 X.size (by intro g hg; injection hg; omega)
  clear hg9 b5
  refine ops_nil ?_
  refine c_seqR ?_
  refine ops_cons rfl (ow_fieldAddrB off89_0 rfl rfl ?_)
  refine ops_cons rfl (ow_loadB b12 ti2 rfl rfl ?_)
  refine ops_cons rfl (ow_move rfl ?_)
  refine ops_cons rfl (ow_eql2 rfl rfl (fun e1 => ?_) (fun e1 => ?_))
  refine ops_cons rfl (ow_move rfl ?_)
  refine ops_want rfl rfl rfl (ow_fieldAddrB off89_1 rfl rfl ?_)
  refine ops_want rfl rfl rfl (ow_loadB b12 ti2 rfl rfl ?_)
  refine ops_want rfl rfl rfl (ow_move rfl ?_)
  refine ops_want rfl rfl rfl (ow_lss2 rfl rfl (fun e2 => ?_) (fun e2 => ?_))
  refine ops_want rfl rfl rfl (ow_move rfl ?_)
  refine ops_skip rfl rfl rfl rfl ?_
  refine ops_skip rfl rfl rfl rfl ?_
  refine ops_skip rfl rfl rfl rfl ?_
  refine ops_skip rfl rfl rfl rfl ?_
  refine ops_skip rfl rfl rfl rfl ?_
  refine ops_skip2 rfl rfl rfl ?_
  refine ops_skip2 rfl rfl rfl ?_
  refine ops_skip2 rfl rfl rfl ?_
  refine ops_skip2 rfl rfl rfl ?_
  refine ops_skip rfl rfl rfl rfl ?_
  refine ops_want rfl rfl rfl (ow_pick rfl rfl ?_)
  refine ops_cons rfl (ow_pick rfl rfl ?_)
  refine ops_nil ?_
  refine c_true rfl ?_
  refine c_region ?_
  refine ops_cons rfl (ow_move rfl ?_)
  refine ops_cons rfl (ow_fieldAddrB off89_3 rfl rfl ?_)
  refine ops_cons rfl (ow_fieldAddrB off67_3 rfl rfl ?_)
  refine ops_cons rfl (ow_loadB b12 ti2 rfl rfl ?_)
  refine ops_cons rfl (ow_add rfl rfl (w64 (by omega)) ?_)
  refine ops_cons rfl (ow_assign rfl ?_)
  refine ops_nil ?_
  refine bq_n ?_
  refine tq_n ?_
  refine c_region ?_
  refine ops_cons rfl (ow_move rfl ?_)
  refine ops_cons rfl (ow_add rfl rfl (w64 (by omega)) ?_)
  refine ops_cons rfl (ow_assign rfl ?_)
  refine ops_nil ?_
  refine tq_n ⟨(k + 1, n + x.desc.duration), (.cons rfl (.cons rfl (.cons rfl (.cons rfl (.cons rfl (.cons rfl (.cons rfl (.nil _)))))))), ?_, ?_⟩
  · exact ⟨by omega, by omega, (by rw [hi, dx, startD_cons_t (by simp [beforeB, *])]; omega), hm, b1, X⟩
  · first | omega | (dsimp only; omega)
  refine ops_want rfl rfl rfl (ow_move rfl ?_)
  refine ops_want rfl rfl rfl (ow_fieldAddrB off89_1 rfl rfl ?_)
  refine ops_want rfl rfl rfl (ow_loadB b12 ti2 rfl rfl ?_)
  refine ops_want rfl rfl rfl (ow_move rfl ?_)
  refine ops_want rfl rfl rfl (ow_eql2 rfl rfl (fun e3 => ?_) (fun e3 => ?_))
  refine ops_want rfl rfl rfl (ow_move rfl ?_)
  refine ops_want rfl rfl rfl (ow_fieldAddrB off89_2 rfl rfl ?_)
  refine ops_want rfl rfl rfl (ow_loadB b12 ti2 rfl rfl ?_)
  refine ops_want rfl rfl rfl (ow_move rfl ?_)
  refine ops_want rfl rfl rfl (ow_lss2 rfl rfl (fun e4 => ?_) (fun e4 => ?_))
  refine ops_want rfl rfl rfl (ow_pick rfl rfl ?_)
  refine ops_want rfl rfl rfl (ow_pick rfl rfl ?_)
  refine ops_cons rfl (ow_pick rfl rfl ?_)
  refine ops_nil ?_
  refine c_true rfl ?_
  refine c_region ?_
  refine ops_cons rfl (ow_move rfl ?_)
  refine ops_cons rfl (ow_fieldAddrB off89_3 rfl rfl ?_)
  refine ops_cons rfl (ow_fieldAddrB off67_3 rfl rfl ?_)
  refine ops_cons rfl (ow_loadB b12 ti2 rfl rfl ?_)
  refine ops_cons rfl (ow_add rfl rfl (w64 (by omega)) ?_)
  refine ops_cons rfl (ow_assign rfl ?_)
  refine ops_nil ?_
  refine bq_n ?_
  refine tq_n ?_
  refine c_region ?_
  refine ops_cons rfl (ow_move rfl ?_)
  refine ops_cons rfl (ow_add rfl rfl (w64 (by omega)) ?_)
  refine ops_cons rfl (ow_assign rfl ?_)
  refine ops_nil ?_
  refine tq_n ⟨(k + 1, n + x.desc.duration), (.cons rfl (.cons rfl (.cons rfl (.cons rfl (.cons rfl (.cons rfl (.cons rfl (.nil _)))))))), ?_, ?_⟩
  · exact ⟨by omega, by omega, (by rw [hi, dx, startD_cons_t (by simp [beforeB, *])]; omega), hm, b1, X⟩
  · first | omega | (dsimp only; omega)
  refine ops_want rfl rfl rfl (ow_pick rfl rfl ?_)
  refine ops_want rfl rfl rfl (ow_pick rfl rfl ?_)
  refine ops_cons rfl (ow_pick rfl rfl ?_)
  refine ops_nil ?_
  refine c_false rfl ?_
  refine c_skip ?_
  refine bq_n ?_
  refine tq_n ?_
  refine c_region ?_
  refine ops_cons rfl (ow_move rfl ?_)
  refine ops_cons rfl (ow_add rfl rfl (w64 (by omega)) ?_)
  refine ops_cons rfl (ow_assign rfl ?_)
  refine ops_nil ?_
  refine tq_n ⟨(k + 1, n), (.cons rfl (.cons rfl (.cons rfl (.cons rfl (.cons rfl (.cons rfl (.cons rfl (.nil _)))))))), ?_, ?_⟩
  · exact ⟨by omega, by omega, (by rw [hi, dx, startD_cons_f (by simp [beforeB, *])]), hm, b1, X⟩
  · first | omega | (dsimp only; omega)
  refine ops_want rfl rfl rfl (ow_move rfl ?_)
  refine ops_skip rfl rfl rfl rfl ?_
  refine ops_skip rfl rfl rfl rfl ?_
  refine ops_skip rfl rfl rfl rfl ?_
  refine ops_skip rfl rfl rfl rfl ?_
  refine ops_want rfl rfl rfl (ow_pick rfl rfl ?_)
  refine ops_want rfl rfl rfl (ow_pick rfl rfl ?_)
  refine ops_cons rfl (ow_pick rfl rfl ?_)
  refine ops_nil ?_
  refine c_false rfl ?_
  refine c_skip ?_
  refine bq_n ?_
  refine tq_n ?_
  refine c_region ?_
  refine ops_cons rfl (ow_move rfl ?_)
  refine ops_cons rfl (ow_add rfl rfl (w64 (by omega)) ?_)
  refine ops_cons rfl (ow_assign rfl ?_)
  refine ops_nil ?_
  refine tq_n ⟨(k + 1, n), (.cons rfl (.cons rfl (.cons rfl (.cons rfl (.cons rfl (.cons rfl (.cons rfl (.nil _)))))))), ?_, ?_⟩
  · exact ⟨by omega, by omega, (by rw [hi, dx, startD_cons_f (by simp [beforeB, *])]), hm, b1, X⟩
  · first | omega | (dsimp only; omega)
  refine ops_cons rfl (ow_move rfl ?_)
  refine ops_skip rfl rfl rfl rfl ?_
  refine ops_skip rfl rfl rfl rfl ?_
  refine ops_skip rfl rfl rfl rfl ?_
  refine ops_skip rfl rfl rfl rfl ?_
  refine ops_skip rfl rfl rfl rfl ?_
  refine ops_skip2 rfl rfl rfl ?_
  refine ops_skip2 rfl rfl rfl ?_
  refine ops_skip2 rfl rfl rfl ?_
  refine ops_skip2 rfl rfl rfl ?_
  refine ops_skip2 rfl rfl rfl ?_
  refine ops_skip2 rfl rfl rfl ?_
  refine ops_skip2 rfl rfl rfl ?_
  refine ops_skip2 rfl rfl rfl ?_
  refine ops_skip2 rfl rfl rfl ?_
  refine ops_skip2 rfl rfl rfl ?_
  refine ops_skip rfl rfl rfl rfl ?_
  refine ops_cons rfl (ow_pick rfl rfl ?_)
  refine ops_nil ?_
  refine c_false rfl ?_
  refine c_skip ?_
  refine bq_n ?_
  refine tq_n ?_
  refine c_region ?_
  refine ops_cons rfl (ow_move rfl ?_)
  refine ops_cons rfl (ow_add rfl rfl (w64 (by omega)) ?_)
  refine ops_cons rfl (ow_assign rfl ?_)
  refine ops_nil ?_
  refine tq_n ⟨(k + 1, n), (.cons rfl (.cons rfl (.cons rfl (.cons rfl (.cons rfl (.cons rfl (.cons rfl (.nil _)))))))), ?_, ?_⟩
  · exact ⟨by omega, by omega, (by rw [hi, dx, startD_cons_f (by simp [beforeB, *])]), hm, b1, X⟩
  · first | omega | (dsimp only; omega)
  refine ops_nil ?_
  refine c_false rfl ?_
  refine c_exit ?_
  refine tq_e ?_
  refine tq_e ?_
  refine bq_e ?_
  refine tq_n ?_
  refine c_seqR ?_
  refine ops_cons rfl (ow_move rfl ?_)
  refine ops_cons rfl (ow_assign rfl ?_)
  refine ops_nil ?_
  refine c_ret ?_
  refine fin_ret1 rfl rfl ?_
  exact ⟨by rw [hi, drop_end hk]; simp [startD, sumD], X⟩

theorem slotStart_c (m : MedlI) (B : Nat) (s : StateI) (w : World) (hm : Med B w m) (hz : m.small) (hW : WellF m.d) (hB : belongsB m.d s = true) :
    Calls Tryz.prog 131 #[.agg m.cells.toArray, .agg s.cells.toArray] w (Ret fun v w' => v = .int .i64 (startD m.ss s.mode s.round s.slot) ∧ Ext w w') := by
  have hls := hz.ls
  have hlm := hz.lm
  have hln := hz.ln
  obtain ⟨k, x, j, y, bl, hx, hxi, hj, hy, hda, hso, hro, hno, hyd⟩ := bel_get hW hB
  have hst := stateOk_in bl.ok
  have hok : ∀ x ∈ m.ss, slotOk x = true := isST_all hW.st
  have brd := bl.rd
  have bsl := bl.sl
  obtain ⟨hsb, hsl, hsn⟩ := start_bel hW bl hxi.2
  have hs16 : s.round.toNat * x.m.slots.toNat + s.slot.toNat ≤ 1048576 := Nat.le_trans hsl (Nat.le_trans (ofMode_len _ _) hls)
  generalize s.round.toNat * x.m.slots.toNat + s.slot.toNat = n0 at hsb hsl hsn hs16
  have hmu : 0 ≤ s.round * x.m.slots := Int.mul_nonneg brd.1 (by omega)
  have Bhm := hm.1
  have X := Ext.refl w
  refine calls_of (args := [.agg m.cells.toArray, .agg s.cells.toArray]) Tryz.func131 Tryz.ntmps131 rfl rfl ?_
  refine c_seqR ?_
  refine ops_cons rfl (ow_box rfl rfl ?_)
  intro g4 w3 eg4 b1 x2 zg4
  have lg4 : w.heap.size ≤ g4 := Nat.le_trans X.size (Nat.le_of_eq eg4.symm)
  have pg4hm := Nat.le_trans hm.1 (Nat.le_of_eq eg4.symm)
  replace hm := hm.ext x2
  replace X := Ext.trans X x2; clear x2
  refine ops_cons rfl (ow_box rfl rfl ?_)
  intro g8 w7 eg8 b5 x6 zg8
  have lg8 : w.heap.size ≤ g8 := Nat.le_trans X.size (Nat.le_of_eq eg8.symm)
  have pg8hm := Nat.le_trans hm.1 (Nat.le_of_eq eg8.symm)
  have ng8b1 := Nat.lt_of_lt_of_eq b1.lt eg8.symm
  replace hm := hm.ext x6
  replace b1 := b1.ext x6
  replace X := Ext.trans X x6; clear x6
  refine ops_cons rfl (ow_assign rfl ?_)
  refine ops_nil ?_
  refine c_seqD [false, false, false, false, false, false, false, false, false, false, false, false, false, false] mixed (by kernel_rfl) ?_
  refine f_q rfl (fun wq sq => ow_fieldAddrB off62_2 rfl rfl ⟨rfl, Ext.refl _⟩) ?_
  refine f_q rfl (fun wq sq => ow_loadB (b5.ext sq) ti2 rfl rfl ⟨rfl, Ext.refl _⟩) ?_
  refine f_q rfl (fun wq sq => ow_fieldAddrB off28_2 rfl rfl ⟨rfl, Ext.refl _⟩) ?_
  refine f_q rfl (fun wq sq => ow_loadB (b1.ext sq) ti25 rfl rfl ⟨rfl, Ext.refl _⟩) ?_
  refine f_q rfl (fun wq sq => ow_fieldAddrB off62_1 rfl rfl ⟨rfl, Ext.refl _⟩) ?_
  refine f_q rfl (fun wq sq => ow_loadB (b5.ext sq) ti2 rfl rfl ⟨rfl, Ext.refl _⟩) ?_
  refine f_q rfl (fun wq sq => ow_indexT ((hm.ext sq)).sm ModeI.len rfl el25 rfl rfl rfl hx bl.md ⟨rfl, Ext.refl _⟩) ?_
  refine f_q rfl (fun wq sq => ow_fieldAddr off92_1 rfl ⟨rfl, Ext.refl _⟩) ?_
  refine f_q rfl (fun wq sq => ow_loadTF ((hm.ext sq)).sm ModeI.len hx ti2 rfl rfl rfl ⟨rfl, Ext.refl _⟩) ?_
  refine f_q rfl (fun wq sq => ow_mul rfl rfl (w64 (by omega)) ⟨rfl, Ext.refl _⟩) ?_
  refine f_q rfl (fun wq sq => ow_fieldAddrB off62_3 rfl rfl ⟨rfl, Ext.refl _⟩) ?_
  refine f_q rfl (fun wq sq => ow_loadB (b5.ext sq) ti2 rfl rfl ⟨rfl, Ext.refl _⟩) ?_
  refine f_q rfl (fun wq sq => ow_add rfl rfl (w64 (by omega)) ⟨rfl, Ext.refl _⟩) ?_
  refine f_q rfl (fun wq sq => ow_assign rfl ⟨rfl, Ext.refl _⟩) ?_
  refine f_nil (fun w9 sq => ?_)
  have xq := sq
  replace hm := hm.ext xq
  replace b1 := b1.ext xq
  replace b5 := b5.ext xq
  replace X := Ext.trans X xq; clear xq sq
  refine ops_nil ?_
  refine c_seqR ?_
  refine ops_cons rfl (ow_loadAB b1 ti28 rfl rfl ?_)
  refine ops_cons rfl (ow_fieldAddrB off62_1 rfl rfl ?_)
  refine ops_cons rfl (ow_loadB b5 ti2 rfl rfl ?_)
  refine ops_cons rfl (ow_call ent120 rfl (ret_mono (modeSlots_c m B s.mode _ hm hz) ?_))
  rintro _ w11 ⟨AL, cL, rfl, oL, x10⟩
  replace oL := Own.low oL X.size
  replace hm := hm.ext x10
  replace b1 := b1.ext x10
  replace b5 := b5.ext x10
  replace X := Ext.trans X x10; clear x10
  refine ops_cons rfl (ow_move rfl ?_)
  refine ops_cons rfl (ow_sliceH el26 (oL).sl SlotI.len rfl rfl hsn (Nat.le_trans hsl (Own.cap oL)) ?_)
  intro Ap pL
  refine ops_cons rfl (ow_call ent205 rfl (ret_mono (by have := sumD_c Ap _ cL ((ofMode s.mode m.ss).take n0) _ pL (by simp; omega) (fun z hz2 => by have h1 := ofMode_sub _ _ z (List.mem_of_mem_take hz2); have h2 := slotI (hok z h1.1); omega); rw [show ((ofMode s.mode m.ss).take n0).length = n0 by simp; omega] at this; exact this) ?_))
  rintro _ w13 ⟨rfl, x12⟩
  replace hm := hm.ext x12
  replace b1 := b1.ext x12
  replace b5 := b5.ext x12
  replace oL := oL.ext x12
  replace pL := pL.ext x12
  replace X := Ext.trans X x12; clear x12
  refine ops_cons rfl (ow_assign rfl ?_)
  refine ops_nil ?_
  refine c_ret ?_
  refine fin_ret1 rfl rfl ?_
  exact ⟨by rw [hsb], X⟩

theorem specStart_c (m : MedlI) (B : Nat) (s : StateI) (w : World) (hm : Med B w m) (hz : m.small) :
    Calls Tryz.prog 53 #[.agg m.cells.toArray, .agg s.cells.toArray] w (Ret fun v w' => v = .tuple #[.int .i64 (startF m.d s).1, .int .i64 (startF m.d s).2] ∧ Ext w w') := by
  have hls := hz.ls
  have hlm := hz.lm
  have hln := hz.ln
  have Bhm := hm.1
  have X := Ext.refl w
  refine calls_of (args := [.agg m.cells.toArray, .agg s.cells.toArray]) Tryz.func53 Tryz.ntmps53 rfl rfl ?_
  refine c_seqR ?_
  refine ops_cons rfl (ow_box rfl rfl ?_)
  intro g4 w3 eg4 b1 x2 zg4
  have lg4 : w.heap.size ≤ g4 := Nat.le_trans X.size (Nat.le_of_eq eg4.symm)
  have pg4hm := Nat.le_trans hm.1 (Nat.le_of_eq eg4.symm)
  replace hm := hm.ext x2
  replace X := Ext.trans X x2; clear x2
  refine ops_cons rfl (ow_box rfl rfl ?_)
  intro g8 w7 eg8 b5 x6 zg8
  have lg8 : w.heap.size ≤ g8 := Nat.le_trans X.size (Nat.le_of_eq eg8.symm)
  have pg8hm := Nat.le_trans hm.1 (Nat.le_of_eq eg8.symm)
  have ng8b1 := Nat.lt_of_lt_of_eq b1.lt eg8.symm
  replace hm := hm.ext x6
  replace b1 := b1.ext x6
  replace X := Ext.trans X x6; clear x6
  refine ops_cons rfl (ow_assign rfl ?_)
  refine ops_cons rfl (ow_assign rfl ?_)
  refine ops_nil ?_
  refine c_seqR ?_
  refine ops_cons rfl (ow_loadAB b1 ti28 rfl rfl ?_)
  refine ops_cons rfl (ow_loadAB b5 ti62 rfl rfl ?_)
  refine ops_cons rfl (ow_call ent132 rfl (ret_mono (l15Code_c m _ s _ hm hz) ?_))
  rintro _ w10 ⟨rfl, x9⟩
  replace hm := hm.ext x9
  replace b1 := b1.ext x9
  replace b5 := b5.ext x9
  replace X := Ext.trans X x9; clear x9
  refine ops_cons rfl (ow_assign rfl ?_)
  refine ops_nil ?_
  refine c_seq ?_
  refine c_seqR ?_
  refine ops_cons rfl (ow_move rfl ?_)
  refine ops_cons rfl (ow_neq2 rfl rfl (fun hC => ?_) (fun hC => ?_))
  refine ops_nil ?_
  refine c_true rfl ?_
  refine c_seqR ?_
  refine ops_cons rfl (ow_move rfl ?_)
  refine ops_cons rfl (ow_assign rfl ?_)
  refine ops_cons rfl (ow_assign rfl ?_)
  refine ops_nil ?_
  refine c_ret ?_
  refine tq_r ?_
  refine fin_ret2 rfl rfl rfl ?_
  · skip
    first
    | (have e : startF m.d s = (0, lookC m.d s) := by rw [startF, if_neg hC]
       rw [e]; exact ⟨rfl, X⟩)
    | (have e : startF m.d s = (startD m.ss s.mode s.round s.slot, 0) := by rw [startF, if_pos hC0]; rfl
       rw [e]; exact ⟨rfl, X⟩)
  have hC0 : lookC m.d s = 0 := by omega
  have hm0 := lookC_zero.1 hC0
  have wf := isMedl_iff.1 hm0.1
  have hB := hm0.2
  have hok : ∀ x ∈ m.ss, slotOk x = true := isST_all wf.st
  refine ops_nil ?_
  refine c_false rfl ?_
  refine c_skip ?_
  refine tq_n ?_
  refine c_seqR ?_
  refine ops_cons rfl (ow_loadAB b1 ti28 rfl rfl ?_)
  refine ops_cons rfl (ow_fieldAddrB off62_1 rfl rfl ?_)
  refine ops_cons rfl (ow_loadB b5 ti2 rfl rfl ?_)
  refine ops_cons rfl (ow_fieldAddrB off62_2 rfl rfl ?_)
  refine ops_cons rfl (ow_loadB b5 ti2 rfl rfl ?_)
  refine ops_cons rfl (ow_fieldAddrB off62_3 rfl rfl ?_)
  refine ops_cons rfl (ow_loadB b5 ti2 rfl rfl ?_)
  refine ops_cons rfl (ow_call ent122 rfl (ret_mono (l15Start_c m _ s.mode s.round s.slot _ hm hz hok) ?_))
  rintro _ w12 ⟨rfl, x11⟩
  replace hm := hm.ext x11
  replace b1 := b1.ext x11
  replace b5 := b5.ext x11
  replace X := Ext.trans X x11; clear x11
  refine ops_cons rfl (ow_assign rfl ?_)
  refine ops_cons rfl (ow_assign rfl ?_)
  refine ops_nil ?_
  refine c_ret ?_
  refine fin_ret2 rfl rfl rfl ?_
  · skip
    first
    | (have e : startF m.d s = (0, lookC m.d s) := by rw [startF, if_neg hC]
       rw [e]; exact ⟨rfl, X⟩)
    | (have e : startF m.d s = (startD m.ss s.mode s.round s.slot, 0) := by rw [startF, if_pos hC0]; rfl
       rw [e]; exact ⟨rfl, X⟩)

theorem implStart_c (m : MedlI) (B : Nat) (s : StateI) (w : World) (hm : Med B w m) (hz : m.small) :
    Calls Tryz.prog 52 #[.agg m.cells.toArray, .agg s.cells.toArray] w (Ret fun v w' => v = .tuple #[.int .i64 (startF m.d s).1, .int .i64 (startF m.d s).2] ∧ Ext w w') := by
  have hls := hz.ls
  have hlm := hz.lm
  have hln := hz.ln
  have Bhm := hm.1
  have X := Ext.refl w
  refine calls_of (args := [.agg m.cells.toArray, .agg s.cells.toArray]) Tryz.func52 Tryz.ntmps52 rfl rfl ?_
  refine c_seqR ?_
  refine ops_cons rfl (ow_box rfl rfl ?_)
  intro g4 w3 eg4 b1 x2 zg4
  have lg4 : w.heap.size ≤ g4 := Nat.le_trans X.size (Nat.le_of_eq eg4.symm)
  have pg4hm := Nat.le_trans hm.1 (Nat.le_of_eq eg4.symm)
  replace hm := hm.ext x2
  replace X := Ext.trans X x2; clear x2
  refine ops_cons rfl (ow_box rfl rfl ?_)
  intro g8 w7 eg8 b5 x6 zg8
  have lg8 : w.heap.size ≤ g8 := Nat.le_trans X.size (Nat.le_of_eq eg8.symm)
  have pg8hm := Nat.le_trans hm.1 (Nat.le_of_eq eg8.symm)
  have ng8b1 := Nat.lt_of_lt_of_eq b1.lt eg8.symm
  replace hm := hm.ext x6
  replace b1 := b1.ext x6
  replace X := Ext.trans X x6; clear x6
  refine ops_cons rfl (ow_assign rfl ?_)
  refine ops_cons rfl (ow_assign rfl ?_)
  refine ops_nil ?_
  refine c_seq ?_
  refine c_seqR ?_
  refine ops_cons rfl (ow_loadAB b1 ti28 rfl rfl ?_)
  refine ops_cons rfl (ow_loadAB b5 ti62 rfl rfl ?_)
  refine ops_cons rfl (ow_call ent130 rfl (ret_mono (lookCode_c m _ s _ hm hz) ?_))
  rintro _ w10 ⟨rfl, x9⟩
  replace hm := hm.ext x9
  replace b1 := b1.ext x9
  replace b5 := b5.ext x9
  replace X := Ext.trans X x9; clear x9
  refine ops_cons rfl (ow_assign rfl ?_)
  refine ops_nil ?_
  refine c_seqR ?_
  refine ops_cons rfl (ow_move rfl ?_)
  refine ops_cons rfl (ow_neq2 rfl rfl (fun hC => ?_) (fun hC => ?_))
  refine ops_nil ?_
  refine c_true rfl ?_
  refine c_seqR ?_
  refine ops_cons rfl (ow_move rfl ?_)
  refine ops_cons rfl (ow_assign rfl ?_)
  refine ops_cons rfl (ow_assign rfl ?_)
  refine ops_nil ?_
  refine c_ret ?_
  refine tq_r ?_
  refine fin_ret2 rfl rfl rfl ?_
  · skip
    first
    | (have e : startF m.d s = (0, lookC m.d s) := by rw [startF, if_neg hC]
       rw [e]; exact ⟨rfl, X⟩)
    | (have e : startF m.d s = (startD m.ss s.mode s.round s.slot, 0) := by rw [startF, if_pos hC0]; rfl
       rw [e]; exact ⟨rfl, X⟩)
  have hC0 : lookC m.d s = 0 := by omega
  have hm0 := lookC_zero.1 hC0
  have wf := isMedl_iff.1 hm0.1
  have hB := hm0.2
  have hok : ∀ x ∈ m.ss, slotOk x = true := isST_all wf.st
  refine ops_nil ?_
  refine c_false rfl ?_
  refine c_skip ?_
  refine tq_n ?_
  refine c_seqR ?_
  refine ops_cons rfl (ow_loadAB b1 ti28 rfl rfl ?_)
  refine ops_cons rfl (ow_loadAB b5 ti62 rfl rfl ?_)
  refine ops_cons rfl (ow_call ent131 rfl (ret_mono (slotStart_c m _ s _ hm hz wf hB) ?_))
  rintro _ w12 ⟨rfl, x11⟩
  replace hm := hm.ext x11
  replace b1 := b1.ext x11
  replace b5 := b5.ext x11
  replace X := Ext.trans X x11; clear x11
  refine ops_cons rfl (ow_assign rfl ?_)
  refine ops_cons rfl (ow_assign rfl ?_)
  refine ops_nil ?_
  refine c_ret ?_
  refine fin_ret2 rfl rfl rfl ?_
  · skip
    first
    | (have e : startF m.d s = (0, lookC m.d s) := by rw [startF, if_neg hC]
       rw [e]; exact ⟨rfl, X⟩)
    | (have e : startF m.d s = (startD m.ss s.mode s.round s.slot, 0) := by rw [startF, if_pos hC0]; rfl
       rw [e]; exact ⟨rfl, X⟩)

theorem iSlotAt_c (m : MedlI) (B : Nat) (mode time : Int) (w : World) (hm : Med B w m) (hz : m.small) (hti : -9223372036854775808 ≤ time ∧ time ≤ 9223372036854775807) :
    Calls Tryz.prog 45 #[.agg m.cells.toArray, .int .i64 mode, .int .i64 time] w (Ret fun v w' => v = .tuple #[.int .i64 (slotAtF m.d mode time).1, .int .i64 (slotAtF m.d mode time).2.1, .int .i64 (slotAtF m.d mode time).2.2] ∧ Ext w w') := by
  have hls := hz.ls
  have hlm := hz.lm
  have hln := hz.ln
  obtain ⟨hti1, hti2⟩ := hti
  have Bhm := hm.1
  have X := Ext.refl w
  refine calls_of (args := [.agg m.cells.toArray, .int .i64 mode, .int .i64 time]) Tryz.func45 Tryz.ntmps45 rfl rfl ?_
  refine c_seqR ?_
  refine ops_cons rfl (ow_box rfl rfl ?_)
  intro g4 w3 eg4 b1 x2 zg4
  have lg4 : w.heap.size ≤ g4 := Nat.le_trans X.size (Nat.le_of_eq eg4.symm)
  have pg4hm := Nat.le_trans hm.1 (Nat.le_of_eq eg4.symm)
  replace hm := hm.ext x2
  replace X := Ext.trans X x2; clear x2
  refine ops_cons rfl (ow_assign rfl ?_)
  refine ops_cons rfl (ow_assign rfl ?_)
  refine ops_cons rfl (ow_assign rfl ?_)
  refine ops_nil ?_
  refine c_seq ?_
  refine c_seqR ?_
  refine ops_cons rfl (ow_loadAB b1 ti28 rfl rfl ?_)
  refine ops_cons rfl (ow_move rfl ?_)
  refine ops_cons rfl (ow_call ent119 rfl (ret_mono (modeCode_c m _ mode _ hm hz) ?_))
  rintro _ w6 ⟨rfl, x5⟩
  replace hm := hm.ext x5
  replace b1 := b1.ext x5
  replace X := Ext.trans X x5; clear x5
  refine ops_cons rfl (ow_assign rfl ?_)
  refine ops_nil ?_
  refine c_seqR ?_
  refine ops_cons rfl (ow_move rfl ?_)
  refine ops_cons rfl (ow_neq2 rfl rfl (fun hC => ?_) (fun hC => ?_))
  refine ops_nil ?_
  refine c_true rfl ?_
  refine c_seqR ?_
  refine ops_cons rfl (ow_move rfl ?_)
  refine ops_cons rfl (ow_assign rfl ?_)
  refine ops_cons rfl (ow_assign rfl ?_)
  refine ops_cons rfl (ow_assign rfl ?_)
  refine ops_nil ?_
  refine c_ret ?_
  refine tq_r ?_
  refine fin_ret3 rfl rfl rfl rfl ?_
  · skip
    first
    | (have e : slotAtF m.d mode time = (0, 0, modeC m.d mode) := by rw [slotAtF, if_neg hC]
       rw [e]; exact ⟨rfl, X⟩)
    | (have e : slotAtF m.d mode time = (0, 0, 4) := by rw [slotAtF, if_pos hC0, if_pos ht]
       rw [e]; exact ⟨rfl, X⟩)
    | (have ha : atF time 0 (ofMode mode m.ss) = none := by rw [hi, drop_end hk]; rfl
       have e : slotAtF m.d mode time = (0, 0, 4) := by
         rw [slotAtF, if_pos hC0, if_neg ht]
         show (match atF time 0 (ofMode mode m.ss) with | some x => (x.round, x.slot, (0 : Int)) | none => (0, 0, 4)) = _
         rw [ha]
       rw [e]; exact ⟨rfl, X⟩)
    | (have ha : atF time 0 (ofMode mode m.ss) = some x := by rw [hi, dx, atF, if_pos (by omega)]
       have e : slotAtF m.d mode time = (x.round, x.slot, 0) := by
         rw [slotAtF, if_pos hC0, if_neg ht]
         show (match atF time 0 (ofMode mode m.ss) with | some x => (x.round, x.slot, (0 : Int)) | none => (0, 0, 4)) = _
         rw [ha]
       rw [e]; exact ⟨rfl, X⟩)
  have hC0 : modeC m.d mode = 0 := by omega
  have hm0 := modeC_zero.1 hC0
  have wf := isMedl_iff.1 hm0.1
  have hok : ∀ x ∈ m.ss, slotOk x = true := isST_all wf.st
  obtain ⟨k0, x0, hkm, hx0⟩ := mode_get hm0.2
  have hxi := isMT_in wf.mt x0 (List.mem_of_getElem? hx0)
  have hat : m.ss.find? (atP m.ss mode time) = atF time 0 (ofMode mode m.ss) := by rw [hkm]; exact atS_eq wf.co hx0 hxi.2.1 time
  clear hkm
  refine ops_nil ?_
  refine c_false rfl ?_
  refine c_skip ?_
  refine tq_n ?_
  refine c_seq ?_
  refine c_seqR ?_
  refine ops_cons rfl (ow_move rfl ?_)
  refine ops_cons rfl (ow_lss2 rfl rfl (fun ht => ?_) (fun ht => ?_))
  refine ops_nil ?_
  refine c_true rfl ?_
  refine c_seqR ?_
  refine ops_cons rfl (ow_assign rfl ?_)
  refine ops_cons rfl (ow_assign rfl ?_)
  refine ops_cons rfl (ow_assign rfl ?_)
  refine ops_nil ?_
  refine c_ret ?_
  refine tq_r ?_
  refine fin_ret3 rfl rfl rfl rfl ?_
  · skip
    first
    | (have e : slotAtF m.d mode time = (0, 0, modeC m.d mode) := by rw [slotAtF, if_neg hC]
       rw [e]; exact ⟨rfl, X⟩)
    | (have e : slotAtF m.d mode time = (0, 0, 4) := by rw [slotAtF, if_pos hC0, if_pos ht]
       rw [e]; exact ⟨rfl, X⟩)
    | (have ha : atF time 0 (ofMode mode m.ss) = none := by rw [hi, drop_end hk]; rfl
       have e : slotAtF m.d mode time = (0, 0, 4) := by
         rw [slotAtF, if_pos hC0, if_neg ht]
         show (match atF time 0 (ofMode mode m.ss) with | some x => (x.round, x.slot, (0 : Int)) | none => (0, 0, 4)) = _
         rw [ha]
       rw [e]; exact ⟨rfl, X⟩)
    | (have ha : atF time 0 (ofMode mode m.ss) = some x := by rw [hi, dx, atF, if_pos (by omega)]
       have e : slotAtF m.d mode time = (x.round, x.slot, 0) := by
         rw [slotAtF, if_pos hC0, if_neg ht]
         show (match atF time 0 (ofMode mode m.ss) with | some x => (x.round, x.slot, (0 : Int)) | none => (0, 0, 4)) = _
         rw [ha]
       rw [e]; exact ⟨rfl, X⟩)
  refine ops_nil ?_
  refine c_false rfl ?_
  refine c_skip ?_
  refine tq_n ?_
  refine c_seq ?_
  refine c_seqR ?_
  refine ops_cons rfl (ow_loadAB b1 ti28 rfl rfl ?_)
  refine ops_cons rfl (ow_move rfl ?_)
  refine ops_cons rfl (ow_call ent120 rfl (ret_mono (modeSlots_c m B mode _ hm hz) ?_))
  rintro _ w9 ⟨AL, cL, rfl, oL, x7⟩
  replace oL := Own.low oL X.size
  replace hm := hm.ext x7
  replace b1 := b1.ext x7
  replace X := Ext.trans X x7; clear x7
  obtain ⟨bL, sL⟩ : ∃ b, Sl b _ _ _ := ⟨_, oL.sl⟩
  have BsL := sL.1
  clear oL
  have hll := ofMode_len mode m.ss
  refine ops_cons rfl (ow_len Tryz.underlying26 rfl ?_)
  refine ops_cons rfl (ow_move rfl ?_)
  refine ops_nil ?_
  refine c_block ?_
  refine c_loop (G := Nat × Int × Int) (fun ⟨k, a, tr⟩ => [(22, .slice AL (ofMode mode m.ss).length cL), (23, .int .i64 ((ofMode mode m.ss).length : Nat)), (2, .int .i64 tr), (24, .int .i64 (k : Nat))]) (fun ⟨k, a, tr⟩ wr => k ≤ (ofMode mode m.ss).length ∧ (0 ≤ a ∧ tr = time - a ∧ 0 ≤ tr) ∧ atF time 0 (ofMode mode m.ss) = atF time a ((ofMode mode m.ss).drop k) ∧ Med B wr m ∧ Blk wr g4 28 m.cells ∧ Sl bL wr AL ((ofMode mode m.ss).flatMap SlotI.cells) ∧ Ext w wr) (fun ⟨k, a, tr⟩ => (ofMode mode m.ss).length - k) (0, 0, time) (.cons rfl (.cons rfl (.cons rfl (.cons rfl (.nil _))))) ?_ ?_
  · exact ⟨by omega, by omega, rfl, hm, b1, sL, X⟩
  clear hm b1 sL
  clear X
  rintro ⟨k, a, tr⟩ wr ⟨hk1, ha, hi, hm, b1, sL, X⟩
  refine c_seqR ?_
  refine ops_cons rfl (ow_lss2 rfl rfl (fun hk => ?_) (fun hk => ?_))
  obtain ⟨x, hx, dx⟩ := drop_at' hk
  have hxs := slotI (hok x (ofMode_sub _ _ x (List.mem_of_getElem? hx)).1)
  refine ops_nil ?_
  refine c_seq ?_
  refine c_true rfl ?_
  refine c_skip ?_
  refine tq_n ?_
  refine c_seq ?_
  refine c_block ?_
  refine c_seqR ?_
  refine ops_cons rfl (ow_indexT sL SlotI.len rfl el26 rfl rfl rfl hx rfl ?_)
  refine ops_cons rfl (ow_loadTA sL SlotI.len hx ti89 rfl ?_)
  refine ops_cons rfl (ow_alloc ti89 ?_)
  intro gX w11 egX bX x10 zgX
  have lgX : w.heap.size ≤ gX := Nat.le_trans X.size (Nat.le_of_eq egX.symm)
  have pgXhm := Nat.le_trans hm.1 (Nat.le_of_eq egX.symm)
  have ngXb1 := Nat.lt_of_lt_of_eq b1.lt egX.symm
  have pgXsL := Nat.le_trans sL.1 (Nat.le_of_eq egX.symm)
  replace hm := hm.ext x10
  replace b1 := b1.ext x10
  replace sL := sL.ext x10
  replace X := Ext.trans X x10; clear x10
  refine ops_cons rfl (ow_storeB bX ti89 rfl rfl rfl rfl rfl rfl ?_)
  intro w13 bY hg12 z14
  replace hm := hm.grown hg12 (by intro g hg; injection hg; omega)
  replace b1 := b1.grown hg12 (by intro h; injection h; omega)
  replace sL := sL.grown hg12 (by intro g hg; injection hg; omega)
  replace X := X.grown hg12 X.size (by intro g hg; injection hg; omega)
  clear hg12 bX
  refine ops_nil ?_
  refine c_seq ?_
  refine c_seqR ?_
  refine ops_cons rfl (ow_move rfl ?_)
  refine ops_cons rfl (ow_fieldAddrB off89_3 rfl rfl ?_)
  refine ops_cons rfl (ow_fieldAddrB off67_3 rfl rfl ?_)
  refine ops_cons rfl (ow_loadB bY ti2 rfl rfl ?_)
  refine ops_cons rfl (ow_lss2 rfl rfl (fun hc => ?_) (fun hc => ?_))
  refine ops_nil ?_
  refine c_true rfl ?_
  refine c_seqD [false, false, false, false, false, false, false] mixed (by kernel_rfl) ?_
  refine f_q rfl (fun wq sq => ow_fieldAddrB off89_1 rfl rfl ⟨rfl, Ext.refl _⟩) ?_
  refine f_q rfl (fun wq sq => ow_loadB (bY.ext sq) ti2 rfl rfl ⟨rfl, Ext.refl _⟩) ?_
  refine f_q rfl (fun wq sq => ow_fieldAddrB off89_2 rfl rfl ⟨rfl, Ext.refl _⟩) ?_
  refine f_q rfl (fun wq sq => ow_loadB (bY.ext sq) ti2 rfl rfl ⟨rfl, Ext.refl _⟩) ?_
  refine f_q rfl (fun wq sq => ow_assign rfl ⟨rfl, Ext.refl _⟩) ?_
  refine f_q rfl (fun wq sq => ow_assign rfl ⟨rfl, Ext.refl _⟩) ?_
  refine f_q rfl (fun wq sq => ow_assign rfl ⟨rfl, Ext.refl _⟩) ?_
  refine f_nil (fun w15 sq => ?_)
  have xq := sq
  replace hm := hm.ext xq
  replace b1 := b1.ext xq
  replace sL := sL.ext xq
  replace bY := bY.ext xq
  replace X := Ext.trans X xq; clear xq sq
  refine ops_nil ?_
  refine c_ret ?_
  refine tq_r ?_
  refine bq_r ?_
  refine tq_r ?_
  refine tq_r ?_
  refine bq_r ?_
  refine tq_r ?_
  refine fin_ret3 rfl rfl rfl rfl ?_
  · skip
    first
    | (have e : slotAtF m.d mode time = (0, 0, modeC m.d mode) := by rw [slotAtF, if_neg hC]
       rw [e]; exact ⟨rfl, X⟩)
    | (have e : slotAtF m.d mode time = (0, 0, 4) := by rw [slotAtF, if_pos hC0, if_pos ht]
       rw [e]; exact ⟨rfl, X⟩)
    | (have ha : atF time 0 (ofMode mode m.ss) = none := by rw [hi, drop_end hk]; rfl
       have e : slotAtF m.d mode time = (0, 0, 4) := by
         rw [slotAtF, if_pos hC0, if_neg ht]
         show (match atF time 0 (ofMode mode m.ss) with | some x => (x.round, x.slot, (0 : Int)) | none => (0, 0, 4)) = _
         rw [ha]
       rw [e]; exact ⟨rfl, X⟩)
    | (have ha : atF time 0 (ofMode mode m.ss) = some x := by rw [hi, dx, atF, if_pos (by omega)]
       have e : slotAtF m.d mode time = (x.round, x.slot, 0) := by
         rw [slotAtF, if_pos hC0, if_neg ht]
         show (match atF time 0 (ofMode mode m.ss) with | some x => (x.round, x.slot, (0 : Int)) | none => (0, 0, 4)) = _
         rw [ha]
       rw [e]; exact ⟨rfl, X⟩)
  refine ops_nil ?_
  refine c_false rfl ?_
  refine c_skip ?_
  refine tq_n ?_
  refine c_region ?_
  refine ops_cons rfl (ow_move rfl ?_)
  refine ops_cons rfl (ow_fieldAddrB off89_3 rfl rfl ?_)
  refine ops_cons rfl (ow_fieldAddrB off67_3 rfl rfl ?_)
  refine ops_cons rfl (ow_loadB bY ti2 rfl rfl ?_)
  refine ops_cons rfl (ow_sub rfl rfl (w64 (by omega)) ?_)
  refine ops_cons rfl (ow_assign rfl ?_)
  refine ops_nil ?_
  refine bq_n ?_
  refine tq_n ?_
  refine c_region ?_
  refine ops_cons rfl (ow_add rfl rfl (w64 (by omega)) ?_)
  refine ops_cons rfl (ow_move rfl ?_)
  refine ops_nil ?_
  refine tq_n ⟨(k + 1, a + x.desc.duration, tr - x.desc.duration), (.cons rfl (.cons rfl (.cons rfl (.cons rfl (.nil _))))), ?_, ?_⟩
  · exact ⟨by omega, by omega, (by rw [hi, dx, atF, if_neg (by omega)]), hm, b1, sL, X⟩
  · first | omega | (dsimp only; omega)
  refine ops_nil ?_
  refine c_seq ?_
  refine c_false rfl ?_
  refine c_exit ?_
  refine tq_e ?_
  refine tq_e ?_
  refine bq_e ?_
  refine tq_n ?_
  refine c_seqR ?_
  refine ops_cons rfl (ow_assign rfl ?_)
  refine ops_cons rfl (ow_assign rfl ?_)
  refine ops_cons rfl (ow_assign rfl ?_)
  refine ops_nil ?_
  refine c_ret ?_
  refine fin_ret3 rfl rfl rfl rfl ?_
  · skip
    first
    | (have e : slotAtF m.d mode time = (0, 0, modeC m.d mode) := by rw [slotAtF, if_neg hC]
       rw [e]; exact ⟨rfl, X⟩)
    | (have e : slotAtF m.d mode time = (0, 0, 4) := by rw [slotAtF, if_pos hC0, if_pos ht]
       rw [e]; exact ⟨rfl, X⟩)
    | (have ha : atF time 0 (ofMode mode m.ss) = none := by rw [hi, drop_end hk]; rfl
       have e : slotAtF m.d mode time = (0, 0, 4) := by
         rw [slotAtF, if_pos hC0, if_neg ht]
         show (match atF time 0 (ofMode mode m.ss) with | some x => (x.round, x.slot, (0 : Int)) | none => (0, 0, 4)) = _
         rw [ha]
       rw [e]; exact ⟨rfl, X⟩)
    | (have ha : atF time 0 (ofMode mode m.ss) = some x := by rw [hi, dx, atF, if_pos (by omega)]
       have e : slotAtF m.d mode time = (x.round, x.slot, 0) := by
         rw [slotAtF, if_pos hC0, if_neg ht]
         show (match atF time 0 (ofMode mode m.ss) with | some x => (x.round, x.slot, (0 : Int)) | none => (0, 0, 4)) = _
         rw [ha]
       rw [e]; exact ⟨rfl, X⟩)
end Go.Proofs.YtdoibplhbdkapaaGreatDoor
namespace Go.Proofs.YtdoibplhbdkapaaGreatDoor
open Go.RowKit
set_option linter.unusedVariables false
set_option linter.unusedSimpArgs false

def hitN (z : Int) (x : NodeI) : Bool := decide (x.id = z)
/-- the place of the node, counted from k on; -1 if none -/
def findN (z k : Int) : List NodeI → Int
  | [] => -1
  | x :: r => if hitN z x = true then k else findN z (k + 1) r
def idIn (ns : List NodeI) (z : Int) : Bool := ns.any (hitN z)
theorem findN_has (z : Int) : ∀ (xs : List NodeI) (k : Int), 0 ≤ k → decide (0 ≤ findN z k xs) = idIn xs z
  | [], k, h => by simp [findN, idIn]
  | x :: r, k, h => by
    rw [findN]
    by_cases e : hitN z x = true
    · rw [if_pos e]; simp [idIn, e, h]
    · rw [if_neg e, findN_has z r (k + 1) (by omega)]; simp [idIn, e]
theorem findN_lt {z : Int} {xs : List NodeI} : findN z 0 xs < 0 ↔ idIn xs z = false := by
  have := findN_has z xs 0 (by omega)
  rw [← this]; simp
def sendC (d : MedlD) (mode node : Int) : Int := if modeC d mode = 0 then (if idIn d.ns node = true then 0 else 2) else modeC d mode
def sendS (ss : List SlotI) (mode node : Int) : List SlotI → List Int
  | [] => []
  | x :: r => if x.mode = mode ∧ x.desc.node = node then startD ss mode x.round x.slot :: sendS ss mode node r else sendS ss mode node r
def sendG (node : Int) : Int → List SlotI → List Int
  | _, [] => []
  | a, x :: r => if x.desc.node = node then a :: sendG node (a + x.desc.duration) r else sendG node (a + x.desc.duration) r
def sendT (d : MedlD) (mode node : Int) : List Int × Int := if sendC d mode node = 0 then (sendS d.ss mode node d.ss, 0) else ([], sendC d mode node)
theorem sendS_len (ss : List SlotI) (mode node : Int) : ∀ (l : List SlotI), (sendS ss mode node l).length ≤ l.length
  | [] => by simp [sendS]
  | x :: r => by
    have := sendS_len ss mode node r
    rw [sendS]; split <;> simp <;> omega
theorem sendS_map (ss : List SlotI) (mode node : Int) : ∀ (l : List SlotI), sendS ss mode node l = ((ofMode mode l).filter fun x => decide (x.desc.node = node)).map fun x => startD ss mode x.round x.slot
  | [] => by simp [sendS, ofMode]
  | x :: r => by
    have ih := sendS_map ss mode node r
    rw [sendS]
    by_cases e1 : x.mode = mode
    · rw [ofMode_cons_t e1, List.filter_cons]
      by_cases e2 : x.desc.node = node
      · rw [if_pos ⟨e1, e2⟩, if_pos (by simpa using e2), List.map_cons, ih]
      · rw [if_neg (fun h => e2 h.2), if_neg (by simpa using e2), ih]
    · rw [ofMode_cons_f e1, if_neg (fun h => e1 h.1), ih]
theorem sendG_map {L : List SlotI} {f : SlotI → Int} {node : Int} (hf : ∀ (j : Nat) (y : SlotI), L[j]? = some y → f y = sumD (L.take j)) :
    ∀ (n : Nat) (k : Nat), L.length - k = n → sendG node (sumD (L.take k)) (L.drop k) = ((L.drop k).filter fun x => decide (x.desc.node = node)).map f
  | 0, k, h => by rw [List.drop_eq_nil_of_le (by omega)]; rfl
  | n + 1, k, h => by
    have hk : k < L.length := by omega
    have h1 := hf k L[k] (List.getElem?_eq_getElem hk)
    have e : sumD (L.take (k + 1)) = sumD (L.take k) + L[k].desc.duration := by
      rw [List.take_add_one, List.getElem?_eq_getElem hk, sumD_app]; simp [sumD]
    have ih := sendG_map (node := node) hf n (k + 1) (by omega)
    rw [List.drop_eq_getElem_cons hk, sendG, ← e, ih, List.filter_cons]
    by_cases e2 : L[k].desc.node = node
    · rw [if_pos e2, if_pos (by simpa using e2), List.map_cons, h1]
    · rw [if_neg e2, if_neg (by simpa using e2)]
theorem send_eq {d : MedlD} (hc : complete d = true) {k : Nat} {x : Mode} (hx : d.ms[k]? = some x) (hs1 : 1 ≤ x.slots) (node : Int) : sendS d.ss k node d.ss = sendG node 0 (ofMode (k : Int) d.ss) := by
  have h1 := sendG_map (L := ofMode (k : Int) d.ss) (f := fun y => startD d.ss k y.round y.slot) (node := node) (fun j y hy => start_at hc hx hs1 hy) _ 0 rfl
  simp only [List.take_zero, List.drop_zero, sumD] at h1
  rw [h1, sendS_map]
theorem sendC_zero {d : MedlD} {mode node : Int} : sendC d mode node = 0 ↔ modeC d mode = 0 ∧ idIn d.ns node = true := by
  unfold sendC; split
  · split <;> simp_all
  · simp_all
theorem sendT_len (m : MedlI) (mode node : Int) : (sendT m.d mode node).1.length ≤ 1048576 := by
  unfold sendT
  split
  · rename_i h
    have h1 := modeC_zero.1 (sendC_zero.1 h).1
    have h2 := isST_len (isMedl_iff.1 h1.1).st
    have h3 := sendS_len m.d.ss mode node m.d.ss
    simp only; omega
  · simp
theorem sendT_0 {d : MedlD} {mode node : Int} (h : modeC d mode = 0) (hk : idIn d.ns node = true) : sendT d mode node = (sendS d.ss mode node d.ss, 0) := by
  rw [sendT, if_pos (sendC_zero.2 ⟨h, hk⟩)]
def nodesC (d : MedlD) (mode : Int) (zs : List Int) : Int := if modeC d mode = 0 then (if zs.all (idIn d.ns) = true then 0 else 2) else modeC d mode
theorem nodesC_one (d : MedlD) (mode node : Int) : nodesC d mode [node] = sendC d mode node := by simp [nodesC, sendC]
theorem sendT_n {d : MedlD} {mode node : Int} (h : ¬ nodesC d mode [node] = 0) : sendT d mode node = ([], nodesC d mode [node]) := by
  rw [nodesC_one] at *
  rw [sendT, if_neg h]
end Go.Proofs.YtdoibplhbdkapaaGreatDoor
