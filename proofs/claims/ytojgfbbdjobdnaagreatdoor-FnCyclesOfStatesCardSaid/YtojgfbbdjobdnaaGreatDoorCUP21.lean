/- Texts of the seat that a law needs, put together. No condition. -/
import Derived.Test.YtojgfbbdjobdnaaGreatDoorCUP20
import Derived.Test.YtojgfbbdjobdnaaGreatDoorCUP5
import Derived.Test.YtojgfbbdjobdnaaGreatDoorCUP3
namespace Go.Proofs.YtojgfbbdjobdnaaGreatDoor
open Go.RowKit
set_option linter.unusedVariables false
set_option linter.unusedSimpArgs false
set_option maxRecDepth 20000
theorem l15Start_c (m : MedlI) (B : Nat) (mode a b : Int) (w : World) (hm : Med B w m) (hz : m.small) (hok : ∀ x ∈ m.ss, slotOk x = true) :
    Calls Tryz.prog 140 #[.agg m.cells.toArray, .int .i64 mode, .int .i64 a, .int .i64 b] w (Ret fun v w' => v = .int .i64 (startD m.ss mode a b) ∧ Ext w w') := by
  have hls := hz.ls
  have hlm := hz.lm
  have hln := hz.ln
  have Bhm := hm.1
  have X := Ext.refl w
  refine calls_of (args := [.agg m.cells.toArray, .int .i64 mode, .int .i64 a, .int .i64 b]) Tryz.func140 Tryz.ntmps140 rfl rfl ?_
  refine c_seqR ?_
  refine ops_cons rfl (ow_box rfl rfl ?_)
  intro g4 w3 eg4 b1 x2 zg4
  have lg4 : w.heap.size ≤ g4 := Nat.le_trans X.size (Nat.le_of_eq eg4.symm)
  have pg4hm := Nat.le_trans hm.1 (Nat.le_of_eq eg4.symm)
  replace hm := hm.ext x2
  replace X := Ext.trans X x2; clear x2
  refine ops_cons rfl (ow_assign rfl ?_)
  refine ops_nil ?_
  refine c_seqR ?_
  refine ops_cons rfl (ow_assign rfl ?_)
  refine ops_nil ?_
  refine c_seq ?_
  refine c_seqR ?_
  refine ops_cons rfl (ow_assign rfl ?_)
  refine ops_nil ?_
  refine c_block ?_
  refine c_loop (G := Nat × Int) (fun ⟨k, n⟩ => [(1, .int .i64 mode), (2, .int .i64 a), (3, .int .i64 b), (4, .pointer (some ⟨g4, 0, none⟩)), (8, .int .i64 0), (9, .int .i64 n), (10, .int .i64 (k : Nat))]) (fun ⟨k, n⟩ wr => k ≤ m.ss.length ∧ (0 ≤ n ∧ n ≤ 1000 * k) ∧ startD m.ss mode a b = n + startD (m.ss.drop k) mode a b ∧ Med B wr m ∧ Blk wr g4 28 m.cells ∧ Ext w wr) (fun ⟨k, n⟩ => m.ss.length - k) (0, 0) (.cons rfl (.cons rfl (.cons rfl (.cons rfl (.cons rfl (.cons rfl (.cons rfl (.nil _)))))))) ?_ ?_
  · exact ⟨by omega, by omega, (by simp), hm, b1, X⟩
  clear hm b1
  clear X
  rintro ⟨k, n⟩ wr ⟨hk0, hn, hi, hm, b1, X⟩
  refine c_seq ?_
  refine c_seqR ?_
  refine ops_cons rfl (ow_move rfl ?_)
  refine ops_cons rfl (ow_fieldAddrB off28_3 rfl rfl ?_)
  refine ops_cons rfl (ow_loadB b1 ti26 rfl rfl ?_)
  refine ops_cons rfl (ow_len Tryz.underlying26 rfl ?_)
  refine ops_cons rfl (ow_lss2 rfl rfl (fun hk => ?_) (fun hk => ?_))
  obtain ⟨x, hx, dx⟩ := drop_at' hk
  have hxs := slotI (hok x (List.mem_of_getElem? hx))
  refine ops_nil ?_
  refine c_true rfl ?_
  refine c_skip ?_
  refine tq_n ?_
  refine c_seq ?_
  refine c_block ?_
  refine c_seqR ?_
  refine ops_cons rfl (ow_fieldAddrB off28_3 rfl rfl ?_)
  refine ops_cons rfl (ow_loadB b1 ti26 rfl rfl ?_)
  refine ops_cons rfl (ow_move rfl ?_)
  refine ops_cons rfl (ow_indexT hm.ss SlotI.len rfl el26 rfl rfl rfl hx rfl ?_)
  refine ops_cons rfl (ow_loadTA hm.ss SlotI.len hx ti89 rfl ?_)
  refine ops_cons rfl (ow_alloc ti89 ?_)
  intro g8 w7 eg8 b5 x6 zg8
  have lg8 : w.heap.size ≤ g8 := Nat.le_trans X.size (Nat.le_of_eq eg8.symm)
  have pg8hm := Nat.le_trans hm.1 (Nat.le_of_eq eg8.symm)
  have ng8b1 := Nat.lt_of_lt_of_eq b1.lt eg8.symm
  replace hm := hm.ext x6
  replace b1 := b1.ext x6
  replace X := Ext.trans X x6; clear x6
  refine ops_cons rfl (ow_storeB b5 ti89 rfl rfl rfl rfl rfl rfl ?_)
  intro w10 b12 hg9 z11
  replace hm := hm.grown hg9 (by intro g hg; injection hg; omega)
  replace b1 := b1.grown hg9 (by intro h; injection h; omega)
  replace X := X.grown hg9 X.size (by intro g hg; injection hg; omega)
  clear hg9 b5
  refine ops_nil ?_
  refine c_seqR ?_
  refine ops_cons rfl (ow_fieldAddrB off89_0 rfl rfl ?_)
  refine ops_cons rfl (ow_loadB b12 ti2 rfl rfl ?_)
  refine ops_cons rfl (ow_move rfl ?_)
  refine ops_cons rfl (ow_eql2 rfl rfl (fun e1 => ?_) (fun e1 => ?_))
  refine ops_cons rfl (ow_move rfl ?_)
  refine ops_want rfl rfl rfl (ow_fieldAddrB off89_1 rfl rfl ?_)
  refine ops_want rfl rfl rfl (ow_loadB b12 ti2 rfl rfl ?_)
  refine ops_want rfl rfl rfl (ow_move rfl ?_)
  refine ops_want rfl rfl rfl (ow_lss2 rfl rfl (fun e2 => ?_) (fun e2 => ?_))
  refine ops_want rfl rfl rfl (ow_move rfl ?_)
  refine ops_skip rfl rfl rfl rfl ?_
  refine ops_skip rfl rfl rfl rfl ?_
  refine ops_skip rfl rfl rfl rfl ?_
  refine ops_skip rfl rfl rfl rfl ?_
  refine ops_skip rfl rfl rfl rfl ?_
  refine ops_skip2 rfl rfl rfl ?_
  refine ops_skip2 rfl rfl rfl ?_
  refine ops_skip2 rfl rfl rfl ?_
  refine ops_skip2 rfl rfl rfl ?_
  refine ops_skip rfl rfl rfl rfl ?_
  refine ops_want rfl rfl rfl (ow_pick rfl rfl ?_)
  refine ops_cons rfl (ow_pick rfl rfl ?_)
  refine ops_nil ?_
  refine c_true rfl ?_
  refine c_region ?_
  refine ops_cons rfl (ow_move rfl ?_)
  refine ops_cons rfl (ow_fieldAddrB off89_3 rfl rfl ?_)
  refine ops_cons rfl (ow_fieldAddrB off77_3 rfl rfl ?_)
  refine ops_cons rfl (ow_loadB b12 ti2 rfl rfl ?_)
  refine ops_cons rfl (ow_add rfl rfl (w64 (by omega)) ?_)
  refine ops_cons rfl (ow_assign rfl ?_)
  refine ops_nil ?_
  refine bq_n ?_
  refine tq_n ?_
  refine c_region ?_
  refine ops_cons rfl (ow_move rfl ?_)
  refine ops_cons rfl (ow_add rfl rfl (w64 (by omega)) ?_)
  refine ops_cons rfl (ow_assign rfl ?_)
  refine ops_nil ?_
  refine tq_n ⟨(k + 1, n + x.desc.duration), (.cons rfl (.cons rfl (.cons rfl (.cons rfl (.cons rfl (.cons rfl (.cons rfl (.nil _)))))))), ?_, ?_⟩
  · exact ⟨by omega, by omega, (by rw [hi, dx, startD_cons_t (by simp [beforeB, *])]; omega), hm, b1, X⟩
  · first | omega | (dsimp only; omega)
  refine ops_want rfl rfl rfl (ow_move rfl ?_)
  refine ops_want rfl rfl rfl (ow_fieldAddrB off89_1 rfl rfl ?_)
  refine ops_want rfl rfl rfl (ow_loadB b12 ti2 rfl rfl ?_)
  refine ops_want rfl rfl rfl (ow_move rfl ?_)
  refine ops_want rfl rfl rfl (ow_eql2 rfl rfl (fun e3 => ?_) (fun e3 => ?_))
  refine ops_want rfl rfl rfl (ow_move rfl ?_)
  refine ops_want rfl rfl rfl (ow_fieldAddrB off89_2 rfl rfl ?_)
  refine ops_want rfl rfl rfl (ow_loadB b12 ti2 rfl rfl ?_)
  refine ops_want rfl rfl rfl (ow_move rfl ?_)
  refine ops_want rfl rfl rfl (ow_lss2 rfl rfl (fun e4 => ?_) (fun e4 => ?_))
  refine ops_want rfl rfl rfl (ow_pick rfl rfl ?_)
  refine ops_want rfl rfl rfl (ow_pick rfl rfl ?_)
  refine ops_cons rfl (ow_pick rfl rfl ?_)
  refine ops_nil ?_
  refine c_true rfl ?_
  refine c_region ?_
  refine ops_cons rfl (ow_move rfl ?_)
  refine ops_cons rfl (ow_fieldAddrB off89_3 rfl rfl ?_)
  refine ops_cons rfl (ow_fieldAddrB off77_3 rfl rfl ?_)
  refine ops_cons rfl (ow_loadB b12 ti2 rfl rfl ?_)
  refine ops_cons rfl (ow_add rfl rfl (w64 (by omega)) ?_)
  refine ops_cons rfl (ow_assign rfl ?_)
  refine ops_nil ?_
  refine bq_n ?_
  refine tq_n ?_
  refine c_region ?_
  refine ops_cons rfl (ow_move rfl ?_)
  refine ops_cons rfl (ow_add rfl rfl (w64 (by omega)) ?_)
  refine ops_cons rfl (ow_assign rfl ?_)
  refine ops_nil ?_
  refine tq_n ⟨(k + 1, n + x.desc.duration), (.cons rfl (.cons rfl (.cons rfl (.cons rfl (.cons rfl (.cons rfl (.cons rfl (.nil _)))))))), ?_, ?_⟩
  · exact ⟨by omega, by omega, (by rw [hi, dx, startD_cons_t (by simp [beforeB, *])]; omega), hm, b1, X⟩
  · first | omega | (dsimp only; omega)
  refine ops_want rfl rfl rfl (ow_pick rfl rfl ?_)
  refine ops_want rfl rfl rfl (ow_pick rfl rfl ?_)
  refine ops_cons rfl (ow_pick rfl rfl ?_)
  refine ops_nil ?_
  refine c_false rfl ?_
  refine c_skip ?_
  refine bq_n ?_
  refine tq_n ?_
  refine c_region ?_
  refine ops_cons rfl (ow_move rfl ?_)
  refine ops_cons rfl (ow_add rfl rfl (w64 (by omega)) ?_)
  refine ops_cons rfl (ow_assign rfl ?_)
  refine ops_nil ?_
  refine tq_n ⟨(k + 1, n), (.cons rfl (.cons rfl (.cons rfl (.cons rfl (.cons rfl (.cons rfl (.cons rfl (.nil _)))))))), ?_, ?_⟩
  · exact ⟨by omega, by omega, (by rw [hi, dx, startD_cons_f (by simp [beforeB, *])]), hm, b1, X⟩
  · first | omega | (dsimp only; omega)
  refine ops_want rfl rfl rfl (ow_move rfl ?_)
  refine ops_skip rfl rfl rfl rfl ?_
  refine ops_skip rfl rfl rfl rfl ?_
  refine ops_skip rfl rfl rfl rfl ?_
  refine ops_skip rfl rfl rfl rfl ?_
  refine ops_want rfl rfl rfl (ow_pick rfl rfl ?_)
  refine ops_want rfl rfl rfl (ow_pick rfl rfl ?_)
  refine ops_cons rfl (ow_pick rfl rfl ?_)
  refine ops_nil ?_
  refine c_false rfl ?_
  refine c_skip ?_
  refine bq_n ?_
  refine tq_n ?_
  refine c_region ?_
  refine ops_cons rfl (ow_move rfl ?_)
  refine ops_cons rfl (ow_add rfl rfl (w64 (by omega)) ?_)
  refine ops_cons rfl (ow_assign rfl ?_)
  refine ops_nil ?_
  refine tq_n ⟨(k + 1, n), (.cons rfl (.cons rfl (.cons rfl (.cons rfl (.cons rfl (.cons rfl (.cons rfl (.nil _)))))))), ?_, ?_⟩
  · exact ⟨by omega, by omega, (by rw [hi, dx, startD_cons_f (by simp [beforeB, *])]), hm, b1, X⟩
  · first | omega | (dsimp only; omega)
  refine ops_cons rfl (ow_move rfl ?_)
  refine ops_skip rfl rfl rfl rfl ?_
  refine ops_skip rfl rfl rfl rfl ?_
  refine ops_skip rfl rfl rfl rfl ?_
  refine ops_skip rfl rfl rfl rfl ?_
  refine ops_skip rfl rfl rfl rfl ?_
  refine ops_skip2 rfl rfl rfl ?_
  refine ops_skip2 rfl rfl rfl ?_
  refine ops_skip2 rfl rfl rfl ?_
  refine ops_skip2 rfl rfl rfl ?_
  refine ops_skip2 rfl rfl rfl ?_
  refine ops_skip2 rfl rfl rfl ?_
  refine ops_skip2 rfl rfl rfl ?_
  refine ops_skip2 rfl rfl rfl ?_
  refine ops_skip2 rfl rfl rfl ?_
  refine ops_skip2 rfl rfl rfl ?_
  refine ops_skip rfl rfl rfl rfl ?_
  refine ops_cons rfl (ow_pick rfl rfl ?_)
  refine ops_nil ?_
  refine c_false rfl ?_
  refine c_skip ?_
  refine bq_n ?_
  refine tq_n ?_
  refine c_region ?_
  refine ops_cons rfl (ow_move rfl ?_)
  refine ops_cons rfl (ow_add rfl rfl (w64 (by omega)) ?_)
  refine ops_cons rfl (ow_assign rfl ?_)
  refine ops_nil ?_
  refine tq_n ⟨(k + 1, n), (.cons rfl (.cons rfl (.cons rfl (.cons rfl (.cons rfl (.cons rfl (.cons rfl (.nil _)))))))), ?_, ?_⟩
  · exact ⟨by omega, by omega, (by rw [hi, dx, startD_cons_f (by simp [beforeB, *])]), hm, b1, X⟩
  · first | omega | (dsimp only; omega)
  refine ops_nil ?_
  refine c_false rfl ?_
  refine c_exit ?_
  refine tq_e ?_
  refine tq_e ?_
  refine bq_e ?_
  refine tq_n ?_
  refine c_seqR ?_
  refine ops_cons rfl (ow_move rfl ?_)
  refine ops_cons rfl (ow_assign rfl ?_)
  refine ops_nil ?_
  refine c_ret ?_
  refine fin_ret1 rfl rfl ?_
  exact ⟨by rw [hi, drop_end hk]; simp [startD, sumD], X⟩

theorem slotStart_c (m : MedlI) (B : Nat) (s : StateI) (w : World) (hm : Med B w m) (hz : m.small) (hW : WellF m.d) (hB : belongsB m.d s = true) :
    Calls Tryz.prog 137 #[.agg m.cells.toArray, .agg s.cells.toArray] w (Ret fun v w' => v = .int .i64 (startD m.ss s.mode s.round s.slot) ∧ Ext w w') := by
  have hls := hz.ls
  have hlm := hz.lm
  have hln := hz.ln
  obtain ⟨k, x, j, y, bl, hx, hxi, hj, hy, hda, hso, hro, hno, hyd⟩ := bel_get hW hB
  have hst := stateOk_in bl.ok
  have hok : ∀ x ∈ m.ss, slotOk x = true := isST_all hW.st
  have brd := bl.rd
  have bsl := bl.sl
  obtain ⟨hsb, hsl, hsn⟩ := start_bel hW bl hxi.2
  have hs16 : s.round.toNat * x.m.slots.toNat + s.slot.toNat ≤ 1048576 := Nat.le_trans hsl (Nat.le_trans (ofMode_len _ _) hls)
  generalize s.round.toNat * x.m.slots.toNat + s.slot.toNat = n0 at hsb hsl hsn hs16
  have hmu : 0 ≤ s.round * x.m.slots := Int.mul_nonneg brd.1 (by omega)
  have Bhm := hm.1
  have X := Ext.refl w
  refine calls_of (args := [.agg m.cells.toArray, .agg s.cells.toArray]) Tryz.func137 Tryz.ntmps137 rfl rfl ?_
  refine c_seqR ?_
  refine ops_cons rfl (ow_box rfl rfl ?_)
  intro g4 w3 eg4 b1 x2 zg4
  have lg4 : w.heap.size ≤ g4 := Nat.le_trans X.size (Nat.le_of_eq eg4.symm)
  have pg4hm := Nat.le_trans hm.1 (Nat.le_of_eq eg4.symm)
  replace hm := hm.ext x2
  replace X := Ext.trans X x2; clear x2
  refine ops_cons rfl (ow_box rfl rfl ?_)
  intro g8 w7 eg8 b5 x6 zg8
  have lg8 : w.heap.size ≤ g8 := Nat.le_trans X.size (Nat.le_of_eq eg8.symm)
  have pg8hm := Nat.le_trans hm.1 (Nat.le_of_eq eg8.symm)
  have ng8b1 := Nat.lt_of_lt_of_eq b1.lt eg8.symm
  replace hm := hm.ext x6
  replace b1 := b1.ext x6
  replace X := Ext.trans X x6; clear x6
  refine ops_cons rfl (ow_assign rfl ?_)
  refine ops_nil ?_
  refine c_seqD [false, false, false, false, false, false, false, false, false, false, false, false, false, false] mixed (by kernel_rfl) ?_
  refine f_q rfl (fun wq sq => ow_fieldAddrB off54_2 rfl rfl ⟨rfl, Ext.refl _⟩) ?_
  refine f_q rfl (fun wq sq => ow_loadB (b5.ext sq) ti2 rfl rfl ⟨rfl, Ext.refl _⟩) ?_
  refine f_q rfl (fun wq sq => ow_fieldAddrB off28_2 rfl rfl ⟨rfl, Ext.refl _⟩) ?_
  refine f_q rfl (fun wq sq => ow_loadB (b1.ext sq) ti25 rfl rfl ⟨rfl, Ext.refl _⟩) ?_
  refine f_q rfl (fun wq sq => ow_fieldAddrB off54_1 rfl rfl ⟨rfl, Ext.refl _⟩) ?_
  refine f_q rfl (fun wq sq => ow_loadB (b5.ext sq) ti2 rfl rfl ⟨rfl, Ext.refl _⟩) ?_
  refine f_q rfl (fun wq sq => ow_indexT ((hm.ext sq)).sm ModeI.len rfl el25 rfl rfl rfl hx bl.md ⟨rfl, Ext.refl _⟩) ?_
  refine f_q rfl (fun wq sq => ow_fieldAddr off45_1 rfl ⟨rfl, Ext.refl _⟩) ?_
  refine f_q rfl (fun wq sq => ow_loadTF ((hm.ext sq)).sm ModeI.len hx ti2 rfl rfl rfl ⟨rfl, Ext.refl _⟩) ?_
  refine f_q rfl (fun wq sq => ow_mul rfl rfl (w64 (by omega)) ⟨rfl, Ext.refl _⟩) ?_
  refine f_q rfl (fun wq sq => ow_fieldAddrB off54_3 rfl rfl ⟨rfl, Ext.refl _⟩) ?_
  refine f_q rfl (fun wq sq => ow_loadB (b5.ext sq) ti2 rfl rfl ⟨rfl, Ext.refl _⟩) ?_
  refine f_q rfl (fun wq sq => ow_add rfl rfl (w64 (by omega)) ⟨rfl, Ext.refl _⟩) ?_
  refine f_q rfl (fun wq sq => ow_assign rfl ⟨rfl, Ext.refl _⟩) ?_
  refine f_nil (fun w9 sq => ?_)
  have xq := sq
  replace hm := hm.ext xq
  replace b1 := b1.ext xq
  replace b5 := b5.ext xq
  replace X := Ext.trans X xq; clear xq sq
  refine ops_nil ?_
  refine c_seqR ?_
  refine ops_cons rfl (ow_loadAB b1 ti28 rfl rfl ?_)
  refine ops_cons rfl (ow_fieldAddrB off54_1 rfl rfl ?_)
  refine ops_cons rfl (ow_loadB b5 ti2 rfl rfl ?_)
  refine ops_cons rfl (ow_call ent143 rfl (ret_mono (modeSlots_c m B s.mode _ hm hz) ?_))
  rintro _ w11 ⟨AL, cL, rfl, oL, x10⟩
  replace oL := Own.low oL X.size
  replace hm := hm.ext x10
  replace b1 := b1.ext x10
  replace b5 := b5.ext x10
  replace X := Ext.trans X x10; clear x10
  refine ops_cons rfl (ow_move rfl ?_)
  refine ops_cons rfl (ow_sliceH el26 (oL).sl SlotI.len rfl rfl hsn (Nat.le_trans hsl (Own.cap oL)) ?_)
  intro Ap pL
  refine ops_cons rfl (ow_call ent193 rfl (ret_mono (by have := sumD_c Ap _ cL ((ofMode s.mode m.ss).take n0) _ pL (by simp; omega) (fun z hz2 => by have h1 := ofMode_sub _ _ z (List.mem_of_mem_take hz2); have h2 := slotI (hok z h1.1); omega); rw [show ((ofMode s.mode m.ss).take n0).length = n0 by simp; omega] at this; exact this) ?_))
  rintro _ w13 ⟨rfl, x12⟩
  replace hm := hm.ext x12
  replace b1 := b1.ext x12
  replace b5 := b5.ext x12
  replace oL := oL.ext x12
  replace pL := pL.ext x12
  replace X := Ext.trans X x12; clear x12
  refine ops_cons rfl (ow_assign rfl ?_)
  refine ops_nil ?_
  refine c_ret ?_
  refine fin_ret1 rfl rfl ?_
  exact ⟨by rw [hsb], X⟩

theorem implStart_c (m : MedlI) (B : Nat) (s : StateI) (w : World) (hm : Med B w m) (hz : m.small) :
    Calls Tryz.prog 48 #[.agg m.cells.toArray, .agg s.cells.toArray] w (Ret fun v w' => v = .tuple #[.int .i64 (startF m.d s).1, .int .i64 (startF m.d s).2] ∧ Ext w w') := by
  have hls := hz.ls
  have hlm := hz.lm
  have hln := hz.ln
  have Bhm := hm.1
  have X := Ext.refl w
  refine calls_of (args := [.agg m.cells.toArray, .agg s.cells.toArray]) Tryz.func48 Tryz.ntmps48 rfl rfl ?_
  refine c_seqR ?_
  refine ops_cons rfl (ow_box rfl rfl ?_)
  intro g4 w3 eg4 b1 x2 zg4
  have lg4 : w.heap.size ≤ g4 := Nat.le_trans X.size (Nat.le_of_eq eg4.symm)
  have pg4hm := Nat.le_trans hm.1 (Nat.le_of_eq eg4.symm)
  replace hm := hm.ext x2
  replace X := Ext.trans X x2; clear x2
  refine ops_cons rfl (ow_box rfl rfl ?_)
  intro g8 w7 eg8 b5 x6 zg8
  have lg8 : w.heap.size ≤ g8 := Nat.le_trans X.size (Nat.le_of_eq eg8.symm)
  have pg8hm := Nat.le_trans hm.1 (Nat.le_of_eq eg8.symm)
  have ng8b1 := Nat.lt_of_lt_of_eq b1.lt eg8.symm
  replace hm := hm.ext x6
  replace b1 := b1.ext x6
  replace X := Ext.trans X x6; clear x6
  refine ops_cons rfl (ow_assign rfl ?_)
  refine ops_cons rfl (ow_assign rfl ?_)
  refine ops_nil ?_
  refine c_seq ?_
  refine c_seqR ?_
  refine ops_cons rfl (ow_loadAB b1 ti28 rfl rfl ?_)
  refine ops_cons rfl (ow_loadAB b5 ti54 rfl rfl ?_)
  refine ops_cons rfl (ow_call ent136 rfl (ret_mono (lookCode_c m _ s _ hm hz) ?_))
  rintro _ w10 ⟨rfl, x9⟩
  replace hm := hm.ext x9
  replace b1 := b1.ext x9
  replace b5 := b5.ext x9
  replace X := Ext.trans X x9; clear x9
  refine ops_cons rfl (ow_assign rfl ?_)
  refine ops_nil ?_
  refine c_seqR ?_
  refine ops_cons rfl (ow_move rfl ?_)
  refine ops_cons rfl (ow_neq2 rfl rfl (fun hC => ?_) (fun hC => ?_))
  refine ops_nil ?_
  refine c_true rfl ?_
  refine c_seqR ?_
  refine ops_cons rfl (ow_move rfl ?_)
  refine ops_cons rfl (ow_assign rfl ?_)
  refine ops_cons rfl (ow_assign rfl ?_)
  refine ops_nil ?_
  refine c_ret ?_
  refine tq_r ?_
  refine fin_ret2 rfl rfl rfl ?_
  · skip
    first
    | (have e : startF m.d s = (0, lookC m.d s) := by rw [startF, if_neg hC]
       rw [e]; exact ⟨rfl, X⟩)
    | (have e : startF m.d s = (startD m.ss s.mode s.round s.slot, 0) := by rw [startF, if_pos hC0]; rfl
       rw [e]; exact ⟨rfl, X⟩)
  have hC0 : lookC m.d s = 0 := by omega
  have hm0 := lookC_zero.1 hC0
  have wf := isMedl_iff.1 hm0.1
  have hB := hm0.2
  have hok : ∀ x ∈ m.ss, slotOk x = true := isST_all wf.st
  refine ops_nil ?_
  refine c_false rfl ?_
  refine c_skip ?_
  refine tq_n ?_
  refine c_seqR ?_
  refine ops_cons rfl (ow_loadAB b1 ti28 rfl rfl ?_)
  refine ops_cons rfl (ow_loadAB b5 ti54 rfl rfl ?_)
  refine ops_cons rfl (ow_call ent137 rfl (ret_mono (slotStart_c m _ s _ hm hz wf hB) ?_))
  rintro _ w12 ⟨rfl, x11⟩
  replace hm := hm.ext x11
  replace b1 := b1.ext x11
  replace b5 := b5.ext x11
  replace X := Ext.trans X x11; clear x11
  refine ops_cons rfl (ow_assign rfl ?_)
  refine ops_cons rfl (ow_assign rfl ?_)
  refine ops_nil ?_
  refine c_ret ?_
  refine fin_ret2 rfl rfl rfl ?_
  · skip
    first
    | (have e : startF m.d s = (0, lookC m.d s) := by rw [startF, if_neg hC]
       rw [e]; exact ⟨rfl, X⟩)
    | (have e : startF m.d s = (startD m.ss s.mode s.round s.slot, 0) := by rw [startF, if_pos hC0]; rfl
       rw [e]; exact ⟨rfl, X⟩)

end Go.Proofs.YtojgfbbdjobdnaaGreatDoor
namespace Go.Proofs.YtojgfbbdjobdnaaGreatDoor
open Go.RowKit
set_option linter.unusedVariables false
set_option linter.unusedSimpArgs false
theorem change_c {m : MedlI} {s : StateI} {to : Int} (h : ¬ lookC m.d s = 0) : changeF m.d s to = (zeroS, lookC m.d s) := by rw [changeF, if_neg h]
theorem change_2 {m : MedlI} {s : StateI} {to : Int} (h : lookC m.d s = 0) (hM : inB to 0 ((m.ms.length : Int) - 1) = false) : changeF m.d s to = (zeroS, 2) := by
  rw [changeF, if_pos h, show m.d.ms.length = m.ms.length from List.length_map .., if_neg (by rw [hM]; simp)]
theorem change_5 {m : MedlI} {s : StateI} {to : Int} {next : List Int} (h : lookC m.d s = 0) (hM : inB to 0 ((m.ms.length : Int) - 1) = true) (hn : nextOf m.d s.mode = next) (hN : hasB next to = false) : changeF m.d s to = (zeroS, 5) := by
  rw [changeF, if_pos h, show m.d.ms.length = m.ms.length from List.length_map .., if_pos hM, hn, if_neg (by rw [hN]; simp)]
theorem change_0 {m : MedlI} {s : StateI} {to : Int} {next : List Int} (h : lookC m.d s = 0) (hM : inB to 0 ((m.ms.length : Int) - 1) = true) (hn : nextOf m.d s.mode = next) (hN : hasB next to = true) :
    changeF m.d s to = (⟨(s.time + (cyc m.ss s.mode - startD m.ss s.mode s.round s.slot)) % 65536, to, 0, 0, s.members⟩, 0) := by
  rw [changeF, if_pos h, show m.d.ms.length = m.ms.length from List.length_map .., if_pos hM, hn, if_pos hN]; rfl
theorem bel_next {m : MedlI} {s : StateI} (hW : WellF m.d) (hB : belongsB m.d s = true) : belongsB m.d (nextS m.d s) = true := by
  obtain ⟨k, x, j, y, bl, hx, hxi, hj, hy, hda, hso, hro, hno, hyd⟩ := bel_get hW hB
  have hst := stateOk_in bl.ok
  have h1 := bl.rd
  have h2 := bl.sl
  refine belongs_iff.2 ⟨k, x.m, ?_⟩
  unfold nextS
  rw [hso, hro]
  show Bel m.d (advS s (descAt m.ss s.mode s.round s.slot).duration x.m.slots x.m.rounds) k x.m
  rw [hda]
  have h3 : 0 ≤ (s.round + 1) % x.m.rounds ∧ (s.round + 1) % x.m.rounds < x.m.rounds := ⟨Int.emod_nonneg _ (by omega), Int.emod_lt_of_pos _ (by omega)⟩
  unfold advS
  split
  · refine ⟨?_, bl.md, bl.at_, h3, ⟨by simp only; omega, by simp only; omega⟩, bl.mb⟩
    simp only [stateOk, inB_iff.2 (show 0 ≤ (s.time + y.desc.duration) % 65536 ∧ (s.time + y.desc.duration) % 65536 ≤ 65535 by omega), inB_iff.2 hst.2.1, inB_iff.2 (show 0 ≤ (s.round + 1) % x.m.rounds ∧ (s.round + 1) % x.m.rounds ≤ 15 by omega), inB_iff.2 hst.2.2.2.2]
    rfl
  · refine ⟨?_, bl.md, bl.at_, h1, ⟨by simp only; omega, by simp only; omega⟩, bl.mb⟩
    simp only [stateOk, inB_iff.2 (show 0 ≤ (s.time + y.desc.duration) % 65536 ∧ (s.time + y.desc.duration) % 65536 ≤ 65535 by omega), inB_iff.2 hst.2.1, inB_iff.2 hst.2.2.1, inB_iff.2 hst.2.2.2.2, inB_iff.2 (show 0 ≤ s.slot + 1 ∧ s.slot + 1 ≤ 255 by omega)]
    rfl
def iterS (d : MedlD) : Nat → StateI → List StateI
  | 0, _ => []
  | n + 1, s => s :: iterS d n (nextS d s)
theorem iterS_len (d : MedlD) : ∀ (n : Nat) (s : StateI), (iterS d n s).length = n
  | 0, _ => rfl
  | n + 1, s => by rw [iterS, List.length_cons, iterS_len d n]
def statesF (d : MedlD) (s : StateI) : List StateI × Int := if lookC d s = 0 then (iterS d (roundsOf d s.mode * slotsOf d s.mode).toNat s, 0) else ([], lookC d s)
theorem statesF_len (m : MedlI) (s : StateI) : (statesF m.d s).1.length ≤ 1048576 := by
  unfold statesF
  split
  · rename_i h
    have hm := lookC_zero.1 h
    obtain ⟨k, x, j, y, bl, hx, hxi, hj, hy, hda, hso, hro, hno, hyd⟩ := bel_get (isMedl_iff.1 hm.1) hm.2
    have := mulI hxi.1 hxi.2
    simp only [iterS_len, hso, hro]
    omega
  · simp
end Go.Proofs.YtojgfbbdjobdnaaGreatDoor
namespace Go.Proofs.YtojgfbbdjobdnaaGreatDoor
open Go.RowKit
set_option linter.unusedVariables false
set_option linter.unusedSimpArgs false
set_option maxRecDepth 20000
theorem modesCodeZ_c (A A' : Option Addr) (B B' B2 c c' : Nat) (xs : List ModeI) (ys : List Int) (w : World) (hs : Sl B w A (xs.flatMap ModeI.cells)) (hn : Nexts B2 w xs) (hl : xs.length ≤ 1048576) (hz : ∀ x ∈ xs, x.m.next.length ≤ 1048576) (ht : Sl B' w A' (ys.flatMap eI)) (hy : ys.length ≤ 1048576) (hT : isMT (xs.map (·.m)) = true) (hA : (ys.all fun x => inB x 0 ((xs.length : Int) - 1)) = true) :
    Calls Tryz.prog 142 #[.slice A xs.length c, .slice A' ys.length c'] w (Ret fun v w' => v = .int .i64 0 ∧ Ext w w') := by
  have Bhs := hs.1
  have Bhn := hn.1
  have Bht := ht.1
  have X := Ext.refl w
  refine calls_of (args := [.slice A xs.length c, .slice A' ys.length c']) Tryz.func142 Tryz.ntmps142 rfl rfl ?_
  refine c_seqR ?_
  refine ops_cons rfl (ow_assign rfl ?_)
  refine ops_nil ?_
  refine c_seq ?_
  refine c_seqR ?_
  refine ops_cons rfl (ow_move rfl ?_)
  refine ops_cons rfl (ow_callB ent109 rfl (iIsMT_c _ _ _ _ _ _ hs hn hl hz) (fun w2 h1 x1 => ?_) (fun w2 h1 x1 => by rw [hT] at h1; cases h1))
  replace hs := hs.ext x1
  replace hn := hn.ext x1
  replace ht := ht.ext x1
  replace X := Ext.trans X x1; clear x1
  refine ops_cons rfl (ow_not rfl ?_)
  refine ops_nil ?_
  refine c_false rfl ?_
  refine c_skip ?_
  refine tq_n ?_
  refine c_seq ?_
  refine c_seqR ?_
  refine ops_cons rfl (ow_move rfl ?_)
  refine ops_cons rfl (ow_move rfl ?_)
  refine ops_cons rfl (ow_len Tryz.underlying25 rfl ?_)
  refine ops_cons rfl (ow_sub rfl rfl (w64 (by omega)) ?_)
  refine ops_cons rfl (ow_callB ent168 rfl (allWithin_c _ _ _ _ _ _ _ ht hy) (fun w4 h1 x3 => ?_) (fun w4 h1 x3 => by rw [hA] at h1; cases h1))
  replace hs := hs.ext x3
  replace hn := hn.ext x3
  replace ht := ht.ext x3
  replace X := Ext.trans X x3; clear x3
  refine ops_cons rfl (ow_not rfl ?_)
  refine ops_nil ?_
  refine c_false rfl ?_
  refine c_skip ?_
  refine tq_n ?_
  refine c_seqR ?_
  refine ops_cons rfl (ow_assign rfl ?_)
  refine ops_nil ?_
  refine c_ret ?_
  refine fin_ret1 rfl rfl ?_
  exact ⟨by rfl, X⟩

theorem mayChange_c (A : Option Addr) (B B2 c : Nat) (xs : List ModeI) (fr to : Int) (j : Nat) (x : ModeI) (w : World) (hs : Sl B w A (xs.flatMap ModeI.cells)) (hn : Nexts B2 w xs) (hl : xs.length ≤ 1048576) (hz : ∀ x ∈ xs, x.m.next.length ≤ 1048576) (hT : isMT (xs.map (·.m)) = true) (hj : fr = (j : Int)) (hx : xs[j]? = some x) :
    Calls Tryz.prog 50 #[.slice A xs.length c, .int .i64 fr, .int .i64 to] w (Ret fun v w' => v = .bool (hasB x.m.next to) ∧ Ext w w') := by
  have hlt := (List.getElem?_eq_some_iff.1 hx).1
  have hnl := hz x (List.mem_of_getElem? hx)
  have Bhs := hs.1
  have Bhn := hn.1
  have X := Ext.refl w
  refine calls_of (args := [.slice A xs.length c, .int .i64 fr, .int .i64 to]) Tryz.func50 Tryz.ntmps50 rfl rfl ?_
  refine c_seqR ?_
  refine ops_cons rfl (ow_assign rfl ?_)
  refine ops_nil ?_
  refine c_seqR ?_
  refine ops_cons rfl (ow_move rfl ?_)
  refine ops_cons rfl (ow_move rfl ?_)
  refine ops_cons rfl (ow_buildSlice el30 ti2 rfl rfl rfl rfl rfl ?_)
  intro g1 w3 eg1 oB bbg1 x2 zg1
  replace oB := Own.low oB X.size
  replace hs := hs.ext x2
  replace hn := hn.ext x2
  replace X := Ext.trans X x2; clear x2
  replace oB := oB.to (cs' := ([fr] : List Int).flatMap eI) rfl
  refine ops_cons rfl (ow_call ent142 rfl (ret_mono (modesCodeZ_c _ _ _ _ _ _ _ xs [fr] _ hs hn hl hz oB.sl (by simp) hT (by simp [inB]; omega)) ?_))
  rintro _ w5 ⟨rfl, x4⟩
  replace hs := hs.ext x4
  replace hn := hn.ext x4
  replace oB := oB.ext x4
  replace X := Ext.trans X x4; clear x4
  refine ops_cons rfl (ow_eql2 rfl rfl (fun h6 => ?_) (fun h6 => absurd h6 (by simp)))
  refine ops_cons rfl (ow_move rfl ?_)
  refine ops_want rfl rfl rfl (ow_move rfl ?_)
  refine ops_want rfl rfl rfl (ow_move rfl ?_)
  refine ops_want rfl rfl rfl (ow_indexT hs ModeI.len rfl el25 rfl rfl rfl hx hj ?_)
  have hnx := hn.at_ hx
  refine ops_want rfl rfl rfl (ow_fieldAddr off45_2 rfl ?_)
  refine ops_want rfl rfl rfl (ow_loadTF hs ModeI.len hx ti30 rfl rfl rfl ?_)
  refine ops_want rfl rfl rfl (ow_move rfl ?_)
  refine ops_want rfl rfl rfl (ow_call ent89 rfl (ret_mono (contains_c _ _ _ _ _ _ hnx hnl) ?_))
  rintro _ w9 ⟨rfl, x7⟩
  replace hs := hs.ext x7
  replace hn := hn.ext x7
  replace oB := oB.ext x7
  replace hnx := hnx.ext x7
  replace X := Ext.trans X x7; clear x7
  refine ops_cons rfl (ow_pick rfl rfl ?_)
  refine ops_cons rfl (ow_assign rfl ?_)
  refine ops_nil ?_
  refine c_ret ?_
  refine fin_ret1 rfl rfl ?_
  exact ⟨by rfl, X⟩

theorem sChange_c (m : MedlI) (B : Nat) (s : StateI) (to : Int) (w : World) (hm : Med B w m) (hz : m.small) :
    Calls Tryz.prog 47 #[.agg m.cells.toArray, .agg s.cells.toArray, .int .i64 to] w (Ret fun v w' => v = .tuple #[.agg (changeF m.d s to).1.cells.toArray, .int .i64 (changeF m.d s to).2] ∧ Ext w w') := by
  have hls := hz.ls
  have hlm := hz.lm
  have hln := hz.ln
  have Bhm := hm.1
  have X := Ext.refl w
  refine calls_of (args := [.agg m.cells.toArray, .agg s.cells.toArray, .int .i64 to]) Tryz.func47 Tryz.ntmps47 rfl rfl ?_
  refine c_seqR ?_
  refine ops_cons rfl (ow_box rfl rfl ?_)
  intro g4 w3 eg4 b1 x2 zg4
  have lg4 : w.heap.size ≤ g4 := Nat.le_trans X.size (Nat.le_of_eq eg4.symm)
  have pg4hm := Nat.le_trans hm.1 (Nat.le_of_eq eg4.symm)
  replace hm := hm.ext x2
  replace X := Ext.trans X x2; clear x2
  refine ops_cons rfl (ow_box rfl rfl ?_)
  intro g8 w7 eg8 b5 x6 zg8
  have lg8 : w.heap.size ≤ g8 := Nat.le_trans X.size (Nat.le_of_eq eg8.symm)
  have pg8hm := Nat.le_trans hm.1 (Nat.le_of_eq eg8.symm)
  have ng8b1 := Nat.lt_of_lt_of_eq b1.lt eg8.symm
  replace hm := hm.ext x6
  replace b1 := b1.ext x6
  replace X := Ext.trans X x6; clear x6
  refine ops_cons rfl (ow_alloc ti54 ?_)
  intro g12 w11 eg12 b9 x10 zg12
  have lg12 : w.heap.size ≤ g12 := Nat.le_trans X.size (Nat.le_of_eq eg12.symm)
  have pg12hm := Nat.le_trans hm.1 (Nat.le_of_eq eg12.symm)
  have ng12b1 := Nat.lt_of_lt_of_eq b1.lt eg12.symm
  have ng12b5 := Nat.lt_of_lt_of_eq b5.lt eg12.symm
  replace hm := hm.ext x10
  replace b1 := b1.ext x10
  replace b5 := b5.ext x10
  replace X := Ext.trans X x10; clear x10
  refine ops_cons rfl (ow_assign rfl ?_)
  refine ops_nil ?_
  refine c_seqR ?_
  refine ops_cons rfl (ow_loadAB b1 ti28 rfl rfl ?_)
  refine ops_cons rfl (ow_loadAB b5 ti54 rfl rfl ?_)
  refine ops_cons rfl (ow_call ent138 rfl (ret_mono (l15Code_c m _ s _ hm hz) ?_))
  rintro _ w14 ⟨rfl, x13⟩
  replace hm := hm.ext x13
  replace b1 := b1.ext x13
  replace b5 := b5.ext x13
  replace b9 := b9.ext x13
  replace X := Ext.trans X x13; clear x13
  refine ops_cons rfl (ow_assign rfl ?_)
  refine ops_nil ?_
  refine c_seq ?_
  refine c_seqR ?_
  refine ops_cons rfl (ow_move rfl ?_)
  refine ops_cons rfl (ow_eql2 rfl rfl (fun h1 => ?_) (fun h1 => ?_))
  have hm0 := lookC_zero.1 h1
  have wf := isMedl_iff.1 hm0.1
  have hW := wf
  have hB := hm0.2
  obtain ⟨k, x, j, y, bl, hx, hxi, hj, hy, hda, hso, hro, hno, hyd⟩ := bel_get hW hB
  have hst := stateOk_in bl.ok
  have hok : ∀ x ∈ m.ss, slotOk x = true := isST_all hW.st
  have brd := bl.rd
  have bsl := bl.sl
  have hsc := start_cyc hok s.mode s.round s.slot
  have hcy := cyc_in hok s.mode
  have hsi := startD_in hok s.mode s.round s.slot
  have hnl := hz.lx x (List.mem_of_getElem? hx)
  refine ops_cons rfl (ow_move rfl ?_)
  refine ops_want rfl rfl rfl (ow_fieldAddrB off28_2 rfl rfl ?_)
  refine ops_want rfl rfl rfl (ow_loadB b1 ti25 rfl rfl ?_)
  refine ops_want rfl rfl rfl (ow_move rfl ?_)
  refine ops_want rfl rfl rfl (ow_callB ent139 rfl (l11Mode_c _ _ m.ms to _ hlm) (fun w16 hM x15 => ?_) (fun w16 hM x15 => ?_))
  replace hm := hm.ext x15
  replace b1 := b1.ext x15
  replace b5 := b5.ext x15
  replace b9 := b9.ext x15
  replace X := Ext.trans X x15; clear x15
  refine ops_want rfl rfl rfl (ow_not rfl ?_)
  refine ops_cons rfl (ow_pick rfl rfl ?_)
  refine ops_nil ?_
  refine c_false rfl ?_
  refine c_skip ?_
  refine tq_n ?_
  refine c_seq ?_
  refine c_seqR ?_
  refine ops_cons rfl (ow_move rfl ?_)
  refine ops_cons rfl (ow_eql2 rfl rfl (fun h2 => ?_) (fun h2 => ?_))
  refine ops_cons rfl (ow_move rfl ?_)
  refine ops_want rfl rfl rfl (ow_fieldAddrB off28_2 rfl rfl ?_)
  refine ops_want rfl rfl rfl (ow_loadB b1 ti25 rfl rfl ?_)
  refine ops_want rfl rfl rfl (ow_fieldAddrB off54_1 rfl rfl ?_)
  refine ops_want rfl rfl rfl (ow_loadB b5 ti2 rfl rfl ?_)
  refine ops_want rfl rfl rfl (ow_indexT hm.sm ModeI.len rfl el25 rfl rfl rfl hx bl.md ?_)
  have hnx := hm.sx.at_ hx
  refine ops_want rfl rfl rfl (ow_fieldAddr off45_2 rfl ?_)
  refine ops_want rfl rfl rfl (ow_loadTF hm.sm ModeI.len hx ti30 rfl rfl rfl ?_)
  refine ops_want rfl rfl rfl (ow_move rfl ?_)
  refine ops_want rfl rfl rfl (ow_callB ent96 rfl (l01Has_c _ _ _ _ _ _ hnx hnl) (fun w18 hN x17 => ?_) (fun w18 hN x17 => ?_))
  replace hm := hm.ext x17
  replace b1 := b1.ext x17
  replace b5 := b5.ext x17
  replace b9 := b9.ext x17
  replace hnx := hnx.ext x17
  replace X := Ext.trans X x17; clear x17
  refine ops_want rfl rfl rfl (ow_not rfl ?_)
  refine ops_cons rfl (ow_pick rfl rfl ?_)
  refine ops_nil ?_
  refine c_false rfl ?_
  refine c_skip ?_
  refine tq_n ?_
  refine c_seq ?_
  refine c_seqR ?_
  refine ops_cons rfl (ow_move rfl ?_)
  refine ops_cons rfl (ow_neq2 rfl rfl (fun h3 => ?_) (fun h3 => ?_))
  exact absurd h1 h3
  refine ops_nil ?_
  refine c_false rfl ?_
  refine c_skip ?_
  refine tq_n ?_
  refine c_seqD [false, false, false, false, false, false, false, false, false, false, false, false, false, false] mixed (by kernel_rfl) ?_
  refine f_q rfl (fun wq sq => ow_loadAB (b1.ext sq) ti28 rfl rfl ⟨rfl, Ext.refl _⟩) ?_
  refine f_q rfl (fun wq sq => ow_fieldAddrB off54_1 rfl rfl ⟨rfl, Ext.refl _⟩) ?_
  refine f_q rfl (fun wq sq => ow_loadB (b5.ext sq) ti2 rfl rfl ⟨rfl, Ext.refl _⟩) ?_
  refine f_q rfl (fun wq sq => ow_call ent123 rfl (l13Cycle_c m _ s.mode _ (hm.ext sq) hz hok)) ?_
  refine f_q rfl (fun wq sq => ow_loadAB (b1.ext sq) ti28 rfl rfl ⟨rfl, Ext.refl _⟩) ?_
  refine f_q rfl (fun wq sq => ow_fieldAddrB off54_1 rfl rfl ⟨rfl, Ext.refl _⟩) ?_
  refine f_q rfl (fun wq sq => ow_loadB (b5.ext sq) ti2 rfl rfl ⟨rfl, Ext.refl _⟩) ?_
  refine f_q rfl (fun wq sq => ow_fieldAddrB off54_2 rfl rfl ⟨rfl, Ext.refl _⟩) ?_
  refine f_q rfl (fun wq sq => ow_loadB (b5.ext sq) ti2 rfl rfl ⟨rfl, Ext.refl _⟩) ?_
  refine f_q rfl (fun wq sq => ow_fieldAddrB off54_3 rfl rfl ⟨rfl, Ext.refl _⟩) ?_
  refine f_q rfl (fun wq sq => ow_loadB (b5.ext sq) ti2 rfl rfl ⟨rfl, Ext.refl _⟩) ?_
  refine f_q rfl (fun wq sq => ow_call ent140 rfl (l15Start_c m _ s.mode s.round s.slot _ (hm.ext sq) hz hok)) ?_
  refine f_q rfl (fun wq sq => ow_sub rfl rfl (w64 (by omega)) ⟨rfl, Ext.refl _⟩) ?_
  refine f_q rfl (fun wq sq => ow_assign rfl ⟨rfl, Ext.refl _⟩) ?_
  refine f_nil (fun w19 sq => ?_)
  have xq := sq
  replace hm := hm.ext xq
  replace b1 := b1.ext xq
  replace b5 := b5.ext xq
  replace b9 := b9.ext xq
  replace hnx := hnx.ext xq
  replace X := Ext.trans X xq; clear xq sq
  refine ops_nil ?_
  refine c_seqR ?_
  refine ops_cons rfl (ow_fieldAddrB off54_0 rfl rfl ?_)
  refine ops_cons rfl (ow_loadB b5 ti2 rfl rfl ?_)
  refine ops_cons rfl (ow_move rfl ?_)
  refine ops_cons rfl (ow_add rfl rfl (w64 (by omega)) ?_)
  refine ops_cons rfl (ow_rem rfl rfl (by omega) (m64 (by omega)) ?_)
  generalize ht : (s.time + (cyc m.ss s.mode - startD m.ss s.mode s.round s.slot)) % 65536 = tt
  refine ops_cons rfl (ow_move rfl ?_)
  refine ops_cons rfl (ow_fieldAddrB off54_4 rfl rfl ?_)
  refine ops_cons rfl (ow_loadB b5 ti2 rfl rfl ?_)
  refine ops_cons rfl (ow_buildP pl54 ti54 rfl rfl ?_)
  refine ops_cons rfl (ow_storeB b9 ti54 rfl rfl rfl rfl rfl rfl ?_)
  intro w21 b23 hg20 z22
  replace hm := hm.grown hg20 (by intro g hg; injection hg; omega)
  replace b1 := b1.grown hg20 (by intro h; injection h; omega)
  replace b5 := b5.grown hg20 (by intro h; injection h; omega)
  replace hnx := hnx.grown hg20 (by intro g hg; injection hg; omega)
  replace X := X.grown hg20 X.size (by intro g hg; injection hg; omega)
  clear hg20 b9
  refine ops_cons rfl (ow_assign rfl ?_)
  refine ops_nil ?_
  refine c_ret ?_
  refine fin_cell2 rfl rfl b23 ti54 rfl rfl ?_
  · skip
    first
    | (rw [change_c h1]; exact ⟨rfl, X⟩)
    | (rw [change_2 h1 hM]; exact ⟨rfl, X⟩)
    | (rw [change_5 h1 hM hno hN]; exact ⟨rfl, X⟩)
    | (rw [change_0 h1 hM hno hN, ht]; exact ⟨rfl, X⟩)
  replace hm := hm.ext x17
  replace b1 := b1.ext x17
  replace b5 := b5.ext x17
  replace b9 := b9.ext x17
  replace hnx := hnx.ext x17
  replace X := Ext.trans X x17; clear x17
  refine ops_want rfl rfl rfl (ow_not rfl ?_)
  refine ops_cons rfl (ow_pick rfl rfl ?_)
  refine ops_nil ?_
  refine c_true rfl ?_
  refine c_region ?_
  refine ops_cons rfl (ow_assign rfl ?_)
  refine ops_nil ?_
  refine tq_n ?_
  refine c_seq ?_
  refine c_seqR ?_
  refine ops_cons rfl (ow_move rfl ?_)
  refine ops_cons rfl (ow_neq2 rfl rfl (fun h3 => ?_) (fun h3 => ?_))
  refine ops_nil ?_
  refine c_true rfl ?_
  refine c_seqR ?_
  refine ops_cons rfl (ow_buildP pl54 ti54 rfl rfl ?_)
  refine ops_cons rfl (ow_move rfl ?_)
  refine ops_cons rfl (ow_storeB b9 ti54 rfl rfl rfl rfl rfl rfl ?_)
  intro w25 b27 hg24 z26
  replace hm := hm.grown hg24 (by intro g hg; injection hg; omega)
  replace b1 := b1.grown hg24 (by intro h; injection h; omega)
  replace b5 := b5.grown hg24 (by intro h; injection h; omega)
  replace hnx := hnx.grown hg24 (by intro g hg; injection hg; omega)
  replace X := X.grown hg24 X.size (by intro g hg; injection hg; omega)
  clear hg24 b9
  refine ops_cons rfl (ow_assign rfl ?_)
  refine ops_nil ?_
  refine c_ret ?_
  refine tq_r ?_
  refine fin_cell2 rfl rfl b27 ti54 rfl rfl ?_
  · skip
    first
    | (rw [change_c h1]; exact ⟨rfl, X⟩)
    | (rw [change_2 h1 hM]; exact ⟨rfl, X⟩)
    | (rw [change_5 h1 hM hno hN]; exact ⟨rfl, X⟩)
    | (rw [change_0 h1 hM hno hN, ht]; exact ⟨rfl, X⟩)
  exact absurd (by decide) h3
  exact absurd h1 h2
  replace hm := hm.ext x15
  replace b1 := b1.ext x15
  replace b5 := b5.ext x15
  replace b9 := b9.ext x15
  replace X := Ext.trans X x15; clear x15
  refine ops_want rfl rfl rfl (ow_not rfl ?_)
  refine ops_cons rfl (ow_pick rfl rfl ?_)
  refine ops_nil ?_
  refine c_true rfl ?_
  refine c_region ?_
  refine ops_cons rfl (ow_assign rfl ?_)
  refine ops_nil ?_
  refine tq_n ?_
  refine c_seq ?_
  refine c_seqR ?_
  refine ops_cons rfl (ow_move rfl ?_)
  refine ops_cons rfl (ow_eql2 rfl rfl (fun h2 => ?_) (fun h2 => ?_))
  exact absurd h2 (by decide)
  refine ops_cons rfl (ow_move rfl ?_)
  refine ops_skip rfl rfl rfl rfl ?_
  refine ops_skip rfl rfl rfl rfl ?_
  refine ops_skip rfl rfl rfl rfl ?_
  refine ops_skip rfl rfl rfl rfl ?_
  refine ops_skip rfl rfl rfl rfl ?_
  refine ops_skip rfl rfl rfl rfl ?_
  refine ops_skip rfl rfl rfl rfl ?_
  refine ops_skip rfl rfl rfl rfl ?_
  refine ops_skip rfl rfl rfl rfl ?_
  refine ops_skip rfl rfl rfl rfl ?_
  refine ops_cons rfl (ow_pick rfl rfl ?_)
  refine ops_nil ?_
  refine c_false rfl ?_
  refine c_skip ?_
  refine tq_n ?_
  refine c_seq ?_
  refine c_seqR ?_
  refine ops_cons rfl (ow_move rfl ?_)
  refine ops_cons rfl (ow_neq2 rfl rfl (fun h3 => ?_) (fun h3 => ?_))
  refine ops_nil ?_
  refine c_true rfl ?_
  refine c_seqR ?_
  refine ops_cons rfl (ow_buildP pl54 ti54 rfl rfl ?_)
  refine ops_cons rfl (ow_move rfl ?_)
  refine ops_cons rfl (ow_storeB b9 ti54 rfl rfl rfl rfl rfl rfl ?_)
  intro w29 b31 hg28 z30
  replace hm := hm.grown hg28 (by intro g hg; injection hg; omega)
  replace b1 := b1.grown hg28 (by intro h; injection h; omega)
  replace b5 := b5.grown hg28 (by intro h; injection h; omega)
  replace X := X.grown hg28 X.size (by intro g hg; injection hg; omega)
  clear hg28 b9
  refine ops_cons rfl (ow_assign rfl ?_)
  refine ops_nil ?_
  refine c_ret ?_
  refine tq_r ?_
  refine fin_cell2 rfl rfl b31 ti54 rfl rfl ?_
  · skip
    first
    | (rw [change_c h1]; exact ⟨rfl, X⟩)
    | (rw [change_2 h1 hM]; exact ⟨rfl, X⟩)
    | (rw [change_5 h1 hM hno hN]; exact ⟨rfl, X⟩)
    | (rw [change_0 h1 hM hno hN, ht]; exact ⟨rfl, X⟩)
  exact absurd (by decide) h3
  refine ops_cons rfl (ow_move rfl ?_)
  refine ops_skip rfl rfl rfl rfl ?_
  refine ops_skip rfl rfl rfl rfl ?_
  refine ops_skip rfl rfl rfl rfl ?_
  refine ops_skip rfl rfl rfl rfl ?_
  refine ops_skip rfl rfl rfl rfl ?_
  refine ops_cons rfl (ow_pick rfl rfl ?_)
  refine ops_nil ?_
  refine c_false rfl ?_
  refine c_skip ?_
  refine tq_n ?_
  refine c_seq ?_
  refine c_seqR ?_
  refine ops_cons rfl (ow_move rfl ?_)
  refine ops_cons rfl (ow_eql2 rfl rfl (fun h2 => ?_) (fun h2 => ?_))
  exact absurd h2 h1
  refine ops_cons rfl (ow_move rfl ?_)
  refine ops_skip rfl rfl rfl rfl ?_
  refine ops_skip rfl rfl rfl rfl ?_
  refine ops_skip rfl rfl rfl rfl ?_
  refine ops_skip rfl rfl rfl rfl ?_
  refine ops_skip rfl rfl rfl rfl ?_
  refine ops_skip rfl rfl rfl rfl ?_
  refine ops_skip rfl rfl rfl rfl ?_
  refine ops_skip rfl rfl rfl rfl ?_
  refine ops_skip rfl rfl rfl rfl ?_
  refine ops_skip rfl rfl rfl rfl ?_
  refine ops_cons rfl (ow_pick rfl rfl ?_)
  refine ops_nil ?_
  refine c_false rfl ?_
  refine c_skip ?_
  refine tq_n ?_
  refine c_seq ?_
  refine c_seqR ?_
  refine ops_cons rfl (ow_move rfl ?_)
  refine ops_cons rfl (ow_neq2 rfl rfl (fun h3 => ?_) (fun h3 => ?_))
  refine ops_nil ?_
  refine c_true rfl ?_
  refine c_seqR ?_
  refine ops_cons rfl (ow_buildP pl54 ti54 rfl rfl ?_)
  refine ops_cons rfl (ow_move rfl ?_)
  refine ops_cons rfl (ow_storeB b9 ti54 rfl rfl rfl rfl rfl rfl ?_)
  intro w33 b35 hg32 z34
  replace hm := hm.grown hg32 (by intro g hg; injection hg; omega)
  replace b1 := b1.grown hg32 (by intro h; injection h; omega)
  replace b5 := b5.grown hg32 (by intro h; injection h; omega)
  replace X := X.grown hg32 X.size (by intro g hg; injection hg; omega)
  clear hg32 b9
  refine ops_cons rfl (ow_assign rfl ?_)
  refine ops_nil ?_
  refine c_ret ?_
  refine tq_r ?_
  refine fin_cell2 rfl rfl b35 ti54 rfl rfl ?_
  · skip
    first
    | (rw [change_c h1]; exact ⟨rfl, X⟩)
    | (rw [change_2 h1 hM]; exact ⟨rfl, X⟩)
    | (rw [change_5 h1 hM hno hN]; exact ⟨rfl, X⟩)
    | (rw [change_0 h1 hM hno hN, ht]; exact ⟨rfl, X⟩)
  exact absurd h1 h3

theorem iChange_c (m : MedlI) (B : Nat) (s : StateI) (to : Int) (w : World) (hm : Med B w m) (hz : m.small) :
    Calls Tryz.prog 46 #[.agg m.cells.toArray, .agg s.cells.toArray, .int .i64 to] w (Ret fun v w' => v = .tuple #[.agg (changeF m.d s to).1.cells.toArray, .int .i64 (changeF m.d s to).2] ∧ Ext w w') := by
  have hls := hz.ls
  have hlm := hz.lm
  have hln := hz.ln
  have Bhm := hm.1
  have X := Ext.refl w
  refine calls_of (args := [.agg m.cells.toArray, .agg s.cells.toArray, .int .i64 to]) Tryz.func46 Tryz.ntmps46 rfl rfl ?_
  refine c_seqR ?_
  refine ops_cons rfl (ow_box rfl rfl ?_)
  intro g4 w3 eg4 b1 x2 zg4
  have lg4 : w.heap.size ≤ g4 := Nat.le_trans X.size (Nat.le_of_eq eg4.symm)
  have pg4hm := Nat.le_trans hm.1 (Nat.le_of_eq eg4.symm)
  replace hm := hm.ext x2
  replace X := Ext.trans X x2; clear x2
  refine ops_cons rfl (ow_box rfl rfl ?_)
  intro g8 w7 eg8 b5 x6 zg8
  have lg8 : w.heap.size ≤ g8 := Nat.le_trans X.size (Nat.le_of_eq eg8.symm)
  have pg8hm := Nat.le_trans hm.1 (Nat.le_of_eq eg8.symm)
  have ng8b1 := Nat.lt_of_lt_of_eq b1.lt eg8.symm
  replace hm := hm.ext x6
  replace b1 := b1.ext x6
  replace X := Ext.trans X x6; clear x6
  refine ops_cons rfl (ow_alloc ti54 ?_)
  intro g12 w11 eg12 b9 x10 zg12
  have lg12 : w.heap.size ≤ g12 := Nat.le_trans X.size (Nat.le_of_eq eg12.symm)
  have pg12hm := Nat.le_trans hm.1 (Nat.le_of_eq eg12.symm)
  have ng12b1 := Nat.lt_of_lt_of_eq b1.lt eg12.symm
  have ng12b5 := Nat.lt_of_lt_of_eq b5.lt eg12.symm
  replace hm := hm.ext x10
  replace b1 := b1.ext x10
  replace b5 := b5.ext x10
  replace X := Ext.trans X x10; clear x10
  refine ops_cons rfl (ow_assign rfl ?_)
  refine ops_nil ?_
  refine c_seq ?_
  refine c_seqR ?_
  refine ops_cons rfl (ow_loadAB b1 ti28 rfl rfl ?_)
  refine ops_cons rfl (ow_loadAB b5 ti54 rfl rfl ?_)
  refine ops_cons rfl (ow_call ent136 rfl (ret_mono (lookCode_c m _ s _ hm hz) ?_))
  rintro _ w14 ⟨rfl, x13⟩
  replace hm := hm.ext x13
  replace b1 := b1.ext x13
  replace b5 := b5.ext x13
  replace b9 := b9.ext x13
  replace X := Ext.trans X x13; clear x13
  refine ops_cons rfl (ow_assign rfl ?_)
  refine ops_nil ?_
  refine c_seqR ?_
  refine ops_cons rfl (ow_move rfl ?_)
  refine ops_cons rfl (ow_neq2 rfl rfl (fun h1 => ?_) (fun h1 => ?_))
  refine ops_nil ?_
  refine c_true rfl ?_
  refine c_seqR ?_
  refine ops_cons rfl (ow_buildP pl54 ti54 rfl rfl ?_)
  refine ops_cons rfl (ow_move rfl ?_)
  refine ops_cons rfl (ow_storeB b9 ti54 rfl rfl rfl rfl rfl rfl ?_)
  intro w16 b18 hg15 z17
  replace hm := hm.grown hg15 (by intro g hg; injection hg; omega)
  replace b1 := b1.grown hg15 (by intro h; injection h; omega)
  replace b5 := b5.grown hg15 (by intro h; injection h; omega)
  replace X := X.grown hg15 X.size (by intro g hg; injection hg; omega)
  clear hg15 b9
  refine ops_cons rfl (ow_assign rfl ?_)
  refine ops_nil ?_
  refine c_ret ?_
  refine tq_r ?_
  refine fin_cell2 rfl rfl b18 ti54 rfl rfl ?_
  · skip
    first
    | (rw [change_c h1]; exact ⟨rfl, X⟩)
    | (rw [change_2 h1 hM]; exact ⟨rfl, X⟩)
    | (rw [change_5 h1 hM hno hN]; exact ⟨rfl, X⟩)
    | (rw [change_0 h1 hM hno hN, ht]; exact ⟨rfl, X⟩)
  replace h1 : lookC m.d s = 0 := by omega
  have hm0 := lookC_zero.1 h1
  have wf := isMedl_iff.1 hm0.1
  have hW := wf
  have hB := hm0.2
  obtain ⟨k, x, j, y, bl, hx, hxi, hj, hy, hda, hso, hro, hno, hyd⟩ := bel_get hW hB
  have hst := stateOk_in bl.ok
  have hok : ∀ x ∈ m.ss, slotOk x = true := isST_all hW.st
  have brd := bl.rd
  have bsl := bl.sl
  have hsc := start_cyc hok s.mode s.round s.slot
  have hcy := cyc_in hok s.mode
  have hsi := startD_in hok s.mode s.round s.slot
  have hnl := hz.lx x (List.mem_of_getElem? hx)
  refine ops_nil ?_
  refine c_false rfl ?_
  refine c_skip ?_
  refine tq_n ?_
  refine c_seq ?_
  refine c_seqR ?_
  refine ops_cons rfl (ow_move rfl ?_)
  refine ops_cons rfl (ow_fieldAddrB off28_2 rfl rfl ?_)
  refine ops_cons rfl (ow_loadB b1 ti25 rfl rfl ?_)
  refine ops_cons rfl (ow_len Tryz.underlying25 rfl ?_)
  refine ops_cons rfl (ow_sub rfl rfl (w64 (by omega)) ?_)
  refine ops_cons rfl (ow_callB ent107 rfl (within_c _ _ _ _) (fun w20 hM x19 => ?_) (fun w20 hM x19 => ?_))
  replace hm := hm.ext x19
  replace b1 := b1.ext x19
  replace b5 := b5.ext x19
  replace b9 := b9.ext x19
  replace X := Ext.trans X x19; clear x19
  refine ops_cons rfl (ow_not rfl ?_)
  refine ops_nil ?_
  refine c_false rfl ?_
  refine c_skip ?_
  refine tq_n ?_
  refine c_seq ?_
  refine c_seqR ?_
  refine ops_cons rfl (ow_fieldAddrB off28_2 rfl rfl ?_)
  refine ops_cons rfl (ow_loadB b1 ti25 rfl rfl ?_)
  refine ops_cons rfl (ow_fieldAddrB off54_1 rfl rfl ?_)
  refine ops_cons rfl (ow_loadB b5 ti2 rfl rfl ?_)
  refine ops_cons rfl (ow_move rfl ?_)
  refine ops_cons rfl (ow_callB ent50 rfl (mayChange_c _ _ _ _ m.ms s.mode to k x _ hm.sm hm.sx hlm hz.lx wf.mt bl.md hx) (fun w22 hN x21 => ?_) (fun w22 hN x21 => ?_))
  replace hm := hm.ext x21
  replace b1 := b1.ext x21
  replace b5 := b5.ext x21
  replace b9 := b9.ext x21
  replace X := Ext.trans X x21; clear x21
  refine ops_cons rfl (ow_not rfl ?_)
  refine ops_nil ?_
  refine c_false rfl ?_
  refine c_skip ?_
  refine tq_n ?_
  refine c_seqD [false, false, false, false, false, false, false, false, false] mixed (by kernel_rfl) ?_
  refine f_q rfl (fun wq sq => ow_loadAB (b1.ext sq) ti28 rfl rfl ⟨rfl, Ext.refl _⟩) ?_
  refine f_q rfl (fun wq sq => ow_fieldAddrB off54_1 rfl rfl ⟨rfl, Ext.refl _⟩) ?_
  refine f_q rfl (fun wq sq => ow_loadB (b5.ext sq) ti2 rfl rfl ⟨rfl, Ext.refl _⟩) ?_
  refine f_q rfl (fun wq sq => ow_call ent126 rfl (cycleTime_c m _ s.mode _ (hm.ext sq) hz hok)) ?_
  refine f_q rfl (fun wq sq => ow_loadAB (b1.ext sq) ti28 rfl rfl ⟨rfl, Ext.refl _⟩) ?_
  refine f_q rfl (fun wq sq => ow_loadAB (b5.ext sq) ti54 rfl rfl ⟨rfl, Ext.refl _⟩) ?_
  refine f_q rfl (fun wq sq => ow_call ent137 rfl (slotStart_c m _ s _ (hm.ext sq) hz wf hB)) ?_
  refine f_q rfl (fun wq sq => ow_sub rfl rfl (w64 (by omega)) ⟨rfl, Ext.refl _⟩) ?_
  refine f_q rfl (fun wq sq => ow_assign rfl ⟨rfl, Ext.refl _⟩) ?_
  refine f_nil (fun w23 sq => ?_)
  have xq := sq
  replace hm := hm.ext xq
  replace b1 := b1.ext xq
  replace b5 := b5.ext xq
  replace b9 := b9.ext xq
  replace X := Ext.trans X xq; clear xq sq
  refine ops_nil ?_
  refine c_seqR ?_
  refine ops_cons rfl (ow_fieldAddrB off54_0 rfl rfl ?_)
  refine ops_cons rfl (ow_loadB b5 ti2 rfl rfl ?_)
  refine ops_cons rfl (ow_move rfl ?_)
  refine ops_cons rfl (ow_add rfl rfl (w64 (by omega)) ?_)
  refine ops_cons rfl (ow_rem rfl rfl (by omega) (m64 (by omega)) ?_)
  generalize ht : (s.time + (cyc m.ss s.mode - startD m.ss s.mode s.round s.slot)) % 65536 = tt
  refine ops_cons rfl (ow_move rfl ?_)
  refine ops_cons rfl (ow_fieldAddrB off54_4 rfl rfl ?_)
  refine ops_cons rfl (ow_loadB b5 ti2 rfl rfl ?_)
  refine ops_cons rfl (ow_buildP pl54 ti54 rfl rfl ?_)
  refine ops_cons rfl (ow_storeB b9 ti54 rfl rfl rfl rfl rfl rfl ?_)
  intro w25 b27 hg24 z26
  replace hm := hm.grown hg24 (by intro g hg; injection hg; omega)
  replace b1 := b1.grown hg24 (by intro h; injection h; omega)
  replace b5 := b5.grown hg24 (by intro h; injection h; omega)
  replace X := X.grown hg24 X.size (by intro g hg; injection hg; omega)
  clear hg24 b9
  refine ops_cons rfl (ow_assign rfl ?_)
  refine ops_nil ?_
  refine c_ret ?_
  refine fin_cell2 rfl rfl b27 ti54 rfl rfl ?_
  · skip
    first
    | (rw [change_c h1]; exact ⟨rfl, X⟩)
    | (rw [change_2 h1 hM]; exact ⟨rfl, X⟩)
    | (rw [change_5 h1 hM hno hN]; exact ⟨rfl, X⟩)
    | (rw [change_0 h1 hM hno hN, ht]; exact ⟨rfl, X⟩)
  replace hm := hm.ext x21
  replace b1 := b1.ext x21
  replace b5 := b5.ext x21
  replace b9 := b9.ext x21
  replace X := Ext.trans X x21; clear x21
  refine ops_cons rfl (ow_not rfl ?_)
  refine ops_nil ?_
  refine c_true rfl ?_
  refine c_seqR ?_
  refine ops_cons rfl (ow_buildP pl54 ti54 rfl rfl ?_)
  refine ops_cons rfl (ow_storeB b9 ti54 rfl rfl rfl rfl rfl rfl ?_)
  intro w29 b31 hg28 z30
  replace hm := hm.grown hg28 (by intro g hg; injection hg; omega)
  replace b1 := b1.grown hg28 (by intro h; injection h; omega)
  replace b5 := b5.grown hg28 (by intro h; injection h; omega)
  replace X := X.grown hg28 X.size (by intro g hg; injection hg; omega)
  clear hg28 b9
  refine ops_cons rfl (ow_assign rfl ?_)
  refine ops_nil ?_
  refine c_ret ?_
  refine tq_r ?_
  refine fin_cell2 rfl rfl b31 ti54 rfl rfl ?_
  · skip
    first
    | (rw [change_c h1]; exact ⟨rfl, X⟩)
    | (rw [change_2 h1 hM]; exact ⟨rfl, X⟩)
    | (rw [change_5 h1 hM hno hN]; exact ⟨rfl, X⟩)
    | (rw [change_0 h1 hM hno hN, ht]; exact ⟨rfl, X⟩)
  replace hm := hm.ext x19
  replace b1 := b1.ext x19
  replace b5 := b5.ext x19
  replace b9 := b9.ext x19
  replace X := Ext.trans X x19; clear x19
  refine ops_cons rfl (ow_not rfl ?_)
  refine ops_nil ?_
  refine c_true rfl ?_
  refine c_seqR ?_
  refine ops_cons rfl (ow_buildP pl54 ti54 rfl rfl ?_)
  refine ops_cons rfl (ow_storeB b9 ti54 rfl rfl rfl rfl rfl rfl ?_)
  intro w33 b35 hg32 z34
  replace hm := hm.grown hg32 (by intro g hg; injection hg; omega)
  replace b1 := b1.grown hg32 (by intro h; injection h; omega)
  replace b5 := b5.grown hg32 (by intro h; injection h; omega)
  replace X := X.grown hg32 X.size (by intro g hg; injection hg; omega)
  clear hg32 b9
  refine ops_cons rfl (ow_assign rfl ?_)
  refine ops_nil ?_
  refine c_ret ?_
  refine tq_r ?_
  refine fin_cell2 rfl rfl b35 ti54 rfl rfl ?_
  · skip
    first
    | (rw [change_c h1]; exact ⟨rfl, X⟩)
    | (rw [change_2 h1 hM]; exact ⟨rfl, X⟩)
    | (rw [change_5 h1 hM hno hN]; exact ⟨rfl, X⟩)
    | (rw [change_0 h1 hM hno hN, ht]; exact ⟨rfl, X⟩)
end Go.Proofs.YtojgfbbdjobdnaaGreatDoor
namespace Go.Proofs.YtojgfbbdjobdnaaGreatDoor
open Go.RowKit
set_option linter.unusedVariables false
set_option linter.unusedSimpArgs false
set_option maxRecDepth 20000
theorem big_c (A : Option Addr) (c : Nat) (bs : List UInt8) (w : World)  :
    Calls Tryz.prog 11 #[.slice A bs.length c] w (Ret fun v w' => v = .bool (decide ((4096 : Int) < bs.length)) ∧ Ext w w') := by
  have X := Ext.refl w
  refine calls_of (args := [.slice A bs.length c]) Tryz.func11 Tryz.ntmps11 rfl rfl ?_
  refine c_seqR ?_
  refine ops_cons rfl (ow_assign rfl ?_)
  refine ops_nil ?_
  refine c_seqR ?_
  refine ops_cons rfl (ow_move rfl ?_)
  refine ops_cons rfl (ow_len Tryz.underlying22 rfl ?_)
  refine ops_cons rfl (ow_gtr rfl rfl ?_)
  refine ops_cons rfl (ow_assign rfl ?_)
  refine ops_nil ?_
  refine c_ret ?_
  refine fin_ret1 rfl rfl ?_
  exact ⟨by rfl, X⟩

end Go.Proofs.YtojgfbbdjobdnaaGreatDoor
namespace Go.Proofs.YtojgfbbdjobdnaaGreatDoor
open Go.RowKit
set_option linter.unusedVariables false
set_option linter.unusedSimpArgs false

end Go.Proofs.YtojgfbbdjobdnaaGreatDoor
namespace Go.Proofs.YtojgfbbdjobdnaaGreatDoor
open Go.RowKit
set_option linter.unusedVariables false
set_option linter.unusedSimpArgs false
def sumF (f : Nat → Int) : Nat → Int
  | 0 => 0
  | n + 1 => sumF f n + f n
theorem sumF_congr {f g : Nat → Int} : ∀ (n : Nat), (∀ i, i < n → f i = g i) → sumF f n = sumF g n
  | 0, _ => rfl
  | n + 1, h => by rw [sumF, sumF, sumF_congr n fun i hi => h i (by omega), h n (by omega)]
theorem sumF_add (f : Nat → Int) (a : Nat) : ∀ (n : Nat), sumF f (a + n) = sumF f a + sumF (fun i => f (a + i)) n
  | 0 => by simp [sumF]
  | n + 1 => by rw [← Nat.add_assoc, sumF, sumF_add f a n, sumF]; omega
theorem sumF_per {f : Nat → Int} {S : Nat} (hS : 0 < S) : ∀ (R : Nat), (∀ j, j < R * S → f j = f (j % S)) → sumF f (R * S) = R * sumF f S
  | 0, _ => by simp [sumF]
  | R + 1, h => by
    have h1 : (R + 1) * S = R * S + S := Nat.succ_mul R S
    have ih := sumF_per hS R (fun j hj => h j (by omega))
    have h2 : sumF (fun i => f (R * S + i)) S = sumF f S := sumF_congr S fun i hi => by
      rw [h (R * S + i) (by omega), Nat.add_comm, Nat.add_mul_mod_self_right, Nat.mod_eq_of_lt hi]
    rw [h1, sumF_add, ih, h2, Int.natCast_add, Int.add_mul]; simp
theorem sumF_pos {f : Nat → Int} : ∀ (n : Nat), (∀ i, i < n → 1 ≤ f i) → (n : Int) ≤ sumF f n
  | 0, _ => by simp [sumF]
  | n + 1, h => by
    have h1 := sumF_pos n fun i hi => h i (by omega)
    have h2 := h n (by omega)
    rw [sumF]; omega
theorem sumF_rot {f : Nat → Int} {n p : Nat} (hp : p < n) : sumF (fun i => f ((p + i) % n)) n = sumF f n := by
  have h1 : sumF f n = sumF f p + sumF (fun i => f (p + i)) (n - p) := by
    have := sumF_add f p (n - p)
    rw [show p + (n - p) = n by omega] at this; exact this
  have h2 := sumF_add (fun i => f ((p + i) % n)) (n - p) p
  rw [show n - p + p = n by omega] at h2
  rw [h2, h1]
  have h3 : sumF (fun i => f ((p + i) % n)) (n - p) = sumF (fun i => f (p + i)) (n - p) := sumF_congr _ fun i hi => by rw [Nat.mod_eq_of_lt (by omega)]
  have h4 : sumF (fun i => f ((p + (n - p + i)) % n)) p = sumF f p := sumF_congr _ fun i hi => by
    rw [show p + (n - p + i) = i + n by omega, Nat.add_mod_right, Nat.mod_eq_of_lt (by omega)]
  rw [h3, h4]; omega
def durN (L : List SlotI) (j : Nat) : Int := match L[j]? with
  | some y => y.desc.duration
  | none => 0
theorem durN_at {L : List SlotI} {j : Nat} {y : SlotI} (h : L[j]? = some y) : durN L j = y.desc.duration := by unfold durN; rw [h]
theorem sumD_F (L : List SlotI) : ∀ (n : Nat), n ≤ L.length → sumD (L.take n) = sumF (durN L) n
  | 0, _ => rfl
  | n + 1, h => by
    have hx : L[n]? = some L[n] := List.getElem?_eq_getElem (by omega)
    rw [List.take_add_one, hx, sumD_app, sumD_F L n (by omega), sumF, durN_at hx]; simp [sumD]
section
variable {d : MedlD} {k : Nat} {x : Mode}
theorem dur_in (hW : WellF d) {mode : Int} {j : Nat} {y : SlotI} (hy : (ofMode mode d.ss)[j]? = some y) : 1 ≤ y.desc.duration ∧ y.desc.duration ≤ 1000 :=
  (slotI (isST_all hW.st y (ofMode_sub _ _ y (List.mem_of_getElem? hy)).1)).2.2
theorem mode_in (hW : WellF d) (hx : d.ms[k]? = some x) : (1 ≤ x.rounds ∧ x.rounds ≤ 8) ∧ 1 ≤ x.slots ∧ x.slots ≤ 16 := isMT_in hW.mt x (List.mem_of_getElem? hx)
/-- the cycle time is a sum -/
theorem cyc_F (hW : WellF d) (hx : d.ms[k]? = some x) : cyc d.ss k = sumF (durN (ofMode (k : Int) d.ss)) (x.rounds.toNat * x.slots.toNat) := by
  have h1 := ofMode_length hW.co hx
  unfold cyc
  rw [← h1, ← sumD_F _ _ (Nat.le_refl _), List.take_length]
theorem dur_per (hW : WellF d) (hx : d.ms[k]? = some x) {j : Nat} (hj : j < x.rounds.toNat * x.slots.toNat) : durN (ofMode (k : Int) d.ss) j = durN (ofMode (k : Int) d.ss) (j % x.slots.toNat) := by
  have hm := mode_in hW hx
  have hl := ofMode_length hW.co hx
  have hjm : j % x.slots.toNat ≤ j := Nat.mod_le _ _
  have e1 : (ofMode (k : Int) d.ss)[j]? = some ((ofMode (k : Int) d.ss)[j]'(by omega)) := List.getElem?_eq_getElem _
  have e2 : (ofMode (k : Int) d.ss)[j % x.slots.toNat]? = some ((ofMode (k : Int) d.ss)[j % x.slots.toNat]'(by omega)) := List.getElem?_eq_getElem _
  obtain ⟨a1, a2, a3, a4⟩ := ofMode_at hW.co hx e1
  obtain ⟨b1, b2, b3, b4⟩ := ofMode_at hW.co hx e2
  rw [Nat.mod_mod] at b3
  rw [durN_at e1, durN_at e2]
  have h1 := List.all_eq_true.1 (List.all_eq_true.1 hW.sd _ (ofMode_sub _ _ _ (List.mem_of_getElem? e1)).1) _ (ofMode_sub _ _ _ (List.mem_of_getElem? e2)).1
  simp only [durOk, Bool.or_eq_true, Bool.not_eq_true', Bool.and_eq_false_iff, decide_eq_false_iff_not, decide_eq_true_eq] at h1
  rcases h1 with (h1 | h1) | h1
  · rw [a1, b1] at h1; exact absurd rfl h1
  · rw [a3, b3] at h1; exact absurd rfl h1
  · exact h1
theorem cyc_round (hW : WellF d) (hx : d.ms[k]? = some x) : cyc d.ss k = x.rounds * (cyc d.ss k / x.rounds) ∧ 0 < cyc d.ss k ∧ cyc d.ss k ≤ 32000 := by
  have hm := mode_in hW hx
  have hl := ofMode_length hW.co hx
  have h1 := sumF_per (f := durN (ofMode (k : Int) d.ss)) (S := x.slots.toNat) (by omega) x.rounds.toNat (fun j hj => dur_per hW hx hj)
  have h0 := cyc_F hW hx
  rw [h1, Int.toNat_of_nonneg (by omega)] at h0
  have h2 := sumF_pos (f := durN (ofMode (k : Int) d.ss)) (x.rounds.toNat * x.slots.toNat) (fun i hi => by
    have e1 : (ofMode (k : Int) d.ss)[i]? = some ((ofMode (k : Int) d.ss)[i]'(by omega)) := List.getElem?_eq_getElem _
    rw [durN_at e1]; exact (dur_in hW e1).1)
  rw [← cyc_F hW hx] at h2
  have h3 : 1 * 1 ≤ x.rounds.toNat * x.slots.toNat := Nat.mul_le_mul (by omega) (by omega)
  refine ⟨?_, by omega, ?_⟩
  · generalize sumF (durN (ofMode (k : Int) d.ss)) x.slots.toNat = q at h0
    rw [h0, Int.mul_ediv_cancel_left _ (by omega)]
  · have h4 := List.all_eq_true.1 hW.sh k (List.mem_range.2 (List.getElem?_eq_some_iff.1 hx).1)
    simpa using h4
def iterN (d : MedlD) : Nat → StateI → StateI
  | 0, s => s
  | n + 1, s => nextS d (iterN d n s)
theorem iterN_succ (d : MedlD) : ∀ (n : Nat) (s : StateI), iterN d (n + 1) s = iterN d n (nextS d s)
  | 0, s => rfl
  | n + 1, s => by rw [iterN, iterN_succ d n, iterN]
theorem iterS_at (d : MedlD) : ∀ (n j : Nat) (s : StateI), j < n → (iterS d n s)[j]? = some (iterN d j s)
  | 0, j, s, h => by omega
  | n + 1, 0, s, h => rfl
  | n + 1, j + 1, s, h => by rw [iterS, List.getElem?_cons_succ, iterS_at d n j (nextS d s) (by omega), iterN_succ]
theorem next_pos {R S q : Nat} (hS : 0 < S) (hq : q < R * S) : ((q + 1) % (R * S)) / S = (if q % S + 1 = S then (q / S + 1) % R else q / S) ∧ ((q + 1) % (R * S)) % S = (if q % S + 1 = S then 0 else q % S + 1) := by
  have h1 := Nat.div_add_mod q S
  have h2 := Nat.mod_lt q hS
  have h3 : q / S < R := Nat.div_lt_of_lt_mul (by rw [Nat.mul_comm]; exact hq)
  generalize q / S = a at *
  generalize q % S = b at *
  have h4 : S * (a + 1) ≤ S * R := Nat.mul_le_mul_left S h3
  rw [Nat.mul_add, Nat.mul_one] at h4
  rw [Nat.mul_comm R S] at *
  by_cases e : b + 1 = S
  · rw [if_pos e, if_pos e]
    have h5 : q + 1 = S * (a + 1) := by rw [Nat.mul_add, Nat.mul_one]; omega
    rw [h5, Nat.mul_mod_mul_left, Nat.mul_div_cancel_left _ hS, Nat.mul_mod_right]
    exact ⟨rfl, rfl⟩
  · rw [if_neg e, if_neg e, Nat.mod_eq_of_lt (by omega)]
    have h5 : q + 1 = (b + 1) + S * a := by omega
    rw [h5, Nat.add_mul_div_left _ _ hS, Nat.add_mul_mod_self_left, Nat.div_eq_of_lt (by omega), Nat.mod_eq_of_lt (by omega)]
    exact ⟨by omega, rfl⟩
theorem desc_at (hW : WellF d) (hx : d.ms[k]? = some x) {q : Nat} (hq : q < x.rounds.toNat * x.slots.toNat) :
    (descAt d.ss k ((q / x.slots.toNat : Nat) : Int) ((q % x.slots.toNat : Nat) : Int)).duration = durN (ofMode (k : Int) d.ss) q := by
  have hm := mode_in hW hx
  have hl := ofMode_length hW.co hx
  have hS : 0 < x.slots.toNat := by omega
  have h2 := Nat.mod_lt q hS
  have h3 : q / x.slots.toNat < x.rounds.toNat := Nat.div_lt_of_lt_mul (by rw [Nat.mul_comm]; exact hq)
  have h23 := Nat.div_add_mod q x.slots.toNat
  obtain ⟨a, ha⟩ : ∃ a, q / x.slots.toNat = a := ⟨_, rfl⟩
  obtain ⟨b, hb⟩ : ∃ b, q % x.slots.toNat = b := ⟨_, rfl⟩
  rw [ha, hb] at h23
  rw [ha] at h3 ⊢
  rw [hb] at h2 ⊢
  obtain ⟨j, y, h4, h5, h6, h7, h8, h9⟩ := slot_find hW.co hx (r := (a : Int)) (s := (b : Int)) (by omega) (by omega)
  rw [h9]
  have hy : y ∈ ofMode (k : Int) d.ss := List.mem_filter.2 ⟨List.mem_of_getElem? h5, by simpa using h6⟩
  obtain ⟨i, hi⟩ := List.mem_iff_getElem?.1 hy
  obtain ⟨a1, a2, a3, a4⟩ := ofMode_at hW.co hx hi
  have e1 : i / x.slots.toNat = a := Int.ofNat.inj (a2.symm.trans h7)
  have e2 : i % x.slots.toNat = b := Int.ofNat.inj (a3.symm.trans h8)
  have e : i = q := by rw [← h23, ← Nat.div_add_mod i x.slots.toNat, e1, e2]
  subst e
  exact (durN_at hi).symm
theorem iter_at (hW : WellF d) {s : StateI} (bl : Bel d s k x) (p : Nat) (hp : p = s.round.toNat * x.slots.toNat + s.slot.toNat) : ∀ (j : Nat),
    iterN d j s = ⟨(s.time + sumF (fun i => durN (ofMode (k : Int) d.ss) ((p + i) % (x.rounds.toNat * x.slots.toNat))) j) % 65536, s.mode, (((p + j) % (x.rounds.toNat * x.slots.toNat) / x.slots.toNat : Nat) : Int), (((p + j) % (x.rounds.toNat * x.slots.toNat) % x.slots.toNat : Nat) : Int), s.members⟩
  | 0 => by
    have hm := mode_in hW bl.at_
    have hst := stateOk_in bl.ok
    have h1 := bl.rd
    have h2 := bl.sl
    have h5 : (s.round.toNat + 1) * x.slots.toNat ≤ x.rounds.toNat * x.slots.toNat := Nat.mul_le_mul_right _ (by omega)
    rw [Nat.add_mul] at h5
    have e : p % (x.rounds.toNat * x.slots.toNat) = p := Nat.mod_eq_of_lt (by omega)
    have e1 : p / x.slots.toNat = s.round.toNat := by rw [hp, Nat.mul_comm, Nat.mul_add_div (by omega), Nat.div_eq_of_lt (by omega)]; rfl
    have e2 : p % x.slots.toNat = s.slot.toNat := by rw [hp, Nat.mul_comm, Nat.mul_add_mod, Nat.mod_eq_of_lt (by omega)]
    rw [Nat.add_zero, e, e1, e2, iterN, sumF, Int.add_zero, Int.emod_eq_of_lt (by omega) (by omega), Int.toNat_of_nonneg h1.1, Int.toNat_of_nonneg h2.1]
  | j + 1 => by
    have hm := mode_in hW bl.at_
    have hn : 1 * 1 ≤ x.rounds.toNat * x.slots.toNat := Nat.mul_le_mul (by omega) (by omega)
    have hq : (p + j) % (x.rounds.toNat * x.slots.toNat) < x.rounds.toNat * x.slots.toNat := Nat.mod_lt _ (by omega)
    have h3 := next_pos (R := x.rounds.toNat) (S := x.slots.toNat) (by omega) hq
    have h6 := of_get bl.at_
    have h7 := desc_at hW bl.at_ hq
    have h8 : (p + (j + 1)) % (x.rounds.toNat * x.slots.toNat) = ((p + j) % (x.rounds.toNat * x.slots.toNat) + 1) % (x.rounds.toNat * x.slots.toNat) := by rw [← Nat.add_assoc, Nat.mod_add_mod]
    rw [iterN, iter_at hW bl p hp j, sumF]
    unfold nextS
    simp only [bl.md, h6.1, h6.2.1, h7]
    rw [h8, h3.1, h3.2]
    generalize (p + j) % (x.rounds.toNat * x.slots.toNat) = q at *
    have h9 := Nat.mod_lt q (show 0 < x.slots.toNat by omega)
    unfold advS
    simp only
    by_cases e : q % x.slots.toNat + 1 = x.slots.toNat
    · rw [if_pos (show ((q % x.slots.toNat : Nat) : Int) + 1 = x.slots by omega), if_pos e, if_pos e]
      have h10 : ((((q / x.slots.toNat + 1) % x.rounds.toNat : Nat)) : Int) = (((q / x.slots.toNat : Nat) : Int) + 1) % x.rounds := by
        rw [Int.natCast_emod, Int.natCast_add, Int.toNat_of_nonneg (by omega)]; rfl
      rw [h10, Int.emod_add_emod, Int.add_assoc]; rfl
    · rw [if_neg (show ¬ ((q % x.slots.toNat : Nat) : Int) + 1 = x.slots by omega), if_neg e, if_neg e, Int.emod_add_emod, Int.add_assoc, Int.natCast_add]; rfl
/-- after as many slots as a cycle has -/
theorem iter_cycle (hW : WellF d) {s : StateI} (bl : Bel d s k x) : iterN d (x.rounds.toNat * x.slots.toNat) s = ⟨(s.time + cyc d.ss k) % 65536, s.mode, s.round, s.slot, s.members⟩ := by
  have hm := mode_in hW bl.at_
  have h1 := bl.rd
  have h2 := bl.sl
  have h5 : (s.round.toNat + 1) * x.slots.toNat ≤ x.rounds.toNat * x.slots.toNat := Nat.mul_le_mul_right _ (by omega)
  rw [Nat.add_mul] at h5
  obtain ⟨p, hp⟩ : ∃ p, p = s.round.toNat * x.slots.toNat + s.slot.toNat := ⟨_, rfl⟩
  have hpn : p < x.rounds.toNat * x.slots.toNat := by omega
  have e1 : p / x.slots.toNat = s.round.toNat := by rw [hp, Nat.mul_comm, Nat.mul_add_div (by omega), Nat.div_eq_of_lt (by omega)]; rfl
  have e2 : p % x.slots.toNat = s.slot.toNat := by rw [hp, Nat.mul_comm, Nat.mul_add_mod, Nat.mod_eq_of_lt (by omega)]
  rw [iter_at hW bl p hp, sumF_rot hpn, ← cyc_F hW bl.at_, Nat.add_mod_right, Nat.mod_eq_of_lt hpn, e1, e2, Int.toNat_of_nonneg h1.1, Int.toNat_of_nonneg h2.1]
end
theorem iter_bel {m : MedlI} {s : StateI} (hW : WellF m.d) (hB : belongsB m.d s = true) : ∀ (j : Nat), belongsB m.d (iterN m.d j s) = true
  | 0 => hB
  | j + 1 => by rw [iterN]; exact bel_next hW (iter_bel hW hB j)
end Go.Proofs.YtojgfbbdjobdnaaGreatDoor
