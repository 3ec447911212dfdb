/- Starts of slots, and which slot a time falls into. No condition. -/
import Derived.Test.YtfmihehpdfmgfaaGreatDoorL1
namespace Go.Proofs.YtfmihehpdfmgfaaGreatDoor
open Go.RowKit
set_option linter.unusedVariables false
set_option linter.unusedSimpArgs false
set_option maxRecDepth 20000
theorem l15Start_c (m : MedlI) (B : Nat) (mode a b : Int) (w : World) (hm : Med B w m) (hz : m.small) (hok : ∀ x ∈ m.ss, slotOk x = true) :
    Calls Tryz.prog 80 #[.agg m.cells.toArray, .int .i64 mode, .int .i64 a, .int .i64 b] w (Ret fun v w' => v = .int .i64 (startD m.ss mode a b) ∧ Ext w w') := by
  have hls := hz.ls
  have hlm := hz.lm
  have hln := hz.ln
  have Bhm := hm.1
  have X := Ext.refl w
  refine calls_of (args := [.agg m.cells.toArray, .int .i64 mode, .int .i64 a, .int .i64 b]) Tryz.func80 Tryz.ntmps80 rfl rfl ?_
  refine c_seqR ?_
  refine ops_cons rfl (ow_box rfl rfl ?_)
  intro g4 w3 eg4 b1 x2 zg4
  have lg4 : w.heap.size ≤ g4 := Nat.le_trans X.size (Nat.le_of_eq eg4.symm)
  have pg4hm := Nat.le_trans hm.1 (Nat.le_of_eq eg4.symm)
  replace hm := hm.ext x2
  replace X := Ext.trans X x2; clear x2
  refine ops_cons rfl (ow_assign rfl ?_)
  refine ops_nil ?_
  refine c_seqR ?_
  refine ops_cons rfl (ow_assign rfl ?_)
  refine ops_nil ?_
  refine c_seq ?_
  refine c_seqR ?_
  refine ops_cons rfl (ow_assign rfl ?_)
  refine ops_nil ?_
  refine c_block ?_
  refine c_loop (G := Nat × Int) (fun ⟨k, n⟩ => [(1, .int .i64 mode), (2, .int .i64 a), (3, .int .i64 b), (4, .pointer (some ⟨g4, 0, none⟩)), (8, .int .i64 0), (9, .int .i64 n), (10, .int .i64 (k : Nat))]) (fun ⟨k, n⟩ wr => k ≤ m.ss.length ∧ (0 ≤ n ∧ n ≤ 1000 * k) ∧ startD m.ss mode a b = n + startD (m.ss.drop k) mode a b ∧ Med B wr m ∧ Blk wr g4 33 m.cells ∧ Ext w wr) (fun ⟨k, n⟩ => m.ss.length - k) (0, 0) (.cons rfl (.cons rfl (.cons rfl (.cons rfl (.cons rfl (.cons rfl (.cons rfl (.nil _)))))))) ?_ ?_
  · exact ⟨by omega, by omega, (by simp), hm, b1, X⟩
  clear hm b1
  clear X
  rintro ⟨k, n⟩ wr ⟨hk0, hn, hi, hm, b1, X⟩
  refine c_seq ?_
  refine c_seqR ?_
  refine ops_cons rfl (ow_move rfl ?_)
  refine ops_cons rfl (ow_fieldAddrB off33_3 rfl rfl ?_)
  refine ops_cons rfl (ow_loadB b1 ti31 rfl rfl ?_)
  refine ops_cons rfl (ow_len Tryz.underlying31 rfl ?_)
  refine ops_cons rfl (ow_lss2 rfl rfl (fun hk => ?_) (fun hk => ?_))
  · skip
    obtain ⟨x, hx, dx⟩ := drop_at' hk
    have hxs := slotI (hok x (List.mem_of_getElem? hx))
    refine ops_nil ?_
    refine c_true rfl ?_
    refine c_skip ?_
    refine tq_n ?_
    refine c_seq ?_
    refine c_block ?_
    refine c_seqR ?_
    refine ops_cons rfl (ow_fieldAddrB off33_3 rfl rfl ?_)
    refine ops_cons rfl (ow_loadB b1 ti31 rfl rfl ?_)
    refine ops_cons rfl (ow_move rfl ?_)
    refine ops_cons rfl (ow_indexT hm.ss SlotI.len rfl el31 rfl rfl rfl hx rfl ?_)
    refine ops_cons rfl (ow_loadTA hm.ss SlotI.len hx ti72 rfl ?_)
    refine ops_cons rfl (ow_alloc ti72 ?_)
    intro g8 w7 eg8 b5 x6 zg8
    have lg8 : w.heap.size ≤ g8 := Nat.le_trans X.size (Nat.le_of_eq eg8.symm)
    have pg8hm := Nat.le_trans hm.1 (Nat.le_of_eq eg8.symm)
    have ng8b1 := Nat.lt_of_lt_of_eq b1.lt eg8.symm
    replace hm := hm.ext x6
    replace b1 := b1.ext x6
    replace X := Ext.trans X x6; clear x6
    refine ops_cons rfl (ow_storeB b5 ti72 rfl rfl rfl rfl rfl rfl ?_)
    intro w10 b12 hg9 z11
    replace hm := hm.grown hg9 (by intro g hg; injection hg; omega)
    replace b1 := b1.grown hg9 (by intro h; injection h; omega)
    replace X := X.grown hg9 X.size (by intro g hg; injection hg; omega)
    clear hg9 b5
    refine ops_nil ?_
    refine c_seqR ?_
    refine ops_cons rfl (ow_fieldAddrB off72_0 rfl rfl ?_)
    refine ops_cons rfl (ow_loadB b12 ti2 rfl rfl ?_)
    refine ops_cons rfl (ow_move rfl ?_)
    refine ops_cons rfl (ow_eql2 rfl rfl (fun e1 => ?_) (fun e1 => ?_))
    · skip
      refine ops_cons rfl (ow_move rfl ?_)
      refine ops_want rfl rfl rfl (ow_fieldAddrB off72_1 rfl rfl ?_)
      refine ops_want rfl rfl rfl (ow_loadB b12 ti2 rfl rfl ?_)
      refine ops_want rfl rfl rfl (ow_move rfl ?_)
      refine ops_want rfl rfl rfl (ow_lss2 rfl rfl (fun e2 => ?_) (fun e2 => ?_))
      · skip
        refine ops_want rfl rfl rfl (ow_move rfl ?_)
        refine ops_skip rfl rfl rfl rfl ?_
        refine ops_skip rfl rfl rfl rfl ?_
        refine ops_skip rfl rfl rfl rfl ?_
        refine ops_skip rfl rfl rfl rfl ?_
        refine ops_skip rfl rfl rfl rfl ?_
        refine ops_skip2 rfl rfl rfl ?_
        refine ops_skip2 rfl rfl rfl ?_
        refine ops_skip2 rfl rfl rfl ?_
        refine ops_skip2 rfl rfl rfl ?_
        refine ops_skip rfl rfl rfl rfl ?_
        refine ops_want rfl rfl rfl (ow_pick rfl rfl ?_)
        refine ops_cons rfl (ow_pick rfl rfl ?_)
        refine ops_nil ?_
        refine c_true rfl ?_
        refine c_region ?_
        refine ops_cons rfl (ow_move rfl ?_)
        refine ops_cons rfl (ow_fieldAddrB off72_3 rfl rfl ?_)
        refine ops_cons rfl (ow_fieldAddrB off53_3 rfl rfl ?_)
        refine ops_cons rfl (ow_loadB b12 ti2 rfl rfl ?_)
        refine ops_cons rfl (ow_add rfl rfl (w64 (by omega)) ?_)
        refine ops_cons rfl (ow_assign rfl ?_)
        refine ops_nil ?_
        refine bq_n ?_
        refine tq_n ?_
        refine c_region ?_
        refine ops_cons rfl (ow_move rfl ?_)
        refine ops_cons rfl (ow_add rfl rfl (w64 (by omega)) ?_)
        refine ops_cons rfl (ow_assign rfl ?_)
        refine ops_nil ?_
        refine tq_n ⟨(k + 1, n + x.desc.duration), (.cons rfl (.cons rfl (.cons rfl (.cons rfl (.cons rfl (.cons rfl (.cons rfl (.nil _)))))))), ?_, ?_⟩
        · exact ⟨by omega, by omega, (by rw [hi, dx, startD_cons_t (by simp [beforeB, *])]; omega), hm, b1, X⟩
        · first | omega | (dsimp only; omega)
      · skip
        refine ops_want rfl rfl rfl (ow_move rfl ?_)
        refine ops_want rfl rfl rfl (ow_fieldAddrB off72_1 rfl rfl ?_)
        refine ops_want rfl rfl rfl (ow_loadB b12 ti2 rfl rfl ?_)
        refine ops_want rfl rfl rfl (ow_move rfl ?_)
        refine ops_want rfl rfl rfl (ow_eql2 rfl rfl (fun e3 => ?_) (fun e3 => ?_))
        · skip
          refine ops_want rfl rfl rfl (ow_move rfl ?_)
          refine ops_want rfl rfl rfl (ow_fieldAddrB off72_2 rfl rfl ?_)
          refine ops_want rfl rfl rfl (ow_loadB b12 ti2 rfl rfl ?_)
          refine ops_want rfl rfl rfl (ow_move rfl ?_)
          refine ops_want rfl rfl rfl (ow_lss2 rfl rfl (fun e4 => ?_) (fun e4 => ?_))
          · skip
            refine ops_want rfl rfl rfl (ow_pick rfl rfl ?_)
            refine ops_want rfl rfl rfl (ow_pick rfl rfl ?_)
            refine ops_cons rfl (ow_pick rfl rfl ?_)
            refine ops_nil ?_
            refine c_true rfl ?_
            refine c_region ?_
            refine ops_cons rfl (ow_move rfl ?_)
            refine ops_cons rfl (ow_fieldAddrB off72_3 rfl rfl ?_)
            refine ops_cons rfl (ow_fieldAddrB off53_3 rfl rfl ?_)
            refine ops_cons rfl (ow_loadB b12 ti2 rfl rfl ?_)
            refine ops_cons rfl (ow_add rfl rfl (w64 (by omega)) ?_)
            refine ops_cons rfl (ow_assign rfl ?_)
            refine ops_nil ?_
            refine bq_n ?_
            refine tq_n ?_
            refine c_region ?_
            refine ops_cons rfl (ow_move rfl ?_)
            refine ops_cons rfl (ow_add rfl rfl (w64 (by omega)) ?_)
            refine ops_cons rfl (ow_assign rfl ?_)
            refine ops_nil ?_
            refine tq_n ⟨(k + 1, n + x.desc.duration), (.cons rfl (.cons rfl (.cons rfl (.cons rfl (.cons rfl (.cons rfl (.cons rfl (.nil _)))))))), ?_, ?_⟩
            · exact ⟨by omega, by omega, (by rw [hi, dx, startD_cons_t (by simp [beforeB, *])]; omega), hm, b1, X⟩
            · first | omega | (dsimp only; omega)
          · skip
            refine ops_want rfl rfl rfl (ow_pick rfl rfl ?_)
            refine ops_want rfl rfl rfl (ow_pick rfl rfl ?_)
            refine ops_cons rfl (ow_pick rfl rfl ?_)
            refine ops_nil ?_
            refine c_false rfl ?_
            refine c_skip ?_
            refine bq_n ?_
            refine tq_n ?_
            refine c_region ?_
            refine ops_cons rfl (ow_move rfl ?_)
            refine ops_cons rfl (ow_add rfl rfl (w64 (by omega)) ?_)
            refine ops_cons rfl (ow_assign rfl ?_)
            refine ops_nil ?_
            refine tq_n ⟨(k + 1, n), (.cons rfl (.cons rfl (.cons rfl (.cons rfl (.cons rfl (.cons rfl (.cons rfl (.nil _)))))))), ?_, ?_⟩
            · exact ⟨by omega, by omega, (by rw [hi, dx, startD_cons_f (by simp [beforeB, *])]), hm, b1, X⟩
            · first | omega | (dsimp only; omega)
        · skip
          refine ops_want rfl rfl rfl (ow_move rfl ?_)
          refine ops_skip rfl rfl rfl rfl ?_
          refine ops_skip rfl rfl rfl rfl ?_
          refine ops_skip rfl rfl rfl rfl ?_
          refine ops_skip rfl rfl rfl rfl ?_
          refine ops_want rfl rfl rfl (ow_pick rfl rfl ?_)
          refine ops_want rfl rfl rfl (ow_pick rfl rfl ?_)
          refine ops_cons rfl (ow_pick rfl rfl ?_)
          refine ops_nil ?_
          refine c_false rfl ?_
          refine c_skip ?_
          refine bq_n ?_
          refine tq_n ?_
          refine c_region ?_
          refine ops_cons rfl (ow_move rfl ?_)
          refine ops_cons rfl (ow_add rfl rfl (w64 (by omega)) ?_)
          refine ops_cons rfl (ow_assign rfl ?_)
          refine ops_nil ?_
          refine tq_n ⟨(k + 1, n), (.cons rfl (.cons rfl (.cons rfl (.cons rfl (.cons rfl (.cons rfl (.cons rfl (.nil _)))))))), ?_, ?_⟩
          · exact ⟨by omega, by omega, (by rw [hi, dx, startD_cons_f (by simp [beforeB, *])]), hm, b1, X⟩
          · first | omega | (dsimp only; omega)
    · skip
      refine ops_cons rfl (ow_move rfl ?_)
      refine ops_skip rfl rfl rfl rfl ?_
      refine ops_skip rfl rfl rfl rfl ?_
      refine ops_skip rfl rfl rfl rfl ?_
      refine ops_skip rfl rfl rfl rfl ?_
      refine ops_skip rfl rfl rfl rfl ?_
      refine ops_skip2 rfl rfl rfl ?_
      refine ops_skip2 rfl rfl rfl ?_
      refine ops_skip2 rfl rfl rfl ?_
      refine ops_skip2 rfl rfl rfl ?_
      refine ops_skip2 rfl rfl rfl ?_
      refine ops_skip2 rfl rfl rfl ?_
      refine ops_skip2 rfl rfl rfl ?_
      refine ops_skip2 rfl rfl rfl ?_
      refine ops_skip2 rfl rfl rfl ?_
      refine ops_skip2 rfl rfl rfl ?_
      refine ops_skip rfl rfl rfl rfl ?_
      refine ops_cons rfl (ow_pick rfl rfl ?_)
      refine ops_nil ?_
      refine c_false rfl ?_
      refine c_skip ?_
      refine bq_n ?_
      refine tq_n ?_
      refine c_region ?_
      refine ops_cons rfl (ow_move rfl ?_)
      refine ops_cons rfl (ow_add rfl rfl (w64 (by omega)) ?_)
      refine ops_cons rfl (ow_assign rfl ?_)
      refine ops_nil ?_
      refine tq_n ⟨(k + 1, n), (.cons rfl (.cons rfl (.cons rfl (.cons rfl (.cons rfl (.cons rfl (.cons rfl (.nil _)))))))), ?_, ?_⟩
      · exact ⟨by omega, by omega, (by rw [hi, dx, startD_cons_f (by simp [beforeB, *])]), hm, b1, X⟩
      · first | omega | (dsimp only; omega)
  · skip
    refine ops_nil ?_
    refine c_false rfl ?_
    refine c_exit ?_
    refine tq_e ?_
    refine tq_e ?_
    refine bq_e ?_
    refine tq_n ?_
    refine c_seqR ?_
    refine ops_cons rfl (ow_move rfl ?_)
    refine ops_cons rfl (ow_assign rfl ?_)
    refine ops_nil ?_
    refine c_ret ?_
    refine fin_ret1 rfl rfl ?_
    exact ⟨by rw [hi, drop_end hk]; simp [startD, sumD], X⟩

theorem slotStart_c (m : MedlI) (B : Nat) (s : StateI) (w : World) (hm : Med B w m) (hz : m.small) (hW : WellF m.d) (hB : belongsB m.d s = true) :
    Calls Tryz.prog 86 #[.agg m.cells.toArray, .agg s.cells.toArray] w (Ret fun v w' => v = .int .i64 (startD m.ss s.mode s.round s.slot) ∧ Ext w w') := by
  have hls := hz.ls
  have hlm := hz.lm
  have hln := hz.ln
  obtain ⟨k, x, j, y, bl, hx, hxi, hj, hy, hda, hso, hro, hno, hyd⟩ := bel_get hW hB
  have hst := stateOk_in bl.ok
  have hok : ∀ x ∈ m.ss, slotOk x = true := isST_all hW.st
  have brd := bl.rd
  have bsl := bl.sl
  obtain ⟨hsb, hsl, hsn⟩ := start_bel hW bl hxi.2
  have hs16 : s.round.toNat * x.m.slots.toNat + s.slot.toNat ≤ 1048576 := Nat.le_trans hsl (Nat.le_trans (ofMode_len _ _) hls)
  generalize s.round.toNat * x.m.slots.toNat + s.slot.toNat = n0 at hsb hsl hsn hs16
  have hmu : 0 ≤ s.round * x.m.slots := Int.mul_nonneg brd.1 (by omega)
  have Bhm := hm.1
  have X := Ext.refl w
  refine calls_of (args := [.agg m.cells.toArray, .agg s.cells.toArray]) Tryz.func86 Tryz.ntmps86 rfl rfl ?_
  refine c_seqR ?_
  refine ops_cons rfl (ow_box rfl rfl ?_)
  intro g4 w3 eg4 b1 x2 zg4
  have lg4 : w.heap.size ≤ g4 := Nat.le_trans X.size (Nat.le_of_eq eg4.symm)
  have pg4hm := Nat.le_trans hm.1 (Nat.le_of_eq eg4.symm)
  replace hm := hm.ext x2
  replace X := Ext.trans X x2; clear x2
  refine ops_cons rfl (ow_box rfl rfl ?_)
  intro g8 w7 eg8 b5 x6 zg8
  have lg8 : w.heap.size ≤ g8 := Nat.le_trans X.size (Nat.le_of_eq eg8.symm)
  have pg8hm := Nat.le_trans hm.1 (Nat.le_of_eq eg8.symm)
  have ng8b1 := Nat.lt_of_lt_of_eq b1.lt eg8.symm
  replace hm := hm.ext x6
  replace b1 := b1.ext x6
  replace X := Ext.trans X x6; clear x6
  refine ops_cons rfl (ow_assign rfl ?_)
  refine ops_nil ?_
  refine c_seqD [false, false, false, false, false, false, false, false, false, false, false, false, false, false] mixed (by kernel_rfl) ?_
  refine f_q rfl (fun wq sq => ow_fieldAddrB off44_2 rfl rfl ⟨rfl, Ext.refl _⟩) ?_
  refine f_q rfl (fun wq sq => ow_loadB (b5.ext sq) ti2 rfl rfl ⟨rfl, Ext.refl _⟩) ?_
  refine f_q rfl (fun wq sq => ow_fieldAddrB off33_2 rfl rfl ⟨rfl, Ext.refl _⟩) ?_
  refine f_q rfl (fun wq sq => ow_loadB (b1.ext sq) ti30 rfl rfl ⟨rfl, Ext.refl _⟩) ?_
  refine f_q rfl (fun wq sq => ow_fieldAddrB off44_1 rfl rfl ⟨rfl, Ext.refl _⟩) ?_
  refine f_q rfl (fun wq sq => ow_loadB (b5.ext sq) ti2 rfl rfl ⟨rfl, Ext.refl _⟩) ?_
  refine f_q rfl (fun wq sq => ow_indexT ((hm.ext sq)).sm ModeI.len rfl el30 rfl rfl rfl hx bl.md ⟨rfl, Ext.refl _⟩) ?_
  refine f_q rfl (fun wq sq => ow_fieldAddr off87_1 rfl ⟨rfl, Ext.refl _⟩) ?_
  refine f_q rfl (fun wq sq => ow_loadTF ((hm.ext sq)).sm ModeI.len hx ti2 rfl rfl rfl ⟨rfl, Ext.refl _⟩) ?_
  refine f_q rfl (fun wq sq => ow_mul rfl rfl (w64 (by omega)) ⟨rfl, Ext.refl _⟩) ?_
  refine f_q rfl (fun wq sq => ow_fieldAddrB off44_3 rfl rfl ⟨rfl, Ext.refl _⟩) ?_
  refine f_q rfl (fun wq sq => ow_loadB (b5.ext sq) ti2 rfl rfl ⟨rfl, Ext.refl _⟩) ?_
  refine f_q rfl (fun wq sq => ow_add rfl rfl (w64 (by omega)) ⟨rfl, Ext.refl _⟩) ?_
  refine f_q rfl (fun wq sq => ow_assign rfl ⟨rfl, Ext.refl _⟩) ?_
  refine f_nil (fun w9 sq => ?_)
  have xq := sq
  replace hm := hm.ext xq
  replace b1 := b1.ext xq
  replace b5 := b5.ext xq
  replace X := Ext.trans X xq; clear xq sq
  refine ops_nil ?_
  refine c_seqR ?_
  refine ops_cons rfl (ow_loadAB b1 ti33 rfl rfl ?_)
  refine ops_cons rfl (ow_fieldAddrB off44_1 rfl rfl ?_)
  refine ops_cons rfl (ow_loadB b5 ti2 rfl rfl ?_)
  refine ops_cons rfl (ow_call ent81 rfl (ret_mono (modeSlots_c m B s.mode _ hm hz) ?_))
  rintro _ w11 ⟨AL, cL, rfl, oL, x10⟩
  replace oL := Own.low oL X.size
  replace hm := hm.ext x10
  replace b1 := b1.ext x10
  replace b5 := b5.ext x10
  replace X := Ext.trans X x10; clear x10
  refine ops_cons rfl (ow_move rfl ?_)
  refine ops_cons rfl (ow_sliceH el31 (oL).sl SlotI.len rfl rfl hsn (Nat.le_trans hsl (Own.cap oL)) ?_)
  intro Ap pL
  refine ops_cons rfl (ow_call ent112 rfl (ret_mono (by have := sumD_c Ap _ cL ((ofMode s.mode m.ss).take n0) _ pL (by simp; omega) (fun z hz2 => by have h1 := ofMode_sub _ _ z (List.mem_of_mem_take hz2); have h2 := slotI (hok z h1.1); omega); rw [show ((ofMode s.mode m.ss).take n0).length = n0 by simp; omega] at this; exact this) ?_))
  rintro _ w13 ⟨rfl, x12⟩
  replace hm := hm.ext x12
  replace b1 := b1.ext x12
  replace b5 := b5.ext x12
  replace oL := oL.ext x12
  replace pL := pL.ext x12
  replace X := Ext.trans X x12; clear x12
  refine ops_cons rfl (ow_assign rfl ?_)
  refine ops_nil ?_
  refine c_ret ?_
  refine fin_ret1 rfl rfl ?_
  exact ⟨by rw [hsb], X⟩

theorem specStart_c (m : MedlI) (B : Nat) (s : StateI) (w : World) (hm : Med B w m) (hz : m.small) :
    Calls Tryz.prog 35 #[.agg m.cells.toArray, .agg s.cells.toArray] w (Ret fun v w' => v = .tuple #[.int .i64 (startF m.d s).1, .int .i64 (startF m.d s).2] ∧ Ext w w') := by
  have hls := hz.ls
  have hlm := hz.lm
  have hln := hz.ln
  have Bhm := hm.1
  have X := Ext.refl w
  refine calls_of (args := [.agg m.cells.toArray, .agg s.cells.toArray]) Tryz.func35 Tryz.ntmps35 rfl rfl ?_
  refine c_seqR ?_
  refine ops_cons rfl (ow_box rfl rfl ?_)
  intro g4 w3 eg4 b1 x2 zg4
  have lg4 : w.heap.size ≤ g4 := Nat.le_trans X.size (Nat.le_of_eq eg4.symm)
  have pg4hm := Nat.le_trans hm.1 (Nat.le_of_eq eg4.symm)
  replace hm := hm.ext x2
  replace X := Ext.trans X x2; clear x2
  refine ops_cons rfl (ow_box rfl rfl ?_)
  intro g8 w7 eg8 b5 x6 zg8
  have lg8 : w.heap.size ≤ g8 := Nat.le_trans X.size (Nat.le_of_eq eg8.symm)
  have pg8hm := Nat.le_trans hm.1 (Nat.le_of_eq eg8.symm)
  have ng8b1 := Nat.lt_of_lt_of_eq b1.lt eg8.symm
  replace hm := hm.ext x6
  replace b1 := b1.ext x6
  replace X := Ext.trans X x6; clear x6
  refine ops_cons rfl (ow_assign rfl ?_)
  refine ops_cons rfl (ow_assign rfl ?_)
  refine ops_nil ?_
  refine c_seqR ?_
  refine ops_cons rfl (ow_loadAB b1 ti33 rfl rfl ?_)
  refine ops_cons rfl (ow_loadAB b5 ti44 rfl rfl ?_)
  refine ops_cons rfl (ow_call ent82 rfl (ret_mono (l15Code_c m _ s _ hm hz) ?_))
  rintro _ w10 ⟨rfl, x9⟩
  replace hm := hm.ext x9
  replace b1 := b1.ext x9
  replace b5 := b5.ext x9
  replace X := Ext.trans X x9; clear x9
  refine ops_cons rfl (ow_assign rfl ?_)
  refine ops_nil ?_
  refine c_seq ?_
  refine c_seqR ?_
  refine ops_cons rfl (ow_move rfl ?_)
  refine ops_cons rfl (ow_neq2 rfl rfl (fun hC => ?_) (fun hC => ?_))
  · skip
    refine ops_nil ?_
    refine c_true rfl ?_
    refine c_seqR ?_
    refine ops_cons rfl (ow_move rfl ?_)
    refine ops_cons rfl (ow_assign rfl ?_)
    refine ops_cons rfl (ow_assign rfl ?_)
    refine ops_nil ?_
    refine c_ret ?_
    refine tq_r ?_
    refine fin_ret2 rfl rfl rfl ?_
    first
    | (have e : startF m.d s = (0, lookC m.d s) := by rw [startF, if_neg hC]
       rw [e]; exact ⟨rfl, X⟩)
    | (have e : startF m.d s = (startD m.ss s.mode s.round s.slot, 0) := by rw [startF, if_pos hC0]; rfl
       rw [e]; exact ⟨rfl, X⟩)
  · skip
    have hC0 : lookC m.d s = 0 := by omega
    have hm0 := lookC_zero.1 hC0
    have wf := isMedl_iff.1 hm0.1
    have hB := hm0.2
    have hok : ∀ x ∈ m.ss, slotOk x = true := isST_all wf.st
    refine ops_nil ?_
    refine c_false rfl ?_
    refine c_skip ?_
    refine tq_n ?_
    refine c_seqR ?_
    refine ops_cons rfl (ow_loadAB b1 ti33 rfl rfl ?_)
    refine ops_cons rfl (ow_fieldAddrB off44_1 rfl rfl ?_)
    refine ops_cons rfl (ow_loadB b5 ti2 rfl rfl ?_)
    refine ops_cons rfl (ow_fieldAddrB off44_2 rfl rfl ?_)
    refine ops_cons rfl (ow_loadB b5 ti2 rfl rfl ?_)
    refine ops_cons rfl (ow_fieldAddrB off44_3 rfl rfl ?_)
    refine ops_cons rfl (ow_loadB b5 ti2 rfl rfl ?_)
    refine ops_cons rfl (ow_call ent80 rfl (ret_mono (l15Start_c m _ s.mode s.round s.slot _ hm hz hok) ?_))
    rintro _ w12 ⟨rfl, x11⟩
    replace hm := hm.ext x11
    replace b1 := b1.ext x11
    replace b5 := b5.ext x11
    replace X := Ext.trans X x11; clear x11
    refine ops_cons rfl (ow_assign rfl ?_)
    refine ops_cons rfl (ow_assign rfl ?_)
    refine ops_nil ?_
    refine c_ret ?_
    refine fin_ret2 rfl rfl rfl ?_
    first
    | (have e : startF m.d s = (0, lookC m.d s) := by rw [startF, if_neg hC]
       rw [e]; exact ⟨rfl, X⟩)
    | (have e : startF m.d s = (startD m.ss s.mode s.round s.slot, 0) := by rw [startF, if_pos hC0]; rfl
       rw [e]; exact ⟨rfl, X⟩)

theorem implStart_c (m : MedlI) (B : Nat) (s : StateI) (w : World) (hm : Med B w m) (hz : m.small) :
    Calls Tryz.prog 36 #[.agg m.cells.toArray, .agg s.cells.toArray] w (Ret fun v w' => v = .tuple #[.int .i64 (startF m.d s).1, .int .i64 (startF m.d s).2] ∧ Ext w w') := by
  have hls := hz.ls
  have hlm := hz.lm
  have hln := hz.ln
  have Bhm := hm.1
  have X := Ext.refl w
  refine calls_of (args := [.agg m.cells.toArray, .agg s.cells.toArray]) Tryz.func36 Tryz.ntmps36 rfl rfl ?_
  refine c_seqR ?_
  refine ops_cons rfl (ow_box rfl rfl ?_)
  intro g4 w3 eg4 b1 x2 zg4
  have lg4 : w.heap.size ≤ g4 := Nat.le_trans X.size (Nat.le_of_eq eg4.symm)
  have pg4hm := Nat.le_trans hm.1 (Nat.le_of_eq eg4.symm)
  replace hm := hm.ext x2
  replace X := Ext.trans X x2; clear x2
  refine ops_cons rfl (ow_box rfl rfl ?_)
  intro g8 w7 eg8 b5 x6 zg8
  have lg8 : w.heap.size ≤ g8 := Nat.le_trans X.size (Nat.le_of_eq eg8.symm)
  have pg8hm := Nat.le_trans hm.1 (Nat.le_of_eq eg8.symm)
  have ng8b1 := Nat.lt_of_lt_of_eq b1.lt eg8.symm
  replace hm := hm.ext x6
  replace b1 := b1.ext x6
  replace X := Ext.trans X x6; clear x6
  refine ops_cons rfl (ow_assign rfl ?_)
  refine ops_cons rfl (ow_assign rfl ?_)
  refine ops_nil ?_
  refine c_seq ?_
  refine c_seqR ?_
  refine ops_cons rfl (ow_loadAB b1 ti33 rfl rfl ?_)
  refine ops_cons rfl (ow_loadAB b5 ti44 rfl rfl ?_)
  refine ops_cons rfl (ow_call ent84 rfl (ret_mono (lookCode_c m _ s _ hm hz) ?_))
  rintro _ w10 ⟨rfl, x9⟩
  replace hm := hm.ext x9
  replace b1 := b1.ext x9
  replace b5 := b5.ext x9
  replace X := Ext.trans X x9; clear x9
  refine ops_cons rfl (ow_assign rfl ?_)
  refine ops_nil ?_
  refine c_seqR ?_
  refine ops_cons rfl (ow_move rfl ?_)
  refine ops_cons rfl (ow_neq2 rfl rfl (fun hC => ?_) (fun hC => ?_))
  · skip
    refine ops_nil ?_
    refine c_true rfl ?_
    refine c_seqR ?_
    refine ops_cons rfl (ow_move rfl ?_)
    refine ops_cons rfl (ow_assign rfl ?_)
    refine ops_cons rfl (ow_assign rfl ?_)
    refine ops_nil ?_
    refine c_ret ?_
    refine tq_r ?_
    refine fin_ret2 rfl rfl rfl ?_
    first
    | (have e : startF m.d s = (0, lookC m.d s) := by rw [startF, if_neg hC]
       rw [e]; exact ⟨rfl, X⟩)
    | (have e : startF m.d s = (startD m.ss s.mode s.round s.slot, 0) := by rw [startF, if_pos hC0]; rfl
       rw [e]; exact ⟨rfl, X⟩)
  · skip
    have hC0 : lookC m.d s = 0 := by omega
    have hm0 := lookC_zero.1 hC0
    have wf := isMedl_iff.1 hm0.1
    have hB := hm0.2
    have hok : ∀ x ∈ m.ss, slotOk x = true := isST_all wf.st
    refine ops_nil ?_
    refine c_false rfl ?_
    refine c_skip ?_
    refine tq_n ?_
    refine c_seqR ?_
    refine ops_cons rfl (ow_loadAB b1 ti33 rfl rfl ?_)
    refine ops_cons rfl (ow_loadAB b5 ti44 rfl rfl ?_)
    refine ops_cons rfl (ow_call ent86 rfl (ret_mono (slotStart_c m _ s _ hm hz wf hB) ?_))
    rintro _ w12 ⟨rfl, x11⟩
    replace hm := hm.ext x11
    replace b1 := b1.ext x11
    replace b5 := b5.ext x11
    replace X := Ext.trans X x11; clear x11
    refine ops_cons rfl (ow_assign rfl ?_)
    refine ops_cons rfl (ow_assign rfl ?_)
    refine ops_nil ?_
    refine c_ret ?_
    refine fin_ret2 rfl rfl rfl ?_
    first
    | (have e : startF m.d s = (0, lookC m.d s) := by rw [startF, if_neg hC]
       rw [e]; exact ⟨rfl, X⟩)
    | (have e : startF m.d s = (startD m.ss s.mode s.round s.slot, 0) := by rw [startF, if_pos hC0]; rfl
       rw [e]; exact ⟨rfl, X⟩)

theorem sSlotAt_c (m : MedlI) (B : Nat) (mode time : Int) (w : World) (hm : Med B w m) (hz : m.small) :
    Calls Tryz.prog 30 #[.agg m.cells.toArray, .int .i64 mode, .int .i64 time] w (Ret fun v w' => v = .tuple #[.int .i64 (slotAtF m.d mode time).1, .int .i64 (slotAtF m.d mode time).2.1, .int .i64 (slotAtF m.d mode time).2.2] ∧ Ext w w') := by
  have hls := hz.ls
  have hlm := hz.lm
  have hln := hz.ln
  have Bhm := hm.1
  have X := Ext.refl w
  refine calls_of (args := [.agg m.cells.toArray, .int .i64 mode, .int .i64 time]) Tryz.func30 Tryz.ntmps30 rfl rfl ?_
  refine c_seqR ?_
  refine ops_cons rfl (ow_box rfl rfl ?_)
  intro g4 w3 eg4 b1 x2 zg4
  have lg4 : w.heap.size ≤ g4 := Nat.le_trans X.size (Nat.le_of_eq eg4.symm)
  have pg4hm := Nat.le_trans hm.1 (Nat.le_of_eq eg4.symm)
  replace hm := hm.ext x2
  replace X := Ext.trans X x2; clear x2
  refine ops_cons rfl (ow_assign rfl ?_)
  refine ops_cons rfl (ow_assign rfl ?_)
  refine ops_cons rfl (ow_assign rfl ?_)
  refine ops_nil ?_
  refine c_seqR ?_
  refine ops_cons rfl (ow_loadAB b1 ti33 rfl rfl ?_)
  refine ops_cons rfl (ow_move rfl ?_)
  refine ops_cons rfl (ow_call ent77 rfl (ret_mono (l13Mode_c m _ mode _ hm hz) ?_))
  rintro _ w6 ⟨rfl, x5⟩
  replace hm := hm.ext x5
  replace b1 := b1.ext x5
  replace X := Ext.trans X x5; clear x5
  refine ops_cons rfl (ow_assign rfl ?_)
  refine ops_nil ?_
  refine c_seq ?_
  refine c_seqR ?_
  refine ops_cons rfl (ow_move rfl ?_)
  refine ops_cons rfl (ow_neq2 rfl rfl (fun hC => ?_) (fun hC => ?_))
  · skip
    refine ops_nil ?_
    refine c_true rfl ?_
    refine c_seqR ?_
    refine ops_cons rfl (ow_move rfl ?_)
    refine ops_cons rfl (ow_assign rfl ?_)
    refine ops_cons rfl (ow_assign rfl ?_)
    refine ops_cons rfl (ow_assign rfl ?_)
    refine ops_nil ?_
    refine c_ret ?_
    refine tq_r ?_
    refine fin_ret3 rfl rfl rfl rfl ?_
    first
    | (have e : slotAtF m.d mode time = (0, 0, modeC m.d mode) := by rw [slotAtF, if_neg hC]
       rw [e]; exact ⟨rfl, X⟩)
    | (have e : slotAtF m.d mode time = (0, 0, 4) := by rw [slotAtF, if_pos hC0, if_pos ht]
       rw [e]; exact ⟨rfl, X⟩)
    | (have ha : atF time 0 (ofMode mode m.ss) = none := by rw [← hat, hi, drop_end hk]; rfl
       have e : slotAtF m.d mode time = (0, 0, 4) := by
         rw [slotAtF, if_pos hC0, if_neg ht]
         show (match atF time 0 (ofMode mode m.ss) with | some x => (x.round, x.slot, (0 : Int)) | none => (0, 0, 4)) = _
         rw [ha]
       rw [e]; exact ⟨rfl, X⟩)
    | (have ha : atF time 0 (ofMode mode m.ss) = some x := by rw [← hat, hi, dx, find_t (show atP m.ss mode time x = true by unfold atP; rw [decide_eq_true e1, decide_eq_true e2]; rfl)]
       have e : slotAtF m.d mode time = (x.round, x.slot, 0) := by
         rw [slotAtF, if_pos hC0, if_neg ht]
         show (match atF time 0 (ofMode mode m.ss) with | some x => (x.round, x.slot, (0 : Int)) | none => (0, 0, 4)) = _
         rw [ha]
       rw [e]; exact ⟨rfl, X⟩)
  · skip
    have hC0 : modeC m.d mode = 0 := by omega
    have hm0 := modeC_zero.1 hC0
    have wf := isMedl_iff.1 hm0.1
    have hok : ∀ x ∈ m.ss, slotOk x = true := isST_all wf.st
    obtain ⟨k0, x0, hkm, hx0⟩ := mode_get hm0.2
    have hxi := isMT_in wf.mt x0 (List.mem_of_getElem? hx0)
    have hat : m.ss.find? (atP m.ss mode time) = atF time 0 (ofMode mode m.ss) := by rw [hkm]; exact atS_eq wf.co hx0 hxi.2.1 time
    clear hkm
    refine ops_nil ?_
    refine c_false rfl ?_
    refine c_skip ?_
    refine tq_n ?_
    refine c_seq ?_
    refine c_seqR ?_
    refine ops_cons rfl (ow_move rfl ?_)
    refine ops_cons rfl (ow_lss2 rfl rfl (fun ht => ?_) (fun ht => ?_))
    · skip
      refine ops_nil ?_
      refine c_true rfl ?_
      refine c_seqR ?_
      refine ops_cons rfl (ow_assign rfl ?_)
      refine ops_cons rfl (ow_assign rfl ?_)
      refine ops_cons rfl (ow_assign rfl ?_)
      refine ops_nil ?_
      refine c_ret ?_
      refine tq_r ?_
      refine fin_ret3 rfl rfl rfl rfl ?_
      first
      | (have e : slotAtF m.d mode time = (0, 0, modeC m.d mode) := by rw [slotAtF, if_neg hC]
         rw [e]; exact ⟨rfl, X⟩)
      | (have e : slotAtF m.d mode time = (0, 0, 4) := by rw [slotAtF, if_pos hC0, if_pos ht]
         rw [e]; exact ⟨rfl, X⟩)
      | (have ha : atF time 0 (ofMode mode m.ss) = none := by rw [← hat, hi, drop_end hk]; rfl
         have e : slotAtF m.d mode time = (0, 0, 4) := by
           rw [slotAtF, if_pos hC0, if_neg ht]
           show (match atF time 0 (ofMode mode m.ss) with | some x => (x.round, x.slot, (0 : Int)) | none => (0, 0, 4)) = _
           rw [ha]
         rw [e]; exact ⟨rfl, X⟩)
      | (have ha : atF time 0 (ofMode mode m.ss) = some x := by rw [← hat, hi, dx, find_t (show atP m.ss mode time x = true by unfold atP; rw [decide_eq_true e1, decide_eq_true e2]; rfl)]
         have e : slotAtF m.d mode time = (x.round, x.slot, 0) := by
           rw [slotAtF, if_pos hC0, if_neg ht]
           show (match atF time 0 (ofMode mode m.ss) with | some x => (x.round, x.slot, (0 : Int)) | none => (0, 0, 4)) = _
           rw [ha]
         rw [e]; exact ⟨rfl, X⟩)
    · skip
      refine ops_nil ?_
      refine c_false rfl ?_
      refine c_skip ?_
      refine tq_n ?_
      refine c_seq ?_
      refine c_seqR ?_
      refine ops_cons rfl (ow_assign rfl ?_)
      refine ops_nil ?_
      refine c_block ?_
      refine c_loop (G := Nat) (fun k => [(1, .int .i64 mode), (2, .int .i64 time), (3, .pointer (some ⟨g4, 0, none⟩)), (10, .int .i64 (k : Nat))]) (fun k wr => k ≤ m.ss.length ∧ m.ss.find? (atP m.ss mode time) = (m.ss.drop k).find? (atP m.ss mode time) ∧ Med B wr m ∧ Blk wr g4 33 m.cells ∧ Ext w wr) (fun k => m.ss.length - k) 0 (.cons rfl (.cons rfl (.cons rfl (.cons rfl (.nil _))))) ?_ ?_
      · exact ⟨by omega, rfl, hm, b1, X⟩
      clear hm b1
      clear X
      rintro k wr ⟨hk0, hi, hm, b1, X⟩
      refine c_seq ?_
      refine c_seqR ?_
      refine ops_cons rfl (ow_move rfl ?_)
      refine ops_cons rfl (ow_fieldAddrB off33_3 rfl rfl ?_)
      refine ops_cons rfl (ow_loadB b1 ti31 rfl rfl ?_)
      refine ops_cons rfl (ow_len Tryz.underlying31 rfl ?_)
      refine ops_cons rfl (ow_lss2 rfl rfl (fun hk => ?_) (fun hk => ?_))
      · skip
        obtain ⟨x, hx, dx⟩ := drop_at' hk
        have hxs := slotI (hok x (List.mem_of_getElem? hx))
        have hst := startD_in hok mode x.round x.slot
        refine ops_nil ?_
        refine c_true rfl ?_
        refine c_skip ?_
        refine tq_n ?_
        refine c_seq ?_
        refine c_block ?_
        refine c_seqR ?_
        refine ops_cons rfl (ow_fieldAddrB off33_3 rfl rfl ?_)
        refine ops_cons rfl (ow_loadB b1 ti31 rfl rfl ?_)
        refine ops_cons rfl (ow_move rfl ?_)
        refine ops_cons rfl (ow_indexT hm.ss SlotI.len rfl el31 rfl rfl rfl hx rfl ?_)
        refine ops_cons rfl (ow_loadTA hm.ss SlotI.len hx ti72 rfl ?_)
        refine ops_cons rfl (ow_alloc ti72 ?_)
        intro gX w8 egX bX x7 zgX
        have lgX : w.heap.size ≤ gX := Nat.le_trans X.size (Nat.le_of_eq egX.symm)
        have pgXhm := Nat.le_trans hm.1 (Nat.le_of_eq egX.symm)
        have ngXb1 := Nat.lt_of_lt_of_eq b1.lt egX.symm
        replace hm := hm.ext x7
        replace b1 := b1.ext x7
        replace X := Ext.trans X x7; clear x7
        refine ops_cons rfl (ow_storeB bX ti72 rfl rfl rfl rfl rfl rfl ?_)
        intro w10 bY hg9 z11
        replace hm := hm.grown hg9 (by intro g hg; injection hg; omega)
        replace b1 := b1.grown hg9 (by intro h; injection h; omega)
        replace X := X.grown hg9 X.size (by intro g hg; injection hg; omega)
        clear hg9 bX
        refine ops_nil ?_
        refine c_seqD [false, false, false, false, false, false, false, false, false, false, false, false, false, false, false, false, false, false, false] mixed (by kernel_rfl) ?_
        refine f_q rfl (fun wq sq => ow_fieldAddrB off72_0 rfl rfl ⟨rfl, Ext.refl _⟩) ?_
        refine f_q rfl (fun wq sq => ow_loadB (bY.ext sq) ti2 rfl rfl ⟨rfl, Ext.refl _⟩) ?_
        refine f_q rfl (fun wq sq => ow_move rfl ⟨rfl, Ext.refl _⟩) ?_
        refine f_qb rfl (fun wq sq => ow_eql rfl rfl ⟨rfl, Ext.refl _⟩) (fun e1 => ?_) (fun e1 => ?_)
        · skip
          refine f_q rfl (fun wq sq => ow_move rfl ⟨rfl, Ext.refl _⟩) ?_
          refine f_qw rfl rfl rfl (fun wq sq => ow_move rfl ⟨rfl, Ext.refl _⟩) ?_
          refine f_qw rfl rfl rfl (fun wq sq => ow_loadAB (b1.ext sq) ti33 rfl rfl ⟨rfl, Ext.refl _⟩) ?_
          refine f_qw rfl rfl rfl (fun wq sq => ow_move rfl ⟨rfl, Ext.refl _⟩) ?_
          refine f_qw rfl rfl rfl (fun wq sq => ow_fieldAddrB off72_1 rfl rfl ⟨rfl, Ext.refl _⟩) ?_
          refine f_qw rfl rfl rfl (fun wq sq => ow_loadB (bY.ext sq) ti2 rfl rfl ⟨rfl, Ext.refl _⟩) ?_
          refine f_qw rfl rfl rfl (fun wq sq => ow_fieldAddrB off72_2 rfl rfl ⟨rfl, Ext.refl _⟩) ?_
          refine f_qw rfl rfl rfl (fun wq sq => ow_loadB (bY.ext sq) ti2 rfl rfl ⟨rfl, Ext.refl _⟩) ?_
          refine f_qw rfl rfl rfl (fun wq sq => ow_call ent80 rfl (l15Start_c m _ mode x.round x.slot _ (hm.ext sq) hz hok)) ?_
          refine f_qw rfl rfl rfl (fun wq sq => ow_fieldAddrB off72_3 rfl rfl ⟨rfl, Ext.refl _⟩) ?_
          refine f_qw rfl rfl rfl (fun wq sq => ow_fieldAddrB off53_3 rfl rfl ⟨rfl, Ext.refl _⟩) ?_
          refine f_qw rfl rfl rfl (fun wq sq => ow_loadB (bY.ext sq) ti2 rfl rfl ⟨rfl, Ext.refl _⟩) ?_
          refine f_qw rfl rfl rfl (fun wq sq => ow_add rfl rfl (w64 (by omega)) ⟨rfl, Ext.refl _⟩) ?_
          refine f_qwb rfl rfl rfl (fun wq sq => ow_lss rfl rfl ⟨rfl, Ext.refl _⟩) (fun e2 => ?_) (fun e2 => ?_)
          · skip
            refine f_q rfl (fun wq sq => ow_pick rfl rfl ⟨rfl, Ext.refl _⟩) ?_
            refine f_nil (fun w12 sq => ?_)
            have xq := sq
            replace hm := hm.ext xq
            replace b1 := b1.ext xq
            replace bY := bY.ext xq
            replace X := Ext.trans X xq; clear xq sq
            refine ops_nil ?_
            refine c_true rfl ?_
            refine c_seqD [false, false, false, false, false, false, false] mixed (by kernel_rfl) ?_
            refine f_q rfl (fun wq sq => ow_fieldAddrB off72_1 rfl rfl ⟨rfl, Ext.refl _⟩) ?_
            refine f_q rfl (fun wq sq => ow_loadB (bY.ext sq) ti2 rfl rfl ⟨rfl, Ext.refl _⟩) ?_
            refine f_q rfl (fun wq sq => ow_fieldAddrB off72_2 rfl rfl ⟨rfl, Ext.refl _⟩) ?_
            refine f_q rfl (fun wq sq => ow_loadB (bY.ext sq) ti2 rfl rfl ⟨rfl, Ext.refl _⟩) ?_
            refine f_q rfl (fun wq sq => ow_assign rfl ⟨rfl, Ext.refl _⟩) ?_
            refine f_q rfl (fun wq sq => ow_assign rfl ⟨rfl, Ext.refl _⟩) ?_
            refine f_q rfl (fun wq sq => ow_assign rfl ⟨rfl, Ext.refl _⟩) ?_
            refine f_nil (fun w13 sq => ?_)
            have xq := sq
            replace hm := hm.ext xq
            replace b1 := b1.ext xq
            replace bY := bY.ext xq
            replace X := Ext.trans X xq; clear xq sq
            refine ops_nil ?_
            refine c_ret ?_
            refine bq_r ?_
            refine tq_r ?_
            refine tq_r ?_
            refine bq_r ?_
            refine tq_r ?_
            refine fin_ret3 rfl rfl rfl rfl ?_
            first
            | (have e : slotAtF m.d mode time = (0, 0, modeC m.d mode) := by rw [slotAtF, if_neg hC]
               rw [e]; exact ⟨rfl, X⟩)
            | (have e : slotAtF m.d mode time = (0, 0, 4) := by rw [slotAtF, if_pos hC0, if_pos ht]
               rw [e]; exact ⟨rfl, X⟩)
            | (have ha : atF time 0 (ofMode mode m.ss) = none := by rw [← hat, hi, drop_end hk]; rfl
               have e : slotAtF m.d mode time = (0, 0, 4) := by
                 rw [slotAtF, if_pos hC0, if_neg ht]
                 show (match atF time 0 (ofMode mode m.ss) with | some x => (x.round, x.slot, (0 : Int)) | none => (0, 0, 4)) = _
                 rw [ha]
               rw [e]; exact ⟨rfl, X⟩)
            | (have ha : atF time 0 (ofMode mode m.ss) = some x := by rw [← hat, hi, dx, find_t (show atP m.ss mode time x = true by unfold atP; rw [decide_eq_true e1, decide_eq_true e2]; rfl)]
               have e : slotAtF m.d mode time = (x.round, x.slot, 0) := by
                 rw [slotAtF, if_pos hC0, if_neg ht]
                 show (match atF time 0 (ofMode mode m.ss) with | some x => (x.round, x.slot, (0 : Int)) | none => (0, 0, 4)) = _
                 rw [ha]
               rw [e]; exact ⟨rfl, X⟩)
          · skip
            refine f_q rfl (fun wq sq => ow_pick rfl rfl ⟨rfl, Ext.refl _⟩) ?_
            refine f_nil (fun w14 sq => ?_)
            have xq := sq
            replace hm := hm.ext xq
            replace b1 := b1.ext xq
            replace bY := bY.ext xq
            replace X := Ext.trans X xq; clear xq sq
            refine ops_nil ?_
            refine c_false rfl ?_
            refine c_skip ?_
            refine bq_n ?_
            refine tq_n ?_
            refine c_region ?_
            refine ops_cons rfl (ow_move rfl ?_)
            refine ops_cons rfl (ow_add rfl rfl (w64 (by omega)) ?_)
            refine ops_cons rfl (ow_assign rfl ?_)
            refine ops_nil ?_
            refine tq_n ⟨k + 1, (.cons rfl (.cons rfl (.cons rfl (.cons rfl (.nil _))))), ?_, ?_⟩
            · exact ⟨by omega, (by rw [hi, dx, find_f (show atP m.ss mode time x = false by unfold atP; first | (rw [decide_eq_false e1]; rfl) | (rw [decide_eq_false e2, Bool.and_false]))]), hm, b1, X⟩
            · first | omega | (dsimp only; omega)
        · skip
          refine f_q rfl (fun wq sq => ow_move rfl ⟨rfl, Ext.refl _⟩) ?_
          refine f_qs rfl rfl rfl rfl ?_
          refine f_qs rfl rfl rfl rfl ?_
          refine f_qs rfl rfl rfl rfl ?_
          refine f_qs rfl rfl rfl rfl ?_
          refine f_qs rfl rfl rfl rfl ?_
          refine f_qs rfl rfl rfl rfl ?_
          refine f_qs rfl rfl rfl rfl ?_
          refine f_qs rfl rfl rfl rfl ?_
          refine f_qs rfl rfl rfl rfl ?_
          refine f_qs rfl rfl rfl rfl ?_
          refine f_qs rfl rfl rfl rfl ?_
          refine f_qs rfl rfl rfl rfl ?_
          refine f_qs rfl rfl rfl rfl ?_
          refine f_q rfl (fun wq sq => ow_pick rfl rfl ⟨rfl, Ext.refl _⟩) ?_
          refine f_nil (fun w15 sq => ?_)
          have xq := sq
          replace hm := hm.ext xq
          replace b1 := b1.ext xq
          replace bY := bY.ext xq
          replace X := Ext.trans X xq; clear xq sq
          refine ops_nil ?_
          refine c_false rfl ?_
          refine c_skip ?_
          refine bq_n ?_
          refine tq_n ?_
          refine c_region ?_
          refine ops_cons rfl (ow_move rfl ?_)
          refine ops_cons rfl (ow_add rfl rfl (w64 (by omega)) ?_)
          refine ops_cons rfl (ow_assign rfl ?_)
          refine ops_nil ?_
          refine tq_n ⟨k + 1, (.cons rfl (.cons rfl (.cons rfl (.cons rfl (.nil _))))), ?_, ?_⟩
          · exact ⟨by omega, (by rw [hi, dx, find_f (show atP m.ss mode time x = false by unfold atP; first | (rw [decide_eq_false e1]; rfl) | (rw [decide_eq_false e2, Bool.and_false]))]), hm, b1, X⟩
          · first | omega | (dsimp only; omega)
      · skip
        refine ops_nil ?_
        refine c_false rfl ?_
        refine c_exit ?_
        refine tq_e ?_
        refine tq_e ?_
        refine bq_e ?_
        refine tq_n ?_
        refine c_seqR ?_
        refine ops_cons rfl (ow_assign rfl ?_)
        refine ops_cons rfl (ow_assign rfl ?_)
        refine ops_cons rfl (ow_assign rfl ?_)
        refine ops_nil ?_
        refine c_ret ?_
        refine fin_ret3 rfl rfl rfl rfl ?_
        first
        | (have e : slotAtF m.d mode time = (0, 0, modeC m.d mode) := by rw [slotAtF, if_neg hC]
           rw [e]; exact ⟨rfl, X⟩)
        | (have e : slotAtF m.d mode time = (0, 0, 4) := by rw [slotAtF, if_pos hC0, if_pos ht]
           rw [e]; exact ⟨rfl, X⟩)
        | (have ha : atF time 0 (ofMode mode m.ss) = none := by rw [← hat, hi, drop_end hk]; rfl
           have e : slotAtF m.d mode time = (0, 0, 4) := by
             rw [slotAtF, if_pos hC0, if_neg ht]
             show (match atF time 0 (ofMode mode m.ss) with | some x => (x.round, x.slot, (0 : Int)) | none => (0, 0, 4)) = _
             rw [ha]
           rw [e]; exact ⟨rfl, X⟩)
        | (have ha : atF time 0 (ofMode mode m.ss) = some x := by rw [← hat, hi, dx, find_t (show atP m.ss mode time x = true by unfold atP; rw [decide_eq_true e1, decide_eq_true e2]; rfl)]
           have e : slotAtF m.d mode time = (x.round, x.slot, 0) := by
             rw [slotAtF, if_pos hC0, if_neg ht]
             show (match atF time 0 (ofMode mode m.ss) with | some x => (x.round, x.slot, (0 : Int)) | none => (0, 0, 4)) = _
             rw [ha]
           rw [e]; exact ⟨rfl, X⟩)

theorem iSlotAt_c (m : MedlI) (B : Nat) (mode time : Int) (w : World) (hm : Med B w m) (hz : m.small) (hti : -9223372036854775808 ≤ time ∧ time ≤ 9223372036854775807) :
    Calls Tryz.prog 31 #[.agg m.cells.toArray, .int .i64 mode, .int .i64 time] w (Ret fun v w' => v = .tuple #[.int .i64 (slotAtF m.d mode time).1, .int .i64 (slotAtF m.d mode time).2.1, .int .i64 (slotAtF m.d mode time).2.2] ∧ Ext w w') := by
  have hls := hz.ls
  have hlm := hz.lm
  have hln := hz.ln
  obtain ⟨hti1, hti2⟩ := hti
  have Bhm := hm.1
  have X := Ext.refl w
  refine calls_of (args := [.agg m.cells.toArray, .int .i64 mode, .int .i64 time]) Tryz.func31 Tryz.ntmps31 rfl rfl ?_
  refine c_seqR ?_
  refine ops_cons rfl (ow_box rfl rfl ?_)
  intro g4 w3 eg4 b1 x2 zg4
  have lg4 : w.heap.size ≤ g4 := Nat.le_trans X.size (Nat.le_of_eq eg4.symm)
  have pg4hm := Nat.le_trans hm.1 (Nat.le_of_eq eg4.symm)
  replace hm := hm.ext x2
  replace X := Ext.trans X x2; clear x2
  refine ops_cons rfl (ow_assign rfl ?_)
  refine ops_cons rfl (ow_assign rfl ?_)
  refine ops_cons rfl (ow_assign rfl ?_)
  refine ops_nil ?_
  refine c_seq ?_
  refine c_seqR ?_
  refine ops_cons rfl (ow_loadAB b1 ti33 rfl rfl ?_)
  refine ops_cons rfl (ow_move rfl ?_)
  refine ops_cons rfl (ow_call ent78 rfl (ret_mono (modeCode_c m _ mode _ hm hz) ?_))
  rintro _ w6 ⟨rfl, x5⟩
  replace hm := hm.ext x5
  replace b1 := b1.ext x5
  replace X := Ext.trans X x5; clear x5
  refine ops_cons rfl (ow_assign rfl ?_)
  refine ops_nil ?_
  refine c_seqR ?_
  refine ops_cons rfl (ow_move rfl ?_)
  refine ops_cons rfl (ow_neq2 rfl rfl (fun hC => ?_) (fun hC => ?_))
  · skip
    refine ops_nil ?_
    refine c_true rfl ?_
    refine c_seqR ?_
    refine ops_cons rfl (ow_move rfl ?_)
    refine ops_cons rfl (ow_assign rfl ?_)
    refine ops_cons rfl (ow_assign rfl ?_)
    refine ops_cons rfl (ow_assign rfl ?_)
    refine ops_nil ?_
    refine c_ret ?_
    refine tq_r ?_
    refine fin_ret3 rfl rfl rfl rfl ?_
    first
    | (have e : slotAtF m.d mode time = (0, 0, modeC m.d mode) := by rw [slotAtF, if_neg hC]
       rw [e]; exact ⟨rfl, X⟩)
    | (have e : slotAtF m.d mode time = (0, 0, 4) := by rw [slotAtF, if_pos hC0, if_pos ht]
       rw [e]; exact ⟨rfl, X⟩)
    | (have ha : atF time 0 (ofMode mode m.ss) = none := by rw [hi, drop_end hk]; rfl
       have e : slotAtF m.d mode time = (0, 0, 4) := by
         rw [slotAtF, if_pos hC0, if_neg ht]
         show (match atF time 0 (ofMode mode m.ss) with | some x => (x.round, x.slot, (0 : Int)) | none => (0, 0, 4)) = _
         rw [ha]
       rw [e]; exact ⟨rfl, X⟩)
    | (have ha : atF time 0 (ofMode mode m.ss) = some x := by rw [hi, dx, atF, if_pos (by omega)]
       have e : slotAtF m.d mode time = (x.round, x.slot, 0) := by
         rw [slotAtF, if_pos hC0, if_neg ht]
         show (match atF time 0 (ofMode mode m.ss) with | some x => (x.round, x.slot, (0 : Int)) | none => (0, 0, 4)) = _
         rw [ha]
       rw [e]; exact ⟨rfl, X⟩)
  · skip
    have hC0 : modeC m.d mode = 0 := by omega
    have hm0 := modeC_zero.1 hC0
    have wf := isMedl_iff.1 hm0.1
    have hok : ∀ x ∈ m.ss, slotOk x = true := isST_all wf.st
    obtain ⟨k0, x0, hkm, hx0⟩ := mode_get hm0.2
    have hxi := isMT_in wf.mt x0 (List.mem_of_getElem? hx0)
    have hat : m.ss.find? (atP m.ss mode time) = atF time 0 (ofMode mode m.ss) := by rw [hkm]; exact atS_eq wf.co hx0 hxi.2.1 time
    clear hkm
    refine ops_nil ?_
    refine c_false rfl ?_
    refine c_skip ?_
    refine tq_n ?_
    refine c_seq ?_
    refine c_seqR ?_
    refine ops_cons rfl (ow_move rfl ?_)
    refine ops_cons rfl (ow_lss2 rfl rfl (fun ht => ?_) (fun ht => ?_))
    · skip
      refine ops_nil ?_
      refine c_true rfl ?_
      refine c_seqR ?_
      refine ops_cons rfl (ow_assign rfl ?_)
      refine ops_cons rfl (ow_assign rfl ?_)
      refine ops_cons rfl (ow_assign rfl ?_)
      refine ops_nil ?_
      refine c_ret ?_
      refine tq_r ?_
      refine fin_ret3 rfl rfl rfl rfl ?_
      first
      | (have e : slotAtF m.d mode time = (0, 0, modeC m.d mode) := by rw [slotAtF, if_neg hC]
         rw [e]; exact ⟨rfl, X⟩)
      | (have e : slotAtF m.d mode time = (0, 0, 4) := by rw [slotAtF, if_pos hC0, if_pos ht]
         rw [e]; exact ⟨rfl, X⟩)
      | (have ha : atF time 0 (ofMode mode m.ss) = none := by rw [hi, drop_end hk]; rfl
         have e : slotAtF m.d mode time = (0, 0, 4) := by
           rw [slotAtF, if_pos hC0, if_neg ht]
           show (match atF time 0 (ofMode mode m.ss) with | some x => (x.round, x.slot, (0 : Int)) | none => (0, 0, 4)) = _
           rw [ha]
         rw [e]; exact ⟨rfl, X⟩)
      | (have ha : atF time 0 (ofMode mode m.ss) = some x := by rw [hi, dx, atF, if_pos (by omega)]
         have e : slotAtF m.d mode time = (x.round, x.slot, 0) := by
           rw [slotAtF, if_pos hC0, if_neg ht]
           show (match atF time 0 (ofMode mode m.ss) with | some x => (x.round, x.slot, (0 : Int)) | none => (0, 0, 4)) = _
           rw [ha]
         rw [e]; exact ⟨rfl, X⟩)
    · skip
      refine ops_nil ?_
      refine c_false rfl ?_
      refine c_skip ?_
      refine tq_n ?_
      refine c_seq ?_
      refine c_seqR ?_
      refine ops_cons rfl (ow_loadAB b1 ti33 rfl rfl ?_)
      refine ops_cons rfl (ow_move rfl ?_)
      refine ops_cons rfl (ow_call ent81 rfl (ret_mono (modeSlots_c m B mode _ hm hz) ?_))
      rintro _ w8 ⟨AL, cL, rfl, oL, x7⟩
      replace oL := Own.low oL X.size
      replace hm := hm.ext x7
      replace b1 := b1.ext x7
      replace X := Ext.trans X x7; clear x7
      obtain ⟨bL, sL⟩ : ∃ b, Sl b _ _ _ := ⟨_, oL.sl⟩
      have BsL := sL.1
      clear oL
      have hll := ofMode_len mode m.ss
      refine ops_cons rfl (ow_len Tryz.underlying31 rfl ?_)
      refine ops_cons rfl (ow_move rfl ?_)
      refine ops_nil ?_
      refine c_block ?_
      refine c_loop (G := Nat × Int × Int) (fun ⟨k, a, tr⟩ => [(22, .slice AL (ofMode mode m.ss).length cL), (23, .int .i64 ((ofMode mode m.ss).length : Nat)), (2, .int .i64 tr), (24, .int .i64 (k : Nat))]) (fun ⟨k, a, tr⟩ wr => k ≤ (ofMode mode m.ss).length ∧ (0 ≤ a ∧ tr = time - a ∧ 0 ≤ tr) ∧ atF time 0 (ofMode mode m.ss) = atF time a ((ofMode mode m.ss).drop k) ∧ Med B wr m ∧ Blk wr g4 33 m.cells ∧ Sl bL wr AL ((ofMode mode m.ss).flatMap SlotI.cells) ∧ Ext w wr) (fun ⟨k, a, tr⟩ => (ofMode mode m.ss).length - k) (0, 0, time) (.cons rfl (.cons rfl (.cons rfl (.cons rfl (.nil _))))) ?_ ?_
      · exact ⟨by omega, by omega, rfl, hm, b1, sL, X⟩
      clear hm b1 sL
      clear X
      rintro ⟨k, a, tr⟩ wr ⟨hk1, ha, hi, hm, b1, sL, X⟩
      refine c_seqR ?_
      refine ops_cons rfl (ow_lss2 rfl rfl (fun hk => ?_) (fun hk => ?_))
      · skip
        obtain ⟨x, hx, dx⟩ := drop_at' hk
        have hxs := slotI (hok x (ofMode_sub _ _ x (List.mem_of_getElem? hx)).1)
        refine ops_nil ?_
        refine c_seq ?_
        refine c_true rfl ?_
        refine c_skip ?_
        refine tq_n ?_
        refine c_seq ?_
        refine c_block ?_
        refine c_seqR ?_
        refine ops_cons rfl (ow_indexT sL SlotI.len rfl el31 rfl rfl rfl hx rfl ?_)
        refine ops_cons rfl (ow_loadTA sL SlotI.len hx ti72 rfl ?_)
        refine ops_cons rfl (ow_alloc ti72 ?_)
        intro gX w10 egX bX x9 zgX
        have lgX : w.heap.size ≤ gX := Nat.le_trans X.size (Nat.le_of_eq egX.symm)
        have pgXhm := Nat.le_trans hm.1 (Nat.le_of_eq egX.symm)
        have ngXb1 := Nat.lt_of_lt_of_eq b1.lt egX.symm
        have pgXsL := Nat.le_trans sL.1 (Nat.le_of_eq egX.symm)
        replace hm := hm.ext x9
        replace b1 := b1.ext x9
        replace sL := sL.ext x9
        replace X := Ext.trans X x9; clear x9
        refine ops_cons rfl (ow_storeB bX ti72 rfl rfl rfl rfl rfl rfl ?_)
        intro w12 bY hg11 z13
        replace hm := hm.grown hg11 (by intro g hg; injection hg; omega)
        replace b1 := b1.grown hg11 (by intro h; injection h; omega)
        replace sL := sL.grown hg11 (by intro g hg; injection hg; omega)
        replace X := X.grown hg11 X.size (by intro g hg; injection hg; omega)
        clear hg11 bX
        refine ops_nil ?_
        refine c_seq ?_
        refine c_seqR ?_
        refine ops_cons rfl (ow_move rfl ?_)
        refine ops_cons rfl (ow_fieldAddrB off72_3 rfl rfl ?_)
        refine ops_cons rfl (ow_fieldAddrB off53_3 rfl rfl ?_)
        refine ops_cons rfl (ow_loadB bY ti2 rfl rfl ?_)
        refine ops_cons rfl (ow_lss2 rfl rfl (fun hc => ?_) (fun hc => ?_))
        · skip
          refine ops_nil ?_
          refine c_true rfl ?_
          refine c_seqD [false, false, false, false, false, false, false] mixed (by kernel_rfl) ?_
          refine f_q rfl (fun wq sq => ow_fieldAddrB off72_1 rfl rfl ⟨rfl, Ext.refl _⟩) ?_
          refine f_q rfl (fun wq sq => ow_loadB (bY.ext sq) ti2 rfl rfl ⟨rfl, Ext.refl _⟩) ?_
          refine f_q rfl (fun wq sq => ow_fieldAddrB off72_2 rfl rfl ⟨rfl, Ext.refl _⟩) ?_
          refine f_q rfl (fun wq sq => ow_loadB (bY.ext sq) ti2 rfl rfl ⟨rfl, Ext.refl _⟩) ?_
          refine f_q rfl (fun wq sq => ow_assign rfl ⟨rfl, Ext.refl _⟩) ?_
          refine f_q rfl (fun wq sq => ow_assign rfl ⟨rfl, Ext.refl _⟩) ?_
          refine f_q rfl (fun wq sq => ow_assign rfl ⟨rfl, Ext.refl _⟩) ?_
          refine f_nil (fun w14 sq => ?_)
          have xq := sq
          replace hm := hm.ext xq
          replace b1 := b1.ext xq
          replace sL := sL.ext xq
          replace bY := bY.ext xq
          replace X := Ext.trans X xq; clear xq sq
          refine ops_nil ?_
          refine c_ret ?_
          refine tq_r ?_
          refine bq_r ?_
          refine tq_r ?_
          refine tq_r ?_
          refine bq_r ?_
          refine tq_r ?_
          refine fin_ret3 rfl rfl rfl rfl ?_
          first
          | (have e : slotAtF m.d mode time = (0, 0, modeC m.d mode) := by rw [slotAtF, if_neg hC]
             rw [e]; exact ⟨rfl, X⟩)
          | (have e : slotAtF m.d mode time = (0, 0, 4) := by rw [slotAtF, if_pos hC0, if_pos ht]
             rw [e]; exact ⟨rfl, X⟩)
          | (have ha : atF time 0 (ofMode mode m.ss) = none := by rw [hi, drop_end hk]; rfl
             have e : slotAtF m.d mode time = (0, 0, 4) := by
               rw [slotAtF, if_pos hC0, if_neg ht]
               show (match atF time 0 (ofMode mode m.ss) with | some x => (x.round, x.slot, (0 : Int)) | none => (0, 0, 4)) = _
               rw [ha]
             rw [e]; exact ⟨rfl, X⟩)
          | (have ha : atF time 0 (ofMode mode m.ss) = some x := by rw [hi, dx, atF, if_pos (by omega)]
             have e : slotAtF m.d mode time = (x.round, x.slot, 0) := by
               rw [slotAtF, if_pos hC0, if_neg ht]
               show (match atF time 0 (ofMode mode m.ss) with | some x => (x.round, x.slot, (0 : Int)) | none => (0, 0, 4)) = _
               rw [ha]
             rw [e]; exact ⟨rfl, X⟩)
        · skip
          refine ops_nil ?_
          refine c_false rfl ?_
          refine c_skip ?_
          refine tq_n ?_
          refine c_region ?_
          refine ops_cons rfl (ow_move rfl ?_)
          refine ops_cons rfl (ow_fieldAddrB off72_3 rfl rfl ?_)
          refine ops_cons rfl (ow_fieldAddrB off53_3 rfl rfl ?_)
          refine ops_cons rfl (ow_loadB bY ti2 rfl rfl ?_)
          refine ops_cons rfl (ow_sub rfl rfl (w64 (by omega)) ?_)
          refine ops_cons rfl (ow_assign rfl ?_)
          refine ops_nil ?_
          refine bq_n ?_
          refine tq_n ?_
          refine c_region ?_
          refine ops_cons rfl (ow_add rfl rfl (w64 (by omega)) ?_)
          refine ops_cons rfl (ow_move rfl ?_)
          refine ops_nil ?_
          refine tq_n ⟨(k + 1, a + x.desc.duration, tr - x.desc.duration), (.cons rfl (.cons rfl (.cons rfl (.cons rfl (.nil _))))), ?_, ?_⟩
          · exact ⟨by omega, by omega, (by rw [hi, dx, atF, if_neg (by omega)]), hm, b1, sL, X⟩
          · first | omega | (dsimp only; omega)
      · skip
        refine ops_nil ?_
        refine c_seq ?_
        refine c_false rfl ?_
        refine c_exit ?_
        refine tq_e ?_
        refine tq_e ?_
        refine bq_e ?_
        refine tq_n ?_
        refine c_seqR ?_
        refine ops_cons rfl (ow_assign rfl ?_)
        refine ops_cons rfl (ow_assign rfl ?_)
        refine ops_cons rfl (ow_assign rfl ?_)
        refine ops_nil ?_
        refine c_ret ?_
        refine fin_ret3 rfl rfl rfl rfl ?_
        first
        | (have e : slotAtF m.d mode time = (0, 0, modeC m.d mode) := by rw [slotAtF, if_neg hC]
           rw [e]; exact ⟨rfl, X⟩)
        | (have e : slotAtF m.d mode time = (0, 0, 4) := by rw [slotAtF, if_pos hC0, if_pos ht]
           rw [e]; exact ⟨rfl, X⟩)
        | (have ha : atF time 0 (ofMode mode m.ss) = none := by rw [hi, drop_end hk]; rfl
           have e : slotAtF m.d mode time = (0, 0, 4) := by
             rw [slotAtF, if_pos hC0, if_neg ht]
             show (match atF time 0 (ofMode mode m.ss) with | some x => (x.round, x.slot, (0 : Int)) | none => (0, 0, 4)) = _
             rw [ha]
           rw [e]; exact ⟨rfl, X⟩)
        | (have ha : atF time 0 (ofMode mode m.ss) = some x := by rw [hi, dx, atF, if_pos (by omega)]
           have e : slotAtF m.d mode time = (x.round, x.slot, 0) := by
             rw [slotAtF, if_pos hC0, if_neg ht]
             show (match atF time 0 (ofMode mode m.ss) with | some x => (x.round, x.slot, (0 : Int)) | none => (0, 0, 4)) = _
             rw [ha]
           rw [e]; exact ⟨rfl, X⟩)
end Go.Proofs.YtfmihehpdfmgfaaGreatDoor
