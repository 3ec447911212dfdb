/- Starts of slots, and which slot a time falls into. No condition. -/
import Derived.Test.YthdeoagoehkcfaaGreatDoorL1
namespace Go.Proofs.YthdeoagoehkcfaaGreatDoor
open Go.RowKit
set_option linter.unusedVariables false
set_option linter.unusedSimpArgs false
set_option maxRecDepth 20000
theorem l15Start_c (m : MedlI) (B : Nat) (mode a b : Int) (w : World) (hm : Med B w m) (hz : m.small) (hok : ∀ x ∈ m.ss, slotOk x = true) :
    Calls Tryz.prog 95 #[.agg m.cells.toArray, .int .i64 mode, .int .i64 a, .int .i64 b] w (Ret fun v w' => v = .int .i64 (startD m.ss mode a b) ∧ Ext w w') := by
  have hls := hz.ls
  have hlm := hz.lm
  have hln := hz.ln
  have Bhm := hm.1
  have X := Ext.refl w
  refine calls_of (args := [.agg m.cells.toArray, .int .i64 mode, .int .i64 a, .int .i64 b]) Tryz.func95 Tryz.ntmps95 rfl rfl ?_
  refine c_seqR ?_
  refine ops_cons rfl (ow_box rfl rfl ?_)
  intro g4 w3 eg4 b1 x2 zg4
  have lg4 : w.heap.size ≤ g4 := Nat.le_trans X.size (Nat.le_of_eq eg4.symm)
  have pg4hm := Nat.le_trans hm.1 (Nat.le_of_eq eg4.symm)
  replace hm := hm.ext x2
  replace X := Ext.trans X x2; clear x2
  refine ops_cons rfl (ow_assign rfl ?_)
  refine ops_nil ?_
  refine c_seqR ?_
  refine ops_cons rfl (ow_assign rfl ?_)
  refine ops_nil ?_
  refine c_seq ?_
  refine c_seqR ?_
  refine ops_cons rfl (ow_assign rfl ?_)
  refine ops_nil ?_
  refine c_block ?_
  refine c_loop (G := Nat × Int) (fun ⟨k, n⟩ => [(1, .int .i64 mode), (2, .int .i64 a), (3, .int .i64 b), (4, .pointer (some ⟨g4, 0, none⟩)), (8, .int .i64 0), (9, .int .i64 n), (10, .int .i64 (k : Nat))]) (fun ⟨k, n⟩ wr => k ≤ m.ss.length ∧ (0 ≤ n ∧ n ≤ 1000 * k) ∧ startD m.ss mode a b = n + startD (m.ss.drop k) mode a b ∧ Med B wr m ∧ Blk wr g4 27 m.cells ∧ Ext w wr) (fun ⟨k, n⟩ => m.ss.length - k) (0, 0) (.cons rfl (.cons rfl (.cons rfl (.cons rfl (.cons rfl (.cons rfl (.cons rfl (.nil _)))))))) ?_ ?_
  · exact ⟨by omega, by omega, (by simp), hm, b1, X⟩
  clear hm b1
  clear X
  rintro ⟨k, n⟩ wr ⟨hk0, hn, hi, hm, b1, X⟩
  refine c_seq ?_
  refine c_seqR ?_
  refine ops_cons rfl (ow_move rfl ?_)
  refine ops_cons rfl (ow_fieldAddrB off27_3 rfl rfl ?_)
  refine ops_cons rfl (ow_loadB b1 ti25 rfl rfl ?_)
  refine ops_cons rfl (ow_len Tryz.underlying25 rfl ?_)
  refine ops_cons rfl (ow_lss2 rfl rfl (fun hk => ?_) (fun hk => ?_))
  · skip
    obtain ⟨x, hx, dx⟩ := drop_at' hk
    have hxs := slotI (hok x (List.mem_of_getElem? hx))
    refine ops_nil ?_
    refine c_true rfl ?_
    refine c_skip ?_
    refine tq_n ?_
    refine c_seq ?_
    refine c_block ?_
    refine c_seqR ?_
    refine ops_cons rfl (ow_fieldAddrB off27_3 rfl rfl ?_)
    refine ops_cons rfl (ow_loadB b1 ti25 rfl rfl ?_)
    refine ops_cons rfl (ow_move rfl ?_)
    refine ops_cons rfl (ow_indexT hm.ss SlotI.len rfl el25 rfl rfl rfl hx rfl ?_)
    refine ops_cons rfl (ow_loadTA hm.ss SlotI.len hx ti110 rfl ?_)
    refine ops_cons rfl (ow_alloc ti110 ?_)
    intro g8 w7 eg8 b5 x6 zg8
    have lg8 : w.heap.size ≤ g8 := Nat.le_trans X.size (Nat.le_of_eq eg8.symm)
    have pg8hm := Nat.le_trans hm.1 (Nat.le_of_eq eg8.symm)
    have ng8b1 := Nat.lt_of_lt_of_eq b1.lt eg8.symm
    replace hm := hm.ext x6
    replace b1 := b1.ext x6
    replace X := Ext.trans X x6; clear x6
    refine ops_cons rfl (ow_storeB b5 ti110 rfl rfl rfl rfl rfl rfl ?_)
    intro w10 b12 hg9 z11
    replace hm := hm.grown hg9 (by intro g hg; injection hg; omega)
    replace b1 := b1.grown hg9 (by intro h; injection h; omega)
    replace X := X.grown hg9 X.size (by intro g hg; injection hg; omega)
    clear hg9 b5
    refine ops_nil ?_
    refine c_seqR ?_
    refine ops_cons rfl (ow_fieldAddrB off110_0 rfl rfl ?_)
    refine ops_cons rfl (ow_loadB b12 ti2 rfl rfl ?_)
    refine ops_cons rfl (ow_move rfl ?_)
    refine ops_cons rfl (ow_eql2 rfl rfl (fun e1 => ?_) (fun e1 => ?_))
    · skip
      refine ops_cons rfl (ow_move rfl ?_)
      refine ops_want rfl rfl rfl (ow_fieldAddrB off110_1 rfl rfl ?_)
      refine ops_want rfl rfl rfl (ow_loadB b12 ti2 rfl rfl ?_)
      refine ops_want rfl rfl rfl (ow_move rfl ?_)
      refine ops_want rfl rfl rfl (ow_lss2 rfl rfl (fun e2 => ?_) (fun e2 => ?_))
      · skip
        refine ops_want rfl rfl rfl (ow_move rfl ?_)
        refine ops_skip rfl rfl rfl rfl ?_
        refine ops_skip rfl rfl rfl rfl ?_
        refine ops_skip rfl rfl rfl rfl ?_
        refine ops_skip rfl rfl rfl rfl ?_
        refine ops_skip rfl rfl rfl rfl ?_
        refine ops_skip2 rfl rfl rfl ?_
        refine ops_skip2 rfl rfl rfl ?_
        refine ops_skip2 rfl rfl rfl ?_
        refine ops_skip2 rfl rfl rfl ?_
        refine ops_skip rfl rfl rfl rfl ?_
        refine ops_want rfl rfl rfl (ow_pick rfl rfl ?_)
        refine ops_cons rfl (ow_pick rfl rfl ?_)
        refine ops_nil ?_
        refine c_true rfl ?_
        refine c_region ?_
        refine ops_cons rfl (ow_move rfl ?_)
        refine ops_cons rfl (ow_fieldAddrB off110_3 rfl rfl ?_)
        refine ops_cons rfl (ow_fieldAddrB off108_3 rfl rfl ?_)
        refine ops_cons rfl (ow_loadB b12 ti2 rfl rfl ?_)
        refine ops_cons rfl (ow_add rfl rfl (w64 (by omega)) ?_)
        refine ops_cons rfl (ow_assign rfl ?_)
        refine ops_nil ?_
        refine bq_n ?_
        refine tq_n ?_
        refine c_region ?_
        refine ops_cons rfl (ow_move rfl ?_)
        refine ops_cons rfl (ow_add rfl rfl (w64 (by omega)) ?_)
        refine ops_cons rfl (ow_assign rfl ?_)
        refine ops_nil ?_
        refine tq_n ⟨(k + 1, n + x.desc.duration), (.cons rfl (.cons rfl (.cons rfl (.cons rfl (.cons rfl (.cons rfl (.cons rfl (.nil _)))))))), ?_, ?_⟩
        · exact ⟨by omega, by omega, (by rw [hi, dx, startD_cons_t (by simp [beforeB, *])]; omega), hm, b1, X⟩
        · first | omega | (dsimp only; omega)
      · skip
        refine ops_want rfl rfl rfl (ow_move rfl ?_)
        refine ops_want rfl rfl rfl (ow_fieldAddrB off110_1 rfl rfl ?_)
        refine ops_want rfl rfl rfl (ow_loadB b12 ti2 rfl rfl ?_)
        refine ops_want rfl rfl rfl (ow_move rfl ?_)
        refine ops_want rfl rfl rfl (ow_eql2 rfl rfl (fun e3 => ?_) (fun e3 => ?_))
        · skip
          refine ops_want rfl rfl rfl (ow_move rfl ?_)
          refine ops_want rfl rfl rfl (ow_fieldAddrB off110_2 rfl rfl ?_)
          refine ops_want rfl rfl rfl (ow_loadB b12 ti2 rfl rfl ?_)
          refine ops_want rfl rfl rfl (ow_move rfl ?_)
          refine ops_want rfl rfl rfl (ow_lss2 rfl rfl (fun e4 => ?_) (fun e4 => ?_))
          · skip
            refine ops_want rfl rfl rfl (ow_pick rfl rfl ?_)
            refine ops_want rfl rfl rfl (ow_pick rfl rfl ?_)
            refine ops_cons rfl (ow_pick rfl rfl ?_)
            refine ops_nil ?_
            refine c_true rfl ?_
            refine c_region ?_
            refine ops_cons rfl (ow_move rfl ?_)
            refine ops_cons rfl (ow_fieldAddrB off110_3 rfl rfl ?_)
            refine ops_cons rfl (ow_fieldAddrB off108_3 rfl rfl ?_)
            refine ops_cons rfl (ow_loadB b12 ti2 rfl rfl ?_)
            refine ops_cons rfl (ow_add rfl rfl (w64 (by omega)) ?_)
            refine ops_cons rfl (ow_assign rfl ?_)
            refine ops_nil ?_
            refine bq_n ?_
            refine tq_n ?_
            refine c_region ?_
            refine ops_cons rfl (ow_move rfl ?_)
            refine ops_cons rfl (ow_add rfl rfl (w64 (by omega)) ?_)
            refine ops_cons rfl (ow_assign rfl ?_)
            refine ops_nil ?_
            refine tq_n ⟨(k + 1, n + x.desc.duration), (.cons rfl (.cons rfl (.cons rfl (.cons rfl (.cons rfl (.cons rfl (.cons rfl (.nil _)))))))), ?_, ?_⟩
            · exact ⟨by omega, by omega, (by rw [hi, dx, startD_cons_t (by simp [beforeB, *])]; omega), hm, b1, X⟩
            · first | omega | (dsimp only; omega)
          · skip
            refine ops_want rfl rfl rfl (ow_pick rfl rfl ?_)
            refine ops_want rfl rfl rfl (ow_pick rfl rfl ?_)
            refine ops_cons rfl (ow_pick rfl rfl ?_)
            refine ops_nil ?_
            refine c_false rfl ?_
            refine c_skip ?_
            refine bq_n ?_
            refine tq_n ?_
            refine c_region ?_
            refine ops_cons rfl (ow_move rfl ?_)
            refine ops_cons rfl (ow_add rfl rfl (w64 (by omega)) ?_)
            refine ops_cons rfl (ow_assign rfl ?_)
            refine ops_nil ?_
            refine tq_n ⟨(k + 1, n), (.cons rfl (.cons rfl (.cons rfl (.cons rfl (.cons rfl (.cons rfl (.cons rfl (.nil _)))))))), ?_, ?_⟩
            · exact ⟨by omega, by omega, (by rw [hi, dx, startD_cons_f (by simp [beforeB, *])]), hm, b1, X⟩
            · first | omega | (dsimp only; omega)
        · skip
          refine ops_want rfl rfl rfl (ow_move rfl ?_)
          refine ops_skip rfl rfl rfl rfl ?_
          refine ops_skip rfl rfl rfl rfl ?_
          refine ops_skip rfl rfl rfl rfl ?_
          refine ops_skip rfl rfl rfl rfl ?_
          refine ops_want rfl rfl rfl (ow_pick rfl rfl ?_)
          refine ops_want rfl rfl rfl (ow_pick rfl rfl ?_)
          refine ops_cons rfl (ow_pick rfl rfl ?_)
          refine ops_nil ?_
          refine c_false rfl ?_
          refine c_skip ?_
          refine bq_n ?_
          refine tq_n ?_
          refine c_region ?_
          refine ops_cons rfl (ow_move rfl ?_)
          refine ops_cons rfl (ow_add rfl rfl (w64 (by omega)) ?_)
          refine ops_cons rfl (ow_assign rfl ?_)
          refine ops_nil ?_
          refine tq_n ⟨(k + 1, n), (.cons rfl (.cons rfl (.cons rfl (.cons rfl (.cons rfl (.cons rfl (.cons rfl (.nil _)))))))), ?_, ?_⟩
          · exact ⟨by omega, by omega, (by rw [hi, dx, startD_cons_f (by simp [beforeB, *])]), hm, b1, X⟩
          · first | omega | (dsimp only; omega)
    · skip
      refine ops_cons rfl (ow_move rfl ?_)
      refine ops_skip rfl rfl rfl rfl ?_
      refine ops_skip rfl rfl rfl rfl ?_
      refine ops_skip rfl rfl rfl rfl ?_
      refine ops_skip rfl rfl rfl rfl ?_
      refine ops_skip rfl rfl rfl rfl ?_
      refine ops_skip2 rfl rfl rfl ?_
      refine ops_skip2 rfl rfl rfl ?_
      refine ops_skip2 rfl rfl rfl ?_
      refine ops_skip2 rfl rfl rfl ?_
      refine ops_skip2 rfl rfl rfl ?_
      refine ops_skip2 rfl rfl rfl ?_
      refine ops_skip2 rfl rfl rfl ?_
      refine ops_skip2 rfl rfl rfl ?_
      refine ops_skip2 rfl rfl rfl ?_
      refine ops_skip2 rfl rfl rfl ?_
      refine ops_skip rfl rfl rfl rfl ?_
      refine ops_cons rfl (ow_pick rfl rfl ?_)
      refine ops_nil ?_
      refine c_false rfl ?_
      refine c_skip ?_
      refine bq_n ?_
      refine tq_n ?_
      refine c_region ?_
      refine ops_cons rfl (ow_move rfl ?_)
      refine ops_cons rfl (ow_add rfl rfl (w64 (by omega)) ?_)
      refine ops_cons rfl (ow_assign rfl ?_)
      refine ops_nil ?_
      refine tq_n ⟨(k + 1, n), (.cons rfl (.cons rfl (.cons rfl (.cons rfl (.cons rfl (.cons rfl (.cons rfl (.nil _)))))))), ?_, ?_⟩
      · exact ⟨by omega, by omega, (by rw [hi, dx, startD_cons_f (by simp [beforeB, *])]), hm, b1, X⟩
      · first | omega | (dsimp only; omega)
  · skip
    refine ops_nil ?_
    refine c_false rfl ?_
    refine c_exit ?_
    refine tq_e ?_
    refine tq_e ?_
    refine bq_e ?_
    refine tq_n ?_
    refine c_seqR ?_
    refine ops_cons rfl (ow_move rfl ?_)
    refine ops_cons rfl (ow_assign rfl ?_)
    refine ops_nil ?_
    refine c_ret ?_
    refine fin_ret1 rfl rfl ?_
    exact ⟨by rw [hi, drop_end hk]; simp [startD, sumD], X⟩
end Go.Proofs.YthdeoagoehkcfaaGreatDoor
