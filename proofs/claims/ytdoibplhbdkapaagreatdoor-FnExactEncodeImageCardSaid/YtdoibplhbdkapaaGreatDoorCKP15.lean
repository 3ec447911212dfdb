/- Texts of the seat that a law needs, put together. No condition. -/
import Derived.Test.YtdoibplhbdkapaaGreatDoorCKP14
import Derived.Test.YtdoibplhbdkapaaGreatDoorCKP8
import Derived.Test.YtdoibplhbdkapaaGreatDoorCKP11
import Derived.Test.YtdoibplhbdkapaaGreatDoorCKP12
import Derived.Test.YtdoibplhbdkapaaGreatDoorCKP9
namespace Go.Proofs.YtdoibplhbdkapaaGreatDoor
open Go.RowKit
set_option linter.unusedVariables false
set_option linter.unusedSimpArgs false
set_option maxRecDepth 20000
theorem sFF_c (m : MedlI) (B : Nat) (w : World) (hm : Med B w m) (hz : m.small) :
    Calls Tryz.prog 154 #[.agg m.cells.toArray] w (Ret fun v w' => v = .int .i64 (ffault m.d) ∧ Ext w w') := by
  have hls := hz.ls
  have hlm := hz.lm
  have hln := hz.ln
  have hl := hls
  have Bhm := hm.1
  have X := Ext.refl w
  refine calls_of (args := [.agg m.cells.toArray]) Tryz.func154 Tryz.ntmps154 rfl rfl ?_
  refine c_seqR ?_
  refine ops_cons rfl (ow_box rfl rfl ?_)
  intro g4 w3 eg4 b1 x2 zg4
  have lg4 : w.heap.size ≤ g4 := Nat.le_trans X.size (Nat.le_of_eq eg4.symm)
  have pg4hm := Nat.le_trans hm.1 (Nat.le_of_eq eg4.symm)
  replace hm := hm.ext x2
  replace X := Ext.trans X x2; clear x2
  refine ops_cons rfl (ow_assign rfl ?_)
  refine ops_nil ?_
  refine c_seq ?_
  refine c_block ?_
  refine c_seqR ?_
  refine ops_cons rfl (ow_fieldAddrB off28_0 rfl rfl ?_)
  refine ops_cons rfl (ow_loadB b1 ti2 rfl rfl ?_)
  refine ops_cons rfl (ow_callB ent111 rfl (l01In_c _ _ _ _) (fun w6 hI x5 => ?_) (fun w6 hI x5 => ?_))
  replace hm := hm.ext x5
  replace b1 := b1.ext x5
  replace X := Ext.trans X x5; clear x5
  refine ops_cons rfl (ow_not rfl ?_)
  refine ops_cons rfl (ow_assign rfl ?_)
  refine ops_nil ?_
  refine c_false rfl ?_
  refine c_seqR ?_
  refine ops_cons rfl (ow_fieldAddrB off28_1 rfl rfl ?_)
  refine ops_cons rfl (ow_loadB b1 ti24 rfl rfl ?_)
  refine ops_cons rfl (ow_callB ent224 rfl (sIsNT_c _ _ _ _ _ hm.sn hln (fun x hx => by have := hz.lz x hx; omega)) (fun w9 hN x7 => ?_) (fun w9 hN x7 => ?_))
  replace hm := hm.ext x7
  replace b1 := b1.ext x7
  replace X := Ext.trans X x7; clear x7
  refine ops_cons rfl (ow_not rfl ?_)
  refine ops_cons rfl (ow_assign rfl ?_)
  refine ops_nil ?_
  refine c_false rfl ?_
  refine c_seqR ?_
  refine ops_cons rfl (ow_fieldAddrB off28_2 rfl rfl ?_)
  refine ops_cons rfl (ow_loadB b1 ti25 rfl rfl ?_)
  refine ops_cons rfl (ow_callB ent225 rfl (sIsMT_c _ _ _ _ _ _ hm.sm hm.sx hlm hz.lx) (fun w11 hT x10 => ?_) (fun w11 hT x10 => ?_))
  replace hm := hm.ext x10
  replace b1 := b1.ext x10
  replace X := Ext.trans X x10; clear x10
  refine ops_cons rfl (ow_not rfl ?_)
  refine ops_cons rfl (ow_assign rfl ?_)
  refine ops_nil ?_
  refine c_false rfl ?_
  refine c_seqR ?_
  refine ops_cons rfl (ow_fieldAddrB off28_3 rfl rfl ?_)
  refine ops_cons rfl (ow_loadB b1 ti26 rfl rfl ?_)
  refine ops_cons rfl (ow_callB ent226 rfl (sIsST_c _ _ _ _ _ hm.ss hl) (fun w13 hS x12 => ?_) (fun w13 hS x12 => ?_))
  replace hm := hm.ext x12
  replace b1 := b1.ext x12
  replace X := Ext.trans X x12; clear x12
  have hok := isST_all hS
  refine ops_cons rfl (ow_not rfl ?_)
  refine ops_cons rfl (ow_assign rfl ?_)
  refine ops_nil ?_
  refine c_false rfl ?_
  refine c_seqR ?_
  refine ops_cons rfl (ow_loadAB b1 ti28 rfl rfl ?_)
  refine ops_cons rfl (ow_callB ent227 rfl (l13Complete_c m _ _ hm hz hT hS) (fun w15 hC x14 => ?_) (fun w15 hC x14 => ?_))
  replace hm := hm.ext x14
  replace b1 := b1.ext x14
  replace X := Ext.trans X x14; clear x14
  refine ops_cons rfl (ow_not rfl ?_)
  refine ops_cons rfl (ow_assign rfl ?_)
  refine ops_nil ?_
  refine c_false rfl ?_
  refine c_seqR ?_
  refine ops_cons rfl (ow_loadAB b1 ti28 rfl rfl ?_)
  refine ops_cons rfl (ow_callB ent228 rfl (l13Senders_c m _ _ hm hz hok hN) (fun w17 hE x16 => ?_) (fun w17 hE x16 => ?_))
  replace hm := hm.ext x16
  replace b1 := b1.ext x16
  replace X := Ext.trans X x16; clear x16
  refine ops_cons rfl (ow_not rfl ?_)
  refine ops_cons rfl (ow_assign rfl ?_)
  refine ops_nil ?_
  refine c_false rfl ?_
  refine c_seqR ?_
  refine ops_cons rfl (ow_loadAB b1 ti28 rfl rfl ?_)
  refine ops_cons rfl (ow_callB ent229 rfl (l13Durations_c m _ _ hm hz) (fun w19 hD x18 => ?_) (fun w19 hD x18 => ?_))
  replace hm := hm.ext x18
  replace b1 := b1.ext x18
  replace X := Ext.trans X x18; clear x18
  refine ops_cons rfl (ow_not rfl ?_)
  refine ops_cons rfl (ow_assign rfl ?_)
  refine ops_nil ?_
  refine c_false rfl ?_
  refine c_skip ?_
  refine bq_n ?_
  refine tq_n ?_
  refine c_seq ?_
  refine c_seqR ?_
  refine ops_cons rfl (ow_assign rfl ?_)
  refine ops_nil ?_
  refine c_block ?_
  refine c_loop (G := Nat) (fun k => [(1, .pointer (some ⟨g4, 0, none⟩)), (3, .int .i64 (k : Nat))]) (fun k wr => k ≤ m.ms.length ∧ shortB m.d = ((List.range m.ms.length).drop k).all (fun (i : Nat) => decide (cyc m.ss i ≤ 32000)) ∧ Med B wr m ∧ Blk wr g4 28 m.cells ∧ Ext w wr) (fun k => m.ms.length - k) 0 (.cons rfl (.cons rfl (.nil _))) ?_ ?_
  · exact ⟨by omega, short_eq, hm, b1, X⟩
  clear hm b1
  clear X
  rintro k wr ⟨hk0, hi, hm, b1, X⟩
  refine c_seq ?_
  refine c_seqR ?_
  refine ops_cons rfl (ow_move rfl ?_)
  refine ops_cons rfl (ow_fieldAddrB off28_2 rfl rfl ?_)
  refine ops_cons rfl (ow_loadB b1 ti25 rfl rfl ?_)
  refine ops_cons rfl (ow_len Tryz.underlying25 rfl ?_)
  refine ops_cons rfl (ow_lss2 rfl rfl (fun hk => ?_) (fun hk => ?_))
  refine ops_nil ?_
  refine c_true rfl ?_
  refine c_skip ?_
  refine tq_n ?_
  refine c_seq ?_
  refine c_block ?_
  refine c_seqR ?_
  refine ops_cons rfl (ow_loadAB b1 ti28 rfl rfl ?_)
  refine ops_cons rfl (ow_move rfl ?_)
  refine ops_cons rfl (ow_call ent230 rfl (ret_mono (l13Cycle_c _ _ (k : Int) _ hm hz hok) ?_))
  rintro _ w21 ⟨rfl, x20⟩
  replace hm := hm.ext x20
  replace b1 := b1.ext x20
  replace X := Ext.trans X x20; clear x20
  refine ops_cons rfl (ow_gtr2 rfl rfl (fun hc => ?_) (fun hc => ?_))
  have hSh : shortB m.d = false := by rw [hi, short_step (by omega), decide_eq_false (show ¬ cyc m.ss k ≤ 32000 by omega)]; rfl
  refine ops_nil ?_
  refine c_true rfl ?_
  refine c_seqR ?_
  refine ops_cons rfl (ow_assign rfl ?_)
  refine ops_nil ?_
  refine c_ret ?_
  refine bq_r ?_
  refine tq_r ?_
  refine tq_r ?_
  refine bq_r ?_
  refine tq_r ?_
  refine fin_ret1 rfl rfl ?_
  · skip
    refine ⟨congrArg (Value.int .i64) ?_, X⟩
    rw [ff_eq]
    try clear hi
    try clear hi2
    simp [*]
  refine ops_nil ?_
  refine c_false rfl ?_
  refine c_skip ?_
  refine bq_n ?_
  refine tq_n ?_
  refine c_region ?_
  refine ops_cons rfl (ow_move rfl ?_)
  refine ops_cons rfl (ow_add rfl rfl (w64 (by omega)) ?_)
  refine ops_cons rfl (ow_assign rfl ?_)
  refine ops_nil ?_
  refine tq_n ⟨k + 1, (.cons rfl (.cons rfl (.nil _))), ?_, ?_⟩
  · exact ⟨by omega, (by rw [hi, short_step (by omega), decide_eq_true (show cyc m.ss k ≤ 32000 by omega)]; rfl), hm, b1, X⟩
  · first | omega | (dsimp only; omega)
  have hSh : shortB m.d = true := by rw [hi, short_end hk]
  refine ops_nil ?_
  refine c_false rfl ?_
  refine c_exit ?_
  refine tq_e ?_
  refine tq_e ?_
  refine bq_e ?_
  refine tq_n ?_
  refine c_seq ?_
  refine c_seqR ?_
  refine ops_cons rfl (ow_loadAB b1 ti28 rfl rfl ?_)
  refine ops_cons rfl (ow_callB ent231 rfl (l13Served_c m _ _ hm hz hok hN hT) (fun w23 hV x22 => ?_) (fun w23 hV x22 => ?_))
  replace hm := hm.ext x22
  replace b1 := b1.ext x22
  replace X := Ext.trans X x22; clear x22
  refine ops_cons rfl (ow_not rfl ?_)
  refine ops_nil ?_
  refine c_false rfl ?_
  refine c_skip ?_
  refine tq_n ?_
  refine c_seq ?_
  refine c_seqR ?_
  refine ops_cons rfl (ow_assign rfl ?_)
  refine ops_nil ?_
  refine c_block ?_
  refine c_loop (G := Nat) (fun j => [(1, .pointer (some ⟨g4, 0, none⟩)), (4, .int .i64 (j : Nat))]) (fun j wr => j ≤ m.ss.length ∧ coldB m.ss = coldB (m.ss.drop j) ∧ Med B wr m ∧ Blk wr g4 28 m.cells ∧ Ext w wr) (fun j => m.ss.length - j) 0 (.cons rfl (.cons rfl (.nil _))) ?_ ?_
  · exact ⟨by omega, rfl, hm, b1, X⟩
  clear hm b1
  clear X
  rintro j wr ⟨hj0, hi2, hm, b1, X⟩
  refine c_seq ?_
  refine c_seqR ?_
  refine ops_cons rfl (ow_move rfl ?_)
  refine ops_cons rfl (ow_fieldAddrB off28_3 rfl rfl ?_)
  refine ops_cons rfl (ow_loadB b1 ti26 rfl rfl ?_)
  refine ops_cons rfl (ow_len Tryz.underlying26 rfl ?_)
  refine ops_cons rfl (ow_lss2 rfl rfl (fun hj => ?_) (fun hj => ?_))
  obtain ⟨x, hx, dx⟩ := drop_at' hj
  refine ops_nil ?_
  refine c_true rfl ?_
  refine c_skip ?_
  refine tq_n ?_
  refine c_seq ?_
  refine c_block ?_
  refine c_seqR ?_
  refine ops_cons rfl (ow_fieldAddrB off28_3 rfl rfl ?_)
  refine ops_cons rfl (ow_loadB b1 ti26 rfl rfl ?_)
  refine ops_cons rfl (ow_move rfl ?_)
  refine ops_cons rfl (ow_indexT hm.ss SlotI.len rfl el26 rfl rfl rfl hx rfl ?_)
  refine ops_cons rfl (ow_fieldAddr off89_3 rfl ?_)
  refine ops_cons rfl (ow_fieldAddr off67_1 rfl ?_)
  refine ops_cons rfl (ow_loadTFF hm.ss SlotI.len hx ti2 rfl rfl rfl ?_)
  refine ops_cons rfl (ow_eql2 rfl rfl (fun hc3 => ?_) (fun hc3 => ?_))
  refine ops_cons rfl (ow_move rfl ?_)
  refine ops_want rfl rfl rfl (ow_fieldAddrB off28_3 rfl rfl ?_)
  refine ops_want rfl rfl rfl (ow_loadB b1 ti26 rfl rfl ?_)
  refine ops_want rfl rfl rfl (ow_move rfl ?_)
  refine ops_want rfl rfl rfl (ow_indexT hm.ss SlotI.len rfl el26 rfl rfl rfl hx rfl ?_)
  refine ops_want rfl rfl rfl (ow_fieldAddr off89_0 rfl ?_)
  refine ops_want rfl rfl rfl (ow_loadTF hm.ss SlotI.len hx ti2 rfl rfl rfl ?_)
  refine ops_want rfl rfl rfl (ow_neq2 rfl rfl (fun hc4 => ?_) (fun hc4 => ?_))
  have hCo : coldB m.ss = true := by rw [hi2, dx]; simp [coldB, *]
  refine ops_cons rfl (ow_pick rfl rfl ?_)
  refine ops_nil ?_
  refine c_true rfl ?_
  refine c_seqR ?_
  refine ops_cons rfl (ow_assign rfl ?_)
  refine ops_nil ?_
  refine c_ret ?_
  refine bq_r ?_
  refine tq_r ?_
  refine tq_r ?_
  refine bq_r ?_
  refine tq_r ?_
  refine fin_ret1 rfl rfl ?_
  · skip
    refine ⟨congrArg (Value.int .i64) ?_, X⟩
    rw [ff_eq]
    try clear hi
    try clear hi2
    simp [*]
  refine ops_cons rfl (ow_pick rfl rfl ?_)
  refine ops_nil ?_
  refine c_false rfl ?_
  refine c_skip ?_
  refine bq_n ?_
  refine tq_n ?_
  refine c_region ?_
  refine ops_cons rfl (ow_move rfl ?_)
  refine ops_cons rfl (ow_add rfl rfl (w64 (by omega)) ?_)
  refine ops_cons rfl (ow_assign rfl ?_)
  refine ops_nil ?_
  refine tq_n ⟨j + 1, (.cons rfl (.cons rfl (.nil _))), ?_, ?_⟩
  · exact ⟨by omega, (by rw [hi2, dx]; simp [coldB, *]), hm, b1, X⟩
  · first | omega | (dsimp only; omega)
  refine ops_cons rfl (ow_move rfl ?_)
  refine ops_skip rfl rfl rfl rfl ?_
  refine ops_skip rfl rfl rfl rfl ?_
  refine ops_skip rfl rfl rfl rfl ?_
  refine ops_skip rfl rfl rfl rfl ?_
  refine ops_skip rfl rfl rfl rfl ?_
  refine ops_skip rfl rfl rfl rfl ?_
  refine ops_skip rfl rfl rfl rfl ?_
  refine ops_cons rfl (ow_pick rfl rfl ?_)
  refine ops_nil ?_
  refine c_false rfl ?_
  refine c_skip ?_
  refine bq_n ?_
  refine tq_n ?_
  refine c_region ?_
  refine ops_cons rfl (ow_move rfl ?_)
  refine ops_cons rfl (ow_add rfl rfl (w64 (by omega)) ?_)
  refine ops_cons rfl (ow_assign rfl ?_)
  refine ops_nil ?_
  refine tq_n ⟨j + 1, (.cons rfl (.cons rfl (.nil _))), ?_, ?_⟩
  · exact ⟨by omega, (by rw [hi2, dx]; simp [coldB, *]), hm, b1, X⟩
  · first | omega | (dsimp only; omega)
  have hCo : coldB m.ss = false := by rw [hi2, drop_end hj]; rfl
  refine ops_nil ?_
  refine c_false rfl ?_
  refine c_exit ?_
  refine tq_e ?_
  refine tq_e ?_
  refine bq_e ?_
  refine tq_n ?_
  refine c_seqR ?_
  refine ops_cons rfl (ow_assign rfl ?_)
  refine ops_nil ?_
  refine c_ret ?_
  refine fin_ret1 rfl rfl ?_
  · skip
    refine ⟨congrArg (Value.int .i64) ?_, X⟩
    rw [ff_eq]
    try clear hi
    try clear hi2
    simp [*]
  replace hm := hm.ext x22
  replace b1 := b1.ext x22
  replace X := Ext.trans X x22; clear x22
  refine ops_cons rfl (ow_not rfl ?_)
  refine ops_nil ?_
  refine c_true rfl ?_
  refine c_seqR ?_
  refine ops_cons rfl (ow_assign rfl ?_)
  refine ops_nil ?_
  refine c_ret ?_
  refine tq_r ?_
  refine fin_ret1 rfl rfl ?_
  · skip
    refine ⟨congrArg (Value.int .i64) ?_, X⟩
    rw [ff_eq]
    try clear hi
    try clear hi2
    simp [*]
  replace hm := hm.ext x18
  replace b1 := b1.ext x18
  replace X := Ext.trans X x18; clear x18
  refine ops_cons rfl (ow_not rfl ?_)
  refine ops_cons rfl (ow_assign rfl ?_)
  refine ops_nil ?_
  refine c_true rfl ?_
  refine c_seqR ?_
  refine ops_cons rfl (ow_assign rfl ?_)
  refine ops_nil ?_
  refine c_ret ?_
  refine bq_r ?_
  refine tq_r ?_
  refine fin_ret1 rfl rfl ?_
  · skip
    refine ⟨congrArg (Value.int .i64) ?_, X⟩
    rw [ff_eq]
    try clear hi
    try clear hi2
    simp [*]
  replace hm := hm.ext x16
  replace b1 := b1.ext x16
  replace X := Ext.trans X x16; clear x16
  refine ops_cons rfl (ow_not rfl ?_)
  refine ops_cons rfl (ow_assign rfl ?_)
  refine ops_nil ?_
  refine c_true rfl ?_
  refine c_seqR ?_
  refine ops_cons rfl (ow_assign rfl ?_)
  refine ops_nil ?_
  refine c_ret ?_
  refine bq_r ?_
  refine tq_r ?_
  refine fin_ret1 rfl rfl ?_
  · skip
    refine ⟨congrArg (Value.int .i64) ?_, X⟩
    rw [ff_eq]
    try clear hi
    try clear hi2
    simp [*]
  replace hm := hm.ext x14
  replace b1 := b1.ext x14
  replace X := Ext.trans X x14; clear x14
  refine ops_cons rfl (ow_not rfl ?_)
  refine ops_cons rfl (ow_assign rfl ?_)
  refine ops_nil ?_
  refine c_true rfl ?_
  refine c_seqR ?_
  refine ops_cons rfl (ow_assign rfl ?_)
  refine ops_nil ?_
  refine c_ret ?_
  refine bq_r ?_
  refine tq_r ?_
  refine fin_ret1 rfl rfl ?_
  · skip
    refine ⟨congrArg (Value.int .i64) ?_, X⟩
    rw [ff_eq]
    try clear hi
    try clear hi2
    simp [*]
  replace hm := hm.ext x12
  replace b1 := b1.ext x12
  replace X := Ext.trans X x12; clear x12
  refine ops_cons rfl (ow_not rfl ?_)
  refine ops_cons rfl (ow_assign rfl ?_)
  refine ops_nil ?_
  refine c_true rfl ?_
  refine c_seqR ?_
  refine ops_cons rfl (ow_assign rfl ?_)
  refine ops_nil ?_
  refine c_ret ?_
  refine bq_r ?_
  refine tq_r ?_
  refine fin_ret1 rfl rfl ?_
  · skip
    refine ⟨congrArg (Value.int .i64) ?_, X⟩
    rw [ff_eq]
    try clear hi
    try clear hi2
    simp [*]
  replace hm := hm.ext x10
  replace b1 := b1.ext x10
  replace X := Ext.trans X x10; clear x10
  refine ops_cons rfl (ow_not rfl ?_)
  refine ops_cons rfl (ow_assign rfl ?_)
  refine ops_nil ?_
  refine c_true rfl ?_
  refine c_seqR ?_
  refine ops_cons rfl (ow_assign rfl ?_)
  refine ops_nil ?_
  refine c_ret ?_
  refine bq_r ?_
  refine tq_r ?_
  refine fin_ret1 rfl rfl ?_
  · skip
    refine ⟨congrArg (Value.int .i64) ?_, X⟩
    rw [ff_eq]
    try clear hi
    try clear hi2
    simp [*]
  replace hm := hm.ext x7
  replace b1 := b1.ext x7
  replace X := Ext.trans X x7; clear x7
  refine ops_cons rfl (ow_not rfl ?_)
  refine ops_cons rfl (ow_assign rfl ?_)
  refine ops_nil ?_
  refine c_true rfl ?_
  refine c_seqR ?_
  refine ops_cons rfl (ow_assign rfl ?_)
  refine ops_nil ?_
  refine c_ret ?_
  refine bq_r ?_
  refine tq_r ?_
  refine fin_ret1 rfl rfl ?_
  · skip
    refine ⟨congrArg (Value.int .i64) ?_, X⟩
    rw [ff_eq]
    try clear hi
    try clear hi2
    simp [*]
  replace hm := hm.ext x5
  replace b1 := b1.ext x5
  replace X := Ext.trans X x5; clear x5
  refine ops_cons rfl (ow_not rfl ?_)
  refine ops_cons rfl (ow_assign rfl ?_)
  refine ops_nil ?_
  refine c_true rfl ?_
  refine c_seqR ?_
  refine ops_cons rfl (ow_assign rfl ?_)
  refine ops_nil ?_
  refine c_ret ?_
  refine bq_r ?_
  refine tq_r ?_
  refine fin_ret1 rfl rfl ?_
  · skip
    refine ⟨congrArg (Value.int .i64) ?_, X⟩
    rw [ff_eq]
    try clear hi
    try clear hi2
    simp [*]

theorem idxG_c (A : Option Addr) (B c : Nat) (xs : List SlotI) (F : FuncId) (cv : List Value) (p : SlotI → Bool) (S : World → Prop) (w : World) (hs : Sl B w A (xs.flatMap SlotI.cells)) (hl : xs.length ≤ 1048576) (entG : Enters Tryz.prog F) (hS : Kept S w) (hf : ∀ (x : SlotI) (w1 : World), S w1 → x ∈ xs → Calls Tryz.prog F (.agg x.cells.toArray :: cv).toArray w1 (Ret fun v w2 => v = .bool (p x) ∧ Ext w1 w2)) :
    Calls Tryz.prog 190 #[.slice A xs.length c, .func (.func F) #[] cv.toArray] w (Ret fun v w' => v = .int .i64 (findS p 0 xs) ∧ Ext w w') := by
  have Bhs := hs.1
  have X := Ext.refl w
  refine calls_of (args := [.slice A xs.length c, .func (.func F) #[] cv.toArray]) Tryz.func190 Tryz.ntmps190 rfl rfl ?_
  refine c_seqR ?_
  refine ops_cons rfl (ow_assign rfl ?_)
  refine ops_nil ?_
  refine c_seq ?_
  refine c_seqR ?_
  refine ops_cons rfl (ow_move rfl ?_)
  refine ops_cons rfl (ow_len Tryz.underlying26 rfl ?_)
  refine ops_cons rfl (ow_move rfl ?_)
  refine ops_nil ?_
  refine c_block ?_
  refine c_loop (G := Nat) (fun k => [(0, .slice A xs.length c), (1, .func (.func F) #[] cv.toArray), (7, .int .i64 (xs.length : Nat)), (8, .int .i64 (k : Nat))]) (fun k wr => k ≤ xs.length ∧ findS p 0 xs = findS p (k : Int) (xs.drop k) ∧ Sl B wr A (xs.flatMap SlotI.cells) ∧ Kept S wr ∧ Ext w wr) (fun k => xs.length - k) 0 (.cons rfl (.cons rfl (.cons rfl (.cons rfl (.nil _))))) ?_ ?_
  · exact ⟨by omega, rfl, hs, hS, X⟩
  clear hs hS
  clear X
  rintro k wr ⟨hk0, hi, hs, hS, X⟩
  refine c_seqR ?_
  refine ops_cons rfl (ow_lss2 rfl rfl (fun hk => ?_) (fun hk => ?_))
  obtain ⟨x, hx, dx⟩ := drop_at' hk
  refine ops_nil ?_
  refine c_seq ?_
  refine c_true rfl ?_
  refine c_skip ?_
  refine tq_n ?_
  refine c_seq ?_
  refine c_block ?_
  refine c_seqR ?_
  refine ops_cons rfl (ow_move rfl ?_)
  refine ops_cons rfl (ow_assign rfl ?_)
  refine ops_nil ?_
  refine c_seqR ?_
  refine ops_cons rfl (ow_move rfl ?_)
  refine ops_cons rfl (ow_move rfl ?_)
  refine ops_cons rfl (ow_move rfl ?_)
  refine ops_cons rfl (ow_indexT hs SlotI.len rfl el26 rfl rfl rfl hx rfl ?_)
  refine ops_cons rfl (ow_loadTA hs SlotI.len hx ti89 rfl ?_)
  refine ops_cons rfl (ow_callVLB entG rfl rfl (hf x _ hS.h (List.mem_of_getElem? hx)) (fun w2 hF x1 => ?_) (fun w2 hF x1 => ?_))
  replace hs := hs.ext x1
  replace hS := hS.ext x1
  replace X := Ext.trans X x1; clear x1
  refine ops_nil ?_
  refine c_true rfl ?_
  refine c_seqR ?_
  refine ops_cons rfl (ow_move rfl ?_)
  refine ops_cons rfl (ow_assign rfl ?_)
  refine ops_nil ?_
  refine c_ret ?_
  refine bq_r ?_
  refine tq_r ?_
  refine tq_r ?_
  refine bq_r ?_
  refine tq_r ?_
  refine fin_ret1 rfl rfl ?_
  · skip
    refine ⟨congrArg (Value.int .i64) ?_, X⟩
    first | (rw [hi, drop_end hk]; rfl) | (rw [hi, dx, findS, if_pos hF])
  replace hs := hs.ext x1
  replace hS := hS.ext x1
  replace X := Ext.trans X x1; clear x1
  refine ops_nil ?_
  refine c_false rfl ?_
  refine c_skip ?_
  refine bq_n ?_
  refine tq_n ?_
  refine c_region ?_
  refine ops_cons rfl (ow_add rfl rfl (w64 (by omega)) ?_)
  refine ops_cons rfl (ow_move rfl ?_)
  refine ops_nil ?_
  refine tq_n ⟨k + 1, (.cons rfl (.cons rfl (.cons rfl (.cons rfl (.nil _))))), ?_, ?_⟩
  · exact ⟨by omega, (by rw [hi, dx, findS, if_neg (by simp [*])]; rfl), hs, hS, X⟩
  · first | omega | (dsimp only; omega)
  refine ops_nil ?_
  refine c_seq ?_
  refine c_false rfl ?_
  refine c_exit ?_
  refine tq_e ?_
  refine tq_e ?_
  refine bq_e ?_
  refine tq_n ?_
  refine c_seqR ?_
  refine ops_cons rfl (ow_assign rfl ?_)
  refine ops_nil ?_
  refine c_ret ?_
  refine fin_ret1 rfl rfl ?_
  · skip
    refine ⟨congrArg (Value.int .i64) ?_, X⟩
    first | (rw [hi, drop_end hk]; rfl) | (rw [hi, dx, findS, if_pos hF])

theorem ctG_c (A : Option Addr) (B c : Nat) (xs : List SlotI) (F : FuncId) (cv : List Value) (p : SlotI → Bool) (S : World → Prop) (w : World) (hs : Sl B w A (xs.flatMap SlotI.cells)) (hl : xs.length ≤ 1048576) (entG : Enters Tryz.prog F) (hS : Kept S w) (hf : ∀ (x : SlotI) (w1 : World), S w1 → x ∈ xs → Calls Tryz.prog F (.agg x.cells.toArray :: cv).toArray w1 (Ret fun v w2 => v = .bool (p x) ∧ Ext w1 w2)) :
    Calls Tryz.prog 186 #[.slice A xs.length c, .func (.func F) #[] cv.toArray] w (Ret fun v w' => v = .bool (xs.any p) ∧ Ext w w') := by
  have Bhs := hs.1
  have X := Ext.refl w
  refine calls_of (args := [.slice A xs.length c, .func (.func F) #[] cv.toArray]) Tryz.func186 Tryz.ntmps186 rfl rfl ?_
  refine c_seqR ?_
  refine ops_cons rfl (ow_assign rfl ?_)
  refine ops_nil ?_
  refine c_seqR ?_
  refine ops_cons rfl (ow_move rfl ?_)
  refine ops_cons rfl (ow_move rfl ?_)
  refine ops_cons rfl (ow_call ent190 rfl (ret_mono (idxG_c _ _ _ _ F cv p S _ hs hl entG hS hf) ?_))
  rintro _ w2 ⟨rfl, x1⟩
  replace hs := hs.ext x1
  replace hS := hS.ext x1
  replace X := Ext.trans X x1; clear x1
  refine ops_cons rfl (ow_geq rfl rfl ?_)
  refine ops_cons rfl (ow_assign rfl ?_)
  refine ops_nil ?_
  refine c_ret ?_
  refine fin_ret1 rfl rfl ?_
  exact ⟨congrArg Value.bool (findS_any p xs 0 (by omega)), X⟩

theorem stranger_c (x : SlotI) (gM : Nat) (m : MedlI) (B : Nat) (w : World) (hm : Med B w m) (hz : m.small) (bM : Blk w gM 28 m.cells) (hN : isNT m.ns = true) (hx : slotOk x = true) :
    Calls Tryz.prog 183 #[.agg x.cells.toArray, .pointer (some ⟨gM, 0, none⟩)] w (Ret fun v w' => v = .bool (!hasN (actV m.ns) x.desc.node) ∧ Ext w w') := by
  have hls := hz.ls
  have hlm := hz.lm
  have hln := hz.ln
  have hac := actV_lt hN
  have hxs := slotI hx
  have Bhm := hm.1
  have X := Ext.refl w
  refine calls_of (args := [.agg x.cells.toArray, .pointer (some ⟨gM, 0, none⟩)]) Tryz.func183 Tryz.ntmps183 rfl rfl ?_
  refine c_seqR ?_
  refine ops_cons rfl (ow_box rfl rfl ?_)
  intro g4 w3 eg4 b1 x2 zg4
  have lg4 : w.heap.size ≤ g4 := Nat.le_trans X.size (Nat.le_of_eq eg4.symm)
  have pg4hm := Nat.le_trans hm.1 (Nat.le_of_eq eg4.symm)
  have ng4bM := Nat.lt_of_lt_of_eq bM.lt eg4.symm
  replace hm := hm.ext x2
  replace bM := bM.ext x2
  replace X := Ext.trans X x2; clear x2
  refine ops_cons rfl (ow_assign rfl ?_)
  refine ops_nil ?_
  refine c_seqD [false, false, false, false, false, false, false, false, false] mixed (by kernel_rfl) ?_
  refine f_q rfl (fun wq sq => ow_fieldAddrB off28_1 rfl rfl ⟨rfl, Ext.refl _⟩) ?_
  refine f_q rfl (fun wq sq => ow_loadB (bM.ext sq) ti24 rfl rfl ⟨rfl, Ext.refl _⟩) ?_
  refine f_q rfl (fun wq sq => ow_call ent114 rfl (activeVector_c _ _ _ m.ns _ (hm.ext sq).sn hln (isNT_ids hN))) ?_
  refine f_q rfl (fun wq sq => ow_fieldAddrB off89_3 rfl rfl ⟨rfl, Ext.refl _⟩) ?_
  refine f_q rfl (fun wq sq => ow_fieldAddrB off67_0 rfl rfl ⟨rfl, Ext.refl _⟩) ?_
  refine f_q rfl (fun wq sq => ow_loadB (b1.ext sq) ti2 rfl rfl ⟨rfl, Ext.refl _⟩) ?_
  refine f_q rfl (fun wq sq => ow_call ent117 rfl (has_c _ _ _ hac hxs.2.1)) ?_
  refine f_q rfl (fun wq sq => ow_not rfl ⟨rfl, Ext.refl _⟩) ?_
  refine f_q rfl (fun wq sq => ow_assign rfl ⟨rfl, Ext.refl _⟩) ?_
  refine f_nil (fun w5 sq => ?_)
  have xq := sq
  replace hm := hm.ext xq
  replace bM := bM.ext xq
  replace b1 := b1.ext xq
  replace X := Ext.trans X xq; clear xq sq
  refine ops_nil ?_
  refine c_ret ?_
  refine fin_ret1 rfl rfl ?_
  exact ⟨by rfl, X⟩

theorem cold_c (x : SlotI) (w : World)  :
    Calls Tryz.prog 184 #[.agg x.cells.toArray] w (Ret fun v w' => v = .bool (decide (x.desc.kind = 3) && decide (x.mode ≠ 0)) ∧ Ext w w') := by
  have X := Ext.refl w
  refine calls_of (args := [.agg x.cells.toArray]) Tryz.func184 Tryz.ntmps184 rfl rfl ?_
  refine c_seqR ?_
  refine ops_cons rfl (ow_box rfl rfl ?_)
  intro g4 w3 eg4 b1 x2 zg4
  have lg4 : w.heap.size ≤ g4 := Nat.le_trans X.size (Nat.le_of_eq eg4.symm)
  replace X := Ext.trans X x2; clear x2
  refine ops_cons rfl (ow_assign rfl ?_)
  refine ops_nil ?_
  refine c_seqR ?_
  refine ops_cons rfl (ow_fieldAddrB off89_3 rfl rfl ?_)
  refine ops_cons rfl (ow_fieldAddrB off67_1 rfl rfl ?_)
  refine ops_cons rfl (ow_loadB b1 ti2 rfl rfl ?_)
  refine ops_cons rfl (ow_eql2 rfl rfl (fun h5 => ?_) (fun h5 => ?_))
  refine ops_cons rfl (ow_move rfl ?_)
  refine ops_want rfl rfl rfl (ow_fieldAddrB off89_0 rfl rfl ?_)
  refine ops_want rfl rfl rfl (ow_loadB b1 ti2 rfl rfl ?_)
  refine ops_want rfl rfl rfl (ow_neq rfl rfl ?_)
  refine ops_cons rfl (ow_pick rfl rfl ?_)
  refine ops_cons rfl (ow_assign rfl ?_)
  refine ops_nil ?_
  refine c_ret ?_
  refine fin_ret1 rfl rfl ?_
  exact ⟨by simp [*], X⟩
  refine ops_cons rfl (ow_move rfl ?_)
  refine ops_skip rfl rfl rfl rfl ?_
  refine ops_skip rfl rfl rfl rfl ?_
  refine ops_skip rfl rfl rfl rfl ?_
  refine ops_cons rfl (ow_pick rfl rfl ?_)
  refine ops_cons rfl (ow_assign rfl ?_)
  refine ops_nil ?_
  refine c_ret ?_
  refine fin_ret1 rfl rfl ?_
  exact ⟨by simp [*], X⟩

theorem iFF_c (m : MedlI) (B : Nat) (w : World) (hm : Med B w m) (hz : m.small) :
    Calls Tryz.prog 105 #[.agg m.cells.toArray] w (Ret fun v w' => v = .int .i64 (ffault m.d) ∧ Ext w w') := by
  have hls := hz.ls
  have hlm := hz.lm
  have hln := hz.ln
  have hl := hls
  have Bhm := hm.1
  have X := Ext.refl w
  refine calls_of (args := [.agg m.cells.toArray]) Tryz.func105 Tryz.ntmps105 rfl rfl ?_
  refine c_seqR ?_
  refine ops_cons rfl (ow_box rfl rfl ?_)
  intro gM w2 egM bM x1 zgM
  have lgM : w.heap.size ≤ gM := Nat.le_trans X.size (Nat.le_of_eq egM.symm)
  have pgMhm := Nat.le_trans hm.1 (Nat.le_of_eq egM.symm)
  replace hm := hm.ext x1
  replace X := Ext.trans X x1; clear x1
  refine ops_cons rfl (ow_assign rfl ?_)
  refine ops_nil ?_
  refine c_seqR ?_
  refine ops_cons rfl (ow_makeFunc rfl ?_)
  refine ops_cons rfl (ow_assign rfl ?_)
  refine ops_nil ?_
  refine c_seqR ?_
  refine ops_cons rfl (ow_assign rfl ?_)
  refine ops_nil ?_
  refine c_seq ?_
  refine c_block ?_
  refine c_seqR ?_
  refine ops_cons rfl (ow_fieldAddrB off28_0 rfl rfl ?_)
  refine ops_cons rfl (ow_loadB bM ti2 rfl rfl ?_)
  refine ops_cons rfl (ow_callB ent109 rfl (within_c _ _ _ _) (fun w4 hI x3 => ?_) (fun w4 hI x3 => ?_))
  replace hm := hm.ext x3
  replace bM := bM.ext x3
  replace X := Ext.trans X x3; clear x3
  refine ops_cons rfl (ow_not rfl ?_)
  refine ops_cons rfl (ow_assign rfl ?_)
  refine ops_nil ?_
  refine c_false rfl ?_
  refine c_seqR ?_
  refine ops_cons rfl (ow_fieldAddrB off28_1 rfl rfl ?_)
  refine ops_cons rfl (ow_loadB bM ti24 rfl rfl ?_)
  refine ops_cons rfl (ow_callB ent113 rfl (iIsNT_c _ _ _ m.ns hm.kn _ hm.sn hln (fun x hx => by have := hz.lz x hx; omega)) (fun w6 hN x5 => ?_) (fun w6 hN x5 => ?_))
  replace hm := hm.ext x5
  replace bM := bM.ext x5
  replace X := Ext.trans X x5; clear x5
  refine ops_cons rfl (ow_not rfl ?_)
  refine ops_cons rfl (ow_assign rfl ?_)
  refine ops_nil ?_
  refine c_false rfl ?_
  refine c_seqR ?_
  refine ops_cons rfl (ow_fieldAddrB off28_2 rfl rfl ?_)
  refine ops_cons rfl (ow_loadB bM ti25 rfl rfl ?_)
  refine ops_cons rfl (ow_callB ent163 rfl (iIsMT_c _ _ _ _ _ _ hm.sm hm.sx hlm hz.lx) (fun w9 hT x7 => ?_) (fun w9 hT x7 => ?_))
  replace hm := hm.ext x7
  replace bM := bM.ext x7
  replace X := Ext.trans X x7; clear x7
  refine ops_cons rfl (ow_not rfl ?_)
  refine ops_cons rfl (ow_assign rfl ?_)
  refine ops_nil ?_
  refine c_false rfl ?_
  refine c_seqR ?_
  refine ops_cons rfl (ow_fieldAddrB off28_3 rfl rfl ?_)
  refine ops_cons rfl (ow_loadB bM ti26 rfl rfl ?_)
  refine ops_cons rfl (ow_callB ent165 rfl (iIsST_c _ _ _ _ _ hm.ss hl) (fun w11 hS x10 => ?_) (fun w11 hS x10 => ?_))
  replace hm := hm.ext x10
  replace bM := bM.ext x10
  replace X := Ext.trans X x10; clear x10
  have hok := isST_all hS
  refine ops_cons rfl (ow_not rfl ?_)
  refine ops_cons rfl (ow_assign rfl ?_)
  refine ops_nil ?_
  refine c_false rfl ?_
  refine c_seqR ?_
  refine ops_cons rfl (ow_loadAB bM ti28 rfl rfl ?_)
  refine ops_cons rfl (ow_callB ent185 rfl (isComplete_c m _ _ hm hz hT hS) (fun w13 hC x12 => ?_) (fun w13 hC x12 => ?_))
  replace hm := hm.ext x12
  replace bM := bM.ext x12
  replace X := Ext.trans X x12; clear x12
  refine ops_cons rfl (ow_not rfl ?_)
  refine ops_cons rfl (ow_assign rfl ?_)
  refine ops_nil ?_
  refine c_false rfl ?_
  refine c_seqR ?_
  refine ops_cons rfl (ow_fieldAddrB off28_3 rfl rfl ?_)
  refine ops_cons rfl (ow_loadB bM ti26 rfl rfl ?_)
  refine ops_cons rfl (ow_move rfl ?_)
  refine ops_cons rfl (ow_callB ent186 rfl (ctG_c _ B m.cs m.ss 183 [.pointer (some ⟨gM, 0, none⟩)] (fun x => !hasN (actV m.ns) x.desc.node) (fun w => Med B w m ∧ Blk w gM 28 m.cells) _ hm.ss hls ent183 ⟨(fun _ _ h k => ⟨h.1.ext k, h.2.ext k⟩), hm, bM⟩ (fun x w1 h1 hx => stranger_c x gM m B w1 h1.1 hz h1.2 hN (hok x hx))) (fun w15 hE x14 => ?_) (fun w15 hE x14 => ?_))
  replace hm := hm.ext x14
  replace bM := bM.ext x14
  replace X := Ext.trans X x14; clear x14
  have hE2 : sendersB m.d = false := by rw [senders_any] at hE; simpa using hE
  refine ops_cons rfl (ow_assign rfl ?_)
  refine ops_nil ?_
  refine c_true rfl ?_
  refine c_seqR ?_
  refine ops_cons rfl (ow_assign rfl ?_)
  refine ops_nil ?_
  refine c_ret ?_
  refine bq_r ?_
  refine tq_r ?_
  refine fin_ret1 rfl rfl ?_
  · skip
    refine ⟨congrArg (Value.int .i64) ?_, X⟩
    rw [ff_eq]
    try clear hi
    try clear hi2
    simp [*]
  replace hm := hm.ext x14
  replace bM := bM.ext x14
  replace X := Ext.trans X x14; clear x14
  have hE2 : sendersB m.d = true := by rw [senders_any] at hE; simpa using hE
  refine ops_cons rfl (ow_assign rfl ?_)
  refine ops_nil ?_
  refine c_false rfl ?_
  refine c_seqR ?_
  refine ops_cons rfl (ow_loadAB bM ti28 rfl rfl ?_)
  refine ops_cons rfl (ow_callB ent187 rfl (isSteady_c m _ _ hm hz hT hS hC) (fun w17 hD x16 => ?_) (fun w17 hD x16 => ?_))
  replace hm := hm.ext x16
  replace bM := bM.ext x16
  replace X := Ext.trans X x16; clear x16
  refine ops_cons rfl (ow_not rfl ?_)
  refine ops_cons rfl (ow_assign rfl ?_)
  refine ops_nil ?_
  refine c_false rfl ?_
  refine c_seqR ?_
  refine ops_cons rfl (ow_loadAB bM ti28 rfl rfl ?_)
  refine ops_cons rfl (ow_callB ent188 rfl (isShort_c m _ _ hm hz hok) (fun w19 hSh x18 => ?_) (fun w19 hSh x18 => ?_))
  replace hm := hm.ext x18
  replace bM := bM.ext x18
  replace X := Ext.trans X x18; clear x18
  refine ops_cons rfl (ow_not rfl ?_)
  refine ops_cons rfl (ow_assign rfl ?_)
  refine ops_nil ?_
  refine c_false rfl ?_
  refine c_seqR ?_
  refine ops_cons rfl (ow_loadAB bM ti28 rfl rfl ?_)
  refine ops_cons rfl (ow_callB ent189 rfl (allSend_c m _ _ hm hz hok hN hT) (fun w21 hV x20 => ?_) (fun w21 hV x20 => ?_))
  replace hm := hm.ext x20
  replace bM := bM.ext x20
  replace X := Ext.trans X x20; clear x20
  rw [serv_eq (act := actV m.ns) (ss := m.ss) hE2] at hV
  refine ops_cons rfl (ow_not rfl ?_)
  refine ops_cons rfl (ow_assign rfl ?_)
  refine ops_nil ?_
  refine c_false rfl ?_
  refine c_seqR ?_
  refine ops_cons rfl (ow_fieldAddrB off28_3 rfl rfl ?_)
  refine ops_cons rfl (ow_loadB bM ti26 rfl rfl ?_)
  refine ops_cons rfl (ow_move rfl ?_)
  refine ops_cons rfl (ow_callB ent186 rfl (ctG_c _ B m.cs m.ss 184 [] (fun x => decide (x.desc.kind = 3) && decide (x.mode ≠ 0)) (fun _ => True) _ hm.ss hls ent184 ⟨(fun _ _ _ _ => trivial), trivial⟩ (fun x w1 _ _ => cold_c x w1)) (fun w23 hCo x22 => ?_) (fun w23 hCo x22 => ?_))
  replace hm := hm.ext x22
  replace bM := bM.ext x22
  replace X := Ext.trans X x22; clear x22
  have hCo2 : coldB m.ss = true := hCo
  refine ops_cons rfl (ow_assign rfl ?_)
  refine ops_nil ?_
  refine c_true rfl ?_
  refine c_seqR ?_
  refine ops_cons rfl (ow_assign rfl ?_)
  refine ops_nil ?_
  refine c_ret ?_
  refine bq_r ?_
  refine tq_r ?_
  refine fin_ret1 rfl rfl ?_
  · skip
    refine ⟨congrArg (Value.int .i64) ?_, X⟩
    rw [ff_eq]
    try clear hi
    try clear hi2
    simp [*]
  replace hm := hm.ext x22
  replace bM := bM.ext x22
  replace X := Ext.trans X x22; clear x22
  have hCo2 : coldB m.ss = false := hCo
  refine ops_cons rfl (ow_assign rfl ?_)
  refine ops_nil ?_
  refine c_false rfl ?_
  refine c_skip ?_
  refine bq_n ?_
  refine tq_n ?_
  refine c_seqR ?_
  refine ops_cons rfl (ow_assign rfl ?_)
  refine ops_nil ?_
  refine c_ret ?_
  refine fin_ret1 rfl rfl ?_
  · skip
    refine ⟨congrArg (Value.int .i64) ?_, X⟩
    rw [ff_eq]
    try clear hi
    try clear hi2
    simp [*]
  replace hm := hm.ext x20
  replace bM := bM.ext x20
  replace X := Ext.trans X x20; clear x20
  rw [serv_eq (act := actV m.ns) (ss := m.ss) hE2] at hV
  refine ops_cons rfl (ow_not rfl ?_)
  refine ops_cons rfl (ow_assign rfl ?_)
  refine ops_nil ?_
  refine c_true rfl ?_
  refine c_seqR ?_
  refine ops_cons rfl (ow_assign rfl ?_)
  refine ops_nil ?_
  refine c_ret ?_
  refine bq_r ?_
  refine tq_r ?_
  refine fin_ret1 rfl rfl ?_
  · skip
    refine ⟨congrArg (Value.int .i64) ?_, X⟩
    rw [ff_eq]
    try clear hi
    try clear hi2
    simp [*]
  replace hm := hm.ext x18
  replace bM := bM.ext x18
  replace X := Ext.trans X x18; clear x18
  refine ops_cons rfl (ow_not rfl ?_)
  refine ops_cons rfl (ow_assign rfl ?_)
  refine ops_nil ?_
  refine c_true rfl ?_
  refine c_seqR ?_
  refine ops_cons rfl (ow_assign rfl ?_)
  refine ops_nil ?_
  refine c_ret ?_
  refine bq_r ?_
  refine tq_r ?_
  refine fin_ret1 rfl rfl ?_
  · skip
    refine ⟨congrArg (Value.int .i64) ?_, X⟩
    rw [ff_eq]
    try clear hi
    try clear hi2
    simp [*]
  replace hm := hm.ext x16
  replace bM := bM.ext x16
  replace X := Ext.trans X x16; clear x16
  refine ops_cons rfl (ow_not rfl ?_)
  refine ops_cons rfl (ow_assign rfl ?_)
  refine ops_nil ?_
  refine c_true rfl ?_
  refine c_seqR ?_
  refine ops_cons rfl (ow_assign rfl ?_)
  refine ops_nil ?_
  refine c_ret ?_
  refine bq_r ?_
  refine tq_r ?_
  refine fin_ret1 rfl rfl ?_
  · skip
    refine ⟨congrArg (Value.int .i64) ?_, X⟩
    rw [ff_eq]
    try clear hi
    try clear hi2
    simp [*]
  replace hm := hm.ext x12
  replace bM := bM.ext x12
  replace X := Ext.trans X x12; clear x12
  refine ops_cons rfl (ow_not rfl ?_)
  refine ops_cons rfl (ow_assign rfl ?_)
  refine ops_nil ?_
  refine c_true rfl ?_
  refine c_seqR ?_
  refine ops_cons rfl (ow_assign rfl ?_)
  refine ops_nil ?_
  refine c_ret ?_
  refine bq_r ?_
  refine tq_r ?_
  refine fin_ret1 rfl rfl ?_
  · skip
    refine ⟨congrArg (Value.int .i64) ?_, X⟩
    rw [ff_eq]
    try clear hi
    try clear hi2
    simp [*]
  replace hm := hm.ext x10
  replace bM := bM.ext x10
  replace X := Ext.trans X x10; clear x10
  refine ops_cons rfl (ow_not rfl ?_)
  refine ops_cons rfl (ow_assign rfl ?_)
  refine ops_nil ?_
  refine c_true rfl ?_
  refine c_seqR ?_
  refine ops_cons rfl (ow_assign rfl ?_)
  refine ops_nil ?_
  refine c_ret ?_
  refine bq_r ?_
  refine tq_r ?_
  refine fin_ret1 rfl rfl ?_
  · skip
    refine ⟨congrArg (Value.int .i64) ?_, X⟩
    rw [ff_eq]
    try clear hi
    try clear hi2
    simp [*]
  replace hm := hm.ext x7
  replace bM := bM.ext x7
  replace X := Ext.trans X x7; clear x7
  refine ops_cons rfl (ow_not rfl ?_)
  refine ops_cons rfl (ow_assign rfl ?_)
  refine ops_nil ?_
  refine c_true rfl ?_
  refine c_seqR ?_
  refine ops_cons rfl (ow_assign rfl ?_)
  refine ops_nil ?_
  refine c_ret ?_
  refine bq_r ?_
  refine tq_r ?_
  refine fin_ret1 rfl rfl ?_
  · skip
    refine ⟨congrArg (Value.int .i64) ?_, X⟩
    rw [ff_eq]
    try clear hi
    try clear hi2
    simp [*]
  replace hm := hm.ext x5
  replace bM := bM.ext x5
  replace X := Ext.trans X x5; clear x5
  refine ops_cons rfl (ow_not rfl ?_)
  refine ops_cons rfl (ow_assign rfl ?_)
  refine ops_nil ?_
  refine c_true rfl ?_
  refine c_seqR ?_
  refine ops_cons rfl (ow_assign rfl ?_)
  refine ops_nil ?_
  refine c_ret ?_
  refine bq_r ?_
  refine tq_r ?_
  refine fin_ret1 rfl rfl ?_
  · skip
    refine ⟨congrArg (Value.int .i64) ?_, X⟩
    rw [ff_eq]
    try clear hi
    try clear hi2
    simp [*]
  replace hm := hm.ext x3
  replace bM := bM.ext x3
  replace X := Ext.trans X x3; clear x3
  refine ops_cons rfl (ow_not rfl ?_)
  refine ops_cons rfl (ow_assign rfl ?_)
  refine ops_nil ?_
  refine c_true rfl ?_
  refine c_seqR ?_
  refine ops_cons rfl (ow_assign rfl ?_)
  refine ops_nil ?_
  refine c_ret ?_
  refine bq_r ?_
  refine tq_r ?_
  refine fin_ret1 rfl rfl ?_
  · skip
    refine ⟨congrArg (Value.int .i64) ?_, X⟩
    rw [ff_eq]
    try clear hi
    try clear hi2
    simp [*]

theorem sIsMedl_c (m : MedlI) (B : Nat) (w : World) (hm : Med B w m) (hz : m.small) :
    Calls Tryz.prog 70 #[.agg m.cells.toArray] w (Ret fun v w' => v = .bool (isMedl m.d) ∧ Ext w w') := by
  have Bhm := hm.1
  have X := Ext.refl w
  refine calls_of (args := [.agg m.cells.toArray]) Tryz.func70 Tryz.ntmps70 rfl rfl ?_
  refine c_seqR ?_
  refine ops_cons rfl (ow_box rfl rfl ?_)
  intro g4 w3 eg4 b1 x2 zg4
  have lg4 : w.heap.size ≤ g4 := Nat.le_trans X.size (Nat.le_of_eq eg4.symm)
  have pg4hm := Nat.le_trans hm.1 (Nat.le_of_eq eg4.symm)
  replace hm := hm.ext x2
  replace X := Ext.trans X x2; clear x2
  refine ops_cons rfl (ow_assign rfl ?_)
  refine ops_nil ?_
  refine c_seqR ?_
  refine ops_cons rfl (ow_loadAB b1 ti28 rfl rfl ?_)
  refine ops_cons rfl (ow_call ent154 rfl (ret_mono (sFF_c m _ _ hm hz) ?_))
  rintro _ w6 ⟨rfl, x5⟩
  replace hm := hm.ext x5
  replace b1 := b1.ext x5
  replace X := Ext.trans X x5; clear x5
  refine ops_cons rfl (ow_eql rfl rfl ?_)
  refine ops_cons rfl (ow_assign rfl ?_)
  refine ops_nil ?_
  refine c_ret ?_
  refine fin_ret1 rfl rfl ?_
  exact ⟨by rfl, X⟩

theorem iIsMedl_c (m : MedlI) (B : Nat) (w : World) (hm : Med B w m) (hz : m.small) :
    Calls Tryz.prog 33 #[.agg m.cells.toArray] w (Ret fun v w' => v = .bool (isMedl m.d) ∧ Ext w w') := by
  have Bhm := hm.1
  have X := Ext.refl w
  refine calls_of (args := [.agg m.cells.toArray]) Tryz.func33 Tryz.ntmps33 rfl rfl ?_
  refine c_seqR ?_
  refine ops_cons rfl (ow_box rfl rfl ?_)
  intro g4 w3 eg4 b1 x2 zg4
  have lg4 : w.heap.size ≤ g4 := Nat.le_trans X.size (Nat.le_of_eq eg4.symm)
  have pg4hm := Nat.le_trans hm.1 (Nat.le_of_eq eg4.symm)
  replace hm := hm.ext x2
  replace X := Ext.trans X x2; clear x2
  refine ops_cons rfl (ow_assign rfl ?_)
  refine ops_nil ?_
  refine c_seqR ?_
  refine ops_cons rfl (ow_loadAB b1 ti28 rfl rfl ?_)
  refine ops_cons rfl (ow_call ent105 rfl (ret_mono (iFF_c m _ _ hm hz) ?_))
  rintro _ w6 ⟨rfl, x5⟩
  replace hm := hm.ext x5
  replace b1 := b1.ext x5
  replace X := Ext.trans X x5; clear x5
  refine ops_cons rfl (ow_eql rfl rfl ?_)
  refine ops_cons rfl (ow_assign rfl ?_)
  refine ops_nil ?_
  refine c_ret ?_
  refine fin_ret1 rfl rfl ?_
  exact ⟨by rfl, X⟩
end Go.Proofs.YtdoibplhbdkapaaGreatDoor
namespace Go.Proofs.YtdoibplhbdkapaaGreatDoor
open Go.RowKit
set_option linter.unusedVariables false
set_option linter.unusedSimpArgs false
set_option maxRecDepth 20000
theorem threeBytes_c (z : Int) (w : World) (hz : 1 ≤ z ∧ z ≤ 16777215) :
    Calls Tryz.prog 147 #[.int .i64 z] w (Ret fun v w' => ∃ A' c', v = .slice A' 3 c' ∧ Own w' w.heap.size 2 1 A' 3 c' ((idB z).flatMap eI) ∧ Ext w w') := by
  have X := Ext.refl w
  refine calls_of (args := [.int .i64 z]) Tryz.func147 Tryz.ntmps147 rfl rfl ?_
  refine c_seqR ?_
  refine ops_cons rfl (ow_assign rfl ?_)
  refine ops_nil ?_
  refine c_seqR ?_
  refine ops_cons rfl (ow_move rfl ?_)
  refine ops_cons rfl (ow_shr rfl rfl (by omega) (shr16 (by omega)) ?_)
  refine ops_cons rfl (ow_move rfl ?_)
  refine ops_cons rfl (ow_shr rfl rfl (by omega) (shr8 (by omega)) ?_)
  refine ops_cons rfl (ow_and rfl rfl (and255 (by omega)) ?_)
  refine ops_cons rfl (ow_move rfl ?_)
  refine ops_cons rfl (ow_and rfl rfl (and255 (by omega)) ?_)
  refine ops_cons rfl (ow_buildSlice el30 ti2 rfl rfl rfl rfl rfl ?_)
  intro g1 w3 eg1 oS bbg1 x2 zg1
  replace oS := Own.low oS X.size
  replace X := Ext.trans X x2; clear x2
  refine ops_cons rfl (ow_assign rfl ?_)
  refine ops_nil ?_
  refine c_ret ?_
  refine fin_ret1 rfl rfl ?_
  exact ⟨_, _, rfl, oS.to rfl, X⟩

theorem l14Bytes_c (m : MedlI) (B : Nat) (w : World) (hm : Med B w m) (hz : m.small) (hI : isMedl m.d = true) :
    Calls Tryz.prog 71 #[.agg m.cells.toArray] w (Ret fun v w' => ∃ A' c', v = .slice A' (schB m.d).length c' ∧ Own w' w.heap.size 2 1 A' (schB m.d).length c' ((schB m.d).flatMap eI) ∧ Ext w w') := by
  have hls := hz.ls
  have hlm := hz.lm
  have hln := hz.ln
  have wf := isMedl_iff.1 hI
  have hid := inB_iff.1 wf.id
  have hid1 : 1 ≤ m.id ∧ m.id ≤ 16777215 := hid
  have hL1 : (ntB m.ns).length ≤ 353 := ntB_le wf.nt
  have hL2 : (mtP (m.ms.map (·.m)) m.ms.length).length ≤ 305 := by have h := mtB_le wf.mt; rwa [show m.d.ms.length = m.ms.length from List.length_map ..] at h
  have hL3 : (stB m.ss).length = 1 + 7 * m.ss.length := stP_len (Nat.le_refl _)
  have hL4 : m.ss.length ≤ 120 := isST_len wf.st
  have hNt : isNT m.ns = true := wf.nt
  have hSt : isST m.ss = true := wf.st
  have eS : schB m.d = idB m.id ++ ntB m.ns ++ (mtP (m.ms.map (·.m)) m.ms.length) ++ stB m.ss := by unfold schB; rw [show m.d.ms.length = m.ms.length from List.length_map ..]; rfl
  have Bhm := hm.1
  have X := Ext.refl w
  refine calls_of (args := [.agg m.cells.toArray]) Tryz.func71 Tryz.ntmps71 rfl rfl ?_
  refine c_seqR ?_
  refine ops_cons rfl (ow_box rfl rfl ?_)
  intro g4 w3 eg4 b1 x2 zg4
  have lg4 : w.heap.size ≤ g4 := Nat.le_trans X.size (Nat.le_of_eq eg4.symm)
  have pg4hm := Nat.le_trans hm.1 (Nat.le_of_eq eg4.symm)
  replace hm := hm.ext x2
  replace X := Ext.trans X x2; clear x2
  refine ops_cons rfl (ow_assign rfl ?_)
  refine ops_nil ?_
  refine c_seqR ?_
  refine ops_cons rfl (ow_fieldAddrB off28_0 rfl rfl ?_)
  refine ops_cons rfl (ow_loadB b1 ti2 rfl rfl ?_)
  refine ops_cons rfl (ow_quo rfl rfl (by omega) (q64 (by omega)) ?_)
  refine ops_cons rfl (ow_fieldAddrB off28_0 rfl rfl ?_)
  refine ops_cons rfl (ow_loadB b1 ti2 rfl rfl ?_)
  refine ops_cons rfl (ow_quo rfl rfl (by omega) (q64 (by omega)) ?_)
  refine ops_cons rfl (ow_rem rfl rfl (by omega) (m64 (by omega)) ?_)
  refine ops_cons rfl (ow_fieldAddrB off28_0 rfl rfl ?_)
  refine ops_cons rfl (ow_loadB b1 ti2 rfl rfl ?_)
  refine ops_cons rfl (ow_rem rfl rfl (by omega) (m64 (by omega)) ?_)
  refine ops_cons rfl (ow_buildSlice el30 ti2 rfl rfl rfl rfl rfl ?_)
  intro g5 w7 eg5 o1 bbg5 x6 zg5
  replace o1 := Own.low o1 X.size
  replace hm := hm.ext x6
  replace b1 := b1.ext x6
  replace X := Ext.trans X x6; clear x6
  replace o1 := o1.to (cs' := (idB m.id).flatMap eI) rfl
  refine ops_cons rfl (ow_assign rfl ?_)
  refine ops_nil ?_
  refine c_seqR ?_
  refine ops_cons rfl (ow_move rfl ?_)
  refine ops_cons rfl (ow_fieldAddrB off28_1 rfl rfl ?_)
  refine ops_cons rfl (ow_loadB b1 ti24 rfl rfl ?_)
  refine ops_cons rfl (ow_call ent155 rfl (ret_mono (l10Bytes_c _ _ _ m.ns _ hm.sn hNt) ?_))
  rintro _ w9 ⟨A10, c11, rfl, oA, x8⟩
  replace oA := Own.low oA X.size
  replace hm := hm.ext x8
  replace b1 := b1.ext x8
  replace o1 := o1.ext x8
  replace X := Ext.trans X x8; clear x8
  refine ops_cons rfl (ow_append (ts := #[]) o1 X.size oA.sl (flat_len eI_len _) (one_ints _) el30 ti2 rfl rfl rfl rfl (by omega) (by omega) ?_)
  intro Ao2 co2 w13 o2 hg12
  replace hm := hm.grown hg12 (fun g hg => Nat.le_trans Bhm (Own.lt o1 hg).1)
  replace b1 := b1.grown hg12 (fun h => Own.neT o1 b1 (by decide) h.symm)
  replace X := X.grown hg12 X.size (fun g hg => (Own.lt o1 hg).1)
  clear hg12
  refine ops_cons rfl (ow_assign rfl ?_)
  refine ops_nil ?_
  refine c_seqR ?_
  refine ops_cons rfl (ow_move rfl ?_)
  refine ops_cons rfl (ow_fieldAddrB off28_2 rfl rfl ?_)
  refine ops_cons rfl (ow_loadB b1 ti25 rfl rfl ?_)
  refine ops_cons rfl (ow_call ent156 rfl (ret_mono (l11Bytes_c _ _ _ _ m.ms _ hm.sm hm.sx hlm hz.lx) ?_))
  rintro _ w15 ⟨A16, c17, rfl, oB, x14⟩
  replace oB := Own.low oB X.size
  replace hm := hm.ext x14
  replace b1 := b1.ext x14
  replace o2 := o2.ext x14
  replace X := Ext.trans X x14; clear x14
  refine ops_cons rfl (ow_append (ts := #[]) o2 X.size oB.sl (flat_len eI_len _) (one_ints _) el30 ti2 rfl rfl rfl rfl (by omega) (by omega) ?_)
  intro Ao3 co3 w19 o3 hg18
  replace hm := hm.grown hg18 (fun g hg => Nat.le_trans Bhm (Own.lt o2 hg).1)
  replace b1 := b1.grown hg18 (fun h => Own.neT o2 b1 (by decide) h.symm)
  replace X := X.grown hg18 X.size (fun g hg => (Own.lt o2 hg).1)
  clear hg18
  refine ops_cons rfl (ow_assign rfl ?_)
  refine ops_nil ?_
  refine c_seqR ?_
  refine ops_cons rfl (ow_move rfl ?_)
  refine ops_cons rfl (ow_fieldAddrB off28_3 rfl rfl ?_)
  refine ops_cons rfl (ow_loadB b1 ti26 rfl rfl ?_)
  refine ops_cons rfl (ow_call ent157 rfl (ret_mono (l12Bytes_c _ _ _ m.ss _ hm.ss hSt) ?_))
  rintro _ w21 ⟨A22, c23, rfl, oC, x20⟩
  replace oC := Own.low oC X.size
  replace hm := hm.ext x20
  replace b1 := b1.ext x20
  replace o3 := o3.ext x20
  replace X := Ext.trans X x20; clear x20
  refine ops_cons rfl (ow_append (ts := #[]) o3 X.size oC.sl (by rw [flat_len eI_len, hL3]) (one_ints _) el30 ti2 rfl rfl rfl rfl (by omega) (by omega) ?_)
  intro Ao4 co4 w25 o4 hg24
  replace hm := hm.grown hg24 (fun g hg => Nat.le_trans Bhm (Own.lt o3 hg).1)
  replace b1 := b1.grown hg24 (fun h => Own.neT o3 b1 (by decide) h.symm)
  replace X := X.grown hg24 X.size (fun g hg => (Own.lt o3 hg).1)
  clear hg24
  refine ops_cons rfl (ow_assign rfl ?_)
  refine ops_nil ?_
  refine c_ret ?_
  refine fin_ret1 rfl rfl ?_
  · skip
    have e1 : (schB m.d).length = 3 + (ntB m.ns).length + (mtP (m.ms.map (·.m)) m.ms.length).length + (1 + 7 * m.ss.length) := by rw [eS, List.length_append, List.length_append, List.length_append, hL3]; rfl
    rw [e1]
    exact ⟨_, _, rfl, o4.to (by rw [eS, List.flatMap_append, List.flatMap_append, List.flatMap_append]), X⟩

theorem scheduleBytes_c (m : MedlI) (B : Nat) (w : World) (hm : Med B w m) (hz : m.small) (hI : isMedl m.d = true) :
    Calls Tryz.prog 68 #[.agg m.cells.toArray] w (Ret fun v w' => ∃ A' c', v = .slice A' (schB m.d).length c' ∧ Own w' w.heap.size 2 1 A' (schB m.d).length c' ((schB m.d).flatMap eI) ∧ Ext w w') := by
  have hls := hz.ls
  have hlm := hz.lm
  have hln := hz.ln
  have wf := isMedl_iff.1 hI
  have hid := inB_iff.1 wf.id
  have hid1 : 1 ≤ m.id ∧ m.id ≤ 16777215 := hid
  have hL1 : (ntB m.ns).length ≤ 353 := ntB_le wf.nt
  have hL2 : (mtP (m.ms.map (·.m)) m.ms.length).length ≤ 305 := by have h := mtB_le wf.mt; rwa [show m.d.ms.length = m.ms.length from List.length_map ..] at h
  have hL3 : (stB m.ss).length = 1 + 7 * m.ss.length := stP_len (Nat.le_refl _)
  have hL4 : m.ss.length ≤ 120 := isST_len wf.st
  have hNt : isNT m.ns = true := wf.nt
  have hSt : isST m.ss = true := wf.st
  have eS : schB m.d = idB m.id ++ ntB m.ns ++ (mtP (m.ms.map (·.m)) m.ms.length) ++ stB m.ss := by unfold schB; rw [show m.d.ms.length = m.ms.length from List.length_map ..]; rfl
  have Bhm := hm.1
  have X := Ext.refl w
  refine calls_of (args := [.agg m.cells.toArray]) Tryz.func68 Tryz.ntmps68 rfl rfl ?_
  refine c_seqR ?_
  refine ops_cons rfl (ow_box rfl rfl ?_)
  intro gM w2 egM bM x1 zgM
  have lgM : w.heap.size ≤ gM := Nat.le_trans X.size (Nat.le_of_eq egM.symm)
  have pgMhm := Nat.le_trans hm.1 (Nat.le_of_eq egM.symm)
  replace hm := hm.ext x1
  replace X := Ext.trans X x1; clear x1
  refine ops_cons rfl (ow_assign rfl ?_)
  refine ops_nil ?_
  refine c_seqI (fun wz => Blk wz gM 28 m.cells) mixed ?_
  obtain ⟨w3, ew3⟩ : ∃ wy, wy = World.drew w2 := ⟨_, rfl⟩
  rw [← ew3]
  have xd : Ext w2 w3 := ew3 ▸ Ext.drew w2
  replace hm := hm.ext xd
  replace bM := bM.ext xd
  replace X := Ext.trans X xd; clear xd ew3
  refine wi_take 0 rfl (by kernel_rfl) rfl (by kernel_rfl) (listed' := #[true, false, false, false, false, false, false, false, false, false, false, false, false, false, false]) rfl (fun wq sq => ow_fieldAddrB off28_0 rfl rfl ⟨rfl, rfl⟩) ?_
  refine wi_take 1 rfl (by kernel_rfl) rfl (by kernel_rfl) (listed' := #[true, true, false, false, false, false, false, false, false, false, false, false, false, false, false]) rfl (fun wq sq => ow_loadB sq ti2 rfl rfl ⟨rfl, rfl⟩) ?_
  refine wi_take 3 rfl (by kernel_rfl) rfl (by kernel_rfl) (listed' := #[true, true, false, true, false, false, false, false, false, false, false, false, false, false, false]) rfl (fun wq sq => ow_fieldAddrB off28_1 rfl rfl ⟨rfl, rfl⟩) ?_
  refine wi_take 4 rfl (by kernel_rfl) rfl (by kernel_rfl) (listed' := #[true, true, false, true, true, false, false, false, false, false, false, false, false, false, false]) rfl (fun wq sq => ow_loadB sq ti24 rfl rfl ⟨rfl, rfl⟩) ?_
  refine wi_take 6 rfl (by kernel_rfl) rfl (by kernel_rfl) (listed' := #[true, true, false, true, true, false, true, false, false, false, false, false, false, false, false]) rfl (fun wq sq => ow_fieldAddrB off28_2 rfl rfl ⟨rfl, rfl⟩) ?_
  refine wi_take 7 rfl (by kernel_rfl) rfl (by kernel_rfl) (listed' := #[true, true, false, true, true, false, true, true, false, false, false, false, false, false, false]) rfl (fun wq sq => ow_loadB sq ti25 rfl rfl ⟨rfl, rfl⟩) ?_
  refine wi_take 9 rfl (by kernel_rfl) rfl (by kernel_rfl) (listed' := #[true, true, false, true, true, false, true, true, false, true, false, false, false, false, false]) rfl (fun wq sq => ow_fieldAddrB off28_3 rfl rfl ⟨rfl, rfl⟩) ?_
  refine wi_take 10 rfl (by kernel_rfl) rfl (by kernel_rfl) (listed' := #[true, true, false, true, true, false, true, true, false, true, true, false, false, false, false]) rfl (fun wq sq => ow_loadB sq ti26 rfl rfl ⟨rfl, rfl⟩) ?_
  refine wi_one 2 rfl rfl (by kernel_rfl) (listed' := #[true, true, true, true, true, false, true, true, false, true, true, false, false, false, false]) rfl bM (ow_call ent147 rfl (ret_mono (threeBytes_c m.id _ hid1) ?_))
  rintro _ w5 ⟨A1, c1, rfl, o1, x4⟩
  replace o1 := Own.low o1 X.size
  replace hm := hm.ext x4
  replace bM := bM.ext x4
  replace X := Ext.trans X x4; clear x4
  refine wi_one 5 rfl rfl (by kernel_rfl) (listed' := #[true, true, true, true, true, true, true, true, false, true, true, false, false, false, false]) rfl bM (ow_call ent148 rfl (ret_mono (nodeTableBytes_c _ _ _ m.ns _ hm.sn hNt) ?_))
  rintro _ w7 ⟨A2, c2, rfl, o2, x6⟩
  replace o2 := Own.low o2 X.size
  replace hm := hm.ext x6
  replace bM := bM.ext x6
  replace o1 := o1.ext x6
  replace X := Ext.trans X x6; clear x6
  refine wi_one 8 rfl rfl (by kernel_rfl) (listed' := #[true, true, true, true, true, true, true, true, true, true, true, false, false, false, false]) rfl bM (ow_call ent149 rfl (ret_mono (modeTableBytes_c _ _ _ _ m.ms _ hm.sm hm.sx hlm hz.lx) ?_))
  rintro _ w9 ⟨A3, c3, rfl, o3, x8⟩
  replace o3 := Own.low o3 X.size
  replace hm := hm.ext x8
  replace bM := bM.ext x8
  replace o1 := o1.ext x8
  replace o2 := o2.ext x8
  replace X := Ext.trans X x8; clear x8
  refine wi_one 11 rfl rfl (by kernel_rfl) (listed' := #[true, true, true, true, true, true, true, true, true, true, true, true, false, false, false]) rfl bM (ow_call ent150 rfl (ret_mono (slotTableBytes_c _ _ _ m.ss _ hm.ss hSt) ?_))
  rintro _ w11 ⟨A4, c4, rfl, o4, x10⟩
  replace o4 := Own.low o4 X.size
  replace hm := hm.ext x10
  replace bM := bM.ext x10
  replace o1 := o1.ext x10
  replace o2 := o2.ext x10
  replace o3 := o3.ext x10
  replace X := Ext.trans X x10; clear x10
  refine wi_one 12 rfl rfl (by kernel_rfl) (listed' := #[true, true, true, true, true, true, true, true, true, true, true, true, true, false, false]) rfl bM (ow_buildSlice el107 ti30 rfl rfl rfl rfl rfl ?_)
  intro gQ w13 egQ oQ bbgQ x12 zgQ
  replace oQ := Own.low oQ X.size
  replace hm := hm.ext x12
  replace bM := bM.ext x12
  replace o1 := o1.ext x12
  replace o2 := o2.ext x12
  replace o3 := o3.ext x12
  replace o4 := o4.ext x12
  replace X := Ext.trans X x12; clear x12
  replace oQ := oQ.to (cs' := ([(rowI A1 c1 (idB m.id)), (rowI A2 c2 (ntB m.ns)), (rowI A3 c3 (mtP (m.ms.map (·.m)) m.ms.length)), (rowI A4 c4 (stB m.ss))] : List ModeI).flatMap rowC) (by
    have h4 : (stB m.ss).length = 1 + 7 * m.ss.length := hL3
    show _ = [Value.slice A1 (idB m.id).length c1, Value.slice A2 (ntB m.ns).length c2, Value.slice A3 (mtP (m.ms.map (·.m)) m.ms.length).length c3, Value.slice A4 (stB m.ss).length c4]
    rw [h4]; rfl)
  have hnx : Nexts _ _ [(rowI A1 c1 (idB m.id)), (rowI A2 c2 (ntB m.ns)), (rowI A3 c3 (mtP (m.ms.map (·.m)) m.ms.length)), (rowI A4 c4 (stB m.ss))] := ⟨Nat.le_refl _, fun x hx => by
    simp only [List.mem_cons, List.not_mem_nil, or_false] at hx
    rcases hx with rfl | rfl | rfl | rfl
    · exact ⟨o1.sl, by show (idB m.id).length ≤ _; simp [idB]⟩
    · exact ⟨o2.sl, by show (ntB m.ns).length ≤ _; omega⟩
    · exact ⟨o3.sl, by show (mtP (m.ms.map (·.m)) m.ms.length).length ≤ _; omega⟩
    · exact ⟨o4.sl, by show (stB m.ss).length ≤ _; omega⟩⟩
  have hsum : sumL [(rowI A1 c1 (idB m.id)), (rowI A2 c2 (ntB m.ns)), (rowI A3 c3 (mtP (m.ms.map (·.m)) m.ms.length)), (rowI A4 c4 (stB m.ss))] = schB m.d := by rw [eS]; simp [sumL, rowI]
  refine wi_one 13 rfl rfl (by kernel_rfl) (listed' := #[true, true, true, true, true, true, true, true, true, true, true, true, true, true, false]) rfl bM (ow_call ent146 rfl (ret_mono (concat_c _ _ _ _ [(rowI A1 c1 (idB m.id)), (rowI A2 c2 (ntB m.ns)), (rowI A3 c3 (mtP (m.ms.map (·.m)) m.ms.length)), (rowI A4 c4 (stB m.ss))] _ oQ.sl hnx (by show 4 ≤ 1000; omega) (by rw [hsum]; have := schB_le hI; omega)) ?_))
  rintro _ w15 ⟨A16, c17, rfl, oR, x14⟩
  replace oR := Own.low oR X.size
  replace hm := hm.ext x14
  replace bM := bM.ext x14
  replace o1 := o1.ext x14
  replace o2 := o2.ext x14
  replace o3 := o3.ext x14
  replace o4 := o4.ext x14
  replace oQ := oQ.ext x14
  replace X := Ext.trans X x14; clear x14
  refine wi_take 14 rfl (by kernel_rfl) rfl (by kernel_rfl) (listed' := #[true, true, true, true, true, true, true, true, true, true, true, true, true, true, true]) rfl (fun wq sq => ow_assign rfl ⟨rfl, rfl⟩) ?_
  refine wi_done rfl bM (fun aj fj => ⟨_, fj, ?_⟩)
  refine c_ret ?_
  refine fin_ret1 rfl rfl ?_
  · skip
    rw [hsum] at oR ⊢
    exact ⟨_, _, rfl, oR, X⟩

end Go.Proofs.YtdoibplhbdkapaaGreatDoor
namespace Go.Proofs.YtdoibplhbdkapaaGreatDoor
open Go.RowKit
set_option linter.unusedVariables false
set_option linter.unusedSimpArgs false
set_option maxRecDepth 20000
theorem rises_in {n : Int} : ∀ (l : List Int) (y : Option Int), risesFrom n y l = true → ∀ x ∈ l, 0 ≤ x ∧ x ≤ n - 1
  | [], _, _, x, hx => by simp at hx
  | a :: r, none, h, x, hx => by
    simp only [risesFrom, Bool.and_eq_true] at h
    rcases List.mem_cons.1 hx with rfl | h2
    · exact inB_iff.1 h.1
    · exact rises_in r _ h.2 x h2
  | a :: r, some z, h, x, hx => by
    simp only [risesFrom, Bool.and_eq_true] at h
    rcases List.mem_cons.1 hx with rfl | h2
    · exact inB_iff.1 h.1.1
    · exact rises_in r _ h.2 x h2
def byt (l : List Int) : Prop := ∀ x ∈ l, 0 ≤ x ∧ x ≤ 255
theorem byt_nil : byt [] := fun x hx => by simp at hx
theorem byt_cons {x : Int} {l : List Int} (h : 0 ≤ x ∧ x ≤ 255) (hl : byt l) : byt (x :: l) := fun y hy => by
  rcases List.mem_cons.1 hy with rfl | h2
  · exact h
  · exact hl y h2
theorem byt_app {a b : List Int} (h1 : byt a) (h2 : byt b) : byt (a ++ b) := fun y hy => (List.mem_append.1 hy).elim (h1 y) (h2 y)
theorem byt_flat {α : Type} {f : α → List Int} {l : List α} (h : ∀ x ∈ l, byt (f x)) : byt (l.flatMap f) := fun y hy => by
  obtain ⟨x, hx, hy2⟩ := List.mem_flatMap.1 hy
  exact h x hx y hy2
theorem byt_id {z : Int} (h : 0 ≤ z ∧ z ≤ 16777215) : byt (idB z) := byt_cons (by omega) (byt_cons (by omega) (byt_cons (by omega) byt_nil))
theorem byt_name (x : NodeI) : byt (nameI x) := fun y hy => by
  obtain ⟨b, _, rfl⟩ := List.mem_map.1 hy
  have := b.toNat_lt; omega
theorem byt_node {x : NodeI} (h : nodeOk x = true) : byt (nodeB x) := by
  have h1 := nodeOk_in h
  have h2 := nodeOk_size h
  refine byt_app ?_ (byt_name x)
  exact byt_cons (by omega) (byt_cons (by omega) (byt_cons (by omega) (byt_cons (by split <;> omega) (byt_cons (by omega) byt_nil))))
theorem byt_nt {xs : List NodeI} (h : isNT xs = true) : byt (ntB xs) := by
  have h1 := isNT_len h
  unfold ntB ntP
  rw [List.take_length]
  exact byt_cons (by omega) (byt_flat fun x hx => byt_node (isNT_all h x hx))
theorem byt_mt {ms : List Mode} (h : isMT ms = true) : byt (mtP ms ms.length) := by
  have hl := isMT_len h
  unfold mtP
  rw [List.take_length]
  refine byt_cons (by omega) (byt_flat fun x hx => ?_)
  obtain ⟨k, hk⟩ := List.mem_iff_getElem?.1 hx
  obtain ⟨h1, h2, h3⟩ := modeOk_in (isMT_at h hk)
  have h4 := risesB_len h3
  refine byt_app (byt_cons (by omega) (byt_cons (by omega) (byt_cons (by omega) byt_nil))) fun y hy => ?_
  have h5 := rises_in _ _ h3 y hy
  omega
theorem byt_st {xs : List SlotI} (h : isST xs = true) : byt (stB xs) := by
  have hl := isST_len h
  unfold stB stP
  rw [List.take_length]
  refine byt_cons (by omega) (byt_flat fun x hx => ?_)
  have h1 := slotOk_in (isST_all h x hx)
  have h2 := descOk_in h1.2.2.2
  exact byt_app (byt_cons (by omega) (byt_cons (by omega) byt_nil)) (byt_cons (by omega) (byt_cons (by omega) (byt_cons (by omega) (byt_cons (by omega) (byt_cons (by split <;> omega) byt_nil)))))
theorem byt_sch {d : MedlD} (h : isMedl d = true) : byt (schB d) := by
  have wf := isMedl_iff.1 h
  have hid := inB_iff.1 wf.id
  exact byt_app (byt_app (byt_app (byt_id (by omega)) (byt_nt wf.nt)) (byt_mt wf.mt)) (byt_st wf.st)
def encF (d : MedlD) : List Int × Int := if isMedl d = true then (if (schB d).length ≤ 868 then (img (schB d), 0) else ([], 3)) else ([], 1)
theorem encF_len (m : MedlI) : (encF m.d).1.length ≤ 1048576 := by
  unfold encF; split
  · split
    · have h1 := img_len (schB m.d)
      have h2 := nB_le (schB m.d).length
      simp only; omega
    · exact Nat.zero_le _
  · exact Nat.zero_le _
theorem iEnc_c (m : MedlI) (B : Nat) (w : World) (hm : Med B w m) (hz : m.small) :
    Calls Tryz.prog 13 #[.agg m.cells.toArray] w (Ret fun v w' => ∃ A' c', v = .tuple #[.slice A' (encF m.d).1.length c', .int .i64 (encF m.d).2] ∧ Own w' w.heap.size 2 1 A' (encF m.d).1.length c' ((encF m.d).1.flatMap eI) ∧ Ext w w') := by
  have Bhm := hm.1
  have X := Ext.refl w
  refine calls_of (args := [.agg m.cells.toArray]) Tryz.func13 Tryz.ntmps13 rfl rfl ?_
  refine c_seqR ?_
  refine ops_cons rfl (ow_box rfl rfl ?_)
  intro g4 w3 eg4 b1 x2 zg4
  have lg4 : w.heap.size ≤ g4 := Nat.le_trans X.size (Nat.le_of_eq eg4.symm)
  have pg4hm := Nat.le_trans hm.1 (Nat.le_of_eq eg4.symm)
  replace hm := hm.ext x2
  replace X := Ext.trans X x2; clear x2
  refine ops_cons rfl (ow_assign rfl ?_)
  refine ops_cons rfl (ow_assign rfl ?_)
  refine ops_nil ?_
  refine c_seq ?_
  refine c_seqR ?_
  refine ops_cons rfl (ow_loadAB b1 ti28 rfl rfl ?_)
  refine ops_cons rfl (ow_callB ent33 rfl (iIsMedl_c m _ _ hm hz) (fun w6 hI x5 => ?_) (fun w6 hI x5 => ?_))
  replace hm := hm.ext x5
  replace b1 := b1.ext x5
  replace X := Ext.trans X x5; clear x5
  refine ops_cons rfl (ow_not rfl ?_)
  refine ops_nil ?_
  refine c_false rfl ?_
  refine c_skip ?_
  refine tq_n ?_
  refine c_seqR ?_
  refine ops_cons rfl (ow_loadAB b1 ti28 rfl rfl ?_)
  refine ops_cons rfl (ow_call ent68 rfl (ret_mono (scheduleBytes_c m _ _ hm hz hI) ?_))
  rintro _ w9 ⟨A10, c11, rfl, oR, x7⟩
  replace oR := Own.low oR X.size
  replace hm := hm.ext x7
  replace b1 := b1.ext x7
  replace X := Ext.trans X x7; clear x7
  refine ops_cons rfl (ow_assign rfl ?_)
  refine ops_nil ?_
  refine c_seq ?_
  refine c_seqR ?_
  refine ops_cons rfl (ow_move rfl ?_)
  refine ops_cons rfl (ow_len Tryz.underlying30 rfl ?_)
  refine ops_cons rfl (ow_gtr2 rfl rfl (fun hG => ?_) (fun hG => ?_))
  have hGn : ¬ (schB m.d).length ≤ 868 := by omega
  refine ops_nil ?_
  refine c_true rfl ?_
  refine c_seqR ?_
  refine ops_cons rfl (ow_assign rfl ?_)
  refine ops_cons rfl (ow_assign rfl ?_)
  refine ops_nil ?_
  refine c_ret ?_
  refine tq_r ?_
  refine fin_ret2 rfl rfl rfl ?_
  · skip
    have e : encF m.d = ([], 3) := by rw [encF, if_pos hI, if_neg hGn]
    rw [e]; exact ⟨none, 0, rfl, Own.nil_ _ _ _ _, X⟩
  have hGp : (schB m.d).length ≤ 868 := by omega
  refine ops_nil ?_
  refine c_false rfl ?_
  refine c_skip ?_
  refine tq_n ?_
  refine c_seqR ?_
  refine ops_cons rfl (ow_move rfl ?_)
  refine ops_cons rfl (ow_call ent69 rfl (ret_mono (imageOf_c _ _ _ (schB m.d) _ oR.sl (by omega) (byt_sch hI) oR.cap (prts_nexts oR.sl (by omega))) ?_))
  rintro _ w13 ⟨AJ, cJ, rfl, oJ, x12⟩
  replace oJ := Own.low oJ X.size
  replace hm := hm.ext x12
  replace b1 := b1.ext x12
  replace oR := oR.ext x12
  replace X := Ext.trans X x12; clear x12
  refine ops_cons rfl (ow_assign rfl ?_)
  refine ops_cons rfl (ow_assign rfl ?_)
  refine ops_nil ?_
  refine c_ret ?_
  refine fin_ret2 rfl rfl rfl ?_
  · skip
    have e : encF m.d = (img (schB m.d), 0) := by rw [encF, if_pos hI, if_pos hGp]
    rw [e]; exact ⟨_, _, rfl, oJ, X⟩
  replace hm := hm.ext x5
  replace b1 := b1.ext x5
  replace X := Ext.trans X x5; clear x5
  refine ops_cons rfl (ow_not rfl ?_)
  refine ops_nil ?_
  refine c_true rfl ?_
  refine c_seqR ?_
  refine ops_cons rfl (ow_assign rfl ?_)
  refine ops_cons rfl (ow_assign rfl ?_)
  refine ops_nil ?_
  refine c_ret ?_
  refine tq_r ?_
  refine fin_ret2 rfl rfl rfl ?_
  · skip
    have e : encF m.d = ([], 1) := by rw [encF, if_neg (by rw [hI]; decide)]
    rw [e]; exact ⟨none, 0, rfl, Own.nil_ _ _ _ _, X⟩

theorem sEnc_c (m : MedlI) (B : Nat) (w : World) (hm : Med B w m) (hz : m.small) :
    Calls Tryz.prog 14 #[.agg m.cells.toArray] w (Ret fun v w' => ∃ A' c', v = .tuple #[.slice A' (encF m.d).1.length c', .int .i64 (encF m.d).2] ∧ Own w' w.heap.size 2 1 A' (encF m.d).1.length c' ((encF m.d).1.flatMap eI) ∧ Ext w w') := by
  have Bhm := hm.1
  have X := Ext.refl w
  refine calls_of (args := [.agg m.cells.toArray]) Tryz.func14 Tryz.ntmps14 rfl rfl ?_
  refine c_seqR ?_
  refine ops_cons rfl (ow_box rfl rfl ?_)
  intro g4 w3 eg4 b1 x2 zg4
  have lg4 : w.heap.size ≤ g4 := Nat.le_trans X.size (Nat.le_of_eq eg4.symm)
  have pg4hm := Nat.le_trans hm.1 (Nat.le_of_eq eg4.symm)
  replace hm := hm.ext x2
  replace X := Ext.trans X x2; clear x2
  refine ops_cons rfl (ow_assign rfl ?_)
  refine ops_cons rfl (ow_assign rfl ?_)
  refine ops_nil ?_
  refine c_seq ?_
  refine c_seqR ?_
  refine ops_cons rfl (ow_loadAB b1 ti28 rfl rfl ?_)
  refine ops_cons rfl (ow_callB ent70 rfl (sIsMedl_c m _ _ hm hz) (fun w6 hI x5 => ?_) (fun w6 hI x5 => ?_))
  replace hm := hm.ext x5
  replace b1 := b1.ext x5
  replace X := Ext.trans X x5; clear x5
  refine ops_cons rfl (ow_not rfl ?_)
  refine ops_nil ?_
  refine c_false rfl ?_
  refine c_skip ?_
  refine tq_n ?_
  refine c_seqR ?_
  refine ops_cons rfl (ow_loadAB b1 ti28 rfl rfl ?_)
  refine ops_cons rfl (ow_call ent71 rfl (ret_mono (l14Bytes_c m _ _ hm hz hI) ?_))
  rintro _ w9 ⟨A10, c11, rfl, oR, x7⟩
  replace oR := Own.low oR X.size
  replace hm := hm.ext x7
  replace b1 := b1.ext x7
  replace X := Ext.trans X x7; clear x7
  refine ops_cons rfl (ow_assign rfl ?_)
  refine ops_nil ?_
  refine c_seq ?_
  refine c_seqR ?_
  refine ops_cons rfl (ow_move rfl ?_)
  refine ops_cons rfl (ow_len Tryz.underlying30 rfl ?_)
  refine ops_cons rfl (ow_callB ent72 rfl (fits_c _ _) (fun w13 hG x12 => ?_) (fun w13 hG x12 => ?_))
  replace hm := hm.ext x12
  replace b1 := b1.ext x12
  replace oR := oR.ext x12
  replace X := Ext.trans X x12; clear x12
  have hGp : (schB m.d).length ≤ 868 := by have := inB_iff.1 hG; omega
  refine ops_cons rfl (ow_not rfl ?_)
  refine ops_nil ?_
  refine c_false rfl ?_
  refine c_skip ?_
  refine tq_n ?_
  refine c_seqR ?_
  refine ops_cons rfl (ow_move rfl ?_)
  refine ops_cons rfl (ow_call ent73 rfl (ret_mono (l09Image_c _ _ _ (schB m.d) _ oR.sl (by omega) (byt_sch hI) oR.cap) ?_))
  rintro _ w15 ⟨AJ, cJ, rfl, oJ, x14⟩
  replace oJ := Own.low oJ X.size
  replace hm := hm.ext x14
  replace b1 := b1.ext x14
  replace oR := oR.ext x14
  replace X := Ext.trans X x14; clear x14
  refine ops_cons rfl (ow_assign rfl ?_)
  refine ops_cons rfl (ow_assign rfl ?_)
  refine ops_nil ?_
  refine c_ret ?_
  refine fin_ret2 rfl rfl rfl ?_
  · skip
    have e : encF m.d = (img (schB m.d), 0) := by rw [encF, if_pos hI, if_pos hGp]
    rw [e]; exact ⟨_, _, rfl, oJ, X⟩
  replace hm := hm.ext x12
  replace b1 := b1.ext x12
  replace oR := oR.ext x12
  replace X := Ext.trans X x12; clear x12
  have hGn : ¬ (schB m.d).length ≤ 868 := fun h => by rw [inB_iff.2 ⟨by omega, by omega⟩] at hG; cases hG
  refine ops_cons rfl (ow_not rfl ?_)
  refine ops_nil ?_
  refine c_true rfl ?_
  refine c_seqR ?_
  refine ops_cons rfl (ow_assign rfl ?_)
  refine ops_cons rfl (ow_assign rfl ?_)
  refine ops_nil ?_
  refine c_ret ?_
  refine tq_r ?_
  refine fin_ret2 rfl rfl rfl ?_
  · skip
    have e : encF m.d = ([], 3) := by rw [encF, if_pos hI, if_neg hGn]
    rw [e]; exact ⟨none, 0, rfl, Own.nil_ _ _ _ _, X⟩
  replace hm := hm.ext x5
  replace b1 := b1.ext x5
  replace X := Ext.trans X x5; clear x5
  refine ops_cons rfl (ow_not rfl ?_)
  refine ops_nil ?_
  refine c_true rfl ?_
  refine c_seqR ?_
  refine ops_cons rfl (ow_assign rfl ?_)
  refine ops_cons rfl (ow_assign rfl ?_)
  refine ops_nil ?_
  refine c_ret ?_
  refine tq_r ?_
  refine fin_ret2 rfl rfl rfl ?_
  · skip
    have e : encF m.d = ([], 1) := by rw [encF, if_neg (by rw [hI]; decide)]
    rw [e]; exact ⟨none, 0, rfl, Own.nil_ _ _ _ _, X⟩
end Go.Proofs.YtdoibplhbdkapaaGreatDoor
