/- Texts of the seat that a law needs, put together. No condition. -/
import Derived.Test.YtdoibplhbdkapaaGreatDoorDMP18
import Derived.Test.YtdoibplhbdkapaaGreatDoorDMP7
import Derived.Test.YtdoibplhbdkapaaGreatDoorDMP3
import Derived.Test.YtdoibplhbdkapaaGreatDoorDMP10
import Derived.Test.YtdoibplhbdkapaaGreatDoorDMP11
namespace Go.Proofs.YtdoibplhbdkapaaGreatDoor
open Go.RowKit
set_option linter.unusedVariables false
set_option linter.unusedSimpArgs false
set_option maxRecDepth 20000
theorem sFF_c (m : MedlI) (B : Nat) (w : World) (hm : Med B w m) (hz : m.small) :
    Calls Tryz.prog 154 #[.agg m.cells.toArray] w (Ret fun v w' => v = .int .i64 (ffault m.d) ∧ Ext w w') := by
  have hls := hz.ls
  have hlm := hz.lm
  have hln := hz.ln
  have hl := hls
  have Bhm := hm.1
  have X := Ext.refl w
  refine calls_of (args := [.agg m.cells.toArray]) Tryz.func154 Tryz.ntmps154 rfl rfl ?_
  refine c_seqR ?_
  refine ops_cons rfl (ow_box rfl rfl ?_)
  intro g4 w3 eg4 b1 x2 zg4
  have lg4 : w.heap.size ≤ g4 := Nat.le_trans X.size (Nat.le_of_eq eg4.symm)
  have pg4hm := Nat.le_trans hm.1 (Nat.le_of_eq eg4.symm)
  replace hm := hm.ext x2
  replace X := Ext.trans X x2; clear x2
  refine ops_cons rfl (ow_assign rfl ?_)
  refine ops_nil ?_
  refine c_seq ?_
  refine c_block ?_
  refine c_seqR ?_
  refine ops_cons rfl (ow_fieldAddrB off28_0 rfl rfl ?_)
  refine ops_cons rfl (ow_loadB b1 ti2 rfl rfl ?_)
  refine ops_cons rfl (ow_callB ent111 rfl (l01In_c _ _ _ _) (fun w6 hI x5 => ?_) (fun w6 hI x5 => ?_))
  replace hm := hm.ext x5
  replace b1 := b1.ext x5
  replace X := Ext.trans X x5; clear x5
  refine ops_cons rfl (ow_not rfl ?_)
  refine ops_cons rfl (ow_assign rfl ?_)
  refine ops_nil ?_
  refine c_false rfl ?_
  refine c_seqR ?_
  refine ops_cons rfl (ow_fieldAddrB off28_1 rfl rfl ?_)
  refine ops_cons rfl (ow_loadB b1 ti24 rfl rfl ?_)
  refine ops_cons rfl (ow_callB ent224 rfl (sIsNT_c _ _ _ _ _ hm.sn hln (fun x hx => by have := hz.lz x hx; omega)) (fun w9 hN x7 => ?_) (fun w9 hN x7 => ?_))
  replace hm := hm.ext x7
  replace b1 := b1.ext x7
  replace X := Ext.trans X x7; clear x7
  refine ops_cons rfl (ow_not rfl ?_)
  refine ops_cons rfl (ow_assign rfl ?_)
  refine ops_nil ?_
  refine c_false rfl ?_
  refine c_seqR ?_
  refine ops_cons rfl (ow_fieldAddrB off28_2 rfl rfl ?_)
  refine ops_cons rfl (ow_loadB b1 ti25 rfl rfl ?_)
  refine ops_cons rfl (ow_callB ent225 rfl (sIsMT_c _ _ _ _ _ _ hm.sm hm.sx hlm hz.lx) (fun w11 hT x10 => ?_) (fun w11 hT x10 => ?_))
  replace hm := hm.ext x10
  replace b1 := b1.ext x10
  replace X := Ext.trans X x10; clear x10
  refine ops_cons rfl (ow_not rfl ?_)
  refine ops_cons rfl (ow_assign rfl ?_)
  refine ops_nil ?_
  refine c_false rfl ?_
  refine c_seqR ?_
  refine ops_cons rfl (ow_fieldAddrB off28_3 rfl rfl ?_)
  refine ops_cons rfl (ow_loadB b1 ti26 rfl rfl ?_)
  refine ops_cons rfl (ow_callB ent226 rfl (sIsST_c _ _ _ _ _ hm.ss hl) (fun w13 hS x12 => ?_) (fun w13 hS x12 => ?_))
  replace hm := hm.ext x12
  replace b1 := b1.ext x12
  replace X := Ext.trans X x12; clear x12
  have hok := isST_all hS
  refine ops_cons rfl (ow_not rfl ?_)
  refine ops_cons rfl (ow_assign rfl ?_)
  refine ops_nil ?_
  refine c_false rfl ?_
  refine c_seqR ?_
  refine ops_cons rfl (ow_loadAB b1 ti28 rfl rfl ?_)
  refine ops_cons rfl (ow_callB ent227 rfl (l13Complete_c m _ _ hm hz hT hS) (fun w15 hC x14 => ?_) (fun w15 hC x14 => ?_))
  replace hm := hm.ext x14
  replace b1 := b1.ext x14
  replace X := Ext.trans X x14; clear x14
  refine ops_cons rfl (ow_not rfl ?_)
  refine ops_cons rfl (ow_assign rfl ?_)
  refine ops_nil ?_
  refine c_false rfl ?_
  refine c_seqR ?_
  refine ops_cons rfl (ow_loadAB b1 ti28 rfl rfl ?_)
  refine ops_cons rfl (ow_callB ent228 rfl (l13Senders_c m _ _ hm hz hok hN) (fun w17 hE x16 => ?_) (fun w17 hE x16 => ?_))
  replace hm := hm.ext x16
  replace b1 := b1.ext x16
  replace X := Ext.trans X x16; clear x16
  refine ops_cons rfl (ow_not rfl ?_)
  refine ops_cons rfl (ow_assign rfl ?_)
  refine ops_nil ?_
  refine c_false rfl ?_
  refine c_seqR ?_
  refine ops_cons rfl (ow_loadAB b1 ti28 rfl rfl ?_)
  refine ops_cons rfl (ow_callB ent229 rfl (l13Durations_c m _ _ hm hz) (fun w19 hD x18 => ?_) (fun w19 hD x18 => ?_))
  replace hm := hm.ext x18
  replace b1 := b1.ext x18
  replace X := Ext.trans X x18; clear x18
  refine ops_cons rfl (ow_not rfl ?_)
  refine ops_cons rfl (ow_assign rfl ?_)
  refine ops_nil ?_
  refine c_false rfl ?_
  refine c_skip ?_
  refine bq_n ?_
  refine tq_n ?_
  refine c_seq ?_
  refine c_seqR ?_
  refine ops_cons rfl (ow_assign rfl ?_)
  refine ops_nil ?_
  refine c_block ?_
  refine c_loop (G := Nat) (fun k => [(1, .pointer (some ⟨g4, 0, none⟩)), (3, .int .i64 (k : Nat))]) (fun k wr => k ≤ m.ms.length ∧ shortB m.d = ((List.range m.ms.length).drop k).all (fun (i : Nat) => decide (cyc m.ss i ≤ 32000)) ∧ Med B wr m ∧ Blk wr g4 28 m.cells ∧ Ext w wr) (fun k => m.ms.length - k) 0 (.cons rfl (.cons rfl (.nil _))) ?_ ?_
  · exact ⟨by omega, short_eq, hm, b1, X⟩
  clear hm b1
  clear X
  rintro k wr ⟨hk0, hi, hm, b1, X⟩
  refine c_seq ?_
  refine c_seqR ?_
  refine ops_cons rfl (ow_move rfl ?_)
  refine ops_cons rfl (ow_fieldAddrB off28_2 rfl rfl ?_)
  refine ops_cons rfl (ow_loadB b1 ti25 rfl rfl ?_)
  refine ops_cons rfl (ow_len Tryz.underlying25 rfl ?_)
  refine ops_cons rfl (ow_lss2 rfl rfl (fun hk => ?_) (fun hk => ?_))
  refine ops_nil ?_
  refine c_true rfl ?_
  refine c_skip ?_
  refine tq_n ?_
  refine c_seq ?_
  refine c_block ?_
  refine c_seqR ?_
  refine ops_cons rfl (ow_loadAB b1 ti28 rfl rfl ?_)
  refine ops_cons rfl (ow_move rfl ?_)
  refine ops_cons rfl (ow_call ent230 rfl (ret_mono (l13Cycle_c _ _ (k : Int) _ hm hz hok) ?_))
  rintro _ w21 ⟨rfl, x20⟩
  replace hm := hm.ext x20
  replace b1 := b1.ext x20
  replace X := Ext.trans X x20; clear x20
  refine ops_cons rfl (ow_gtr2 rfl rfl (fun hc => ?_) (fun hc => ?_))
  have hSh : shortB m.d = false := by rw [hi, short_step (by omega), decide_eq_false (show ¬ cyc m.ss k ≤ 32000 by omega)]; rfl
  refine ops_nil ?_
  refine c_true rfl ?_
  refine c_seqR ?_
  refine ops_cons rfl (ow_assign rfl ?_)
  refine ops_nil ?_
  refine c_ret ?_
  refine bq_r ?_
  refine tq_r ?_
  refine tq_r ?_
  refine bq_r ?_
  refine tq_r ?_
  refine fin_ret1 rfl rfl ?_
  · skip
    refine ⟨congrArg (Value.int .i64) ?_, X⟩
    rw [ff_eq]
    try clear hi
    try clear hi2
    simp [*]
  refine ops_nil ?_
  refine c_false rfl ?_
  refine c_skip ?_
  refine bq_n ?_
  refine tq_n ?_
  refine c_region ?_
  refine ops_cons rfl (ow_move rfl ?_)
  refine ops_cons rfl (ow_add rfl rfl (w64 (by omega)) ?_)
  refine ops_cons rfl (ow_assign rfl ?_)
  refine ops_nil ?_
  refine tq_n ⟨k + 1, (.cons rfl (.cons rfl (.nil _))), ?_, ?_⟩
  · exact ⟨by omega, (by rw [hi, short_step (by omega), decide_eq_true (show cyc m.ss k ≤ 32000 by omega)]; rfl), hm, b1, X⟩
  · first | omega | (dsimp only; omega)
  have hSh : shortB m.d = true := by rw [hi, short_end hk]
  refine ops_nil ?_
  refine c_false rfl ?_
  refine c_exit ?_
  refine tq_e ?_
  refine tq_e ?_
  refine bq_e ?_
  refine tq_n ?_
  refine c_seq ?_
  refine c_seqR ?_
  refine ops_cons rfl (ow_loadAB b1 ti28 rfl rfl ?_)
  refine ops_cons rfl (ow_callB ent231 rfl (l13Served_c m _ _ hm hz hok hN hT) (fun w23 hV x22 => ?_) (fun w23 hV x22 => ?_))
  replace hm := hm.ext x22
  replace b1 := b1.ext x22
  replace X := Ext.trans X x22; clear x22
  refine ops_cons rfl (ow_not rfl ?_)
  refine ops_nil ?_
  refine c_false rfl ?_
  refine c_skip ?_
  refine tq_n ?_
  refine c_seq ?_
  refine c_seqR ?_
  refine ops_cons rfl (ow_assign rfl ?_)
  refine ops_nil ?_
  refine c_block ?_
  refine c_loop (G := Nat) (fun j => [(1, .pointer (some ⟨g4, 0, none⟩)), (4, .int .i64 (j : Nat))]) (fun j wr => j ≤ m.ss.length ∧ coldB m.ss = coldB (m.ss.drop j) ∧ Med B wr m ∧ Blk wr g4 28 m.cells ∧ Ext w wr) (fun j => m.ss.length - j) 0 (.cons rfl (.cons rfl (.nil _))) ?_ ?_
  · exact ⟨by omega, rfl, hm, b1, X⟩
  clear hm b1
  clear X
  rintro j wr ⟨hj0, hi2, hm, b1, X⟩
  refine c_seq ?_
  refine c_seqR ?_
  refine ops_cons rfl (ow_move rfl ?_)
  refine ops_cons rfl (ow_fieldAddrB off28_3 rfl rfl ?_)
  refine ops_cons rfl (ow_loadB b1 ti26 rfl rfl ?_)
  refine ops_cons rfl (ow_len Tryz.underlying26 rfl ?_)
  refine ops_cons rfl (ow_lss2 rfl rfl (fun hj => ?_) (fun hj => ?_))
  obtain ⟨x, hx, dx⟩ := drop_at' hj
  refine ops_nil ?_
  refine c_true rfl ?_
  refine c_skip ?_
  refine tq_n ?_
  refine c_seq ?_
  refine c_block ?_
  refine c_seqR ?_
  refine ops_cons rfl (ow_fieldAddrB off28_3 rfl rfl ?_)
  refine ops_cons rfl (ow_loadB b1 ti26 rfl rfl ?_)
  refine ops_cons rfl (ow_move rfl ?_)
  refine ops_cons rfl (ow_indexT hm.ss SlotI.len rfl el26 rfl rfl rfl hx rfl ?_)
  refine ops_cons rfl (ow_fieldAddr off89_3 rfl ?_)
  refine ops_cons rfl (ow_fieldAddr off67_1 rfl ?_)
  refine ops_cons rfl (ow_loadTFF hm.ss SlotI.len hx ti2 rfl rfl rfl ?_)
  refine ops_cons rfl (ow_eql2 rfl rfl (fun hc3 => ?_) (fun hc3 => ?_))
  refine ops_cons rfl (ow_move rfl ?_)
  refine ops_want rfl rfl rfl (ow_fieldAddrB off28_3 rfl rfl ?_)
  refine ops_want rfl rfl rfl (ow_loadB b1 ti26 rfl rfl ?_)
  refine ops_want rfl rfl rfl (ow_move rfl ?_)
  refine ops_want rfl rfl rfl (ow_indexT hm.ss SlotI.len rfl el26 rfl rfl rfl hx rfl ?_)
  refine ops_want rfl rfl rfl (ow_fieldAddr off89_0 rfl ?_)
  refine ops_want rfl rfl rfl (ow_loadTF hm.ss SlotI.len hx ti2 rfl rfl rfl ?_)
  refine ops_want rfl rfl rfl (ow_neq2 rfl rfl (fun hc4 => ?_) (fun hc4 => ?_))
  have hCo : coldB m.ss = true := by rw [hi2, dx]; simp [coldB, *]
  refine ops_cons rfl (ow_pick rfl rfl ?_)
  refine ops_nil ?_
  refine c_true rfl ?_
  refine c_seqR ?_
  refine ops_cons rfl (ow_assign rfl ?_)
  refine ops_nil ?_
  refine c_ret ?_
  refine bq_r ?_
  refine tq_r ?_
  refine tq_r ?_
  refine bq_r ?_
  refine tq_r ?_
  refine fin_ret1 rfl rfl ?_
  · skip
    refine ⟨congrArg (Value.int .i64) ?_, X⟩
    rw [ff_eq]
    try clear hi
    try clear hi2
    simp [*]
  refine ops_cons rfl (ow_pick rfl rfl ?_)
  refine ops_nil ?_
  refine c_false rfl ?_
  refine c_skip ?_
  refine bq_n ?_
  refine tq_n ?_
  refine c_region ?_
  refine ops_cons rfl (ow_move rfl ?_)
  refine ops_cons rfl (ow_add rfl rfl (w64 (by omega)) ?_)
  refine ops_cons rfl (ow_assign rfl ?_)
  refine ops_nil ?_
  refine tq_n ⟨j + 1, (.cons rfl (.cons rfl (.nil _))), ?_, ?_⟩
  · exact ⟨by omega, (by rw [hi2, dx]; simp [coldB, *]), hm, b1, X⟩
  · first | omega | (dsimp only; omega)
  refine ops_cons rfl (ow_move rfl ?_)
  refine ops_skip rfl rfl rfl rfl ?_
  refine ops_skip rfl rfl rfl rfl ?_
  refine ops_skip rfl rfl rfl rfl ?_
  refine ops_skip rfl rfl rfl rfl ?_
  refine ops_skip rfl rfl rfl rfl ?_
  refine ops_skip rfl rfl rfl rfl ?_
  refine ops_skip rfl rfl rfl rfl ?_
  refine ops_cons rfl (ow_pick rfl rfl ?_)
  refine ops_nil ?_
  refine c_false rfl ?_
  refine c_skip ?_
  refine bq_n ?_
  refine tq_n ?_
  refine c_region ?_
  refine ops_cons rfl (ow_move rfl ?_)
  refine ops_cons rfl (ow_add rfl rfl (w64 (by omega)) ?_)
  refine ops_cons rfl (ow_assign rfl ?_)
  refine ops_nil ?_
  refine tq_n ⟨j + 1, (.cons rfl (.cons rfl (.nil _))), ?_, ?_⟩
  · exact ⟨by omega, (by rw [hi2, dx]; simp [coldB, *]), hm, b1, X⟩
  · first | omega | (dsimp only; omega)
  have hCo : coldB m.ss = false := by rw [hi2, drop_end hj]; rfl
  refine ops_nil ?_
  refine c_false rfl ?_
  refine c_exit ?_
  refine tq_e ?_
  refine tq_e ?_
  refine bq_e ?_
  refine tq_n ?_
  refine c_seqR ?_
  refine ops_cons rfl (ow_assign rfl ?_)
  refine ops_nil ?_
  refine c_ret ?_
  refine fin_ret1 rfl rfl ?_
  · skip
    refine ⟨congrArg (Value.int .i64) ?_, X⟩
    rw [ff_eq]
    try clear hi
    try clear hi2
    simp [*]
  replace hm := hm.ext x22
  replace b1 := b1.ext x22
  replace X := Ext.trans X x22; clear x22
  refine ops_cons rfl (ow_not rfl ?_)
  refine ops_nil ?_
  refine c_true rfl ?_
  refine c_seqR ?_
  refine ops_cons rfl (ow_assign rfl ?_)
  refine ops_nil ?_
  refine c_ret ?_
  refine tq_r ?_
  refine fin_ret1 rfl rfl ?_
  · skip
    refine ⟨congrArg (Value.int .i64) ?_, X⟩
    rw [ff_eq]
    try clear hi
    try clear hi2
    simp [*]
  replace hm := hm.ext x18
  replace b1 := b1.ext x18
  replace X := Ext.trans X x18; clear x18
  refine ops_cons rfl (ow_not rfl ?_)
  refine ops_cons rfl (ow_assign rfl ?_)
  refine ops_nil ?_
  refine c_true rfl ?_
  refine c_seqR ?_
  refine ops_cons rfl (ow_assign rfl ?_)
  refine ops_nil ?_
  refine c_ret ?_
  refine bq_r ?_
  refine tq_r ?_
  refine fin_ret1 rfl rfl ?_
  · skip
    refine ⟨congrArg (Value.int .i64) ?_, X⟩
    rw [ff_eq]
    try clear hi
    try clear hi2
    simp [*]
  replace hm := hm.ext x16
  replace b1 := b1.ext x16
  replace X := Ext.trans X x16; clear x16
  refine ops_cons rfl (ow_not rfl ?_)
  refine ops_cons rfl (ow_assign rfl ?_)
  refine ops_nil ?_
  refine c_true rfl ?_
  refine c_seqR ?_
  refine ops_cons rfl (ow_assign rfl ?_)
  refine ops_nil ?_
  refine c_ret ?_
  refine bq_r ?_
  refine tq_r ?_
  refine fin_ret1 rfl rfl ?_
  · skip
    refine ⟨congrArg (Value.int .i64) ?_, X⟩
    rw [ff_eq]
    try clear hi
    try clear hi2
    simp [*]
  replace hm := hm.ext x14
  replace b1 := b1.ext x14
  replace X := Ext.trans X x14; clear x14
  refine ops_cons rfl (ow_not rfl ?_)
  refine ops_cons rfl (ow_assign rfl ?_)
  refine ops_nil ?_
  refine c_true rfl ?_
  refine c_seqR ?_
  refine ops_cons rfl (ow_assign rfl ?_)
  refine ops_nil ?_
  refine c_ret ?_
  refine bq_r ?_
  refine tq_r ?_
  refine fin_ret1 rfl rfl ?_
  · skip
    refine ⟨congrArg (Value.int .i64) ?_, X⟩
    rw [ff_eq]
    try clear hi
    try clear hi2
    simp [*]
  replace hm := hm.ext x12
  replace b1 := b1.ext x12
  replace X := Ext.trans X x12; clear x12
  refine ops_cons rfl (ow_not rfl ?_)
  refine ops_cons rfl (ow_assign rfl ?_)
  refine ops_nil ?_
  refine c_true rfl ?_
  refine c_seqR ?_
  refine ops_cons rfl (ow_assign rfl ?_)
  refine ops_nil ?_
  refine c_ret ?_
  refine bq_r ?_
  refine tq_r ?_
  refine fin_ret1 rfl rfl ?_
  · skip
    refine ⟨congrArg (Value.int .i64) ?_, X⟩
    rw [ff_eq]
    try clear hi
    try clear hi2
    simp [*]
  replace hm := hm.ext x10
  replace b1 := b1.ext x10
  replace X := Ext.trans X x10; clear x10
  refine ops_cons rfl (ow_not rfl ?_)
  refine ops_cons rfl (ow_assign rfl ?_)
  refine ops_nil ?_
  refine c_true rfl ?_
  refine c_seqR ?_
  refine ops_cons rfl (ow_assign rfl ?_)
  refine ops_nil ?_
  refine c_ret ?_
  refine bq_r ?_
  refine tq_r ?_
  refine fin_ret1 rfl rfl ?_
  · skip
    refine ⟨congrArg (Value.int .i64) ?_, X⟩
    rw [ff_eq]
    try clear hi
    try clear hi2
    simp [*]
  replace hm := hm.ext x7
  replace b1 := b1.ext x7
  replace X := Ext.trans X x7; clear x7
  refine ops_cons rfl (ow_not rfl ?_)
  refine ops_cons rfl (ow_assign rfl ?_)
  refine ops_nil ?_
  refine c_true rfl ?_
  refine c_seqR ?_
  refine ops_cons rfl (ow_assign rfl ?_)
  refine ops_nil ?_
  refine c_ret ?_
  refine bq_r ?_
  refine tq_r ?_
  refine fin_ret1 rfl rfl ?_
  · skip
    refine ⟨congrArg (Value.int .i64) ?_, X⟩
    rw [ff_eq]
    try clear hi
    try clear hi2
    simp [*]
  replace hm := hm.ext x5
  replace b1 := b1.ext x5
  replace X := Ext.trans X x5; clear x5
  refine ops_cons rfl (ow_not rfl ?_)
  refine ops_cons rfl (ow_assign rfl ?_)
  refine ops_nil ?_
  refine c_true rfl ?_
  refine c_seqR ?_
  refine ops_cons rfl (ow_assign rfl ?_)
  refine ops_nil ?_
  refine c_ret ?_
  refine bq_r ?_
  refine tq_r ?_
  refine fin_ret1 rfl rfl ?_
  · skip
    refine ⟨congrArg (Value.int .i64) ?_, X⟩
    rw [ff_eq]
    try clear hi
    try clear hi2
    simp [*]

theorem idxG_c (A : Option Addr) (B c : Nat) (xs : List SlotI) (F : FuncId) (cv : List Value) (p : SlotI → Bool) (S : World → Prop) (w : World) (hs : Sl B w A (xs.flatMap SlotI.cells)) (hl : xs.length ≤ 1048576) (entG : Enters Tryz.prog F) (hS : Kept S w) (hf : ∀ (x : SlotI) (w1 : World), S w1 → x ∈ xs → Calls Tryz.prog F (.agg x.cells.toArray :: cv).toArray w1 (Ret fun v w2 => v = .bool (p x) ∧ Ext w1 w2)) :
    Calls Tryz.prog 190 #[.slice A xs.length c, .func (.func F) #[] cv.toArray] w (Ret fun v w' => v = .int .i64 (findS p 0 xs) ∧ Ext w w') := by
  have Bhs := hs.1
  have X := Ext.refl w
  refine calls_of (args := [.slice A xs.length c, .func (.func F) #[] cv.toArray]) Tryz.func190 Tryz.ntmps190 rfl rfl ?_
  refine c_seqR ?_
  refine ops_cons rfl (ow_assign rfl ?_)
  refine ops_nil ?_
  refine c_seq ?_
  refine c_seqR ?_
  refine ops_cons rfl (ow_move rfl ?_)
  refine ops_cons rfl (ow_len Tryz.underlying26 rfl ?_)
  refine ops_cons rfl (ow_move rfl ?_)
  refine ops_nil ?_
  refine c_block ?_
  refine c_loop (G := Nat) (fun k => [(0, .slice A xs.length c), (1, .func (.func F) #[] cv.toArray), (7, .int .i64 (xs.length : Nat)), (8, .int .i64 (k : Nat))]) (fun k wr => k ≤ xs.length ∧ findS p 0 xs = findS p (k : Int) (xs.drop k) ∧ Sl B wr A (xs.flatMap SlotI.cells) ∧ Kept S wr ∧ Ext w wr) (fun k => xs.length - k) 0 (.cons rfl (.cons rfl (.cons rfl (.cons rfl (.nil _))))) ?_ ?_
  · exact ⟨by omega, rfl, hs, hS, X⟩
  clear hs hS
  clear X
  rintro k wr ⟨hk0, hi, hs, hS, X⟩
  refine c_seqR ?_
  refine ops_cons rfl (ow_lss2 rfl rfl (fun hk => ?_) (fun hk => ?_))
  obtain ⟨x, hx, dx⟩ := drop_at' hk
  refine ops_nil ?_
  refine c_seq ?_
  refine c_true rfl ?_
  refine c_skip ?_
  refine tq_n ?_
  refine c_seq ?_
  refine c_block ?_
  refine c_seqR ?_
  refine ops_cons rfl (ow_move rfl ?_)
  refine ops_cons rfl (ow_assign rfl ?_)
  refine ops_nil ?_
  refine c_seqR ?_
  refine ops_cons rfl (ow_move rfl ?_)
  refine ops_cons rfl (ow_move rfl ?_)
  refine ops_cons rfl (ow_move rfl ?_)
  refine ops_cons rfl (ow_indexT hs SlotI.len rfl el26 rfl rfl rfl hx rfl ?_)
  refine ops_cons rfl (ow_loadTA hs SlotI.len hx ti89 rfl ?_)
  refine ops_cons rfl (ow_callVLB entG rfl rfl (hf x _ hS.h (List.mem_of_getElem? hx)) (fun w2 hF x1 => ?_) (fun w2 hF x1 => ?_))
  replace hs := hs.ext x1
  replace hS := hS.ext x1
  replace X := Ext.trans X x1; clear x1
  refine ops_nil ?_
  refine c_true rfl ?_
  refine c_seqR ?_
  refine ops_cons rfl (ow_move rfl ?_)
  refine ops_cons rfl (ow_assign rfl ?_)
  refine ops_nil ?_
  refine c_ret ?_
  refine bq_r ?_
  refine tq_r ?_
  refine tq_r ?_
  refine bq_r ?_
  refine tq_r ?_
  refine fin_ret1 rfl rfl ?_
  · skip
    refine ⟨congrArg (Value.int .i64) ?_, X⟩
    first | (rw [hi, drop_end hk]; rfl) | (rw [hi, dx, findS, if_pos hF])
  replace hs := hs.ext x1
  replace hS := hS.ext x1
  replace X := Ext.trans X x1; clear x1
  refine ops_nil ?_
  refine c_false rfl ?_
  refine c_skip ?_
  refine bq_n ?_
  refine tq_n ?_
  refine c_region ?_
  refine ops_cons rfl (ow_add rfl rfl (w64 (by omega)) ?_)
  refine ops_cons rfl (ow_move rfl ?_)
  refine ops_nil ?_
  refine tq_n ⟨k + 1, (.cons rfl (.cons rfl (.cons rfl (.cons rfl (.nil _))))), ?_, ?_⟩
  · exact ⟨by omega, (by rw [hi, dx, findS, if_neg (by simp [*])]; rfl), hs, hS, X⟩
  · first | omega | (dsimp only; omega)
  refine ops_nil ?_
  refine c_seq ?_
  refine c_false rfl ?_
  refine c_exit ?_
  refine tq_e ?_
  refine tq_e ?_
  refine bq_e ?_
  refine tq_n ?_
  refine c_seqR ?_
  refine ops_cons rfl (ow_assign rfl ?_)
  refine ops_nil ?_
  refine c_ret ?_
  refine fin_ret1 rfl rfl ?_
  · skip
    refine ⟨congrArg (Value.int .i64) ?_, X⟩
    first | (rw [hi, drop_end hk]; rfl) | (rw [hi, dx, findS, if_pos hF])

theorem ctG_c (A : Option Addr) (B c : Nat) (xs : List SlotI) (F : FuncId) (cv : List Value) (p : SlotI → Bool) (S : World → Prop) (w : World) (hs : Sl B w A (xs.flatMap SlotI.cells)) (hl : xs.length ≤ 1048576) (entG : Enters Tryz.prog F) (hS : Kept S w) (hf : ∀ (x : SlotI) (w1 : World), S w1 → x ∈ xs → Calls Tryz.prog F (.agg x.cells.toArray :: cv).toArray w1 (Ret fun v w2 => v = .bool (p x) ∧ Ext w1 w2)) :
    Calls Tryz.prog 186 #[.slice A xs.length c, .func (.func F) #[] cv.toArray] w (Ret fun v w' => v = .bool (xs.any p) ∧ Ext w w') := by
  have Bhs := hs.1
  have X := Ext.refl w
  refine calls_of (args := [.slice A xs.length c, .func (.func F) #[] cv.toArray]) Tryz.func186 Tryz.ntmps186 rfl rfl ?_
  refine c_seqR ?_
  refine ops_cons rfl (ow_assign rfl ?_)
  refine ops_nil ?_
  refine c_seqR ?_
  refine ops_cons rfl (ow_move rfl ?_)
  refine ops_cons rfl (ow_move rfl ?_)
  refine ops_cons rfl (ow_call ent190 rfl (ret_mono (idxG_c _ _ _ _ F cv p S _ hs hl entG hS hf) ?_))
  rintro _ w2 ⟨rfl, x1⟩
  replace hs := hs.ext x1
  replace hS := hS.ext x1
  replace X := Ext.trans X x1; clear x1
  refine ops_cons rfl (ow_geq rfl rfl ?_)
  refine ops_cons rfl (ow_assign rfl ?_)
  refine ops_nil ?_
  refine c_ret ?_
  refine fin_ret1 rfl rfl ?_
  exact ⟨congrArg Value.bool (findS_any p xs 0 (by omega)), X⟩

theorem stranger_c (x : SlotI) (gM : Nat) (m : MedlI) (B : Nat) (w : World) (hm : Med B w m) (hz : m.small) (bM : Blk w gM 28 m.cells) (hN : isNT m.ns = true) (hx : slotOk x = true) :
    Calls Tryz.prog 183 #[.agg x.cells.toArray, .pointer (some ⟨gM, 0, none⟩)] w (Ret fun v w' => v = .bool (!hasN (actV m.ns) x.desc.node) ∧ Ext w w') := by
  have hls := hz.ls
  have hlm := hz.lm
  have hln := hz.ln
  have hac := actV_lt hN
  have hxs := slotI hx
  have Bhm := hm.1
  have X := Ext.refl w
  refine calls_of (args := [.agg x.cells.toArray, .pointer (some ⟨gM, 0, none⟩)]) Tryz.func183 Tryz.ntmps183 rfl rfl ?_
  refine c_seqR ?_
  refine ops_cons rfl (ow_box rfl rfl ?_)
  intro g4 w3 eg4 b1 x2 zg4
  have lg4 : w.heap.size ≤ g4 := Nat.le_trans X.size (Nat.le_of_eq eg4.symm)
  have pg4hm := Nat.le_trans hm.1 (Nat.le_of_eq eg4.symm)
  have ng4bM := Nat.lt_of_lt_of_eq bM.lt eg4.symm
  replace hm := hm.ext x2
  replace bM := bM.ext x2
  replace X := Ext.trans X x2; clear x2
  refine ops_cons rfl (ow_assign rfl ?_)
  refine ops_nil ?_
  refine c_seqD [false, false, false, false, false, false, false, false, false] mixed (by kernel_rfl) ?_
  refine f_q rfl (fun wq sq => ow_fieldAddrB off28_1 rfl rfl ⟨rfl, Ext.refl _⟩) ?_
  refine f_q rfl (fun wq sq => ow_loadB (bM.ext sq) ti24 rfl rfl ⟨rfl, Ext.refl _⟩) ?_
  refine f_q rfl (fun wq sq => ow_call ent114 rfl (activeVector_c _ _ _ m.ns _ (hm.ext sq).sn hln (isNT_ids hN))) ?_
  refine f_q rfl (fun wq sq => ow_fieldAddrB off89_3 rfl rfl ⟨rfl, Ext.refl _⟩) ?_
  refine f_q rfl (fun wq sq => ow_fieldAddrB off67_0 rfl rfl ⟨rfl, Ext.refl _⟩) ?_
  refine f_q rfl (fun wq sq => ow_loadB (b1.ext sq) ti2 rfl rfl ⟨rfl, Ext.refl _⟩) ?_
  refine f_q rfl (fun wq sq => ow_call ent117 rfl (has_c _ _ _ hac hxs.2.1)) ?_
  refine f_q rfl (fun wq sq => ow_not rfl ⟨rfl, Ext.refl _⟩) ?_
  refine f_q rfl (fun wq sq => ow_assign rfl ⟨rfl, Ext.refl _⟩) ?_
  refine f_nil (fun w5 sq => ?_)
  have xq := sq
  replace hm := hm.ext xq
  replace bM := bM.ext xq
  replace b1 := b1.ext xq
  replace X := Ext.trans X xq; clear xq sq
  refine ops_nil ?_
  refine c_ret ?_
  refine fin_ret1 rfl rfl ?_
  exact ⟨by rfl, X⟩

theorem cold_c (x : SlotI) (w : World)  :
    Calls Tryz.prog 184 #[.agg x.cells.toArray] w (Ret fun v w' => v = .bool (decide (x.desc.kind = 3) && decide (x.mode ≠ 0)) ∧ Ext w w') := by
  have X := Ext.refl w
  refine calls_of (args := [.agg x.cells.toArray]) Tryz.func184 Tryz.ntmps184 rfl rfl ?_
  refine c_seqR ?_
  refine ops_cons rfl (ow_box rfl rfl ?_)
  intro g4 w3 eg4 b1 x2 zg4
  have lg4 : w.heap.size ≤ g4 := Nat.le_trans X.size (Nat.le_of_eq eg4.symm)
  replace X := Ext.trans X x2; clear x2
  refine ops_cons rfl (ow_assign rfl ?_)
  refine ops_nil ?_
  refine c_seqR ?_
  refine ops_cons rfl (ow_fieldAddrB off89_3 rfl rfl ?_)
  refine ops_cons rfl (ow_fieldAddrB off67_1 rfl rfl ?_)
  refine ops_cons rfl (ow_loadB b1 ti2 rfl rfl ?_)
  refine ops_cons rfl (ow_eql2 rfl rfl (fun h5 => ?_) (fun h5 => ?_))
  refine ops_cons rfl (ow_move rfl ?_)
  refine ops_want rfl rfl rfl (ow_fieldAddrB off89_0 rfl rfl ?_)
  refine ops_want rfl rfl rfl (ow_loadB b1 ti2 rfl rfl ?_)
  refine ops_want rfl rfl rfl (ow_neq rfl rfl ?_)
  refine ops_cons rfl (ow_pick rfl rfl ?_)
  refine ops_cons rfl (ow_assign rfl ?_)
  refine ops_nil ?_
  refine c_ret ?_
  refine fin_ret1 rfl rfl ?_
  exact ⟨by simp [*], X⟩
  refine ops_cons rfl (ow_move rfl ?_)
  refine ops_skip rfl rfl rfl rfl ?_
  refine ops_skip rfl rfl rfl rfl ?_
  refine ops_skip rfl rfl rfl rfl ?_
  refine ops_cons rfl (ow_pick rfl rfl ?_)
  refine ops_cons rfl (ow_assign rfl ?_)
  refine ops_nil ?_
  refine c_ret ?_
  refine fin_ret1 rfl rfl ?_
  exact ⟨by simp [*], X⟩

theorem iFF_c (m : MedlI) (B : Nat) (w : World) (hm : Med B w m) (hz : m.small) :
    Calls Tryz.prog 105 #[.agg m.cells.toArray] w (Ret fun v w' => v = .int .i64 (ffault m.d) ∧ Ext w w') := by
  have hls := hz.ls
  have hlm := hz.lm
  have hln := hz.ln
  have hl := hls
  have Bhm := hm.1
  have X := Ext.refl w
  refine calls_of (args := [.agg m.cells.toArray]) Tryz.func105 Tryz.ntmps105 rfl rfl ?_
  refine c_seqR ?_
  refine ops_cons rfl (ow_box rfl rfl ?_)
  intro gM w2 egM bM x1 zgM
  have lgM : w.heap.size ≤ gM := Nat.le_trans X.size (Nat.le_of_eq egM.symm)
  have pgMhm := Nat.le_trans hm.1 (Nat.le_of_eq egM.symm)
  replace hm := hm.ext x1
  replace X := Ext.trans X x1; clear x1
  refine ops_cons rfl (ow_assign rfl ?_)
  refine ops_nil ?_
  refine c_seqR ?_
  refine ops_cons rfl (ow_makeFunc rfl ?_)
  refine ops_cons rfl (ow_assign rfl ?_)
  refine ops_nil ?_
  refine c_seqR ?_
  refine ops_cons rfl (ow_assign rfl ?_)
  refine ops_nil ?_
  refine c_seq ?_
  refine c_block ?_
  refine c_seqR ?_
  refine ops_cons rfl (ow_fieldAddrB off28_0 rfl rfl ?_)
  refine ops_cons rfl (ow_loadB bM ti2 rfl rfl ?_)
  refine ops_cons rfl (ow_callB ent109 rfl (within_c _ _ _ _) (fun w4 hI x3 => ?_) (fun w4 hI x3 => ?_))
  replace hm := hm.ext x3
  replace bM := bM.ext x3
  replace X := Ext.trans X x3; clear x3
  refine ops_cons rfl (ow_not rfl ?_)
  refine ops_cons rfl (ow_assign rfl ?_)
  refine ops_nil ?_
  refine c_false rfl ?_
  refine c_seqR ?_
  refine ops_cons rfl (ow_fieldAddrB off28_1 rfl rfl ?_)
  refine ops_cons rfl (ow_loadB bM ti24 rfl rfl ?_)
  refine ops_cons rfl (ow_callB ent113 rfl (iIsNT_c _ _ _ m.ns hm.kn _ hm.sn hln (fun x hx => by have := hz.lz x hx; omega)) (fun w6 hN x5 => ?_) (fun w6 hN x5 => ?_))
  replace hm := hm.ext x5
  replace bM := bM.ext x5
  replace X := Ext.trans X x5; clear x5
  refine ops_cons rfl (ow_not rfl ?_)
  refine ops_cons rfl (ow_assign rfl ?_)
  refine ops_nil ?_
  refine c_false rfl ?_
  refine c_seqR ?_
  refine ops_cons rfl (ow_fieldAddrB off28_2 rfl rfl ?_)
  refine ops_cons rfl (ow_loadB bM ti25 rfl rfl ?_)
  refine ops_cons rfl (ow_callB ent163 rfl (iIsMT_c _ _ _ _ _ _ hm.sm hm.sx hlm hz.lx) (fun w9 hT x7 => ?_) (fun w9 hT x7 => ?_))
  replace hm := hm.ext x7
  replace bM := bM.ext x7
  replace X := Ext.trans X x7; clear x7
  refine ops_cons rfl (ow_not rfl ?_)
  refine ops_cons rfl (ow_assign rfl ?_)
  refine ops_nil ?_
  refine c_false rfl ?_
  refine c_seqR ?_
  refine ops_cons rfl (ow_fieldAddrB off28_3 rfl rfl ?_)
  refine ops_cons rfl (ow_loadB bM ti26 rfl rfl ?_)
  refine ops_cons rfl (ow_callB ent165 rfl (iIsST_c _ _ _ _ _ hm.ss hl) (fun w11 hS x10 => ?_) (fun w11 hS x10 => ?_))
  replace hm := hm.ext x10
  replace bM := bM.ext x10
  replace X := Ext.trans X x10; clear x10
  have hok := isST_all hS
  refine ops_cons rfl (ow_not rfl ?_)
  refine ops_cons rfl (ow_assign rfl ?_)
  refine ops_nil ?_
  refine c_false rfl ?_
  refine c_seqR ?_
  refine ops_cons rfl (ow_loadAB bM ti28 rfl rfl ?_)
  refine ops_cons rfl (ow_callB ent185 rfl (isComplete_c m _ _ hm hz hT hS) (fun w13 hC x12 => ?_) (fun w13 hC x12 => ?_))
  replace hm := hm.ext x12
  replace bM := bM.ext x12
  replace X := Ext.trans X x12; clear x12
  refine ops_cons rfl (ow_not rfl ?_)
  refine ops_cons rfl (ow_assign rfl ?_)
  refine ops_nil ?_
  refine c_false rfl ?_
  refine c_seqR ?_
  refine ops_cons rfl (ow_fieldAddrB off28_3 rfl rfl ?_)
  refine ops_cons rfl (ow_loadB bM ti26 rfl rfl ?_)
  refine ops_cons rfl (ow_move rfl ?_)
  refine ops_cons rfl (ow_callB ent186 rfl (ctG_c _ B m.cs m.ss 183 [.pointer (some ⟨gM, 0, none⟩)] (fun x => !hasN (actV m.ns) x.desc.node) (fun w => Med B w m ∧ Blk w gM 28 m.cells) _ hm.ss hls ent183 ⟨(fun _ _ h k => ⟨h.1.ext k, h.2.ext k⟩), hm, bM⟩ (fun x w1 h1 hx => stranger_c x gM m B w1 h1.1 hz h1.2 hN (hok x hx))) (fun w15 hE x14 => ?_) (fun w15 hE x14 => ?_))
  replace hm := hm.ext x14
  replace bM := bM.ext x14
  replace X := Ext.trans X x14; clear x14
  have hE2 : sendersB m.d = false := by rw [senders_any] at hE; simpa using hE
  refine ops_cons rfl (ow_assign rfl ?_)
  refine ops_nil ?_
  refine c_true rfl ?_
  refine c_seqR ?_
  refine ops_cons rfl (ow_assign rfl ?_)
  refine ops_nil ?_
  refine c_ret ?_
  refine bq_r ?_
  refine tq_r ?_
  refine fin_ret1 rfl rfl ?_
  · skip
    refine ⟨congrArg (Value.int .i64) ?_, X⟩
    rw [ff_eq]
    try clear hi
    try clear hi2
    simp [*]
  replace hm := hm.ext x14
  replace bM := bM.ext x14
  replace X := Ext.trans X x14; clear x14
  have hE2 : sendersB m.d = true := by rw [senders_any] at hE; simpa using hE
  refine ops_cons rfl (ow_assign rfl ?_)
  refine ops_nil ?_
  refine c_false rfl ?_
  refine c_seqR ?_
  refine ops_cons rfl (ow_loadAB bM ti28 rfl rfl ?_)
  refine ops_cons rfl (ow_callB ent187 rfl (isSteady_c m _ _ hm hz hT hS hC) (fun w17 hD x16 => ?_) (fun w17 hD x16 => ?_))
  replace hm := hm.ext x16
  replace bM := bM.ext x16
  replace X := Ext.trans X x16; clear x16
  refine ops_cons rfl (ow_not rfl ?_)
  refine ops_cons rfl (ow_assign rfl ?_)
  refine ops_nil ?_
  refine c_false rfl ?_
  refine c_seqR ?_
  refine ops_cons rfl (ow_loadAB bM ti28 rfl rfl ?_)
  refine ops_cons rfl (ow_callB ent188 rfl (isShort_c m _ _ hm hz hok) (fun w19 hSh x18 => ?_) (fun w19 hSh x18 => ?_))
  replace hm := hm.ext x18
  replace bM := bM.ext x18
  replace X := Ext.trans X x18; clear x18
  refine ops_cons rfl (ow_not rfl ?_)
  refine ops_cons rfl (ow_assign rfl ?_)
  refine ops_nil ?_
  refine c_false rfl ?_
  refine c_seqR ?_
  refine ops_cons rfl (ow_loadAB bM ti28 rfl rfl ?_)
  refine ops_cons rfl (ow_callB ent189 rfl (allSend_c m _ _ hm hz hok hN hT) (fun w21 hV x20 => ?_) (fun w21 hV x20 => ?_))
  replace hm := hm.ext x20
  replace bM := bM.ext x20
  replace X := Ext.trans X x20; clear x20
  rw [serv_eq (act := actV m.ns) (ss := m.ss) hE2] at hV
  refine ops_cons rfl (ow_not rfl ?_)
  refine ops_cons rfl (ow_assign rfl ?_)
  refine ops_nil ?_
  refine c_false rfl ?_
  refine c_seqR ?_
  refine ops_cons rfl (ow_fieldAddrB off28_3 rfl rfl ?_)
  refine ops_cons rfl (ow_loadB bM ti26 rfl rfl ?_)
  refine ops_cons rfl (ow_move rfl ?_)
  refine ops_cons rfl (ow_callB ent186 rfl (ctG_c _ B m.cs m.ss 184 [] (fun x => decide (x.desc.kind = 3) && decide (x.mode ≠ 0)) (fun _ => True) _ hm.ss hls ent184 ⟨(fun _ _ _ _ => trivial), trivial⟩ (fun x w1 _ _ => cold_c x w1)) (fun w23 hCo x22 => ?_) (fun w23 hCo x22 => ?_))
  replace hm := hm.ext x22
  replace bM := bM.ext x22
  replace X := Ext.trans X x22; clear x22
  have hCo2 : coldB m.ss = true := hCo
  refine ops_cons rfl (ow_assign rfl ?_)
  refine ops_nil ?_
  refine c_true rfl ?_
  refine c_seqR ?_
  refine ops_cons rfl (ow_assign rfl ?_)
  refine ops_nil ?_
  refine c_ret ?_
  refine bq_r ?_
  refine tq_r ?_
  refine fin_ret1 rfl rfl ?_
  · skip
    refine ⟨congrArg (Value.int .i64) ?_, X⟩
    rw [ff_eq]
    try clear hi
    try clear hi2
    simp [*]
  replace hm := hm.ext x22
  replace bM := bM.ext x22
  replace X := Ext.trans X x22; clear x22
  have hCo2 : coldB m.ss = false := hCo
  refine ops_cons rfl (ow_assign rfl ?_)
  refine ops_nil ?_
  refine c_false rfl ?_
  refine c_skip ?_
  refine bq_n ?_
  refine tq_n ?_
  refine c_seqR ?_
  refine ops_cons rfl (ow_assign rfl ?_)
  refine ops_nil ?_
  refine c_ret ?_
  refine fin_ret1 rfl rfl ?_
  · skip
    refine ⟨congrArg (Value.int .i64) ?_, X⟩
    rw [ff_eq]
    try clear hi
    try clear hi2
    simp [*]
  replace hm := hm.ext x20
  replace bM := bM.ext x20
  replace X := Ext.trans X x20; clear x20
  rw [serv_eq (act := actV m.ns) (ss := m.ss) hE2] at hV
  refine ops_cons rfl (ow_not rfl ?_)
  refine ops_cons rfl (ow_assign rfl ?_)
  refine ops_nil ?_
  refine c_true rfl ?_
  refine c_seqR ?_
  refine ops_cons rfl (ow_assign rfl ?_)
  refine ops_nil ?_
  refine c_ret ?_
  refine bq_r ?_
  refine tq_r ?_
  refine fin_ret1 rfl rfl ?_
  · skip
    refine ⟨congrArg (Value.int .i64) ?_, X⟩
    rw [ff_eq]
    try clear hi
    try clear hi2
    simp [*]
  replace hm := hm.ext x18
  replace bM := bM.ext x18
  replace X := Ext.trans X x18; clear x18
  refine ops_cons rfl (ow_not rfl ?_)
  refine ops_cons rfl (ow_assign rfl ?_)
  refine ops_nil ?_
  refine c_true rfl ?_
  refine c_seqR ?_
  refine ops_cons rfl (ow_assign rfl ?_)
  refine ops_nil ?_
  refine c_ret ?_
  refine bq_r ?_
  refine tq_r ?_
  refine fin_ret1 rfl rfl ?_
  · skip
    refine ⟨congrArg (Value.int .i64) ?_, X⟩
    rw [ff_eq]
    try clear hi
    try clear hi2
    simp [*]
  replace hm := hm.ext x16
  replace bM := bM.ext x16
  replace X := Ext.trans X x16; clear x16
  refine ops_cons rfl (ow_not rfl ?_)
  refine ops_cons rfl (ow_assign rfl ?_)
  refine ops_nil ?_
  refine c_true rfl ?_
  refine c_seqR ?_
  refine ops_cons rfl (ow_assign rfl ?_)
  refine ops_nil ?_
  refine c_ret ?_
  refine bq_r ?_
  refine tq_r ?_
  refine fin_ret1 rfl rfl ?_
  · skip
    refine ⟨congrArg (Value.int .i64) ?_, X⟩
    rw [ff_eq]
    try clear hi
    try clear hi2
    simp [*]
  replace hm := hm.ext x12
  replace bM := bM.ext x12
  replace X := Ext.trans X x12; clear x12
  refine ops_cons rfl (ow_not rfl ?_)
  refine ops_cons rfl (ow_assign rfl ?_)
  refine ops_nil ?_
  refine c_true rfl ?_
  refine c_seqR ?_
  refine ops_cons rfl (ow_assign rfl ?_)
  refine ops_nil ?_
  refine c_ret ?_
  refine bq_r ?_
  refine tq_r ?_
  refine fin_ret1 rfl rfl ?_
  · skip
    refine ⟨congrArg (Value.int .i64) ?_, X⟩
    rw [ff_eq]
    try clear hi
    try clear hi2
    simp [*]
  replace hm := hm.ext x10
  replace bM := bM.ext x10
  replace X := Ext.trans X x10; clear x10
  refine ops_cons rfl (ow_not rfl ?_)
  refine ops_cons rfl (ow_assign rfl ?_)
  refine ops_nil ?_
  refine c_true rfl ?_
  refine c_seqR ?_
  refine ops_cons rfl (ow_assign rfl ?_)
  refine ops_nil ?_
  refine c_ret ?_
  refine bq_r ?_
  refine tq_r ?_
  refine fin_ret1 rfl rfl ?_
  · skip
    refine ⟨congrArg (Value.int .i64) ?_, X⟩
    rw [ff_eq]
    try clear hi
    try clear hi2
    simp [*]
  replace hm := hm.ext x7
  replace bM := bM.ext x7
  replace X := Ext.trans X x7; clear x7
  refine ops_cons rfl (ow_not rfl ?_)
  refine ops_cons rfl (ow_assign rfl ?_)
  refine ops_nil ?_
  refine c_true rfl ?_
  refine c_seqR ?_
  refine ops_cons rfl (ow_assign rfl ?_)
  refine ops_nil ?_
  refine c_ret ?_
  refine bq_r ?_
  refine tq_r ?_
  refine fin_ret1 rfl rfl ?_
  · skip
    refine ⟨congrArg (Value.int .i64) ?_, X⟩
    rw [ff_eq]
    try clear hi
    try clear hi2
    simp [*]
  replace hm := hm.ext x5
  replace bM := bM.ext x5
  replace X := Ext.trans X x5; clear x5
  refine ops_cons rfl (ow_not rfl ?_)
  refine ops_cons rfl (ow_assign rfl ?_)
  refine ops_nil ?_
  refine c_true rfl ?_
  refine c_seqR ?_
  refine ops_cons rfl (ow_assign rfl ?_)
  refine ops_nil ?_
  refine c_ret ?_
  refine bq_r ?_
  refine tq_r ?_
  refine fin_ret1 rfl rfl ?_
  · skip
    refine ⟨congrArg (Value.int .i64) ?_, X⟩
    rw [ff_eq]
    try clear hi
    try clear hi2
    simp [*]
  replace hm := hm.ext x3
  replace bM := bM.ext x3
  replace X := Ext.trans X x3; clear x3
  refine ops_cons rfl (ow_not rfl ?_)
  refine ops_cons rfl (ow_assign rfl ?_)
  refine ops_nil ?_
  refine c_true rfl ?_
  refine c_seqR ?_
  refine ops_cons rfl (ow_assign rfl ?_)
  refine ops_nil ?_
  refine c_ret ?_
  refine bq_r ?_
  refine tq_r ?_
  refine fin_ret1 rfl rfl ?_
  · skip
    refine ⟨congrArg (Value.int .i64) ?_, X⟩
    rw [ff_eq]
    try clear hi
    try clear hi2
    simp [*]

theorem sIsMedl_c (m : MedlI) (B : Nat) (w : World) (hm : Med B w m) (hz : m.small) :
    Calls Tryz.prog 70 #[.agg m.cells.toArray] w (Ret fun v w' => v = .bool (isMedl m.d) ∧ Ext w w') := by
  have Bhm := hm.1
  have X := Ext.refl w
  refine calls_of (args := [.agg m.cells.toArray]) Tryz.func70 Tryz.ntmps70 rfl rfl ?_
  refine c_seqR ?_
  refine ops_cons rfl (ow_box rfl rfl ?_)
  intro g4 w3 eg4 b1 x2 zg4
  have lg4 : w.heap.size ≤ g4 := Nat.le_trans X.size (Nat.le_of_eq eg4.symm)
  have pg4hm := Nat.le_trans hm.1 (Nat.le_of_eq eg4.symm)
  replace hm := hm.ext x2
  replace X := Ext.trans X x2; clear x2
  refine ops_cons rfl (ow_assign rfl ?_)
  refine ops_nil ?_
  refine c_seqR ?_
  refine ops_cons rfl (ow_loadAB b1 ti28 rfl rfl ?_)
  refine ops_cons rfl (ow_call ent154 rfl (ret_mono (sFF_c m _ _ hm hz) ?_))
  rintro _ w6 ⟨rfl, x5⟩
  replace hm := hm.ext x5
  replace b1 := b1.ext x5
  replace X := Ext.trans X x5; clear x5
  refine ops_cons rfl (ow_eql rfl rfl ?_)
  refine ops_cons rfl (ow_assign rfl ?_)
  refine ops_nil ?_
  refine c_ret ?_
  refine fin_ret1 rfl rfl ?_
  exact ⟨by rfl, X⟩

theorem iIsMedl_c (m : MedlI) (B : Nat) (w : World) (hm : Med B w m) (hz : m.small) :
    Calls Tryz.prog 33 #[.agg m.cells.toArray] w (Ret fun v w' => v = .bool (isMedl m.d) ∧ Ext w w') := by
  have Bhm := hm.1
  have X := Ext.refl w
  refine calls_of (args := [.agg m.cells.toArray]) Tryz.func33 Tryz.ntmps33 rfl rfl ?_
  refine c_seqR ?_
  refine ops_cons rfl (ow_box rfl rfl ?_)
  intro g4 w3 eg4 b1 x2 zg4
  have lg4 : w.heap.size ≤ g4 := Nat.le_trans X.size (Nat.le_of_eq eg4.symm)
  have pg4hm := Nat.le_trans hm.1 (Nat.le_of_eq eg4.symm)
  replace hm := hm.ext x2
  replace X := Ext.trans X x2; clear x2
  refine ops_cons rfl (ow_assign rfl ?_)
  refine ops_nil ?_
  refine c_seqR ?_
  refine ops_cons rfl (ow_loadAB b1 ti28 rfl rfl ?_)
  refine ops_cons rfl (ow_call ent105 rfl (ret_mono (iFF_c m _ _ hm hz) ?_))
  rintro _ w6 ⟨rfl, x5⟩
  replace hm := hm.ext x5
  replace b1 := b1.ext x5
  replace X := Ext.trans X x5; clear x5
  refine ops_cons rfl (ow_eql rfl rfl ?_)
  refine ops_cons rfl (ow_assign rfl ?_)
  refine ops_nil ?_
  refine c_ret ?_
  refine fin_ret1 rfl rfl ?_
  exact ⟨by rfl, X⟩
end Go.Proofs.YtdoibplhbdkapaaGreatDoor
namespace Go.Proofs.YtdoibplhbdkapaaGreatDoor
open Go.RowKit
set_option linter.unusedVariables false
set_option linter.unusedSimpArgs false

def digF : Nat → Nat → ByteArray → ByteArray
  | 0, _, out => out
  | f + 1, k, out => if k = 0 then out else digF f (k / 10) (strOf [UInt8.ofNat (48 + k % 10)] ++ out)
def markT (k : Int) : ByteArray := if k ≤ 0 then ⟨#[109, 48]⟩ else ⟨#[109]⟩ ++ digF k.toNat k.toNat ⟨#[]⟩
theorem dig_size (b : UInt8) (out : ByteArray) : (strOf [b] ++ out).size = out.size + 1 := by
  rw [ByteArray.size_append]
  show 1 + out.size = _
  omega
theorem u8dig {k : Nat} : ((UInt8.ofNat (48 + k % 10)).toNat : Int) = 48 + (k : Int) % 10 := by
  have : k % 10 < 10 := Nat.mod_lt _ (by omega)
  rw [UInt8.toNat_ofNat']
  omega
theorem wu8 {n : Int} (h : 0 ≤ n ∧ n ≤ 255) : IntKind.u8.wrap n = n := by
  simp only [IntKind.wrap, IntKind.bits, IntKind.signed]
  simp
  omega

def seqI (m : Int) (n : Nat) : List Int := (List.range n).map fun (i : Nat) => m + i
theorem seqI_len (m : Int) (n : Nat) : (seqI m n).length = n := by simp [seqI]
theorem seqI_set {m : Int} {k : Nat} {xs : List Int} (hk : k < xs.length) : (seqI m k ++ xs.drop k).set k (m + k) = seqI m (k + 1) ++ xs.drop (k + 1) := by
  rw [List.set_append, if_neg (by simp [seqI_len]), seqI_len, Nat.sub_self, List.drop_eq_getElem_cons hk, List.set_cons_zero]
  simp [seqI, List.range_succ]
theorem seqI_at {m : Int} {k n : Nat} (h : k < n) : (seqI m n)[k]? = some (m + k) := by simp [seqI, h]
theorem seqI_at' {m : Int} {k : Nat} {xs : List Int} (hk : k < xs.length) : (seqI m k ++ xs.drop k)[k]? = some (xs[k]) := by
  rw [List.getElem?_append_right (by simp [seqI_len]), seqI_len, Nat.sub_self, List.getElem?_drop, Nat.add_zero, List.getElem?_eq_getElem hk]
theorem seqI_end {m : Int} {k : Nat} {xs : List Int} (h0 : k ≤ xs.length) (hk : ¬ (k : Int) < (xs.length : Int)) : seqI m k ++ xs.drop k = seqI m xs.length := by
  rw [drop_end hk, List.append_nil, show k = xs.length by omega]
def mkMode (a : Int) (x : ModeI) : ModeI := ⟨⟨a, a + 1, seqI (a + 1 + 1) x.m.next.length⟩, x.A, x.c⟩
def endMode (a : Int) (x : ModeI) : Int := a + 1 + 1 + x.m.next.length
def mkModes (a : Int) : List ModeI → List ModeI
  | [] => []
  | x :: r => mkMode a x :: mkModes (endMode a x) r
def endModes (a : Int) : List ModeI → Int
  | [] => a
  | x :: r => endModes (endMode a x) r
theorem mkModes_len : ∀ (l : List ModeI) (a : Int), (mkModes a l).length = l.length
  | [], _ => rfl
  | x :: r, a => by rw [mkModes, List.length_cons, mkModes_len r, List.length_cons]
theorem mkModes_snoc : ∀ (l : List ModeI) (a : Int) (x : ModeI), mkModes a (l ++ [x]) = mkModes a l ++ [mkMode (endModes a l) x]
  | [], a, x => rfl
  | y :: r, a, x => by rw [List.cons_append, mkModes, mkModes_snoc r, mkModes, List.cons_append, endModes]
theorem endModes_snoc : ∀ (l : List ModeI) (a : Int) (x : ModeI), endModes a (l ++ [x]) = endMode (endModes a l) x
  | [], a, x => rfl
  | y :: r, a, x => by rw [List.cons_append, endModes, endModes_snoc r, endModes]
theorem mkMode_blk (a : Int) (x : ModeI) : (mkMode a x).blk = x.blk := by
  unfold ModeI.blk mkMode
  simp only [seqI_len]
theorem mkModes_mem : ∀ (l : List ModeI) (a : Int) (y : ModeI), y ∈ mkModes a l → ∃ (i : Nat) (x : ModeI), l[i]? = some x ∧ y.blk = x.blk
  | [], a, y, h => by simp [mkModes] at h
  | x :: r, a, y, h => by
    rw [mkModes] at h
    rcases List.mem_cons.1 h with rfl | h
    · exact ⟨0, x, rfl, mkMode_blk a x⟩
    · obtain ⟨i, z, h1, h2⟩ := mkModes_mem r _ y h
      exact ⟨i + 1, z, by simpa using h1, h2⟩
theorem mkModes_drop : ∀ (l : List ModeI) (a : Int) (k : Nat), (mkModes a l).drop k = mkModes (endModes a (l.take k)) (l.drop k)
  | l, a, 0 => by simp [endModes]
  | [], a, k + 1 => by simp [mkModes]
  | x :: r, a, k + 1 => by simp only [mkModes, List.drop_succ_cons, List.take_succ_cons, endModes]; exact mkModes_drop r _ k
theorem mkMode_cells (a : Int) (x : ModeI) : (mkMode a x).cells = (⟨⟨a, a + 1, x.m.next⟩, x.A, x.c⟩ : ModeI).cells := by
  simp only [mkMode, ModeI.cells, seqI_len]
/-- the marks in all lists of a schedule -/
structure MSeen (w : World) (lo : Nat) (tN tM tI tS : TypeId) (m : MedlI) (a : Int) (ns : List NodeI) (ms : List ModeI) (ss : List SlotI) : Prop where
  on : Own w lo tN 4 m.An m.ns.length m.cn (ns.flatMap NodeI.cells)
  om : Own w lo tM 3 m.Am m.ms.length m.cm (ms.flatMap ModeI.cells)
  ox : NOwn w lo tI ms
  os : Own w lo tS 8 m.As m.ss.length m.cs (ss.flatMap SlotI.cells)
theorem Win.trans {lo hi : Nat} {a b c : World} (h : Win lo hi a b) (k : Win lo hi b c) : Win lo hi a c :=
  ⟨k.os.trans h.os, k.tape.trans h.tape, k.output.trans h.output, Nat.le_trans h.size k.size, fun i hi' ho => (k.block i (Nat.lt_of_lt_of_le hi' h.size) ho).trans (h.block i hi' ho)⟩
theorem Win.ofExt {lo hi : Nat} {a b : World} (h : Ext a b) : Win lo hi a b := ⟨h.os, h.tape, h.output, h.size, fun i hi' _ => h.block i hi'⟩
theorem Win.ofGrown {lo hi : Nat} {a b : World} {row : Option Nat} (h : a.grownBy b row) (hr : ∀ g, row = some g → lo ≤ g ∧ g < hi) : Win lo hi a b :=
  ⟨h.os, h.tape, h.output, h.size, fun k hk ho => h.block k hk (fun e => by have := hr k e.symm; omega)⟩
theorem NOwn.grownX {w w' : World} {lo : Nat} {t : TypeId} {xs : List ModeI} {row : Option Nat} (h : NOwn w lo t xs) (hg : w.grownBy w' row) (hr : ∀ x ∈ xs, ∀ g, row = some g → x.blk ≠ some g) : NOwn w' lo t xs :=
  fun x hx => ⟨(h x hx).1.grown hg (hr x hx), (h x hx).2⟩
theorem Disj.not {xs : List ModeI} (h : Disj xs) {i k : Nat} {x y : ModeI} (hx : xs[i]? = some x) (hy : xs[k]? = some y) (hik : i ≠ k) (g : Nat) (hg : y.blk = some g) : x.blk ≠ some g := fun e => h k i y x hy hx (fun e => hik e.symm) g hg e
theorem take_get {α : Type} {xs : List α} {k i : Nat} {x : α} (h : (xs.take k)[i]? = some x) : i < k ∧ xs[i]? = some x := by
  rw [List.getElem?_take] at h
  split at h
  · rename_i h1; exact ⟨h1, h⟩
  · cases h
def Kep (ts : List TypeId) (w w' : World) : Prop := w.heap.size ≤ w'.heap.size ∧ ∀ (k : Nat) (cur : Array Value) (t : TypeId) (e : Nat × Nat), w.heap[k]? = some (Obj.cells cur t e) → t ∉ ts → w'.heap[k]? = some (Obj.cells cur t e)
section
variable {ts : List TypeId} {w w' w'' : World} {lo hi lo' n c s g : Nat} {t : TypeId} {A : Option Addr} {cs : List Value} {xs : List ModeI}
theorem Kep.refl : Kep ts w w := ⟨Nat.le_refl _, fun _ _ _ _ h _ => h⟩
theorem Kep.trans (h : Kep ts w w') (k : Kep ts w' w'') : Kep ts w w'' := ⟨Nat.le_trans h.1 k.1, fun i cur t e hi ht => k.2 i cur t e (h.2 i cur t e hi ht) ht⟩
theorem Kep.ofGrown (hg : w.grownBy w' (Value.slice A n c).ownBlock) (o : Own w lo t s A n c cs) (ht : t ∈ ts) : Kep ts w w' := ⟨hg.size, fun i cur t' e hi ht' => by
  have hlt := (Array.getElem?_eq_some_iff.1 hi).1
  refine (hg.block i hlt (fun e' => ?_)).trans hi
  obtain ⟨cur2, h2⟩ := o.at_ e'.symm
  rw [hi] at h2
  injection h2 with h2
  injection h2 with _ h3
  rw [h3] at ht'; exact ht' ht⟩
theorem Own.kep (h : Own w lo t s A n c cs) (k : Kep ts w w') (ht : t ∉ ts) : Own w' lo t s A n c cs := by
  refine ⟨h.1, ?_⟩
  rcases h.2 with h2 | ⟨g, cap, cur, hv, hlo, hh, r⟩
  · exact .inl h2
  · exact .inr ⟨g, cap, cur, hv, hlo, k.2 _ _ _ _ hh ht, r⟩
theorem Blk.kep (h : Blk w g t cs) (k : Kep ts w w') (ht : t ∉ ts) : Blk w' g t cs := k.2 _ _ _ _ h ht
theorem NOwn.kep (h : NOwn w lo t xs) (k : Kep ts w w') (ht : t ∉ ts) : NOwn w' lo t xs := fun x hx => ⟨(h x hx).1.kep k ht, (h x hx).2⟩
structure WinK (lo hi : Nat) (ts : List TypeId) (w w' : World) : Prop where
  win : Win lo hi w w'
  kep : Kep ts w w'
theorem WinK.refl (lo hi : Nat) (ts : List TypeId) (w : World) : WinK lo hi ts w w := ⟨Win.refl lo hi w, Kep.refl⟩
theorem WinK.grownK (h : WinK lo hi ts w w') (hg : w'.grownBy w'' (Value.slice A n c).ownBlock) (o : Own w' lo' t s A n c cs) (ht : t ∈ ts) (hr : ∀ g, (Value.slice A n c).ownBlock = some g → lo ≤ g ∧ g < hi) : WinK lo hi ts w w'' :=
  ⟨h.win.grown hg hr, h.kep.trans (Kep.ofGrown hg o ht)⟩
end
/-- the lists of a marked schedule -/
def nsM (a : Int) (m : MedlI) (mk : Int → NodeI) : List NodeI := seqG (fun i => mk (a + 4 * (i : Nat))) m.ns.length
def a1M (a : Int) (m : MedlI) : Int := a + 4 * m.ns.length
def a2M (a : Int) (m : MedlI) : Int := endModes (a1M a m) m.ms
def endMedl (a : Int) (m : MedlI) : Int := a2M a m + 8 * m.ss.length
def ssM (a : Int) (m : MedlI) (mk : Int → SlotI) : List SlotI := seqG (fun i => mk (a2M a m + 8 * (i : Nat))) m.ss.length
theorem endModes_in : ∀ (l : List ModeI) (a : Int), (∀ x ∈ l, x.m.next.length ≤ 1048576) → a ≤ endModes a l ∧ endModes a l ≤ a + 1048578 * l.length
  | [], a, _ => by simp [endModes]
  | x :: r, a, h => by
    have h1 := h x (by simp)
    have h2 := endModes_in r (endMode a x) fun y hy => h y (by simp [hy])
    rw [endModes, List.length_cons]
    unfold endMode at *
    omega
theorem endMedl_pos {a : Int} {m : MedlI} (hz : m.small) (ha : 0 ≤ a) : 0 ≤ endMedl a m := by
  have h1 := endModes_in m.ms (a1M a m) hz.lx
  unfold endMedl a2M
  unfold a1M at *
  omega
end Go.Proofs.YtdoibplhbdkapaaGreatDoor
namespace Go.Proofs.YtdoibplhbdkapaaGreatDoor
open Go.RowKit
set_option linter.unusedVariables false
set_option linter.unusedSimpArgs false
set_option maxRecDepth 20000
def zeroM : MedlI := ⟨0, none, [], 0, none, [], 0, none, [], 0⟩
end Go.Proofs.YtdoibplhbdkapaaGreatDoor
namespace Go.Proofs.YtdoibplhbdkapaaGreatDoor
open Go.RowKit
set_option linter.unusedVariables false
set_option linter.unusedSimpArgs false
set_option maxRecDepth 20000
theorem app_at {α : Type} {ps ys : List α} {k : Nat} {x : α} (hp : ps.length = k) (hx : ys[k]? = some x) : (ps ++ ys.drop k)[k]? = some x := by
  rw [List.getElem?_append_right (by omega), hp, Nat.sub_self, List.getElem?_drop, Nat.add_zero, hx]
theorem app_set {α : Type} {ps ys : List α} {k : Nat} {x y : α} (hp : ps.length = k) (hx : ys[k]? = some x) : (ps ++ ys.drop k).set k y = (ps ++ [y]) ++ ys.drop (k + 1) := by
  obtain ⟨hk, _⟩ := List.getElem?_eq_some_iff.1 hx
  rw [List.set_append, if_neg (by omega), hp, Nat.sub_self, List.drop_eq_getElem_cons hk, List.set_cons_zero]; simp
theorem app_len {α : Type} {ps ys : List α} {k : Nat} (hp : ps.length = k) (hk : k ≤ ys.length) : (ps ++ ys.drop k).length = ys.length := by simp [hp]; omega
theorem zeroM_own (w : World) (lo : Nat) (a b c d : TypeId) : MOwn w lo a b c d zeroM := ⟨Own.nil_ _ _ _ _, Own.nil_ _ _ _ _, NOwn.nil_, Disj.nil_, Own.nil_ _ _ _ _⟩
theorem zeroM_small : zeroM.small := ⟨by decide, by decide, fun x hx => by simp [zeroM] at hx, by decide, fun x hx => by simp [zeroM] at hx⟩
end Go.Proofs.YtdoibplhbdkapaaGreatDoor
namespace Go.Proofs.YtdoibplhbdkapaaGreatDoor
open Go.RowKit
set_option linter.unusedVariables false
set_option linter.unusedSimpArgs false
set_option maxRecDepth 20000
theorem idOf_c (A : Option Addr) (B c n : Nat) (xs : List Int) (x y z : Int) (w : World) (hs : Sl B w A (xs.flatMap eI)) (en : xs.length = n) (hx : xs[0]? = some x) (hy : xs[1]? = some y) (hz : xs[2]? = some z) (rx : 0 ≤ x ∧ x ≤ 255) (ry : 0 ≤ y ∧ y ≤ 255) (rz : 0 ≤ z ∧ z ≤ 255) :
    Calls Tryz.prog 75 #[.slice A n c] w (Ret fun v w' => v = .int .i64 (x * 65536 + y * 256 + z) ∧ Ext w w') := by
  have Bhs := hs.1
  have X := Ext.refl w
  refine calls_of (args := [.slice A n c]) Tryz.func75 Tryz.ntmps75 rfl rfl ?_
  refine c_seqR ?_
  refine ops_cons rfl (ow_assign rfl ?_)
  refine ops_nil ?_
  refine c_seqD [false, false, false, false, false, false, false, false, false, false, false, false, false, false] mixed (by kernel_rfl) ?_
  refine f_q rfl (fun wq sq => ow_move rfl ⟨rfl, Ext.refl _⟩) ?_
  refine f_q rfl (fun wq sq => ow_indexT (hs.ext sq) eI_len rfl el30 rfl en.symm rfl hx rfl ⟨rfl, Ext.refl _⟩) ?_
  refine f_q rfl (fun wq sq => ow_loadT (hs.ext sq) eI_len hx ti2 rfl rfl rfl ⟨rfl, Ext.refl _⟩) ?_
  refine f_q rfl (fun wq sq => ow_shl rfl rfl (by omega) (show IntKind.i64.wrap (x * 2 ^ (min ((16 : Int).toNat) IntKind.i64.bits)) = x * 65536 by rw [show (2 : Int) ^ (min ((16 : Int).toNat) IntKind.i64.bits) = 65536 from rfl]; exact w64 (by omega)) ⟨rfl, Ext.refl _⟩) ?_
  refine f_q rfl (fun wq sq => ow_move rfl ⟨rfl, Ext.refl _⟩) ?_
  refine f_q rfl (fun wq sq => ow_indexT (hs.ext sq) eI_len rfl el30 rfl en.symm rfl hy rfl ⟨rfl, Ext.refl _⟩) ?_
  refine f_q rfl (fun wq sq => ow_loadT (hs.ext sq) eI_len hy ti2 rfl rfl rfl ⟨rfl, Ext.refl _⟩) ?_
  refine f_q rfl (fun wq sq => ow_shl rfl rfl (by omega) (show IntKind.i64.wrap (y * 2 ^ (min ((8 : Int).toNat) IntKind.i64.bits)) = y * 256 by rw [show (2 : Int) ^ (min ((8 : Int).toNat) IntKind.i64.bits) = 256 from rfl]; exact w64 (by omega)) ⟨rfl, Ext.refl _⟩) ?_
  refine f_q rfl (fun wq sq => ow_add rfl rfl (w64 (by omega)) ⟨rfl, Ext.refl _⟩) ?_
  refine f_q rfl (fun wq sq => ow_move rfl ⟨rfl, Ext.refl _⟩) ?_
  refine f_q rfl (fun wq sq => ow_indexT (hs.ext sq) eI_len rfl el30 rfl en.symm rfl hz rfl ⟨rfl, Ext.refl _⟩) ?_
  refine f_q rfl (fun wq sq => ow_loadT (hs.ext sq) eI_len hz ti2 rfl rfl rfl ⟨rfl, Ext.refl _⟩) ?_
  refine f_q rfl (fun wq sq => ow_add rfl rfl (w64 (by omega)) ⟨rfl, Ext.refl _⟩) ?_
  refine f_q rfl (fun wq sq => ow_assign rfl ⟨rfl, Ext.refl _⟩) ?_
  refine f_nil (fun w1 sq => ?_)
  have xq := sq
  replace hs := hs.ext xq
  replace X := Ext.trans X xq; clear xq sq
  refine ops_nil ?_
  refine c_ret ?_
  refine fin_ret1 rfl rfl ?_
  exact ⟨by rfl, X⟩

end Go.Proofs.YtdoibplhbdkapaaGreatDoor
