/- The law FnSlotTimes answers true for all arguments that its row admits, and leaves what was there before as it was. No condition. -/
import Derived.Test.YtdoibplhbdkapaaGreatDoorCEP19
import Derived.Test.YtdoibplhbdkapaaGreatDoorCEP22
import Derived.Test.YtdoibplhbdkapaaGreatDoorCEP3
import Derived.Test.YtdoibplhbdkapaaGreatDoorCEP23
import Derived.Test.YtdoibplhbdkapaaGreatDoorTie
import Derived.Test.YtdoibplhbdkapaaGreatDoorCards
import Derived.Lay
import Derived.LaidOnce
import Derived.SevenTiedAt
/- The law FnSlotTimes answers true for all arguments that its row admits, and leaves what was there before as it was. No condition. -/
namespace Go.Proofs.YtdoibplhbdkapaaGreatDoor
open Go.ChangeShapes Go.WideShapes Go.ChangeAt Go.RowKit
set_option linter.unusedVariables false
set_option linter.unusedSimpArgs false
set_option maxRecDepth 20000
theorem eqSelf_StateI (d : StateI) (w : World) (k : Nat) : (Op.equalIn (k + 2) 62 (.agg d.cells.toArray) (.agg d.cells.toArray)).run Tryz.prog w = .ok true w := by
  rw [run_equalIn_agg w (k + 1) 62 _ _ (by kernel_rfl) (by kernel_rfl)]
  simp only [Program.fieldsOf, Tryz.underlying62, StateI.cells]
  simp [Op.eqFields, part, run_equalIn_int w k 2 _ _ _ _ Tryz.underlying2]
theorem eqSelf_Desc (d : Desc) (w : World) (k : Nat) : (Op.equalIn (k + 2) 67 (.agg d.cells.toArray) (.agg d.cells.toArray)).run Tryz.prog w = .ok true w := by
  rw [run_equalIn_agg w (k + 1) 67 _ _ (by kernel_rfl) (by kernel_rfl)]
  simp only [Program.fieldsOf, Tryz.underlying67, Desc.cells]
  simp [Op.eqFields, part, run_equalIn_int w k 2 _ _ _ _ Tryz.underlying2, run_equalIn_bool' w k 4 _ _ Tryz.underlying4]
theorem start_code {m : MedlI} {s : StateI} (h : ¬ (startF m.d s).2 ≠ 0) : lookC m.d s = 0 := by
  by_cases h1 : lookC m.d s = 0
  · exact h1
  · rw [startF, if_neg h1] at h; exact absurd h1 h
set_option maxHeartbeats 1000000 in
theorem law_FnSlotTimes (A : Option Addr) (B c : Nat) (bs : List UInt8) (w : World) (hs : Sl B w A (bs.flatMap eB)) (hm0 : bs.length ≤ 9223372036854775807) :
    Calls Tryz.prog 8 #[.slice A bs.length c] w (Ret fun v w' => v = .bool true ∧ Ext w w') := by
  have Bhs := hs.1
  have X := Ext.refl w
  refine calls_of (args := [.slice A bs.length c]) Tryz.func8 Tryz.ntmps8 rfl rfl ?_
  refine c_seqR ?_
  refine ops_cons rfl (ow_assign rfl ?_)
  refine ops_nil ?_
  refine c_seq ?_
  refine c_seqR ?_
  refine ops_cons rfl (ow_move rfl ?_)
  refine ops_cons rfl (ow_callB ent11 rfl (big_c _ _ _ _) (fun w2 hbig x1 => ?_) (fun w2 hbig x1 => ?_))
  replace hs := hs.ext x1
  replace X := Ext.trans X x1; clear x1
  refine ops_nil ?_
  refine c_true rfl ?_
  refine c_seqR ?_
  refine ops_cons rfl (ow_assign rfl ?_)
  refine ops_nil ?_
  refine c_ret ?_
  refine tq_r ?_
  refine fin_ret1 rfl rfl ?_
  · skip
    first
    | exact ⟨rfl, X⟩
    | exact ⟨congrArg Value.bool hsh.2, X⟩
  replace hs := hs.ext x1
  replace X := Ext.trans X x1; clear x1
  have hb2 := of_decide_eq_false hbig
  have hbl : bs.length ≤ 1048576 := by omega
  refine ops_nil ?_
  refine c_false rfl ?_
  refine c_skip ?_
  refine tq_n ?_
  refine c_seqR ?_
  refine ops_cons rfl (ow_move rfl ?_)
  refine ops_cons rfl (ow_call ent51 rfl (ret_mono (drawSS_c _ _ _ bs _ hs hbl) ?_))
  rintro _ wD ⟨m, s, rfl, hdr, hmF, xD⟩
  replace hs := hs.ext xD
  replace X := Ext.trans X xD; clear xD
  have hm := hmF.med
  have hz := hdr.1
  refine ops_cons rfl (ow_move rfl ?_)
  refine ops_cons rfl (ow_extract rfl rfl ?_)
  refine ops_cons rfl (ow_extract rfl rfl ?_)
  refine ops_cons rfl (ow_alloc ti28 ?_)
  intro gM w4 egM b0 x3 zgM
  have lgM : w.heap.size ≤ gM := Nat.le_trans X.size (Nat.le_of_eq egM.symm)
  have pgMhs := Nat.le_trans hs.1 (Nat.le_of_eq egM.symm)
  have pgMhm := Nat.le_trans hm.1 (Nat.le_of_eq egM.symm)
  replace hs := hs.ext x3
  replace hm := hm.ext x3
  replace X := Ext.trans X x3; clear x3
  refine ops_cons rfl (ow_alloc ti62 ?_)
  intro g4 w6 eg4 b1 x5 zg4
  have lg4 : w.heap.size ≤ g4 := Nat.le_trans X.size (Nat.le_of_eq eg4.symm)
  have pg4hs := Nat.le_trans hs.1 (Nat.le_of_eq eg4.symm)
  have pg4hm := Nat.le_trans hm.1 (Nat.le_of_eq eg4.symm)
  have ng4b0 := Nat.lt_of_lt_of_eq b0.lt eg4.symm
  replace hs := hs.ext x5
  replace hm := hm.ext x5
  replace b0 := b0.ext x5
  replace X := Ext.trans X x5; clear x5
  refine ops_cons rfl (ow_storeB b0 ti28 rfl rfl rfl rfl rfl rfl ?_)
  intro w9 bM hg7 z10
  replace hs := hs.grown hg7 (by intro g hg; injection hg; omega)
  replace hm := hm.grown hg7 (by intro g hg; injection hg; omega)
  replace b1 := b1.grown hg7 (by intro h; injection h; omega)
  replace X := X.grown hg7 X.size (by intro g hg; injection hg; omega)
  clear hg7 b0
  refine ops_cons rfl (ow_storeB b1 ti62 rfl rfl rfl rfl rfl rfl ?_)
  intro w12 bS hg11 z13
  replace hs := hs.grown hg11 (by intro g hg; injection hg; omega)
  replace hm := hm.grown hg11 (by intro g hg; injection hg; omega)
  replace bM := bM.grown hg11 (by intro h; injection h; omega)
  replace X := X.grown hg11 X.size (by intro g hg; injection hg; omega)
  clear hg11 b1
  replace bS : Blk _ g4 62 s.cells := bS
  refine ops_nil ?_
  refine c_seqR ?_
  refine ops_cons rfl (ow_loadAB bM ti28 rfl rfl ?_)
  refine ops_cons rfl (ow_loadAB bS ti62 rfl rfl ?_)
  refine ops_cons rfl (ow_call ent52 rfl (ret_mono (implStart_c m _ s _ hm hz) ?_))
  rintro _ w15 ⟨rfl, x14⟩
  replace hs := hs.ext x14
  replace hm := hm.ext x14
  replace bM := bM.ext x14
  replace bS := bS.ext x14
  replace X := Ext.trans X x14; clear x14
  refine ops_cons rfl (ow_move rfl ?_)
  refine ops_cons rfl (ow_extract rfl rfl ?_)
  refine ops_cons rfl (ow_extract rfl rfl ?_)
  refine ops_cons rfl (ow_assign rfl ?_)
  refine ops_cons rfl (ow_assign rfl ?_)
  refine ops_nil ?_
  refine c_seqR ?_
  refine ops_cons rfl (ow_loadAB bM ti28 rfl rfl ?_)
  refine ops_cons rfl (ow_loadAB bS ti62 rfl rfl ?_)
  refine ops_cons rfl (ow_call ent53 rfl (ret_mono (specStart_c m _ s _ hm hz) ?_))
  rintro _ w17 ⟨rfl, x16⟩
  replace hs := hs.ext x16
  replace hm := hm.ext x16
  replace bM := bM.ext x16
  replace bS := bS.ext x16
  replace X := Ext.trans X x16; clear x16
  refine ops_cons rfl (ow_move rfl ?_)
  refine ops_cons rfl (ow_extract rfl rfl ?_)
  refine ops_cons rfl (ow_extract rfl rfl ?_)
  refine ops_cons rfl (ow_assign rfl ?_)
  refine ops_cons rfl (ow_assign rfl ?_)
  refine ops_nil ?_
  refine c_seqR ?_
  refine ops_cons rfl (ow_loadAB bM ti28 rfl rfl ?_)
  refine ops_cons rfl (ow_loadAB bS ti62 rfl rfl ?_)
  refine ops_cons rfl (ow_call ent54 rfl (ret_mono (implDescF_c m _ s _ hm hz) ?_))
  rintro _ w19 ⟨rfl, x18⟩
  replace hs := hs.ext x18
  replace hm := hm.ext x18
  replace bM := bM.ext x18
  replace bS := bS.ext x18
  replace X := Ext.trans X x18; clear x18
  refine ops_cons rfl (ow_move rfl ?_)
  refine ops_cons rfl (ow_extract rfl rfl ?_)
  refine ops_cons rfl (ow_extract rfl rfl ?_)
  refine ops_cons rfl (ow_alloc ti67 ?_)
  intro g9 w21 eg9 ab9 x20 zg9
  have lg9 : w.heap.size ≤ g9 := Nat.le_trans X.size (Nat.le_of_eq eg9.symm)
  have pg9hs := Nat.le_trans hs.1 (Nat.le_of_eq eg9.symm)
  have pg9hm := Nat.le_trans hm.1 (Nat.le_of_eq eg9.symm)
  have ng9bM := Nat.lt_of_lt_of_eq bM.lt eg9.symm
  have ng9bS := Nat.lt_of_lt_of_eq bS.lt eg9.symm
  replace hs := hs.ext x20
  replace hm := hm.ext x20
  replace bM := bM.ext x20
  replace bS := bS.ext x20
  replace X := Ext.trans X x20; clear x20
  refine ops_cons rfl (ow_storeB ab9 ti67 rfl rfl rfl rfl rfl rfl ?_)
  intro w23 b9 hg22 z24
  replace hs := hs.grown hg22 (by intro g hg; injection hg; omega)
  replace hm := hm.grown hg22 (by intro g hg; injection hg; omega)
  replace bM := bM.grown hg22 (by intro h; injection h; omega)
  replace bS := bS.grown hg22 (by intro h; injection h; omega)
  replace X := X.grown hg22 X.size (by intro g hg; injection hg; omega)
  clear hg22 ab9
  replace b9 : Blk _ g9 67 (descF m.d s).1.cells := b9
  refine ops_cons rfl (ow_assign rfl ?_)
  refine ops_nil ?_
  refine c_seqR ?_
  refine ops_cons rfl (ow_loadAB bM ti28 rfl rfl ?_)
  refine ops_cons rfl (ow_loadAB bS ti62 rfl rfl ?_)
  refine ops_cons rfl (ow_call ent55 rfl (ret_mono (specDescF_c m _ s _ hm hz) ?_))
  rintro _ w26 ⟨rfl, x25⟩
  replace hs := hs.ext x25
  replace hm := hm.ext x25
  replace bM := bM.ext x25
  replace bS := bS.ext x25
  replace b9 := b9.ext x25
  replace X := Ext.trans X x25; clear x25
  refine ops_cons rfl (ow_move rfl ?_)
  refine ops_cons rfl (ow_extract rfl rfl ?_)
  refine ops_cons rfl (ow_extract rfl rfl ?_)
  refine ops_cons rfl (ow_alloc ti67 ?_)
  intro gD w28 egD abD x27 zgD
  have lgD : w.heap.size ≤ gD := Nat.le_trans X.size (Nat.le_of_eq egD.symm)
  have pgDhs := Nat.le_trans hs.1 (Nat.le_of_eq egD.symm)
  have pgDhm := Nat.le_trans hm.1 (Nat.le_of_eq egD.symm)
  have ngDbM := Nat.lt_of_lt_of_eq bM.lt egD.symm
  have ngDbS := Nat.lt_of_lt_of_eq bS.lt egD.symm
  have ngDb9 := Nat.lt_of_lt_of_eq b9.lt egD.symm
  replace hs := hs.ext x27
  replace hm := hm.ext x27
  replace bM := bM.ext x27
  replace bS := bS.ext x27
  replace b9 := b9.ext x27
  replace X := Ext.trans X x27; clear x27
  refine ops_cons rfl (ow_storeB abD ti67 rfl rfl rfl rfl rfl rfl ?_)
  intro w30 bD hg29 z31
  replace hs := hs.grown hg29 (by intro g hg; injection hg; omega)
  replace hm := hm.grown hg29 (by intro g hg; injection hg; omega)
  replace bM := bM.grown hg29 (by intro h; injection h; omega)
  replace bS := bS.grown hg29 (by intro h; injection h; omega)
  replace b9 := b9.grown hg29 (by intro h; injection h; omega)
  replace X := X.grown hg29 X.size (by intro g hg; injection hg; omega)
  clear hg29 abD
  replace bD : Blk _ gD 67 (descF m.d s).1.cells := bD
  refine ops_cons rfl (ow_assign rfl ?_)
  refine ops_nil ?_
  refine c_seqR ?_
  refine ops_cons rfl (ow_loadAB bM ti28 rfl rfl ?_)
  refine ops_cons rfl (ow_loadAB bS ti62 rfl rfl ?_)
  refine ops_cons rfl (ow_call ent56 rfl (ret_mono (implNextF_c m _ s _ hm hz) ?_))
  rintro _ w33 ⟨rfl, x32⟩
  replace hs := hs.ext x32
  replace hm := hm.ext x32
  replace bM := bM.ext x32
  replace bS := bS.ext x32
  replace b9 := b9.ext x32
  replace bD := bD.ext x32
  replace X := Ext.trans X x32; clear x32
  refine ops_cons rfl (ow_move rfl ?_)
  refine ops_cons rfl (ow_extract rfl rfl ?_)
  refine ops_cons rfl (ow_extract rfl rfl ?_)
  refine ops_cons rfl (ow_alloc ti62 ?_)
  intro g13 w35 eg13 ab13 x34 zg13
  have lg13 : w.heap.size ≤ g13 := Nat.le_trans X.size (Nat.le_of_eq eg13.symm)
  have pg13hs := Nat.le_trans hs.1 (Nat.le_of_eq eg13.symm)
  have pg13hm := Nat.le_trans hm.1 (Nat.le_of_eq eg13.symm)
  have ng13bM := Nat.lt_of_lt_of_eq bM.lt eg13.symm
  have ng13bS := Nat.lt_of_lt_of_eq bS.lt eg13.symm
  have ng13b9 := Nat.lt_of_lt_of_eq b9.lt eg13.symm
  have ng13bD := Nat.lt_of_lt_of_eq bD.lt eg13.symm
  replace hs := hs.ext x34
  replace hm := hm.ext x34
  replace bM := bM.ext x34
  replace bS := bS.ext x34
  replace b9 := b9.ext x34
  replace bD := bD.ext x34
  replace X := Ext.trans X x34; clear x34
  refine ops_cons rfl (ow_storeB ab13 ti62 rfl rfl rfl rfl rfl rfl ?_)
  intro w37 b13 hg36 z38
  replace hs := hs.grown hg36 (by intro g hg; injection hg; omega)
  replace hm := hm.grown hg36 (by intro g hg; injection hg; omega)
  replace bM := bM.grown hg36 (by intro h; injection h; omega)
  replace bS := bS.grown hg36 (by intro h; injection h; omega)
  replace b9 := b9.grown hg36 (by intro h; injection h; omega)
  replace bD := bD.grown hg36 (by intro h; injection h; omega)
  replace X := X.grown hg36 X.size (by intro g hg; injection hg; omega)
  clear hg36 ab13
  replace b13 : Blk _ g13 62 (nextF m.d s).1.cells := b13
  refine ops_cons rfl (ow_assign rfl ?_)
  refine ops_nil ?_
  refine c_seqR ?_
  refine ops_cons rfl (ow_loadAB bM ti28 rfl rfl ?_)
  refine ops_cons rfl (ow_loadAB bS ti62 rfl rfl ?_)
  refine ops_cons rfl (ow_call ent57 rfl (ret_mono (specNextF_c m _ s _ hm hz) ?_))
  rintro _ w40 ⟨rfl, x39⟩
  replace hs := hs.ext x39
  replace hm := hm.ext x39
  replace bM := bM.ext x39
  replace bS := bS.ext x39
  replace b9 := b9.ext x39
  replace bD := bD.ext x39
  replace b13 := b13.ext x39
  replace X := Ext.trans X x39; clear x39
  refine ops_cons rfl (ow_move rfl ?_)
  refine ops_cons rfl (ow_extract rfl rfl ?_)
  refine ops_cons rfl (ow_extract rfl rfl ?_)
  refine ops_cons rfl (ow_alloc ti62 ?_)
  intro g15 w42 eg15 ab15 x41 zg15
  have lg15 : w.heap.size ≤ g15 := Nat.le_trans X.size (Nat.le_of_eq eg15.symm)
  have pg15hs := Nat.le_trans hs.1 (Nat.le_of_eq eg15.symm)
  have pg15hm := Nat.le_trans hm.1 (Nat.le_of_eq eg15.symm)
  have ng15bM := Nat.lt_of_lt_of_eq bM.lt eg15.symm
  have ng15bS := Nat.lt_of_lt_of_eq bS.lt eg15.symm
  have ng15b9 := Nat.lt_of_lt_of_eq b9.lt eg15.symm
  have ng15bD := Nat.lt_of_lt_of_eq bD.lt eg15.symm
  have ng15b13 := Nat.lt_of_lt_of_eq b13.lt eg15.symm
  replace hs := hs.ext x41
  replace hm := hm.ext x41
  replace bM := bM.ext x41
  replace bS := bS.ext x41
  replace b9 := b9.ext x41
  replace bD := bD.ext x41
  replace b13 := b13.ext x41
  replace X := Ext.trans X x41; clear x41
  refine ops_cons rfl (ow_storeB ab15 ti62 rfl rfl rfl rfl rfl rfl ?_)
  intro w44 b15 hg43 z45
  replace hs := hs.grown hg43 (by intro g hg; injection hg; omega)
  replace hm := hm.grown hg43 (by intro g hg; injection hg; omega)
  replace bM := bM.grown hg43 (by intro h; injection h; omega)
  replace bS := bS.grown hg43 (by intro h; injection h; omega)
  replace b9 := b9.grown hg43 (by intro h; injection h; omega)
  replace bD := bD.grown hg43 (by intro h; injection h; omega)
  replace b13 := b13.grown hg43 (by intro h; injection h; omega)
  replace X := X.grown hg43 X.size (by intro g hg; injection hg; omega)
  clear hg43 ab15
  replace b15 : Blk _ g15 62 (nextF m.d s).1.cells := b15
  refine ops_cons rfl (ow_assign rfl ?_)
  refine ops_nil ?_
  refine c_seq ?_
  refine c_seqR ?_
  refine ops_cons rfl (ow_move rfl ?_)
  refine ops_cons rfl (ow_move rfl ?_)
  refine ops_cons rfl (ow_neq2 rfl rfl (fun h46 => absurd h46 (by simp)) (fun h46 => ?_))
  refine ops_cons rfl (ow_move rfl ?_)
  refine ops_want rfl rfl rfl (ow_move rfl ?_)
  refine ops_want rfl rfl rfl (ow_move rfl ?_)
  refine ops_want rfl rfl rfl (ow_neq2 rfl rfl (fun h47 => absurd h47 (by simp)) (fun h47 => ?_))
  refine ops_cons rfl (ow_pick rfl rfl ?_)
  refine ops_cons rfl (ow_move rfl ?_)
  refine ops_want rfl rfl rfl (ow_move rfl ?_)
  refine ops_want rfl rfl rfl (ow_move rfl ?_)
  refine ops_want rfl rfl rfl (ow_neq2 rfl rfl (fun h48 => absurd h48 (by simp)) (fun h48 => ?_))
  refine ops_cons rfl (ow_pick rfl rfl ?_)
  refine ops_cons rfl (ow_move rfl ?_)
  refine ops_want rfl rfl rfl (ow_loadAB b9 ti67 rfl rfl ?_)
  refine ops_want rfl rfl rfl (ow_loadAB bD ti67 rfl rfl ?_)
  refine ops_want rfl rfl rfl (ow_neqA rfl rfl (by kernel_rfl) (fun w => eqSelf_Desc _ w 9998) ?_)
  refine ops_cons rfl (ow_pick rfl rfl ?_)
  refine ops_cons rfl (ow_move rfl ?_)
  refine ops_want rfl rfl rfl (ow_move rfl ?_)
  refine ops_want rfl rfl rfl (ow_move rfl ?_)
  refine ops_want rfl rfl rfl (ow_neq2 rfl rfl (fun h49 => absurd h49 (by simp)) (fun h49 => ?_))
  refine ops_cons rfl (ow_pick rfl rfl ?_)
  refine ops_cons rfl (ow_move rfl ?_)
  refine ops_want rfl rfl rfl (ow_loadAB b13 ti62 rfl rfl ?_)
  refine ops_want rfl rfl rfl (ow_loadAB b15 ti62 rfl rfl ?_)
  refine ops_want rfl rfl rfl (ow_neqA rfl rfl (by kernel_rfl) (fun w => eqSelf_StateI _ w 9998) ?_)
  refine ops_cons rfl (ow_pick rfl rfl ?_)
  refine ops_nil ?_
  refine c_false rfl ?_
  refine c_skip ?_
  refine tq_n ?_
  refine c_seq ?_
  refine c_seqR ?_
  refine ops_cons rfl (ow_move rfl ?_)
  refine ops_cons rfl (ow_neq2 rfl rfl (fun hC => ?_) (fun hC => ?_))
  refine ops_nil ?_
  refine c_true rfl ?_
  refine c_seqR ?_
  refine ops_cons rfl (ow_assign rfl ?_)
  refine ops_nil ?_
  refine c_ret ?_
  refine tq_r ?_
  refine fin_ret1 rfl rfl ?_
  · skip
    first
    | exact ⟨rfl, X⟩
    | exact ⟨congrArg Value.bool hsh.2, X⟩
  have hl0 : lookC m.d s = 0 := start_code hC
  obtain ⟨hM1, hB⟩ := lookC_zero.1 hl0
  have hW := isMedl_iff.1 hM1
  obtain ⟨k, x, j, y, bl, hx, hxi, hj, hy, hda, hso, hro, hno, hyd⟩ := bel_get hW hB
  have hs1 : (startF m.d s).1 = startD m.ss s.mode s.round s.slot := by rw [startF, if_pos hl0]; rfl
  have hd1 : (descF m.d s).1 = descAt m.ss s.mode s.round s.slot := by rw [descF, if_pos hl0]; rfl
  have hdu : 1 ≤ (descF m.d s).1.duration ∧ (descF m.d s).1.duration ≤ 1000 := by rw [hd1, hda]; exact hyd
  have hcr := cyc_round hW bl.at_
  rw [← bl.md] at hcr
  have hcr2 : 0 < cyc m.ss s.mode ∧ cyc m.ss s.mode ≤ 32000 := hcr.2
  have hsc2 : startD m.ss s.mode s.round s.slot ≤ cyc m.ss s.mode := start_cyc (isST_all hW.st) s.mode s.round s.slot
  have hsi2 : 0 ≤ startD m.ss s.mode s.round s.slot := (startD_in (isST_all hW.st) s.mode s.round s.slot).1
  rw [← hs1] at hsi2 hsc2
  have hat : ∀ r, 0 ≤ r → r < (descF m.d s).1.duration → slotAtF m.d s.mode ((startF m.d s).1 + r) = (s.round, s.slot, 0) := fun r h1 h2 => by
    rw [hd1] at h2; rw [hs1]
    exact slot_time hW hB (by omega) (by omega)
  have hsh : (sendT m.d s.mode (descF m.d s).1.node).2 = 0 ∧ hasB (sendT m.d s.mode (descF m.d s).1.node).1 (startF m.d s).1 = true := by
    rw [hd1, hs1]
    exact ⟨(send_has hW hB).1, List.any_eq_true.2 ⟨_, (send_has hW hB).2, decide_eq_true rfl⟩⟩
  have hlT := sendT_len m s.mode (descF m.d s).1.node
  refine ops_nil ?_
  refine c_false rfl ?_
  refine c_skip ?_
  refine tq_n ?_
  refine c_seqI (fun wz => Blk wz gD 67 (descF m.d s).1.cells) mixed ?_
  obtain ⟨w50, ew50⟩ : ∃ wy, wy = World.drew w44 := ⟨_, rfl⟩
  rw [← ew50]
  have xd : Ext w44 w50 := ew50 ▸ Ext.drew w44
  replace hs := hs.ext xd
  replace hm := hm.ext xd
  replace bM := bM.ext xd
  replace bS := bS.ext xd
  replace b9 := b9.ext xd
  replace bD := bD.ext xd
  replace b13 := b13.ext xd
  replace b15 := b15.ext xd
  replace X := Ext.trans X xd; clear xd ew50
  refine wi_take 0 rfl (by kernel_rfl) rfl (by kernel_rfl) (listed' := #[true, false, false, false, false, false, false, false]) rfl (fun wq sq => ow_move rfl ⟨rfl, rfl⟩) ?_
  refine wi_take 1 rfl (by kernel_rfl) rfl (by kernel_rfl) (listed' := #[true, true, false, false, false, false, false, false]) rfl (fun wq sq => ow_move rfl ⟨rfl, rfl⟩) ?_
  refine wi_take 3 rfl (by kernel_rfl) rfl (by kernel_rfl) (listed' := #[true, true, false, true, false, false, false, false]) rfl (fun wq sq => ow_fieldAddrB off67_3 rfl rfl ⟨rfl, rfl⟩) ?_
  refine wi_take 4 rfl (by kernel_rfl) rfl (by kernel_rfl) (listed' := #[true, true, false, true, true, false, false, false]) rfl (fun wq sq => ow_loadB sq ti2 rfl rfl ⟨rfl, rfl⟩) ?_
  have pM := bM.lt
  have pS4 := bS.lt
  have p9 := b9.lt
  have pD := bD.lt
  have p13 := b13.lt
  have p15 := b15.lt
  have pm := hm.1
  have ps := hs.1
  refine wi_one 2 rfl rfl (by kernel_rfl) (listed' := #[true, true, true, true, true, false, false, false]) rfl bD (ow_call ent58 rfl (ret_mono (roll_c _ _ _ _ _ _ hs hbl) ?_))
  rintro _ w52 ⟨gR, a55, sd56, rfl, lgR0, okR, qR, x51⟩
  have lgR : w.heap.size ≤ gR := Nat.le_trans X.size lgR0
  replace hs := hs.ext x51
  replace hm := hm.ext x51
  replace bM := bM.ext x51
  replace bS := bS.ext x51
  replace b9 := b9.ext x51
  replace bD := bD.ext x51
  replace b13 := b13.ext x51
  replace b15 := b15.ext x51
  replace X := Ext.trans X x51; clear x51
  refine wi_one 5 rfl rfl (by kernel_rfl) (listed' := #[true, true, true, true, true, true, false, false]) rfl bD (ow_call ent59 rfl (ret_mono (below_c _ _ _ _ _ _ _ _ _ qR hs (by omega) okR hbl hdu) ?_))
  rintro _ w58 ⟨rr, a59, sd60, rfl, hrr, qR2, x57⟩
  replace hs := hs.grown x57 (by intro g hg; injection hg; omega)
  replace hm := hm.grown x57 (by intro g hg; injection hg; omega)
  replace bM := bM.grown x57 (by intro h; injection h; omega)
  replace bS := bS.grown x57 (by intro h; injection h; omega)
  replace b9 := b9.grown x57 (by intro h; injection h; omega)
  replace bD := bD.grown x57 (by intro h; injection h; omega)
  replace b13 := b13.grown x57 (by intro h; injection h; omega)
  replace b15 := b15.grown x57 (by intro h; injection h; omega)
  replace X := X.grown x57 X.size (by intro g hg; injection hg; omega)
  clear x57 qR
  refine wi_take 6 rfl (by kernel_rfl) rfl (by kernel_rfl) (listed' := #[true, true, true, true, true, true, true, false]) rfl (fun wq sq => ow_add rfl rfl (w64 (by omega)) ⟨rfl, rfl⟩) ?_
  refine wi_take 7 rfl (by kernel_rfl) rfl (by kernel_rfl) (listed' := #[true, true, true, true, true, true, true, true]) rfl (fun wq sq => ow_assign rfl ⟨rfl, rfl⟩) ?_
  refine wi_done rfl bD (fun aj fj => ⟨_, fj, ?_⟩)
  refine c_seqR ?_
  refine ops_cons rfl (ow_loadAB bM ti28 rfl rfl ?_)
  refine ops_cons rfl (ow_fieldAddrB off62_1 rfl rfl ?_)
  refine ops_cons rfl (ow_loadB bS ti2 rfl rfl ?_)
  refine ops_cons rfl (ow_move rfl ?_)
  have hsl := hat rr hrr.1 hrr.2
  refine ops_cons rfl (ow_call ent45 rfl (ret_mono (iSlotAt_c m _ s.mode ((startF m.d s).1 + rr) _ hm hz (by omega)) ?_))
  rintro _ w62 ⟨rfl, x61⟩
  replace hs := hs.ext x61
  replace hm := hm.ext x61
  replace bM := bM.ext x61
  replace bS := bS.ext x61
  replace b9 := b9.ext x61
  replace bD := bD.ext x61
  replace b13 := b13.ext x61
  replace b15 := b15.ext x61
  replace qR2 := qR2.ext x61
  replace X := Ext.trans X x61; clear x61
  refine ops_cons rfl (ow_move rfl ?_)
  refine ops_cons rfl (ow_extract rfl rfl ?_)
  refine ops_cons rfl (ow_extract rfl rfl ?_)
  refine ops_cons rfl (ow_extract rfl rfl ?_)
  refine ops_cons rfl (ow_assign rfl ?_)
  refine ops_cons rfl (ow_assign rfl ?_)
  refine ops_cons rfl (ow_assign rfl ?_)
  refine ops_nil ?_
  refine c_seqR ?_
  refine ops_cons rfl (ow_loadAB bM ti28 rfl rfl ?_)
  refine ops_cons rfl (ow_fieldAddrB off62_1 rfl rfl ?_)
  refine ops_cons rfl (ow_loadB bS ti2 rfl rfl ?_)
  refine ops_cons rfl (ow_fieldAddrB off67_0 rfl rfl ?_)
  refine ops_cons rfl (ow_loadB b9 ti2 rfl rfl ?_)
  refine ops_cons rfl (ow_call ent48 rfl (ret_mono (iSend_c m _ s.mode (descF m.d s).1.node _ hm hz) ?_))
  rintro _ w65 ⟨A66, c67, rfl, oT, x63⟩
  replace oT := Own.low oT X.size
  replace hs := hs.ext x63
  replace hm := hm.ext x63
  replace bM := bM.ext x63
  replace bS := bS.ext x63
  replace b9 := b9.ext x63
  replace bD := bD.ext x63
  replace b13 := b13.ext x63
  replace b15 := b15.ext x63
  replace qR2 := qR2.ext x63
  replace X := Ext.trans X x63; clear x63
  refine ops_cons rfl (ow_move rfl ?_)
  refine ops_cons rfl (ow_extract rfl rfl ?_)
  refine ops_cons rfl (ow_extract rfl rfl ?_)
  refine ops_cons rfl (ow_assign rfl ?_)
  refine ops_cons rfl (ow_assign rfl ?_)
  refine ops_nil ?_
  refine c_seqR ?_
  refine ops_cons rfl (ow_move rfl ?_)
  refine ops_cons rfl (ow_eql2 rfl rfl (fun h68 => ?_) (fun h68 => absurd h68 (by exact fun h => h (by rw [hsl]))))
  refine ops_cons rfl (ow_move rfl ?_)
  refine ops_want rfl rfl rfl (ow_move rfl ?_)
  refine ops_want rfl rfl rfl (ow_eql2 rfl rfl (fun h69 => ?_) (fun h69 => absurd h69 (by exact fun h => h hsh.1)))
  refine ops_cons rfl (ow_pick rfl rfl ?_)
  refine ops_cons rfl (ow_move rfl ?_)
  refine ops_want rfl rfl rfl (ow_move rfl ?_)
  refine ops_want rfl rfl rfl (ow_fieldAddrB off62_2 rfl rfl ?_)
  refine ops_want rfl rfl rfl (ow_loadB bS ti2 rfl rfl ?_)
  refine ops_want rfl rfl rfl (ow_eql2 rfl rfl (fun h70 => ?_) (fun h70 => absurd h70 (by exact fun h => h (by rw [hsl]))))
  refine ops_cons rfl (ow_pick rfl rfl ?_)
  refine ops_cons rfl (ow_move rfl ?_)
  refine ops_want rfl rfl rfl (ow_move rfl ?_)
  refine ops_want rfl rfl rfl (ow_fieldAddrB off62_3 rfl rfl ?_)
  refine ops_want rfl rfl rfl (ow_loadB bS ti2 rfl rfl ?_)
  refine ops_want rfl rfl rfl (ow_eql2 rfl rfl (fun h71 => ?_) (fun h71 => absurd h71 (by exact fun h => h (by rw [hsl]))))
  refine ops_cons rfl (ow_pick rfl rfl ?_)
  refine ops_cons rfl (ow_move rfl ?_)
  refine ops_want rfl rfl rfl (ow_move rfl ?_)
  refine ops_want rfl rfl rfl (ow_move rfl ?_)
  refine ops_want rfl rfl rfl (ow_call ent60 rfl (ret_mono (hasInt_c _ _ _ _ _ _ (oT).sl (by omega)) ?_))
  rintro _ w73 ⟨rfl, x72⟩
  replace hs := hs.ext x72
  replace hm := hm.ext x72
  replace bM := bM.ext x72
  replace bS := bS.ext x72
  replace b9 := b9.ext x72
  replace bD := bD.ext x72
  replace b13 := b13.ext x72
  replace b15 := b15.ext x72
  replace qR2 := qR2.ext x72
  replace oT := oT.ext x72
  replace X := Ext.trans X x72; clear x72
  refine ops_cons rfl (ow_pick rfl rfl ?_)
  refine ops_cons rfl (ow_assign rfl ?_)
  refine ops_nil ?_
  refine c_ret ?_
  refine fin_ret1 rfl rfl ?_
  · skip
    first
    | exact ⟨rfl, X⟩
    | exact ⟨congrArg Value.bool hsh.2, X⟩
set_option maxRecDepth 100000

theorem fnSlotTimes_lifted (os : Os) (started : os.Started) (H : Type) (enc : TypeId × Value → H) :
    ReturnsInHanded {} Tryz.checked os 8 .any (fun w args => (Rows.fnSlotTimesSpec.pre enc Tryz.prog Tryz.f8 Rows.fnSlotTimesRow.domain false w args ∧ laidMetH Tryz.prog Rows.fnSlotTimesRow.laid w) ∧ sizedMet enc Tryz.prog Tryz.f8 (OpenSpec.ofChange Rows.fnSlotTimesSpec) false w args)
      (Rows.fnSlotTimesSpec.post enc Tryz.prog Tryz.f8 false true false false) := by
  refine returnsInHanded_of_change_and (C := Tryz.checked) (X := fun w _ => laidMetH Tryz.prog Rows.fnSlotTimesRow.laid w) (fun _ _ _ hh h => h.of_heap hh) law_own started (by kernel_rfl) Tryz.func8
    (ChangeSpec.witness_shaped (enc := enc) (C := Tryz.checked) (os := os) (X := fun w _ => laidMetH Tryz.prog Rows.fnSlotTimesRow.laid w) false (World.laidAll Tryz.prog os Rows.fnSlotTimesRow.laid) #[.slice none 0 0] 8 (World.laidAll_os _ _ _)
      (World.shaped_of_ZipB (by kernel_rfl) (by kernel_rfl)) (by kernel_rfl) (by kernel_rfl) (by kernel_rfl)
      (by rw [MakeChecks.laidMetH_plain _ _ _ (by kernel_rfl)]; exact laidMet_laidAll _ (by kernel_rfl) (by kernel_rfl))) ?_
  intro W base args ds gs before hval0 hW _ _ hL _
  have hval : ∀ (j : Nat) t v, Tryz.f8.params[j]? = some t → args[j]? = some v → Value.okWide Tryz.prog W .any base t v := hval0
  have hW' := hW
  obtain ⟨p, q, hA0, hV, rfl, hfz, hnd⟩ := hW
  have hA : DataW.TrodAll enc Tryz.prog W 0 (fun _ => true) true Tryz.f8.params.toList args.toList ds p := hA0
  rw [Tryz.params8] at hA hval
  obtain ⟨rfl, rfl⟩ := trodVars_none hV
  obtain ⟨v0, vs0, d0, ds0, p0, q0, hargs, rfl, rfl, h0, r0⟩ := trodAll_cons hA
  obtain ⟨rfl, rfl, rfl⟩ := trodAll_nil r0
  obtain rfl : args = #[v0] := by cases args; simp_all
  obtain ⟨a0, l0, k0, rfl⟩ := okWide_slice Tryz.underlying22 (hval 0 22 v0 rfl rfl)
  obtain ⟨m0, x0, t0⟩ := cell_of rfl h0
  obtain ⟨Abs, bs, cbs, ebs, sbs, wbs, lbs⟩ := open_sl (s := 1) Tryz.underlying22 (by kernel_rfl) eB_len (by omega) (fun _ _ _ h => open_u8 Tryz.underlying5 h) t0
  rw [ebs]
  refine Calls.mono (law_FnSlotTimes _ _ _ bs W sbs lbs) fun e W' h => ?_
  cases e <;> first | exact h.elim | skip
  obtain ⟨rfl, hb⟩ := h
  exact ⟨_, rfl, law_post law_laid (by kernel_rfl) rfl rfl Tryz.underlying4 (by rw [← ebs]; exact hW') rfl hb⟩

theorem fnSlotTimes_holds : Rows.FnSlotTimesSaid :=
  OpenClaim.holds_of_wide 8 Tryz.f8 rfl rfl rfl rfl rfl rfl rfl ⟨rfl, rfl, rfl, rfl, rfl⟩ rfl rfl rfl rfl rfl (by kernel_rfl) Tryz.func8 (by kernel_rfl)
    (of_decide_eq_true (by kernel_rfl)) (by unfold Func.isWrapper; rw [if_neg (of_decide_eq_false (by kernel_rfl))]; exact ⟨rfl, rfl⟩)
    (fun os started H enc _ => fnSlotTimes_lifted os started H enc)

theorem fnSlotTimes_card : Rows.FnSlotTimesCardSaid :=
  Claim7.holds_tied_plain_at .later [] [.data, .pinned] true (true, "9d3b8bcd3f057db7ce87d49064bbf274986517e6a2e4614acdb81aa3eaa2e189") false fnSlotTimes_holds (fun _ h => by cases h) (by kernel_rfl) (fun _ h => by cases h) fnSlotTimes_row_tie rfl ⟨rfl, rfl⟩ law_main rfl
    (fun f fn hf hfn => by
      obtain rfl : f = 8 := Option.some.inj ((show Tryz.prog.funcNamed "loop.example/g00833/laws.FnSlotTimes" = some 8 by kernel_rfl).symm.trans hf) |>.symm
      obtain rfl : fn = Tryz.f8 := (Option.some.inj (Tryz.func8.symm.trans hfn)).symm
      exact ⟨law_looks, fun j t ht => by
        rw [Tryz.params8] at ht
        have hm : t ∈ [22] := by simpa using Array.mem_of_getElem? ht
        have hall : ([22].all fun u => !Tryz.prog.wantsStandIn u) = true := by kernel_rfl
        exact (show Tryz.prog.wantsStandIn t = false by simpa using List.all_eq_true.1 hall t hm)⟩)
    (by kernel_rfl)
end Go.Proofs.YtdoibplhbdkapaaGreatDoor
