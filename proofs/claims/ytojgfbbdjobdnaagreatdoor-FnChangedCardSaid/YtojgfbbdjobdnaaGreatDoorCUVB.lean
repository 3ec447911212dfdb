/- The law FnChanged answers true for all arguments that its row admits, and leaves what was there before as it was. No condition. -/
import Derived.Test.YtojgfbbdjobdnaaGreatDoorCUP19
import Derived.Test.YtojgfbbdjobdnaaGreatDoorCUP21
import Derived.Test.YtojgfbbdjobdnaaGreatDoorCUP3
import Derived.Test.YtojgfbbdjobdnaaGreatDoorCUP22
import Derived.Test.YtojgfbbdjobdnaaGreatDoorTie
import Derived.Test.YtojgfbbdjobdnaaGreatDoorCards
import Derived.Lay
import Derived.LaidOnce
import Derived.SevenTiedAt
/- The law FnChanged answers true for all arguments that its row admits, and leaves what was there before as it was. No condition. -/
namespace Go.Proofs.YtojgfbbdjobdnaaGreatDoor
open Go.ChangeShapes Go.WideShapes Go.ChangeAt Go.RowKit
set_option linter.unusedVariables false
set_option linter.unusedSimpArgs false
set_option maxRecDepth 20000
theorem eqSelf_StateI (d : StateI) (w : World) (k : Nat) : (Op.equalIn (k + 2) 54 (.agg d.cells.toArray) (.agg d.cells.toArray)).run Tryz.prog w = .ok true w := by
  rw [run_equalIn_agg w (k + 1) 54 _ _ (by kernel_rfl) (by kernel_rfl)]
  simp only [Program.fieldsOf, Tryz.underlying54, StateI.cells]
  simp [Op.eqFields, part, run_equalIn_int w k 2 _ _ _ _ Tryz.underlying2]
theorem change_ok {m : MedlI} {s : StateI} {to : Int} (h : ¬ (changeF m.d s to).2 ≠ 0) : lookC m.d s = 0 ∧ inB to 0 ((m.ms.length : Int) - 1) = true ∧ hasB (nextOf m.d s.mode) to = true ∧
    changeF m.d s to = (⟨(s.time + (cyc m.ss s.mode - startD m.ss s.mode s.round s.slot)) % 65536, to, 0, 0, s.members⟩, 0) := by
  by_cases h1 : lookC m.d s = 0
  · cases h2 : inB to 0 ((m.ms.length : Int) - 1) with
    | false => rw [change_2 h1 h2] at h; exact absurd (show (2 : Int) ≠ 0 by decide) h
    | true =>
      cases h3 : hasB (nextOf m.d s.mode) to with
      | false => rw [change_5 h1 h2 rfl h3] at h; exact absurd (show (5 : Int) ≠ 0 by decide) h
      | true => exact ⟨h1, rfl, rfl, change_0 h1 h2 rfl h3⟩
  · rw [change_c h1] at h; exact absurd h1 h
theorem bel_new {m : MedlI} {s : StateI} {to t : Int} (hW : WellF m.d) (hB : belongsB m.d s = true) (ht : inB to 0 ((m.ms.length : Int) - 1) = true) (h0 : 0 ≤ t ∧ t ≤ 65535) : belongsB m.d ⟨t, to, 0, 0, s.members⟩ = true := by
  obtain ⟨k, x, bl⟩ := belongs_iff.1 hB
  have hst := stateOk_in bl.ok
  obtain ⟨k2, x2, hk2, hx2⟩ := mode_get (d := m.d) (mode := to) (by rw [show m.d.ms.length = m.ms.length from List.length_map ..]; exact ht)
  have hm2 := isMT_in hW.mt x2 (List.mem_of_getElem? hx2)
  have hl2 := isMT_len hW.mt
  have hk3 := (List.getElem?_eq_some_iff.1 hx2).1
  refine belongs_iff.2 ⟨k2, x2, ⟨?_, hk2, hx2, ⟨by show (0 : Int) ≤ 0; omega, by show (0 : Int) < x2.rounds; omega⟩, ⟨by show (0 : Int) ≤ 0; omega, by show (0 : Int) < x2.slots; omega⟩, bl.mb⟩⟩
  simp only [stateOk, inB_iff.2 h0, inB_iff.2 (show 0 ≤ to ∧ to ≤ 15 by omega), inB_iff.2 hst.2.2.2.2]
  rfl
theorem law_FnChanged (A : Option Addr) (B c : Nat) (bs : List UInt8) (w : World) (hs : Sl B w A (bs.flatMap eB)) (hm0 : bs.length ≤ 9223372036854775807) :
    Calls Tryz.prog 7 #[.slice A bs.length c] w (Ret fun v w' => v = .bool true ∧ Ext w w') := by
  have Bhs := hs.1
  have X := Ext.refl w
  refine calls_of (args := [.slice A bs.length c]) Tryz.func7 Tryz.ntmps7 rfl rfl ?_
  refine c_seqR ?_
  refine ops_cons rfl (ow_assign rfl ?_)
  refine ops_nil ?_
  refine c_seq ?_
  refine c_seqR ?_
  refine ops_cons rfl (ow_move rfl ?_)
  refine ops_cons rfl (ow_callB ent11 rfl (big_c _ _ _ _) (fun w2 hbig x1 => ?_) (fun w2 hbig x1 => ?_))
  replace hs := hs.ext x1
  replace X := Ext.trans X x1; clear x1
  refine ops_nil ?_
  refine c_true rfl ?_
  refine c_seqR ?_
  refine ops_cons rfl (ow_assign rfl ?_)
  refine ops_nil ?_
  refine c_ret ?_
  refine tq_r ?_
  refine fin_ret1 rfl rfl ?_
  · skip
    first
    | exact ⟨rfl, X⟩
    | exact ⟨congrArg Value.bool hha, X⟩
  replace hs := hs.ext x1
  replace X := Ext.trans X x1; clear x1
  have hb2 := of_decide_eq_false hbig
  have hbl : bs.length ≤ 1048576 := by omega
  refine ops_nil ?_
  refine c_false rfl ?_
  refine c_skip ?_
  refine tq_n ?_
  refine c_seqR ?_
  refine ops_cons rfl (ow_move rfl ?_)
  refine ops_cons rfl (ow_call ent45 rfl (ret_mono (drawCM_c _ _ _ bs _ hs hbl) ?_))
  rintro _ wD ⟨m, s, to, rfl, hdr, hmF, xD⟩
  replace hs := hs.ext xD
  replace X := Ext.trans X xD; clear xD
  have hm := hmF.med
  have hz := hdr.1
  refine ops_cons rfl (ow_move rfl ?_)
  refine ops_cons rfl (ow_extract rfl rfl ?_)
  refine ops_cons rfl (ow_extract rfl rfl ?_)
  refine ops_cons rfl (ow_extract rfl rfl ?_)
  refine ops_cons rfl (ow_alloc ti28 ?_)
  intro gM w4 egM b0 x3 zgM
  have lgM : w.heap.size ≤ gM := Nat.le_trans X.size (Nat.le_of_eq egM.symm)
  have pgMhs := Nat.le_trans hs.1 (Nat.le_of_eq egM.symm)
  have pgMhm := Nat.le_trans hm.1 (Nat.le_of_eq egM.symm)
  replace hs := hs.ext x3
  replace hm := hm.ext x3
  replace X := Ext.trans X x3; clear x3
  refine ops_cons rfl (ow_alloc ti54 ?_)
  intro g4 w6 eg4 b1 x5 zg4
  have lg4 : w.heap.size ≤ g4 := Nat.le_trans X.size (Nat.le_of_eq eg4.symm)
  have pg4hs := Nat.le_trans hs.1 (Nat.le_of_eq eg4.symm)
  have pg4hm := Nat.le_trans hm.1 (Nat.le_of_eq eg4.symm)
  have ng4b0 := Nat.lt_of_lt_of_eq b0.lt eg4.symm
  replace hs := hs.ext x5
  replace hm := hm.ext x5
  replace b0 := b0.ext x5
  replace X := Ext.trans X x5; clear x5
  refine ops_cons rfl (ow_storeB b0 ti28 rfl rfl rfl rfl rfl rfl ?_)
  intro w9 bM hg7 z10
  replace hs := hs.grown hg7 (by intro g hg; injection hg; omega)
  replace hm := hm.grown hg7 (by intro g hg; injection hg; omega)
  replace b1 := b1.grown hg7 (by intro h; injection h; omega)
  replace X := X.grown hg7 X.size (by intro g hg; injection hg; omega)
  clear hg7 b0
  refine ops_cons rfl (ow_storeB b1 ti54 rfl rfl rfl rfl rfl rfl ?_)
  intro w12 bS hg11 z13
  replace hs := hs.grown hg11 (by intro g hg; injection hg; omega)
  replace hm := hm.grown hg11 (by intro g hg; injection hg; omega)
  replace bM := bM.grown hg11 (by intro h; injection h; omega)
  replace X := X.grown hg11 X.size (by intro g hg; injection hg; omega)
  clear hg11 b1
  replace bS : Blk _ g4 54 s.cells := bS
  refine ops_cons rfl (ow_assign rfl ?_)
  refine ops_nil ?_
  refine c_seqR ?_
  refine ops_cons rfl (ow_loadAB bM ti28 rfl rfl ?_)
  refine ops_cons rfl (ow_loadAB bS ti54 rfl rfl ?_)
  refine ops_cons rfl (ow_move rfl ?_)
  refine ops_cons rfl (ow_call ent46 rfl (ret_mono (iChange_c m _ s to _ hm hz) ?_))
  rintro _ w15 ⟨rfl, x14⟩
  replace hs := hs.ext x14
  replace hm := hm.ext x14
  replace bM := bM.ext x14
  replace bS := bS.ext x14
  replace X := Ext.trans X x14; clear x14
  refine ops_cons rfl (ow_move rfl ?_)
  refine ops_cons rfl (ow_extract rfl rfl ?_)
  refine ops_cons rfl (ow_extract rfl rfl ?_)
  refine ops_cons rfl (ow_alloc ti54 ?_)
  intro g6 w17 eg6 b2 x16 zg6
  have lg6 : w.heap.size ≤ g6 := Nat.le_trans X.size (Nat.le_of_eq eg6.symm)
  have pg6hs := Nat.le_trans hs.1 (Nat.le_of_eq eg6.symm)
  have pg6hm := Nat.le_trans hm.1 (Nat.le_of_eq eg6.symm)
  have ng6bM := Nat.lt_of_lt_of_eq bM.lt eg6.symm
  have ng6bS := Nat.lt_of_lt_of_eq bS.lt eg6.symm
  replace hs := hs.ext x16
  replace hm := hm.ext x16
  replace bM := bM.ext x16
  replace bS := bS.ext x16
  replace X := Ext.trans X x16; clear x16
  refine ops_cons rfl (ow_storeB b2 ti54 rfl rfl rfl rfl rfl rfl ?_)
  intro w19 b6 hg18 z20
  replace hs := hs.grown hg18 (by intro g hg; injection hg; omega)
  replace hm := hm.grown hg18 (by intro g hg; injection hg; omega)
  replace bM := bM.grown hg18 (by intro h; injection h; omega)
  replace bS := bS.grown hg18 (by intro h; injection h; omega)
  replace X := X.grown hg18 X.size (by intro g hg; injection hg; omega)
  clear hg18 b2
  replace b6 : Blk _ g6 54 (changeF m.d s to).1.cells := b6
  refine ops_cons rfl (ow_assign rfl ?_)
  refine ops_nil ?_
  refine c_seqR ?_
  refine ops_cons rfl (ow_loadAB bM ti28 rfl rfl ?_)
  refine ops_cons rfl (ow_loadAB bS ti54 rfl rfl ?_)
  refine ops_cons rfl (ow_move rfl ?_)
  refine ops_cons rfl (ow_call ent47 rfl (ret_mono (sChange_c m _ s to _ hm hz) ?_))
  rintro _ w22 ⟨rfl, x21⟩
  replace hs := hs.ext x21
  replace hm := hm.ext x21
  replace bM := bM.ext x21
  replace bS := bS.ext x21
  replace b6 := b6.ext x21
  replace X := Ext.trans X x21; clear x21
  refine ops_cons rfl (ow_move rfl ?_)
  refine ops_cons rfl (ow_extract rfl rfl ?_)
  refine ops_cons rfl (ow_extract rfl rfl ?_)
  refine ops_cons rfl (ow_alloc ti54 ?_)
  intro g8 w24 eg8 b3 x23 zg8
  have lg8 : w.heap.size ≤ g8 := Nat.le_trans X.size (Nat.le_of_eq eg8.symm)
  have pg8hs := Nat.le_trans hs.1 (Nat.le_of_eq eg8.symm)
  have pg8hm := Nat.le_trans hm.1 (Nat.le_of_eq eg8.symm)
  have ng8bM := Nat.lt_of_lt_of_eq bM.lt eg8.symm
  have ng8bS := Nat.lt_of_lt_of_eq bS.lt eg8.symm
  have ng8b6 := Nat.lt_of_lt_of_eq b6.lt eg8.symm
  replace hs := hs.ext x23
  replace hm := hm.ext x23
  replace bM := bM.ext x23
  replace bS := bS.ext x23
  replace b6 := b6.ext x23
  replace X := Ext.trans X x23; clear x23
  refine ops_cons rfl (ow_storeB b3 ti54 rfl rfl rfl rfl rfl rfl ?_)
  intro w26 b8 hg25 z27
  replace hs := hs.grown hg25 (by intro g hg; injection hg; omega)
  replace hm := hm.grown hg25 (by intro g hg; injection hg; omega)
  replace bM := bM.grown hg25 (by intro h; injection h; omega)
  replace bS := bS.grown hg25 (by intro h; injection h; omega)
  replace b6 := b6.grown hg25 (by intro h; injection h; omega)
  replace X := X.grown hg25 X.size (by intro g hg; injection hg; omega)
  clear hg25 b3
  replace b8 : Blk _ g8 54 (changeF m.d s to).1.cells := b8
  refine ops_cons rfl (ow_assign rfl ?_)
  refine ops_nil ?_
  refine c_seq ?_
  refine c_seqR ?_
  refine ops_cons rfl (ow_move rfl ?_)
  refine ops_cons rfl (ow_move rfl ?_)
  refine ops_cons rfl (ow_neq2 rfl rfl (fun h28 => absurd h28 (by simp)) (fun h28 => ?_))
  refine ops_cons rfl (ow_move rfl ?_)
  refine ops_want rfl rfl rfl (ow_loadAB b6 ti54 rfl rfl ?_)
  refine ops_want rfl rfl rfl (ow_loadAB b8 ti54 rfl rfl ?_)
  refine ops_want rfl rfl rfl (ow_neqA rfl rfl (by kernel_rfl) (fun w => eqSelf_StateI _ w 9998) ?_)
  refine ops_cons rfl (ow_pick rfl rfl ?_)
  refine ops_nil ?_
  refine c_false rfl ?_
  refine c_skip ?_
  refine tq_n ?_
  refine c_seq ?_
  refine c_seqR ?_
  refine ops_cons rfl (ow_move rfl ?_)
  refine ops_cons rfl (ow_neq2 rfl rfl (fun hC => ?_) (fun hC => ?_))
  refine ops_nil ?_
  refine c_true rfl ?_
  refine c_seqR ?_
  refine ops_cons rfl (ow_assign rfl ?_)
  refine ops_nil ?_
  refine c_ret ?_
  refine tq_r ?_
  refine fin_ret1 rfl rfl ?_
  · skip
    first
    | exact ⟨rfl, X⟩
    | exact ⟨congrArg Value.bool hha, X⟩
  obtain ⟨hl0, hin, hha, hch⟩ := change_ok hC
  obtain ⟨hM1, hB⟩ := lookC_zero.1 hl0
  have hW := isMedl_iff.1 hM1
  obtain ⟨k, x, j, y, bl, hx, hxi, hj, hy, hda, hso, hro, hno, hyd⟩ := bel_get hW hB
  have hst := stateOk_in bl.ok
  have hcr := cyc_round hW bl.at_
  rw [← bl.md] at hcr
  have hcr2 : 0 < cyc m.ss s.mode ∧ cyc m.ss s.mode ≤ 32000 := hcr.2
  have hsc := start_cyc (isST_all hW.st) s.mode s.round s.slot
  have hsi := startD_in (isST_all hW.st) s.mode s.round s.slot
  have hsc2 : startD m.ss s.mode s.round s.slot ≤ cyc m.ss s.mode := hsc
  have hsi2 : 0 ≤ startD m.ss s.mode s.round s.slot := hsi.1
  have hmC : modeC m.d s.mode = 0 := modeC_zero.2 ⟨hM1, inB_iff.2 (by have := (List.getElem?_eq_some_iff.1 bl.at_).1; have := bl.md; omega)⟩
  have hc1 : (cycleF m.d s.mode).1 = cyc m.ss s.mode := by rw [cycleF, if_pos hmC]; rfl
  have hc2 : (cycleF m.d s.mode).2 = 0 := by rw [cycleF, if_pos hmC]
  have hs1 : (startF m.d s).1 = startD m.ss s.mode s.round s.slot := by rw [startF, if_pos hl0]; rfl
  have hs2 : (startF m.d s).2 = 0 := by rw [startF, if_pos hl0]
  rw [hch] at b6
  have hbn := bel_new (t := (s.time + (cyc m.ss s.mode - startD m.ss s.mode s.round s.slot)) % 65536) hW hB hin (by omega)
  rw [hno] at hha
  refine ops_nil ?_
  refine c_false rfl ?_
  refine c_skip ?_
  refine tq_n ?_
  refine c_seqR ?_
  refine ops_cons rfl (ow_loadAB bM ti28 rfl rfl ?_)
  refine ops_cons rfl (ow_fieldAddrB off54_1 rfl rfl ?_)
  refine ops_cons rfl (ow_loadB bS ti2 rfl rfl ?_)
  refine ops_cons rfl (ow_call ent31 rfl (ret_mono (iCycle_c m _ s.mode _ hm hz) ?_))
  rintro _ w30 ⟨rfl, x29⟩
  replace hs := hs.ext x29
  replace hm := hm.ext x29
  replace bM := bM.ext x29
  replace bS := bS.ext x29
  replace b6 := b6.ext x29
  replace b8 := b8.ext x29
  replace X := Ext.trans X x29; clear x29
  refine ops_cons rfl (ow_move rfl ?_)
  refine ops_cons rfl (ow_extract rfl rfl ?_)
  refine ops_cons rfl (ow_extract rfl rfl ?_)
  refine ops_cons rfl (ow_assign rfl ?_)
  refine ops_cons rfl (ow_assign rfl ?_)
  refine ops_nil ?_
  refine c_seqR ?_
  refine ops_cons rfl (ow_loadAB bM ti28 rfl rfl ?_)
  refine ops_cons rfl (ow_loadAB bS ti54 rfl rfl ?_)
  refine ops_cons rfl (ow_call ent48 rfl (ret_mono (implStart_c m _ s _ hm hz) ?_))
  rintro _ w32 ⟨rfl, x31⟩
  replace hs := hs.ext x31
  replace hm := hm.ext x31
  replace bM := bM.ext x31
  replace bS := bS.ext x31
  replace b6 := b6.ext x31
  replace b8 := b8.ext x31
  replace X := Ext.trans X x31; clear x31
  refine ops_cons rfl (ow_move rfl ?_)
  refine ops_cons rfl (ow_extract rfl rfl ?_)
  refine ops_cons rfl (ow_extract rfl rfl ?_)
  refine ops_cons rfl (ow_assign rfl ?_)
  refine ops_cons rfl (ow_assign rfl ?_)
  refine ops_nil ?_
  refine c_seqR ?_
  refine ops_cons rfl (ow_move rfl ?_)
  refine ops_cons rfl (ow_eql2 rfl rfl (fun h33 => ?_) (fun h33 => absurd h33 (by exact fun h => h hc2)))
  refine ops_cons rfl (ow_move rfl ?_)
  refine ops_want rfl rfl rfl (ow_move rfl ?_)
  refine ops_want rfl rfl rfl (ow_eql2 rfl rfl (fun h34 => ?_) (fun h34 => absurd h34 (by exact fun h => h hs2)))
  refine ops_cons rfl (ow_pick rfl rfl ?_)
  refine ops_cons rfl (ow_move rfl ?_)
  refine ops_want rfl rfl rfl (ow_loadAB bM ti28 rfl rfl ?_)
  refine ops_want rfl rfl rfl (ow_loadAB b6 ti54 rfl rfl ?_)
  refine ops_want rfl rfl rfl (ow_callB ent49 rfl (iBelongs_c m _ ⟨(s.time + (cyc m.ss s.mode - startD m.ss s.mode s.round s.slot)) % 65536, to, 0, 0, s.members⟩ _ hm hz) (fun w36 hh x35 => ?_) (fun w36 hh x35 => by simp [hM1, hbn] at hh))
  replace hs := hs.ext x35
  replace hm := hm.ext x35
  replace bM := bM.ext x35
  replace bS := bS.ext x35
  replace b6 := b6.ext x35
  replace b8 := b8.ext x35
  replace X := Ext.trans X x35; clear x35
  refine ops_cons rfl (ow_pick rfl rfl ?_)
  refine ops_cons rfl (ow_move rfl ?_)
  refine ops_want rfl rfl rfl (ow_fieldAddrB off54_1 rfl rfl ?_)
  refine ops_want rfl rfl rfl (ow_loadB b6 ti2 rfl rfl ?_)
  refine ops_want rfl rfl rfl (ow_move rfl ?_)
  refine ops_want rfl rfl rfl (ow_eql2 rfl rfl (fun h37 => ?_) (fun h37 => absurd h37 (by exact fun h => h rfl)))
  refine ops_cons rfl (ow_pick rfl rfl ?_)
  refine ops_cons rfl (ow_move rfl ?_)
  refine ops_want rfl rfl rfl (ow_fieldAddrB off54_2 rfl rfl ?_)
  refine ops_want rfl rfl rfl (ow_loadB b6 ti2 rfl rfl ?_)
  refine ops_want rfl rfl rfl (ow_eql2 rfl rfl (fun h38 => ?_) (fun h38 => absurd h38 (by exact fun h => h rfl)))
  refine ops_cons rfl (ow_pick rfl rfl ?_)
  refine ops_cons rfl (ow_move rfl ?_)
  refine ops_want rfl rfl rfl (ow_fieldAddrB off54_3 rfl rfl ?_)
  refine ops_want rfl rfl rfl (ow_loadB b6 ti2 rfl rfl ?_)
  refine ops_want rfl rfl rfl (ow_eql2 rfl rfl (fun h39 => ?_) (fun h39 => absurd h39 (by exact fun h => h rfl)))
  refine ops_cons rfl (ow_pick rfl rfl ?_)
  refine ops_cons rfl (ow_move rfl ?_)
  refine ops_want rfl rfl rfl (ow_fieldAddrB off54_0 rfl rfl ?_)
  refine ops_want rfl rfl rfl (ow_loadB b6 ti2 rfl rfl ?_)
  refine ops_want rfl rfl rfl (ow_fieldAddrB off54_0 rfl rfl ?_)
  refine ops_want rfl rfl rfl (ow_loadB bS ti2 rfl rfl ?_)
  refine ops_want rfl rfl rfl (ow_move rfl ?_)
  refine ops_want rfl rfl rfl (ow_add rfl rfl (w64 (by rw [hc1]; omega)) ?_)
  refine ops_want rfl rfl rfl (ow_move rfl ?_)
  refine ops_want rfl rfl rfl (ow_sub rfl rfl (w64 (by rw [hc1, hs1]; omega)) ?_)
  refine ops_want rfl rfl rfl (ow_rem rfl rfl (by omega) (m64 (by rw [hc1, hs1]; omega)) ?_)
  refine ops_want rfl rfl rfl (ow_eql2 rfl rfl (fun h40 => ?_) (fun h40 => absurd h40 (by exact fun h => h (by rw [hc1, hs1, Int.add_sub_assoc]))))
  refine ops_cons rfl (ow_pick rfl rfl ?_)
  refine ops_cons rfl (ow_move rfl ?_)
  refine ops_want rfl rfl rfl (ow_fieldAddrB off28_2 rfl rfl ?_)
  refine ops_want rfl rfl rfl (ow_loadB bM ti25 rfl rfl ?_)
  refine ops_want rfl rfl rfl (ow_fieldAddrB off54_1 rfl rfl ?_)
  refine ops_want rfl rfl rfl (ow_loadB bS ti2 rfl rfl ?_)
  refine ops_want rfl rfl rfl (ow_move rfl ?_)
  refine ops_want rfl rfl rfl (ow_call ent50 rfl (ret_mono (mayChange_c _ _ _ _ m.ms s.mode to k x _ hm.sm hm.sx hz.lm hz.lx hW.mt bl.md hx) ?_))
  rintro _ w42 ⟨rfl, x41⟩
  replace hs := hs.ext x41
  replace hm := hm.ext x41
  replace bM := bM.ext x41
  replace bS := bS.ext x41
  replace b6 := b6.ext x41
  replace b8 := b8.ext x41
  replace X := Ext.trans X x41; clear x41
  refine ops_cons rfl (ow_pick rfl rfl ?_)
  refine ops_cons rfl (ow_assign rfl ?_)
  refine ops_nil ?_
  refine c_ret ?_
  refine fin_ret1 rfl rfl ?_
  · skip
    first
    | exact ⟨rfl, X⟩
    | exact ⟨congrArg Value.bool hha, X⟩
set_option maxRecDepth 100000

theorem fnChanged_lifted (os : Os) (started : os.Started) (H : Type) (enc : TypeId × Value → H) :
    ReturnsInHanded {} Tryz.checked os 7 .any (fun w args => (Rows.fnChangedSpec.pre enc Tryz.prog Tryz.f7 Rows.fnChangedRow.domain false w args ∧ laidMetH Tryz.prog Rows.fnChangedRow.laid w) ∧ sizedMet enc Tryz.prog Tryz.f7 (OpenSpec.ofChange Rows.fnChangedSpec) false w args)
      (Rows.fnChangedSpec.post enc Tryz.prog Tryz.f7 false true false false) := by
  refine returnsInHanded_of_change_and (C := Tryz.checked) (X := fun w _ => laidMetH Tryz.prog Rows.fnChangedRow.laid w) (fun _ _ _ hh h => h.of_heap hh) law_own started (by kernel_rfl) Tryz.func7
    (ChangeSpec.witness_shaped (enc := enc) (C := Tryz.checked) (os := os) (X := fun w _ => laidMetH Tryz.prog Rows.fnChangedRow.laid w) false (World.laidAll Tryz.prog os Rows.fnChangedRow.laid) #[.slice none 0 0] 8 (World.laidAll_os _ _ _)
      (World.shaped_of_ZipB (by kernel_rfl) (by kernel_rfl)) (by kernel_rfl) (by kernel_rfl) (by kernel_rfl)
      (by rw [MakeChecks.laidMetH_plain _ _ _ (by kernel_rfl)]; exact laidMet_laidAll _ (by kernel_rfl) (by kernel_rfl))) ?_
  intro W base args ds gs before hval0 hW _ _ hL _
  have hval : ∀ (j : Nat) t v, Tryz.f7.params[j]? = some t → args[j]? = some v → Value.okWide Tryz.prog W .any base t v := hval0
  have hW' := hW
  obtain ⟨p, q, hA0, hV, rfl, hfz, hnd⟩ := hW
  have hA : DataW.TrodAll enc Tryz.prog W 0 (fun _ => true) true Tryz.f7.params.toList args.toList ds p := hA0
  rw [Tryz.params7] at hA hval
  obtain ⟨rfl, rfl⟩ := trodVars_none hV
  obtain ⟨v0, vs0, d0, ds0, p0, q0, hargs, rfl, rfl, h0, r0⟩ := trodAll_cons hA
  obtain ⟨rfl, rfl, rfl⟩ := trodAll_nil r0
  obtain rfl : args = #[v0] := by cases args; simp_all
  obtain ⟨a0, l0, k0, rfl⟩ := okWide_slice Tryz.underlying22 (hval 0 22 v0 rfl rfl)
  obtain ⟨m0, x0, t0⟩ := cell_of rfl h0
  obtain ⟨Abs, bs, cbs, ebs, sbs, wbs, lbs⟩ := open_sl (s := 1) Tryz.underlying22 (by kernel_rfl) eB_len (by omega) (fun _ _ _ h => open_u8 Tryz.underlying5 h) t0
  rw [ebs]
  refine Calls.mono (law_FnChanged _ _ _ bs W sbs lbs) fun e W' h => ?_
  cases e <;> first | exact h.elim | skip
  obtain ⟨rfl, hb⟩ := h
  exact ⟨_, rfl, law_post law_laid (by kernel_rfl) rfl rfl Tryz.underlying4 (by rw [← ebs]; exact hW') rfl hb⟩

theorem fnChanged_holds : Rows.FnChangedSaid :=
  OpenClaim.holds_of_wide 7 Tryz.f7 rfl rfl rfl rfl rfl rfl rfl ⟨rfl, rfl, rfl, rfl, rfl⟩ rfl rfl rfl rfl rfl (by kernel_rfl) Tryz.func7 (by kernel_rfl)
    (of_decide_eq_true (by kernel_rfl)) (by unfold Func.isWrapper; rw [if_neg (of_decide_eq_false (by kernel_rfl))]; exact ⟨rfl, rfl⟩)
    (fun os started H enc _ => fnChanged_lifted os started H enc)

theorem fnChanged_card : Rows.FnChangedCardSaid :=
  Claim7.holds_tied_plain_at .later [] [.data, .pinned] true (true, "a3d70ef78196423dfcdef9bd2e3aaa75f1e6bd02bbefc60196699ec7a33f8f22") false fnChanged_holds (fun _ h => by cases h) (by kernel_rfl) (fun _ h => by cases h) fnChanged_row_tie rfl ⟨rfl, rfl⟩ law_main rfl
    (fun f fn hf hfn => by
      obtain rfl : f = 7 := Option.some.inj ((show Tryz.prog.funcNamed "loop.example/g00833/laws.FnChanged" = some 7 by kernel_rfl).symm.trans hf) |>.symm
      obtain rfl : fn = Tryz.f7 := (Option.some.inj (Tryz.func7.symm.trans hfn)).symm
      exact ⟨law_looks, fun j t ht => by
        rw [Tryz.params7] at ht
        have hm : t ∈ [22] := by simpa using Array.mem_of_getElem? ht
        have hall : ([22].all fun u => !Tryz.prog.wantsStandIn u) = true := by kernel_rfl
        exact (show Tryz.prog.wantsStandIn t = false by simpa using List.all_eq_true.1 hall t hm)⟩)
    (by kernel_rfl)
end Go.Proofs.YtojgfbbdjobdnaaGreatDoor
