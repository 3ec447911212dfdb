/- The law FnCyclesOfStates answers true for all arguments that its row admits, and leaves what was there before as it was. No condition. -/
import Derived.Test.YtojgfbbdjobdnaaGreatDoorCUP19
import Derived.Test.YtojgfbbdjobdnaaGreatDoorCUP22
import Derived.Test.YtojgfbbdjobdnaaGreatDoorCUP20
import Derived.Test.YtojgfbbdjobdnaaGreatDoorCUP21
import Derived.Test.YtojgfbbdjobdnaaGreatDoorCUP3
import Derived.Test.YtojgfbbdjobdnaaGreatDoorTie
import Derived.Test.YtojgfbbdjobdnaaGreatDoorCards
import Derived.Lay
import Derived.LaidOnce
import Derived.SevenTiedAt
/- The law FnCyclesOfStates answers true for all arguments that its row admits, and leaves what was there before as it was. No condition. -/
namespace Go.Proofs.YtojgfbbdjobdnaaGreatDoor
open Go.ChangeShapes Go.WideShapes Go.ChangeAt Go.RowKit
set_option linter.unusedVariables false
set_option linter.unusedSimpArgs false
set_option maxRecDepth 20000
theorem eqSelf_StateI (d : StateI) (w : World) (k : Nat) : (Op.equalIn (k + 2) 54 (.agg d.cells.toArray) (.agg d.cells.toArray)).run Tryz.prog w = .ok true w := by
  rw [run_equalIn_agg w (k + 1) 54 _ _ (by kernel_rfl) (by kernel_rfl)]
  simp only [Program.fieldsOf, Tryz.underlying54, StateI.cells]
  simp [Op.eqFields, part, run_equalIn_int w k 2 _ _ _ _ Tryz.underlying2]
theorem bel_code (m : MedlI) (s : StateI) : (isMedl m.d && belongsB m.d s) = decide ((statesF m.d s).2 = 0) := by
  unfold statesF lookC
  cases isMedl m.d <;> cases belongsB m.d s <;> simp
theorem states_ok {m : MedlI} {s : StateI} (h : ¬ (statesF m.d s).2 ≠ 0) : ∃ (k : Nat) (x : ModeI), WellF m.d ∧ belongsB m.d s = true ∧ Bel m.d s k x.m ∧ m.ms[k]? = some x ∧ ((1 ≤ x.m.rounds ∧ x.m.rounds ≤ 8) ∧ (1 ≤ x.m.slots ∧ x.m.slots ≤ 16)) ∧
    (statesF m.d s).1 = iterS m.d (x.m.rounds.toNat * x.m.slots.toNat) s ∧ (1 ≤ x.m.rounds.toNat * x.m.slots.toNat ∧ ((x.m.rounds.toNat * x.m.slots.toNat : Nat) : Int) = x.m.rounds * x.m.slots) ∧ cycM (m.ms.map (·.m)) s.mode = (x.m.rounds * x.m.slots, 0) ∧
    nextF m.d (iterN m.d (x.m.rounds.toNat * x.m.slots.toNat - 1) s) = (⟨(s.time + cyc m.ss s.mode) % 65536, s.mode, s.round, s.slot, s.members⟩, 0) ∧ (0 < cyc m.ss s.mode ∧ cyc m.ss s.mode ≤ 32000) ∧ cycleF m.d s.mode = (cyc m.ss s.mode, 0) := by
  by_cases h1 : lookC m.d s = 0
  · obtain ⟨hM, hB⟩ := lookC_zero.1 h1
    have hW := isMedl_iff.1 hM
    obtain ⟨k, x, j, y, bl, hx, hxi, hj, hy, hda, hso, hro, hno, hyd⟩ := bel_get hW hB
    have hmul := mulI hxi.1 hxi.2
    have hN := mulN hxi.1.1 hxi.2.1
    have hcr := cyc_round hW bl.at_
    have hcy := iter_cycle hW bl
    have hcr2 : 0 < cyc m.ss k ∧ cyc m.ss k ≤ 32000 := hcr.2
    have e1 : roundsOf m.d s.mode * slotsOf m.d s.mode = x.m.rounds * x.m.slots := by rw [hso, hro]
    obtain ⟨n, hn⟩ : ∃ n, x.m.rounds.toNat * x.m.slots.toNat = n + 1 := ⟨x.m.rounds.toNat * x.m.slots.toNat - 1, by omega⟩
    have hin : inB s.mode 0 ((m.d.ms.length : Int) - 1) = true := inB_iff.2 (by have := (List.getElem?_eq_some_iff.1 bl.at_).1; have := bl.md; omega)
    refine ⟨k, x, hW, hB, bl, hx, hxi, ?_, ⟨by omega, hN⟩, ?_, ?_, ?_, ?_⟩
    · rw [statesF, if_pos h1]
      show iterS m.d (roundsOf m.d s.mode * slotsOf m.d s.mode).toNat s = _
      rw [e1]; congr 1; omega
    · have hT : isMT (m.ms.map (·.m)) = true := hW.mt
      have hi2 : inB s.mode 0 (((m.ms.map (·.m)).length : Int) - 1) = true := hin
      rw [cycM, if_pos hT, if_pos hi2, bl.md, Int.toNat_natCast, map_at (f := (·.m)) hx]
    · have hb := iter_bel hW hB (x.m.rounds.toNat * x.m.slots.toNat - 1)
      rw [nextF, if_pos (lookC_zero.2 ⟨hM, hb⟩)]
      have h5 : nextS m.d (iterN m.d (x.m.rounds.toNat * x.m.slots.toNat - 1) s) = iterN m.d (x.m.rounds.toNat * x.m.slots.toNat) s := by
        rw [hn, Nat.add_sub_cancel, iterN]
      rw [h5, hcy, bl.md]; rfl
    · rw [bl.md]; exact hcr2
    · rw [cycleF, if_pos (modeC_zero.2 ⟨hM, hin⟩)]; rfl
  · rw [statesF, if_neg h1] at h; exact absurd h1 h
set_option maxHeartbeats 1000000 in
theorem law_FnCyclesOfStates (A : Option Addr) (B c : Nat) (bs : List UInt8) (w : World) (hs : Sl B w A (bs.flatMap eB)) (hm0 : bs.length ≤ 9223372036854775807) :
    Calls Tryz.prog 9 #[.slice A bs.length c] w (Ret fun v w' => v = .bool true ∧ Ext w w') := by
  have Bhs := hs.1
  have X := Ext.refl w
  refine calls_of (args := [.slice A bs.length c]) Tryz.func9 Tryz.ntmps9 rfl rfl ?_
  refine c_seqR ?_
  refine ops_cons rfl (ow_assign rfl ?_)
  refine ops_nil ?_
  refine c_seq ?_
  refine c_seqR ?_
  refine ops_cons rfl (ow_move rfl ?_)
  refine ops_cons rfl (ow_callB ent11 rfl (big_c _ _ _ _) (fun w2 hbig x1 => ?_) (fun w2 hbig x1 => ?_))
  replace hs := hs.ext x1
  replace X := Ext.trans X x1; clear x1
  refine ops_nil ?_
  refine c_true rfl ?_
  refine c_seqR ?_
  refine ops_cons rfl (ow_assign rfl ?_)
  refine ops_nil ?_
  refine c_ret ?_
  refine tq_r ?_
  refine fin_ret1 rfl rfl ?_
  · skip
    first
    | exact ⟨rfl, X⟩
    | exact ⟨congrArg Value.bool (decide_eq_true (by rw [hcf])), X⟩
  replace hs := hs.ext x1
  replace X := Ext.trans X x1; clear x1
  have hb2 := of_decide_eq_false hbig
  have hbl : bs.length ≤ 1048576 := by omega
  refine ops_nil ?_
  refine c_false rfl ?_
  refine c_skip ?_
  refine tq_n ?_
  refine c_seqR ?_
  refine ops_cons rfl (ow_move rfl ?_)
  refine ops_cons rfl (ow_call ent58 rfl (ret_mono (drawSC_c _ _ _ bs _ hs hbl) ?_))
  rintro _ wD ⟨m, s, rfl, hdr, hmF, xD⟩
  replace hs := hs.ext xD
  replace X := Ext.trans X xD; clear xD
  have hm := hmF.med
  have hz := hdr.1
  have hbq := bel_code m s
  have hlS := statesF_len m s
  refine ops_cons rfl (ow_move rfl ?_)
  refine ops_cons rfl (ow_extract rfl rfl ?_)
  refine ops_cons rfl (ow_extract rfl rfl ?_)
  refine ops_cons rfl (ow_alloc ti28 ?_)
  intro gM w4 egM b0 x3 zgM
  have lgM : w.heap.size ≤ gM := Nat.le_trans X.size (Nat.le_of_eq egM.symm)
  have pgMhs := Nat.le_trans hs.1 (Nat.le_of_eq egM.symm)
  have pgMhm := Nat.le_trans hm.1 (Nat.le_of_eq egM.symm)
  replace hs := hs.ext x3
  replace hm := hm.ext x3
  replace X := Ext.trans X x3; clear x3
  refine ops_cons rfl (ow_alloc ti54 ?_)
  intro g4 w6 eg4 b1 x5 zg4
  have lg4 : w.heap.size ≤ g4 := Nat.le_trans X.size (Nat.le_of_eq eg4.symm)
  have pg4hs := Nat.le_trans hs.1 (Nat.le_of_eq eg4.symm)
  have pg4hm := Nat.le_trans hm.1 (Nat.le_of_eq eg4.symm)
  have ng4b0 := Nat.lt_of_lt_of_eq b0.lt eg4.symm
  replace hs := hs.ext x5
  replace hm := hm.ext x5
  replace b0 := b0.ext x5
  replace X := Ext.trans X x5; clear x5
  refine ops_cons rfl (ow_storeB b0 ti28 rfl rfl rfl rfl rfl rfl ?_)
  intro w9 bM hg7 z10
  replace hs := hs.grown hg7 (by intro g hg; injection hg; omega)
  replace hm := hm.grown hg7 (by intro g hg; injection hg; omega)
  replace b1 := b1.grown hg7 (by intro h; injection h; omega)
  replace X := X.grown hg7 X.size (by intro g hg; injection hg; omega)
  clear hg7 b0
  refine ops_cons rfl (ow_storeB b1 ti54 rfl rfl rfl rfl rfl rfl ?_)
  intro w12 bS hg11 z13
  replace hs := hs.grown hg11 (by intro g hg; injection hg; omega)
  replace hm := hm.grown hg11 (by intro g hg; injection hg; omega)
  replace bM := bM.grown hg11 (by intro h; injection h; omega)
  replace X := X.grown hg11 X.size (by intro g hg; injection hg; omega)
  clear hg11 b1
  replace bS : Blk _ g4 54 s.cells := bS
  refine ops_nil ?_
  refine c_seqR ?_
  refine ops_cons rfl (ow_loadAB bM ti28 rfl rfl ?_)
  refine ops_cons rfl (ow_loadAB bS ti54 rfl rfl ?_)
  refine ops_cons rfl (ow_call ent59 rfl (ret_mono (iStates_c m _ s _ hm hz) ?_))
  rintro _ w15 ⟨AI, cI, rfl, oI, x14⟩
  replace oI := Own.low oI X.size
  replace hs := hs.ext x14
  replace hm := hm.ext x14
  replace bM := bM.ext x14
  replace bS := bS.ext x14
  replace X := Ext.trans X x14; clear x14
  refine ops_cons rfl (ow_move rfl ?_)
  refine ops_cons rfl (ow_extract rfl rfl ?_)
  refine ops_cons rfl (ow_extract rfl rfl ?_)
  refine ops_cons rfl (ow_assign rfl ?_)
  refine ops_cons rfl (ow_assign rfl ?_)
  refine ops_nil ?_
  refine c_seqR ?_
  refine ops_cons rfl (ow_loadAB bM ti28 rfl rfl ?_)
  refine ops_cons rfl (ow_loadAB bS ti54 rfl rfl ?_)
  refine ops_cons rfl (ow_call ent60 rfl (ret_mono (sStates_c m _ s _ hm hz) ?_))
  rintro _ w17 ⟨AS, cS, rfl, oS, x16⟩
  replace oS := Own.low oS X.size
  replace hs := hs.ext x16
  replace hm := hm.ext x16
  replace bM := bM.ext x16
  replace bS := bS.ext x16
  replace oI := oI.ext x16
  replace X := Ext.trans X x16; clear x16
  refine ops_cons rfl (ow_move rfl ?_)
  refine ops_cons rfl (ow_extract rfl rfl ?_)
  refine ops_cons rfl (ow_extract rfl rfl ?_)
  refine ops_cons rfl (ow_assign rfl ?_)
  refine ops_cons rfl (ow_assign rfl ?_)
  refine ops_nil ?_
  refine c_seq ?_
  refine c_seqR ?_
  refine ops_cons rfl (ow_move rfl ?_)
  refine ops_cons rfl (ow_move rfl ?_)
  refine ops_cons rfl (ow_neq2 rfl rfl (fun h18 => absurd h18 (by simp)) (fun h18 => ?_))
  refine ops_cons rfl (ow_move rfl ?_)
  refine ops_want rfl rfl rfl (ow_move rfl ?_)
  refine ops_want rfl rfl rfl (ow_len Tryz.underlying72 rfl ?_)
  refine ops_want rfl rfl rfl (ow_move rfl ?_)
  refine ops_want rfl rfl rfl (ow_len Tryz.underlying72 rfl ?_)
  refine ops_want rfl rfl rfl (ow_neq2 rfl rfl (fun h19 => absurd h19 (by simp)) (fun h19 => ?_))
  refine ops_cons rfl (ow_pick rfl rfl ?_)
  refine ops_cons rfl (ow_move rfl ?_)
  refine ops_want rfl rfl rfl (ow_loadAB bM ti28 rfl rfl ?_)
  refine ops_want rfl rfl rfl (ow_loadAB bS ti54 rfl rfl ?_)
  refine ops_want rfl rfl rfl (ow_call ent49 rfl (ret_mono (iBelongs_c m _ s _ hm hz) ?_))
  rintro _ w21 ⟨rfl, x20⟩
  replace hs := hs.ext x20
  replace hm := hm.ext x20
  replace bM := bM.ext x20
  replace bS := bS.ext x20
  replace oI := oI.ext x20
  replace oS := oS.ext x20
  replace X := Ext.trans X x20; clear x20
  refine ops_want rfl rfl rfl (ow_move rfl ?_)
  refine ops_want rfl rfl rfl (ow_eql rfl rfl ?_)
  refine ops_want rfl rfl rfl (ow_neqBd2 Tryz.underlying4 rfl rfl (fun h22 => absurd h22 (by exact fun h => h hbq)) (fun h22 => ?_))
  refine ops_cons rfl (ow_pick rfl rfl ?_)
  refine ops_nil ?_
  refine c_false rfl ?_
  refine c_skip ?_
  refine tq_n ?_
  refine c_seq ?_
  refine c_seqR ?_
  obtain ⟨hBM, hm⟩ : ∃ B9, Med B9 _ m := ⟨_, hm⟩
  refine ops_cons rfl (ow_assign rfl ?_)
  refine ops_nil ?_
  refine c_block ?_
  refine c_loop (G := Nat) (fun i => [(3, .pointer (some ⟨gM, 0, none⟩)), (4, .pointer (some ⟨g4, 0, none⟩)), (5, .slice AI (statesF m.d s).1.length cI), (6, .int .i64 (statesF m.d s).2), (7, .slice AS (statesF m.d s).1.length cS), (8, .int .i64 (statesF m.d s).2), (9, .int .i64 (i : Nat))]) (fun i wr => i ≤ (statesF m.d s).1.length ∧ Sl B wr A (bs.flatMap eB) ∧ Med hBM wr m ∧ Blk wr gM 28 m.cells ∧ Blk wr g4 54 s.cells ∧ Own wr w.heap.size 54 5 AI (statesF m.d s).1.length cI ((statesF m.d s).1.flatMap StateI.cells) ∧ Own wr w.heap.size 54 5 AS (statesF m.d s).1.length cS ((statesF m.d s).1.flatMap StateI.cells) ∧ Ext w wr) (fun i => (statesF m.d s).1.length - i) 0 (.cons rfl (.cons rfl (.cons rfl (.cons rfl (.cons rfl (.cons rfl (.cons rfl (.nil _)))))))) ?_ ?_
  · exact ⟨by omega, hs, hm, bM, bS, oI, oS, X⟩
  clear hs hm bM bS oI oS
  clear X
  rintro i wr ⟨hi0, hs, hm, bM, bS, oI, oS, X⟩
  refine c_seq ?_
  refine c_seqR ?_
  refine ops_cons rfl (ow_move rfl ?_)
  refine ops_cons rfl (ow_move rfl ?_)
  refine ops_cons rfl (ow_len Tryz.underlying72 rfl ?_)
  refine ops_cons rfl (ow_lss2 rfl rfl (fun hi => ?_) (fun hi => ?_))
  obtain ⟨x, hx⟩ : ∃ x, (statesF m.d s).1[i]? = some x := ⟨_, List.getElem?_eq_getElem (by omega)⟩
  refine ops_nil ?_
  refine c_true rfl ?_
  refine c_skip ?_
  refine tq_n ?_
  refine c_seq ?_
  refine c_block ?_
  refine c_seqD [false, false, false, false, false, false, false, false, false] mixed (by kernel_rfl) ?_
  refine f_q rfl (fun wq sq => ow_move rfl ⟨rfl, Ext.refl _⟩) ?_
  refine f_q rfl (fun wq sq => ow_move rfl ⟨rfl, Ext.refl _⟩) ?_
  refine f_q rfl (fun wq sq => ow_indexT ((oI.ext sq)).sl StateI.len rfl el72 rfl rfl rfl hx rfl ⟨rfl, Ext.refl _⟩) ?_
  refine f_q rfl (fun wq sq => ow_loadTA ((oI.ext sq)).sl StateI.len hx ti54 rfl ⟨rfl, Ext.refl _⟩) ?_
  refine f_q rfl (fun wq sq => ow_move rfl ⟨rfl, Ext.refl _⟩) ?_
  refine f_q rfl (fun wq sq => ow_move rfl ⟨rfl, Ext.refl _⟩) ?_
  refine f_q rfl (fun wq sq => ow_indexT ((oS.ext sq)).sl StateI.len rfl el72 rfl rfl rfl hx rfl ⟨rfl, Ext.refl _⟩) ?_
  refine f_q rfl (fun wq sq => ow_loadTA ((oS.ext sq)).sl StateI.len hx ti54 rfl ⟨rfl, Ext.refl _⟩) ?_
  refine f_q rfl (fun wq sq => ow_neqA rfl rfl (by kernel_rfl) (fun w => eqSelf_StateI _ w 9998) ⟨rfl, Ext.refl _⟩) ?_
  refine f_nil (fun w23 sq => ?_)
  have xq := sq
  replace hs := hs.ext xq
  replace hm := hm.ext xq
  replace bM := bM.ext xq
  replace bS := bS.ext xq
  replace oI := oI.ext xq
  replace oS := oS.ext xq
  replace X := Ext.trans X xq; clear xq sq
  refine ops_nil ?_
  refine c_false rfl ?_
  refine c_skip ?_
  refine bq_n ?_
  refine tq_n ?_
  refine c_region ?_
  refine ops_cons rfl (ow_move rfl ?_)
  refine ops_cons rfl (ow_add rfl rfl (w64 (by omega)) ?_)
  refine ops_cons rfl (ow_assign rfl ?_)
  refine ops_nil ?_
  refine tq_n ⟨i + 1, (.cons rfl (.cons rfl (.cons rfl (.cons rfl (.cons rfl (.cons rfl (.cons rfl (.nil _)))))))), ?_, ?_⟩
  · exact ⟨by omega, hs, hm, bM, bS, oI, oS, X⟩
  · first | omega | (dsimp only; omega)
  refine ops_nil ?_
  refine c_false rfl ?_
  refine c_exit ?_
  refine tq_e ?_
  refine tq_e ?_
  refine bq_e ?_
  refine tq_n ?_
  refine c_seq ?_
  refine c_seqR ?_
  refine ops_cons rfl (ow_move rfl ?_)
  refine ops_cons rfl (ow_neq2 rfl rfl (fun hC => ?_) (fun hC => ?_))
  refine ops_nil ?_
  refine c_true rfl ?_
  refine c_seqR ?_
  refine ops_cons rfl (ow_assign rfl ?_)
  refine ops_nil ?_
  refine c_ret ?_
  refine tq_r ?_
  refine fin_ret1 rfl rfl ?_
  · skip
    first
    | exact ⟨rfl, X⟩
    | exact ⟨congrArg Value.bool (decide_eq_true (by rw [hcf])), X⟩
  obtain ⟨k, x, hW, hB, bl, hx, hxi, hit, hN, hcm, hnf, hcb, hcf⟩ := states_ok hC
  have hst := stateOk_in bl.ok
  obtain ⟨N9, hN9⟩ : ∃ N9, x.m.rounds.toNat * x.m.slots.toNat = N9 := ⟨_, rfl⟩
  rw [hN9] at hit hN hnf
  have hlen : (statesF m.d s).1.length = N9 := by rw [hit, iterS_len]
  have h0s : (statesF m.d s).1[0]? = some s := by rw [hit, iterS_at m.d N9 0 s (by omega)]; rfl
  have hls : (statesF m.d s).1[N9 - 1]? = some (iterN m.d (N9 - 1) s) := by rw [hit, iterS_at m.d N9 (N9 - 1) s (by omega)]
  refine ops_nil ?_
  refine c_false rfl ?_
  refine c_skip ?_
  refine tq_n ?_
  refine c_seqR ?_
  refine ops_cons rfl (ow_fieldAddrB off28_2 rfl rfl ?_)
  refine ops_cons rfl (ow_loadB bM ti25 rfl rfl ?_)
  refine ops_cons rfl (ow_fieldAddrB off54_1 rfl rfl ?_)
  refine ops_cons rfl (ow_loadB bS ti2 rfl rfl ?_)
  refine ops_cons rfl (ow_call ent57 rfl (ret_mono (iCyc_c _ _ _ _ m.ms s.mode _ hm.sm hm.sx hz.lm hz.lx) ?_))
  rintro _ w25 ⟨rfl, x24⟩
  replace hs := hs.ext x24
  replace hm := hm.ext x24
  replace bM := bM.ext x24
  replace bS := bS.ext x24
  replace oI := oI.ext x24
  replace oS := oS.ext x24
  replace X := Ext.trans X x24; clear x24
  refine ops_cons rfl (ow_move rfl ?_)
  refine ops_cons rfl (ow_extract rfl rfl ?_)
  refine ops_cons rfl (ow_extract rfl rfl ?_)
  refine ops_cons rfl (ow_assign rfl ?_)
  refine ops_cons rfl (ow_assign rfl ?_)
  refine ops_nil ?_
  refine c_seqI (fun wz => Blk wz gM 28 m.cells ∧ Own wz w.heap.size 54 5 AI (statesF m.d s).1.length cI ((statesF m.d s).1.flatMap StateI.cells)) mixed ?_
  obtain ⟨w26, ew26⟩ : ∃ wy, wy = World.drew w25 := ⟨_, rfl⟩
  rw [← ew26]
  have xd : Ext w25 w26 := ew26 ▸ Ext.drew w25
  replace hs := hs.ext xd
  replace hm := hm.ext xd
  replace bM := bM.ext xd
  replace bS := bS.ext xd
  replace oI := oI.ext xd
  replace oS := oS.ext xd
  replace X := Ext.trans X xd; clear xd ew26
  refine wi_take 0 rfl (by kernel_rfl) rfl (by kernel_rfl) (listed' := #[true, false, false, false, false, false, false, false, false, false, false, false, false, false]) rfl (fun wq sq => ow_loadAB sq.1 ti28 rfl rfl ⟨rfl, rfl⟩) ?_
  refine wi_take 1 rfl (by kernel_rfl) rfl (by kernel_rfl) (listed' := #[true, true, false, false, false, false, false, false, false, false, false, false, false, false]) rfl (fun wq sq => ow_move rfl ⟨rfl, rfl⟩) ?_
  refine wi_take 2 rfl (by kernel_rfl) rfl (by kernel_rfl) (listed' := #[true, true, true, false, false, false, false, false, false, false, false, false, false, false]) rfl (fun wq sq => ow_move rfl ⟨rfl, rfl⟩) ?_
  refine wi_take 3 rfl (by kernel_rfl) rfl (by kernel_rfl) (listed' := #[true, true, true, true, false, false, false, false, false, false, false, false, false, false]) rfl (fun wq sq => ow_len Tryz.underlying72 rfl ⟨rfl, rfl⟩) ?_
  refine wi_take 4 rfl (by kernel_rfl) rfl (by kernel_rfl) (listed' := #[true, true, true, true, true, false, false, false, false, false, false, false, false, false]) rfl (fun wq sq => ow_sub rfl rfl (w64 (by omega)) ⟨rfl, rfl⟩) ?_
  refine wi_take 5 rfl (by kernel_rfl) rfl (by kernel_rfl) (listed' := #[true, true, true, true, true, true, false, false, false, false, false, false, false, false]) rfl (fun wq sq => ow_indexT (sq.2).sl StateI.len rfl el72 rfl rfl rfl hls (by rw [hlen]; omega) ⟨rfl, rfl⟩) ?_
  refine wi_take 6 rfl (by kernel_rfl) rfl (by kernel_rfl) (listed' := #[true, true, true, true, true, true, true, false, false, false, false, false, false, false]) rfl (fun wq sq => ow_loadTA (sq.2).sl StateI.len hls ti54 rfl ⟨rfl, rfl⟩) ?_
  refine wi_two 7 11 rfl rfl rfl rfl (by kernel_rfl) (listed' := #[true, true, true, true, true, true, true, true, false, false, false, false, false, false]) (listed'' := #[true, true, true, true, true, true, true, false, false, false, false, true, false, false]) rfl rfl ⟨bM, oI⟩ ?_ ?_
  refine (ow_call ent61 rfl (ret_mono (implNextF_c m _ (iterN m.d (N9 - 1) s) _ hm hz) ?_))
  rintro _ w28 ⟨rfl, x27⟩
  replace hs := hs.ext x27
  replace hm := hm.ext x27
  replace bM := bM.ext x27
  replace bS := bS.ext x27
  replace oI := oI.ext x27
  replace oS := oS.ext x27
  replace X := Ext.trans X x27; clear x27
  refine wi_take 8 rfl (by kernel_rfl) rfl (by kernel_rfl) (listed' := #[true, true, true, true, true, true, true, true, true, false, false, false, false, false]) rfl (fun wq sq => ow_move rfl ⟨rfl, rfl⟩) ?_
  refine wi_take 9 rfl (by kernel_rfl) rfl (by kernel_rfl) (listed' := #[true, true, true, true, true, true, true, true, true, true, false, false, false, false]) rfl (fun wq sq => ow_extract rfl rfl ⟨rfl, rfl⟩) ?_
  refine wi_take 10 rfl (by kernel_rfl) rfl (by kernel_rfl) (listed' := #[true, true, true, true, true, true, true, true, true, true, true, false, false, false]) rfl (fun wq sq => ow_extract rfl rfl ⟨rfl, rfl⟩) ?_
  have UI := fun g hg => (Own.lt oI (g := g) hg).2
  have US := fun g hg => (Own.lt oS (g := g) hg).2
  refine wi_one 11 rfl rfl (by kernel_rfl) (listed' := #[true, true, true, true, true, true, true, true, true, true, true, true, false, false]) rfl ⟨bM, oI⟩ (ow_alloc ti54 ?_)
  intro g9 w30 eg9 b9 x29 zg9
  have lg9 : w.heap.size ≤ g9 := Nat.le_trans X.size (Nat.le_of_eq eg9.symm)
  have pg9hs := Nat.le_trans hs.1 (Nat.le_of_eq eg9.symm)
  have pg9hm := Nat.le_trans hm.1 (Nat.le_of_eq eg9.symm)
  have ng9bM := Nat.lt_of_lt_of_eq bM.lt eg9.symm
  have ng9bS := Nat.lt_of_lt_of_eq bS.lt eg9.symm
  replace hs := hs.ext x29
  replace hm := hm.ext x29
  replace bM := bM.ext x29
  replace bS := bS.ext x29
  replace oI := oI.ext x29
  replace oS := oS.ext x29
  replace X := Ext.trans X x29; clear x29
  refine wi_one 12 rfl rfl (by kernel_rfl) (listed' := #[true, true, true, true, true, true, true, true, true, true, true, true, true, false]) rfl ⟨bM, oI⟩ (ow_storeB b9 ti54 rfl rfl rfl rfl rfl rfl ?_)
  intro w32 bL hg31 z33
  replace hs := hs.grown hg31 (by intro g hg; injection hg; omega)
  replace hm := hm.grown hg31 (by intro g hg; injection hg; omega)
  replace bM := bM.grown hg31 (by intro h; injection h; omega)
  replace bS := bS.grown hg31 (by intro h; injection h; omega)
  replace oI := oI.grownBlk hg31 (fun h => by have := UI g9 h; omega)
  replace oS := oS.grownBlk hg31 (fun h => by have := US g9 h; omega)
  replace X := X.grown hg31 X.size (by intro g hg; injection hg; omega)
  clear hg31 b9
  replace bL : Blk _ g9 54 (nextF m.d (iterN m.d (N9 - 1) s)).1.cells := bL
  rw [hnf] at bL
  refine wi_take 13 rfl (by kernel_rfl) rfl (by kernel_rfl) (listed' := #[true, true, true, true, true, true, true, true, true, true, true, true, true, true]) rfl (fun wq sq => ow_assign rfl ⟨rfl, rfl⟩) ?_
  refine wi_done rfl ⟨bM, oI⟩ (fun aj fj => ⟨_, fj, ?_⟩)
  refine c_seqR ?_
  refine ops_cons rfl (ow_loadAB bM ti28 rfl rfl ?_)
  refine ops_cons rfl (ow_fieldAddrB off54_1 rfl rfl ?_)
  refine ops_cons rfl (ow_loadB bS ti2 rfl rfl ?_)
  refine ops_cons rfl (ow_call ent31 rfl (ret_mono (iCycle_c m _ s.mode _ hm hz) ?_))
  rintro _ w35 ⟨rfl, x34⟩
  replace hs := hs.ext x34
  replace hm := hm.ext x34
  replace bM := bM.ext x34
  replace bS := bS.ext x34
  replace oI := oI.ext x34
  replace oS := oS.ext x34
  replace bL := bL.ext x34
  replace X := Ext.trans X x34; clear x34
  refine ops_cons rfl (ow_move rfl ?_)
  refine ops_cons rfl (ow_extract rfl rfl ?_)
  refine ops_cons rfl (ow_extract rfl rfl ?_)
  refine ops_cons rfl (ow_assign rfl ?_)
  refine ops_cons rfl (ow_assign rfl ?_)
  refine ops_nil ?_
  refine c_seqD [false, false, false, false, false, false, false, false, false, false, false, false, false, false, false, false, false, false, false, false, false, false, false, false, false, false, false, false, false, false, false, false, false, false, false, false, false, false, false, false, false, false, false, false, false, false, false, false] mixed (by kernel_rfl) ?_
  refine f_q rfl (fun wq sq => ow_move rfl ⟨rfl, Ext.refl _⟩) ?_
  refine f_qb rfl (fun wq sq => ow_eql rfl rfl ⟨rfl, Ext.refl _⟩) (fun h36 => ?_) (fun h36 => absurd h36 (by exact fun h => h (by rw [hcm])))
  refine f_q rfl (fun wq sq => ow_move rfl ⟨rfl, Ext.refl _⟩) ?_
  refine f_qw rfl rfl rfl (fun wq sq => ow_move rfl ⟨rfl, Ext.refl _⟩) ?_
  refine f_qwb rfl rfl rfl (fun wq sq => ow_eql rfl rfl ⟨rfl, Ext.refl _⟩) (fun h37 => ?_) (fun h37 => absurd h37 (by exact fun h => h (by rw [hnf])))
  refine f_q rfl (fun wq sq => ow_pick rfl rfl ⟨rfl, Ext.refl _⟩) ?_
  refine f_q rfl (fun wq sq => ow_move rfl ⟨rfl, Ext.refl _⟩) ?_
  refine f_qw rfl rfl rfl (fun wq sq => ow_move rfl ⟨rfl, Ext.refl _⟩) ?_
  refine f_qwb rfl rfl rfl (fun wq sq => ow_eql rfl rfl ⟨rfl, Ext.refl _⟩) (fun h38 => ?_) (fun h38 => absurd h38 (by exact fun h => h (by rw [hcf])))
  refine f_q rfl (fun wq sq => ow_pick rfl rfl ⟨rfl, Ext.refl _⟩) ?_
  refine f_q rfl (fun wq sq => ow_move rfl ⟨rfl, Ext.refl _⟩) ?_
  refine f_qw rfl rfl rfl (fun wq sq => ow_move rfl ⟨rfl, Ext.refl _⟩) ?_
  refine f_qw rfl rfl rfl (fun wq sq => ow_len Tryz.underlying72 rfl ⟨rfl, Ext.refl _⟩) ?_
  refine f_qw rfl rfl rfl (fun wq sq => ow_move rfl ⟨rfl, Ext.refl _⟩) ?_
  refine f_qwb rfl rfl rfl (fun wq sq => ow_eql rfl rfl ⟨rfl, Ext.refl _⟩) (fun h39 => ?_) (fun h39 => absurd h39 (by exact fun h => h (by rw [hcm, hlen]; exact hN.2)))
  refine f_q rfl (fun wq sq => ow_pick rfl rfl ⟨rfl, Ext.refl _⟩) ?_
  refine f_q rfl (fun wq sq => ow_move rfl ⟨rfl, Ext.refl _⟩) ?_
  refine f_qw rfl rfl rfl (fun wq sq => ow_move rfl ⟨rfl, Ext.refl _⟩) ?_
  refine f_qw rfl rfl rfl (fun wq sq => ow_indexT ((oI.ext sq)).sl StateI.len rfl el72 rfl rfl rfl h0s rfl ⟨rfl, Ext.refl _⟩) ?_
  refine f_qw rfl rfl rfl (fun wq sq => ow_loadTA ((oI.ext sq)).sl StateI.len h0s ti54 rfl ⟨rfl, Ext.refl _⟩) ?_
  refine f_qw rfl rfl rfl (fun wq sq => ow_loadAB (bS.ext sq) ti54 rfl rfl ⟨rfl, Ext.refl _⟩) ?_
  refine f_qw rfl rfl rfl (fun wq sq => ow_eqlA rfl rfl (by kernel_rfl) (fun w => eqSelf_StateI _ w 9998) ⟨rfl, Ext.refl _⟩) ?_
  refine f_q rfl (fun wq sq => ow_pick rfl rfl ⟨rfl, Ext.refl _⟩) ?_
  refine f_q rfl (fun wq sq => ow_move rfl ⟨rfl, Ext.refl _⟩) ?_
  refine f_qw rfl rfl rfl (fun wq sq => ow_fieldAddrB off54_2 rfl rfl ⟨rfl, Ext.refl _⟩) ?_
  refine f_qw rfl rfl rfl (fun wq sq => ow_loadB (bL.ext sq) ti2 rfl rfl ⟨rfl, Ext.refl _⟩) ?_
  refine f_qw rfl rfl rfl (fun wq sq => ow_fieldAddrB off54_2 rfl rfl ⟨rfl, Ext.refl _⟩) ?_
  refine f_qw rfl rfl rfl (fun wq sq => ow_loadB (bS.ext sq) ti2 rfl rfl ⟨rfl, Ext.refl _⟩) ?_
  refine f_qwb rfl rfl rfl (fun wq sq => ow_eql rfl rfl ⟨rfl, Ext.refl _⟩) (fun h40 => ?_) (fun h40 => absurd h40 (by exact fun h => h rfl))
  refine f_q rfl (fun wq sq => ow_pick rfl rfl ⟨rfl, Ext.refl _⟩) ?_
  refine f_q rfl (fun wq sq => ow_move rfl ⟨rfl, Ext.refl _⟩) ?_
  refine f_qw rfl rfl rfl (fun wq sq => ow_fieldAddrB off54_3 rfl rfl ⟨rfl, Ext.refl _⟩) ?_
  refine f_qw rfl rfl rfl (fun wq sq => ow_loadB (bL.ext sq) ti2 rfl rfl ⟨rfl, Ext.refl _⟩) ?_
  refine f_qw rfl rfl rfl (fun wq sq => ow_fieldAddrB off54_3 rfl rfl ⟨rfl, Ext.refl _⟩) ?_
  refine f_qw rfl rfl rfl (fun wq sq => ow_loadB (bS.ext sq) ti2 rfl rfl ⟨rfl, Ext.refl _⟩) ?_
  refine f_qwb rfl rfl rfl (fun wq sq => ow_eql rfl rfl ⟨rfl, Ext.refl _⟩) (fun h41 => ?_) (fun h41 => absurd h41 (by exact fun h => h rfl))
  refine f_q rfl (fun wq sq => ow_pick rfl rfl ⟨rfl, Ext.refl _⟩) ?_
  refine f_q rfl (fun wq sq => ow_move rfl ⟨rfl, Ext.refl _⟩) ?_
  refine f_qw rfl rfl rfl (fun wq sq => ow_fieldAddrB off54_0 rfl rfl ⟨rfl, Ext.refl _⟩) ?_
  refine f_qw rfl rfl rfl (fun wq sq => ow_loadB (bL.ext sq) ti2 rfl rfl ⟨rfl, Ext.refl _⟩) ?_
  refine f_qw rfl rfl rfl (fun wq sq => ow_fieldAddrB off54_0 rfl rfl ⟨rfl, Ext.refl _⟩) ?_
  refine f_qw rfl rfl rfl (fun wq sq => ow_loadB (bS.ext sq) ti2 rfl rfl ⟨rfl, Ext.refl _⟩) ?_
  refine f_qw rfl rfl rfl (fun wq sq => ow_move rfl ⟨rfl, Ext.refl _⟩) ?_
  refine f_qw rfl rfl rfl (fun wq sq => ow_add rfl rfl (w64 (by rw [hcf]; show _ ≤ s.time + cyc m.ss s.mode ∧ s.time + cyc m.ss s.mode ≤ _; omega)) ⟨rfl, Ext.refl _⟩) ?_
  refine f_qw rfl rfl rfl (fun wq sq => ow_rem rfl rfl (by omega) (m64 (by rw [hcf]; show 0 ≤ s.time + cyc m.ss s.mode; omega)) ⟨rfl, Ext.refl _⟩) ?_
  refine f_qw rfl rfl rfl (fun wq sq => ow_eql rfl rfl ⟨rfl, Ext.refl _⟩) ?_
  refine f_q rfl (fun wq sq => ow_pick rfl rfl ⟨rfl, Ext.refl _⟩) ?_
  refine f_q rfl (fun wq sq => ow_assign rfl ⟨rfl, Ext.refl _⟩) ?_
  refine f_nil (fun w42 sq => ?_)
  have xq := sq
  replace hs := hs.ext xq
  replace hm := hm.ext xq
  replace bM := bM.ext xq
  replace bS := bS.ext xq
  replace oI := oI.ext xq
  replace oS := oS.ext xq
  replace bL := bL.ext xq
  replace X := Ext.trans X xq; clear xq sq
  refine ops_nil ?_
  refine c_ret ?_
  refine fin_ret1 rfl rfl ?_
  · skip
    first
    | exact ⟨rfl, X⟩
    | exact ⟨congrArg Value.bool (decide_eq_true (by rw [hcf])), X⟩
  have UI := fun g hg => (Own.lt oI (g := g) hg).2
  have US := fun g hg => (Own.lt oS (g := g) hg).2
  refine (ow_alloc ti54 ?_)
  intro g9 w44 eg9 b9 x43 zg9
  have lg9 : w.heap.size ≤ g9 := Nat.le_trans X.size (Nat.le_of_eq eg9.symm)
  have pg9hs := Nat.le_trans hs.1 (Nat.le_of_eq eg9.symm)
  have pg9hm := Nat.le_trans hm.1 (Nat.le_of_eq eg9.symm)
  have ng9bM := Nat.lt_of_lt_of_eq bM.lt eg9.symm
  have ng9bS := Nat.lt_of_lt_of_eq bS.lt eg9.symm
  replace hs := hs.ext x43
  replace hm := hm.ext x43
  replace bM := bM.ext x43
  replace bS := bS.ext x43
  replace oI := oI.ext x43
  replace oS := oS.ext x43
  replace X := Ext.trans X x43; clear x43
  refine wi_one 7 rfl rfl (by kernel_rfl) (listed' := #[true, true, true, true, true, true, true, true, false, false, false, true, false, false]) rfl ⟨bM, oI⟩ (ow_call ent61 rfl (ret_mono (implNextF_c m _ (iterN m.d (N9 - 1) s) _ hm hz) ?_))
  rintro _ w46 ⟨rfl, x45⟩
  replace hs := hs.ext x45
  replace hm := hm.ext x45
  replace bM := bM.ext x45
  replace bS := bS.ext x45
  replace oI := oI.ext x45
  replace oS := oS.ext x45
  replace b9 := b9.ext x45
  replace X := Ext.trans X x45; clear x45
  refine wi_take 8 rfl (by kernel_rfl) rfl (by kernel_rfl) (listed' := #[true, true, true, true, true, true, true, true, true, false, false, true, false, false]) rfl (fun wq sq => ow_move rfl ⟨rfl, rfl⟩) ?_
  refine wi_take 9 rfl (by kernel_rfl) rfl (by kernel_rfl) (listed' := #[true, true, true, true, true, true, true, true, true, true, false, true, false, false]) rfl (fun wq sq => ow_extract rfl rfl ⟨rfl, rfl⟩) ?_
  refine wi_take 10 rfl (by kernel_rfl) rfl (by kernel_rfl) (listed' := #[true, true, true, true, true, true, true, true, true, true, true, true, false, false]) rfl (fun wq sq => ow_extract rfl rfl ⟨rfl, rfl⟩) ?_
  refine wi_one 12 rfl rfl (by kernel_rfl) (listed' := #[true, true, true, true, true, true, true, true, true, true, true, true, true, false]) rfl ⟨bM, oI⟩ (ow_storeB b9 ti54 rfl rfl rfl rfl rfl rfl ?_)
  intro w48 bL hg47 z49
  replace hs := hs.grown hg47 (by intro g hg; injection hg; omega)
  replace hm := hm.grown hg47 (by intro g hg; injection hg; omega)
  replace bM := bM.grown hg47 (by intro h; injection h; omega)
  replace bS := bS.grown hg47 (by intro h; injection h; omega)
  replace oI := oI.grownBlk hg47 (fun h => by have := UI g9 h; omega)
  replace oS := oS.grownBlk hg47 (fun h => by have := US g9 h; omega)
  replace X := X.grown hg47 X.size (by intro g hg; injection hg; omega)
  clear hg47 b9
  replace bL : Blk _ g9 54 (nextF m.d (iterN m.d (N9 - 1) s)).1.cells := bL
  rw [hnf] at bL
  refine wi_take 13 rfl (by kernel_rfl) rfl (by kernel_rfl) (listed' := #[true, true, true, true, true, true, true, true, true, true, true, true, true, true]) rfl (fun wq sq => ow_assign rfl ⟨rfl, rfl⟩) ?_
  refine wi_done rfl ⟨bM, oI⟩ (fun aj fj => ⟨_, fj, ?_⟩)
  refine c_seqR ?_
  refine ops_cons rfl (ow_loadAB bM ti28 rfl rfl ?_)
  refine ops_cons rfl (ow_fieldAddrB off54_1 rfl rfl ?_)
  refine ops_cons rfl (ow_loadB bS ti2 rfl rfl ?_)
  refine ops_cons rfl (ow_call ent31 rfl (ret_mono (iCycle_c m _ s.mode _ hm hz) ?_))
  rintro _ w51 ⟨rfl, x50⟩
  replace hs := hs.ext x50
  replace hm := hm.ext x50
  replace bM := bM.ext x50
  replace bS := bS.ext x50
  replace oI := oI.ext x50
  replace oS := oS.ext x50
  replace bL := bL.ext x50
  replace X := Ext.trans X x50; clear x50
  refine ops_cons rfl (ow_move rfl ?_)
  refine ops_cons rfl (ow_extract rfl rfl ?_)
  refine ops_cons rfl (ow_extract rfl rfl ?_)
  refine ops_cons rfl (ow_assign rfl ?_)
  refine ops_cons rfl (ow_assign rfl ?_)
  refine ops_nil ?_
  refine c_seqD [false, false, false, false, false, false, false, false, false, false, false, false, false, false, false, false, false, false, false, false, false, false, false, false, false, false, false, false, false, false, false, false, false, false, false, false, false, false, false, false, false, false, false, false, false, false, false, false] mixed (by kernel_rfl) ?_
  refine f_q rfl (fun wq sq => ow_move rfl ⟨rfl, Ext.refl _⟩) ?_
  refine f_qb rfl (fun wq sq => ow_eql rfl rfl ⟨rfl, Ext.refl _⟩) (fun h52 => ?_) (fun h52 => absurd h52 (by exact fun h => h (by rw [hcm])))
  refine f_q rfl (fun wq sq => ow_move rfl ⟨rfl, Ext.refl _⟩) ?_
  refine f_qw rfl rfl rfl (fun wq sq => ow_move rfl ⟨rfl, Ext.refl _⟩) ?_
  refine f_qwb rfl rfl rfl (fun wq sq => ow_eql rfl rfl ⟨rfl, Ext.refl _⟩) (fun h53 => ?_) (fun h53 => absurd h53 (by exact fun h => h (by rw [hnf])))
  refine f_q rfl (fun wq sq => ow_pick rfl rfl ⟨rfl, Ext.refl _⟩) ?_
  refine f_q rfl (fun wq sq => ow_move rfl ⟨rfl, Ext.refl _⟩) ?_
  refine f_qw rfl rfl rfl (fun wq sq => ow_move rfl ⟨rfl, Ext.refl _⟩) ?_
  refine f_qwb rfl rfl rfl (fun wq sq => ow_eql rfl rfl ⟨rfl, Ext.refl _⟩) (fun h54 => ?_) (fun h54 => absurd h54 (by exact fun h => h (by rw [hcf])))
  refine f_q rfl (fun wq sq => ow_pick rfl rfl ⟨rfl, Ext.refl _⟩) ?_
  refine f_q rfl (fun wq sq => ow_move rfl ⟨rfl, Ext.refl _⟩) ?_
  refine f_qw rfl rfl rfl (fun wq sq => ow_move rfl ⟨rfl, Ext.refl _⟩) ?_
  refine f_qw rfl rfl rfl (fun wq sq => ow_len Tryz.underlying72 rfl ⟨rfl, Ext.refl _⟩) ?_
  refine f_qw rfl rfl rfl (fun wq sq => ow_move rfl ⟨rfl, Ext.refl _⟩) ?_
  refine f_qwb rfl rfl rfl (fun wq sq => ow_eql rfl rfl ⟨rfl, Ext.refl _⟩) (fun h55 => ?_) (fun h55 => absurd h55 (by exact fun h => h (by rw [hcm, hlen]; exact hN.2)))
  refine f_q rfl (fun wq sq => ow_pick rfl rfl ⟨rfl, Ext.refl _⟩) ?_
  refine f_q rfl (fun wq sq => ow_move rfl ⟨rfl, Ext.refl _⟩) ?_
  refine f_qw rfl rfl rfl (fun wq sq => ow_move rfl ⟨rfl, Ext.refl _⟩) ?_
  refine f_qw rfl rfl rfl (fun wq sq => ow_indexT ((oI.ext sq)).sl StateI.len rfl el72 rfl rfl rfl h0s rfl ⟨rfl, Ext.refl _⟩) ?_
  refine f_qw rfl rfl rfl (fun wq sq => ow_loadTA ((oI.ext sq)).sl StateI.len h0s ti54 rfl ⟨rfl, Ext.refl _⟩) ?_
  refine f_qw rfl rfl rfl (fun wq sq => ow_loadAB (bS.ext sq) ti54 rfl rfl ⟨rfl, Ext.refl _⟩) ?_
  refine f_qw rfl rfl rfl (fun wq sq => ow_eqlA rfl rfl (by kernel_rfl) (fun w => eqSelf_StateI _ w 9998) ⟨rfl, Ext.refl _⟩) ?_
  refine f_q rfl (fun wq sq => ow_pick rfl rfl ⟨rfl, Ext.refl _⟩) ?_
  refine f_q rfl (fun wq sq => ow_move rfl ⟨rfl, Ext.refl _⟩) ?_
  refine f_qw rfl rfl rfl (fun wq sq => ow_fieldAddrB off54_2 rfl rfl ⟨rfl, Ext.refl _⟩) ?_
  refine f_qw rfl rfl rfl (fun wq sq => ow_loadB (bL.ext sq) ti2 rfl rfl ⟨rfl, Ext.refl _⟩) ?_
  refine f_qw rfl rfl rfl (fun wq sq => ow_fieldAddrB off54_2 rfl rfl ⟨rfl, Ext.refl _⟩) ?_
  refine f_qw rfl rfl rfl (fun wq sq => ow_loadB (bS.ext sq) ti2 rfl rfl ⟨rfl, Ext.refl _⟩) ?_
  refine f_qwb rfl rfl rfl (fun wq sq => ow_eql rfl rfl ⟨rfl, Ext.refl _⟩) (fun h56 => ?_) (fun h56 => absurd h56 (by exact fun h => h rfl))
  refine f_q rfl (fun wq sq => ow_pick rfl rfl ⟨rfl, Ext.refl _⟩) ?_
  refine f_q rfl (fun wq sq => ow_move rfl ⟨rfl, Ext.refl _⟩) ?_
  refine f_qw rfl rfl rfl (fun wq sq => ow_fieldAddrB off54_3 rfl rfl ⟨rfl, Ext.refl _⟩) ?_
  refine f_qw rfl rfl rfl (fun wq sq => ow_loadB (bL.ext sq) ti2 rfl rfl ⟨rfl, Ext.refl _⟩) ?_
  refine f_qw rfl rfl rfl (fun wq sq => ow_fieldAddrB off54_3 rfl rfl ⟨rfl, Ext.refl _⟩) ?_
  refine f_qw rfl rfl rfl (fun wq sq => ow_loadB (bS.ext sq) ti2 rfl rfl ⟨rfl, Ext.refl _⟩) ?_
  refine f_qwb rfl rfl rfl (fun wq sq => ow_eql rfl rfl ⟨rfl, Ext.refl _⟩) (fun h57 => ?_) (fun h57 => absurd h57 (by exact fun h => h rfl))
  refine f_q rfl (fun wq sq => ow_pick rfl rfl ⟨rfl, Ext.refl _⟩) ?_
  refine f_q rfl (fun wq sq => ow_move rfl ⟨rfl, Ext.refl _⟩) ?_
  refine f_qw rfl rfl rfl (fun wq sq => ow_fieldAddrB off54_0 rfl rfl ⟨rfl, Ext.refl _⟩) ?_
  refine f_qw rfl rfl rfl (fun wq sq => ow_loadB (bL.ext sq) ti2 rfl rfl ⟨rfl, Ext.refl _⟩) ?_
  refine f_qw rfl rfl rfl (fun wq sq => ow_fieldAddrB off54_0 rfl rfl ⟨rfl, Ext.refl _⟩) ?_
  refine f_qw rfl rfl rfl (fun wq sq => ow_loadB (bS.ext sq) ti2 rfl rfl ⟨rfl, Ext.refl _⟩) ?_
  refine f_qw rfl rfl rfl (fun wq sq => ow_move rfl ⟨rfl, Ext.refl _⟩) ?_
  refine f_qw rfl rfl rfl (fun wq sq => ow_add rfl rfl (w64 (by rw [hcf]; show _ ≤ s.time + cyc m.ss s.mode ∧ s.time + cyc m.ss s.mode ≤ _; omega)) ⟨rfl, Ext.refl _⟩) ?_
  refine f_qw rfl rfl rfl (fun wq sq => ow_rem rfl rfl (by omega) (m64 (by rw [hcf]; show 0 ≤ s.time + cyc m.ss s.mode; omega)) ⟨rfl, Ext.refl _⟩) ?_
  refine f_qw rfl rfl rfl (fun wq sq => ow_eql rfl rfl ⟨rfl, Ext.refl _⟩) ?_
  refine f_q rfl (fun wq sq => ow_pick rfl rfl ⟨rfl, Ext.refl _⟩) ?_
  refine f_q rfl (fun wq sq => ow_assign rfl ⟨rfl, Ext.refl _⟩) ?_
  refine f_nil (fun w58 sq => ?_)
  have xq := sq
  replace hs := hs.ext xq
  replace hm := hm.ext xq
  replace bM := bM.ext xq
  replace bS := bS.ext xq
  replace oI := oI.ext xq
  replace oS := oS.ext xq
  replace bL := bL.ext xq
  replace X := Ext.trans X xq; clear xq sq
  refine ops_nil ?_
  refine c_ret ?_
  refine fin_ret1 rfl rfl ?_
  · skip
    first
    | exact ⟨rfl, X⟩
    | exact ⟨congrArg Value.bool (decide_eq_true (by rw [hcf])), X⟩
set_option maxRecDepth 100000

theorem fnCyclesOfStates_lifted (os : Os) (started : os.Started) (H : Type) (enc : TypeId × Value → H) :
    ReturnsInHanded {} Tryz.checked os 9 .any (fun w args => (Rows.fnCyclesOfStatesSpec.pre enc Tryz.prog Tryz.f9 Rows.fnCyclesOfStatesRow.domain false w args ∧ laidMetH Tryz.prog Rows.fnCyclesOfStatesRow.laid w) ∧ sizedMet enc Tryz.prog Tryz.f9 (OpenSpec.ofChange Rows.fnCyclesOfStatesSpec) false w args)
      (Rows.fnCyclesOfStatesSpec.post enc Tryz.prog Tryz.f9 false true false false) := by
  refine returnsInHanded_of_change_and (C := Tryz.checked) (X := fun w _ => laidMetH Tryz.prog Rows.fnCyclesOfStatesRow.laid w) (fun _ _ _ hh h => h.of_heap hh) law_own started (by kernel_rfl) Tryz.func9
    (ChangeSpec.witness_shaped (enc := enc) (C := Tryz.checked) (os := os) (X := fun w _ => laidMetH Tryz.prog Rows.fnCyclesOfStatesRow.laid w) false (World.laidAll Tryz.prog os Rows.fnCyclesOfStatesRow.laid) #[.slice none 0 0] 8 (World.laidAll_os _ _ _)
      (World.shaped_of_ZipB (by kernel_rfl) (by kernel_rfl)) (by kernel_rfl) (by kernel_rfl) (by kernel_rfl)
      (by rw [MakeChecks.laidMetH_plain _ _ _ (by kernel_rfl)]; exact laidMet_laidAll _ (by kernel_rfl) (by kernel_rfl))) ?_
  intro W base args ds gs before hval0 hW _ _ hL _
  have hval : ∀ (j : Nat) t v, Tryz.f9.params[j]? = some t → args[j]? = some v → Value.okWide Tryz.prog W .any base t v := hval0
  have hW' := hW
  obtain ⟨p, q, hA0, hV, rfl, hfz, hnd⟩ := hW
  have hA : DataW.TrodAll enc Tryz.prog W 0 (fun _ => true) true Tryz.f9.params.toList args.toList ds p := hA0
  rw [Tryz.params9] at hA hval
  obtain ⟨rfl, rfl⟩ := trodVars_none hV
  obtain ⟨v0, vs0, d0, ds0, p0, q0, hargs, rfl, rfl, h0, r0⟩ := trodAll_cons hA
  obtain ⟨rfl, rfl, rfl⟩ := trodAll_nil r0
  obtain rfl : args = #[v0] := by cases args; simp_all
  obtain ⟨a0, l0, k0, rfl⟩ := okWide_slice Tryz.underlying22 (hval 0 22 v0 rfl rfl)
  obtain ⟨m0, x0, t0⟩ := cell_of rfl h0
  obtain ⟨Abs, bs, cbs, ebs, sbs, wbs, lbs⟩ := open_sl (s := 1) Tryz.underlying22 (by kernel_rfl) eB_len (by omega) (fun _ _ _ h => open_u8 Tryz.underlying5 h) t0
  rw [ebs]
  refine Calls.mono (law_FnCyclesOfStates _ _ _ bs W sbs lbs) fun e W' h => ?_
  cases e <;> first | exact h.elim | skip
  obtain ⟨rfl, hb⟩ := h
  exact ⟨_, rfl, law_post law_laid (by kernel_rfl) rfl rfl Tryz.underlying4 (by rw [← ebs]; exact hW') rfl hb⟩

theorem fnCyclesOfStates_holds : Rows.FnCyclesOfStatesSaid :=
  OpenClaim.holds_of_wide 9 Tryz.f9 rfl rfl rfl rfl rfl rfl rfl ⟨rfl, rfl, rfl, rfl, rfl⟩ rfl rfl rfl rfl rfl (by kernel_rfl) Tryz.func9 (by kernel_rfl)
    (of_decide_eq_true (by kernel_rfl)) (by unfold Func.isWrapper; rw [if_neg (of_decide_eq_false (by kernel_rfl))]; exact ⟨rfl, rfl⟩)
    (fun os started H enc _ => fnCyclesOfStates_lifted os started H enc)

theorem fnCyclesOfStates_card : Rows.FnCyclesOfStatesCardSaid :=
  Claim7.holds_tied_plain_at .later [] [.data, .pinned] true (true, "a3d70ef78196423dfcdef9bd2e3aaa75f1e6bd02bbefc60196699ec7a33f8f22") false fnCyclesOfStates_holds (fun _ h => by cases h) (by kernel_rfl) (fun _ h => by cases h) fnCyclesOfStates_row_tie rfl ⟨rfl, rfl⟩ law_main rfl
    (fun f fn hf hfn => by
      obtain rfl : f = 9 := Option.some.inj ((show Tryz.prog.funcNamed "loop.example/g00833/laws.FnCyclesOfStates" = some 9 by kernel_rfl).symm.trans hf) |>.symm
      obtain rfl : fn = Tryz.f9 := (Option.some.inj (Tryz.func9.symm.trans hfn)).symm
      exact ⟨law_looks, fun j t ht => by
        rw [Tryz.params9] at ht
        have hm : t ∈ [22] := by simpa using Array.mem_of_getElem? ht
        have hall : ([22].all fun u => !Tryz.prog.wantsStandIn u) = true := by kernel_rfl
        exact (show Tryz.prog.wantsStandIn t = false by simpa using List.all_eq_true.1 hall t hm)⟩)
    (by kernel_rfl)
end Go.Proofs.YtojgfbbdjobdnaaGreatDoor
