/- The law FnSlotAt answers true for all arguments that its row admits, and leaves what was there before as it was. No condition. -/
import Derived.Test.YtdoibplhbdkapaaGreatDoorCDP13
import Derived.Test.YtdoibplhbdkapaaGreatDoorCDP21
import Derived.Test.YtdoibplhbdkapaaGreatDoorCDP22
import Derived.Test.YtdoibplhbdkapaaGreatDoorCDP20
import Derived.Test.YtdoibplhbdkapaaGreatDoorCDP3
import Derived.Test.YtdoibplhbdkapaaGreatDoorTie
import Derived.Test.YtdoibplhbdkapaaGreatDoorCards
import Derived.Lay
import Derived.LaidOnce
import Derived.SevenTiedAt
/- The law FnSlotAt answers true for all arguments that its row admits, and leaves what was there before as it was. No condition. -/
namespace Go.Proofs.YtdoibplhbdkapaaGreatDoor
open Go.ChangeShapes Go.WideShapes Go.ChangeAt Go.RowKit
set_option linter.unusedVariables false
set_option linter.unusedSimpArgs false
set_option maxRecDepth 20000
set_option maxHeartbeats 1000000 in
theorem law_FnSlotAt (A : Option Addr) (B c : Nat) (bs : List UInt8) (w : World) (hs : Sl B w A (bs.flatMap eB)) (hm0 : bs.length ≤ 9223372036854775807) :
    Calls Tryz.prog 7 #[.slice A bs.length c] w (Ret fun v w' => v = .bool true ∧ Ext w w') := by
  have Bhs := hs.1
  have X := Ext.refl w
  refine calls_of (args := [.slice A bs.length c]) Tryz.func7 Tryz.ntmps7 rfl rfl ?_
  refine c_seqR ?_
  refine ops_cons rfl (ow_assign rfl ?_)
  refine ops_nil ?_
  refine c_seq ?_
  refine c_seqR ?_
  refine ops_cons rfl (ow_move rfl ?_)
  refine ops_cons rfl (ow_callB ent11 rfl (big_c _ _ _ _) (fun w2 hbig x1 => ?_) (fun w2 hbig x1 => ?_))
  replace hs := hs.ext x1
  replace X := Ext.trans X x1; clear x1
  refine ops_nil ?_
  refine c_true rfl ?_
  refine c_seqR ?_
  refine ops_cons rfl (ow_assign rfl ?_)
  refine ops_nil ?_
  refine c_ret ?_
  refine tq_r ?_
  refine fin_ret1 rfl rfl ?_
  · skip
    first
    | exact ⟨rfl, X⟩
    | exact ⟨congrArg Value.bool (decide_eq_true (by rw [hcm]; have := hsa.2.1; show (n : Int) = _; omega)), X⟩
  replace hs := hs.ext x1
  replace X := Ext.trans X x1; clear x1
  have hb2 := of_decide_eq_false hbig
  have hbl : bs.length ≤ 1048576 := by omega
  refine ops_nil ?_
  refine c_false rfl ?_
  refine c_skip ?_
  refine tq_n ?_
  refine c_seqR ?_
  refine ops_cons rfl (ow_move rfl ?_)
  refine ops_cons rfl (ow_call ent44 rfl (ret_mono (drawSA_c _ _ _ bs _ hs hbl) ?_))
  rintro _ wD ⟨m, mode, time, rfl, hdr, hmF, xD⟩
  replace hs := hs.ext xD
  replace X := Ext.trans X xD; clear xD
  have hm := hmF.med
  have hz := hdr.1.1
  have hti := hdr.2
  refine ops_cons rfl (ow_move rfl ?_)
  refine ops_cons rfl (ow_extract rfl rfl ?_)
  refine ops_cons rfl (ow_extract rfl rfl ?_)
  refine ops_cons rfl (ow_extract rfl rfl ?_)
  refine ops_cons rfl (ow_alloc ti28 ?_)
  intro gM w4 egM b0 x3 zgM
  have lgM : w.heap.size ≤ gM := Nat.le_trans X.size (Nat.le_of_eq egM.symm)
  have pgMhs := Nat.le_trans hs.1 (Nat.le_of_eq egM.symm)
  have pgMhm := Nat.le_trans hm.1 (Nat.le_of_eq egM.symm)
  replace hs := hs.ext x3
  replace hm := hm.ext x3
  replace X := Ext.trans X x3; clear x3
  refine ops_cons rfl (ow_storeB b0 ti28 rfl rfl rfl rfl rfl rfl ?_)
  intro w6 bM hg5 z7
  replace hs := hs.grown hg5 (by intro g hg; injection hg; omega)
  replace hm := hm.grown hg5 (by intro g hg; injection hg; omega)
  replace X := X.grown hg5 X.size (by intro g hg; injection hg; omega)
  clear hg5 b0
  refine ops_cons rfl (ow_assign rfl ?_)
  refine ops_cons rfl (ow_assign rfl ?_)
  refine ops_nil ?_
  refine c_seqR ?_
  refine ops_cons rfl (ow_loadAB bM ti28 rfl rfl ?_)
  refine ops_cons rfl (ow_move rfl ?_)
  refine ops_cons rfl (ow_move rfl ?_)
  refine ops_cons rfl (ow_call ent45 rfl (ret_mono (iSlotAt_c m _ mode time _ hm hz (by omega)) ?_))
  rintro _ w9 ⟨rfl, x8⟩
  replace hs := hs.ext x8
  replace hm := hm.ext x8
  replace bM := bM.ext x8
  replace X := Ext.trans X x8; clear x8
  refine ops_cons rfl (ow_move rfl ?_)
  refine ops_cons rfl (ow_extract rfl rfl ?_)
  refine ops_cons rfl (ow_extract rfl rfl ?_)
  refine ops_cons rfl (ow_extract rfl rfl ?_)
  refine ops_cons rfl (ow_assign rfl ?_)
  refine ops_cons rfl (ow_assign rfl ?_)
  refine ops_cons rfl (ow_assign rfl ?_)
  refine ops_nil ?_
  refine c_seqR ?_
  refine ops_cons rfl (ow_loadAB bM ti28 rfl rfl ?_)
  refine ops_cons rfl (ow_move rfl ?_)
  refine ops_cons rfl (ow_move rfl ?_)
  refine ops_cons rfl (ow_call ent46 rfl (ret_mono (sSlotAt_c m _ mode time _ hm hz) ?_))
  rintro _ w11 ⟨rfl, x10⟩
  replace hs := hs.ext x10
  replace hm := hm.ext x10
  replace bM := bM.ext x10
  replace X := Ext.trans X x10; clear x10
  refine ops_cons rfl (ow_move rfl ?_)
  refine ops_cons rfl (ow_extract rfl rfl ?_)
  refine ops_cons rfl (ow_extract rfl rfl ?_)
  refine ops_cons rfl (ow_extract rfl rfl ?_)
  refine ops_cons rfl (ow_assign rfl ?_)
  refine ops_cons rfl (ow_assign rfl ?_)
  refine ops_cons rfl (ow_assign rfl ?_)
  refine ops_nil ?_
  refine c_seqR ?_
  refine ops_cons rfl (ow_move rfl ?_)
  refine ops_cons rfl (ow_call ent47 rfl (ret_mono (drawST_c _ _ _ bs _ hs hbl) ?_))
  rintro _ wE ⟨y, my, ny, rfl, hdr2, hyF, xE⟩
  replace hs := hs.ext xE
  replace hm := hm.ext xE
  replace bM := bM.ext xE
  replace X := Ext.trans X xE; clear xE
  have hy := hyF.med
  have hzy := hdr2.1
  have hlS := sendT_len y my ny
  refine ops_cons rfl (ow_move rfl ?_)
  refine ops_cons rfl (ow_extract rfl rfl ?_)
  refine ops_cons rfl (ow_extract rfl rfl ?_)
  refine ops_cons rfl (ow_extract rfl rfl ?_)
  refine ops_cons rfl (ow_alloc ti28 ?_)
  intro gY w13 egY b1 x12 zgY
  have lgY : w.heap.size ≤ gY := Nat.le_trans X.size (Nat.le_of_eq egY.symm)
  have pgYhs := Nat.le_trans hs.1 (Nat.le_of_eq egY.symm)
  have pgYhm := Nat.le_trans hm.1 (Nat.le_of_eq egY.symm)
  have ngYbM := Nat.lt_of_lt_of_eq bM.lt egY.symm
  have pgYhy := Nat.le_trans hy.1 (Nat.le_of_eq egY.symm)
  replace hs := hs.ext x12
  replace hm := hm.ext x12
  replace bM := bM.ext x12
  replace hy := hy.ext x12
  replace X := Ext.trans X x12; clear x12
  refine ops_cons rfl (ow_storeB b1 ti28 rfl rfl rfl rfl rfl rfl ?_)
  intro w15 bY hg14 z16
  replace hs := hs.grown hg14 (by intro g hg; injection hg; omega)
  replace hm := hm.grown hg14 (by intro g hg; injection hg; omega)
  replace bM := bM.grown hg14 (by intro h; injection h; omega)
  replace hy := hy.grown hg14 (by intro g hg; injection hg; omega)
  replace X := X.grown hg14 X.size (by intro g hg; injection hg; omega)
  clear hg14 b1
  refine ops_cons rfl (ow_assign rfl ?_)
  refine ops_cons rfl (ow_assign rfl ?_)
  refine ops_nil ?_
  refine c_seqR ?_
  refine ops_cons rfl (ow_loadAB bY ti28 rfl rfl ?_)
  refine ops_cons rfl (ow_move rfl ?_)
  refine ops_cons rfl (ow_move rfl ?_)
  refine ops_cons rfl (ow_call ent48 rfl (ret_mono (iSend_c y _ my ny _ hy hzy) ?_))
  rintro _ w18 ⟨A19, c20, rfl, oI, x17⟩
  replace oI := Own.low oI X.size
  replace hs := hs.ext x17
  replace hm := hm.ext x17
  replace bM := bM.ext x17
  replace hy := hy.ext x17
  replace bY := bY.ext x17
  replace X := Ext.trans X x17; clear x17
  refine ops_cons rfl (ow_move rfl ?_)
  refine ops_cons rfl (ow_extract rfl rfl ?_)
  refine ops_cons rfl (ow_extract rfl rfl ?_)
  refine ops_cons rfl (ow_assign rfl ?_)
  refine ops_cons rfl (ow_assign rfl ?_)
  refine ops_nil ?_
  refine c_seqR ?_
  refine ops_cons rfl (ow_loadAB bY ti28 rfl rfl ?_)
  refine ops_cons rfl (ow_move rfl ?_)
  refine ops_cons rfl (ow_move rfl ?_)
  refine ops_cons rfl (ow_call ent49 rfl (ret_mono (sSend_c y _ my ny _ hy hzy) ?_))
  rintro _ w22 ⟨A23, c24, rfl, oS, x21⟩
  replace oS := Own.low oS X.size
  replace hs := hs.ext x21
  replace hm := hm.ext x21
  replace bM := bM.ext x21
  replace hy := hy.ext x21
  replace bY := bY.ext x21
  replace oI := oI.ext x21
  replace X := Ext.trans X x21; clear x21
  refine ops_cons rfl (ow_move rfl ?_)
  refine ops_cons rfl (ow_extract rfl rfl ?_)
  refine ops_cons rfl (ow_extract rfl rfl ?_)
  refine ops_cons rfl (ow_assign rfl ?_)
  refine ops_cons rfl (ow_assign rfl ?_)
  refine ops_nil ?_
  refine c_seq ?_
  refine c_seqR ?_
  refine ops_cons rfl (ow_move rfl ?_)
  refine ops_cons rfl (ow_move rfl ?_)
  refine ops_cons rfl (ow_neq2 rfl rfl (fun h25 => absurd h25 (by simp)) (fun h25 => ?_))
  refine ops_cons rfl (ow_move rfl ?_)
  refine ops_want rfl rfl rfl (ow_move rfl ?_)
  refine ops_want rfl rfl rfl (ow_move rfl ?_)
  refine ops_want rfl rfl rfl (ow_neq2 rfl rfl (fun h26 => absurd h26 (by simp)) (fun h26 => ?_))
  refine ops_cons rfl (ow_pick rfl rfl ?_)
  refine ops_cons rfl (ow_move rfl ?_)
  refine ops_want rfl rfl rfl (ow_move rfl ?_)
  refine ops_want rfl rfl rfl (ow_move rfl ?_)
  refine ops_want rfl rfl rfl (ow_neq2 rfl rfl (fun h27 => absurd h27 (by simp)) (fun h27 => ?_))
  refine ops_cons rfl (ow_pick rfl rfl ?_)
  refine ops_cons rfl (ow_move rfl ?_)
  refine ops_want rfl rfl rfl (ow_move rfl ?_)
  refine ops_want rfl rfl rfl (ow_move rfl ?_)
  refine ops_want rfl rfl rfl (ow_neq2 rfl rfl (fun h28 => absurd h28 (by simp)) (fun h28 => ?_))
  refine ops_cons rfl (ow_pick rfl rfl ?_)
  refine ops_cons rfl (ow_move rfl ?_)
  refine ops_want rfl rfl rfl (ow_move rfl ?_)
  refine ops_want rfl rfl rfl (ow_move rfl ?_)
  refine ops_want rfl rfl rfl (ow_call ent17 rfl (ret_mono (likeInts_c _ _ _ _ _ _ _ _ (oI).sl (oS).sl hlS) ?_))
  rintro _ w30 ⟨rfl, x29⟩
  replace hs := hs.ext x29
  replace hm := hm.ext x29
  replace bM := bM.ext x29
  replace hy := hy.ext x29
  replace bY := bY.ext x29
  replace oI := oI.ext x29
  replace oS := oS.ext x29
  replace X := Ext.trans X x29; clear x29
  refine ops_want rfl rfl rfl (ow_not rfl ?_)
  refine ops_cons rfl (ow_pick rfl rfl ?_)
  refine ops_nil ?_
  refine c_false rfl ?_
  refine c_skip ?_
  refine tq_n ?_
  refine c_seq ?_
  refine c_seqR ?_
  refine ops_cons rfl (ow_move rfl ?_)
  refine ops_cons rfl (ow_neq2 rfl rfl (fun hC => ?_) (fun hC => ?_))
  refine ops_nil ?_
  refine c_true rfl ?_
  refine c_seqR ?_
  refine ops_cons rfl (ow_assign rfl ?_)
  refine ops_nil ?_
  refine c_ret ?_
  refine tq_r ?_
  refine fin_ret1 rfl rfl ?_
  · skip
    first
    | exact ⟨rfl, X⟩
    | exact ⟨congrArg Value.bool (decide_eq_true (by rw [hcm]; have := hsa.2.1; show (n : Int) = _; omega)), X⟩
  have hmC : modeC m.d mode = 0 := by
    by_cases h : modeC m.d mode = 0
    · exact h
    · rw [slotAtF, if_neg h] at hC; exact absurd h hC
  obtain ⟨hM1, hM2⟩ := modeC_zero.1 hmC
  have hW := isMedl_iff.1 hM1
  have hsa := sends_all hmC
  obtain ⟨k, x0, hk, hx0⟩ := mode_get hM2
  have hgo := of_get hx0
  have hcm : cycM (m.ms.map (·.m)) mode = (roundsOf m.d mode * slotsOf m.d mode, 0) := by
    have hT : isMT (m.ms.map (·.m)) = true := hW.mt
    have hi2 : inB mode 0 (((m.ms.map (·.m)).length : Int) - 1) = true := hM2
    have hx1 : (m.ms.map (·.m))[k]? = some x0 := hx0
    rw [cycM, if_pos hT, if_pos hi2, hk, Int.toNat_natCast, hx1, hgo.1, hgo.2.1]
  refine ops_nil ?_
  refine c_false rfl ?_
  refine c_skip ?_
  refine tq_n ?_
  refine c_seqR ?_
  obtain ⟨hBM, hm⟩ : ∃ B9, Med B9 _ m := ⟨_, hm⟩
  have htot : sumL (fun x => (sendT m.d mode x.id).1.length) m.ns ≤ 128 := by have := hsa.2.1; omega
  refine ops_cons rfl (ow_assign rfl ?_)
  refine ops_nil ?_
  refine c_seq ?_
  refine c_seqR ?_
  refine ops_cons rfl (ow_assign rfl ?_)
  refine ops_nil ?_
  refine c_block ?_
  refine c_loop (G := Nat × Nat) (fun ⟨i, n⟩ => [(3, .pointer (some ⟨gM, 0, none⟩)), (4, .int .i64 mode), (19, .int .i64 (n : Nat)), (20, .int .i64 (i : Nat))]) (fun ⟨i, n⟩ wr => i ≤ m.ns.length ∧ n + sumL (fun x => (sendT m.d mode x.id).1.length) (m.ns.drop i) = sumL (fun x => (sendT m.d mode x.id).1.length) m.ns ∧ Sl B wr A (bs.flatMap eB) ∧ Med hBM wr m ∧ Blk wr gM 28 m.cells ∧ Ext w wr) (fun ⟨i, n⟩ => m.ns.length - i) (0, 0) (.cons rfl (.cons rfl (.cons rfl (.cons rfl (.nil _))))) ?_ ?_
  · exact ⟨by omega, (Nat.zero_add _), hs, hm, bM, X⟩
  clear hs hm bM hy bY oI oS
  clear X
  rintro ⟨i, n⟩ wr ⟨hi0, hsum, hs, hm, bM, X⟩
  refine c_seq ?_
  refine c_seqR ?_
  refine ops_cons rfl (ow_move rfl ?_)
  refine ops_cons rfl (ow_fieldAddrB off28_1 rfl rfl ?_)
  refine ops_cons rfl (ow_loadB bM ti24 rfl rfl ?_)
  refine ops_cons rfl (ow_len Tryz.underlying24 rfl ?_)
  refine ops_cons rfl (ow_lss2 rfl rfl (fun hi => ?_) (fun hi => ?_))
  have hln9 := hz.ln
  obtain ⟨x, hx, dx⟩ := drop_at' hi
  have hs2 := hsum
  rw [dx, sumL] at hs2
  refine ops_nil ?_
  refine c_true rfl ?_
  refine c_skip ?_
  refine tq_n ?_
  refine c_seq ?_
  refine c_block ?_
  refine c_seqD [false, false, false, false, false, false, false, false, true, false, false, false, false, false] mixed (by kernel_rfl) ?_
  refine f_q rfl (fun wq sq => ow_loadAB (bM.ext sq) ti28 rfl rfl ⟨rfl, Ext.refl _⟩) ?_
  refine f_q rfl (fun wq sq => ow_move rfl ⟨rfl, Ext.refl _⟩) ?_
  refine f_q rfl (fun wq sq => ow_fieldAddrB off28_1 rfl rfl ⟨rfl, Ext.refl _⟩) ?_
  refine f_q rfl (fun wq sq => ow_loadB (bM.ext sq) ti24 rfl rfl ⟨rfl, Ext.refl _⟩) ?_
  refine f_q rfl (fun wq sq => ow_move rfl ⟨rfl, Ext.refl _⟩) ?_
  refine f_q rfl (fun wq sq => ow_indexT ((hm.ext sq)).sn NodeI.len rfl el24 rfl rfl rfl hx rfl ⟨rfl, Ext.refl _⟩) ?_
  refine f_q rfl (fun wq sq => ow_fieldAddr off59_0 rfl ⟨rfl, Ext.refl _⟩) ?_
  refine f_q rfl (fun wq sq => ow_loadTF ((hm.ext sq)).sn NodeI.len hx ti2 rfl rfl rfl ⟨rfl, Ext.refl _⟩) ?_
  refine f_op (fun p : Option Addr × Nat => Value.tuple #[.slice p.1 (sendT m.d mode x.id).1.length p.2, (.int .i64 (sendT m.d mode x.id).2)]) (fun p wz => Own wz w.heap.size 2 1 p.1 (sendT m.d mode x.id).1.length p.2 ((sendT m.d mode x.id).1.flatMap eI)) (none, 0) rfl ⟨inj_slt, fun _ _ _ h k => h.ext k, fun wq sq => ow_call ent48 rfl (ret_mono (iSend_c m _ mode x.id _ (hm.ext sq) hz) (fun v w' h => by obtain ⟨A, c, rfl, ho, hx⟩ := h; exact ⟨(A, c), rfl, Own.low ho (Nat.le_trans X.size (sq).size), hx⟩))⟩ ?_
  rintro ⟨A31, c32⟩
  refine f_q rfl (fun wq sq => ow_move rfl ⟨rfl, Ext.refl _⟩) ?_
  refine f_q rfl (fun wq sq => ow_extract rfl rfl ⟨rfl, Ext.refl _⟩) ?_
  refine f_q rfl (fun wq sq => ow_extract rfl rfl ⟨rfl, Ext.refl _⟩) ?_
  refine f_q rfl (fun wq sq => ow_assign rfl ⟨rfl, Ext.refl _⟩) ?_
  refine f_q rfl (fun wq sq => ow_assign rfl ⟨rfl, Ext.refl _⟩) ?_
  refine f_nil (fun w33 sq => ?_)
  have xq := sq.1
  have oT := sq.2
  replace hs := hs.ext xq
  replace hm := hm.ext xq
  replace bM := bM.ext xq
  replace X := Ext.trans X xq; clear xq sq
  refine ops_nil ?_
  refine c_seq ?_
  refine c_seqR ?_
  refine ops_cons rfl (ow_move rfl ?_)
  refine ops_cons rfl (ow_neq2 rfl rfl (fun h34 => absurd h34 (by exact fun h => h (hsa.1 x (List.mem_of_getElem? hx)))) (fun h34 => ?_))
  refine ops_nil ?_
  refine c_false rfl ?_
  refine c_skip ?_
  refine tq_n ?_
  refine c_region ?_
  refine ops_cons rfl (ow_move rfl ?_)
  refine ops_cons rfl (ow_move rfl ?_)
  refine ops_cons rfl (ow_len Tryz.underlying30 rfl ?_)
  refine ops_cons rfl (ow_add rfl rfl (show IntKind.i64.wrap _ = ((n + (sendT m.d mode x.id).1.length : Nat) : Int) by rw [w64 (by omega)]; omega) ?_)
  refine ops_cons rfl (ow_assign rfl ?_)
  refine ops_nil ?_
  refine bq_n ?_
  refine tq_n ?_
  refine c_region ?_
  refine ops_cons rfl (ow_move rfl ?_)
  refine ops_cons rfl (ow_add rfl rfl (w64 (by omega)) ?_)
  refine ops_cons rfl (ow_assign rfl ?_)
  refine ops_nil ?_
  refine tq_n ⟨(i + 1, n + (sendT m.d mode x.id).1.length), (.cons rfl (.cons rfl (.cons rfl (.cons rfl (.nil _))))), ?_, ?_⟩
  · exact ⟨by omega, (by omega), hs, hm, bM, X⟩
  · first | omega | (dsimp only; omega)
  rw [drop_end hi, sumL] at hsum
  refine ops_nil ?_
  refine c_false rfl ?_
  refine c_exit ?_
  refine tq_e ?_
  refine tq_e ?_
  refine bq_e ?_
  refine tq_n ?_
  refine c_seqR ?_
  refine ops_cons rfl (ow_fieldAddrB off28_2 rfl rfl ?_)
  refine ops_cons rfl (ow_loadB bM ti25 rfl rfl ?_)
  refine ops_cons rfl (ow_move rfl ?_)
  refine ops_cons rfl (ow_call ent50 rfl (ret_mono (iCyc_c _ _ _ _ m.ms mode _ hm.sm hm.sx hz.lm hz.lx) ?_))
  rintro _ w36 ⟨rfl, x35⟩
  replace hs := hs.ext x35
  replace hm := hm.ext x35
  replace bM := bM.ext x35
  replace X := Ext.trans X x35; clear x35
  refine ops_cons rfl (ow_move rfl ?_)
  refine ops_cons rfl (ow_extract rfl rfl ?_)
  refine ops_cons rfl (ow_extract rfl rfl ?_)
  refine ops_cons rfl (ow_assign rfl ?_)
  refine ops_cons rfl (ow_assign rfl ?_)
  refine ops_nil ?_
  refine c_seqR ?_
  refine ops_cons rfl (ow_move rfl ?_)
  refine ops_cons rfl (ow_eql2 rfl rfl (fun h37 => ?_) (fun h37 => absurd h37 (by exact fun h => h (by rw [hcm]))))
  refine ops_cons rfl (ow_move rfl ?_)
  refine ops_want rfl rfl rfl (ow_move rfl ?_)
  refine ops_want rfl rfl rfl (ow_move rfl ?_)
  refine ops_want rfl rfl rfl (ow_eql rfl rfl ?_)
  refine ops_cons rfl (ow_pick rfl rfl ?_)
  refine ops_cons rfl (ow_assign rfl ?_)
  refine ops_nil ?_
  refine c_ret ?_
  refine fin_ret1 rfl rfl ?_
  · skip
    first
    | exact ⟨rfl, X⟩
    | exact ⟨congrArg Value.bool (decide_eq_true (by rw [hcm]; have := hsa.2.1; show (n : Int) = _; omega)), X⟩
set_option maxRecDepth 100000

theorem fnSlotAt_lifted (os : Os) (started : os.Started) (H : Type) (enc : TypeId × Value → H) :
    ReturnsInHanded {} Tryz.checked os 7 .any (fun w args => (Rows.fnSlotAtSpec.pre enc Tryz.prog Tryz.f7 Rows.fnSlotAtRow.domain false w args ∧ laidMetH Tryz.prog Rows.fnSlotAtRow.laid w) ∧ sizedMet enc Tryz.prog Tryz.f7 (OpenSpec.ofChange Rows.fnSlotAtSpec) false w args)
      (Rows.fnSlotAtSpec.post enc Tryz.prog Tryz.f7 false true false false) := by
  refine returnsInHanded_of_change_and (C := Tryz.checked) (X := fun w _ => laidMetH Tryz.prog Rows.fnSlotAtRow.laid w) (fun _ _ _ hh h => h.of_heap hh) law_own started (by kernel_rfl) Tryz.func7
    (ChangeSpec.witness_shaped (enc := enc) (C := Tryz.checked) (os := os) (X := fun w _ => laidMetH Tryz.prog Rows.fnSlotAtRow.laid w) false (World.laidAll Tryz.prog os Rows.fnSlotAtRow.laid) #[.slice none 0 0] 8 (World.laidAll_os _ _ _)
      (World.shaped_of_ZipB (by kernel_rfl) (by kernel_rfl)) (by kernel_rfl) (by kernel_rfl) (by kernel_rfl)
      (by rw [MakeChecks.laidMetH_plain _ _ _ (by kernel_rfl)]; exact laidMet_laidAll _ (by kernel_rfl) (by kernel_rfl))) ?_
  intro W base args ds gs before hval0 hW _ _ hL _
  have hval : ∀ (j : Nat) t v, Tryz.f7.params[j]? = some t → args[j]? = some v → Value.okWide Tryz.prog W .any base t v := hval0
  have hW' := hW
  obtain ⟨p, q, hA0, hV, rfl, hfz, hnd⟩ := hW
  have hA : DataW.TrodAll enc Tryz.prog W 0 (fun _ => true) true Tryz.f7.params.toList args.toList ds p := hA0
  rw [Tryz.params7] at hA hval
  obtain ⟨rfl, rfl⟩ := trodVars_none hV
  obtain ⟨v0, vs0, d0, ds0, p0, q0, hargs, rfl, rfl, h0, r0⟩ := trodAll_cons hA
  obtain ⟨rfl, rfl, rfl⟩ := trodAll_nil r0
  obtain rfl : args = #[v0] := by cases args; simp_all
  obtain ⟨a0, l0, k0, rfl⟩ := okWide_slice Tryz.underlying22 (hval 0 22 v0 rfl rfl)
  obtain ⟨m0, x0, t0⟩ := cell_of rfl h0
  obtain ⟨Abs, bs, cbs, ebs, sbs, wbs, lbs⟩ := open_sl (s := 1) Tryz.underlying22 (by kernel_rfl) eB_len (by omega) (fun _ _ _ h => open_u8 Tryz.underlying5 h) t0
  rw [ebs]
  refine Calls.mono (law_FnSlotAt _ _ _ bs W sbs lbs) fun e W' h => ?_
  cases e <;> first | exact h.elim | skip
  obtain ⟨rfl, hb⟩ := h
  exact ⟨_, rfl, law_post law_laid (by kernel_rfl) rfl rfl Tryz.underlying4 (by rw [← ebs]; exact hW') rfl hb⟩

theorem fnSlotAt_holds : Rows.FnSlotAtSaid :=
  OpenClaim.holds_of_wide 7 Tryz.f7 rfl rfl rfl rfl rfl rfl rfl ⟨rfl, rfl, rfl, rfl, rfl⟩ rfl rfl rfl rfl rfl (by kernel_rfl) Tryz.func7 (by kernel_rfl)
    (of_decide_eq_true (by kernel_rfl)) (by unfold Func.isWrapper; rw [if_neg (of_decide_eq_false (by kernel_rfl))]; exact ⟨rfl, rfl⟩)
    (fun os started H enc _ => fnSlotAt_lifted os started H enc)

theorem fnSlotAt_card : Rows.FnSlotAtCardSaid :=
  Claim7.holds_tied_plain_at .later [] [.data, .pinned] true (true, "9d3b8bcd3f057db7ce87d49064bbf274986517e6a2e4614acdb81aa3eaa2e189") false fnSlotAt_holds (fun _ h => by cases h) (by kernel_rfl) (fun _ h => by cases h) fnSlotAt_row_tie rfl ⟨rfl, rfl⟩ law_main rfl
    (fun f fn hf hfn => by
      obtain rfl : f = 7 := Option.some.inj ((show Tryz.prog.funcNamed "loop.example/g00833/laws.FnSlotAt" = some 7 by kernel_rfl).symm.trans hf) |>.symm
      obtain rfl : fn = Tryz.f7 := (Option.some.inj (Tryz.func7.symm.trans hfn)).symm
      exact ⟨law_looks, fun j t ht => by
        rw [Tryz.params7] at ht
        have hm : t ∈ [22] := by simpa using Array.mem_of_getElem? ht
        have hall : ([22].all fun u => !Tryz.prog.wantsStandIn u) = true := by kernel_rfl
        exact (show Tryz.prog.wantsStandIn t = false by simpa using List.all_eq_true.1 hall t hm)⟩)
    (by kernel_rfl)
end Go.Proofs.YtdoibplhbdkapaaGreatDoor
