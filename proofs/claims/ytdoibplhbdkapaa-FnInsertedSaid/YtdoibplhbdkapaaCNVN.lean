/- The law FnInserted answers true for all arguments that its row admits, and leaves what was there before as it was. No condition. -/
import Derived.Test.YtdoibplhbdkapaaCNP6
import Derived.Test.YtdoibplhbdkapaaCNP8
import Derived.Test.YtdoibplhbdkapaaCNP9
/- The law FnInserted answers true for all arguments that its row admits, and leaves what was there before as it was. No condition. -/
namespace Go.Proofs.Ytdoibplhbdkapaa
open Go.ChangeShapes Go.WideShapes Go.ChangeAt Go.RowKit
set_option linter.unusedVariables false
set_option linter.unusedSimpArgs false
set_option maxRecDepth 20000
theorem idxS_count (n : Int) : ∀ (xs : List SlotI) (k : Nat), (idxS n k xs).length = xs.countP fun y => decide (y.desc.node = n)
  | [], _ => rfl
  | y :: r, k => by
    have h := idxS_count n r (k + 1)
    rw [idxS, List.countP_cons]
    by_cases h1 : y.desc.node = n
    · rw [if_pos h1, List.length_cons, h]; simp [h1]
    · rw [if_neg h1, h]; simp [h1]
theorem ins_nodes {xs : List SlotI} {x : SlotI} (h : findS (hitS x.mode x.round x.slot) 0 xs < 0) : (idxS x.desc.node 0 (ltL xs x ++ x :: gtL xs x)).length = (idxS x.desc.node 0 xs).length + 1 := by
  rw [idxS_count, idxS_count, part_count _ xs (no_hit h), List.countP_append, List.countP_cons]
  simp; omega
theorem iFindIns_c (A : Option Addr) (B c : Nat) (ys : List SlotI) (x : SlotI) (w : World) (hs : Sl B w A (ys.flatMap SlotI.cells)) (hl : ys.length ≤ 1048576) (hf : findD ys x.mode x.round x.slot = (x.desc, 0)) :
    Calls Try.prog 32 #[.slice A ys.length c, .int .i64 x.mode, .int .i64 x.round, .int .i64 x.slot] w (Ret fun v w' => v = .tuple #[.agg x.desc.cells.toArray, .int .i64 0] ∧ Ext w w') := by
  have h := iFindSlot_c A B c ys x.mode x.round x.slot w hs hl
  rw [hf] at h
  exact h
theorem law_FnInserted (A : Option Addr) (B c : Nat) (bs : List UInt8) (w : World) (hs : Sl B w A (bs.flatMap eB)) (hm : bs.length ≤ 9223372036854775807) :
    Calls Try.prog 6 #[.slice A bs.length c] w (Ret fun v w' => v = .bool true ∧ Ext w w') := by
  have Bhs := hs.1
  have X := Ext.refl w
  refine calls_of (args := [.slice A bs.length c]) Try.func6 Try.ntmps6 rfl rfl ?_
  refine c_seqR ?_
  refine ops_cons rfl (ow_assign rfl ?_)
  refine ops_nil ?_
  refine c_seq ?_
  refine c_seqR ?_
  refine ops_cons rfl (ow_move rfl ?_)
  refine ops_cons rfl (ow_callB ent26 rfl (big_c _ _ _ _) (fun w2 hbig x1 => ?_) (fun w2 hbig x1 => ?_))
  replace hs := hs.ext x1
  replace X := Ext.trans X x1; clear x1
  refine ops_nil ?_
  refine c_true rfl ?_
  refine c_seqR ?_
  refine ops_cons rfl (ow_assign rfl ?_)
  refine ops_nil ?_
  refine c_ret ?_
  refine tq_r ?_
  refine fin_ret1 rfl rfl ?_
  · skip
    first
    | exact ⟨rfl, X⟩
    | exact ⟨congrArg Value.bool hST, X⟩
  replace hs := hs.ext x1
  replace X := Ext.trans X x1; clear x1
  have hb2 := of_decide_eq_false hbig
  have hbl : bs.length ≤ 1048576 := by omega
  refine ops_nil ?_
  refine c_false rfl ?_
  refine c_skip ?_
  refine tq_n ?_
  refine c_seqR ?_
  refine ops_cons rfl (ow_move rfl ?_)
  refine ops_cons rfl (ow_call ent27 rfl (ret_mono (drawIS_c _ _ _ _ _ hs hbl) ?_))
  rintro _ w4 ⟨AT, cT, xs, x, rfl, hp, oT, x3⟩
  replace oT := Own.low oT X.size
  replace hs := hs.ext x3
  replace X := Ext.trans X x3; clear x3
  have hl : xs.length ≤ 1048576 := by omega
  have hl2 := insF_len xs x
  have UT := fun g hg => (Own.lt oT (g := g) hg).2
  refine ops_cons rfl (ow_move rfl ?_)
  refine ops_cons rfl (ow_extract rfl rfl ?_)
  refine ops_cons rfl (ow_extract rfl rfl ?_)
  refine ops_cons rfl (ow_alloc ti49 ?_)
  intro gX w6 egX b0 x5 zgX
  have lgX : w.heap.size ≤ gX := Nat.le_trans X.size (Nat.le_of_eq egX.symm)
  have pgXhs := Nat.le_trans hs.1 (Nat.le_of_eq egX.symm)
  replace hs := hs.ext x5
  replace oT := oT.ext x5
  replace X := Ext.trans X x5; clear x5
  refine ops_cons rfl (ow_assign rfl ?_)
  refine ops_cons rfl (ow_storeB b0 ti49 rfl rfl rfl rfl rfl rfl ?_)
  intro w9 bX hg7 z10
  replace hs := hs.grown hg7 (by intro g hg; injection hg; omega)
  replace oT := oT.grownBlk hg7 (fun h => by have := UT _ h; omega)
  replace X := X.grown hg7 X.size (by intro g hg; injection hg; omega)
  clear hg7 b0
  replace bX : Blk _ gX 49 x.cells := bX
  refine ops_nil ?_
  refine c_seqR ?_
  refine ops_cons rfl (ow_move rfl ?_)
  refine ops_cons rfl (ow_loadAB bX ti49 rfl rfl ?_)
  refine ops_cons rfl (ow_call ent22 rfl (ret_mono (iIns_c _ _ _ xs x _ oT.sl hl) ?_))
  rintro _ w12 ⟨AI, cI, rfl, oI, x11⟩
  replace oI := Own.low oI X.size
  replace hs := hs.ext x11
  replace oT := oT.ext x11
  replace bX := bX.ext x11
  replace X := Ext.trans X x11; clear x11
  refine ops_cons rfl (ow_move rfl ?_)
  refine ops_cons rfl (ow_extract rfl rfl ?_)
  refine ops_cons rfl (ow_extract rfl rfl ?_)
  refine ops_cons rfl (ow_assign rfl ?_)
  refine ops_cons rfl (ow_assign rfl ?_)
  refine ops_nil ?_
  refine c_seqR ?_
  refine ops_cons rfl (ow_move rfl ?_)
  refine ops_cons rfl (ow_loadAB bX ti49 rfl rfl ?_)
  refine ops_cons rfl (ow_call ent19 rfl (ret_mono (sIns_c _ _ _ xs x _ oT.sl hl) ?_))
  rintro _ w14 ⟨AJ, cJ, rfl, oJ, x13⟩
  replace oJ := Own.low oJ X.size
  replace hs := hs.ext x13
  replace oT := oT.ext x13
  replace bX := bX.ext x13
  replace oI := oI.ext x13
  replace X := Ext.trans X x13; clear x13
  refine ops_cons rfl (ow_move rfl ?_)
  refine ops_cons rfl (ow_extract rfl rfl ?_)
  refine ops_cons rfl (ow_extract rfl rfl ?_)
  refine ops_cons rfl (ow_assign rfl ?_)
  refine ops_cons rfl (ow_assign rfl ?_)
  refine ops_nil ?_
  refine c_seq ?_
  refine c_seqR ?_
  refine ops_cons rfl (ow_move rfl ?_)
  refine ops_cons rfl (ow_move rfl ?_)
  refine ops_cons rfl (ow_neq2 rfl rfl (fun h15 => absurd h15 (by simp)) (fun h15 => ?_))
  refine ops_cons rfl (ow_move rfl ?_)
  refine ops_want rfl rfl rfl (ow_move rfl ?_)
  refine ops_want rfl rfl rfl (ow_move rfl ?_)
  refine ops_want rfl rfl rfl (ow_call ent28 rfl (ret_mono (likeSlots_c _ _ _ _ _ _ _ _ (oI).sl (oJ).sl hl2) ?_))
  rintro _ w17 ⟨rfl, x16⟩
  replace hs := hs.ext x16
  replace oT := oT.ext x16
  replace bX := bX.ext x16
  replace oI := oI.ext x16
  replace oJ := oJ.ext x16
  replace X := Ext.trans X x16; clear x16
  refine ops_want rfl rfl rfl (ow_not rfl ?_)
  refine ops_cons rfl (ow_pick rfl rfl ?_)
  refine ops_nil ?_
  refine c_false rfl ?_
  refine c_skip ?_
  refine tq_n ?_
  refine c_seqR ?_
  have sT := oT.sl
  have sI := oI.sl
  have BsT := sT.1
  have BsI := sI.1
  clear oT oI oJ
  refine ops_cons rfl (ow_move rfl ?_)
  refine ops_cons rfl (ow_call ent29 rfl (ret_mono (drawCS_c _ _ _ bs _ hs hbl) ?_))
  rintro _ wC ⟨a1, a2, rfl, xC⟩
  replace hs := hs.ext xC
  replace bX := bX.ext xC
  replace sT := sT.ext xC
  replace sI := sI.ext xC
  replace X := Ext.trans X xC; clear xC
  refine ops_cons rfl (ow_move rfl ?_)
  refine ops_cons rfl (ow_extract rfl rfl ?_)
  refine ops_cons rfl (ow_extract rfl rfl ?_)
  refine ops_cons rfl (ow_alloc ti49 ?_)
  intro g9 w19 eg9 b9 x18 zg9
  have lg9 : w.heap.size ≤ g9 := Nat.le_trans X.size (Nat.le_of_eq eg9.symm)
  have pg9hs := Nat.le_trans hs.1 (Nat.le_of_eq eg9.symm)
  have ng9bX := Nat.lt_of_lt_of_eq bX.lt eg9.symm
  have pg9sT := Nat.le_trans sT.1 (Nat.le_of_eq eg9.symm)
  have pg9sI := Nat.le_trans sI.1 (Nat.le_of_eq eg9.symm)
  replace hs := hs.ext x18
  replace bX := bX.ext x18
  replace sT := sT.ext x18
  replace sI := sI.ext x18
  replace X := Ext.trans X x18; clear x18
  refine ops_cons rfl (ow_alloc ti49 ?_)
  intro g10 w21 eg10 b10 x20 zg10
  have lg10 : w.heap.size ≤ g10 := Nat.le_trans X.size (Nat.le_of_eq eg10.symm)
  have pg10hs := Nat.le_trans hs.1 (Nat.le_of_eq eg10.symm)
  have ng10bX := Nat.lt_of_lt_of_eq bX.lt eg10.symm
  have pg10sT := Nat.le_trans sT.1 (Nat.le_of_eq eg10.symm)
  have pg10sI := Nat.le_trans sI.1 (Nat.le_of_eq eg10.symm)
  have ng10b9 := Nat.lt_of_lt_of_eq b9.lt eg10.symm
  replace hs := hs.ext x20
  replace bX := bX.ext x20
  replace sT := sT.ext x20
  replace sI := sI.ext x20
  replace b9 := b9.ext x20
  replace X := Ext.trans X x20; clear x20
  refine ops_cons rfl (ow_storeB b9 ti49 rfl rfl rfl rfl rfl rfl ?_)
  intro w23 bA hg22 z24
  replace hs := hs.grown hg22 (by intro g hg; injection hg; omega)
  replace bX := bX.grown hg22 (by intro h; injection h; omega)
  replace sT := sT.grown hg22 (by intro g hg; injection hg; omega)
  replace sI := sI.grown hg22 (by intro g hg; injection hg; omega)
  replace b10 := b10.grown hg22 (by intro h; injection h; omega)
  replace X := X.grown hg22 X.size (by intro g hg; injection hg; omega)
  clear hg22 b9
  replace bA : Blk _ g9 49 a1.cells := bA
  refine ops_cons rfl (ow_storeB b10 ti49 rfl rfl rfl rfl rfl rfl ?_)
  intro w26 bB hg25 z27
  replace hs := hs.grown hg25 (by intro g hg; injection hg; omega)
  replace bX := bX.grown hg25 (by intro h; injection h; omega)
  replace sT := sT.grown hg25 (by intro g hg; injection hg; omega)
  replace sI := sI.grown hg25 (by intro g hg; injection hg; omega)
  replace bA := bA.grown hg25 (by intro h; injection h; omega)
  replace X := X.grown hg25 X.size (by intro g hg; injection hg; omega)
  clear hg25 b10
  replace bB : Blk _ g10 49 a2.cells := bB
  refine ops_nil ?_
  refine c_seq ?_
  refine c_seqD [false, false, false, false, false, false, false, false, false, false, false, false, false, false, false, false, false] mixed (by kernel_rfl) ?_
  refine f_q rfl (fun wq sq => ow_loadAB (bA.ext sq) ti49 rfl rfl ⟨rfl, Ext.refl _⟩) ?_
  refine f_q rfl (fun wq sq => ow_loadAB (bB.ext sq) ti49 rfl rfl ⟨rfl, Ext.refl _⟩) ?_
  refine f_q rfl (fun wq sq => ow_call ent30 rfl (iCompareSlots_c a1 a2 _)) ?_
  refine f_q rfl (fun wq sq => ow_loadAB (bA.ext sq) ti49 rfl rfl ⟨rfl, Ext.refl _⟩) ?_
  refine f_q rfl (fun wq sq => ow_loadAB (bB.ext sq) ti49 rfl rfl ⟨rfl, Ext.refl _⟩) ?_
  refine f_q rfl (fun wq sq => ow_call ent31 rfl (sCompareSlots_c a1 a2 _)) ?_
  refine f_qb rfl (fun wq sq => ow_neq rfl rfl ⟨rfl, Ext.refl _⟩) (fun h28 => absurd h28 (by simp)) (fun h28 => ?_)
  refine f_q rfl (fun wq sq => ow_move rfl ⟨rfl, Ext.refl _⟩) ?_
  refine f_qw rfl rfl rfl (fun wq sq => ow_loadAB (bB.ext sq) ti49 rfl rfl ⟨rfl, Ext.refl _⟩) ?_
  refine f_qw rfl rfl rfl (fun wq sq => ow_loadAB (bA.ext sq) ti49 rfl rfl ⟨rfl, Ext.refl _⟩) ?_
  refine f_qw rfl rfl rfl (fun wq sq => ow_call ent30 rfl (iCompareSlots_c a2 a1 _)) ?_
  refine f_qw rfl rfl rfl (fun wq sq => ow_loadAB (bA.ext sq) ti49 rfl rfl ⟨rfl, Ext.refl _⟩) ?_
  refine f_qw rfl rfl rfl (fun wq sq => ow_loadAB (bB.ext sq) ti49 rfl rfl ⟨rfl, Ext.refl _⟩) ?_
  refine f_qw rfl rfl rfl (fun wq sq => ow_call ent30 rfl (iCompareSlots_c a1 a2 _)) ?_
  refine f_qw rfl rfl rfl (fun wq sq => ow_neg rfl (w64 (by have := cmpS_in a1 a2; omega)) ⟨rfl, Ext.refl _⟩) ?_
  refine f_qwb rfl rfl rfl (fun wq sq => ow_neq rfl rfl ⟨rfl, Ext.refl _⟩) (fun h29 => absurd h29 (by exact fun h => h (cmpS_neg a1 a2))) (fun h29 => ?_)
  refine f_q rfl (fun wq sq => ow_pick rfl rfl ⟨rfl, Ext.refl _⟩) ?_
  refine f_nil (fun w30 sq => ?_)
  have xq := sq
  replace hs := hs.ext xq
  replace bX := bX.ext xq
  replace sT := sT.ext xq
  replace sI := sI.ext xq
  replace bA := bA.ext xq
  replace bB := bB.ext xq
  replace X := Ext.trans X xq; clear xq sq
  refine ops_nil ?_
  refine c_false rfl ?_
  refine c_skip ?_
  refine tq_n ?_
  refine c_seq ?_
  refine c_seqR ?_
  refine ops_cons rfl (ow_move rfl ?_)
  refine ops_cons rfl (ow_neq2 rfl rfl (fun hC => ?_) (fun hC => ?_))
  refine ops_nil ?_
  refine c_true rfl ?_
  refine c_seqR ?_
  refine ops_cons rfl (ow_assign rfl ?_)
  refine ops_nil ?_
  refine c_ret ?_
  refine tq_r ?_
  refine fin_ret1 rfl rfl ?_
  · skip
    first
    | exact ⟨rfl, X⟩
    | exact ⟨congrArg Value.bool hST, X⟩
  obtain ⟨hT, hO, hF, hn, eI⟩ := insF_ok hC
  have hil := ins_len hF
  have hST : isST (insF xs x).1 = true := by rw [eI]; exact ins_st hT hO (by omega)
  have hfd := ins_find hST (show x ∈ (insF xs x).1 by rw [eI]; simp)
  have hN1 : resN xs x.desc.node = (idxS x.desc.node 0 xs, 0) := by rw [resN, if_pos hT]
  have hN2 : resN (insF xs x).1 x.desc.node = (idxS x.desc.node 0 (insF xs x).1, 0) := by rw [resN, if_pos hST]
  have hcnt : (idxS x.desc.node 0 (insF xs x).1).length = (idxS x.desc.node 0 xs).length + 1 := by rw [eI]; exact ins_nodes hF
  have hr1 := resN_len xs x.desc.node hl
  refine ops_nil ?_
  refine c_false rfl ?_
  refine c_skip ?_
  refine tq_n ?_
  refine c_seqR ?_
  refine ops_cons rfl (ow_move rfl ?_)
  refine ops_cons rfl (ow_fieldAddrB off49_0 rfl rfl ?_)
  refine ops_cons rfl (ow_loadB bX ti2 rfl rfl ?_)
  refine ops_cons rfl (ow_fieldAddrB off49_1 rfl rfl ?_)
  refine ops_cons rfl (ow_loadB bX ti2 rfl rfl ?_)
  refine ops_cons rfl (ow_fieldAddrB off49_2 rfl rfl ?_)
  refine ops_cons rfl (ow_loadB bX ti2 rfl rfl ?_)
  refine ops_cons rfl (ow_call ent32 rfl (ret_mono (iFindIns_c _ _ _ (insF xs x).1 x _ sI hl2 hfd) ?_))
  rintro _ w32 ⟨rfl, x31⟩
  replace hs := hs.ext x31
  replace bX := bX.ext x31
  replace sT := sT.ext x31
  replace sI := sI.ext x31
  replace bA := bA.ext x31
  replace bB := bB.ext x31
  replace X := Ext.trans X x31; clear x31
  refine ops_cons rfl (ow_move rfl ?_)
  refine ops_cons rfl (ow_extract rfl rfl ?_)
  refine ops_cons rfl (ow_extract rfl rfl ?_)
  refine ops_cons rfl (ow_alloc ti47 ?_)
  intro g11 w34 eg11 b11 x33 zg11
  have lg11 : w.heap.size ≤ g11 := Nat.le_trans X.size (Nat.le_of_eq eg11.symm)
  have pg11hs := Nat.le_trans hs.1 (Nat.le_of_eq eg11.symm)
  have ng11bX := Nat.lt_of_lt_of_eq bX.lt eg11.symm
  have pg11sT := Nat.le_trans sT.1 (Nat.le_of_eq eg11.symm)
  have pg11sI := Nat.le_trans sI.1 (Nat.le_of_eq eg11.symm)
  have ng11bA := Nat.lt_of_lt_of_eq bA.lt eg11.symm
  have ng11bB := Nat.lt_of_lt_of_eq bB.lt eg11.symm
  replace hs := hs.ext x33
  replace bX := bX.ext x33
  replace sT := sT.ext x33
  replace sI := sI.ext x33
  replace bA := bA.ext x33
  replace bB := bB.ext x33
  replace X := Ext.trans X x33; clear x33
  refine ops_cons rfl (ow_storeB b11 ti47 rfl rfl rfl rfl rfl rfl ?_)
  intro w36 b12 hg35 z37
  replace hs := hs.grown hg35 (by intro g hg; injection hg; omega)
  replace bX := bX.grown hg35 (by intro h; injection h; omega)
  replace sT := sT.grown hg35 (by intro g hg; injection hg; omega)
  replace sI := sI.grown hg35 (by intro g hg; injection hg; omega)
  replace bA := bA.grown hg35 (by intro h; injection h; omega)
  replace bB := bB.grown hg35 (by intro h; injection h; omega)
  replace X := X.grown hg35 X.size (by intro g hg; injection hg; omega)
  clear hg35 b11
  replace b12 : Blk _ g11 47 x.desc.cells := b12
  refine ops_cons rfl (ow_assign rfl ?_)
  refine ops_nil ?_
  refine c_seqR ?_
  refine ops_cons rfl (ow_move rfl ?_)
  refine ops_cons rfl (ow_fieldAddrB off49_3 rfl rfl ?_)
  refine ops_cons rfl (ow_fieldAddrB off47_0 rfl rfl ?_)
  refine ops_cons rfl (ow_loadB bX ti2 rfl rfl ?_)
  refine ops_cons rfl (ow_call ent33 rfl (ret_mono (iNodes_c _ _ _ xs x.desc.node _ sT hl) ?_))
  rintro _ w39 ⟨AV, cV, rfl, oV, x38⟩
  replace oV := Own.low oV X.size
  replace hs := hs.ext x38
  replace bX := bX.ext x38
  replace sT := sT.ext x38
  replace sI := sI.ext x38
  replace bA := bA.ext x38
  replace bB := bB.ext x38
  replace b12 := b12.ext x38
  replace X := Ext.trans X x38; clear x38
  refine ops_cons rfl (ow_move rfl ?_)
  refine ops_cons rfl (ow_extract rfl rfl ?_)
  refine ops_cons rfl (ow_extract rfl rfl ?_)
  refine ops_cons rfl (ow_assign rfl ?_)
  refine ops_cons rfl (ow_assign rfl ?_)
  refine ops_nil ?_
  refine c_seqR ?_
  refine ops_cons rfl (ow_move rfl ?_)
  refine ops_cons rfl (ow_fieldAddrB off49_3 rfl rfl ?_)
  refine ops_cons rfl (ow_fieldAddrB off47_0 rfl rfl ?_)
  refine ops_cons rfl (ow_loadB bX ti2 rfl rfl ?_)
  refine ops_cons rfl (ow_call ent33 rfl (ret_mono (iNodes_c _ _ _ (insF xs x).1 x.desc.node _ sI hl2) ?_))
  rintro _ w41 ⟨AW, cW, rfl, oW, x40⟩
  replace oW := Own.low oW X.size
  replace hs := hs.ext x40
  replace bX := bX.ext x40
  replace sT := sT.ext x40
  replace sI := sI.ext x40
  replace bA := bA.ext x40
  replace bB := bB.ext x40
  replace b12 := b12.ext x40
  replace oV := oV.ext x40
  replace X := Ext.trans X x40; clear x40
  refine ops_cons rfl (ow_move rfl ?_)
  refine ops_cons rfl (ow_extract rfl rfl ?_)
  refine ops_cons rfl (ow_extract rfl rfl ?_)
  refine ops_cons rfl (ow_assign rfl ?_)
  refine ops_cons rfl (ow_assign rfl ?_)
  refine ops_nil ?_
  refine c_seqR ?_
  refine ops_cons rfl (ow_move rfl ?_)
  refine ops_cons rfl (ow_eql2 rfl rfl (fun h42 => ?_) (fun h42 => absurd h42 (by exact fun h => h rfl)))
  refine ops_cons rfl (ow_move rfl ?_)
  refine ops_want rfl rfl rfl (ow_move rfl ?_)
  refine ops_want rfl rfl rfl (ow_eql2 rfl rfl (fun h43 => ?_) (fun h43 => absurd h43 (by exact fun h => h (by rw [hN1]))))
  refine ops_cons rfl (ow_pick rfl rfl ?_)
  refine ops_cons rfl (ow_move rfl ?_)
  refine ops_want rfl rfl rfl (ow_move rfl ?_)
  refine ops_want rfl rfl rfl (ow_eql2 rfl rfl (fun h44 => ?_) (fun h44 => absurd h44 (by exact fun h => h (by rw [hN2]))))
  refine ops_cons rfl (ow_pick rfl rfl ?_)
  refine ops_cons rfl (ow_move rfl ?_)
  refine ops_want rfl rfl rfl (ow_loadAB b12 ti47 rfl rfl ?_)
  refine ops_want rfl rfl rfl (ow_fieldAddrB off49_3 rfl rfl ?_)
  refine ops_want rfl rfl rfl (ow_loadAB bX ti47 rfl rfl ?_)
  refine ops_want rfl rfl rfl (ow_eqlA rfl rfl (by kernel_rfl) (fun w => eqSelf_Desc _ w 9998) ?_)
  refine ops_cons rfl (ow_pick rfl rfl ?_)
  refine ops_cons rfl (ow_move rfl ?_)
  refine ops_want rfl rfl rfl (ow_move rfl ?_)
  refine ops_want rfl rfl rfl (ow_len Try.underlying22 rfl ?_)
  refine ops_want rfl rfl rfl (ow_move rfl ?_)
  refine ops_want rfl rfl rfl (ow_len Try.underlying22 rfl ?_)
  refine ops_want rfl rfl rfl (ow_add rfl rfl (w64 (by omega)) ?_)
  refine ops_want rfl rfl rfl (ow_eql2 rfl rfl (fun h45 => ?_) (fun h45 => absurd h45 (by exact fun h => h (by rw [hN2, hN1]; show ((idxS x.desc.node 0 (insF xs x).1).length : Int) = ((idxS x.desc.node 0 xs).length : Int) + ((1 : Nat) : Int); omega))))
  refine ops_cons rfl (ow_pick rfl rfl ?_)
  refine ops_cons rfl (ow_move rfl ?_)
  refine ops_want rfl rfl rfl (ow_move rfl ?_)
  refine ops_want rfl rfl rfl (ow_call ent34 rfl (ret_mono (iIsST_c _ _ _ (insF xs x).1 _ sI hl2) ?_))
  rintro _ w47 ⟨rfl, x46⟩
  replace hs := hs.ext x46
  replace bX := bX.ext x46
  replace sT := sT.ext x46
  replace sI := sI.ext x46
  replace bA := bA.ext x46
  replace bB := bB.ext x46
  replace b12 := b12.ext x46
  replace oV := oV.ext x46
  replace oW := oW.ext x46
  replace X := Ext.trans X x46; clear x46
  refine ops_cons rfl (ow_pick rfl rfl ?_)
  refine ops_cons rfl (ow_assign rfl ?_)
  refine ops_nil ?_
  refine c_ret ?_
  refine fin_ret1 rfl rfl ?_
  · skip
    first
    | exact ⟨rfl, X⟩
    | exact ⟨congrArg Value.bool hST, X⟩
set_option maxRecDepth 100000

theorem fnInserted_lifted (os : Os) (started : os.Started) (H : Type) (enc : TypeId × Value → H) :
    ReturnsInHanded {} Try.checked os 6 .any (Rows.fnInsertedSpec.pre6 enc Try.prog Try.f6 Rows.fnInsertedRow.domain false) (Rows.fnInsertedSpec.post enc Try.prog Try.f6 false true false false) := by
  refine returnsInHanded_of_change (C := Try.checked) law_own started (by kernel_rfl) Try.func6
    (ChangeSpec.witness6 (enc := enc) (C := Try.checked) false ⟨#[], #[.slice none 0 0], []⟩ 8 (by kernel_rfl) (by kernel_rfl) (by kernel_rfl) (by kernel_rfl)) ?_
  intro W base args ds gs before hval0 hW hcnd _
  have hval : ∀ (j : Nat) t v, Try.f6.params[j]? = some t → args[j]? = some v → Value.okWide Try.prog W .any base t v := hval0
  have hW' := hW
  obtain ⟨p, q, hA0, hV, rfl, hfz, hnd⟩ := hW
  have hA : DataW.TrodAll enc Try.prog W 0 (fun _ => true) true Try.f6.params.toList args.toList ds p := hA0
  rw [Try.params6] at hA hval
  obtain ⟨rfl, rfl⟩ := trodVars_none hV
  obtain ⟨v0, vs0, d0, ds0, p0, q0, hargs, rfl, rfl, h0, r0⟩ := trodAll_cons hA
  obtain ⟨rfl, rfl, rfl⟩ := trodAll_nil r0
  obtain rfl : args = #[v0] := by cases args; simp_all
  obtain ⟨a0, l0, k0, rfl⟩ := okWide_slice Try.underlying54 (hval 0 54 v0 rfl rfl)
  obtain ⟨m0, x0, t0⟩ := cell_of rfl h0
  obtain ⟨Abs, bs, cbs, ebs, sbs, wbs, lbs⟩ := open_sl (s := 1) Try.underlying54 (by kernel_rfl) eB_len (by omega) (fun _ _ _ h => open_u8 Try.underlying5 h) t0
  rw [ebs]
  refine Calls.mono (law_FnInserted _ _ _ bs W sbs lbs) fun e W' h => ?_
  cases e <;> first | exact h.elim | skip
  obtain ⟨rfl, hb⟩ := h
  exact ⟨_, rfl, law_post law_laid (by kernel_rfl) rfl rfl Try.underlying4 (by rw [← ebs]; exact hW') rfl hb⟩

theorem fnInserted_holds : Rows.FnInsertedSaid :=
  OpenClaim.holds_of_wide 6 Try.f6 rfl rfl rfl rfl rfl rfl rfl ⟨rfl, rfl, rfl, rfl, rfl⟩ rfl rfl rfl rfl rfl (by kernel_rfl) Try.func6 (by kernel_rfl)
    (of_decide_eq_true (by kernel_rfl)) (by unfold Func.isWrapper; rw [if_neg (of_decide_eq_false (by kernel_rfl))]; exact ⟨rfl, rfl⟩)
    (fun os started H enc _ => fnInserted_lifted os started H enc)
end Go.Proofs.Ytdoibplhbdkapaa
