/- The states of a cycle. No condition. -/
import Derived.Test.YthdeoagoehkcfaaGreatDoorL1
import Derived.Test.YthdeoagoehkcfaaGreatDoorMod8
namespace Go.Proofs.YthdeoagoehkcfaaGreatDoor
open Go.RowKit
set_option linter.unusedVariables false
set_option linter.unusedSimpArgs false
set_option maxRecDepth 20000
theorem sStates_c (m : MedlI) (B : Nat) (s : StateI) (w : World) (hm : Med B w m) (hz : m.small) :
    Calls Tryz.prog 27 #[.agg m.cells.toArray, .agg s.cells.toArray] w (Ret fun v w' => ∃ A' c', v = .tuple #[.slice A' (statesF m.d s).1.length c', .int .i64 (statesF m.d s).2] ∧ Own w' w.heap.size 55 5 A' (statesF m.d s).1.length c' ((statesF m.d s).1.flatMap StateI.cells) ∧ Ext w w') := by
  have hls := hz.ls
  have hlm := hz.lm
  have hln := hz.ln
  have Bhm := hm.1
  have X := Ext.refl w
  refine calls_of (args := [.agg m.cells.toArray, .agg s.cells.toArray]) Tryz.func27 Tryz.ntmps27 rfl rfl ?_
  refine c_seqR ?_
  refine ops_cons rfl (ow_box rfl rfl ?_)
  intro gM w2 egM bM x1 zgM
  have lgM : w.heap.size ≤ gM := Nat.le_trans X.size (Nat.le_of_eq egM.symm)
  have pgMhm := Nat.le_trans hm.1 (Nat.le_of_eq egM.symm)
  replace hm := hm.ext x1
  replace X := Ext.trans X x1; clear x1
  refine ops_cons rfl (ow_box rfl rfl ?_)
  intro gS w4 egS bS x3 zgS
  have lgS : w.heap.size ≤ gS := Nat.le_trans X.size (Nat.le_of_eq egS.symm)
  have pgShm := Nat.le_trans hm.1 (Nat.le_of_eq egS.symm)
  have ngSbM := Nat.lt_of_lt_of_eq bM.lt egS.symm
  replace hm := hm.ext x3
  replace bM := bM.ext x3
  replace X := Ext.trans X x3; clear x3
  refine ops_cons rfl (ow_assign rfl ?_)
  refine ops_cons rfl (ow_assign rfl ?_)
  refine ops_nil ?_
  refine c_seqR ?_
  refine ops_cons rfl (ow_loadAB bM ti27 rfl rfl ?_)
  refine ops_cons rfl (ow_loadAB bS ti55 rfl rfl ?_)
  refine ops_cons rfl (ow_call ent68 rfl (ret_mono (l15Code_c m _ s _ hm hz) ?_))
  rintro _ w6 ⟨rfl, x5⟩
  replace hm := hm.ext x5
  replace bM := bM.ext x5
  replace bS := bS.ext x5
  replace X := Ext.trans X x5; clear x5
  refine ops_cons rfl (ow_assign rfl ?_)
  refine ops_nil ?_
  refine c_seq ?_
  refine c_seqR ?_
  refine ops_cons rfl (ow_move rfl ?_)
  refine ops_cons rfl (ow_neq2 rfl rfl (fun hC => ?_) (fun hC => ?_))
  · skip
    refine ops_nil ?_
    refine c_true rfl ?_
    refine c_seqR ?_
    refine ops_cons rfl (ow_move rfl ?_)
    refine ops_cons rfl (ow_assign rfl ?_)
    refine ops_cons rfl (ow_assign rfl ?_)
    refine ops_nil ?_
    refine c_ret ?_
    refine tq_r ?_
    refine fin_ret2 rfl rfl rfl ?_
    first
    | (have e : statesF m.d s = ([], lookC m.d s) := by rw [statesF, if_neg hC]
       rw [e]; exact ⟨none, 0, rfl, Own.nil_ _ _ _ _, X⟩)
    | (have e : iterS m.d nN s = ys := by rw [hi, show nN - k = 0 by omega]; simp [iterS]
       rw [hRF, e, ← hn.1]; exact ⟨_, _, rfl, Own.low oO (by omega), X⟩)
  · skip
    have hC0 : lookC m.d s = 0 := by omega
    have hm0 := lookC_zero.1 hC0
    have wf := isMedl_iff.1 hm0.1
    have hW := wf
    have hB := hm0.2
    obtain ⟨k, x, j, y, bl, hx, hxi, hj, hy, hda, hso, hro, hno, hyd⟩ := bel_get hW hB
    have hst := stateOk_in bl.ok
    have hok : ∀ x ∈ m.ss, slotOk x = true := isST_all hW.st
    have brd := bl.rd
    have bsl := bl.sl
    have hmul := mulI hxi.1 hxi.2
    obtain ⟨nN, hnN⟩ : ∃ n : Nat, x.m.rounds * x.m.slots = (n : Int) := ⟨(x.m.rounds * x.m.slots).toNat, by omega⟩
    have hRF : statesF m.d s = (iterS m.d nN s, 0) := by rw [statesF, if_pos hC0, hso, hro, hnN]; rfl
    refine ops_nil ?_
    refine c_false rfl ?_
    refine c_skip ?_
    refine tq_n ?_
    refine c_seqR ?_
    refine ops_cons rfl (ow_buildSlice el52 ti55 rfl rfl rfl rfl rfl ?_)
    intro gO w8 egO oO bbgO x7 zgO
    replace oO := Own.low oO (Nat.succ_le_of_lt bS.lt)
    replace hm := hm.ext x7
    replace bM := bM.ext x7
    replace bS := bS.ext x7
    replace X := Ext.trans X x7; clear x7
    refine ops_cons rfl (ow_assign rfl ?_)
    refine ops_nil ?_
    refine c_seq ?_
    refine c_seqD [false, false, false, false, false, false, false, false, false, false, false, false, false, false, false, false] mixed (by kernel_rfl) ?_
    refine f_q rfl (fun wq sq => ow_fieldAddrB off27_2 rfl rfl ⟨rfl, Ext.refl _⟩) ?_
    refine f_q rfl (fun wq sq => ow_loadB (bM.ext sq) ti24 rfl rfl ⟨rfl, Ext.refl _⟩) ?_
    refine f_q rfl (fun wq sq => ow_fieldAddrB off55_1 rfl rfl ⟨rfl, Ext.refl _⟩) ?_
    refine f_q rfl (fun wq sq => ow_loadB (bS.ext sq) ti2 rfl rfl ⟨rfl, Ext.refl _⟩) ?_
    refine f_q rfl (fun wq sq => ow_indexT ((hm.ext sq)).sm ModeI.len rfl el24 rfl rfl rfl hx bl.md ⟨rfl, Ext.refl _⟩) ?_
    refine f_q rfl (fun wq sq => ow_fieldAddr off85_0 rfl ⟨rfl, Ext.refl _⟩) ?_
    refine f_q rfl (fun wq sq => ow_loadTF ((hm.ext sq)).sm ModeI.len hx ti2 rfl rfl rfl ⟨rfl, Ext.refl _⟩) ?_
    refine f_q rfl (fun wq sq => ow_fieldAddrB off27_2 rfl rfl ⟨rfl, Ext.refl _⟩) ?_
    refine f_q rfl (fun wq sq => ow_loadB (bM.ext sq) ti24 rfl rfl ⟨rfl, Ext.refl _⟩) ?_
    refine f_q rfl (fun wq sq => ow_fieldAddrB off55_1 rfl rfl ⟨rfl, Ext.refl _⟩) ?_
    refine f_q rfl (fun wq sq => ow_loadB (bS.ext sq) ti2 rfl rfl ⟨rfl, Ext.refl _⟩) ?_
    refine f_q rfl (fun wq sq => ow_indexT ((hm.ext sq)).sm ModeI.len rfl el24 rfl rfl rfl hx bl.md ⟨rfl, Ext.refl _⟩) ?_
    refine f_q rfl (fun wq sq => ow_fieldAddr off85_1 rfl ⟨rfl, Ext.refl _⟩) ?_
    refine f_q rfl (fun wq sq => ow_loadTF ((hm.ext sq)).sm ModeI.len hx ti2 rfl rfl rfl ⟨rfl, Ext.refl _⟩) ?_
    refine f_q rfl (fun wq sq => ow_mul rfl rfl (w64 (by omega)) ⟨rfl, Ext.refl _⟩) ?_
    refine f_q rfl (fun wq sq => ow_assign rfl ⟨rfl, Ext.refl _⟩) ?_
    refine f_nil (fun w9 sq => ?_)
    have xq := sq
    replace hm := hm.ext xq
    replace bM := bM.ext xq
    replace bS := bS.ext xq
    replace oO := oO.ext xq
    replace X := Ext.trans X xq; clear xq sq
    refine ops_nil ?_
    refine c_block ?_
    refine c_loop (G := Nat × List StateI × StateI × Nat × Option Addr × Nat × Int) (fun ⟨k, ys, s1, n1, A1, c1, tc⟩ => [(2, .pointer (some ⟨gM, 0, none⟩)), (3, .pointer (some ⟨gS, 0, none⟩)), (4, .slice none 0 0), (5, .int .i64 0), (7, .slice A1 n1 c1), (8, .int .i64 tc)]) (fun ⟨k, ys, s1, n1, A1, c1, tc⟩ wr => k ≤ nN ∧ tc = x.m.rounds * x.m.slots - k ∧ (n1 = ys.length ∧ n1 = k) ∧ belongsB m.d s1 = true ∧ iterS m.d nN s = ys ++ iterS m.d (nN - k) s1 ∧ Blk wr gS 55 s1.cells ∧ Own wr (gS + 1) 55 5 A1 n1 c1 (ys.flatMap StateI.cells) ∧ Med B wr m ∧ Blk wr gM 27 m.cells ∧ Ext w wr) (fun ⟨k, ys, s1, n1, A1, c1, tc⟩ => nN - k) (0, [], s, 0, some ⟨gO, 0, none⟩, 0, x.m.rounds * x.m.slots) (.cons rfl (.cons rfl (.cons rfl (.cons rfl (.cons rfl (.cons rfl (.nil _))))))) ?_ ?_
    · exact ⟨by omega, by omega, ⟨rfl, rfl⟩, hB, rfl, bS, oO, hm, bM, X⟩
    clear hm bM bS oO
    clear X
    rintro ⟨k, ys, s1, n1, A1, c1, tc⟩ wr ⟨hk0, htc, hn, hB1, hi, bS, oO, hm, bM, X⟩
    refine c_seq ?_
    refine c_seqR ?_
    refine ops_cons rfl (ow_move rfl ?_)
    refine ops_cons rfl (ow_gtr2 rfl rfl (fun hk => ?_) (fun hk => ?_))
    · skip
      refine ops_nil ?_
      refine c_true rfl ?_
      refine c_skip ?_
      refine tq_n ?_
      refine c_seq ?_
      refine c_block ?_
      refine c_seqR ?_
      refine ops_cons rfl (ow_move rfl ?_)
      refine ops_cons rfl (ow_loadAB bS ti55 rfl rfl ?_)
      refine ops_cons rfl (ow_buildSlice el52 ti55 rfl rfl rfl rfl rfl ?_)
      intro g10 w12 eg10 oT bbg10 x11 zg10
      replace oT := Own.low oT X.size
      replace bS := bS.ext x11
      replace oO := oO.ext x11
      replace hm := hm.ext x11
      replace bM := bM.ext x11
      replace X := Ext.trans X x11; clear x11
      refine ops_cons rfl (ow_append (ts := #[]) oO bS.lt oT.sl (by first | rfl | simp) (by first | exact List.all_eq_true.1 rfl | simp [Value.oneCell']) el52 ti55 rfl rfl rfl rfl (by omega) (by omega) ?_)
      intro AoN coN w14 oN hg13
      replace bS := bS.grown hg13 (fun h => absurd (Own.lt oO h.symm).1 (by omega))
      replace hm := hm.grown hg13 (fun g hg => Nat.le_trans (Nat.le_trans Bhm (by omega : w.heap.size ≤ gS + 1)) (Own.lt oO hg).1)
      replace bM := bM.grown hg13 (fun h => Own.neT oO bM (by decide) h.symm)
      replace X := X.grown hg13 X.size (fun g hg => Nat.le_trans (by omega : w.heap.size ≤ gS + 1) (Own.lt oO hg).1)
      clear hg13
      refine ops_cons rfl (ow_assign rfl ?_)
      refine ops_nil ?_
      refine c_region ?_
      refine ops_cons rfl (ow_loadAB bM ti27 rfl rfl ?_)
      refine ops_cons rfl (ow_loadAB bS ti55 rfl rfl ?_)
      refine ops_cons rfl (ow_call ent69 rfl (ret_mono (l15Next_c m _ s1 _ hm hz hW hB1) ?_))
      rintro _ w16 ⟨rfl, x15⟩
      replace bS := bS.ext x15
      replace hm := hm.ext x15
      replace bM := bM.ext x15
      replace oN := oN.ext x15
      replace X := Ext.trans X x15; clear x15
      refine ops_cons rfl (ow_storeB bS ti55 rfl rfl rfl rfl rfl rfl ?_)
      intro w18 bS2 hg17 z19
      replace hm := hm.grown hg17 (by intro g hg; injection hg; omega)
      replace bM := bM.grown hg17 (by intro h; injection h; omega)
      replace oN := oN.grownBlk hg17 (fun h => absurd (Own.lt oN h).1 (by omega))
      replace X := X.grown hg17 X.size (by intro g hg; injection hg; omega)
      clear hg17 bS
      refine ops_nil ?_
      refine bq_n ?_
      refine tq_n ?_
      refine c_region ?_
      refine ops_cons rfl (ow_move rfl ?_)
      refine ops_cons rfl (ow_sub rfl rfl (w64 (by omega)) ?_)
      refine ops_cons rfl (ow_assign rfl ?_)
      refine ops_nil ?_
      refine tq_n ⟨(k + 1, ys ++ [s1], nextS m.d s1, n1 + 1, AoN, coN, tc - 1), (.cons rfl (.cons rfl (.cons rfl (.cons rfl (.cons rfl (.cons rfl (.nil _))))))), ?_, ?_⟩
      · exact ⟨by omega, by omega, ⟨by simp [hn.1], by omega⟩, bel_next hW hB1, (by rw [hi, show nN - k = (nN - (k + 1)) + 1 by omega, iterS]; simp), bS2, oN.to (snoc StateI.cells ys s1).symm, hm, bM, X⟩
      · first | omega | (dsimp only; omega)
    · skip
      refine ops_nil ?_
      refine c_false rfl ?_
      refine c_exit ?_
      refine tq_e ?_
      refine tq_e ?_
      refine bq_e ?_
      refine tq_n ?_
      refine c_seqR ?_
      refine ops_cons rfl (ow_move rfl ?_)
      refine ops_cons rfl (ow_assign rfl ?_)
      refine ops_cons rfl (ow_assign rfl ?_)
      refine ops_nil ?_
      refine c_ret ?_
      refine fin_ret2 rfl rfl rfl ?_
      first
      | (have e : statesF m.d s = ([], lookC m.d s) := by rw [statesF, if_neg hC]
         rw [e]; exact ⟨none, 0, rfl, Own.nil_ _ _ _ _, X⟩)
      | (have e : iterS m.d nN s = ys := by rw [hi, show nN - k = 0 by omega]; simp [iterS]
         rw [hRF, e, ← hn.1]; exact ⟨_, _, rfl, Own.low oO (by omega), X⟩)

theorem iStates_c (m : MedlI) (B : Nat) (s : StateI) (w : World) (hm : Med B w m) (hz : m.small) :
    Calls Tryz.prog 29 #[.agg m.cells.toArray, .agg s.cells.toArray] w (Ret fun v w' => ∃ A' c', v = .tuple #[.slice A' (statesF m.d s).1.length c', .int .i64 (statesF m.d s).2] ∧ Own w' w.heap.size 55 5 A' (statesF m.d s).1.length c' ((statesF m.d s).1.flatMap StateI.cells) ∧ Ext w w') := by
  have hls := hz.ls
  have hlm := hz.lm
  have hln := hz.ln
  have Bhm := hm.1
  have X := Ext.refl w
  refine calls_of (args := [.agg m.cells.toArray, .agg s.cells.toArray]) Tryz.func29 Tryz.ntmps29 rfl rfl ?_
  refine c_seqR ?_
  refine ops_cons rfl (ow_box rfl rfl ?_)
  intro gM w2 egM bM x1 zgM
  have lgM : w.heap.size ≤ gM := Nat.le_trans X.size (Nat.le_of_eq egM.symm)
  have pgMhm := Nat.le_trans hm.1 (Nat.le_of_eq egM.symm)
  replace hm := hm.ext x1
  replace X := Ext.trans X x1; clear x1
  refine ops_cons rfl (ow_box rfl rfl ?_)
  intro gS w4 egS bS x3 zgS
  have lgS : w.heap.size ≤ gS := Nat.le_trans X.size (Nat.le_of_eq egS.symm)
  have pgShm := Nat.le_trans hm.1 (Nat.le_of_eq egS.symm)
  have ngSbM := Nat.lt_of_lt_of_eq bM.lt egS.symm
  replace hm := hm.ext x3
  replace bM := bM.ext x3
  replace X := Ext.trans X x3; clear x3
  refine ops_cons rfl (ow_assign rfl ?_)
  refine ops_cons rfl (ow_assign rfl ?_)
  refine ops_nil ?_
  refine c_seq ?_
  refine c_seqR ?_
  refine ops_cons rfl (ow_loadAB bM ti27 rfl rfl ?_)
  refine ops_cons rfl (ow_loadAB bS ti55 rfl rfl ?_)
  refine ops_cons rfl (ow_call ent70 rfl (ret_mono (lookCode_c m _ s _ hm hz) ?_))
  rintro _ w6 ⟨rfl, x5⟩
  replace hm := hm.ext x5
  replace bM := bM.ext x5
  replace bS := bS.ext x5
  replace X := Ext.trans X x5; clear x5
  refine ops_cons rfl (ow_assign rfl ?_)
  refine ops_nil ?_
  refine c_seqR ?_
  refine ops_cons rfl (ow_move rfl ?_)
  refine ops_cons rfl (ow_neq2 rfl rfl (fun hC => ?_) (fun hC => ?_))
  · skip
    refine ops_nil ?_
    refine c_true rfl ?_
    refine c_seqR ?_
    refine ops_cons rfl (ow_move rfl ?_)
    refine ops_cons rfl (ow_assign rfl ?_)
    refine ops_cons rfl (ow_assign rfl ?_)
    refine ops_nil ?_
    refine c_ret ?_
    refine tq_r ?_
    refine fin_ret2 rfl rfl rfl ?_
    first
    | (have e : statesF m.d s = ([], lookC m.d s) := by rw [statesF, if_neg hC]
       rw [e]; exact ⟨none, 0, rfl, Own.nil_ _ _ _ _, X⟩)
    | (have e : iterS m.d nN s = ys := by rw [hi, show nN - k = 0 by omega]; simp [iterS]
       rw [hRF, e, ← hn.1]; exact ⟨_, _, rfl, Own.low oO (by omega), X⟩)
  · skip
    have hC0 : lookC m.d s = 0 := by omega
    have hm0 := lookC_zero.1 hC0
    have wf := isMedl_iff.1 hm0.1
    have hW := wf
    have hB := hm0.2
    obtain ⟨k, x, j, y, bl, hx, hxi, hj, hy, hda, hso, hro, hno, hyd⟩ := bel_get hW hB
    have hst := stateOk_in bl.ok
    have hok : ∀ x ∈ m.ss, slotOk x = true := isST_all hW.st
    have brd := bl.rd
    have bsl := bl.sl
    have hmul := mulI hxi.1 hxi.2
    obtain ⟨nN, hnN⟩ : ∃ n : Nat, x.m.rounds * x.m.slots = (n : Int) := ⟨(x.m.rounds * x.m.slots).toNat, by omega⟩
    have hRF : statesF m.d s = (iterS m.d nN s, 0) := by rw [statesF, if_pos hC0, hso, hro, hnN]; rfl
    refine ops_nil ?_
    refine c_false rfl ?_
    refine c_skip ?_
    refine tq_n ?_
    refine c_seqI (fun wz => Med B wz m ∧ Blk wz gM 27 m.cells ∧ Blk wz gS 55 s.cells) mixed ?_
    obtain ⟨w7, ew7⟩ : ∃ w2, w2 = World.drew w6 := ⟨_, rfl⟩
    rw [← ew7]
    have xd : Ext w6 w7 := ew7 ▸ Ext.drew w6
    replace hm := hm.ext xd
    replace bM := bM.ext xd
    replace bS := bS.ext xd
    replace X := Ext.trans X xd; clear xd ew7
    refine wi_take 1 rfl (by kernel_rfl) rfl (by kernel_rfl) (listed' := #[false, true, false, false, false, false, false, false, false, false]) rfl (fun wq sq => ow_fieldAddrB off27_2 rfl rfl ⟨rfl, rfl⟩) ?_
    refine wi_take 2 rfl (by kernel_rfl) rfl (by kernel_rfl) (listed' := #[false, true, true, false, false, false, false, false, false, false]) rfl (fun wq sq => ow_loadB sq.2.1 ti24 rfl rfl ⟨rfl, rfl⟩) ?_
    refine wi_take 3 rfl (by kernel_rfl) rfl (by kernel_rfl) (listed' := #[false, true, true, true, false, false, false, false, false, false]) rfl (fun wq sq => ow_fieldAddrB off55_1 rfl rfl ⟨rfl, rfl⟩) ?_
    refine wi_take 4 rfl (by kernel_rfl) rfl (by kernel_rfl) (listed' := #[false, true, true, true, true, false, false, false, false, false]) rfl (fun wq sq => ow_loadB sq.2.2 ti2 rfl rfl ⟨rfl, rfl⟩) ?_
    refine wi_take 5 rfl (by kernel_rfl) rfl (by kernel_rfl) (listed' := #[false, true, true, true, true, true, false, false, false, false]) rfl (fun wq sq => ow_indexT (sq.1).sm ModeI.len rfl el24 rfl rfl rfl hx bl.md ⟨rfl, rfl⟩) ?_
    refine wi_take 6 rfl (by kernel_rfl) rfl (by kernel_rfl) (listed' := #[false, true, true, true, true, true, true, false, false, false]) rfl (fun wq sq => ow_loadTA (sq.1).sm ModeI.len hx ti85 rfl ⟨rfl, rfl⟩) ?_
    refine wi_two 0 7 rfl rfl rfl rfl (by kernel_rfl) (listed' := #[true, true, true, true, true, true, true, false, false, false]) (listed'' := #[false, true, true, true, true, true, true, true, false, false]) rfl rfl ⟨hm, bM, bS⟩ ?_ ?_
    · skip
      refine (ow_buildSlice el52 ti55 rfl rfl rfl rfl rfl ?_)
      intro gO w9 egO oO bbgO x8 zgO
      replace oO := Own.low oO (Nat.succ_le_of_lt bS.lt)
      replace hm := hm.ext x8
      replace bM := bM.ext x8
      replace bS := bS.ext x8
      replace X := Ext.trans X x8; clear x8
      refine wi_one 7 rfl rfl (by kernel_rfl) (listed' := #[true, true, true, true, true, true, true, true, false, false]) rfl ⟨hm, bM, bS⟩ (ow_alloc ti85 ?_)
      intro gX w11 egX bX x10 zgX
      have lgX : w.heap.size ≤ gX := Nat.le_trans X.size (Nat.le_of_eq egX.symm)
      have pgXhm := Nat.le_trans hm.1 (Nat.le_of_eq egX.symm)
      have ngXbM := Nat.lt_of_lt_of_eq bM.lt egX.symm
      have ngXbS := Nat.lt_of_lt_of_eq bS.lt egX.symm
      replace hm := hm.ext x10
      replace bM := bM.ext x10
      replace bS := bS.ext x10
      replace oO := oO.ext x10
      replace X := Ext.trans X x10; clear x10
      refine wi_take 8 rfl (by kernel_rfl) rfl (by kernel_rfl) (listed' := #[true, true, true, true, true, true, true, true, true, false]) rfl (fun wq sq => ow_assign rfl ⟨rfl, rfl⟩) ?_
      refine wi_one 9 rfl rfl (by kernel_rfl) (listed' := #[true, true, true, true, true, true, true, true, true, true]) rfl ⟨hm, bM, bS⟩ (ow_storeB bX ti85 rfl rfl rfl rfl rfl rfl ?_)
      intro w13 bY hg12 z14
      replace hm := hm.grown hg12 (by intro g hg; injection hg; omega)
      replace bM := bM.grown hg12 (by intro h; injection h; omega)
      replace bS := bS.grown hg12 (by intro h; injection h; omega)
      replace oO := oO.grownBlk hg12 (Own.neT oO bX (by decide))
      replace X := X.grown hg12 X.size (by intro g hg; injection hg; omega)
      clear hg12 bX
      refine wi_done rfl ⟨hm, bM, bS⟩ (fun aj fj => ⟨_, fj, ?_⟩)
      refine c_seq ?_
      refine c_seqR ?_
      refine ops_cons rfl (ow_fieldAddrB off85_0 rfl rfl ?_)
      refine ops_cons rfl (ow_loadB bY ti2 rfl rfl ?_)
      refine ops_cons rfl (ow_fieldAddrB off85_1 rfl rfl ?_)
      refine ops_cons rfl (ow_loadB bY ti2 rfl rfl ?_)
      refine ops_cons rfl (ow_mul rfl rfl (w64 (by omega)) ?_)
      refine ops_cons rfl (ow_move rfl ?_)
      refine ops_nil ?_
      refine c_block ?_
      refine c_loop (G := Nat × List StateI × StateI × Nat × Option Addr × Nat × Int) (fun ⟨k, ys, s1, n1, A1, c1, tc⟩ => [(2, .pointer (some ⟨gM, 0, none⟩)), (3, .pointer (some ⟨gS, 0, none⟩)), (4, .slice none 0 0), (5, .int .i64 0), (26, .int .i64 (x.m.rounds * x.m.slots)), (7, .slice A1 n1 c1), (27, .int .i64 (k : Nat))]) (fun ⟨k, ys, s1, n1, A1, c1, tc⟩ wr => k ≤ nN ∧ tc = x.m.rounds * x.m.slots - k ∧ (n1 = ys.length ∧ n1 = k) ∧ belongsB m.d s1 = true ∧ iterS m.d nN s = ys ++ iterS m.d (nN - k) s1 ∧ Blk wr gS 55 s1.cells ∧ Own wr (gS + 1) 55 5 A1 n1 c1 (ys.flatMap StateI.cells) ∧ Med B wr m ∧ Blk wr gM 27 m.cells ∧ Blk wr gX 85 x.cells ∧ Ext w wr) (fun ⟨k, ys, s1, n1, A1, c1, tc⟩ => nN - k) (0, [], s, 0, some ⟨gO, 0, none⟩, 0, x.m.rounds * x.m.slots) (.cons rfl (.cons rfl (.cons rfl (.cons rfl (.cons rfl (.cons rfl (.cons rfl (.nil _)))))))) ?_ ?_
      · exact ⟨by omega, by omega, ⟨rfl, rfl⟩, hB, rfl, bS, oO, hm, bM, bY, X⟩
      clear hm bM bS oO bY
      clear X
      rintro ⟨k, ys, s1, n1, A1, c1, tc⟩ wr ⟨hk0, htc, hn, hB1, hi, bS, oO, hm, bM, bY, X⟩
      refine c_seqR ?_
      refine ops_cons rfl (ow_lss2 rfl rfl (fun hk => ?_) (fun hk => ?_))
      · skip
        refine ops_nil ?_
        refine c_seq ?_
        refine c_true rfl ?_
        refine c_skip ?_
        refine tq_n ?_
        refine c_seq ?_
        refine c_block ?_
        refine c_seqR ?_
        refine ops_cons rfl (ow_move rfl ?_)
        refine ops_cons rfl (ow_loadAB bS ti55 rfl rfl ?_)
        refine ops_cons rfl (ow_buildSlice el52 ti55 rfl rfl rfl rfl rfl ?_)
        intro g15 w17 eg15 oT bbg15 x16 zg15
        replace oT := Own.low oT X.size
        replace bS := bS.ext x16
        replace oO := oO.ext x16
        replace hm := hm.ext x16
        replace bM := bM.ext x16
        replace bY := bY.ext x16
        replace X := Ext.trans X x16; clear x16
        refine ops_cons rfl (ow_append (ts := #[]) oO bS.lt oT.sl (by first | rfl | simp) (by first | exact List.all_eq_true.1 rfl | simp [Value.oneCell']) el52 ti55 rfl rfl rfl rfl (by omega) (by omega) ?_)
        intro AoN coN w19 oN hg18
        replace bS := bS.grown hg18 (fun h => absurd (Own.lt oO h.symm).1 (by omega))
        replace hm := hm.grown hg18 (fun g hg => Nat.le_trans (Nat.le_trans Bhm (by omega : w.heap.size ≤ gS + 1)) (Own.lt oO hg).1)
        replace bM := bM.grown hg18 (fun h => Own.neT oO bM (by decide) h.symm)
        replace bY := bY.grown hg18 (fun h => Own.neT oO bY (by decide) h.symm)
        replace X := X.grown hg18 X.size (fun g hg => Nat.le_trans (by omega : w.heap.size ≤ gS + 1) (Own.lt oO hg).1)
        clear hg18
        refine ops_cons rfl (ow_assign rfl ?_)
        refine ops_nil ?_
        refine c_region ?_
        refine ops_cons rfl (ow_loadAB bM ti27 rfl rfl ?_)
        refine ops_cons rfl (ow_loadAB bS ti55 rfl rfl ?_)
        refine ops_cons rfl (ow_call ent71 rfl (ret_mono (nextState_c m _ s1 _ hm hz hW hB1) ?_))
        rintro _ w21 ⟨rfl, x20⟩
        replace bS := bS.ext x20
        replace hm := hm.ext x20
        replace bM := bM.ext x20
        replace bY := bY.ext x20
        replace oN := oN.ext x20
        replace X := Ext.trans X x20; clear x20
        refine ops_cons rfl (ow_storeB bS ti55 rfl rfl rfl rfl rfl rfl ?_)
        intro w23 bS2 hg22 z24
        replace hm := hm.grown hg22 (by intro g hg; injection hg; omega)
        replace bM := bM.grown hg22 (by intro h; injection h; omega)
        replace bY := bY.grown hg22 (by intro h; injection h; omega)
        replace oN := oN.grownBlk hg22 (fun h => absurd (Own.lt oN h).1 (by omega))
        replace X := X.grown hg22 X.size (by intro g hg; injection hg; omega)
        clear hg22 bS
        refine ops_nil ?_
        refine bq_n ?_
        refine tq_n ?_
        refine c_region ?_
        refine ops_cons rfl (ow_add rfl rfl (w64 (by omega)) ?_)
        refine ops_cons rfl (ow_move rfl ?_)
        refine ops_nil ?_
        refine tq_n ⟨(k + 1, ys ++ [s1], nextS m.d s1, n1 + 1, AoN, coN, tc - 1), (.cons rfl (.cons rfl (.cons rfl (.cons rfl (.cons rfl (.cons rfl (.cons rfl (.nil _)))))))), ?_, ?_⟩
        · exact ⟨by omega, by omega, ⟨by simp [hn.1], by omega⟩, bel_next hW hB1, (by rw [hi, show nN - k = (nN - (k + 1)) + 1 by omega, iterS]; simp), bS2, oN.to (snoc StateI.cells ys s1).symm, hm, bM, bY, X⟩
        · first | omega | (dsimp only; omega)
      · skip
        refine ops_nil ?_
        refine c_seq ?_
        refine c_false rfl ?_
        refine c_exit ?_
        refine tq_e ?_
        refine tq_e ?_
        refine bq_e ?_
        refine tq_n ?_
        refine c_seqR ?_
        refine ops_cons rfl (ow_move rfl ?_)
        refine ops_cons rfl (ow_assign rfl ?_)
        refine ops_cons rfl (ow_assign rfl ?_)
        refine ops_nil ?_
        refine c_ret ?_
        refine fin_ret2 rfl rfl rfl ?_
        first
        | (have e : statesF m.d s = ([], lookC m.d s) := by rw [statesF, if_neg hC]
           rw [e]; exact ⟨none, 0, rfl, Own.nil_ _ _ _ _, X⟩)
        | (have e : iterS m.d nN s = ys := by rw [hi, show nN - k = 0 by omega]; simp [iterS]
           rw [hRF, e, ← hn.1]; exact ⟨_, _, rfl, Own.low oO (by omega), X⟩)
    · skip
      refine (ow_alloc ti85 ?_)
      intro gX w26 egX bX x25 zgX
      have lgX : w.heap.size ≤ gX := Nat.le_trans X.size (Nat.le_of_eq egX.symm)
      have pgXhm := Nat.le_trans hm.1 (Nat.le_of_eq egX.symm)
      have ngXbM := Nat.lt_of_lt_of_eq bM.lt egX.symm
      have ngXbS := Nat.lt_of_lt_of_eq bS.lt egX.symm
      replace hm := hm.ext x25
      replace bM := bM.ext x25
      replace bS := bS.ext x25
      replace X := Ext.trans X x25; clear x25
      refine wi_one 0 rfl rfl (by kernel_rfl) (listed' := #[true, true, true, true, true, true, true, true, false, false]) rfl ⟨hm, bM, bS⟩ (ow_buildSlice el52 ti55 rfl rfl rfl rfl rfl ?_)
      intro gO w28 egO oO bbgO x27 zgO
      replace oO := Own.low oO (Nat.succ_le_of_lt bS.lt)
      replace hm := hm.ext x27
      replace bM := bM.ext x27
      replace bS := bS.ext x27
      replace bX := bX.ext x27
      replace X := Ext.trans X x27; clear x27
      refine wi_take 8 rfl (by kernel_rfl) rfl (by kernel_rfl) (listed' := #[true, true, true, true, true, true, true, true, true, false]) rfl (fun wq sq => ow_assign rfl ⟨rfl, rfl⟩) ?_
      refine wi_one 9 rfl rfl (by kernel_rfl) (listed' := #[true, true, true, true, true, true, true, true, true, true]) rfl ⟨hm, bM, bS⟩ (ow_storeB bX ti85 rfl rfl rfl rfl rfl rfl ?_)
      intro w30 bY hg29 z31
      replace hm := hm.grown hg29 (by intro g hg; injection hg; omega)
      replace bM := bM.grown hg29 (by intro h; injection h; omega)
      replace bS := bS.grown hg29 (by intro h; injection h; omega)
      replace oO := oO.grownBlk hg29 (Own.neT oO bX (by decide))
      replace X := X.grown hg29 X.size (by intro g hg; injection hg; omega)
      clear hg29 bX
      refine wi_done rfl ⟨hm, bM, bS⟩ (fun aj fj => ⟨_, fj, ?_⟩)
      refine c_seq ?_
      refine c_seqR ?_
      refine ops_cons rfl (ow_fieldAddrB off85_0 rfl rfl ?_)
      refine ops_cons rfl (ow_loadB bY ti2 rfl rfl ?_)
      refine ops_cons rfl (ow_fieldAddrB off85_1 rfl rfl ?_)
      refine ops_cons rfl (ow_loadB bY ti2 rfl rfl ?_)
      refine ops_cons rfl (ow_mul rfl rfl (w64 (by omega)) ?_)
      refine ops_cons rfl (ow_move rfl ?_)
      refine ops_nil ?_
      refine c_block ?_
      refine c_loop (G := Nat × List StateI × StateI × Nat × Option Addr × Nat × Int) (fun ⟨k, ys, s1, n1, A1, c1, tc⟩ => [(2, .pointer (some ⟨gM, 0, none⟩)), (3, .pointer (some ⟨gS, 0, none⟩)), (4, .slice none 0 0), (5, .int .i64 0), (26, .int .i64 (x.m.rounds * x.m.slots)), (7, .slice A1 n1 c1), (27, .int .i64 (k : Nat))]) (fun ⟨k, ys, s1, n1, A1, c1, tc⟩ wr => k ≤ nN ∧ tc = x.m.rounds * x.m.slots - k ∧ (n1 = ys.length ∧ n1 = k) ∧ belongsB m.d s1 = true ∧ iterS m.d nN s = ys ++ iterS m.d (nN - k) s1 ∧ Blk wr gS 55 s1.cells ∧ Own wr (gS + 1) 55 5 A1 n1 c1 (ys.flatMap StateI.cells) ∧ Med B wr m ∧ Blk wr gM 27 m.cells ∧ Blk wr gX 85 x.cells ∧ Ext w wr) (fun ⟨k, ys, s1, n1, A1, c1, tc⟩ => nN - k) (0, [], s, 0, some ⟨gO, 0, none⟩, 0, x.m.rounds * x.m.slots) (.cons rfl (.cons rfl (.cons rfl (.cons rfl (.cons rfl (.cons rfl (.cons rfl (.nil _)))))))) ?_ ?_
      · exact ⟨by omega, by omega, ⟨rfl, rfl⟩, hB, rfl, bS, oO, hm, bM, bY, X⟩
      clear hm bM bS oO bY
      clear X
      rintro ⟨k, ys, s1, n1, A1, c1, tc⟩ wr ⟨hk0, htc, hn, hB1, hi, bS, oO, hm, bM, bY, X⟩
      refine c_seqR ?_
      refine ops_cons rfl (ow_lss2 rfl rfl (fun hk => ?_) (fun hk => ?_))
      · skip
        refine ops_nil ?_
        refine c_seq ?_
        refine c_true rfl ?_
        refine c_skip ?_
        refine tq_n ?_
        refine c_seq ?_
        refine c_block ?_
        refine c_seqR ?_
        refine ops_cons rfl (ow_move rfl ?_)
        refine ops_cons rfl (ow_loadAB bS ti55 rfl rfl ?_)
        refine ops_cons rfl (ow_buildSlice el52 ti55 rfl rfl rfl rfl rfl ?_)
        intro g32 w34 eg32 oT bbg32 x33 zg32
        replace oT := Own.low oT X.size
        replace bS := bS.ext x33
        replace oO := oO.ext x33
        replace hm := hm.ext x33
        replace bM := bM.ext x33
        replace bY := bY.ext x33
        replace X := Ext.trans X x33; clear x33
        refine ops_cons rfl (ow_append (ts := #[]) oO bS.lt oT.sl (by first | rfl | simp) (by first | exact List.all_eq_true.1 rfl | simp [Value.oneCell']) el52 ti55 rfl rfl rfl rfl (by omega) (by omega) ?_)
        intro AoN coN w36 oN hg35
        replace bS := bS.grown hg35 (fun h => absurd (Own.lt oO h.symm).1 (by omega))
        replace hm := hm.grown hg35 (fun g hg => Nat.le_trans (Nat.le_trans Bhm (by omega : w.heap.size ≤ gS + 1)) (Own.lt oO hg).1)
        replace bM := bM.grown hg35 (fun h => Own.neT oO bM (by decide) h.symm)
        replace bY := bY.grown hg35 (fun h => Own.neT oO bY (by decide) h.symm)
        replace X := X.grown hg35 X.size (fun g hg => Nat.le_trans (by omega : w.heap.size ≤ gS + 1) (Own.lt oO hg).1)
        clear hg35
        refine ops_cons rfl (ow_assign rfl ?_)
        refine ops_nil ?_
        refine c_region ?_
        refine ops_cons rfl (ow_loadAB bM ti27 rfl rfl ?_)
        refine ops_cons rfl (ow_loadAB bS ti55 rfl rfl ?_)
        refine ops_cons rfl (ow_call ent71 rfl (ret_mono (nextState_c m _ s1 _ hm hz hW hB1) ?_))
        rintro _ w38 ⟨rfl, x37⟩
        replace bS := bS.ext x37
        replace hm := hm.ext x37
        replace bM := bM.ext x37
        replace bY := bY.ext x37
        replace oN := oN.ext x37
        replace X := Ext.trans X x37; clear x37
        refine ops_cons rfl (ow_storeB bS ti55 rfl rfl rfl rfl rfl rfl ?_)
        intro w40 bS2 hg39 z41
        replace hm := hm.grown hg39 (by intro g hg; injection hg; omega)
        replace bM := bM.grown hg39 (by intro h; injection h; omega)
        replace bY := bY.grown hg39 (by intro h; injection h; omega)
        replace oN := oN.grownBlk hg39 (fun h => absurd (Own.lt oN h).1 (by omega))
        replace X := X.grown hg39 X.size (by intro g hg; injection hg; omega)
        clear hg39 bS
        refine ops_nil ?_
        refine bq_n ?_
        refine tq_n ?_
        refine c_region ?_
        refine ops_cons rfl (ow_add rfl rfl (w64 (by omega)) ?_)
        refine ops_cons rfl (ow_move rfl ?_)
        refine ops_nil ?_
        refine tq_n ⟨(k + 1, ys ++ [s1], nextS m.d s1, n1 + 1, AoN, coN, tc - 1), (.cons rfl (.cons rfl (.cons rfl (.cons rfl (.cons rfl (.cons rfl (.cons rfl (.nil _)))))))), ?_, ?_⟩
        · exact ⟨by omega, by omega, ⟨by simp [hn.1], by omega⟩, bel_next hW hB1, (by rw [hi, show nN - k = (nN - (k + 1)) + 1 by omega, iterS]; simp), bS2, oN.to (snoc StateI.cells ys s1).symm, hm, bM, bY, X⟩
        · first | omega | (dsimp only; omega)
      · skip
        refine ops_nil ?_
        refine c_seq ?_
        refine c_false rfl ?_
        refine c_exit ?_
        refine tq_e ?_
        refine tq_e ?_
        refine bq_e ?_
        refine tq_n ?_
        refine c_seqR ?_
        refine ops_cons rfl (ow_move rfl ?_)
        refine ops_cons rfl (ow_assign rfl ?_)
        refine ops_cons rfl (ow_assign rfl ?_)
        refine ops_nil ?_
        refine c_ret ?_
        refine fin_ret2 rfl rfl rfl ?_
        first
        | (have e : statesF m.d s = ([], lookC m.d s) := by rw [statesF, if_neg hC]
           rw [e]; exact ⟨none, 0, rfl, Own.nil_ _ _ _ _, X⟩)
        | (have e : iterS m.d nN s = ys := by rw [hi, show nN - k = 0 by omega]; simp [iterS]
           rw [hRF, e, ← hn.1]; exact ⟨_, _, rfl, Own.low oO (by omega), X⟩)
end Go.Proofs.YthdeoagoehkcfaaGreatDoor
