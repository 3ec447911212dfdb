/- Changes of the mode. No condition. -/
import Derived.Test.YtfmihehpdfmgfaaGreatDoorL2
import Derived.Test.YtfmihehpdfmgfaaGreatDoorMod8
namespace Go.Proofs.YtfmihehpdfmgfaaGreatDoor
open Go.RowKit
set_option linter.unusedVariables false
set_option linter.unusedSimpArgs false
set_option maxRecDepth 20000
theorem modesCodeZ_c (A A' : Option Addr) (B B' B2 c c' : Nat) (xs : List ModeI) (ys : List Int) (w : World) (hs : Sl B w A (xs.flatMap ModeI.cells)) (hn : Nexts B2 w xs) (hl : xs.length ≤ 1048576) (hz : ∀ x ∈ xs, x.m.next.length ≤ 1048576) (ht : Sl B' w A' (ys.flatMap eI)) (hy : ys.length ≤ 1048576) (hT : isMT (xs.map (·.m)) = true) (hA : (ys.all fun x => inB x 0 ((xs.length : Int) - 1)) = true) :
    Calls Tryz.prog 121 #[.slice A xs.length c, .slice A' ys.length c'] w (Ret fun v w' => v = .int .i64 0 ∧ Ext w w') := by
  have Bhs := hs.1
  have Bhn := hn.1
  have Bht := ht.1
  have X := Ext.refl w
  refine calls_of (args := [.slice A xs.length c, .slice A' ys.length c']) Tryz.func121 Tryz.ntmps121 rfl rfl ?_
  refine c_seqR ?_
  refine ops_cons rfl (ow_assign rfl ?_)
  refine ops_nil ?_
  refine c_seq ?_
  refine c_seqR ?_
  refine ops_cons rfl (ow_move rfl ?_)
  refine ops_cons rfl (ow_callB ent63 rfl (iIsMT_c _ _ _ _ _ _ hs hn hl hz) (fun w2 h1 x1 => ?_) (fun w2 h1 x1 => by rw [hT] at h1; cases h1))
  replace hs := hs.ext x1
  replace hn := hn.ext x1
  replace ht := ht.ext x1
  replace X := Ext.trans X x1; clear x1
  refine ops_cons rfl (ow_not rfl ?_)
  refine ops_nil ?_
  refine c_false rfl ?_
  refine c_skip ?_
  refine tq_n ?_
  refine c_seq ?_
  refine c_seqR ?_
  refine ops_cons rfl (ow_move rfl ?_)
  refine ops_cons rfl (ow_move rfl ?_)
  refine ops_cons rfl (ow_len Tryz.underlying30 rfl ?_)
  refine ops_cons rfl (ow_sub rfl rfl (w64 (by omega)) ?_)
  refine ops_cons rfl (ow_callB ent136 rfl (allWithin_c _ _ _ _ _ _ _ ht hy) (fun w4 h1 x3 => ?_) (fun w4 h1 x3 => by rw [hA] at h1; cases h1))
  replace hs := hs.ext x3
  replace hn := hn.ext x3
  replace ht := ht.ext x3
  replace X := Ext.trans X x3; clear x3
  refine ops_cons rfl (ow_not rfl ?_)
  refine ops_nil ?_
  refine c_false rfl ?_
  refine c_skip ?_
  refine tq_n ?_
  refine c_seqR ?_
  refine ops_cons rfl (ow_assign rfl ?_)
  refine ops_nil ?_
  refine c_ret ?_
  refine fin_ret1 rfl rfl ?_
  exact ⟨by rfl, X⟩

theorem mayChange_c (A : Option Addr) (B B2 c : Nat) (xs : List ModeI) (fr to : Int) (j : Nat) (x : ModeI) (w : World) (hs : Sl B w A (xs.flatMap ModeI.cells)) (hn : Nexts B2 w xs) (hl : xs.length ≤ 1048576) (hz : ∀ x ∈ xs, x.m.next.length ≤ 1048576) (hT : isMT (xs.map (·.m)) = true) (hj : fr = (j : Int)) (hx : xs[j]? = some x) :
    Calls Tryz.prog 91 #[.slice A xs.length c, .int .i64 fr, .int .i64 to] w (Ret fun v w' => v = .bool (hasB x.m.next to) ∧ Ext w w') := by
  have hlt := (List.getElem?_eq_some_iff.1 hx).1
  have hnl := hz x (List.mem_of_getElem? hx)
  have Bhs := hs.1
  have Bhn := hn.1
  have X := Ext.refl w
  refine calls_of (args := [.slice A xs.length c, .int .i64 fr, .int .i64 to]) Tryz.func91 Tryz.ntmps91 rfl rfl ?_
  refine c_seqR ?_
  refine ops_cons rfl (ow_assign rfl ?_)
  refine ops_nil ?_
  refine c_seqR ?_
  refine ops_cons rfl (ow_move rfl ?_)
  refine ops_cons rfl (ow_move rfl ?_)
  refine ops_cons rfl (ow_buildSlice el85 ti2 rfl rfl rfl rfl rfl ?_)
  intro g1 w3 eg1 oB bbg1 x2 zg1
  replace oB := Own.low oB X.size
  replace hs := hs.ext x2
  replace hn := hn.ext x2
  replace X := Ext.trans X x2; clear x2
  replace oB := oB.to (cs' := ([fr] : List Int).flatMap eI) rfl
  refine ops_cons rfl (ow_call ent121 rfl (ret_mono (modesCodeZ_c _ _ _ _ _ _ _ xs [fr] _ hs hn hl hz oB.sl (by simp) hT (by simp [inB]; omega)) ?_))
  rintro _ w5 ⟨rfl, x4⟩
  replace hs := hs.ext x4
  replace hn := hn.ext x4
  replace oB := oB.ext x4
  replace X := Ext.trans X x4; clear x4
  refine ops_cons rfl (ow_eql2 rfl rfl (fun h6 => ?_) (fun h6 => absurd h6 (by simp)))
  refine ops_cons rfl (ow_move rfl ?_)
  refine ops_want rfl rfl rfl (ow_move rfl ?_)
  refine ops_want rfl rfl rfl (ow_move rfl ?_)
  refine ops_want rfl rfl rfl (ow_indexT hs ModeI.len rfl el30 rfl rfl rfl hx hj ?_)
  have hnx := hn.at_ hx
  refine ops_want rfl rfl rfl (ow_fieldAddr off87_2 rfl ?_)
  refine ops_want rfl rfl rfl (ow_loadTF hs ModeI.len hx ti85 rfl rfl rfl ?_)
  refine ops_want rfl rfl rfl (ow_move rfl ?_)
  refine ops_want rfl rfl rfl (ow_call ent108 rfl (ret_mono (contains_c _ _ _ _ _ _ hnx hnl) ?_))
  rintro _ w8 ⟨rfl, x7⟩
  replace hs := hs.ext x7
  replace hn := hn.ext x7
  replace oB := oB.ext x7
  replace hnx := hnx.ext x7
  replace X := Ext.trans X x7; clear x7
  refine ops_cons rfl (ow_pick rfl rfl ?_)
  refine ops_cons rfl (ow_assign rfl ?_)
  refine ops_nil ?_
  refine c_ret ?_
  refine fin_ret1 rfl rfl ?_
  exact ⟨by rfl, X⟩

theorem sChange_c (m : MedlI) (B : Nat) (s : StateI) (to : Int) (w : World) (hm : Med B w m) (hz : m.small) :
    Calls Tryz.prog 40 #[.agg m.cells.toArray, .agg s.cells.toArray, .int .i64 to] w (Ret fun v w' => v = .tuple #[.agg (changeF m.d s to).1.cells.toArray, .int .i64 (changeF m.d s to).2] ∧ Ext w w') := by
  have hls := hz.ls
  have hlm := hz.lm
  have hln := hz.ln
  have Bhm := hm.1
  have X := Ext.refl w
  refine calls_of (args := [.agg m.cells.toArray, .agg s.cells.toArray, .int .i64 to]) Tryz.func40 Tryz.ntmps40 rfl rfl ?_
  refine c_seqR ?_
  refine ops_cons rfl (ow_box rfl rfl ?_)
  intro g4 w3 eg4 b1 x2 zg4
  have lg4 : w.heap.size ≤ g4 := Nat.le_trans X.size (Nat.le_of_eq eg4.symm)
  have pg4hm := Nat.le_trans hm.1 (Nat.le_of_eq eg4.symm)
  replace hm := hm.ext x2
  replace X := Ext.trans X x2; clear x2
  refine ops_cons rfl (ow_box rfl rfl ?_)
  intro g8 w7 eg8 b5 x6 zg8
  have lg8 : w.heap.size ≤ g8 := Nat.le_trans X.size (Nat.le_of_eq eg8.symm)
  have pg8hm := Nat.le_trans hm.1 (Nat.le_of_eq eg8.symm)
  have ng8b1 := Nat.lt_of_lt_of_eq b1.lt eg8.symm
  replace hm := hm.ext x6
  replace b1 := b1.ext x6
  replace X := Ext.trans X x6; clear x6
  refine ops_cons rfl (ow_alloc ti44 ?_)
  intro g12 w11 eg12 b9 x10 zg12
  have lg12 : w.heap.size ≤ g12 := Nat.le_trans X.size (Nat.le_of_eq eg12.symm)
  have pg12hm := Nat.le_trans hm.1 (Nat.le_of_eq eg12.symm)
  have ng12b1 := Nat.lt_of_lt_of_eq b1.lt eg12.symm
  have ng12b5 := Nat.lt_of_lt_of_eq b5.lt eg12.symm
  replace hm := hm.ext x10
  replace b1 := b1.ext x10
  replace b5 := b5.ext x10
  replace X := Ext.trans X x10; clear x10
  refine ops_cons rfl (ow_assign rfl ?_)
  refine ops_nil ?_
  refine c_seqR ?_
  refine ops_cons rfl (ow_loadAB b1 ti33 rfl rfl ?_)
  refine ops_cons rfl (ow_loadAB b5 ti44 rfl rfl ?_)
  refine ops_cons rfl (ow_call ent82 rfl (ret_mono (l15Code_c m _ s _ hm hz) ?_))
  rintro _ w14 ⟨rfl, x13⟩
  replace hm := hm.ext x13
  replace b1 := b1.ext x13
  replace b5 := b5.ext x13
  replace b9 := b9.ext x13
  replace X := Ext.trans X x13; clear x13
  refine ops_cons rfl (ow_assign rfl ?_)
  refine ops_nil ?_
  refine c_seq ?_
  refine c_seqR ?_
  refine ops_cons rfl (ow_move rfl ?_)
  refine ops_cons rfl (ow_eql2 rfl rfl (fun h1 => ?_) (fun h1 => ?_))
  · skip
    have hm0 := lookC_zero.1 h1
    have wf := isMedl_iff.1 hm0.1
    have hW := wf
    have hB := hm0.2
    obtain ⟨k, x, j, y, bl, hx, hxi, hj, hy, hda, hso, hro, hno, hyd⟩ := bel_get hW hB
    have hst := stateOk_in bl.ok
    have hok : ∀ x ∈ m.ss, slotOk x = true := isST_all hW.st
    have brd := bl.rd
    have bsl := bl.sl
    have hsc := start_cyc hok s.mode s.round s.slot
    have hcy := cyc_in hok s.mode
    have hsi := startD_in hok s.mode s.round s.slot
    have hnl := hz.lx x (List.mem_of_getElem? hx)
    refine ops_cons rfl (ow_move rfl ?_)
    refine ops_want rfl rfl rfl (ow_fieldAddrB off33_2 rfl rfl ?_)
    refine ops_want rfl rfl rfl (ow_loadB b1 ti30 rfl rfl ?_)
    refine ops_want rfl rfl rfl (ow_move rfl ?_)
    refine ops_want rfl rfl rfl (ow_callB ent89 rfl (l11Mode_c _ _ m.ms to _ hlm) (fun w16 hM x15 => ?_) (fun w16 hM x15 => ?_))
    · skip
      replace hm := hm.ext x15
      replace b1 := b1.ext x15
      replace b5 := b5.ext x15
      replace b9 := b9.ext x15
      replace X := Ext.trans X x15; clear x15
      refine ops_want rfl rfl rfl (ow_not rfl ?_)
      refine ops_cons rfl (ow_pick rfl rfl ?_)
      refine ops_nil ?_
      refine c_false rfl ?_
      refine c_skip ?_
      refine tq_n ?_
      refine c_seq ?_
      refine c_seqR ?_
      refine ops_cons rfl (ow_move rfl ?_)
      refine ops_cons rfl (ow_eql2 rfl rfl (fun h2 => ?_) (fun h2 => ?_))
      · skip
        refine ops_cons rfl (ow_move rfl ?_)
        refine ops_want rfl rfl rfl (ow_fieldAddrB off33_2 rfl rfl ?_)
        refine ops_want rfl rfl rfl (ow_loadB b1 ti30 rfl rfl ?_)
        refine ops_want rfl rfl rfl (ow_fieldAddrB off44_1 rfl rfl ?_)
        refine ops_want rfl rfl rfl (ow_loadB b5 ti2 rfl rfl ?_)
        refine ops_want rfl rfl rfl (ow_indexT hm.sm ModeI.len rfl el30 rfl rfl rfl hx bl.md ?_)
        have hnx := hm.sx.at_ hx
        refine ops_want rfl rfl rfl (ow_fieldAddr off87_2 rfl ?_)
        refine ops_want rfl rfl rfl (ow_loadTF hm.sm ModeI.len hx ti85 rfl rfl rfl ?_)
        refine ops_want rfl rfl rfl (ow_move rfl ?_)
        refine ops_want rfl rfl rfl (ow_callB ent90 rfl (l01Has_c _ _ _ _ _ _ hnx hnl) (fun w18 hN x17 => ?_) (fun w18 hN x17 => ?_))
        · skip
          replace hm := hm.ext x17
          replace b1 := b1.ext x17
          replace b5 := b5.ext x17
          replace b9 := b9.ext x17
          replace hnx := hnx.ext x17
          replace X := Ext.trans X x17; clear x17
          refine ops_want rfl rfl rfl (ow_not rfl ?_)
          refine ops_cons rfl (ow_pick rfl rfl ?_)
          refine ops_nil ?_
          refine c_false rfl ?_
          refine c_skip ?_
          refine tq_n ?_
          refine c_seq ?_
          refine c_seqR ?_
          refine ops_cons rfl (ow_move rfl ?_)
          refine ops_cons rfl (ow_neq2 rfl rfl (fun h3 => ?_) (fun h3 => ?_))
          · skip
            exact absurd h1 h3
          · skip
            refine ops_nil ?_
            refine c_false rfl ?_
            refine c_skip ?_
            refine tq_n ?_
            refine c_seqD [false, false, false, false, false, false, false, false, false, false, false, false, false, false] mixed (by kernel_rfl) ?_
            refine f_q rfl (fun wq sq => ow_loadAB (b1.ext sq) ti33 rfl rfl ⟨rfl, Ext.refl _⟩) ?_
            refine f_q rfl (fun wq sq => ow_fieldAddrB off44_1 rfl rfl ⟨rfl, Ext.refl _⟩) ?_
            refine f_q rfl (fun wq sq => ow_loadB (b5.ext sq) ti2 rfl rfl ⟨rfl, Ext.refl _⟩) ?_
            refine f_q rfl (fun wq sq => ow_call ent52 rfl (l13Cycle_c m _ s.mode _ (hm.ext sq) hz hok)) ?_
            refine f_q rfl (fun wq sq => ow_loadAB (b1.ext sq) ti33 rfl rfl ⟨rfl, Ext.refl _⟩) ?_
            refine f_q rfl (fun wq sq => ow_fieldAddrB off44_1 rfl rfl ⟨rfl, Ext.refl _⟩) ?_
            refine f_q rfl (fun wq sq => ow_loadB (b5.ext sq) ti2 rfl rfl ⟨rfl, Ext.refl _⟩) ?_
            refine f_q rfl (fun wq sq => ow_fieldAddrB off44_2 rfl rfl ⟨rfl, Ext.refl _⟩) ?_
            refine f_q rfl (fun wq sq => ow_loadB (b5.ext sq) ti2 rfl rfl ⟨rfl, Ext.refl _⟩) ?_
            refine f_q rfl (fun wq sq => ow_fieldAddrB off44_3 rfl rfl ⟨rfl, Ext.refl _⟩) ?_
            refine f_q rfl (fun wq sq => ow_loadB (b5.ext sq) ti2 rfl rfl ⟨rfl, Ext.refl _⟩) ?_
            refine f_q rfl (fun wq sq => ow_call ent80 rfl (l15Start_c m _ s.mode s.round s.slot _ (hm.ext sq) hz hok)) ?_
            refine f_q rfl (fun wq sq => ow_sub rfl rfl (w64 (by omega)) ⟨rfl, Ext.refl _⟩) ?_
            refine f_q rfl (fun wq sq => ow_assign rfl ⟨rfl, Ext.refl _⟩) ?_
            refine f_nil (fun w19 sq => ?_)
            have xq := sq
            replace hm := hm.ext xq
            replace b1 := b1.ext xq
            replace b5 := b5.ext xq
            replace b9 := b9.ext xq
            replace hnx := hnx.ext xq
            replace X := Ext.trans X xq; clear xq sq
            refine ops_nil ?_
            refine c_seqR ?_
            refine ops_cons rfl (ow_fieldAddrB off44_0 rfl rfl ?_)
            refine ops_cons rfl (ow_loadB b5 ti2 rfl rfl ?_)
            refine ops_cons rfl (ow_move rfl ?_)
            refine ops_cons rfl (ow_add rfl rfl (w64 (by omega)) ?_)
            refine ops_cons rfl (ow_rem rfl rfl (by omega) (m64 (by omega)) ?_)
            generalize ht : (s.time + (cyc m.ss s.mode - startD m.ss s.mode s.round s.slot)) % 65536 = tt
            refine ops_cons rfl (ow_move rfl ?_)
            refine ops_cons rfl (ow_fieldAddrB off44_4 rfl rfl ?_)
            refine ops_cons rfl (ow_loadB b5 ti2 rfl rfl ?_)
            refine ops_cons rfl (ow_buildP pl44 ti44 rfl rfl ?_)
            refine ops_cons rfl (ow_storeB b9 ti44 rfl rfl rfl rfl rfl rfl ?_)
            intro w21 b23 hg20 z22
            replace hm := hm.grown hg20 (by intro g hg; injection hg; omega)
            replace b1 := b1.grown hg20 (by intro h; injection h; omega)
            replace b5 := b5.grown hg20 (by intro h; injection h; omega)
            replace hnx := hnx.grown hg20 (by intro g hg; injection hg; omega)
            replace X := X.grown hg20 X.size (by intro g hg; injection hg; omega)
            clear hg20 b9
            refine ops_cons rfl (ow_assign rfl ?_)
            refine ops_nil ?_
            refine c_ret ?_
            refine fin_cell2 rfl rfl b23 ti44 rfl rfl ?_
            first
            | (rw [change_c h1]; exact ⟨rfl, X⟩)
            | (rw [change_2 h1 hM]; exact ⟨rfl, X⟩)
            | (rw [change_5 h1 hM hno hN]; exact ⟨rfl, X⟩)
            | (rw [change_0 h1 hM hno hN, ht]; exact ⟨rfl, X⟩)
        · skip
          replace hm := hm.ext x17
          replace b1 := b1.ext x17
          replace b5 := b5.ext x17
          replace b9 := b9.ext x17
          replace hnx := hnx.ext x17
          replace X := Ext.trans X x17; clear x17
          refine ops_want rfl rfl rfl (ow_not rfl ?_)
          refine ops_cons rfl (ow_pick rfl rfl ?_)
          refine ops_nil ?_
          refine c_true rfl ?_
          refine c_region ?_
          refine ops_cons rfl (ow_assign rfl ?_)
          refine ops_nil ?_
          refine tq_n ?_
          refine c_seq ?_
          refine c_seqR ?_
          refine ops_cons rfl (ow_move rfl ?_)
          refine ops_cons rfl (ow_neq2 rfl rfl (fun h3 => ?_) (fun h3 => ?_))
          · skip
            refine ops_nil ?_
            refine c_true rfl ?_
            refine c_seqR ?_
            refine ops_cons rfl (ow_buildP pl44 ti44 rfl rfl ?_)
            refine ops_cons rfl (ow_move rfl ?_)
            refine ops_cons rfl (ow_storeB b9 ti44 rfl rfl rfl rfl rfl rfl ?_)
            intro w25 b27 hg24 z26
            replace hm := hm.grown hg24 (by intro g hg; injection hg; omega)
            replace b1 := b1.grown hg24 (by intro h; injection h; omega)
            replace b5 := b5.grown hg24 (by intro h; injection h; omega)
            replace hnx := hnx.grown hg24 (by intro g hg; injection hg; omega)
            replace X := X.grown hg24 X.size (by intro g hg; injection hg; omega)
            clear hg24 b9
            refine ops_cons rfl (ow_assign rfl ?_)
            refine ops_nil ?_
            refine c_ret ?_
            refine tq_r ?_
            refine fin_cell2 rfl rfl b27 ti44 rfl rfl ?_
            first
            | (rw [change_c h1]; exact ⟨rfl, X⟩)
            | (rw [change_2 h1 hM]; exact ⟨rfl, X⟩)
            | (rw [change_5 h1 hM hno hN]; exact ⟨rfl, X⟩)
            | (rw [change_0 h1 hM hno hN, ht]; exact ⟨rfl, X⟩)
          · skip
            exact absurd (by decide) h3
      · skip
        exact absurd h1 h2
    · skip
      replace hm := hm.ext x15
      replace b1 := b1.ext x15
      replace b5 := b5.ext x15
      replace b9 := b9.ext x15
      replace X := Ext.trans X x15; clear x15
      refine ops_want rfl rfl rfl (ow_not rfl ?_)
      refine ops_cons rfl (ow_pick rfl rfl ?_)
      refine ops_nil ?_
      refine c_true rfl ?_
      refine c_region ?_
      refine ops_cons rfl (ow_assign rfl ?_)
      refine ops_nil ?_
      refine tq_n ?_
      refine c_seq ?_
      refine c_seqR ?_
      refine ops_cons rfl (ow_move rfl ?_)
      refine ops_cons rfl (ow_eql2 rfl rfl (fun h2 => ?_) (fun h2 => ?_))
      · skip
        exact absurd h2 (by decide)
      · skip
        refine ops_cons rfl (ow_move rfl ?_)
        refine ops_skip rfl rfl rfl rfl ?_
        refine ops_skip rfl rfl rfl rfl ?_
        refine ops_skip rfl rfl rfl rfl ?_
        refine ops_skip rfl rfl rfl rfl ?_
        refine ops_skip rfl rfl rfl rfl ?_
        refine ops_skip rfl rfl rfl rfl ?_
        refine ops_skip rfl rfl rfl rfl ?_
        refine ops_skip rfl rfl rfl rfl ?_
        refine ops_skip rfl rfl rfl rfl ?_
        refine ops_skip rfl rfl rfl rfl ?_
        refine ops_cons rfl (ow_pick rfl rfl ?_)
        refine ops_nil ?_
        refine c_false rfl ?_
        refine c_skip ?_
        refine tq_n ?_
        refine c_seq ?_
        refine c_seqR ?_
        refine ops_cons rfl (ow_move rfl ?_)
        refine ops_cons rfl (ow_neq2 rfl rfl (fun h3 => ?_) (fun h3 => ?_))
        · skip
          refine ops_nil ?_
          refine c_true rfl ?_
          refine c_seqR ?_
          refine ops_cons rfl (ow_buildP pl44 ti44 rfl rfl ?_)
          refine ops_cons rfl (ow_move rfl ?_)
          refine ops_cons rfl (ow_storeB b9 ti44 rfl rfl rfl rfl rfl rfl ?_)
          intro w29 b31 hg28 z30
          replace hm := hm.grown hg28 (by intro g hg; injection hg; omega)
          replace b1 := b1.grown hg28 (by intro h; injection h; omega)
          replace b5 := b5.grown hg28 (by intro h; injection h; omega)
          replace X := X.grown hg28 X.size (by intro g hg; injection hg; omega)
          clear hg28 b9
          refine ops_cons rfl (ow_assign rfl ?_)
          refine ops_nil ?_
          refine c_ret ?_
          refine tq_r ?_
          refine fin_cell2 rfl rfl b31 ti44 rfl rfl ?_
          first
          | (rw [change_c h1]; exact ⟨rfl, X⟩)
          | (rw [change_2 h1 hM]; exact ⟨rfl, X⟩)
          | (rw [change_5 h1 hM hno hN]; exact ⟨rfl, X⟩)
          | (rw [change_0 h1 hM hno hN, ht]; exact ⟨rfl, X⟩)
        · skip
          exact absurd (by decide) h3
  · skip
    refine ops_cons rfl (ow_move rfl ?_)
    refine ops_skip rfl rfl rfl rfl ?_
    refine ops_skip rfl rfl rfl rfl ?_
    refine ops_skip rfl rfl rfl rfl ?_
    refine ops_skip rfl rfl rfl rfl ?_
    refine ops_skip rfl rfl rfl rfl ?_
    refine ops_cons rfl (ow_pick rfl rfl ?_)
    refine ops_nil ?_
    refine c_false rfl ?_
    refine c_skip ?_
    refine tq_n ?_
    refine c_seq ?_
    refine c_seqR ?_
    refine ops_cons rfl (ow_move rfl ?_)
    refine ops_cons rfl (ow_eql2 rfl rfl (fun h2 => ?_) (fun h2 => ?_))
    · skip
      exact absurd h2 h1
    · skip
      refine ops_cons rfl (ow_move rfl ?_)
      refine ops_skip rfl rfl rfl rfl ?_
      refine ops_skip rfl rfl rfl rfl ?_
      refine ops_skip rfl rfl rfl rfl ?_
      refine ops_skip rfl rfl rfl rfl ?_
      refine ops_skip rfl rfl rfl rfl ?_
      refine ops_skip rfl rfl rfl rfl ?_
      refine ops_skip rfl rfl rfl rfl ?_
      refine ops_skip rfl rfl rfl rfl ?_
      refine ops_skip rfl rfl rfl rfl ?_
      refine ops_skip rfl rfl rfl rfl ?_
      refine ops_cons rfl (ow_pick rfl rfl ?_)
      refine ops_nil ?_
      refine c_false rfl ?_
      refine c_skip ?_
      refine tq_n ?_
      refine c_seq ?_
      refine c_seqR ?_
      refine ops_cons rfl (ow_move rfl ?_)
      refine ops_cons rfl (ow_neq2 rfl rfl (fun h3 => ?_) (fun h3 => ?_))
      · skip
        refine ops_nil ?_
        refine c_true rfl ?_
        refine c_seqR ?_
        refine ops_cons rfl (ow_buildP pl44 ti44 rfl rfl ?_)
        refine ops_cons rfl (ow_move rfl ?_)
        refine ops_cons rfl (ow_storeB b9 ti44 rfl rfl rfl rfl rfl rfl ?_)
        intro w33 b35 hg32 z34
        replace hm := hm.grown hg32 (by intro g hg; injection hg; omega)
        replace b1 := b1.grown hg32 (by intro h; injection h; omega)
        replace b5 := b5.grown hg32 (by intro h; injection h; omega)
        replace X := X.grown hg32 X.size (by intro g hg; injection hg; omega)
        clear hg32 b9
        refine ops_cons rfl (ow_assign rfl ?_)
        refine ops_nil ?_
        refine c_ret ?_
        refine tq_r ?_
        refine fin_cell2 rfl rfl b35 ti44 rfl rfl ?_
        first
        | (rw [change_c h1]; exact ⟨rfl, X⟩)
        | (rw [change_2 h1 hM]; exact ⟨rfl, X⟩)
        | (rw [change_5 h1 hM hno hN]; exact ⟨rfl, X⟩)
        | (rw [change_0 h1 hM hno hN, ht]; exact ⟨rfl, X⟩)
      · skip
        exact absurd h1 h3

theorem iChange_c (m : MedlI) (B : Nat) (s : StateI) (to : Int) (w : World) (hm : Med B w m) (hz : m.small) :
    Calls Tryz.prog 41 #[.agg m.cells.toArray, .agg s.cells.toArray, .int .i64 to] w (Ret fun v w' => v = .tuple #[.agg (changeF m.d s to).1.cells.toArray, .int .i64 (changeF m.d s to).2] ∧ Ext w w') := by
  have hls := hz.ls
  have hlm := hz.lm
  have hln := hz.ln
  have Bhm := hm.1
  have X := Ext.refl w
  refine calls_of (args := [.agg m.cells.toArray, .agg s.cells.toArray, .int .i64 to]) Tryz.func41 Tryz.ntmps41 rfl rfl ?_
  refine c_seqR ?_
  refine ops_cons rfl (ow_box rfl rfl ?_)
  intro g4 w3 eg4 b1 x2 zg4
  have lg4 : w.heap.size ≤ g4 := Nat.le_trans X.size (Nat.le_of_eq eg4.symm)
  have pg4hm := Nat.le_trans hm.1 (Nat.le_of_eq eg4.symm)
  replace hm := hm.ext x2
  replace X := Ext.trans X x2; clear x2
  refine ops_cons rfl (ow_box rfl rfl ?_)
  intro g8 w7 eg8 b5 x6 zg8
  have lg8 : w.heap.size ≤ g8 := Nat.le_trans X.size (Nat.le_of_eq eg8.symm)
  have pg8hm := Nat.le_trans hm.1 (Nat.le_of_eq eg8.symm)
  have ng8b1 := Nat.lt_of_lt_of_eq b1.lt eg8.symm
  replace hm := hm.ext x6
  replace b1 := b1.ext x6
  replace X := Ext.trans X x6; clear x6
  refine ops_cons rfl (ow_alloc ti44 ?_)
  intro g12 w11 eg12 b9 x10 zg12
  have lg12 : w.heap.size ≤ g12 := Nat.le_trans X.size (Nat.le_of_eq eg12.symm)
  have pg12hm := Nat.le_trans hm.1 (Nat.le_of_eq eg12.symm)
  have ng12b1 := Nat.lt_of_lt_of_eq b1.lt eg12.symm
  have ng12b5 := Nat.lt_of_lt_of_eq b5.lt eg12.symm
  replace hm := hm.ext x10
  replace b1 := b1.ext x10
  replace b5 := b5.ext x10
  replace X := Ext.trans X x10; clear x10
  refine ops_cons rfl (ow_assign rfl ?_)
  refine ops_nil ?_
  refine c_seq ?_
  refine c_seqR ?_
  refine ops_cons rfl (ow_loadAB b1 ti33 rfl rfl ?_)
  refine ops_cons rfl (ow_loadAB b5 ti44 rfl rfl ?_)
  refine ops_cons rfl (ow_call ent84 rfl (ret_mono (lookCode_c m _ s _ hm hz) ?_))
  rintro _ w14 ⟨rfl, x13⟩
  replace hm := hm.ext x13
  replace b1 := b1.ext x13
  replace b5 := b5.ext x13
  replace b9 := b9.ext x13
  replace X := Ext.trans X x13; clear x13
  refine ops_cons rfl (ow_assign rfl ?_)
  refine ops_nil ?_
  refine c_seqR ?_
  refine ops_cons rfl (ow_move rfl ?_)
  refine ops_cons rfl (ow_neq2 rfl rfl (fun h1 => ?_) (fun h1 => ?_))
  · skip
    refine ops_nil ?_
    refine c_true rfl ?_
    refine c_seqR ?_
    refine ops_cons rfl (ow_buildP pl44 ti44 rfl rfl ?_)
    refine ops_cons rfl (ow_move rfl ?_)
    refine ops_cons rfl (ow_storeB b9 ti44 rfl rfl rfl rfl rfl rfl ?_)
    intro w16 b18 hg15 z17
    replace hm := hm.grown hg15 (by intro g hg; injection hg; omega)
    replace b1 := b1.grown hg15 (by intro h; injection h; omega)
    replace b5 := b5.grown hg15 (by intro h; injection h; omega)
    replace X := X.grown hg15 X.size (by intro g hg; injection hg; omega)
    clear hg15 b9
    refine ops_cons rfl (ow_assign rfl ?_)
    refine ops_nil ?_
    refine c_ret ?_
    refine tq_r ?_
    refine fin_cell2 rfl rfl b18 ti44 rfl rfl ?_
    first
    | (rw [change_c h1]; exact ⟨rfl, X⟩)
    | (rw [change_2 h1 hM]; exact ⟨rfl, X⟩)
    | (rw [change_5 h1 hM hno hN]; exact ⟨rfl, X⟩)
    | (rw [change_0 h1 hM hno hN, ht]; exact ⟨rfl, X⟩)
  · skip
    replace h1 : lookC m.d s = 0 := by omega
    have hm0 := lookC_zero.1 h1
    have wf := isMedl_iff.1 hm0.1
    have hW := wf
    have hB := hm0.2
    obtain ⟨k, x, j, y, bl, hx, hxi, hj, hy, hda, hso, hro, hno, hyd⟩ := bel_get hW hB
    have hst := stateOk_in bl.ok
    have hok : ∀ x ∈ m.ss, slotOk x = true := isST_all hW.st
    have brd := bl.rd
    have bsl := bl.sl
    have hsc := start_cyc hok s.mode s.round s.slot
    have hcy := cyc_in hok s.mode
    have hsi := startD_in hok s.mode s.round s.slot
    have hnl := hz.lx x (List.mem_of_getElem? hx)
    refine ops_nil ?_
    refine c_false rfl ?_
    refine c_skip ?_
    refine tq_n ?_
    refine c_seq ?_
    refine c_seqR ?_
    refine ops_cons rfl (ow_move rfl ?_)
    refine ops_cons rfl (ow_fieldAddrB off33_2 rfl rfl ?_)
    refine ops_cons rfl (ow_loadB b1 ti30 rfl rfl ?_)
    refine ops_cons rfl (ow_len Tryz.underlying30 rfl ?_)
    refine ops_cons rfl (ow_sub rfl rfl (w64 (by omega)) ?_)
    refine ops_cons rfl (ow_callB ent61 rfl (within_c _ _ _ _) (fun w20 hM x19 => ?_) (fun w20 hM x19 => ?_))
    · skip
      replace hm := hm.ext x19
      replace b1 := b1.ext x19
      replace b5 := b5.ext x19
      replace b9 := b9.ext x19
      replace X := Ext.trans X x19; clear x19
      refine ops_cons rfl (ow_not rfl ?_)
      refine ops_nil ?_
      refine c_false rfl ?_
      refine c_skip ?_
      refine tq_n ?_
      refine c_seq ?_
      refine c_seqR ?_
      refine ops_cons rfl (ow_fieldAddrB off33_2 rfl rfl ?_)
      refine ops_cons rfl (ow_loadB b1 ti30 rfl rfl ?_)
      refine ops_cons rfl (ow_fieldAddrB off44_1 rfl rfl ?_)
      refine ops_cons rfl (ow_loadB b5 ti2 rfl rfl ?_)
      refine ops_cons rfl (ow_move rfl ?_)
      refine ops_cons rfl (ow_callB ent91 rfl (mayChange_c _ _ _ _ m.ms s.mode to k x _ hm.sm hm.sx hlm hz.lx wf.mt bl.md hx) (fun w22 hN x21 => ?_) (fun w22 hN x21 => ?_))
      · skip
        replace hm := hm.ext x21
        replace b1 := b1.ext x21
        replace b5 := b5.ext x21
        replace b9 := b9.ext x21
        replace X := Ext.trans X x21; clear x21
        refine ops_cons rfl (ow_not rfl ?_)
        refine ops_nil ?_
        refine c_false rfl ?_
        refine c_skip ?_
        refine tq_n ?_
        refine c_seqD [false, false, false, false, false, false, false, false, false] mixed (by kernel_rfl) ?_
        refine f_q rfl (fun wq sq => ow_loadAB (b1.ext sq) ti33 rfl rfl ⟨rfl, Ext.refl _⟩) ?_
        refine f_q rfl (fun wq sq => ow_fieldAddrB off44_1 rfl rfl ⟨rfl, Ext.refl _⟩) ?_
        refine f_q rfl (fun wq sq => ow_loadB (b5.ext sq) ti2 rfl rfl ⟨rfl, Ext.refl _⟩) ?_
        refine f_q rfl (fun wq sq => ow_call ent79 rfl (cycleTime_c m _ s.mode _ (hm.ext sq) hz hok)) ?_
        refine f_q rfl (fun wq sq => ow_loadAB (b1.ext sq) ti33 rfl rfl ⟨rfl, Ext.refl _⟩) ?_
        refine f_q rfl (fun wq sq => ow_loadAB (b5.ext sq) ti44 rfl rfl ⟨rfl, Ext.refl _⟩) ?_
        refine f_q rfl (fun wq sq => ow_call ent86 rfl (slotStart_c m _ s _ (hm.ext sq) hz wf hB)) ?_
        refine f_q rfl (fun wq sq => ow_sub rfl rfl (w64 (by omega)) ⟨rfl, Ext.refl _⟩) ?_
        refine f_q rfl (fun wq sq => ow_assign rfl ⟨rfl, Ext.refl _⟩) ?_
        refine f_nil (fun w23 sq => ?_)
        have xq := sq
        replace hm := hm.ext xq
        replace b1 := b1.ext xq
        replace b5 := b5.ext xq
        replace b9 := b9.ext xq
        replace X := Ext.trans X xq; clear xq sq
        refine ops_nil ?_
        refine c_seqR ?_
        refine ops_cons rfl (ow_fieldAddrB off44_0 rfl rfl ?_)
        refine ops_cons rfl (ow_loadB b5 ti2 rfl rfl ?_)
        refine ops_cons rfl (ow_move rfl ?_)
        refine ops_cons rfl (ow_add rfl rfl (w64 (by omega)) ?_)
        refine ops_cons rfl (ow_rem rfl rfl (by omega) (m64 (by omega)) ?_)
        generalize ht : (s.time + (cyc m.ss s.mode - startD m.ss s.mode s.round s.slot)) % 65536 = tt
        refine ops_cons rfl (ow_move rfl ?_)
        refine ops_cons rfl (ow_fieldAddrB off44_4 rfl rfl ?_)
        refine ops_cons rfl (ow_loadB b5 ti2 rfl rfl ?_)
        refine ops_cons rfl (ow_buildP pl44 ti44 rfl rfl ?_)
        refine ops_cons rfl (ow_storeB b9 ti44 rfl rfl rfl rfl rfl rfl ?_)
        intro w25 b27 hg24 z26
        replace hm := hm.grown hg24 (by intro g hg; injection hg; omega)
        replace b1 := b1.grown hg24 (by intro h; injection h; omega)
        replace b5 := b5.grown hg24 (by intro h; injection h; omega)
        replace X := X.grown hg24 X.size (by intro g hg; injection hg; omega)
        clear hg24 b9
        refine ops_cons rfl (ow_assign rfl ?_)
        refine ops_nil ?_
        refine c_ret ?_
        refine fin_cell2 rfl rfl b27 ti44 rfl rfl ?_
        first
        | (rw [change_c h1]; exact ⟨rfl, X⟩)
        | (rw [change_2 h1 hM]; exact ⟨rfl, X⟩)
        | (rw [change_5 h1 hM hno hN]; exact ⟨rfl, X⟩)
        | (rw [change_0 h1 hM hno hN, ht]; exact ⟨rfl, X⟩)
      · skip
        replace hm := hm.ext x21
        replace b1 := b1.ext x21
        replace b5 := b5.ext x21
        replace b9 := b9.ext x21
        replace X := Ext.trans X x21; clear x21
        refine ops_cons rfl (ow_not rfl ?_)
        refine ops_nil ?_
        refine c_true rfl ?_
        refine c_seqR ?_
        refine ops_cons rfl (ow_buildP pl44 ti44 rfl rfl ?_)
        refine ops_cons rfl (ow_storeB b9 ti44 rfl rfl rfl rfl rfl rfl ?_)
        intro w29 b31 hg28 z30
        replace hm := hm.grown hg28 (by intro g hg; injection hg; omega)
        replace b1 := b1.grown hg28 (by intro h; injection h; omega)
        replace b5 := b5.grown hg28 (by intro h; injection h; omega)
        replace X := X.grown hg28 X.size (by intro g hg; injection hg; omega)
        clear hg28 b9
        refine ops_cons rfl (ow_assign rfl ?_)
        refine ops_nil ?_
        refine c_ret ?_
        refine tq_r ?_
        refine fin_cell2 rfl rfl b31 ti44 rfl rfl ?_
        first
        | (rw [change_c h1]; exact ⟨rfl, X⟩)
        | (rw [change_2 h1 hM]; exact ⟨rfl, X⟩)
        | (rw [change_5 h1 hM hno hN]; exact ⟨rfl, X⟩)
        | (rw [change_0 h1 hM hno hN, ht]; exact ⟨rfl, X⟩)
    · skip
      replace hm := hm.ext x19
      replace b1 := b1.ext x19
      replace b5 := b5.ext x19
      replace b9 := b9.ext x19
      replace X := Ext.trans X x19; clear x19
      refine ops_cons rfl (ow_not rfl ?_)
      refine ops_nil ?_
      refine c_true rfl ?_
      refine c_seqR ?_
      refine ops_cons rfl (ow_buildP pl44 ti44 rfl rfl ?_)
      refine ops_cons rfl (ow_storeB b9 ti44 rfl rfl rfl rfl rfl rfl ?_)
      intro w33 b35 hg32 z34
      replace hm := hm.grown hg32 (by intro g hg; injection hg; omega)
      replace b1 := b1.grown hg32 (by intro h; injection h; omega)
      replace b5 := b5.grown hg32 (by intro h; injection h; omega)
      replace X := X.grown hg32 X.size (by intro g hg; injection hg; omega)
      clear hg32 b9
      refine ops_cons rfl (ow_assign rfl ?_)
      refine ops_nil ?_
      refine c_ret ?_
      refine tq_r ?_
      refine fin_cell2 rfl rfl b35 ti44 rfl rfl ?_
      first
      | (rw [change_c h1]; exact ⟨rfl, X⟩)
      | (rw [change_2 h1 hM]; exact ⟨rfl, X⟩)
      | (rw [change_5 h1 hM hno hN]; exact ⟨rfl, X⟩)
      | (rw [change_0 h1 hM hno hN, ht]; exact ⟨rfl, X⟩)
end Go.Proofs.YtfmihehpdfmgfaaGreatDoor
