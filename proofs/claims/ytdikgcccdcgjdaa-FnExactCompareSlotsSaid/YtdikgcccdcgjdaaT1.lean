/- What the functions that compare slots compute, each walked once. No condition. -/
import Derived.Test.YtdikgcccdcgjdaaFlowT
import Derived.Test.YtdikgcccdcgjdaaFlowF
namespace Go.Proofs.Ytdikgcccdcgjdaa
open Go.RowKit
set_option linter.unusedVariables false
theorem compare_c (a b : Int) (w : World)  :
    Calls Try.prog 33 #[.int .i64 a, .int .i64 b] w (Ret fun v w' => v = .int .i64 (cmpI a b) ∧ Ext w w') := by
  have X := Ext.refl w
  refine calls_of (args := [.int .i64 a, .int .i64 b]) Try.func33 Try.ntmps33 rfl rfl ?_
  refine c_seqR ?_
  refine ops_cons rfl (ow_assign rfl ?_)
  refine ops_nil ?_
  refine c_seq ?_
  refine c_block ?_
  refine c_seqR ?_
  refine ops_cons rfl (ow_move rfl ?_)
  refine ops_cons rfl (ow_move rfl ?_)
  refine ops_cons rfl (ow_lss2 rfl rfl (fun h1 => ?_) (fun h1 => ?_))
  · skip
    refine ops_cons rfl (ow_assign rfl ?_)
    refine ops_nil ?_
    refine c_true rfl ?_
    refine c_seqR ?_
    refine ops_cons rfl (ow_assign rfl ?_)
    refine ops_nil ?_
    refine c_ret ?_
    refine bq_r ?_
    refine tq_r ?_
    refine fin_ret1 rfl rfl ?_
    exact ⟨by simp [cmpI, *] <;> omega, X⟩
  · skip
    refine ops_cons rfl (ow_assign rfl ?_)
    refine ops_nil ?_
    refine c_false rfl ?_
    refine c_seqR ?_
    refine ops_cons rfl (ow_move rfl ?_)
    refine ops_cons rfl (ow_move rfl ?_)
    refine ops_cons rfl (ow_gtr2 rfl rfl (fun h2 => ?_) (fun h2 => ?_))
    · skip
      refine ops_cons rfl (ow_assign rfl ?_)
      refine ops_nil ?_
      refine c_true rfl ?_
      refine c_seqR ?_
      refine ops_cons rfl (ow_assign rfl ?_)
      refine ops_nil ?_
      refine c_ret ?_
      refine bq_r ?_
      refine tq_r ?_
      refine fin_ret1 rfl rfl ?_
      exact ⟨by simp [cmpI, *] <;> omega, X⟩
    · skip
      refine ops_cons rfl (ow_assign rfl ?_)
      refine ops_nil ?_
      refine c_false rfl ?_
      refine c_skip ?_
      refine bq_n ?_
      refine tq_n ?_
      refine c_seqR ?_
      refine ops_cons rfl (ow_assign rfl ?_)
      refine ops_nil ?_
      refine c_ret ?_
      refine fin_ret1 rfl rfl ?_
      exact ⟨by simp [cmpI, *] <;> omega, X⟩

theorem iCompareSlots_c (a b : SlotI) (w : World)  :
    Calls Try.prog 11 #[.agg a.cells.toArray, .agg b.cells.toArray] w (Ret fun v w' => v = .int .i64 (cmpS a b) ∧ Ext w w') := by
  have X := Ext.refl w
  refine calls_of (args := [.agg a.cells.toArray, .agg b.cells.toArray]) Try.func11 Try.ntmps11 rfl rfl ?_
  refine c_seqR ?_
  refine ops_cons rfl (ow_box rfl rfl ?_)
  intro g4 w3 eg4 b1 x2 zg4
  replace X := Ext.trans X x2; clear x2
  refine ops_cons rfl (ow_box rfl rfl ?_)
  intro g8 w7 eg8 b5 x6 zg8
  replace b1 := b1.ext x6
  replace X := Ext.trans X x6; clear x6
  refine ops_cons rfl (ow_assign rfl ?_)
  refine ops_nil ?_
  refine c_seq ?_
  refine c_seqR ?_
  refine ops_cons rfl (ow_fieldAddrB off29_0 rfl rfl ?_)
  refine ops_cons rfl (ow_loadB b1 ti2 rfl rfl ?_)
  refine ops_cons rfl (ow_fieldAddrB off29_0 rfl rfl ?_)
  refine ops_cons rfl (ow_loadB b5 ti2 rfl rfl ?_)
  refine ops_cons rfl (ow_neq2 rfl rfl (fun h9 => ?_) (fun h9 => ?_))
  · skip
    refine ops_nil ?_
    refine c_true rfl ?_
    refine c_seqR ?_
    refine ops_cons rfl (ow_fieldAddrB off29_0 rfl rfl ?_)
    refine ops_cons rfl (ow_loadB b1 ti2 rfl rfl ?_)
    refine ops_cons rfl (ow_fieldAddrB off29_0 rfl rfl ?_)
    refine ops_cons rfl (ow_loadB b5 ti2 rfl rfl ?_)
    refine ops_cons rfl (ow_call ent33 rfl (ret_mono (compare_c _ _ _) ?_))
    rintro _ w11 ⟨rfl, x10⟩
    replace b1 := b1.ext x10
    replace b5 := b5.ext x10
    replace X := Ext.trans X x10; clear x10
    refine ops_cons rfl (ow_assign rfl ?_)
    refine ops_nil ?_
    refine c_ret ?_
    refine tq_r ?_
    refine fin_ret1 rfl rfl ?_
    exact ⟨by simp [cmpS, *], X⟩
  · skip
    refine ops_nil ?_
    refine c_false rfl ?_
    refine c_skip ?_
    refine tq_n ?_
    refine c_seq ?_
    refine c_seqR ?_
    refine ops_cons rfl (ow_fieldAddrB off29_1 rfl rfl ?_)
    refine ops_cons rfl (ow_loadB b1 ti2 rfl rfl ?_)
    refine ops_cons rfl (ow_fieldAddrB off29_1 rfl rfl ?_)
    refine ops_cons rfl (ow_loadB b5 ti2 rfl rfl ?_)
    refine ops_cons rfl (ow_neq2 rfl rfl (fun h12 => ?_) (fun h12 => ?_))
    · skip
      refine ops_nil ?_
      refine c_true rfl ?_
      refine c_seqR ?_
      refine ops_cons rfl (ow_fieldAddrB off29_1 rfl rfl ?_)
      refine ops_cons rfl (ow_loadB b1 ti2 rfl rfl ?_)
      refine ops_cons rfl (ow_fieldAddrB off29_1 rfl rfl ?_)
      refine ops_cons rfl (ow_loadB b5 ti2 rfl rfl ?_)
      refine ops_cons rfl (ow_call ent33 rfl (ret_mono (compare_c _ _ _) ?_))
      rintro _ w14 ⟨rfl, x13⟩
      replace b1 := b1.ext x13
      replace b5 := b5.ext x13
      replace X := Ext.trans X x13; clear x13
      refine ops_cons rfl (ow_assign rfl ?_)
      refine ops_nil ?_
      refine c_ret ?_
      refine tq_r ?_
      refine fin_ret1 rfl rfl ?_
      exact ⟨by simp [cmpS, *], X⟩
    · skip
      refine ops_nil ?_
      refine c_false rfl ?_
      refine c_skip ?_
      refine tq_n ?_
      refine c_seqR ?_
      refine ops_cons rfl (ow_fieldAddrB off29_2 rfl rfl ?_)
      refine ops_cons rfl (ow_loadB b1 ti2 rfl rfl ?_)
      refine ops_cons rfl (ow_fieldAddrB off29_2 rfl rfl ?_)
      refine ops_cons rfl (ow_loadB b5 ti2 rfl rfl ?_)
      refine ops_cons rfl (ow_call ent33 rfl (ret_mono (compare_c _ _ _) ?_))
      rintro _ w16 ⟨rfl, x15⟩
      replace b1 := b1.ext x15
      replace b5 := b5.ext x15
      replace X := Ext.trans X x15; clear x15
      refine ops_cons rfl (ow_assign rfl ?_)
      refine ops_nil ?_
      refine c_ret ?_
      refine fin_ret1 rfl rfl ?_
      exact ⟨by simp [cmpS, *], X⟩

theorem toDescriptor_c (d : Desc) (w : World)  :
    Calls Try.prog 32 #[.agg d.cells.toArray] w (Ret fun v w' => v = .agg d.cells.toArray ∧ Ext w w') := by
  have X := Ext.refl w
  refine calls_of (args := [.agg d.cells.toArray]) Try.func32 Try.ntmps32 rfl rfl ?_
  refine c_seqR ?_
  refine ops_cons rfl (ow_box rfl rfl ?_)
  intro g4 w3 eg4 b1 x2 zg4
  replace X := Ext.trans X x2; clear x2
  refine ops_cons rfl (ow_alloc ti27 ?_)
  intro g8 w7 eg8 b5 x6 zg8
  replace b1 := b1.ext x6
  replace X := Ext.trans X x6; clear x6
  refine ops_nil ?_
  refine c_seqR ?_
  refine ops_cons rfl (ow_alloc ti27 ?_)
  intro g12 w11 eg12 b9 x10 zg12
  replace b1 := b1.ext x10
  replace b5 := b5.ext x10
  replace X := Ext.trans X x10; clear x10
  refine ops_nil ?_
  refine c_seqR ?_
  refine ops_cons rfl (ow_fieldAddrB off23_0 rfl rfl ?_)
  refine ops_cons rfl (ow_loadB b1 ti2 rfl rfl ?_)
  refine ops_cons rfl (ow_fieldAddrB off27_0 rfl rfl ?_)
  refine ops_cons rfl (ow_storeB b9 ti2 rfl rfl rfl rfl rfl rfl ?_)
  intro w14 b16 hg13 z15
  replace b1 := b1.grown hg13 (by first | (intro h; injection h; omega) | (intro g hg; injection hg; omega))
  replace b5 := b5.grown hg13 (by first | (intro h; injection h; omega) | (intro g hg; injection hg; omega))
  replace X := X.grown hg13 X.size (by intro g hg; injection hg; omega)
  clear hg13 b9
  refine ops_nil ?_
  refine c_seqR ?_
  refine ops_cons rfl (ow_fieldAddrB off23_1 rfl rfl ?_)
  refine ops_cons rfl (ow_loadB b1 ti2 rfl rfl ?_)
  refine ops_cons rfl (ow_fieldAddrB off27_1 rfl rfl ?_)
  refine ops_cons rfl (ow_storeB b16 ti2 rfl rfl rfl rfl rfl rfl ?_)
  intro w18 b20 hg17 z19
  replace b1 := b1.grown hg17 (by first | (intro h; injection h; omega) | (intro g hg; injection hg; omega))
  replace b5 := b5.grown hg17 (by first | (intro h; injection h; omega) | (intro g hg; injection hg; omega))
  replace X := X.grown hg17 X.size (by intro g hg; injection hg; omega)
  clear hg17 b16
  refine ops_nil ?_
  refine c_seqR ?_
  refine ops_cons rfl (ow_fieldAddrB off23_2 rfl rfl ?_)
  refine ops_cons rfl (ow_loadB b1 ti2 rfl rfl ?_)
  refine ops_cons rfl (ow_fieldAddrB off27_2 rfl rfl ?_)
  refine ops_cons rfl (ow_storeB b20 ti2 rfl rfl rfl rfl rfl rfl ?_)
  intro w22 b24 hg21 z23
  replace b1 := b1.grown hg21 (by first | (intro h; injection h; omega) | (intro g hg; injection hg; omega))
  replace b5 := b5.grown hg21 (by first | (intro h; injection h; omega) | (intro g hg; injection hg; omega))
  replace X := X.grown hg21 X.size (by intro g hg; injection hg; omega)
  clear hg21 b20
  refine ops_nil ?_
  refine c_seqR ?_
  refine ops_cons rfl (ow_fieldAddrB off23_3 rfl rfl ?_)
  refine ops_cons rfl (ow_loadB b1 ti2 rfl rfl ?_)
  refine ops_cons rfl (ow_fieldAddrB off27_3 rfl rfl ?_)
  refine ops_cons rfl (ow_storeB b24 ti2 rfl rfl rfl rfl rfl rfl ?_)
  intro w26 b28 hg25 z27
  replace b1 := b1.grown hg25 (by first | (intro h; injection h; omega) | (intro g hg; injection hg; omega))
  replace b5 := b5.grown hg25 (by first | (intro h; injection h; omega) | (intro g hg; injection hg; omega))
  replace X := X.grown hg25 X.size (by intro g hg; injection hg; omega)
  clear hg25 b24
  refine ops_nil ?_
  refine c_seqR ?_
  refine ops_cons rfl (ow_fieldAddrB off23_4 rfl rfl ?_)
  refine ops_cons rfl (ow_loadB b1 ti4 rfl rfl ?_)
  refine ops_cons rfl (ow_fieldAddrB off27_4 rfl rfl ?_)
  refine ops_cons rfl (ow_storeB b28 ti4 rfl rfl rfl rfl rfl rfl ?_)
  intro w30 b32 hg29 z31
  replace b1 := b1.grown hg29 (by first | (intro h; injection h; omega) | (intro g hg; injection hg; omega))
  replace b5 := b5.grown hg29 (by first | (intro h; injection h; omega) | (intro g hg; injection hg; omega))
  replace X := X.grown hg29 X.size (by intro g hg; injection hg; omega)
  clear hg29 b28
  refine ops_nil ?_
  refine c_seqR ?_
  refine ops_cons rfl (ow_loadAB b32 ti27 rfl rfl ?_)
  refine ops_cons rfl (ow_storeB b5 ti27 rfl rfl rfl rfl rfl rfl ?_)
  intro w34 b36 hg33 z35
  replace b1 := b1.grown hg33 (by first | (intro h; injection h; omega) | (intro g hg; injection hg; omega))
  replace b32 := b32.grown hg33 (by first | (intro h; injection h; omega) | (intro g hg; injection hg; omega))
  replace X := X.grown hg33 X.size (by intro g hg; injection hg; omega)
  clear hg33 b5
  refine ops_nil ?_
  refine c_ret ?_
  refine fin_cell1 rfl rfl b36 ti27 rfl ?_
  exact ⟨by rfl, X⟩

theorem toSlotInfo_c (d : SlotI) (w : World)  :
    Calls Try.prog 10 #[.agg d.cells.toArray] w (Ret fun v w' => v = .agg d.cells.toArray ∧ Ext w w') := by
  have X := Ext.refl w
  refine calls_of (args := [.agg d.cells.toArray]) Try.func10 Try.ntmps10 rfl rfl ?_
  refine c_seqR ?_
  refine ops_cons rfl (ow_box rfl rfl ?_)
  intro g4 w3 eg4 b1 x2 zg4
  replace X := Ext.trans X x2; clear x2
  refine ops_cons rfl (ow_alloc ti29 ?_)
  intro g8 w7 eg8 b5 x6 zg8
  replace b1 := b1.ext x6
  replace X := Ext.trans X x6; clear x6
  refine ops_nil ?_
  refine c_seqR ?_
  refine ops_cons rfl (ow_alloc ti29 ?_)
  intro g12 w11 eg12 b9 x10 zg12
  replace b1 := b1.ext x10
  replace b5 := b5.ext x10
  replace X := Ext.trans X x10; clear x10
  refine ops_nil ?_
  refine c_seqR ?_
  refine ops_cons rfl (ow_fieldAddrB off25_0 rfl rfl ?_)
  refine ops_cons rfl (ow_loadB b1 ti2 rfl rfl ?_)
  refine ops_cons rfl (ow_fieldAddrB off29_0 rfl rfl ?_)
  refine ops_cons rfl (ow_storeB b9 ti2 rfl rfl rfl rfl rfl rfl ?_)
  intro w14 b16 hg13 z15
  replace b1 := b1.grown hg13 (by first | (intro h; injection h; omega) | (intro g hg; injection hg; omega))
  replace b5 := b5.grown hg13 (by first | (intro h; injection h; omega) | (intro g hg; injection hg; omega))
  replace X := X.grown hg13 X.size (by intro g hg; injection hg; omega)
  clear hg13 b9
  refine ops_nil ?_
  refine c_seqR ?_
  refine ops_cons rfl (ow_fieldAddrB off25_1 rfl rfl ?_)
  refine ops_cons rfl (ow_loadB b1 ti2 rfl rfl ?_)
  refine ops_cons rfl (ow_fieldAddrB off29_1 rfl rfl ?_)
  refine ops_cons rfl (ow_storeB b16 ti2 rfl rfl rfl rfl rfl rfl ?_)
  intro w18 b20 hg17 z19
  replace b1 := b1.grown hg17 (by first | (intro h; injection h; omega) | (intro g hg; injection hg; omega))
  replace b5 := b5.grown hg17 (by first | (intro h; injection h; omega) | (intro g hg; injection hg; omega))
  replace X := X.grown hg17 X.size (by intro g hg; injection hg; omega)
  clear hg17 b16
  refine ops_nil ?_
  refine c_seqR ?_
  refine ops_cons rfl (ow_fieldAddrB off25_2 rfl rfl ?_)
  refine ops_cons rfl (ow_loadB b1 ti2 rfl rfl ?_)
  refine ops_cons rfl (ow_fieldAddrB off29_2 rfl rfl ?_)
  refine ops_cons rfl (ow_storeB b20 ti2 rfl rfl rfl rfl rfl rfl ?_)
  intro w22 b24 hg21 z23
  replace b1 := b1.grown hg21 (by first | (intro h; injection h; omega) | (intro g hg; injection hg; omega))
  replace b5 := b5.grown hg21 (by first | (intro h; injection h; omega) | (intro g hg; injection hg; omega))
  replace X := X.grown hg21 X.size (by intro g hg; injection hg; omega)
  clear hg21 b20
  refine ops_nil ?_
  refine c_seqR ?_
  refine ops_cons rfl (ow_fieldAddrB off25_3 rfl rfl ?_)
  refine ops_cons rfl (ow_loadAB b1 ti23 rfl rfl ?_)
  refine ops_cons rfl (ow_call ent32 rfl (ret_mono (toDescriptor_c _ _) ?_))
  rintro _ w26 ⟨rfl, x25⟩
  replace b1 := b1.ext x25
  replace b5 := b5.ext x25
  replace b24 := b24.ext x25
  replace X := Ext.trans X x25; clear x25
  refine ops_cons rfl (ow_fieldAddrB off29_3 rfl rfl ?_)
  refine ops_cons rfl (ow_storeB b24 ti27 rfl rfl rfl rfl rfl rfl ?_)
  intro w28 b30 hg27 z29
  replace b1 := b1.grown hg27 (by first | (intro h; injection h; omega) | (intro g hg; injection hg; omega))
  replace b5 := b5.grown hg27 (by first | (intro h; injection h; omega) | (intro g hg; injection hg; omega))
  replace X := X.grown hg27 X.size (by intro g hg; injection hg; omega)
  clear hg27 b24
  refine ops_nil ?_
  refine c_seqR ?_
  refine ops_cons rfl (ow_loadAB b30 ti29 rfl rfl ?_)
  refine ops_cons rfl (ow_storeB b5 ti29 rfl rfl rfl rfl rfl rfl ?_)
  intro w32 b34 hg31 z33
  replace b1 := b1.grown hg31 (by first | (intro h; injection h; omega) | (intro g hg; injection hg; omega))
  replace b30 := b30.grown hg31 (by first | (intro h; injection h; omega) | (intro g hg; injection hg; omega))
  replace X := X.grown hg31 X.size (by intro g hg; injection hg; omega)
  clear hg31 b5
  refine ops_nil ?_
  refine c_ret ?_
  refine fin_cell1 rfl rfl b34 ti29 rfl ?_
  exact ⟨by rfl, X⟩

theorem sCompareSlots_c (a b : SlotI) (w : World)  :
    Calls Try.prog 9 #[.agg a.cells.toArray, .agg b.cells.toArray] w (Ret fun v w' => v = .int .i64 (cmpS a b) ∧ Ext w w') := by
  have X := Ext.refl w
  refine calls_of (args := [.agg a.cells.toArray, .agg b.cells.toArray]) Try.func9 Try.ntmps9 rfl rfl ?_
  refine c_seqR ?_
  refine ops_cons rfl (ow_box rfl rfl ?_)
  intro g4 w3 eg4 b1 x2 zg4
  replace X := Ext.trans X x2; clear x2
  refine ops_cons rfl (ow_box rfl rfl ?_)
  intro g8 w7 eg8 b5 x6 zg8
  replace b1 := b1.ext x6
  replace X := Ext.trans X x6; clear x6
  refine ops_cons rfl (ow_assign rfl ?_)
  refine ops_nil ?_
  refine c_seqJ 16 mixed (by kernel_rfl) ?_
  refine je_take 0 _ rfl (by kernel_rfl) rfl (by kernel_rfl) (listed' := #[true, false, false, false, false, false, false, false, false, false, false, false, false, false, false, false]) rfl (Up.ext _) (fun wq sq => ow_fieldAddrB off29_0 rfl rfl ⟨rfl, Ext.refl _⟩) ?_
  refine je_take 1 _ rfl (by kernel_rfl) rfl (by kernel_rfl) (listed' := #[true, true, false, false, false, false, false, false, false, false, false, false, false, false, false, false]) rfl (Up.ext _) (fun wq sq => ow_loadB (b1.ext sq) ti2 rfl rfl ⟨rfl, Ext.refl _⟩) ?_
  refine je_take 2 _ rfl (by kernel_rfl) rfl (by kernel_rfl) (listed' := #[true, true, true, false, false, false, false, false, false, false, false, false, false, false, false, false]) rfl (Up.ext _) (fun wq sq => ow_fieldAddrB off29_1 rfl rfl ⟨rfl, Ext.refl _⟩) ?_
  refine je_take 3 _ rfl (by kernel_rfl) rfl (by kernel_rfl) (listed' := #[true, true, true, true, false, false, false, false, false, false, false, false, false, false, false, false]) rfl (Up.ext _) (fun wq sq => ow_loadB (b1.ext sq) ti2 rfl rfl ⟨rfl, Ext.refl _⟩) ?_
  refine je_take 4 _ rfl (by kernel_rfl) rfl (by kernel_rfl) (listed' := #[true, true, true, true, true, false, false, false, false, false, false, false, false, false, false, false]) rfl (Up.ext _) (fun wq sq => ow_fieldAddrB off29_2 rfl rfl ⟨rfl, Ext.refl _⟩) ?_
  refine je_take 5 _ rfl (by kernel_rfl) rfl (by kernel_rfl) (listed' := #[true, true, true, true, true, true, false, false, false, false, false, false, false, false, false, false]) rfl (Up.ext _) (fun wq sq => ow_loadB (b1.ext sq) ti2 rfl rfl ⟨rfl, Ext.refl _⟩) ?_
  refine je_take 7 _ rfl (by kernel_rfl) rfl (by kernel_rfl) (listed' := #[true, true, true, true, true, true, false, true, false, false, false, false, false, false, false, false]) rfl (Up.ext _) (fun wq sq => ow_fieldAddrB off29_0 rfl rfl ⟨rfl, Ext.refl _⟩) ?_
  refine je_take 8 _ rfl (by kernel_rfl) rfl (by kernel_rfl) (listed' := #[true, true, true, true, true, true, false, true, true, false, false, false, false, false, false, false]) rfl (Up.ext _) (fun wq sq => ow_loadB (b5.ext sq) ti2 rfl rfl ⟨rfl, Ext.refl _⟩) ?_
  refine je_take 9 _ rfl (by kernel_rfl) rfl (by kernel_rfl) (listed' := #[true, true, true, true, true, true, false, true, true, true, false, false, false, false, false, false]) rfl (Up.ext _) (fun wq sq => ow_fieldAddrB off29_1 rfl rfl ⟨rfl, Ext.refl _⟩) ?_
  refine je_take 10 _ rfl (by kernel_rfl) rfl (by kernel_rfl) (listed' := #[true, true, true, true, true, true, false, true, true, true, true, false, false, false, false, false]) rfl (Up.ext _) (fun wq sq => ow_loadB (b5.ext sq) ti2 rfl rfl ⟨rfl, Ext.refl _⟩) ?_
  refine je_take 11 _ rfl (by kernel_rfl) rfl (by kernel_rfl) (listed' := #[true, true, true, true, true, true, false, true, true, true, true, true, false, false, false, false]) rfl (Up.ext _) (fun wq sq => ow_fieldAddrB off29_2 rfl rfl ⟨rfl, Ext.refl _⟩) ?_
  refine je_take 12 _ rfl (by kernel_rfl) rfl (by kernel_rfl) (listed' := #[true, true, true, true, true, true, false, true, true, true, true, true, true, false, false, false]) rfl (Up.ext _) (fun wq sq => ow_loadB (b5.ext sq) ti2 rfl rfl ⟨rfl, Ext.refl _⟩) ?_
  refine je_two 6 13 (fun gA : Nat => Value.slice (some ⟨gA, 0, none⟩) 3 3) (fun gA wz => Own wz w.heap.size 2 1 (some ⟨gA, 0, none⟩) 3 3 ([a.mode, a.round, a.slot].flatMap eI)) 0 (fun gB : Nat => Value.slice (some ⟨gB, 0, none⟩) 3 3) (fun gB wz => Own wz w.heap.size 2 1 (some ⟨gB, 0, none⟩) 3 3 ([b.mode, b.round, b.slot].flatMap eI)) 0 rfl rfl rfl rfl (by kernel_rfl) (listed' := #[true, true, true, true, true, true, true, true, true, true, true, true, true, false, false, false]) (listed'' := #[true, true, true, true, true, true, false, true, true, true, true, true, true, true, false, false]) rfl rfl ⟨inj_own, fun _ _ _ h k => h.ext k, fun wq sq => ow_buildSlice el32 ti2 rfl rfl rfl rfl rfl (fun g w' hg ho hb hx hz => ⟨g, rfl, Own.low ho (Nat.le_trans X.size (sq).size), hx⟩)⟩ ⟨inj_own, fun _ _ _ h k => h.ext k, fun wq sq => ow_buildSlice el32 ti2 rfl rfl rfl rfl rfl (fun g w' hg ho hb hx hz => ⟨g, rfl, Own.low ho (Nat.le_trans X.size (sq).size), hx⟩)⟩ ?_ ?_
  · skip
    intro gA
    refine je_take 14 _ rfl (by kernel_rfl) rfl (by kernel_rfl) (listed' := #[true, true, true, true, true, true, true, true, true, true, true, true, true, false, true, false]) rfl (Up.and (Up.ext _) (fun _ _ h k => h.ext k)) (fun wq sq => ow_assign rfl ⟨rfl, Ext.refl _⟩) ?_
    refine je_ov 13 (fun gB : Nat => Value.slice (some ⟨gB, 0, none⟩) 3 3) (fun gB wz => Own wz w.heap.size 2 1 (some ⟨gB, 0, none⟩) 3 3 ([b.mode, b.round, b.slot].flatMap eI)) 0 rfl rfl (by kernel_rfl) (listed' := #[true, true, true, true, true, true, true, true, true, true, true, true, true, true, true, false]) rfl ⟨inj_own, fun _ _ _ h k => h.ext k, fun wq sq => ow_buildSlice el32 ti2 rfl rfl rfl rfl rfl (fun g w' hg ho hb hx hz => ⟨g, rfl, Own.low ho (Nat.le_trans X.size (sq.1).size), hx⟩)⟩ ?_
    intro gB
    refine je_take 15 _ rfl (by kernel_rfl) rfl (by kernel_rfl) (listed' := #[true, true, true, true, true, true, true, true, true, true, true, true, true, true, true, true]) rfl (Up.and (Up.and (Up.ext _) (fun _ _ h k => h.ext k)) (fun _ _ h k => h.ext k)) (fun wq sq => ow_assign rfl ⟨rfl, Ext.refl _⟩) ?_
    refine je_done rfl (fun w9 sq a10 f11 => ⟨_, f11, ?_⟩)
    have xq := sq.1.1
    have oA := sq.1.2
    have oB := sq.2
    replace b1 := b1.ext xq
    replace b5 := b5.ext xq
    replace X := Ext.trans X xq; clear xq sq
    refine ops_nil ?_
    refine c_seq ?_
    refine c_seqR ?_
    refine ops_cons rfl (ow_assign rfl ?_)
    refine ops_nil ?_
    refine c_block ?_
    refine c_loop (G := Nat) (fun k => [(5, .slice (some ⟨gA, 0, none⟩) 3 3), (6, .slice (some ⟨gB, 0, none⟩) 3 3), (7, .int .i64 (k : Nat))]) (fun k wr => k ≤ 3 ∧ (∀ i, i < k → [a.mode, a.round, a.slot][i]? = [b.mode, b.round, b.slot][i]?) ∧ Own wr w.heap.size 2 1 (some ⟨gA, 0, none⟩) 3 3 ([a.mode, a.round, a.slot].flatMap eI) ∧ Own wr w.heap.size 2 1 (some ⟨gB, 0, none⟩) 3 3 ([b.mode, b.round, b.slot].flatMap eI) ∧ Ext w wr) (fun k => 3 - k) 0 (.cons rfl (.cons rfl (.cons rfl (.nil _)))) ?_ ?_
    · exact ⟨by omega, fun i hi => by omega, oA, oB, X⟩
    clear oA oB
    clear X
    rintro k wr ⟨hk, hi, oA, oB, X⟩
    refine c_seq ?_
    refine c_seqR ?_
    refine ops_cons rfl (ow_move rfl ?_)
    refine ops_cons rfl (ow_lss2 rfl rfl (fun h12 => ?_) (fun h12 => ?_))
    · skip
      obtain ⟨x, hx⟩ : ∃ x, [a.mode, a.round, a.slot][k]? = some x := ⟨_, List.getElem?_eq_getElem (by simp; omega)⟩
      obtain ⟨y, hy⟩ : ∃ y, [b.mode, b.round, b.slot][k]? = some y := ⟨_, List.getElem?_eq_getElem (by simp; omega)⟩
      refine ops_nil ?_
      refine c_true rfl ?_
      refine c_skip ?_
      refine tq_n ?_
      refine c_seq ?_
      refine c_block ?_
      refine c_seq ?_
      refine c_seqD [false, false, false, false, false, false, false, false, false] mixed (by kernel_rfl) ?_
      refine f_q rfl (fun wq sq => ow_move rfl ⟨rfl, Ext.refl _⟩) ?_
      refine f_q rfl (fun wq sq => ow_move rfl ⟨rfl, Ext.refl _⟩) ?_
      refine f_q rfl (fun wq sq => ow_indexT ((oA.ext sq)).sl eI_len rfl el32 rfl rfl rfl hx rfl ⟨rfl, Ext.refl _⟩) ?_
      refine f_q rfl (fun wq sq => ow_loadT ((oA.ext sq)).sl eI_len hx ti2 rfl rfl rfl ⟨rfl, Ext.refl _⟩) ?_
      refine f_q rfl (fun wq sq => ow_move rfl ⟨rfl, Ext.refl _⟩) ?_
      refine f_q rfl (fun wq sq => ow_move rfl ⟨rfl, Ext.refl _⟩) ?_
      refine f_q rfl (fun wq sq => ow_indexT ((oB.ext sq)).sl eI_len rfl el32 rfl rfl rfl hy rfl ⟨rfl, Ext.refl _⟩) ?_
      refine f_q rfl (fun wq sq => ow_loadT ((oB.ext sq)).sl eI_len hy ti2 rfl rfl rfl ⟨rfl, Ext.refl _⟩) ?_
      refine f_qb rfl (fun wq sq => ow_lss rfl rfl ⟨rfl, Ext.refl _⟩) (fun h13 => ?_) (fun h13 => ?_)
      · skip
        refine f_nil (fun w14 sq => ?_)
        have xq := sq
        replace oA := oA.ext xq
        replace oB := oB.ext xq
        replace X := Ext.trans X xq; clear xq sq
        refine ops_nil ?_
        refine c_true rfl ?_
        refine c_seqR ?_
        refine ops_cons rfl (ow_assign rfl ?_)
        refine ops_nil ?_
        refine c_ret ?_
        refine tq_r ?_
        refine bq_r ?_
        refine tq_r ?_
        refine tq_r ?_
        refine bq_r ?_
        refine tq_r ?_
        refine fin_ret1 rfl rfl ?_
        refine ⟨congrArg (Value.int .i64) ?_, X⟩
        first | exact cmp3_lt hi hx hy ‹_› | exact cmp3_gt hi hx hy ‹_› | exact cmp3_eq hi (by omega)
      · skip
        refine f_nil (fun w15 sq => ?_)
        have xq := sq
        replace oA := oA.ext xq
        replace oB := oB.ext xq
        replace X := Ext.trans X xq; clear xq sq
        refine ops_nil ?_
        refine c_false rfl ?_
        refine c_skip ?_
        refine tq_n ?_
        refine c_seqD [false, false, false, false, false, false, false, false, false] mixed (by kernel_rfl) ?_
        refine f_q rfl (fun wq sq => ow_move rfl ⟨rfl, Ext.refl _⟩) ?_
        refine f_q rfl (fun wq sq => ow_move rfl ⟨rfl, Ext.refl _⟩) ?_
        refine f_q rfl (fun wq sq => ow_indexT ((oA.ext sq)).sl eI_len rfl el32 rfl rfl rfl hx rfl ⟨rfl, Ext.refl _⟩) ?_
        refine f_q rfl (fun wq sq => ow_loadT ((oA.ext sq)).sl eI_len hx ti2 rfl rfl rfl ⟨rfl, Ext.refl _⟩) ?_
        refine f_q rfl (fun wq sq => ow_move rfl ⟨rfl, Ext.refl _⟩) ?_
        refine f_q rfl (fun wq sq => ow_move rfl ⟨rfl, Ext.refl _⟩) ?_
        refine f_q rfl (fun wq sq => ow_indexT ((oB.ext sq)).sl eI_len rfl el32 rfl rfl rfl hy rfl ⟨rfl, Ext.refl _⟩) ?_
        refine f_q rfl (fun wq sq => ow_loadT ((oB.ext sq)).sl eI_len hy ti2 rfl rfl rfl ⟨rfl, Ext.refl _⟩) ?_
        refine f_qb rfl (fun wq sq => ow_gtr rfl rfl ⟨rfl, Ext.refl _⟩) (fun h16 => ?_) (fun h16 => ?_)
        · skip
          refine f_nil (fun w17 sq => ?_)
          have xq := sq
          replace oA := oA.ext xq
          replace oB := oB.ext xq
          replace X := Ext.trans X xq; clear xq sq
          refine ops_nil ?_
          refine c_true rfl ?_
          refine c_seqR ?_
          refine ops_cons rfl (ow_assign rfl ?_)
          refine ops_nil ?_
          refine c_ret ?_
          refine bq_r ?_
          refine tq_r ?_
          refine tq_r ?_
          refine bq_r ?_
          refine tq_r ?_
          refine fin_ret1 rfl rfl ?_
          refine ⟨congrArg (Value.int .i64) ?_, X⟩
          first | exact cmp3_lt hi hx hy ‹_› | exact cmp3_gt hi hx hy ‹_› | exact cmp3_eq hi (by omega)
        · skip
          refine f_nil (fun w18 sq => ?_)
          have xq := sq
          replace oA := oA.ext xq
          replace oB := oB.ext xq
          replace X := Ext.trans X xq; clear xq sq
          refine ops_nil ?_
          refine c_false rfl ?_
          refine c_skip ?_
          refine bq_n ?_
          refine tq_n ?_
          refine c_region ?_
          refine ops_cons rfl (ow_move rfl ?_)
          refine ops_cons rfl (ow_add rfl rfl (w64 (by omega)) ?_)
          refine ops_cons rfl (ow_assign rfl ?_)
          refine ops_nil ?_
          refine tq_n ⟨k + 1, (.cons rfl (.cons rfl (.cons rfl (.nil _)))), ?_, ?_⟩
          · skip
            exact ⟨by omega, fun i hik => by
              by_cases e : i = k
              · subst e; rw [hx, hy]; congr 1; omega
              · exact hi i (by omega), oA, oB, X⟩
          · omega
    · skip
      refine ops_nil ?_
      refine c_false rfl ?_
      refine c_exit ?_
      refine tq_e ?_
      refine tq_e ?_
      refine bq_e ?_
      refine tq_n ?_
      refine c_seqR ?_
      refine ops_cons rfl (ow_assign rfl ?_)
      refine ops_nil ?_
      refine c_ret ?_
      refine fin_ret1 rfl rfl ?_
      refine ⟨congrArg (Value.int .i64) ?_, X⟩
      first | exact cmp3_lt hi hx hy ‹_› | exact cmp3_gt hi hx hy ‹_› | exact cmp3_eq hi (by omega)
  · skip
    intro gB
    refine je_ov 6 (fun gA : Nat => Value.slice (some ⟨gA, 0, none⟩) 3 3) (fun gA wz => Own wz w.heap.size 2 1 (some ⟨gA, 0, none⟩) 3 3 ([a.mode, a.round, a.slot].flatMap eI)) 0 rfl rfl (by kernel_rfl) (listed' := #[true, true, true, true, true, true, true, true, true, true, true, true, true, true, false, false]) rfl ⟨inj_own, fun _ _ _ h k => h.ext k, fun wq sq => ow_buildSlice el32 ti2 rfl rfl rfl rfl rfl (fun g w' hg ho hb hx hz => ⟨g, rfl, Own.low ho (Nat.le_trans X.size (sq.1).size), hx⟩)⟩ ?_
    intro gA
    refine je_take 14 _ rfl (by kernel_rfl) rfl (by kernel_rfl) (listed' := #[true, true, true, true, true, true, true, true, true, true, true, true, true, true, true, false]) rfl (Up.and (Up.and (Up.ext _) (fun _ _ h k => h.ext k)) (fun _ _ h k => h.ext k)) (fun wq sq => ow_assign rfl ⟨rfl, Ext.refl _⟩) ?_
    refine je_take 15 _ rfl (by kernel_rfl) rfl (by kernel_rfl) (listed' := #[true, true, true, true, true, true, true, true, true, true, true, true, true, true, true, true]) rfl (Up.and (Up.and (Up.ext _) (fun _ _ h k => h.ext k)) (fun _ _ h k => h.ext k)) (fun wq sq => ow_assign rfl ⟨rfl, Ext.refl _⟩) ?_
    refine je_done rfl (fun w19 sq a20 f21 => ⟨_, f21, ?_⟩)
    have xq := sq.1.1
    have oB := sq.1.2
    have oA := sq.2
    replace b1 := b1.ext xq
    replace b5 := b5.ext xq
    replace X := Ext.trans X xq; clear xq sq
    refine ops_nil ?_
    refine c_seq ?_
    refine c_seqR ?_
    refine ops_cons rfl (ow_assign rfl ?_)
    refine ops_nil ?_
    refine c_block ?_
    refine c_loop (G := Nat) (fun k => [(5, .slice (some ⟨gA, 0, none⟩) 3 3), (6, .slice (some ⟨gB, 0, none⟩) 3 3), (7, .int .i64 (k : Nat))]) (fun k wr => k ≤ 3 ∧ (∀ i, i < k → [a.mode, a.round, a.slot][i]? = [b.mode, b.round, b.slot][i]?) ∧ Own wr w.heap.size 2 1 (some ⟨gA, 0, none⟩) 3 3 ([a.mode, a.round, a.slot].flatMap eI) ∧ Own wr w.heap.size 2 1 (some ⟨gB, 0, none⟩) 3 3 ([b.mode, b.round, b.slot].flatMap eI) ∧ Ext w wr) (fun k => 3 - k) 0 (.cons rfl (.cons rfl (.cons rfl (.nil _)))) ?_ ?_
    · exact ⟨by omega, fun i hi => by omega, oA, oB, X⟩
    clear oA oB
    clear X
    rintro k wr ⟨hk, hi, oA, oB, X⟩
    refine c_seq ?_
    refine c_seqR ?_
    refine ops_cons rfl (ow_move rfl ?_)
    refine ops_cons rfl (ow_lss2 rfl rfl (fun h22 => ?_) (fun h22 => ?_))
    · skip
      obtain ⟨x, hx⟩ : ∃ x, [a.mode, a.round, a.slot][k]? = some x := ⟨_, List.getElem?_eq_getElem (by simp; omega)⟩
      obtain ⟨y, hy⟩ : ∃ y, [b.mode, b.round, b.slot][k]? = some y := ⟨_, List.getElem?_eq_getElem (by simp; omega)⟩
      refine ops_nil ?_
      refine c_true rfl ?_
      refine c_skip ?_
      refine tq_n ?_
      refine c_seq ?_
      refine c_block ?_
      refine c_seq ?_
      refine c_seqD [false, false, false, false, false, false, false, false, false] mixed (by kernel_rfl) ?_
      refine f_q rfl (fun wq sq => ow_move rfl ⟨rfl, Ext.refl _⟩) ?_
      refine f_q rfl (fun wq sq => ow_move rfl ⟨rfl, Ext.refl _⟩) ?_
      refine f_q rfl (fun wq sq => ow_indexT ((oA.ext sq)).sl eI_len rfl el32 rfl rfl rfl hx rfl ⟨rfl, Ext.refl _⟩) ?_
      refine f_q rfl (fun wq sq => ow_loadT ((oA.ext sq)).sl eI_len hx ti2 rfl rfl rfl ⟨rfl, Ext.refl _⟩) ?_
      refine f_q rfl (fun wq sq => ow_move rfl ⟨rfl, Ext.refl _⟩) ?_
      refine f_q rfl (fun wq sq => ow_move rfl ⟨rfl, Ext.refl _⟩) ?_
      refine f_q rfl (fun wq sq => ow_indexT ((oB.ext sq)).sl eI_len rfl el32 rfl rfl rfl hy rfl ⟨rfl, Ext.refl _⟩) ?_
      refine f_q rfl (fun wq sq => ow_loadT ((oB.ext sq)).sl eI_len hy ti2 rfl rfl rfl ⟨rfl, Ext.refl _⟩) ?_
      refine f_qb rfl (fun wq sq => ow_lss rfl rfl ⟨rfl, Ext.refl _⟩) (fun h23 => ?_) (fun h23 => ?_)
      · skip
        refine f_nil (fun w24 sq => ?_)
        have xq := sq
        replace oA := oA.ext xq
        replace oB := oB.ext xq
        replace X := Ext.trans X xq; clear xq sq
        refine ops_nil ?_
        refine c_true rfl ?_
        refine c_seqR ?_
        refine ops_cons rfl (ow_assign rfl ?_)
        refine ops_nil ?_
        refine c_ret ?_
        refine tq_r ?_
        refine bq_r ?_
        refine tq_r ?_
        refine tq_r ?_
        refine bq_r ?_
        refine tq_r ?_
        refine fin_ret1 rfl rfl ?_
        refine ⟨congrArg (Value.int .i64) ?_, X⟩
        first | exact cmp3_lt hi hx hy ‹_› | exact cmp3_gt hi hx hy ‹_› | exact cmp3_eq hi (by omega)
      · skip
        refine f_nil (fun w25 sq => ?_)
        have xq := sq
        replace oA := oA.ext xq
        replace oB := oB.ext xq
        replace X := Ext.trans X xq; clear xq sq
        refine ops_nil ?_
        refine c_false rfl ?_
        refine c_skip ?_
        refine tq_n ?_
        refine c_seqD [false, false, false, false, false, false, false, false, false] mixed (by kernel_rfl) ?_
        refine f_q rfl (fun wq sq => ow_move rfl ⟨rfl, Ext.refl _⟩) ?_
        refine f_q rfl (fun wq sq => ow_move rfl ⟨rfl, Ext.refl _⟩) ?_
        refine f_q rfl (fun wq sq => ow_indexT ((oA.ext sq)).sl eI_len rfl el32 rfl rfl rfl hx rfl ⟨rfl, Ext.refl _⟩) ?_
        refine f_q rfl (fun wq sq => ow_loadT ((oA.ext sq)).sl eI_len hx ti2 rfl rfl rfl ⟨rfl, Ext.refl _⟩) ?_
        refine f_q rfl (fun wq sq => ow_move rfl ⟨rfl, Ext.refl _⟩) ?_
        refine f_q rfl (fun wq sq => ow_move rfl ⟨rfl, Ext.refl _⟩) ?_
        refine f_q rfl (fun wq sq => ow_indexT ((oB.ext sq)).sl eI_len rfl el32 rfl rfl rfl hy rfl ⟨rfl, Ext.refl _⟩) ?_
        refine f_q rfl (fun wq sq => ow_loadT ((oB.ext sq)).sl eI_len hy ti2 rfl rfl rfl ⟨rfl, Ext.refl _⟩) ?_
        refine f_qb rfl (fun wq sq => ow_gtr rfl rfl ⟨rfl, Ext.refl _⟩) (fun h26 => ?_) (fun h26 => ?_)
        · skip
          refine f_nil (fun w27 sq => ?_)
          have xq := sq
          replace oA := oA.ext xq
          replace oB := oB.ext xq
          replace X := Ext.trans X xq; clear xq sq
          refine ops_nil ?_
          refine c_true rfl ?_
          refine c_seqR ?_
          refine ops_cons rfl (ow_assign rfl ?_)
          refine ops_nil ?_
          refine c_ret ?_
          refine bq_r ?_
          refine tq_r ?_
          refine tq_r ?_
          refine bq_r ?_
          refine tq_r ?_
          refine fin_ret1 rfl rfl ?_
          refine ⟨congrArg (Value.int .i64) ?_, X⟩
          first | exact cmp3_lt hi hx hy ‹_› | exact cmp3_gt hi hx hy ‹_› | exact cmp3_eq hi (by omega)
        · skip
          refine f_nil (fun w28 sq => ?_)
          have xq := sq
          replace oA := oA.ext xq
          replace oB := oB.ext xq
          replace X := Ext.trans X xq; clear xq sq
          refine ops_nil ?_
          refine c_false rfl ?_
          refine c_skip ?_
          refine bq_n ?_
          refine tq_n ?_
          refine c_region ?_
          refine ops_cons rfl (ow_move rfl ?_)
          refine ops_cons rfl (ow_add rfl rfl (w64 (by omega)) ?_)
          refine ops_cons rfl (ow_assign rfl ?_)
          refine ops_nil ?_
          refine tq_n ⟨k + 1, (.cons rfl (.cons rfl (.cons rfl (.nil _)))), ?_, ?_⟩
          · skip
            exact ⟨by omega, fun i hik => by
              by_cases e : i = k
              · subst e; rw [hx, hy]; congr 1; omega
              · exact hi i (by omega), oA, oB, X⟩
          · omega
    · skip
      refine ops_nil ?_
      refine c_false rfl ?_
      refine c_exit ?_
      refine tq_e ?_
      refine tq_e ?_
      refine bq_e ?_
      refine tq_n ?_
      refine c_seqR ?_
      refine ops_cons rfl (ow_assign rfl ?_)
      refine ops_nil ?_
      refine c_ret ?_
      refine fin_ret1 rfl rfl ?_
      refine ⟨congrArg (Value.int .i64) ?_, X⟩
      first | exact cmp3_lt hi hx hy ‹_› | exact cmp3_gt hi hx hy ‹_› | exact cmp3_eq hi (by omega)
end Go.Proofs.Ytdikgcccdcgjdaa
