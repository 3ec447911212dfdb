/- Marks written into schedules and read again. No condition. -/
import Derived.Test.YthdeoagoehkcfaaGreatDoorK2
namespace Go.Proofs.YthdeoagoehkcfaaGreatDoor
open Go.RowKit
set_option linter.unusedVariables false
set_option linter.unusedSimpArgs false
set_option maxRecDepth 20000
theorem kep_ext {ts : List TypeId} {w w' : World} (h : Ext w w') : Kep ts w w' := ⟨h.size, fun k cur t e hk _ => (h.block k (Array.getElem?_eq_some_iff.1 hk).1).trans hk⟩
theorem kep_more {ts us : List TypeId} {w w' : World} (h : Kep ts w w') (hs : ∀ t, t ∈ ts → t ∈ us) : Kep us w w' := ⟨h.1, fun k cur t e hk ht => h.2 k cur t e hk fun h1 => ht (hs t h1)⟩

theorem markMedl_c (m : MedlI) (lo hi : Nat) (a : Int) (w : World) (oX : MOwn w lo 104 85 2 110 m) (hU : ∀ g, ((Value.slice m.An m.ns.length m.cn).ownBlock = some g ∨ (Value.slice m.Am m.ms.length m.cm).ownBlock = some g ∨ (Value.slice m.As m.ss.length m.cs).ownBlock = some g) → g < hi) (hUN : ∀ y ∈ m.ms, ∀ g, y.blk = some g → g < hi) (hz : m.small) (ha : 0 ≤ a ∧ a ≤ 1048576) :
    Calls Tryz.prog 16 #[.agg m.cells.toArray, .int .i64 a] w (Ret fun v w' => v = .int .i64 (endMedl a m) ∧ MSeen w' lo 104 85 2 110 m a (nsM a m mkNodeI) (mkModes (a1M a m) m.ms) (ssM a m mkSlotI) ∧ WinK lo hi [104, 85, 2, 110] w w') := by
  have hls := hz.ls
  have hlm := hz.lm
  have hln := hz.ln
  have X := Ext.refl w
  refine calls_of (args := [.agg m.cells.toArray, .int .i64 a]) Tryz.func16 Tryz.ntmps16 rfl rfl ?_
  refine c_seqR ?_
  refine ops_cons rfl (ow_box rfl rfl ?_)
  intro gM w2 egM bM x1 zgM
  have lgM : w.heap.size ≤ gM := Nat.le_trans X.size (Nat.le_of_eq egM.symm)
  replace oX := oX.ext x1
  replace X := Ext.trans X x1; clear x1
  obtain ⟨oN, oM, oP, oD, oS⟩ := oX
  refine ops_cons rfl (ow_assign rfl ?_)
  refine ops_nil ?_
  refine c_seqR ?_
  refine ops_cons rfl (ow_fieldAddrB off27_1 rfl rfl ?_)
  refine ops_cons rfl (ow_loadB bM ti23 rfl rfl ?_)
  refine ops_cons rfl (ow_move rfl ?_)
  refine ops_cons rfl (ow_call ent43 rfl (ret_mono (markNodeI_c m.An m.cn lo m.ns a _ oN hln (by omega)) ?_))
  rintro _ v1 ⟨rfl, oN2, y1⟩
  replace bM := bM.grown y1 (fun h => Own.neT oN bM (by decide) h.symm)
  replace oM := oM.grown y1 (Own.neO oM oN (by decide))
  replace oP := oP.grownO oN y1 (by decide)
  replace oS := oS.grown y1 (Own.neO oS oN (by decide))
  have Y1 : WinK lo hi [104, 85, 2, 110] w v1 := ⟨(Win.ofExt X).grown y1 (fun g hg => ⟨(Own.lt oN hg).1, hU g (.inl hg)⟩), (kep_ext X).trans (Kep.ofGrown y1 oN (by decide))⟩
  clear oN
  refine ops_cons rfl (ow_assign rfl ?_)
  refine ops_nil ?_
  refine c_seqR ?_
  refine ops_cons rfl (ow_fieldAddrB off27_2 rfl rfl ?_)
  refine ops_cons rfl (ow_loadB bM ti24 rfl rfl ?_)
  refine ops_cons rfl (ow_move rfl ?_)
  refine ops_cons rfl (ow_call ent44 rfl (ret_mono (markModesX_c m.Am m.cm lo hi m.ms (a1M a m) _ oM (NFrom.of oP 0) oD (fun g hg => hU g (.inr (.inl hg))) hUN hlm hz.lx (by unfold a1M; omega)) ?_))
  rintro _ v2 ⟨rfl, hb2, oM2, oP2, y2⟩
  replace bM := bM.kep y2.kep (by decide)
  replace oN2 := oN2.kep y2.kep (by decide)
  replace oS := oS.kep y2.kep (by decide)
  have Y2 : WinK lo hi [104, 85, 2, 110] w v2 := ⟨Y1.win.trans y2.win, Y1.kep.trans (kep_more y2.kep (by decide))⟩
  clear oM oP
  refine ops_cons rfl (ow_assign rfl ?_)
  refine ops_nil ?_
  refine c_seqR ?_
  refine ops_cons rfl (ow_fieldAddrB off27_3 rfl rfl ?_)
  refine ops_cons rfl (ow_loadB bM ti25 rfl rfl ?_)
  refine ops_cons rfl (ow_move rfl ?_)
  refine ops_cons rfl (ow_call ent45 rfl (ret_mono (markSlotI_c m.As m.cs lo m.ss (a2M a m) _ oS hls (by unfold a2M; unfold a1M at *; omega)) ?_))
  rintro _ v3 ⟨rfl, oS2, y3⟩
  replace bM := bM.grown y3 (fun h => Own.neT oS bM (by decide) h.symm)
  replace oN2 := oN2.grown y3 (Own.neO oN2 oS (by decide))
  replace oM2 := oM2.grown y3 (Own.neO oM2 oS (by decide))
  replace oP2 := oP2.grownO oS y3 (by decide)
  have Y3 : WinK lo hi [104, 85, 2, 110] w v3 := ⟨Y2.win.grown y3 (fun g hg => ⟨(Own.lt oS hg).1, hU g (.inr (.inr hg))⟩), Y2.kep.trans (Kep.ofGrown y3 oS (by decide))⟩
  clear oS
  refine ops_cons rfl (ow_assign rfl ?_)
  refine ops_nil ?_
  refine c_seqR ?_
  refine ops_cons rfl (ow_move rfl ?_)
  refine ops_cons rfl (ow_assign rfl ?_)
  refine ops_nil ?_
  refine c_ret ?_
  refine fin_ret1 rfl rfl ?_
  exact ⟨rfl, ⟨oN2, oM2, oP2, oS2⟩, Y3⟩

theorem heldMedl_c (m : MedlI) (B1 B2 B3 B4 : Nat) (a : Int) (w : World) (s1 : Sl B1 w m.An ((nsM a m mkNodeI).flatMap NodeI.cells)) (s2 : Sl B2 w m.Am ((mkModes (a1M a m) m.ms).flatMap ModeI.cells)) (s3 : Nexts B3 w (mkModes (a1M a m) m.ms)) (s4 : Sl B4 w m.As ((ssM a m mkSlotI).flatMap SlotI.cells)) (hz : m.small) (ha : 0 ≤ a ∧ a ≤ 1048576) :
    Calls Tryz.prog 17 #[.agg m.cells.toArray, .int .i64 a] w (Ret fun v w' => v = .int .i64 (endMedl a m) ∧ Ext w w') := by
  have hls := hz.ls
  have hlm := hz.lm
  have hln := hz.ln
  have he := endModes_in m.ms (a1M a m) hz.lx
  have e1 : a1M a m = a + 4 * m.ns.length := rfl
  have e2 : a2M a m = endModes (a1M a m) m.ms := rfl
  have Bs1 := s1.1
  have Bs2 := s2.1
  have Bs3 := s3.1
  have Bs4 := s4.1
  have X := Ext.refl w
  refine calls_of (args := [.agg m.cells.toArray, .int .i64 a]) Tryz.func17 Tryz.ntmps17 rfl rfl ?_
  refine c_seqR ?_
  refine ops_cons rfl (ow_box rfl rfl ?_)
  intro gM w2 egM bM x1 zgM
  have lgM : w.heap.size ≤ gM := Nat.le_trans X.size (Nat.le_of_eq egM.symm)
  have pgMs1 := Nat.le_trans s1.1 (Nat.le_of_eq egM.symm)
  have pgMs2 := Nat.le_trans s2.1 (Nat.le_of_eq egM.symm)
  have pgMs3 := Nat.le_trans s3.1 (Nat.le_of_eq egM.symm)
  have pgMs4 := Nat.le_trans s4.1 (Nat.le_of_eq egM.symm)
  replace s1 := s1.ext x1
  replace s2 := s2.ext x1
  replace s3 := s3.ext x1
  replace s4 := s4.ext x1
  replace X := Ext.trans X x1; clear x1
  refine ops_cons rfl (ow_assign rfl ?_)
  refine ops_nil ?_
  refine c_seqR ?_
  refine ops_cons rfl (ow_fieldAddrB off27_1 rfl rfl ?_)
  refine ops_cons rfl (ow_loadB bM ti23 rfl rfl ?_)
  refine ops_cons rfl (ow_move rfl ?_)
  refine ops_cons rfl (ow_call ent46 rfl (ret_mono (heldNodeI_c m.An _ m.cn m.ns.length a _ s1 hln (by omega)) ?_))
  rintro _ w4 ⟨rfl, x3⟩
  replace s1 := s1.ext x3
  replace s2 := s2.ext x3
  replace s3 := s3.ext x3
  replace s4 := s4.ext x3
  replace bM := bM.ext x3
  replace X := Ext.trans X x3; clear x3
  refine ops_cons rfl (ow_assign rfl ?_)
  refine ops_nil ?_
  refine c_seq ?_
  refine c_seqR ?_
  refine ops_cons rfl (ow_move rfl ?_)
  refine ops_cons rfl (ow_lss2 rfl rfl (fun h5 => absurd h5 (by omega)) (fun h5 => ?_))
  refine ops_nil ?_
  refine c_false rfl ?_
  refine c_skip ?_
  refine tq_n ?_
  refine c_seqR ?_
  refine ops_cons rfl (ow_fieldAddrB off27_2 rfl rfl ?_)
  refine ops_cons rfl (ow_loadB bM ti24 rfl rfl ?_)
  refine ops_cons rfl (ow_move rfl ?_)
  refine ops_cons rfl (ow_call ent47 rfl (ret_mono (heldModesX_c m.Am _ _ m.cm m.ms.length m.ms (a1M a m) _ s2 s3 rfl hlm hz.lx (by omega)) ?_))
  rintro _ w7 ⟨rfl, x6⟩
  replace s1 := s1.ext x6
  replace s2 := s2.ext x6
  replace s3 := s3.ext x6
  replace s4 := s4.ext x6
  replace bM := bM.ext x6
  replace X := Ext.trans X x6; clear x6
  refine ops_cons rfl (ow_assign rfl ?_)
  refine ops_nil ?_
  refine c_seq ?_
  refine c_seqR ?_
  refine ops_cons rfl (ow_move rfl ?_)
  refine ops_cons rfl (ow_lss2 rfl rfl (fun h8 => absurd h8 (by omega)) (fun h8 => ?_))
  refine ops_nil ?_
  refine c_false rfl ?_
  refine c_skip ?_
  refine tq_n ?_
  refine c_seqR ?_
  refine ops_cons rfl (ow_fieldAddrB off27_3 rfl rfl ?_)
  refine ops_cons rfl (ow_loadB bM ti25 rfl rfl ?_)
  refine ops_cons rfl (ow_move rfl ?_)
  refine ops_cons rfl (ow_call ent48 rfl (ret_mono (heldSlotI_c m.As _ m.cs m.ss.length (a2M a m) _ s4 hls (by omega)) ?_))
  rintro _ w10 ⟨rfl, x9⟩
  replace s1 := s1.ext x9
  replace s2 := s2.ext x9
  replace s3 := s3.ext x9
  replace s4 := s4.ext x9
  replace bM := bM.ext x9
  replace X := Ext.trans X x9; clear x9
  refine ops_cons rfl (ow_assign rfl ?_)
  refine ops_nil ?_
  refine c_seq ?_
  refine c_seqR ?_
  refine ops_cons rfl (ow_move rfl ?_)
  refine ops_cons rfl (ow_lss2 rfl rfl (fun h11 => absurd h11 (by omega)) (fun h11 => ?_))
  refine ops_nil ?_
  refine c_false rfl ?_
  refine c_skip ?_
  refine tq_n ?_
  refine c_seqR ?_
  refine ops_cons rfl (ow_move rfl ?_)
  refine ops_cons rfl (ow_assign rfl ?_)
  refine ops_nil ?_
  refine c_ret ?_
  refine fin_ret1 rfl rfl ?_
  exact ⟨by rfl, X⟩
end Go.Proofs.YthdeoagoehkcfaaGreatDoor
