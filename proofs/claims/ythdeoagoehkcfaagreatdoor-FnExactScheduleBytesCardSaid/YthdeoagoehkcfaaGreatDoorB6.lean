/- Bytes of schedules. No condition. -/
import Derived.Test.YthdeoagoehkcfaaGreatDoorB4
import Derived.Test.YthdeoagoehkcfaaGreatDoorB5
import Derived.Test.YthdeoagoehkcfaaGreatDoorM3
namespace Go.Proofs.YthdeoagoehkcfaaGreatDoor
open Go.RowKit
set_option linter.unusedVariables false
set_option linter.unusedSimpArgs false
set_option maxRecDepth 20000
theorem threeBytes_c (z : Int) (w : World) (hz : 1 ≤ z ∧ z ≤ 16777215) :
    Calls Tryz.prog 108 #[.int .i64 z] w (Ret fun v w' => ∃ A' c', v = .slice A' 3 c' ∧ Own w' w.heap.size 2 1 A' 3 c' ((idB z).flatMap eI) ∧ Ext w w') := by
  have X := Ext.refl w
  refine calls_of (args := [.int .i64 z]) Tryz.func108 Tryz.ntmps108 rfl rfl ?_
  refine c_seqR ?_
  refine ops_cons rfl (ow_assign rfl ?_)
  refine ops_nil ?_
  refine c_seqR ?_
  refine ops_cons rfl (ow_move rfl ?_)
  refine ops_cons rfl (ow_shr rfl rfl (by omega) (shr16 (by omega)) ?_)
  refine ops_cons rfl (ow_move rfl ?_)
  refine ops_cons rfl (ow_shr rfl rfl (by omega) (shr8 (by omega)) ?_)
  refine ops_cons rfl (ow_and rfl rfl (and255 (by omega)) ?_)
  refine ops_cons rfl (ow_move rfl ?_)
  refine ops_cons rfl (ow_and rfl rfl (and255 (by omega)) ?_)
  refine ops_cons rfl (ow_buildSlice el22 ti2 rfl rfl rfl rfl rfl ?_)
  intro g1 w3 eg1 oS bbg1 x2 zg1
  replace oS := Own.low oS X.size
  replace X := Ext.trans X x2; clear x2
  refine ops_cons rfl (ow_assign rfl ?_)
  refine ops_nil ?_
  refine c_ret ?_
  refine fin_ret1 rfl rfl ?_
  exact ⟨_, _, rfl, oS.to rfl, X⟩

theorem l14Bytes_c (m : MedlI) (B : Nat) (w : World) (hm : Med B w m) (hz : m.small) (hI : isMedl m.d = true) :
    Calls Tryz.prog 61 #[.agg m.cells.toArray] w (Ret fun v w' => ∃ A' c', v = .slice A' (schB m.d).length c' ∧ Own w' w.heap.size 2 1 A' (schB m.d).length c' ((schB m.d).flatMap eI) ∧ Ext w w') := by
  have hls := hz.ls
  have hlm := hz.lm
  have hln := hz.ln
  have wf := isMedl_iff.1 hI
  have hid := inB_iff.1 wf.id
  have hid1 : 1 ≤ m.id ∧ m.id ≤ 16777215 := hid
  have hL1 : (ntB m.ns).length ≤ 353 := ntB_le wf.nt
  have hL2 : (mtP (m.ms.map (·.m)) m.ms.length).length ≤ 305 := by have h := mtB_le wf.mt; rwa [show m.d.ms.length = m.ms.length from List.length_map ..] at h
  have hL3 : (stB m.ss).length = 1 + 7 * m.ss.length := stP_len (Nat.le_refl _)
  have hL4 : m.ss.length ≤ 120 := isST_len wf.st
  have hNt : isNT m.ns = true := wf.nt
  have hSt : isST m.ss = true := wf.st
  have eS : schB m.d = idB m.id ++ ntB m.ns ++ (mtP (m.ms.map (·.m)) m.ms.length) ++ stB m.ss := by unfold schB; rw [show m.d.ms.length = m.ms.length from List.length_map ..]; rfl
  have Bhm := hm.1
  have X := Ext.refl w
  refine calls_of (args := [.agg m.cells.toArray]) Tryz.func61 Tryz.ntmps61 rfl rfl ?_
  refine c_seqR ?_
  refine ops_cons rfl (ow_box rfl rfl ?_)
  intro g4 w3 eg4 b1 x2 zg4
  have lg4 : w.heap.size ≤ g4 := Nat.le_trans X.size (Nat.le_of_eq eg4.symm)
  have pg4hm := Nat.le_trans hm.1 (Nat.le_of_eq eg4.symm)
  replace hm := hm.ext x2
  replace X := Ext.trans X x2; clear x2
  refine ops_cons rfl (ow_assign rfl ?_)
  refine ops_nil ?_
  refine c_seqR ?_
  refine ops_cons rfl (ow_fieldAddrB off27_0 rfl rfl ?_)
  refine ops_cons rfl (ow_loadB b1 ti2 rfl rfl ?_)
  refine ops_cons rfl (ow_quo rfl rfl (by omega) (q64 (by omega)) ?_)
  refine ops_cons rfl (ow_fieldAddrB off27_0 rfl rfl ?_)
  refine ops_cons rfl (ow_loadB b1 ti2 rfl rfl ?_)
  refine ops_cons rfl (ow_quo rfl rfl (by omega) (q64 (by omega)) ?_)
  refine ops_cons rfl (ow_rem rfl rfl (by omega) (m64 (by omega)) ?_)
  refine ops_cons rfl (ow_fieldAddrB off27_0 rfl rfl ?_)
  refine ops_cons rfl (ow_loadB b1 ti2 rfl rfl ?_)
  refine ops_cons rfl (ow_rem rfl rfl (by omega) (m64 (by omega)) ?_)
  refine ops_cons rfl (ow_buildSlice el22 ti2 rfl rfl rfl rfl rfl ?_)
  intro g5 w7 eg5 o1 bbg5 x6 zg5
  replace o1 := Own.low o1 X.size
  replace hm := hm.ext x6
  replace b1 := b1.ext x6
  replace X := Ext.trans X x6; clear x6
  replace o1 := o1.to (cs' := (idB m.id).flatMap eI) rfl
  refine ops_cons rfl (ow_assign rfl ?_)
  refine ops_nil ?_
  refine c_seqR ?_
  refine ops_cons rfl (ow_move rfl ?_)
  refine ops_cons rfl (ow_fieldAddrB off27_1 rfl rfl ?_)
  refine ops_cons rfl (ow_loadB b1 ti23 rfl rfl ?_)
  refine ops_cons rfl (ow_call ent103 rfl (ret_mono (l10Bytes_c _ _ _ m.ns _ hm.sn hNt) ?_))
  rintro _ w9 ⟨A10, c11, rfl, oA, x8⟩
  replace oA := Own.low oA X.size
  replace hm := hm.ext x8
  replace b1 := b1.ext x8
  replace o1 := o1.ext x8
  replace X := Ext.trans X x8; clear x8
  refine ops_cons rfl (ow_append (ts := #[]) o1 X.size oA.sl (flat_len eI_len _) (one_ints _) el22 ti2 rfl rfl rfl rfl (by omega) (by omega) ?_)
  intro Ao2 co2 w13 o2 hg12
  replace hm := hm.grown hg12 (fun g hg => Nat.le_trans Bhm (Own.lt o1 hg).1)
  replace b1 := b1.grown hg12 (fun h => Own.neT o1 b1 (by decide) h.symm)
  replace X := X.grown hg12 X.size (fun g hg => (Own.lt o1 hg).1)
  clear hg12
  refine ops_cons rfl (ow_assign rfl ?_)
  refine ops_nil ?_
  refine c_seqR ?_
  refine ops_cons rfl (ow_move rfl ?_)
  refine ops_cons rfl (ow_fieldAddrB off27_2 rfl rfl ?_)
  refine ops_cons rfl (ow_loadB b1 ti24 rfl rfl ?_)
  refine ops_cons rfl (ow_call ent104 rfl (ret_mono (l11Bytes_c _ _ _ _ m.ms _ hm.sm hm.sx hlm hz.lx) ?_))
  rintro _ w15 ⟨A16, c17, rfl, oB, x14⟩
  replace oB := Own.low oB X.size
  replace hm := hm.ext x14
  replace b1 := b1.ext x14
  replace o2 := o2.ext x14
  replace X := Ext.trans X x14; clear x14
  refine ops_cons rfl (ow_append (ts := #[]) o2 X.size oB.sl (flat_len eI_len _) (one_ints _) el22 ti2 rfl rfl rfl rfl (by omega) (by omega) ?_)
  intro Ao3 co3 w19 o3 hg18
  replace hm := hm.grown hg18 (fun g hg => Nat.le_trans Bhm (Own.lt o2 hg).1)
  replace b1 := b1.grown hg18 (fun h => Own.neT o2 b1 (by decide) h.symm)
  replace X := X.grown hg18 X.size (fun g hg => (Own.lt o2 hg).1)
  clear hg18
  refine ops_cons rfl (ow_assign rfl ?_)
  refine ops_nil ?_
  refine c_seqR ?_
  refine ops_cons rfl (ow_move rfl ?_)
  refine ops_cons rfl (ow_fieldAddrB off27_3 rfl rfl ?_)
  refine ops_cons rfl (ow_loadB b1 ti25 rfl rfl ?_)
  refine ops_cons rfl (ow_call ent105 rfl (ret_mono (l12Bytes_c _ _ _ m.ss _ hm.ss hSt) ?_))
  rintro _ w21 ⟨A22, c23, rfl, oC, x20⟩
  replace oC := Own.low oC X.size
  replace hm := hm.ext x20
  replace b1 := b1.ext x20
  replace o3 := o3.ext x20
  replace X := Ext.trans X x20; clear x20
  refine ops_cons rfl (ow_append (ts := #[]) o3 X.size oC.sl (by rw [flat_len eI_len, hL3]) (one_ints _) el22 ti2 rfl rfl rfl rfl (by omega) (by omega) ?_)
  intro Ao4 co4 w25 o4 hg24
  replace hm := hm.grown hg24 (fun g hg => Nat.le_trans Bhm (Own.lt o3 hg).1)
  replace b1 := b1.grown hg24 (fun h => Own.neT o3 b1 (by decide) h.symm)
  replace X := X.grown hg24 X.size (fun g hg => (Own.lt o3 hg).1)
  clear hg24
  refine ops_cons rfl (ow_assign rfl ?_)
  refine ops_nil ?_
  refine c_ret ?_
  refine fin_ret1 rfl rfl ?_
  have e1 : (schB m.d).length = 3 + (ntB m.ns).length + (mtP (m.ms.map (·.m)) m.ms.length).length + (1 + 7 * m.ss.length) := by rw [eS, List.length_append, List.length_append, List.length_append, hL3]; rfl
  rw [e1]
  exact ⟨_, _, rfl, o4.to (by rw [eS, List.flatMap_append, List.flatMap_append, List.flatMap_append]), X⟩

theorem scheduleBytes_c (m : MedlI) (B : Nat) (w : World) (hm : Med B w m) (hz : m.small) (hI : isMedl m.d = true) :
    Calls Tryz.prog 63 #[.agg m.cells.toArray] w (Ret fun v w' => ∃ A' c', v = .slice A' (schB m.d).length c' ∧ Own w' w.heap.size 2 1 A' (schB m.d).length c' ((schB m.d).flatMap eI) ∧ Ext w w') := by
  have hls := hz.ls
  have hlm := hz.lm
  have hln := hz.ln
  have wf := isMedl_iff.1 hI
  have hid := inB_iff.1 wf.id
  have hid1 : 1 ≤ m.id ∧ m.id ≤ 16777215 := hid
  have hL1 : (ntB m.ns).length ≤ 353 := ntB_le wf.nt
  have hL2 : (mtP (m.ms.map (·.m)) m.ms.length).length ≤ 305 := by have h := mtB_le wf.mt; rwa [show m.d.ms.length = m.ms.length from List.length_map ..] at h
  have hL3 : (stB m.ss).length = 1 + 7 * m.ss.length := stP_len (Nat.le_refl _)
  have hL4 : m.ss.length ≤ 120 := isST_len wf.st
  have hNt : isNT m.ns = true := wf.nt
  have hSt : isST m.ss = true := wf.st
  have eS : schB m.d = idB m.id ++ ntB m.ns ++ (mtP (m.ms.map (·.m)) m.ms.length) ++ stB m.ss := by unfold schB; rw [show m.d.ms.length = m.ms.length from List.length_map ..]; rfl
  have Bhm := hm.1
  have X := Ext.refl w
  refine calls_of (args := [.agg m.cells.toArray]) Tryz.func63 Tryz.ntmps63 rfl rfl ?_
  refine c_seqR ?_
  refine ops_cons rfl (ow_box rfl rfl ?_)
  intro gM w2 egM bM x1 zgM
  have lgM : w.heap.size ≤ gM := Nat.le_trans X.size (Nat.le_of_eq egM.symm)
  have pgMhm := Nat.le_trans hm.1 (Nat.le_of_eq egM.symm)
  replace hm := hm.ext x1
  replace X := Ext.trans X x1; clear x1
  refine ops_cons rfl (ow_assign rfl ?_)
  refine ops_nil ?_
  refine c_seqI (fun wz => Blk wz gM 27 m.cells) mixed ?_
  obtain ⟨w3, ew3⟩ : ∃ wy, wy = World.drew w2 := ⟨_, rfl⟩
  rw [← ew3]
  have xd : Ext w2 w3 := ew3 ▸ Ext.drew w2
  replace hm := hm.ext xd
  replace bM := bM.ext xd
  replace X := Ext.trans X xd; clear xd ew3
  refine wi_take 0 rfl (by kernel_rfl) rfl (by kernel_rfl) (listed' := #[true, false, false, false, false, false, false, false, false, false, false, false, false, false, false]) rfl (fun wq sq => ow_fieldAddrB off27_0 rfl rfl ⟨rfl, rfl⟩) ?_
  refine wi_take 1 rfl (by kernel_rfl) rfl (by kernel_rfl) (listed' := #[true, true, false, false, false, false, false, false, false, false, false, false, false, false, false]) rfl (fun wq sq => ow_loadB sq ti2 rfl rfl ⟨rfl, rfl⟩) ?_
  refine wi_take 3 rfl (by kernel_rfl) rfl (by kernel_rfl) (listed' := #[true, true, false, true, false, false, false, false, false, false, false, false, false, false, false]) rfl (fun wq sq => ow_fieldAddrB off27_1 rfl rfl ⟨rfl, rfl⟩) ?_
  refine wi_take 4 rfl (by kernel_rfl) rfl (by kernel_rfl) (listed' := #[true, true, false, true, true, false, false, false, false, false, false, false, false, false, false]) rfl (fun wq sq => ow_loadB sq ti23 rfl rfl ⟨rfl, rfl⟩) ?_
  refine wi_take 6 rfl (by kernel_rfl) rfl (by kernel_rfl) (listed' := #[true, true, false, true, true, false, true, false, false, false, false, false, false, false, false]) rfl (fun wq sq => ow_fieldAddrB off27_2 rfl rfl ⟨rfl, rfl⟩) ?_
  refine wi_take 7 rfl (by kernel_rfl) rfl (by kernel_rfl) (listed' := #[true, true, false, true, true, false, true, true, false, false, false, false, false, false, false]) rfl (fun wq sq => ow_loadB sq ti24 rfl rfl ⟨rfl, rfl⟩) ?_
  refine wi_take 9 rfl (by kernel_rfl) rfl (by kernel_rfl) (listed' := #[true, true, false, true, true, false, true, true, false, true, false, false, false, false, false]) rfl (fun wq sq => ow_fieldAddrB off27_3 rfl rfl ⟨rfl, rfl⟩) ?_
  refine wi_take 10 rfl (by kernel_rfl) rfl (by kernel_rfl) (listed' := #[true, true, false, true, true, false, true, true, false, true, true, false, false, false, false]) rfl (fun wq sq => ow_loadB sq ti25 rfl rfl ⟨rfl, rfl⟩) ?_
  refine wi_one 2 rfl rfl (by kernel_rfl) (listed' := #[true, true, true, true, true, false, true, true, false, true, true, false, false, false, false]) rfl bM (ow_call ent108 rfl (ret_mono (threeBytes_c m.id _ hid1) ?_))
  rintro _ w5 ⟨A1, c1, rfl, o1, x4⟩
  replace o1 := Own.low o1 X.size
  replace hm := hm.ext x4
  replace bM := bM.ext x4
  replace X := Ext.trans X x4; clear x4
  refine wi_one 5 rfl rfl (by kernel_rfl) (listed' := #[true, true, true, true, true, true, true, true, false, true, true, false, false, false, false]) rfl bM (ow_call ent109 rfl (ret_mono (nodeTableBytes_c _ _ _ m.ns _ hm.sn hNt) ?_))
  rintro _ w7 ⟨A2, c2, rfl, o2, x6⟩
  replace o2 := Own.low o2 X.size
  replace hm := hm.ext x6
  replace bM := bM.ext x6
  replace o1 := o1.ext x6
  replace X := Ext.trans X x6; clear x6
  refine wi_one 8 rfl rfl (by kernel_rfl) (listed' := #[true, true, true, true, true, true, true, true, true, true, true, false, false, false, false]) rfl bM (ow_call ent110 rfl (ret_mono (modeTableBytes_c _ _ _ _ m.ms _ hm.sm hm.sx hlm hz.lx) ?_))
  rintro _ w9 ⟨A3, c3, rfl, o3, x8⟩
  replace o3 := Own.low o3 X.size
  replace hm := hm.ext x8
  replace bM := bM.ext x8
  replace o1 := o1.ext x8
  replace o2 := o2.ext x8
  replace X := Ext.trans X x8; clear x8
  refine wi_one 11 rfl rfl (by kernel_rfl) (listed' := #[true, true, true, true, true, true, true, true, true, true, true, true, false, false, false]) rfl bM (ow_call ent111 rfl (ret_mono (slotTableBytes_c _ _ _ m.ss _ hm.ss hSt) ?_))
  rintro _ w11 ⟨A4, c4, rfl, o4, x10⟩
  replace o4 := Own.low o4 X.size
  replace hm := hm.ext x10
  replace bM := bM.ext x10
  replace o1 := o1.ext x10
  replace o2 := o2.ext x10
  replace o3 := o3.ext x10
  replace X := Ext.trans X x10; clear x10
  refine wi_one 12 rfl rfl (by kernel_rfl) (listed' := #[true, true, true, true, true, true, true, true, true, true, true, true, true, false, false]) rfl bM (ow_buildSlice el154 ti22 rfl rfl rfl rfl rfl ?_)
  intro gQ w13 egQ oQ bbgQ x12 zgQ
  replace oQ := Own.low oQ X.size
  replace hm := hm.ext x12
  replace bM := bM.ext x12
  replace o1 := o1.ext x12
  replace o2 := o2.ext x12
  replace o3 := o3.ext x12
  replace o4 := o4.ext x12
  replace X := Ext.trans X x12; clear x12
  replace oQ := oQ.to (cs' := ([(rowI A1 c1 (idB m.id)), (rowI A2 c2 (ntB m.ns)), (rowI A3 c3 (mtP (m.ms.map (·.m)) m.ms.length)), (rowI A4 c4 (stB m.ss))] : List ModeI).flatMap rowC) (by
    have h4 : (stB m.ss).length = 1 + 7 * m.ss.length := hL3
    show _ = [Value.slice A1 (idB m.id).length c1, Value.slice A2 (ntB m.ns).length c2, Value.slice A3 (mtP (m.ms.map (·.m)) m.ms.length).length c3, Value.slice A4 (stB m.ss).length c4]
    rw [h4]; rfl)
  have hnx : Nexts _ _ [(rowI A1 c1 (idB m.id)), (rowI A2 c2 (ntB m.ns)), (rowI A3 c3 (mtP (m.ms.map (·.m)) m.ms.length)), (rowI A4 c4 (stB m.ss))] := ⟨Nat.le_refl _, fun x hx => by
    simp only [List.mem_cons, List.not_mem_nil, or_false] at hx
    rcases hx with rfl | rfl | rfl | rfl
    · exact ⟨o1.sl, by show (idB m.id).length ≤ _; simp [idB]⟩
    · exact ⟨o2.sl, by show (ntB m.ns).length ≤ _; omega⟩
    · exact ⟨o3.sl, by show (mtP (m.ms.map (·.m)) m.ms.length).length ≤ _; omega⟩
    · exact ⟨o4.sl, by show (stB m.ss).length ≤ _; omega⟩⟩
  have hsum : sumL [(rowI A1 c1 (idB m.id)), (rowI A2 c2 (ntB m.ns)), (rowI A3 c3 (mtP (m.ms.map (·.m)) m.ms.length)), (rowI A4 c4 (stB m.ss))] = schB m.d := by rw [eS]; simp [sumL, rowI]
  refine wi_one 13 rfl rfl (by kernel_rfl) (listed' := #[true, true, true, true, true, true, true, true, true, true, true, true, true, true, false]) rfl bM (ow_call ent107 rfl (ret_mono (concat_c _ _ _ _ [(rowI A1 c1 (idB m.id)), (rowI A2 c2 (ntB m.ns)), (rowI A3 c3 (mtP (m.ms.map (·.m)) m.ms.length)), (rowI A4 c4 (stB m.ss))] _ oQ.sl hnx (by show 4 ≤ 1000; omega) (by rw [hsum]; have := schB_le hI; omega)) ?_))
  rintro _ w15 ⟨A16, c17, rfl, oR, x14⟩
  replace oR := Own.low oR X.size
  replace hm := hm.ext x14
  replace bM := bM.ext x14
  replace o1 := o1.ext x14
  replace o2 := o2.ext x14
  replace o3 := o3.ext x14
  replace o4 := o4.ext x14
  replace oQ := oQ.ext x14
  replace X := Ext.trans X x14; clear x14
  refine wi_take 14 rfl (by kernel_rfl) rfl (by kernel_rfl) (listed' := #[true, true, true, true, true, true, true, true, true, true, true, true, true, true, true]) rfl (fun wq sq => ow_assign rfl ⟨rfl, rfl⟩) ?_
  refine wi_done rfl bM (fun aj fj => ⟨_, fj, ?_⟩)
  refine c_ret ?_
  refine fin_ret1 rfl rfl ?_
  rw [hsum] at oR ⊢
  exact ⟨_, _, rfl, oR, X⟩

theorem sSchB_c (m : MedlI) (B : Nat) (w : World) (hm : Med B w m) (hz : m.small) :
    Calls Tryz.prog 23 #[.agg m.cells.toArray] w (Ret fun v w' => ∃ A' c', v = .tuple #[.slice A' (schF m.d).1.length c', .int .i64 (schF m.d).2] ∧ Own w' w.heap.size 2 1 A' (schF m.d).1.length c' ((schF m.d).1.flatMap eI) ∧ Ext w w') := by
  have Bhm := hm.1
  have X := Ext.refl w
  refine calls_of (args := [.agg m.cells.toArray]) Tryz.func23 Tryz.ntmps23 rfl rfl ?_
  refine c_seqR ?_
  refine ops_cons rfl (ow_box rfl rfl ?_)
  intro g4 w3 eg4 b1 x2 zg4
  have lg4 : w.heap.size ≤ g4 := Nat.le_trans X.size (Nat.le_of_eq eg4.symm)
  have pg4hm := Nat.le_trans hm.1 (Nat.le_of_eq eg4.symm)
  replace hm := hm.ext x2
  replace X := Ext.trans X x2; clear x2
  refine ops_cons rfl (ow_assign rfl ?_)
  refine ops_cons rfl (ow_assign rfl ?_)
  refine ops_nil ?_
  refine c_seq ?_
  refine c_seqR ?_
  refine ops_cons rfl (ow_loadAB b1 ti27 rfl rfl ?_)
  refine ops_cons rfl (ow_callB ent60 rfl (sIsMedl_c m _ _ hm hz) (fun w6 hI x5 => ?_) (fun w6 hI x5 => ?_))
  · skip
    replace hm := hm.ext x5
    replace b1 := b1.ext x5
    replace X := Ext.trans X x5; clear x5
    refine ops_cons rfl (ow_not rfl ?_)
    refine ops_nil ?_
    refine c_false rfl ?_
    refine c_skip ?_
    refine tq_n ?_
    refine c_seqR ?_
    refine ops_cons rfl (ow_loadAB b1 ti27 rfl rfl ?_)
    refine ops_cons rfl (ow_call ent61 rfl (ret_mono (l14Bytes_c m _ _ hm hz hI) ?_))
    rintro _ w8 ⟨A9, c10, rfl, oR, x7⟩
    replace oR := Own.low oR X.size
    replace hm := hm.ext x7
    replace b1 := b1.ext x7
    replace X := Ext.trans X x7; clear x7
    refine ops_cons rfl (ow_assign rfl ?_)
    refine ops_cons rfl (ow_assign rfl ?_)
    refine ops_nil ?_
    refine c_ret ?_
    refine fin_ret2 rfl rfl rfl ?_
    first
    | (have e : schF m.d = ([], 1) := by rw [schF, if_neg (by simp [hI])]
       rw [e]; exact ⟨none, 0, rfl, Own.nil_ _ _ _ _, X⟩)
    | (have e : schF m.d = (schB m.d, 0) := by rw [schF, if_pos hI]
       rw [e]; exact ⟨_, _, rfl, oR, X⟩)
  · skip
    replace hm := hm.ext x5
    replace b1 := b1.ext x5
    replace X := Ext.trans X x5; clear x5
    refine ops_cons rfl (ow_not rfl ?_)
    refine ops_nil ?_
    refine c_true rfl ?_
    refine c_seqR ?_
    refine ops_cons rfl (ow_assign rfl ?_)
    refine ops_cons rfl (ow_assign rfl ?_)
    refine ops_nil ?_
    refine c_ret ?_
    refine tq_r ?_
    refine fin_ret2 rfl rfl rfl ?_
    first
    | (have e : schF m.d = ([], 1) := by rw [schF, if_neg (by simp [hI])]
       rw [e]; exact ⟨none, 0, rfl, Own.nil_ _ _ _ _, X⟩)
    | (have e : schF m.d = (schB m.d, 0) := by rw [schF, if_pos hI]
       rw [e]; exact ⟨_, _, rfl, oR, X⟩)

theorem iSchB_c (m : MedlI) (B : Nat) (w : World) (hm : Med B w m) (hz : m.small) :
    Calls Tryz.prog 24 #[.agg m.cells.toArray] w (Ret fun v w' => ∃ A' c', v = .tuple #[.slice A' (schF m.d).1.length c', .int .i64 (schF m.d).2] ∧ Own w' w.heap.size 2 1 A' (schF m.d).1.length c' ((schF m.d).1.flatMap eI) ∧ Ext w w') := by
  have Bhm := hm.1
  have X := Ext.refl w
  refine calls_of (args := [.agg m.cells.toArray]) Tryz.func24 Tryz.ntmps24 rfl rfl ?_
  refine c_seqR ?_
  refine ops_cons rfl (ow_box rfl rfl ?_)
  intro g4 w3 eg4 b1 x2 zg4
  have lg4 : w.heap.size ≤ g4 := Nat.le_trans X.size (Nat.le_of_eq eg4.symm)
  have pg4hm := Nat.le_trans hm.1 (Nat.le_of_eq eg4.symm)
  replace hm := hm.ext x2
  replace X := Ext.trans X x2; clear x2
  refine ops_cons rfl (ow_assign rfl ?_)
  refine ops_cons rfl (ow_assign rfl ?_)
  refine ops_nil ?_
  refine c_seq ?_
  refine c_seqR ?_
  refine ops_cons rfl (ow_loadAB b1 ti27 rfl rfl ?_)
  refine ops_cons rfl (ow_callB ent62 rfl (iIsMedl_c m _ _ hm hz) (fun w6 hI x5 => ?_) (fun w6 hI x5 => ?_))
  · skip
    replace hm := hm.ext x5
    replace b1 := b1.ext x5
    replace X := Ext.trans X x5; clear x5
    refine ops_cons rfl (ow_not rfl ?_)
    refine ops_nil ?_
    refine c_false rfl ?_
    refine c_skip ?_
    refine tq_n ?_
    refine c_seqR ?_
    refine ops_cons rfl (ow_loadAB b1 ti27 rfl rfl ?_)
    refine ops_cons rfl (ow_call ent63 rfl (ret_mono (scheduleBytes_c m _ _ hm hz hI) ?_))
    rintro _ w8 ⟨A9, c10, rfl, oR, x7⟩
    replace oR := Own.low oR X.size
    replace hm := hm.ext x7
    replace b1 := b1.ext x7
    replace X := Ext.trans X x7; clear x7
    refine ops_cons rfl (ow_assign rfl ?_)
    refine ops_cons rfl (ow_assign rfl ?_)
    refine ops_nil ?_
    refine c_ret ?_
    refine fin_ret2 rfl rfl rfl ?_
    first
    | (have e : schF m.d = ([], 1) := by rw [schF, if_neg (by simp [hI])]
       rw [e]; exact ⟨none, 0, rfl, Own.nil_ _ _ _ _, X⟩)
    | (have e : schF m.d = (schB m.d, 0) := by rw [schF, if_pos hI]
       rw [e]; exact ⟨_, _, rfl, oR, X⟩)
  · skip
    replace hm := hm.ext x5
    replace b1 := b1.ext x5
    replace X := Ext.trans X x5; clear x5
    refine ops_cons rfl (ow_not rfl ?_)
    refine ops_nil ?_
    refine c_true rfl ?_
    refine c_seqR ?_
    refine ops_cons rfl (ow_assign rfl ?_)
    refine ops_cons rfl (ow_assign rfl ?_)
    refine ops_nil ?_
    refine c_ret ?_
    refine tq_r ?_
    refine fin_ret2 rfl rfl rfl ?_
    first
    | (have e : schF m.d = ([], 1) := by rw [schF, if_neg (by simp [hI])]
       rw [e]; exact ⟨none, 0, rfl, Own.nil_ _ _ _ _, X⟩)
    | (have e : schF m.d = (schB m.d, 0) := by rw [schF, if_pos hI]
       rw [e]; exact ⟨_, _, rfl, oR, X⟩)
end Go.Proofs.YthdeoagoehkcfaaGreatDoor
