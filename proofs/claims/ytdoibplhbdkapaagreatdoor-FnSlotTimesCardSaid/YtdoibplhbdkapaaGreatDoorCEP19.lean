/- Texts of the seat that a law needs, put together. No condition. -/
import Derived.Test.YtdoibplhbdkapaaGreatDoorCEP5
import Derived.Test.YtdoibplhbdkapaaGreatDoorCEP13
import Derived.Test.YtdoibplhbdkapaaGreatDoorCEP18
namespace Go.Proofs.YtdoibplhbdkapaaGreatDoor
open Go.RowKit
set_option linter.unusedVariables false
set_option linter.unusedSimpArgs false
set_option maxRecDepth 20000
theorem st_any {w : World} {gX : Nat} {T : TypeId} {a b c d e : Int} (h : Blk w gX T [.int .i64 a, .int .i64 b, .int .i64 c, .int .i64 d, .int .i64 e]) : ∃ s : StateI, Blk w gX T s.cells := ⟨⟨a, b, c, d, e⟩, h⟩
set_option maxHeartbeats 1000000 in
theorem l15Draw_c (A : Option Addr) (B c : Nat) (bs : List UInt8) (gS a : Nat) (sd : Int) (w : World) (q : Blk w gS 148 (srcC A c bs a sd)) (hs : Sl B w A (bs.flatMap eB)) (hB : B ≤ gS) (ok : a ≤ bs.length ∧ 0 ≤ sd ∧ sd < 2147483647) (hbl : bs.length ≤ 1048576) :
    Calls Tryz.prog 129 #[.pointer (some ⟨gS, 0, none⟩)] w (Ret fun v w' => ∃ (m : MedlI) (s : StateI) (a' : Nat) (sd' : Int), v = .tuple #[.agg (MedlI.cells m).toArray, .agg (StateI.cells s).toArray] ∧ drwA m ∧ MedF w.heap.size w'.heap.size w' m ∧ (a' ≤ bs.length ∧ 0 ≤ sd' ∧ sd' < 2147483647) ∧ Blk w' gS 148 (srcC A c bs a' sd') ∧ w.grownBy w' (some gS)) := by
  have Bhs := hs.1
  have X := gb_refl w (some gS)
  refine calls_of (args := [.pointer (some ⟨gS, 0, none⟩)]) Tryz.func129 Tryz.ntmps129 rfl rfl ?_
  refine c_seqR ?_
  refine ops_cons rfl (ow_alloc ti28 ?_)
  intro g2 w2 eg2 bR x1 zg2
  have lg2 : w.heap.size ≤ g2 := Nat.le_trans X.size (Nat.le_of_eq eg2.symm)
  have ng2q := Nat.lt_of_lt_of_eq q.lt eg2.symm
  have pg2hs := Nat.le_trans hs.1 (Nat.le_of_eq eg2.symm)
  replace q := q.ext x1
  replace hs := hs.ext x1
  replace X := gb_ext X x1; clear x1
  refine ops_cons rfl (ow_alloc ti62 ?_)
  intro g3 w4 eg3 bT x3 zg3
  have lg3 : w.heap.size ≤ g3 := Nat.le_trans X.size (Nat.le_of_eq eg3.symm)
  have ng3q := Nat.lt_of_lt_of_eq q.lt eg3.symm
  have pg3hs := Nat.le_trans hs.1 (Nat.le_of_eq eg3.symm)
  have ng3bR := Nat.lt_of_lt_of_eq bR.lt eg3.symm
  replace q := q.ext x3
  replace hs := hs.ext x3
  replace bR := bR.ext x3
  replace X := gb_ext X x3; clear x3
  refine ops_nil ?_
  refine c_seqR ?_
  refine ops_cons rfl (ow_move rfl ?_)
  have pS := q.lt
  have pbR := bR.lt
  have pbT := bT.lt
  have Lhm := X.size
  refine ops_cons rfl (ow_call ent67 rfl (ret_mono (l13DrawAny_c _ _ _ _ _ _ _ _ q hs hB ok hbl) ?_))
  rintro _ w6 ⟨m, a8, sd9, rfl, hdw, hm, ok, b7, x5⟩
  replace hs := hs.grown x5 (by intro g hg; injection hg; omega)
  replace bR := bR.grown x5 (by intro h; injection h; omega)
  replace bT := bT.grown x5 (by intro h; injection h; omega)
  replace X := gb_trans X x5
  clear x5 q
  obtain ⟨loM, hiM, pSl, pRl, pTl, hm⟩ : ∃ loM hiM, gS < loM ∧ g2 < loM ∧ g3 < loM ∧ MedF loM hiM _ m := ⟨_, _, pS, pbR, pbT, hm⟩
  refine ops_cons rfl (ow_alloc ti28 ?_)
  intro gM w11 egM b0 x10 zgM
  have lgM : w.heap.size ≤ gM := Nat.le_trans X.size (Nat.le_of_eq egM.symm)
  have pgMhs := Nat.le_trans hs.1 (Nat.le_of_eq egM.symm)
  have ngMbR := Nat.lt_of_lt_of_eq bR.lt egM.symm
  have ngMbT := Nat.lt_of_lt_of_eq bT.lt egM.symm
  have ngMb7 := Nat.lt_of_lt_of_eq b7.lt egM.symm
  have pgMhm := Nat.le_trans hm.hB (Nat.le_of_eq egM.symm)
  replace hs := hs.ext x10
  replace bR := bR.ext x10
  replace bT := bT.ext x10
  replace b7 := b7.ext x10
  replace hm := hm.ext x10
  replace X := gb_ext X x10; clear x10
  refine ops_cons rfl (ow_storeB b0 ti28 rfl rfl rfl rfl rfl rfl ?_)
  intro w13 bM hg12 z14
  replace hs := hs.grown hg12 (by intro g hg; injection hg; omega)
  replace bR := bR.grown hg12 (by intro h; injection h; omega)
  replace bT := bT.grown hg12 (by intro h; injection h; omega)
  replace b7 := b7.grown hg12 (by intro h; injection h; omega)
  replace hm := hm.grown hg12 (by omega)
  replace X := gb_new X hg12 (by intro g hg; injection hg; omega)
  clear hg12 b0
  replace bM : Blk _ gM 28 m.cells := bM
  refine ops_nil ?_
  refine c_seqR ?_
  refine ops_cons rfl (ow_move rfl ?_)
  refine ops_cons rfl (ow_call ent203 rfl (ret_mono (l04DrawAny_c _ _ _ _ _ _ _ _ b7 hs hB ok hbl) ?_))
  rintro _ w16 ⟨s0, a18, sd19, rfl, h_, ok, b17, x15⟩
  replace hs := hs.grown x15 (by intro g hg; injection hg; omega)
  replace bR := bR.grown x15 (by intro h; injection h; omega)
  replace bT := bT.grown x15 (by intro h; injection h; omega)
  replace hm := hm.grown x15 (by omega)
  replace bM := bM.grown x15 (by intro h; injection h; omega)
  replace X := gb_trans X x15
  clear x15 b7
  refine ops_cons rfl (ow_alloc ti62 ?_)
  intro gX w21 egX b1 x20 zgX
  have lgX : w.heap.size ≤ gX := Nat.le_trans X.size (Nat.le_of_eq egX.symm)
  have pgXhs := Nat.le_trans hs.1 (Nat.le_of_eq egX.symm)
  have ngXbR := Nat.lt_of_lt_of_eq bR.lt egX.symm
  have ngXbT := Nat.lt_of_lt_of_eq bT.lt egX.symm
  have pgXhm := Nat.le_trans hm.hB (Nat.le_of_eq egX.symm)
  have ngXbM := Nat.lt_of_lt_of_eq bM.lt egX.symm
  have ngXb17 := Nat.lt_of_lt_of_eq b17.lt egX.symm
  replace hs := hs.ext x20
  replace bR := bR.ext x20
  replace bT := bT.ext x20
  replace hm := hm.ext x20
  replace bM := bM.ext x20
  replace b17 := b17.ext x20
  replace X := gb_ext X x20; clear x20
  refine ops_cons rfl (ow_storeB b1 ti62 rfl rfl rfl rfl rfl rfl ?_)
  intro w23 bX hg22 z24
  replace hs := hs.grown hg22 (by intro g hg; injection hg; omega)
  replace bR := bR.grown hg22 (by intro h; injection h; omega)
  replace bT := bT.grown hg22 (by intro h; injection h; omega)
  replace hm := hm.grown hg22 (by omega)
  replace bM := bM.grown hg22 (by intro h; injection h; omega)
  replace b17 := b17.grown hg22 (by intro h; injection h; omega)
  replace X := gb_new X hg22 (by intro g hg; injection hg; omega)
  clear hg22 b1
  replace bX : Blk _ gX 62 s0.cells := bX
  refine ops_nil ?_
  refine c_seq ?_
  refine c_seqR ?_
  refine ops_cons rfl (ow_loadAB bM ti28 rfl rfl ?_)
  refine ops_cons rfl (ow_callB ent70 rfl (sIsMedl_c m _ _ hm.med hdw.1) (fun w26 hI x25 => ?_) (fun w26 hI x25 => ?_))
  replace hs := hs.ext x25
  replace bR := bR.ext x25
  replace bT := bT.ext x25
  replace hm := hm.ext x25
  replace bM := bM.ext x25
  replace b17 := b17.ext x25
  replace bX := bX.ext x25
  replace X := gb_ext X x25; clear x25
  have hW := isMedl_iff.1 hI
  have hml := isMT_len hW.mt
  have elm : m.d.ms.length = m.ms.length := List.length_map ..
  rw [elm] at hml
  refine ops_cons rfl (ow_not rfl ?_)
  refine ops_cons rfl (ow_move rfl ?_)
  refine ops_want rfl rfl rfl (ow_move rfl ?_)
  refine ops_want rfl rfl rfl (ow_call ent65 rfl (ret_mono (l01Next_c _ _ _ _ _ _ _ _ _ b17 hs hB ok hbl (by omega)) ?_))
  rintro _ w28 ⟨r16, a30, sd31, rfl, hr32, ok, b29, x27⟩
  replace hs := hs.grown x27 (by intro g hg; injection hg; omega)
  replace bR := bR.grown x27 (by intro h; injection h; omega)
  replace bT := bT.grown x27 (by intro h; injection h; omega)
  replace hm := hm.grown x27 (by omega)
  replace bM := bM.grown x27 (by intro h; injection h; omega)
  replace bX := bX.grown x27 (by intro h; injection h; omega)
  replace X := gb_trans X x27
  clear x27 b17
  refine ops_want rfl rfl rfl (ow_eql2 rfl rfl (fun h16 => ?_) (fun h16 => ?_))
  refine ops_cons rfl (ow_pick rfl rfl ?_)
  refine ops_nil ?_
  refine c_true rfl ?_
  refine c_seqI (fun wz => Blk wz gM 28 m.cells ∧ Blk wz gX 62 s0.cells) mixed ?_
  obtain ⟨w33, ew33⟩ : ∃ wy, wy = World.drew w28 := ⟨_, rfl⟩
  rw [← ew33]
  have xd : Ext w28 w33 := ew33 ▸ Ext.drew w28
  replace hs := hs.ext xd
  replace bR := bR.ext xd
  replace bT := bT.ext xd
  replace hm := hm.ext xd
  replace bM := bM.ext xd
  replace bX := bX.ext xd
  replace b29 := b29.ext xd
  replace X := gb_ext X xd; clear xd ew33
  refine wi_take 0 rfl (by kernel_rfl) rfl (by kernel_rfl) (listed' := #[true, false, false, false]) rfl (fun wq sq => ow_loadAB sq.1 ti28 rfl rfl ⟨rfl, rfl⟩) ?_
  refine wi_take 1 rfl (by kernel_rfl) rfl (by kernel_rfl) (listed' := #[true, true, false, false]) rfl (fun wq sq => ow_loadAB sq.2 ti62 rfl rfl ⟨rfl, rfl⟩) ?_
  refine wi_one 2 rfl rfl (by kernel_rfl) (listed' := #[true, true, true, false]) rfl ⟨bM, bX⟩ (ow_storeB bR ti28 rfl rfl rfl rfl rfl rfl ?_)
  intro w35 bZ hg34 z36
  replace hs := hs.grown hg34 (by intro g hg; injection hg; omega)
  replace bT := bT.grown hg34 (by intro h; injection h; omega)
  replace hm := hm.grown hg34 (by omega)
  replace bM := bM.grown hg34 (by intro h; injection h; omega)
  replace bX := bX.grown hg34 (by intro h; injection h; omega)
  replace b29 := b29.grown hg34 (by intro h; injection h; omega)
  replace X := gb_new X hg34 (by intro g hg; injection hg; omega)
  clear hg34 bR
  refine wi_one 3 rfl rfl (by kernel_rfl) (listed' := #[true, true, true, true]) rfl ⟨bM, bX⟩ (ow_storeB bT ti62 rfl rfl rfl rfl rfl rfl ?_)
  intro w38 bY hg37 z39
  replace hs := hs.grown hg37 (by intro g hg; injection hg; omega)
  replace hm := hm.grown hg37 (by omega)
  replace bM := bM.grown hg37 (by intro h; injection h; omega)
  replace bX := bX.grown hg37 (by intro h; injection h; omega)
  replace b29 := b29.grown hg37 (by intro h; injection h; omega)
  replace bZ := bZ.grown hg37 (by intro h; injection h; omega)
  replace X := gb_new X hg37 (by intro g hg; injection hg; omega)
  clear hg37 bT
  refine wi_done rfl ⟨bM, bX⟩ (fun aj fj => ⟨_, fj, ?_⟩)
  refine c_ret ?_
  refine tq_r ?_
  refine fin_cc rfl rfl bZ ti28 rfl rfl bY ti62 rfl ?_
  exact ⟨m, s0, _, _, rfl, hdw, hm.up (by omega) hm.hB (Nat.le_refl _), ok, b29, X⟩
  refine ops_cons rfl (ow_pick rfl rfl ?_)
  refine ops_nil ?_
  refine c_false rfl ?_
  refine c_skip ?_
  refine tq_n ?_
  refine c_seqR ?_
  refine ops_cons rfl (ow_move rfl ?_)
  refine ops_cons rfl (ow_call ent65 rfl (ret_mono (l01Next_c _ _ _ _ _ _ _ _ _ b29 hs hB ok hbl (by omega)) ?_))
  rintro _ w41 ⟨rt, a43, sd44, rfl, hr45, ok, b42, x40⟩
  replace hs := hs.grown x40 (by intro g hg; injection hg; omega)
  replace bR := bR.grown x40 (by intro h; injection h; omega)
  replace bT := bT.grown x40 (by intro h; injection h; omega)
  replace hm := hm.grown x40 (by omega)
  replace bM := bM.grown x40 (by intro h; injection h; omega)
  replace bX := bX.grown x40 (by intro h; injection h; omega)
  replace X := gb_trans X x40
  clear x40 b29
  refine ops_cons rfl (ow_fieldAddrB off62_0 rfl rfl ?_)
  refine ops_cons rfl (ow_storeB bX ti2 rfl rfl rfl rfl rfl rfl ?_)
  intro w47 bX1 hg46 z48
  replace hs := hs.grown hg46 (by intro g hg; injection hg; omega)
  replace bR := bR.grown hg46 (by intro h; injection h; omega)
  replace bT := bT.grown hg46 (by intro h; injection h; omega)
  replace hm := hm.grown hg46 (by omega)
  replace bM := bM.grown hg46 (by intro h; injection h; omega)
  replace b42 := b42.grown hg46 (by intro h; injection h; omega)
  replace X := gb_new X hg46 (by intro g hg; injection hg; omega)
  clear hg46 bX
  replace bX1 : Blk _ gX 62 (⟨rt, s0.mode, s0.round, s0.slot, s0.members⟩ : StateI).cells := bX1
  refine ops_nil ?_
  refine c_seqR ?_
  refine ops_cons rfl (ow_move rfl ?_)
  refine ops_cons rfl (ow_fieldAddrB off28_2 rfl rfl ?_)
  refine ops_cons rfl (ow_loadB bM ti25 rfl rfl ?_)
  refine ops_cons rfl (ow_len Tryz.underlying25 rfl ?_)
  refine ops_cons rfl (ow_call ent65 rfl (ret_mono (l01Next_c _ _ _ _ _ _ _ _ _ b42 hs hB ok hbl (by omega)) ?_))
  rintro _ w50 ⟨rm, a52, sd53, rfl, hr54, ok, b51, x49⟩
  replace hs := hs.grown x49 (by intro g hg; injection hg; omega)
  replace bR := bR.grown x49 (by intro h; injection h; omega)
  replace bT := bT.grown x49 (by intro h; injection h; omega)
  replace hm := hm.grown x49 (by omega)
  replace bM := bM.grown x49 (by intro h; injection h; omega)
  replace bX1 := bX1.grown x49 (by intro h; injection h; omega)
  replace X := gb_trans X x49
  clear x49 b42
  refine ops_cons rfl (ow_fieldAddrB off62_1 rfl rfl ?_)
  refine ops_cons rfl (ow_storeB bX1 ti2 rfl rfl rfl rfl rfl rfl ?_)
  intro w56 bX2 hg55 z57
  replace hs := hs.grown hg55 (by intro g hg; injection hg; omega)
  replace bR := bR.grown hg55 (by intro h; injection h; omega)
  replace bT := bT.grown hg55 (by intro h; injection h; omega)
  replace hm := hm.grown hg55 (by omega)
  replace bM := bM.grown hg55 (by intro h; injection h; omega)
  replace b51 := b51.grown hg55 (by intro h; injection h; omega)
  replace X := gb_new X hg55 (by intro g hg; injection hg; omega)
  clear hg55 bX1
  replace bX2 : Blk _ gX 62 (⟨rt, rm, s0.round, s0.slot, s0.members⟩ : StateI).cells := bX2
  obtain ⟨x, hx⟩ : ∃ x, m.ms[rm.toNat]? = some x := ⟨_, List.getElem?_eq_getElem (by omega)⟩
  have hxi := isMT_in hW.mt x.m (List.mem_map.2 ⟨x, List.mem_of_getElem? hx, rfl⟩)
  refine ops_nil ?_
  refine c_seqZ 14 (fun wz => Blk wz gM 28 m.cells ∧ Blk wz gX 62 (⟨rt, rm, s0.round, s0.slot, s0.members⟩ : StateI).cells ∧ MedF loM hiM wz m) mixed ?_
  obtain ⟨w58, ew58⟩ : ∃ wy, wy = World.drew w56 := ⟨_, rfl⟩
  rw [← ew58]
  have xd : Ext w56 w58 := ew58 ▸ Ext.drew w56
  replace hs := hs.ext xd
  replace bR := bR.ext xd
  replace bT := bT.ext xd
  replace hm := hm.ext xd
  replace bM := bM.ext xd
  replace b51 := b51.ext xd
  replace bX2 := bX2.ext xd
  replace X := gb_ext X xd; clear xd ew58
  refine wz_take 0 rfl (by kernel_rfl) rfl (by kernel_rfl) (listed' := #[true, false, false, false, false, false, false, false, false, false, false, false, false, false, false]) rfl (fun wq sq => ow_move rfl ⟨rfl, rfl⟩) ?_
  refine wz_take 1 rfl (by kernel_rfl) rfl (by kernel_rfl) (listed' := #[true, true, false, false, false, false, false, false, false, false, false, false, false, false, false]) rfl (fun wq sq => ow_fieldAddrB off28_2 rfl rfl ⟨rfl, rfl⟩) ?_
  refine wz_take 2 rfl (by kernel_rfl) rfl (by kernel_rfl) (listed' := #[true, true, true, false, false, false, false, false, false, false, false, false, false, false, false]) rfl (fun wq sq => ow_loadB sq.1 ti25 rfl rfl ⟨rfl, rfl⟩) ?_
  refine wz_take 3 rfl (by kernel_rfl) rfl (by kernel_rfl) (listed' := #[true, true, true, true, false, false, false, false, false, false, false, false, false, false, false]) rfl (fun wq sq => ow_fieldAddrB off62_1 rfl rfl ⟨rfl, rfl⟩) ?_
  refine wz_take 4 rfl (by kernel_rfl) rfl (by kernel_rfl) (listed' := #[true, true, true, true, true, false, false, false, false, false, false, false, false, false, false]) rfl (fun wq sq => ow_loadB sq.2.1 ti2 rfl rfl ⟨rfl, rfl⟩) ?_
  refine wz_take 5 rfl (by kernel_rfl) rfl (by kernel_rfl) (listed' := #[true, true, true, true, true, true, false, false, false, false, false, false, false, false, false]) rfl (fun wq sq => ow_indexT (sq.2.2).med.sm ModeI.len rfl el25 rfl rfl rfl hx (show rm = ((rm.toNat : Nat) : Int) by omega) ⟨rfl, rfl⟩) ?_
  refine wz_take 6 rfl (by kernel_rfl) rfl (by kernel_rfl) (listed' := #[true, true, true, true, true, true, true, false, false, false, false, false, false, false, false]) rfl (fun wq sq => ow_fieldAddr off92_0 rfl ⟨rfl, rfl⟩) ?_
  refine wz_take 7 rfl (by kernel_rfl) rfl (by kernel_rfl) (listed' := #[true, true, true, true, true, true, true, true, false, false, false, false, false, false, false]) rfl (fun wq sq => ow_loadTF (sq.2.2).med.sm ModeI.len hx ti2 rfl rfl rfl ⟨rfl, rfl⟩) ?_
  refine wz_take 8 rfl (by kernel_rfl) rfl (by kernel_rfl) (listed' := #[true, true, true, true, true, true, true, true, true, false, false, false, false, false, false]) rfl (fun wq sq => ow_move rfl ⟨rfl, rfl⟩) ?_
  refine wz_one 9 rfl rfl (by kernel_rfl) (listed' := #[true, true, true, true, true, true, true, true, true, true, false, false, false, false, false]) rfl (fun _ => ⟨bM, bX2, hm⟩) (ow_call ent65 rfl (ret_mono (l01Next_c _ _ _ _ _ _ _ _ _ b51 hs hB ok hbl (by omega)) ?_))
  rintro _ w60 ⟨ra, a62, sd63, rfl, hr64, ok, b61, x59⟩
  replace hs := hs.grown x59 (by intro g hg; injection hg; omega)
  replace bR := bR.grown x59 (by intro h; injection h; omega)
  replace bT := bT.grown x59 (by intro h; injection h; omega)
  replace hm := hm.grown x59 (by omega)
  replace bM := bM.grown x59 (by intro h; injection h; omega)
  replace bX2 := bX2.grown x59 (by intro h; injection h; omega)
  replace X := gb_trans X x59
  clear x59 b51
  refine wz_take 10 rfl (by kernel_rfl) rfl (by kernel_rfl) (listed' := #[true, true, true, true, true, true, true, true, true, true, true, false, false, false, false]) rfl (fun wq sq => ow_quo rfl rfl (by omega) (q64 (by omega)) ⟨rfl, rfl⟩) ?_
  refine wz_take 11 rfl (by kernel_rfl) rfl (by kernel_rfl) (listed' := #[true, true, true, true, true, true, true, true, true, true, true, true, false, false, false]) rfl (fun wq sq => ow_add rfl rfl (w64 (by omega)) ⟨rfl, rfl⟩) ?_
  refine wz_one 12 rfl rfl (by kernel_rfl) (listed' := #[true, true, true, true, true, true, true, true, true, true, true, true, true, false, false]) rfl (fun _ => ⟨bM, bX2, hm⟩) (ow_call ent65 rfl (ret_mono (l01Next_c _ _ _ _ _ _ _ _ _ b61 hs hB ok hbl (by omega)) ?_))
  rintro _ w66 ⟨rb, a68, sd69, rfl, hr70, ok, b67, x65⟩
  replace hs := hs.grown x65 (by intro g hg; injection hg; omega)
  replace bR := bR.grown x65 (by intro h; injection h; omega)
  replace bT := bT.grown x65 (by intro h; injection h; omega)
  replace hm := hm.grown x65 (by omega)
  replace bM := bM.grown x65 (by intro h; injection h; omega)
  replace bX2 := bX2.grown x65 (by intro h; injection h; omega)
  replace X := gb_trans X x65
  clear x65 b61
  refine wz_take 13 rfl (by kernel_rfl) rfl (by kernel_rfl) (listed' := #[true, true, true, true, true, true, true, true, true, true, true, true, true, true, false]) rfl (fun wq sq => ow_fieldAddrB off62_2 rfl rfl ⟨rfl, rfl⟩) ?_
  refine wz_one 14 rfl rfl (by kernel_rfl) (listed' := #[true, true, true, true, true, true, true, true, true, true, true, true, true, true, true]) rfl (fun _ => ⟨bM, bX2, hm⟩) (ow_storeB bX2 ti2 rfl rfl rfl rfl rfl rfl ?_)
  intro w72 bX3 hg71 z73
  replace hs := hs.grown hg71 (by intro g hg; injection hg; omega)
  replace bR := bR.grown hg71 (by intro h; injection h; omega)
  replace bT := bT.grown hg71 (by intro h; injection h; omega)
  replace hm := hm.grown hg71 (by omega)
  replace bM := bM.grown hg71 (by intro h; injection h; omega)
  replace b67 := b67.grown hg71 (by intro h; injection h; omega)
  replace X := gb_new X hg71 (by intro g hg; injection hg; omega)
  clear hg71 bX2
  replace bX3 : Blk _ gX 62 (⟨rt, rm, rb, s0.slot, s0.members⟩ : StateI).cells := bX3
  refine wz_done rfl (fun h => absurd h (by decide)) (fun aj fj => ⟨_, fj, ?_⟩)
  refine c_seqZ 14 (fun wz => Blk wz gM 28 m.cells ∧ Blk wz gX 62 (⟨rt, rm, rb, s0.slot, s0.members⟩ : StateI).cells ∧ MedF loM hiM wz m) mixed ?_
  obtain ⟨w74, ew74⟩ : ∃ wy, wy = World.drew w72 := ⟨_, rfl⟩
  rw [← ew74]
  have xd : Ext w72 w74 := ew74 ▸ Ext.drew w72
  replace hs := hs.ext xd
  replace bR := bR.ext xd
  replace bT := bT.ext xd
  replace hm := hm.ext xd
  replace bM := bM.ext xd
  replace b67 := b67.ext xd
  replace bX3 := bX3.ext xd
  replace X := gb_ext X xd; clear xd ew74
  refine wz_take 0 rfl (by kernel_rfl) rfl (by kernel_rfl) (listed' := #[true, false, false, false, false, false, false, false, false, false, false, false, false, false, false]) rfl (fun wq sq => ow_move rfl ⟨rfl, rfl⟩) ?_
  refine wz_take 1 rfl (by kernel_rfl) rfl (by kernel_rfl) (listed' := #[true, true, false, false, false, false, false, false, false, false, false, false, false, false, false]) rfl (fun wq sq => ow_fieldAddrB off28_2 rfl rfl ⟨rfl, rfl⟩) ?_
  refine wz_take 2 rfl (by kernel_rfl) rfl (by kernel_rfl) (listed' := #[true, true, true, false, false, false, false, false, false, false, false, false, false, false, false]) rfl (fun wq sq => ow_loadB sq.1 ti25 rfl rfl ⟨rfl, rfl⟩) ?_
  refine wz_take 3 rfl (by kernel_rfl) rfl (by kernel_rfl) (listed' := #[true, true, true, true, false, false, false, false, false, false, false, false, false, false, false]) rfl (fun wq sq => ow_fieldAddrB off62_1 rfl rfl ⟨rfl, rfl⟩) ?_
  refine wz_take 4 rfl (by kernel_rfl) rfl (by kernel_rfl) (listed' := #[true, true, true, true, true, false, false, false, false, false, false, false, false, false, false]) rfl (fun wq sq => ow_loadB sq.2.1 ti2 rfl rfl ⟨rfl, rfl⟩) ?_
  refine wz_take 5 rfl (by kernel_rfl) rfl (by kernel_rfl) (listed' := #[true, true, true, true, true, true, false, false, false, false, false, false, false, false, false]) rfl (fun wq sq => ow_indexT (sq.2.2).med.sm ModeI.len rfl el25 rfl rfl rfl hx (show rm = ((rm.toNat : Nat) : Int) by omega) ⟨rfl, rfl⟩) ?_
  refine wz_take 6 rfl (by kernel_rfl) rfl (by kernel_rfl) (listed' := #[true, true, true, true, true, true, true, false, false, false, false, false, false, false, false]) rfl (fun wq sq => ow_fieldAddr off92_1 rfl ⟨rfl, rfl⟩) ?_
  refine wz_take 7 rfl (by kernel_rfl) rfl (by kernel_rfl) (listed' := #[true, true, true, true, true, true, true, true, false, false, false, false, false, false, false]) rfl (fun wq sq => ow_loadTF (sq.2.2).med.sm ModeI.len hx ti2 rfl rfl rfl ⟨rfl, rfl⟩) ?_
  refine wz_take 8 rfl (by kernel_rfl) rfl (by kernel_rfl) (listed' := #[true, true, true, true, true, true, true, true, true, false, false, false, false, false, false]) rfl (fun wq sq => ow_move rfl ⟨rfl, rfl⟩) ?_
  refine wz_one 9 rfl rfl (by kernel_rfl) (listed' := #[true, true, true, true, true, true, true, true, true, true, false, false, false, false, false]) rfl (fun _ => ⟨bM, bX3, hm⟩) (ow_call ent65 rfl (ret_mono (l01Next_c _ _ _ _ _ _ _ _ _ b67 hs hB ok hbl (by omega)) ?_))
  rintro _ w76 ⟨rc, a78, sd79, rfl, hr80, ok, b77, x75⟩
  replace hs := hs.grown x75 (by intro g hg; injection hg; omega)
  replace bR := bR.grown x75 (by intro h; injection h; omega)
  replace bT := bT.grown x75 (by intro h; injection h; omega)
  replace hm := hm.grown x75 (by omega)
  replace bM := bM.grown x75 (by intro h; injection h; omega)
  replace bX3 := bX3.grown x75 (by intro h; injection h; omega)
  replace X := gb_trans X x75
  clear x75 b67
  refine wz_take 10 rfl (by kernel_rfl) rfl (by kernel_rfl) (listed' := #[true, true, true, true, true, true, true, true, true, true, true, false, false, false, false]) rfl (fun wq sq => ow_quo rfl rfl (by omega) (q64 (by omega)) ⟨rfl, rfl⟩) ?_
  refine wz_take 11 rfl (by kernel_rfl) rfl (by kernel_rfl) (listed' := #[true, true, true, true, true, true, true, true, true, true, true, true, false, false, false]) rfl (fun wq sq => ow_add rfl rfl (w64 (by omega)) ⟨rfl, rfl⟩) ?_
  refine wz_one 12 rfl rfl (by kernel_rfl) (listed' := #[true, true, true, true, true, true, true, true, true, true, true, true, true, false, false]) rfl (fun _ => ⟨bM, bX3, hm⟩) (ow_call ent65 rfl (ret_mono (l01Next_c _ _ _ _ _ _ _ _ _ b77 hs hB ok hbl (by omega)) ?_))
  rintro _ w82 ⟨rd, a84, sd85, rfl, hr86, ok, b83, x81⟩
  replace hs := hs.grown x81 (by intro g hg; injection hg; omega)
  replace bR := bR.grown x81 (by intro h; injection h; omega)
  replace bT := bT.grown x81 (by intro h; injection h; omega)
  replace hm := hm.grown x81 (by omega)
  replace bM := bM.grown x81 (by intro h; injection h; omega)
  replace bX3 := bX3.grown x81 (by intro h; injection h; omega)
  replace X := gb_trans X x81
  clear x81 b77
  refine wz_take 13 rfl (by kernel_rfl) rfl (by kernel_rfl) (listed' := #[true, true, true, true, true, true, true, true, true, true, true, true, true, true, false]) rfl (fun wq sq => ow_fieldAddrB off62_3 rfl rfl ⟨rfl, rfl⟩) ?_
  refine wz_one 14 rfl rfl (by kernel_rfl) (listed' := #[true, true, true, true, true, true, true, true, true, true, true, true, true, true, true]) rfl (fun _ => ⟨bM, bX3, hm⟩) (ow_storeB bX3 ti2 rfl rfl rfl rfl rfl rfl ?_)
  intro w88 bX4 hg87 z89
  replace hs := hs.grown hg87 (by intro g hg; injection hg; omega)
  replace bR := bR.grown hg87 (by intro h; injection h; omega)
  replace bT := bT.grown hg87 (by intro h; injection h; omega)
  replace hm := hm.grown hg87 (by omega)
  replace bM := bM.grown hg87 (by intro h; injection h; omega)
  replace b83 := b83.grown hg87 (by intro h; injection h; omega)
  replace X := gb_new X hg87 (by intro g hg; injection hg; omega)
  clear hg87 bX3
  refine wz_done rfl (fun h => absurd h (by decide)) (fun aj fj => ⟨_, fj, ?_⟩)
  refine c_seqR ?_
  refine ops_cons rfl (ow_fieldAddrB off28_1 rfl rfl ?_)
  refine ops_cons rfl (ow_loadB bM ti24 rfl rfl ?_)
  refine ops_cons rfl (ow_call ent181 rfl (ret_mono (l10Active_c _ _ _ m.ns _ hm.med.sn hdw.1.ln (isNT_ids hW.nt)) ?_))
  rintro _ w91 ⟨rfl, x90⟩
  replace hs := hs.ext x90
  replace bR := bR.ext x90
  replace bT := bT.ext x90
  replace hm := hm.ext x90
  replace bM := bM.ext x90
  replace b83 := b83.ext x90
  replace bX4 := bX4.ext x90
  replace X := gb_ext X x90; clear x90
  refine ops_cons rfl (ow_fieldAddrB off62_4 rfl rfl ?_)
  refine ops_cons rfl (ow_storeB bX4 ti2 rfl rfl rfl rfl rfl rfl ?_)
  intro w93 bXA hg92 z94
  replace hs := hs.grown hg92 (by intro g hg; injection hg; omega)
  replace bR := bR.grown hg92 (by intro h; injection h; omega)
  replace bT := bT.grown hg92 (by intro h; injection h; omega)
  replace hm := hm.grown hg92 (by omega)
  replace bM := bM.grown hg92 (by intro h; injection h; omega)
  replace b83 := b83.grown hg92 (by intro h; injection h; omega)
  replace X := gb_new X hg92 (by intro g hg; injection hg; omega)
  clear hg92 bX4
  obtain ⟨sA, bXA⟩ := st_any bXA
  refine ops_nil ?_
  refine c_seq ?_
  refine c_seqR ?_
  refine ops_cons rfl (ow_move rfl ?_)
  refine ops_cons rfl (ow_call ent65 rfl (ret_mono (l01Next_c _ _ _ _ _ _ _ _ _ b83 hs hB ok hbl (by omega)) ?_))
  rintro _ w96 ⟨re, a98, sd99, rfl, hr100, ok, b97, x95⟩
  replace hs := hs.grown x95 (by intro g hg; injection hg; omega)
  replace bR := bR.grown x95 (by intro h; injection h; omega)
  replace bT := bT.grown x95 (by intro h; injection h; omega)
  replace hm := hm.grown x95 (by omega)
  replace bM := bM.grown x95 (by intro h; injection h; omega)
  replace bXA := bXA.grown x95 (by intro h; injection h; omega)
  replace X := gb_trans X x95
  clear x95 b83
  refine ops_cons rfl (ow_eql2 rfl rfl (fun h10 => ?_) (fun h10 => ?_))
  refine ops_nil ?_
  refine c_true rfl ?_
  refine c_regZ 6 (fun wz => Blk wz gX 62 sA.cells) mixed ?_
  obtain ⟨w101, ew101⟩ : ∃ wy, wy = World.drew w96 := ⟨_, rfl⟩
  rw [← ew101]
  have xd : Ext w96 w101 := ew101 ▸ Ext.drew w96
  replace hs := hs.ext xd
  replace bR := bR.ext xd
  replace bT := bT.ext xd
  replace hm := hm.ext xd
  replace bM := bM.ext xd
  replace bXA := bXA.ext xd
  replace b97 := b97.ext xd
  replace X := gb_ext X xd; clear xd ew101
  refine wz_take 0 rfl (by kernel_rfl) rfl (by kernel_rfl) (listed' := #[true, false, false, false, false, false, false]) rfl (fun wq sq => ow_fieldAddrB off62_4 rfl rfl ⟨rfl, rfl⟩) ?_
  refine wz_take 1 rfl (by kernel_rfl) rfl (by kernel_rfl) (listed' := #[true, true, false, false, false, false, false]) rfl (fun wq sq => ow_loadB sq ti2 rfl rfl ⟨rfl, rfl⟩) ?_
  refine wz_take 2 rfl (by kernel_rfl) rfl (by kernel_rfl) (listed' := #[true, true, true, false, false, false, false]) rfl (fun wq sq => ow_move rfl ⟨rfl, rfl⟩) ?_
  refine wz_one 3 rfl rfl (by kernel_rfl) (listed' := #[true, true, true, true, false, false, false]) rfl (fun _ => bXA) (ow_call ent65 rfl (ret_mono (l01Next_c _ _ _ _ _ _ _ _ _ b97 hs hB ok hbl (by omega)) ?_))
  rintro _ w103 ⟨rf, a105, sd106, rfl, hr107, ok, b104, x102⟩
  replace hs := hs.grown x102 (by intro g hg; injection hg; omega)
  replace bR := bR.grown x102 (by intro h; injection h; omega)
  replace bT := bT.grown x102 (by intro h; injection h; omega)
  replace hm := hm.grown x102 (by omega)
  replace bM := bM.grown x102 (by intro h; injection h; omega)
  replace bXA := bXA.grown x102 (by intro h; injection h; omega)
  replace X := gb_trans X x102
  clear x102 b97
  refine wz_take 4 rfl (by kernel_rfl) rfl (by kernel_rfl) (listed' := #[true, true, true, true, true, false, false]) rfl (fun wq sq => ow_and rfl rfl rfl ⟨rfl, rfl⟩) ?_
  refine wz_take 5 rfl (by kernel_rfl) rfl (by kernel_rfl) (listed' := #[true, true, true, true, true, true, false]) rfl (fun wq sq => ow_fieldAddrB off62_4 rfl rfl ⟨rfl, rfl⟩) ?_
  refine wz_one 6 rfl rfl (by kernel_rfl) (listed' := #[true, true, true, true, true, true, true]) rfl (fun _ => bXA) (ow_storeB bXA ti2 rfl rfl rfl rfl rfl rfl ?_)
  intro w109 bXB hg108 z110
  replace hs := hs.grown hg108 (by intro g hg; injection hg; omega)
  replace bR := bR.grown hg108 (by intro h; injection h; omega)
  replace bT := bT.grown hg108 (by intro h; injection h; omega)
  replace hm := hm.grown hg108 (by omega)
  replace bM := bM.grown hg108 (by intro h; injection h; omega)
  replace b104 := b104.grown hg108 (by intro h; injection h; omega)
  replace X := gb_new X hg108 (by intro g hg; injection hg; omega)
  clear hg108 bXA
  obtain ⟨sB, bXB⟩ := st_any bXB
  refine wz_done rfl (fun h => absurd h (by decide)) (fun aj fj => ⟨_, fj, ?_⟩)
  refine tq_n ?_
  refine c_seq ?_
  refine c_seqR ?_
  refine ops_cons rfl (ow_move rfl ?_)
  refine ops_cons rfl (ow_call ent65 rfl (ret_mono (l01Next_c _ _ _ _ _ _ _ _ _ b104 hs hB ok hbl (by omega)) ?_))
  rintro _ w112 ⟨rg, a114, sd115, rfl, hr116, ok, b113, x111⟩
  replace hs := hs.grown x111 (by intro g hg; injection hg; omega)
  replace bR := bR.grown x111 (by intro h; injection h; omega)
  replace bT := bT.grown x111 (by intro h; injection h; omega)
  replace hm := hm.grown x111 (by omega)
  replace bM := bM.grown x111 (by intro h; injection h; omega)
  replace bXB := bXB.grown x111 (by intro h; injection h; omega)
  replace X := gb_trans X x111
  clear x111 b104
  refine ops_cons rfl (ow_eql2 rfl rfl (fun h12 => ?_) (fun h12 => ?_))
  refine ops_nil ?_
  refine c_true rfl ?_
  refine c_regZ 8 (fun wz => Blk wz gX 62 sB.cells) mixed ?_
  obtain ⟨w117, ew117⟩ : ∃ wy, wy = World.drew w112 := ⟨_, rfl⟩
  rw [← ew117]
  have xd : Ext w112 w117 := ew117 ▸ Ext.drew w112
  replace hs := hs.ext xd
  replace bR := bR.ext xd
  replace bT := bT.ext xd
  replace hm := hm.ext xd
  replace bM := bM.ext xd
  replace bXB := bXB.ext xd
  replace b113 := b113.ext xd
  replace X := gb_ext X xd; clear xd ew117
  refine wz_take 0 rfl (by kernel_rfl) rfl (by kernel_rfl) (listed' := #[true, false, false, false, false, false, false, false, false]) rfl (fun wq sq => ow_fieldAddrB off62_4 rfl rfl ⟨rfl, rfl⟩) ?_
  refine wz_take 1 rfl (by kernel_rfl) rfl (by kernel_rfl) (listed' := #[true, true, false, false, false, false, false, false, false]) rfl (fun wq sq => ow_loadB sq ti2 rfl rfl ⟨rfl, rfl⟩) ?_
  refine wz_take 2 rfl (by kernel_rfl) rfl (by kernel_rfl) (listed' := #[true, true, true, false, false, false, false, false, false]) rfl (fun wq sq => ow_move rfl ⟨rfl, rfl⟩) ?_
  refine wz_one 3 rfl rfl (by kernel_rfl) (listed' := #[true, true, true, true, false, false, false, false, false]) rfl (fun _ => bXB) (ow_call ent65 rfl (ret_mono (l01Next_c _ _ _ _ _ _ _ _ _ b113 hs hB ok hbl (by omega)) ?_))
  rintro _ w119 ⟨rh, a121, sd122, rfl, hr123, ok, b120, x118⟩
  replace hs := hs.grown x118 (by intro g hg; injection hg; omega)
  replace bR := bR.grown x118 (by intro h; injection h; omega)
  replace bT := bT.grown x118 (by intro h; injection h; omega)
  replace hm := hm.grown x118 (by omega)
  replace bM := bM.grown x118 (by intro h; injection h; omega)
  replace bXB := bXB.grown x118 (by intro h; injection h; omega)
  replace X := gb_trans X x118
  clear x118 b113
  refine wz_take 4 rfl (by kernel_rfl) rfl (by kernel_rfl) (listed' := #[true, true, true, true, true, false, false, false, false]) rfl (fun wq sq => ow_conv Tryz.underlying2 Tryz.underlying140 rfl (wu64 (by omega)) ⟨rfl, rfl⟩) ?_
  refine wz_take 5 rfl (by kernel_rfl) rfl (by kernel_rfl) (listed' := #[true, true, true, true, true, true, false, false, false]) rfl (fun wq sq => ow_shl rfl rfl (by omega) rfl ⟨rfl, rfl⟩) ?_
  refine wz_take 6 rfl (by kernel_rfl) rfl (by kernel_rfl) (listed' := #[true, true, true, true, true, true, true, false, false]) rfl (fun wq sq => ow_xor rfl rfl rfl ⟨rfl, rfl⟩) ?_
  refine wz_take 7 rfl (by kernel_rfl) rfl (by kernel_rfl) (listed' := #[true, true, true, true, true, true, true, true, false]) rfl (fun wq sq => ow_fieldAddrB off62_4 rfl rfl ⟨rfl, rfl⟩) ?_
  refine wz_one 8 rfl rfl (by kernel_rfl) (listed' := #[true, true, true, true, true, true, true, true, true]) rfl (fun _ => bXB) (ow_storeB bXB ti2 rfl rfl rfl rfl rfl rfl ?_)
  intro w125 bXC hg124 z126
  replace hs := hs.grown hg124 (by intro g hg; injection hg; omega)
  replace bR := bR.grown hg124 (by intro h; injection h; omega)
  replace bT := bT.grown hg124 (by intro h; injection h; omega)
  replace hm := hm.grown hg124 (by omega)
  replace bM := bM.grown hg124 (by intro h; injection h; omega)
  replace b120 := b120.grown hg124 (by intro h; injection h; omega)
  replace X := gb_new X hg124 (by intro g hg; injection hg; omega)
  clear hg124 bXB
  obtain ⟨sC, bXC⟩ := st_any bXC
  refine wz_done rfl (fun h => absurd h (by decide)) (fun aj fj => ⟨_, fj, ?_⟩)
  refine tq_n ?_
  refine c_seqI (fun wz => Blk wz gM 28 m.cells ∧ Blk wz gX 62 sC.cells) mixed ?_
  obtain ⟨w127, ew127⟩ : ∃ wy, wy = World.drew w125 := ⟨_, rfl⟩
  rw [← ew127]
  have xd : Ext w125 w127 := ew127 ▸ Ext.drew w125
  replace hs := hs.ext xd
  replace bR := bR.ext xd
  replace bT := bT.ext xd
  replace hm := hm.ext xd
  replace bM := bM.ext xd
  replace b120 := b120.ext xd
  replace bXC := bXC.ext xd
  replace X := gb_ext X xd; clear xd ew127
  refine wi_take 0 rfl (by kernel_rfl) rfl (by kernel_rfl) (listed' := #[true, false, false, false]) rfl (fun wq sq => ow_loadAB sq.1 ti28 rfl rfl ⟨rfl, rfl⟩) ?_
  refine wi_take 1 rfl (by kernel_rfl) rfl (by kernel_rfl) (listed' := #[true, true, false, false]) rfl (fun wq sq => ow_loadAB sq.2 ti62 rfl rfl ⟨rfl, rfl⟩) ?_
  refine wi_one 2 rfl rfl (by kernel_rfl) (listed' := #[true, true, true, false]) rfl ⟨bM, bXC⟩ (ow_storeB bR ti28 rfl rfl rfl rfl rfl rfl ?_)
  intro w129 bZ hg128 z130
  replace hs := hs.grown hg128 (by intro g hg; injection hg; omega)
  replace bT := bT.grown hg128 (by intro h; injection h; omega)
  replace hm := hm.grown hg128 (by omega)
  replace bM := bM.grown hg128 (by intro h; injection h; omega)
  replace b120 := b120.grown hg128 (by intro h; injection h; omega)
  replace bXC := bXC.grown hg128 (by intro h; injection h; omega)
  replace X := gb_new X hg128 (by intro g hg; injection hg; omega)
  clear hg128 bR
  refine wi_one 3 rfl rfl (by kernel_rfl) (listed' := #[true, true, true, true]) rfl ⟨bM, bXC⟩ (ow_storeB bT ti62 rfl rfl rfl rfl rfl rfl ?_)
  intro w132 bY hg131 z133
  replace hs := hs.grown hg131 (by intro g hg; injection hg; omega)
  replace hm := hm.grown hg131 (by omega)
  replace bM := bM.grown hg131 (by intro h; injection h; omega)
  replace b120 := b120.grown hg131 (by intro h; injection h; omega)
  replace bXC := bXC.grown hg131 (by intro h; injection h; omega)
  replace bZ := bZ.grown hg131 (by intro h; injection h; omega)
  replace X := gb_new X hg131 (by intro g hg; injection hg; omega)
  clear hg131 bT
  refine wi_done rfl ⟨bM, bXC⟩ (fun aj fj => ⟨_, fj, ?_⟩)
  refine c_ret ?_
  refine fin_cc rfl rfl bZ ti28 rfl rfl bY ti62 rfl ?_
  exact ⟨m, sC, _, _, rfl, hdw, hm.up (by omega) hm.hB (Nat.le_refl _), ok, b120, X⟩
  refine ops_nil ?_
  refine c_false rfl ?_
  refine c_skip ?_
  refine tq_n ?_
  refine c_seqI (fun wz => Blk wz gM 28 m.cells ∧ Blk wz gX 62 sB.cells) mixed ?_
  obtain ⟨w134, ew134⟩ : ∃ wy, wy = World.drew w112 := ⟨_, rfl⟩
  rw [← ew134]
  have xd : Ext w112 w134 := ew134 ▸ Ext.drew w112
  replace hs := hs.ext xd
  replace bR := bR.ext xd
  replace bT := bT.ext xd
  replace hm := hm.ext xd
  replace bM := bM.ext xd
  replace bXB := bXB.ext xd
  replace b113 := b113.ext xd
  replace X := gb_ext X xd; clear xd ew134
  refine wi_take 0 rfl (by kernel_rfl) rfl (by kernel_rfl) (listed' := #[true, false, false, false]) rfl (fun wq sq => ow_loadAB sq.1 ti28 rfl rfl ⟨rfl, rfl⟩) ?_
  refine wi_take 1 rfl (by kernel_rfl) rfl (by kernel_rfl) (listed' := #[true, true, false, false]) rfl (fun wq sq => ow_loadAB sq.2 ti62 rfl rfl ⟨rfl, rfl⟩) ?_
  refine wi_one 2 rfl rfl (by kernel_rfl) (listed' := #[true, true, true, false]) rfl ⟨bM, bXB⟩ (ow_storeB bR ti28 rfl rfl rfl rfl rfl rfl ?_)
  intro w136 bZ hg135 z137
  replace hs := hs.grown hg135 (by intro g hg; injection hg; omega)
  replace bT := bT.grown hg135 (by intro h; injection h; omega)
  replace hm := hm.grown hg135 (by omega)
  replace bM := bM.grown hg135 (by intro h; injection h; omega)
  replace bXB := bXB.grown hg135 (by intro h; injection h; omega)
  replace b113 := b113.grown hg135 (by intro h; injection h; omega)
  replace X := gb_new X hg135 (by intro g hg; injection hg; omega)
  clear hg135 bR
  refine wi_one 3 rfl rfl (by kernel_rfl) (listed' := #[true, true, true, true]) rfl ⟨bM, bXB⟩ (ow_storeB bT ti62 rfl rfl rfl rfl rfl rfl ?_)
  intro w139 bY hg138 z140
  replace hs := hs.grown hg138 (by intro g hg; injection hg; omega)
  replace hm := hm.grown hg138 (by omega)
  replace bM := bM.grown hg138 (by intro h; injection h; omega)
  replace bXB := bXB.grown hg138 (by intro h; injection h; omega)
  replace b113 := b113.grown hg138 (by intro h; injection h; omega)
  replace bZ := bZ.grown hg138 (by intro h; injection h; omega)
  replace X := gb_new X hg138 (by intro g hg; injection hg; omega)
  clear hg138 bT
  refine wi_done rfl ⟨bM, bXB⟩ (fun aj fj => ⟨_, fj, ?_⟩)
  refine c_ret ?_
  refine fin_cc rfl rfl bZ ti28 rfl rfl bY ti62 rfl ?_
  exact ⟨m, sB, _, _, rfl, hdw, hm.up (by omega) hm.hB (Nat.le_refl _), ok, b113, X⟩
  refine ops_nil ?_
  refine c_false rfl ?_
  refine c_skip ?_
  refine tq_n ?_
  refine c_seq ?_
  refine c_seqR ?_
  refine ops_cons rfl (ow_move rfl ?_)
  refine ops_cons rfl (ow_call ent65 rfl (ret_mono (l01Next_c _ _ _ _ _ _ _ _ _ b97 hs hB ok hbl (by omega)) ?_))
  rintro _ w142 ⟨rg, a144, sd145, rfl, hr146, ok, b143, x141⟩
  replace hs := hs.grown x141 (by intro g hg; injection hg; omega)
  replace bR := bR.grown x141 (by intro h; injection h; omega)
  replace bT := bT.grown x141 (by intro h; injection h; omega)
  replace hm := hm.grown x141 (by omega)
  replace bM := bM.grown x141 (by intro h; injection h; omega)
  replace bXA := bXA.grown x141 (by intro h; injection h; omega)
  replace X := gb_trans X x141
  clear x141 b97
  refine ops_cons rfl (ow_eql2 rfl rfl (fun h12 => ?_) (fun h12 => ?_))
  refine ops_nil ?_
  refine c_true rfl ?_
  refine c_regZ 8 (fun wz => Blk wz gX 62 sA.cells) mixed ?_
  obtain ⟨w147, ew147⟩ : ∃ wy, wy = World.drew w142 := ⟨_, rfl⟩
  rw [← ew147]
  have xd : Ext w142 w147 := ew147 ▸ Ext.drew w142
  replace hs := hs.ext xd
  replace bR := bR.ext xd
  replace bT := bT.ext xd
  replace hm := hm.ext xd
  replace bM := bM.ext xd
  replace bXA := bXA.ext xd
  replace b143 := b143.ext xd
  replace X := gb_ext X xd; clear xd ew147
  refine wz_take 0 rfl (by kernel_rfl) rfl (by kernel_rfl) (listed' := #[true, false, false, false, false, false, false, false, false]) rfl (fun wq sq => ow_fieldAddrB off62_4 rfl rfl ⟨rfl, rfl⟩) ?_
  refine wz_take 1 rfl (by kernel_rfl) rfl (by kernel_rfl) (listed' := #[true, true, false, false, false, false, false, false, false]) rfl (fun wq sq => ow_loadB sq ti2 rfl rfl ⟨rfl, rfl⟩) ?_
  refine wz_take 2 rfl (by kernel_rfl) rfl (by kernel_rfl) (listed' := #[true, true, true, false, false, false, false, false, false]) rfl (fun wq sq => ow_move rfl ⟨rfl, rfl⟩) ?_
  refine wz_one 3 rfl rfl (by kernel_rfl) (listed' := #[true, true, true, true, false, false, false, false, false]) rfl (fun _ => bXA) (ow_call ent65 rfl (ret_mono (l01Next_c _ _ _ _ _ _ _ _ _ b143 hs hB ok hbl (by omega)) ?_))
  rintro _ w149 ⟨rh, a151, sd152, rfl, hr153, ok, b150, x148⟩
  replace hs := hs.grown x148 (by intro g hg; injection hg; omega)
  replace bR := bR.grown x148 (by intro h; injection h; omega)
  replace bT := bT.grown x148 (by intro h; injection h; omega)
  replace hm := hm.grown x148 (by omega)
  replace bM := bM.grown x148 (by intro h; injection h; omega)
  replace bXA := bXA.grown x148 (by intro h; injection h; omega)
  replace X := gb_trans X x148
  clear x148 b143
  refine wz_take 4 rfl (by kernel_rfl) rfl (by kernel_rfl) (listed' := #[true, true, true, true, true, false, false, false, false]) rfl (fun wq sq => ow_conv Tryz.underlying2 Tryz.underlying140 rfl (wu64 (by omega)) ⟨rfl, rfl⟩) ?_
  refine wz_take 5 rfl (by kernel_rfl) rfl (by kernel_rfl) (listed' := #[true, true, true, true, true, true, false, false, false]) rfl (fun wq sq => ow_shl rfl rfl (by omega) rfl ⟨rfl, rfl⟩) ?_
  refine wz_take 6 rfl (by kernel_rfl) rfl (by kernel_rfl) (listed' := #[true, true, true, true, true, true, true, false, false]) rfl (fun wq sq => ow_xor rfl rfl rfl ⟨rfl, rfl⟩) ?_
  refine wz_take 7 rfl (by kernel_rfl) rfl (by kernel_rfl) (listed' := #[true, true, true, true, true, true, true, true, false]) rfl (fun wq sq => ow_fieldAddrB off62_4 rfl rfl ⟨rfl, rfl⟩) ?_
  refine wz_one 8 rfl rfl (by kernel_rfl) (listed' := #[true, true, true, true, true, true, true, true, true]) rfl (fun _ => bXA) (ow_storeB bXA ti2 rfl rfl rfl rfl rfl rfl ?_)
  intro w155 bXC hg154 z156
  replace hs := hs.grown hg154 (by intro g hg; injection hg; omega)
  replace bR := bR.grown hg154 (by intro h; injection h; omega)
  replace bT := bT.grown hg154 (by intro h; injection h; omega)
  replace hm := hm.grown hg154 (by omega)
  replace bM := bM.grown hg154 (by intro h; injection h; omega)
  replace b150 := b150.grown hg154 (by intro h; injection h; omega)
  replace X := gb_new X hg154 (by intro g hg; injection hg; omega)
  clear hg154 bXA
  obtain ⟨sC, bXC⟩ := st_any bXC
  refine wz_done rfl (fun h => absurd h (by decide)) (fun aj fj => ⟨_, fj, ?_⟩)
  refine tq_n ?_
  refine c_seqI (fun wz => Blk wz gM 28 m.cells ∧ Blk wz gX 62 sC.cells) mixed ?_
  obtain ⟨w157, ew157⟩ : ∃ wy, wy = World.drew w155 := ⟨_, rfl⟩
  rw [← ew157]
  have xd : Ext w155 w157 := ew157 ▸ Ext.drew w155
  replace hs := hs.ext xd
  replace bR := bR.ext xd
  replace bT := bT.ext xd
  replace hm := hm.ext xd
  replace bM := bM.ext xd
  replace b150 := b150.ext xd
  replace bXC := bXC.ext xd
  replace X := gb_ext X xd; clear xd ew157
  refine wi_take 0 rfl (by kernel_rfl) rfl (by kernel_rfl) (listed' := #[true, false, false, false]) rfl (fun wq sq => ow_loadAB sq.1 ti28 rfl rfl ⟨rfl, rfl⟩) ?_
  refine wi_take 1 rfl (by kernel_rfl) rfl (by kernel_rfl) (listed' := #[true, true, false, false]) rfl (fun wq sq => ow_loadAB sq.2 ti62 rfl rfl ⟨rfl, rfl⟩) ?_
  refine wi_one 2 rfl rfl (by kernel_rfl) (listed' := #[true, true, true, false]) rfl ⟨bM, bXC⟩ (ow_storeB bR ti28 rfl rfl rfl rfl rfl rfl ?_)
  intro w159 bZ hg158 z160
  replace hs := hs.grown hg158 (by intro g hg; injection hg; omega)
  replace bT := bT.grown hg158 (by intro h; injection h; omega)
  replace hm := hm.grown hg158 (by omega)
  replace bM := bM.grown hg158 (by intro h; injection h; omega)
  replace b150 := b150.grown hg158 (by intro h; injection h; omega)
  replace bXC := bXC.grown hg158 (by intro h; injection h; omega)
  replace X := gb_new X hg158 (by intro g hg; injection hg; omega)
  clear hg158 bR
  refine wi_one 3 rfl rfl (by kernel_rfl) (listed' := #[true, true, true, true]) rfl ⟨bM, bXC⟩ (ow_storeB bT ti62 rfl rfl rfl rfl rfl rfl ?_)
  intro w162 bY hg161 z163
  replace hs := hs.grown hg161 (by intro g hg; injection hg; omega)
  replace hm := hm.grown hg161 (by omega)
  replace bM := bM.grown hg161 (by intro h; injection h; omega)
  replace b150 := b150.grown hg161 (by intro h; injection h; omega)
  replace bXC := bXC.grown hg161 (by intro h; injection h; omega)
  replace bZ := bZ.grown hg161 (by intro h; injection h; omega)
  replace X := gb_new X hg161 (by intro g hg; injection hg; omega)
  clear hg161 bT
  refine wi_done rfl ⟨bM, bXC⟩ (fun aj fj => ⟨_, fj, ?_⟩)
  refine c_ret ?_
  refine fin_cc rfl rfl bZ ti28 rfl rfl bY ti62 rfl ?_
  exact ⟨m, sC, _, _, rfl, hdw, hm.up (by omega) hm.hB (Nat.le_refl _), ok, b150, X⟩
  refine ops_nil ?_
  refine c_false rfl ?_
  refine c_skip ?_
  refine tq_n ?_
  refine c_seqI (fun wz => Blk wz gM 28 m.cells ∧ Blk wz gX 62 sA.cells) mixed ?_
  obtain ⟨w164, ew164⟩ : ∃ wy, wy = World.drew w142 := ⟨_, rfl⟩
  rw [← ew164]
  have xd : Ext w142 w164 := ew164 ▸ Ext.drew w142
  replace hs := hs.ext xd
  replace bR := bR.ext xd
  replace bT := bT.ext xd
  replace hm := hm.ext xd
  replace bM := bM.ext xd
  replace bXA := bXA.ext xd
  replace b143 := b143.ext xd
  replace X := gb_ext X xd; clear xd ew164
  refine wi_take 0 rfl (by kernel_rfl) rfl (by kernel_rfl) (listed' := #[true, false, false, false]) rfl (fun wq sq => ow_loadAB sq.1 ti28 rfl rfl ⟨rfl, rfl⟩) ?_
  refine wi_take 1 rfl (by kernel_rfl) rfl (by kernel_rfl) (listed' := #[true, true, false, false]) rfl (fun wq sq => ow_loadAB sq.2 ti62 rfl rfl ⟨rfl, rfl⟩) ?_
  refine wi_one 2 rfl rfl (by kernel_rfl) (listed' := #[true, true, true, false]) rfl ⟨bM, bXA⟩ (ow_storeB bR ti28 rfl rfl rfl rfl rfl rfl ?_)
  intro w166 bZ hg165 z167
  replace hs := hs.grown hg165 (by intro g hg; injection hg; omega)
  replace bT := bT.grown hg165 (by intro h; injection h; omega)
  replace hm := hm.grown hg165 (by omega)
  replace bM := bM.grown hg165 (by intro h; injection h; omega)
  replace bXA := bXA.grown hg165 (by intro h; injection h; omega)
  replace b143 := b143.grown hg165 (by intro h; injection h; omega)
  replace X := gb_new X hg165 (by intro g hg; injection hg; omega)
  clear hg165 bR
  refine wi_one 3 rfl rfl (by kernel_rfl) (listed' := #[true, true, true, true]) rfl ⟨bM, bXA⟩ (ow_storeB bT ti62 rfl rfl rfl rfl rfl rfl ?_)
  intro w169 bY hg168 z170
  replace hs := hs.grown hg168 (by intro g hg; injection hg; omega)
  replace hm := hm.grown hg168 (by omega)
  replace bM := bM.grown hg168 (by intro h; injection h; omega)
  replace bXA := bXA.grown hg168 (by intro h; injection h; omega)
  replace b143 := b143.grown hg168 (by intro h; injection h; omega)
  replace bZ := bZ.grown hg168 (by intro h; injection h; omega)
  replace X := gb_new X hg168 (by intro g hg; injection hg; omega)
  clear hg168 bT
  refine wi_done rfl ⟨bM, bXA⟩ (fun aj fj => ⟨_, fj, ?_⟩)
  refine c_ret ?_
  refine fin_cc rfl rfl bZ ti28 rfl rfl bY ti62 rfl ?_
  exact ⟨m, sA, _, _, rfl, hdw, hm.up (by omega) hm.hB (Nat.le_refl _), ok, b143, X⟩
  replace hs := hs.ext x25
  replace bR := bR.ext x25
  replace bT := bT.ext x25
  replace hm := hm.ext x25
  replace bM := bM.ext x25
  replace b17 := b17.ext x25
  replace bX := bX.ext x25
  replace X := gb_ext X x25; clear x25
  refine ops_cons rfl (ow_not rfl ?_)
  refine ops_cons rfl (ow_move rfl ?_)
  refine ops_skip rfl rfl rfl rfl ?_
  refine ops_skip rfl rfl rfl rfl ?_
  refine ops_skip rfl rfl rfl rfl ?_
  refine ops_cons rfl (ow_pick rfl rfl ?_)
  refine ops_nil ?_
  refine c_true rfl ?_
  refine c_seqI (fun wz => Blk wz gM 28 m.cells ∧ Blk wz gX 62 s0.cells) mixed ?_
  obtain ⟨w171, ew171⟩ : ∃ wy, wy = World.drew w26 := ⟨_, rfl⟩
  rw [← ew171]
  have xd : Ext w26 w171 := ew171 ▸ Ext.drew w26
  replace hs := hs.ext xd
  replace bR := bR.ext xd
  replace bT := bT.ext xd
  replace hm := hm.ext xd
  replace bM := bM.ext xd
  replace b17 := b17.ext xd
  replace bX := bX.ext xd
  replace X := gb_ext X xd; clear xd ew171
  refine wi_take 0 rfl (by kernel_rfl) rfl (by kernel_rfl) (listed' := #[true, false, false, false]) rfl (fun wq sq => ow_loadAB sq.1 ti28 rfl rfl ⟨rfl, rfl⟩) ?_
  refine wi_take 1 rfl (by kernel_rfl) rfl (by kernel_rfl) (listed' := #[true, true, false, false]) rfl (fun wq sq => ow_loadAB sq.2 ti62 rfl rfl ⟨rfl, rfl⟩) ?_
  refine wi_one 2 rfl rfl (by kernel_rfl) (listed' := #[true, true, true, false]) rfl ⟨bM, bX⟩ (ow_storeB bR ti28 rfl rfl rfl rfl rfl rfl ?_)
  intro w173 bZ hg172 z174
  replace hs := hs.grown hg172 (by intro g hg; injection hg; omega)
  replace bT := bT.grown hg172 (by intro h; injection h; omega)
  replace hm := hm.grown hg172 (by omega)
  replace bM := bM.grown hg172 (by intro h; injection h; omega)
  replace b17 := b17.grown hg172 (by intro h; injection h; omega)
  replace bX := bX.grown hg172 (by intro h; injection h; omega)
  replace X := gb_new X hg172 (by intro g hg; injection hg; omega)
  clear hg172 bR
  refine wi_one 3 rfl rfl (by kernel_rfl) (listed' := #[true, true, true, true]) rfl ⟨bM, bX⟩ (ow_storeB bT ti62 rfl rfl rfl rfl rfl rfl ?_)
  intro w176 bY hg175 z177
  replace hs := hs.grown hg175 (by intro g hg; injection hg; omega)
  replace hm := hm.grown hg175 (by omega)
  replace bM := bM.grown hg175 (by intro h; injection h; omega)
  replace b17 := b17.grown hg175 (by intro h; injection h; omega)
  replace bX := bX.grown hg175 (by intro h; injection h; omega)
  replace bZ := bZ.grown hg175 (by intro h; injection h; omega)
  replace X := gb_new X hg175 (by intro g hg; injection hg; omega)
  clear hg175 bT
  refine wi_done rfl ⟨bM, bX⟩ (fun aj fj => ⟨_, fj, ?_⟩)
  refine c_ret ?_
  refine tq_r ?_
  refine fin_cc rfl rfl bZ ti28 rfl rfl bY ti62 rfl ?_
  exact ⟨m, s0, _, _, rfl, hdw, hm.up (by omega) hm.hB (Nat.le_refl _), ok, b17, X⟩

theorem drawSS_c (A : Option Addr) (B c : Nat) (bs : List UInt8) (w : World) (hs : Sl B w A (bs.flatMap eB)) (hbl : bs.length ≤ 1048576) :
    Calls Tryz.prog 51 #[.slice A bs.length c] w (Ret fun v w' => ∃ (m : MedlI) (s : StateI), v = .tuple #[.agg (MedlI.cells m).toArray, .agg (StateI.cells s).toArray] ∧ drwA m ∧ MedF w.heap.size w'.heap.size w' m ∧ Ext w w') := by
  have Bhs := hs.1
  have X := Ext.refl w
  refine calls_of (args := [.slice A bs.length c]) Tryz.func51 Tryz.ntmps51 rfl rfl ?_
  refine c_seqR ?_
  refine ops_cons rfl (ow_alloc ti28 ?_)
  intro g2 w2 eg2 bR x1 zg2
  have lg2 : w.heap.size ≤ g2 := Nat.le_trans X.size (Nat.le_of_eq eg2.symm)
  have pg2hs := Nat.le_trans hs.1 (Nat.le_of_eq eg2.symm)
  replace hs := hs.ext x1
  replace X := Ext.trans X x1; clear x1
  refine ops_cons rfl (ow_alloc ti62 ?_)
  intro g3 w4 eg3 bT x3 zg3
  have lg3 : w.heap.size ≤ g3 := Nat.le_trans X.size (Nat.le_of_eq eg3.symm)
  have pg3hs := Nat.le_trans hs.1 (Nat.le_of_eq eg3.symm)
  have ng3bR := Nat.lt_of_lt_of_eq bR.lt eg3.symm
  replace hs := hs.ext x3
  replace bR := bR.ext x3
  replace X := Ext.trans X x3; clear x3
  refine ops_nil ?_
  refine c_seqR ?_
  refine ops_cons rfl (ow_move rfl ?_)
  refine ops_cons rfl (ow_call ent64 rfl (ret_mono (l01From_c _ _ _ _ _ hs hbl) ?_))
  rintro _ w6 ⟨gS, a9, sd10, rfl, lgS0, ok, q, x5⟩
  have lgS : w.heap.size ≤ gS := Nat.le_trans X.size lgS0
  replace hs := hs.ext x5
  replace bR := bR.ext x5
  replace bT := bT.ext x5
  replace X := Ext.trans X x5; clear x5
  have hB : B ≤ gS := by omega
  have pS := q.lt
  have pbR := bR.lt
  have pbT := bT.lt
  refine ops_cons rfl (ow_call ent129 rfl (ret_mono (l15Draw_c _ _ _ _ _ _ _ _ q hs hB ok hbl) ?_))
  rintro _ wD ⟨m, s, aD, sdD, rfl, hdw, hm, ok2, q2, xD⟩
  replace bR := bR.grown xD (by intro h; injection h; omega)
  replace bT := bT.grown xD (by intro h; injection h; omega)
  replace hs := hs.grown xD (by intro g hg; injection hg; omega)
  replace X := X.grown xD X.size (by intro g hg; injection hg; omega)
  clear xD q ok
  have ok := ok2; have q := q2; clear ok2 q2
  obtain ⟨loM, hiM, pSl, pRl, pTl, hm⟩ : ∃ loM hiM, gS < loM ∧ g2 < loM ∧ g3 < loM ∧ MedF loM hiM _ m := ⟨_, _, pS, pbR, pbT, hm⟩
  refine ops_cons rfl (ow_extract rfl rfl ?_)
  refine ops_cons rfl (ow_extract rfl rfl ?_)
  refine ops_cons rfl (ow_storeB bR ti28 rfl rfl rfl rfl rfl rfl ?_)
  intro w12 bZ hg11 z13
  replace hs := hs.grown hg11 (by intro g hg; injection hg; omega)
  replace bT := bT.grown hg11 (by intro h; injection h; omega)
  replace q := q.grown hg11 (by intro h; injection h; omega)
  replace hm := hm.grown hg11 (by omega)
  replace X := X.grown hg11 X.size (by intro g hg; injection hg; omega)
  clear hg11 bR
  refine ops_cons rfl (ow_storeB bT ti62 rfl rfl rfl rfl rfl rfl ?_)
  intro w15 bY hg14 z16
  replace hs := hs.grown hg14 (by intro g hg; injection hg; omega)
  replace q := q.grown hg14 (by intro h; injection h; omega)
  replace hm := hm.grown hg14 (by omega)
  replace bZ := bZ.grown hg14 (by intro h; injection h; omega)
  replace X := X.grown hg14 X.size (by intro g hg; injection hg; omega)
  clear hg14 bT
  refine ops_nil ?_
  refine c_ret ?_
  refine fin_cc rfl rfl bZ ti28 rfl rfl bY ti62 rfl ?_
  exact ⟨m, s, rfl, hdw, hm.up (by omega) hm.hB (Nat.le_refl _), X⟩
end Go.Proofs.YtdoibplhbdkapaaGreatDoor
