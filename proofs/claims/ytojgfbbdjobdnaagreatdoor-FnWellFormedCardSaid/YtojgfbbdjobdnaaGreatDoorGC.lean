/- Schedules and modes that are drawn. No condition. -/
import Derived.Test.YtojgfbbdjobdnaaGreatDoorGB
namespace Go.Proofs.YtojgfbbdjobdnaaGreatDoor
open Go.RowKit
set_option linter.unusedVariables false
set_option linter.unusedSimpArgs false
set_option maxRecDepth 20000
theorem l11DrawMode_c (A : Option Addr) (B c : Nat) (bs : List UInt8) (gS a : Nat) (sd : Int) (A3 : Option Addr) (n c3 : Nat) (w : World) (q : Blk w gS 143 (srcC A c bs a sd)) (hs : Sl B w A (bs.flatMap eB)) (hB : B ≤ gS) (ok : a ≤ bs.length ∧ 0 ≤ sd ∧ sd < 2147483647) (hbl : bs.length ≤ 1048576) (hn17 : n ≤ 17) :
    Calls Tryz.prog 102 #[.pointer (some ⟨gS, 0, none⟩), .slice A3 n c3] w (Ret fun v w' => ∃ r a' sd', v = .int .i64 r ∧ True ∧ (a' ≤ bs.length ∧ 0 ≤ sd' ∧ sd' < 2147483647) ∧ Blk w' gS 143 (srcC A c bs a' sd') ∧ w.grownBy w' (some gS)) := by
  have Bhs := hs.1
  have X := gb_refl w (some gS)
  refine calls_of (args := [.pointer (some ⟨gS, 0, none⟩), .slice A3 n c3]) Tryz.func102 Tryz.ntmps102 rfl rfl ?_
  refine c_seqR ?_
  refine ops_cons rfl (ow_assign rfl ?_)
  refine ops_nil ?_
  refine c_seqR ?_
  refine ops_cons rfl (ow_move rfl ?_)
  refine ops_cons rfl (ow_move rfl ?_)
  refine ops_cons rfl (ow_len Tryz.underlying25 rfl ?_)
  refine ops_cons rfl (ow_call ent71 rfl (ret_mono (l01Next_c _ _ _ _ _ _ _ _ _ q hs hB ok hbl (by omega)) ?_))
  rintro _ w2 ⟨r1, a4, sd5, rfl, hr6, ok, b3, x1⟩
  replace hs := hs.grown x1 (by intro g hg; injection hg; omega)
  replace X := gb_trans X x1
  clear x1 q
  refine ops_cons rfl (ow_move rfl ?_)
  refine ops_cons rfl (ow_call ent71 rfl (ret_mono (l01Next_c _ _ _ _ _ _ _ _ _ b3 hs hB ok hbl (by omega)) ?_))
  rintro _ w9 ⟨r2, a11, sd12, rfl, hr13, ok, b10, x7⟩
  replace hs := hs.grown x7 (by intro g hg; injection hg; omega)
  replace X := gb_trans X x7
  clear x7 b3
  refine ops_cons rfl (ow_quo rfl rfl (by omega) (q64 (by omega)) ?_)
  refine ops_cons rfl (ow_move rfl ?_)
  refine ops_cons rfl (ow_len Tryz.underlying25 rfl ?_)
  have hq : r2 / 15 = 0 ∨ r2 / 15 = 1 := by omega
  have hqm : r2 / 15 * (n : Int) = 0 ∨ r2 / 15 * (n : Int) = n := by rcases hq with h | h <;> rw [h] <;> simp
  refine ops_cons rfl (ow_mul rfl rfl (w64 (by omega)) ?_)
  refine ops_cons rfl (ow_add rfl rfl (w64 (by omega)) ?_)
  refine ops_cons rfl (ow_move rfl ?_)
  refine ops_cons rfl (ow_call ent71 rfl (ret_mono (l01Next_c _ _ _ _ _ _ _ _ _ b10 hs hB ok hbl (by omega)) ?_))
  rintro _ w15 ⟨r3, a17, sd18, rfl, hr19, ok, b16, x14⟩
  replace hs := hs.grown x14 (by intro g hg; injection hg; omega)
  replace X := gb_trans X x14
  clear x14 b10
  refine ops_cons rfl (ow_quo rfl rfl (by omega) (q64 (by omega)) ?_)
  refine ops_cons rfl (ow_sub rfl rfl (w64 (by omega)) ?_)
  refine ops_cons rfl (ow_assign rfl ?_)
  refine ops_nil ?_
  refine c_ret ?_
  refine fin_ret1 rfl rfl ?_
  exact ⟨_, _, _, rfl, trivial, ok, b16, X⟩

theorem drawId_c (A : Option Addr) (B c : Nat) (bs : List UInt8) (gS a : Nat) (sd : Int) (w : World) (q : Blk w gS 143 (srcC A c bs a sd)) (hs : Sl B w A (bs.flatMap eB)) (hB : B ≤ gS) (ok : a ≤ bs.length ∧ 0 ≤ sd ∧ sd < 2147483647) (hbl : bs.length ≤ 1048576) :
    Calls Tryz.prog 130 #[.pointer (some ⟨gS, 0, none⟩)] w (Ret fun v w' => ∃ y a' sd', v = .int .i64 y ∧ True ∧ (a' ≤ bs.length ∧ 0 ≤ sd' ∧ sd' < 2147483647) ∧ Blk w' gS 143 (srcC A c bs a' sd') ∧ w.grownBy w' (some gS)) := by
  have Bhs := hs.1
  have X := gb_refl w (some gS)
  refine calls_of (args := [.pointer (some ⟨gS, 0, none⟩)]) Tryz.func130 Tryz.ntmps130 rfl rfl ?_
  refine c_seqR ?_
  refine ops_cons rfl (ow_assign rfl ?_)
  refine ops_nil ?_
  refine c_seq ?_
  refine c_seqR ?_
  refine ops_cons rfl (ow_move rfl ?_)
  refine ops_cons rfl (ow_call ent71 rfl (ret_mono (l01Next_c _ _ _ _ _ _ _ _ _ q hs hB ok hbl (by omega)) ?_))
  rintro _ w2 ⟨r0, a4, sd5, rfl, hr6, ok, b3, x1⟩
  replace hs := hs.grown x1 (by intro g hg; injection hg; omega)
  replace X := gb_trans X x1
  clear x1 q
  refine ops_cons rfl (ow_eql2 rfl rfl (fun h7 => ?_) (fun h7 => ?_))
  refine ops_nil ?_
  refine c_true rfl ?_
  refine c_seqR ?_
  refine ops_cons rfl (ow_buildSlice el30 ti2 rfl rfl rfl rfl rfl ?_)
  intro g8 w10 eg8 oL bbg8 x9 zg8
  replace oL := Own.low oL X.size
  replace hs := hs.ext x9
  replace b3 := b3.ext x9
  replace X := gb_ext X x9; clear x9
  replace oL := oL.to (cs' := ([-1, 0, 16777215, 16777216] : List Int).flatMap eI) rfl
  refine ops_cons rfl (ow_move rfl ?_)
  refine ops_cons rfl (ow_call ent71 rfl (ret_mono (l01Next_c _ _ _ _ _ _ _ _ _ b3 hs hB ok hbl (by omega)) ?_))
  rintro _ w12 ⟨rr, a14, sd15, rfl, hr16, ok, b13, x11⟩
  replace hs := hs.grown x11 (by intro g hg; injection hg; omega)
  replace oL := oL.grownBlk x11 (Own.neT oL b3 (by decide))
  replace X := gb_trans X x11
  clear x11 b3
  obtain ⟨y, hy⟩ : ∃ y, ([-1, 0, 16777215, 16777216] : List Int)[rr.toNat]? = some y := ⟨_, List.getElem?_eq_getElem (by simp; omega)⟩
  refine ops_cons rfl (ow_indexT (oL).sl eI_len rfl el30 rfl rfl rfl hy (by omega) ?_)
  refine ops_cons rfl (ow_loadT (oL).sl eI_len hy ti2 rfl rfl rfl ?_)
  refine ops_cons rfl (ow_assign rfl ?_)
  refine ops_nil ?_
  refine c_ret ?_
  refine tq_r ?_
  refine fin_ret1 rfl rfl ?_
  · skip
    first
    | exact ⟨y, _, _, rfl, trivial, ok, b13, X⟩
    | exact ⟨r9, _, _, rfl, trivial, ok, b13, X⟩
  refine ops_nil ?_
  refine c_false rfl ?_
  refine c_skip ?_
  refine tq_n ?_
  refine c_seqR ?_
  refine ops_cons rfl (ow_move rfl ?_)
  refine ops_cons rfl (ow_call ent71 rfl (ret_mono (l01Next_c _ _ _ _ _ _ _ _ _ b3 hs hB ok hbl (by omega)) ?_))
  rintro _ w18 ⟨r9, a20, sd21, rfl, hr22, ok, b19, x17⟩
  replace hs := hs.grown x17 (by intro g hg; injection hg; omega)
  replace X := gb_trans X x17
  clear x17 b3
  refine ops_cons rfl (ow_assign rfl ?_)
  refine ops_nil ?_
  refine c_ret ?_
  refine fin_ret1 rfl rfl ?_
  · skip
    first
    | exact ⟨y, _, _, rfl, trivial, ok, b19, X⟩
    | exact ⟨r9, _, _, rfl, trivial, ok, b19, X⟩

theorem drawNode_c (A : Option Addr) (B c : Nat) (bs : List UInt8) (gS a : Nat) (sd : Int) (w : World) (q : Blk w gS 143 (srcC A c bs a sd)) (hs : Sl B w A (bs.flatMap eB)) (hB : B ≤ gS) (ok : a ≤ bs.length ∧ 0 ≤ sd ∧ sd < 2147483647) (hbl : bs.length ≤ 1048576) :
    Calls Tryz.prog 144 #[.pointer (some ⟨gS, 0, none⟩)] w (Ret fun v w' => ∃ y a' sd', v = .int .i64 y ∧ True ∧ (a' ≤ bs.length ∧ 0 ≤ sd' ∧ sd' < 2147483647) ∧ Blk w' gS 143 (srcC A c bs a' sd') ∧ w.grownBy w' (some gS)) := by
  have Bhs := hs.1
  have X := gb_refl w (some gS)
  refine calls_of (args := [.pointer (some ⟨gS, 0, none⟩)]) Tryz.func144 Tryz.ntmps144 rfl rfl ?_
  refine c_seqR ?_
  refine ops_cons rfl (ow_assign rfl ?_)
  refine ops_nil ?_
  refine c_seq ?_
  refine c_seqR ?_
  refine ops_cons rfl (ow_move rfl ?_)
  refine ops_cons rfl (ow_call ent71 rfl (ret_mono (l01Next_c _ _ _ _ _ _ _ _ _ q hs hB ok hbl (by omega)) ?_))
  rintro _ w2 ⟨r0, a4, sd5, rfl, hr6, ok, b3, x1⟩
  replace hs := hs.grown x1 (by intro g hg; injection hg; omega)
  replace X := gb_trans X x1
  clear x1 q
  refine ops_cons rfl (ow_eql2 rfl rfl (fun h7 => ?_) (fun h7 => ?_))
  refine ops_nil ?_
  refine c_true rfl ?_
  refine c_seqR ?_
  refine ops_cons rfl (ow_buildSlice el30 ti2 rfl rfl rfl rfl rfl ?_)
  intro g8 w10 eg8 oL bbg8 x9 zg8
  replace oL := Own.low oL X.size
  replace hs := hs.ext x9
  replace b3 := b3.ext x9
  replace X := gb_ext X x9; clear x9
  replace oL := oL.to (cs' := ([-1, 31, 32] : List Int).flatMap eI) rfl
  refine ops_cons rfl (ow_move rfl ?_)
  refine ops_cons rfl (ow_call ent71 rfl (ret_mono (l01Next_c _ _ _ _ _ _ _ _ _ b3 hs hB ok hbl (by omega)) ?_))
  rintro _ w12 ⟨rr, a14, sd15, rfl, hr16, ok, b13, x11⟩
  replace hs := hs.grown x11 (by intro g hg; injection hg; omega)
  replace oL := oL.grownBlk x11 (Own.neT oL b3 (by decide))
  replace X := gb_trans X x11
  clear x11 b3
  obtain ⟨y, hy⟩ : ∃ y, ([-1, 31, 32] : List Int)[rr.toNat]? = some y := ⟨_, List.getElem?_eq_getElem (by simp; omega)⟩
  refine ops_cons rfl (ow_indexT (oL).sl eI_len rfl el30 rfl rfl rfl hy (by omega) ?_)
  refine ops_cons rfl (ow_loadT (oL).sl eI_len hy ti2 rfl rfl rfl ?_)
  refine ops_cons rfl (ow_assign rfl ?_)
  refine ops_nil ?_
  refine c_ret ?_
  refine tq_r ?_
  refine fin_ret1 rfl rfl ?_
  · skip
    first
    | exact ⟨y, _, _, rfl, trivial, ok, b13, X⟩
    | exact ⟨r9, _, _, rfl, trivial, ok, b13, X⟩
  refine ops_nil ?_
  refine c_false rfl ?_
  refine c_skip ?_
  refine tq_n ?_
  refine c_seqR ?_
  refine ops_cons rfl (ow_move rfl ?_)
  refine ops_cons rfl (ow_call ent71 rfl (ret_mono (l01Next_c _ _ _ _ _ _ _ _ _ b3 hs hB ok hbl (by omega)) ?_))
  rintro _ w18 ⟨r9, a20, sd21, rfl, hr22, ok, b19, x17⟩
  replace hs := hs.grown x17 (by intro g hg; injection hg; omega)
  replace X := gb_trans X x17
  clear x17 b3
  refine ops_cons rfl (ow_assign rfl ?_)
  refine ops_nil ?_
  refine c_ret ?_
  refine fin_ret1 rfl rfl ?_
  · skip
    first
    | exact ⟨y, _, _, rfl, trivial, ok, b19, X⟩
    | exact ⟨r9, _, _, rfl, trivial, ok, b19, X⟩

theorem drawCT_c (A : Option Addr) (B c : Nat) (bs : List UInt8) (w : World) (hs : Sl B w A (bs.flatMap eB)) (hbl : bs.length ≤ 1048576) :
    Calls Tryz.prog 28 #[.slice A bs.length c] w (Ret fun v w' => ∃ (m : MedlI) (mode : Int), v = .tuple #[.agg (MedlI.cells m).toArray, .int .i64 mode] ∧ drwA m ∧ MedF w.heap.size w'.heap.size w' m ∧ Ext w w') := by
  have Bhs := hs.1
  have X := Ext.refl w
  refine calls_of (args := [.slice A bs.length c]) Tryz.func28 Tryz.ntmps28 rfl rfl ?_
  refine c_seqR ?_
  refine ops_cons rfl (ow_alloc ti28 ?_)
  intro g2 w2 eg2 bR x1 zg2
  have lg2 : w.heap.size ≤ g2 := Nat.le_trans X.size (Nat.le_of_eq eg2.symm)
  have pg2hs := Nat.le_trans hs.1 (Nat.le_of_eq eg2.symm)
  replace hs := hs.ext x1
  replace X := Ext.trans X x1; clear x1
  refine ops_cons rfl (ow_assign rfl ?_)
  refine ops_nil ?_
  refine c_seqR ?_
  refine ops_cons rfl (ow_move rfl ?_)
  refine ops_cons rfl (ow_call ent70 rfl (ret_mono (l01From_c _ _ _ _ _ hs hbl) ?_))
  rintro _ w4 ⟨gS, a7, sd8, rfl, lgS0, ok, q, x3⟩
  have lgS : w.heap.size ≤ gS := Nat.le_trans X.size lgS0
  replace hs := hs.ext x3
  replace bR := bR.ext x3
  replace X := Ext.trans X x3; clear x3
  have hB : B ≤ gS := by omega
  refine ops_cons rfl (ow_assign rfl ?_)
  refine ops_nil ?_
  refine c_seqR ?_
  refine ops_cons rfl (ow_move rfl ?_)
  have pS := q.lt
  have pbR := bR.lt
  have Lhm := X.size
  refine ops_cons rfl (ow_call ent73 rfl (ret_mono (l13DrawAny_c _ _ _ _ _ _ _ _ q hs hB ok hbl) ?_))
  rintro _ w10 ⟨m, a12, sd13, rfl, hdw, hm, ok, b11, x9⟩
  replace hs := hs.grown x9 (by intro g hg; injection hg; omega)
  replace bR := bR.grown x9 (by intro h; injection h; omega)
  replace X := X.grown x9 X.size (by intro g hg; injection hg; omega)
  clear x9 q
  refine ops_cons rfl (ow_alloc ti28 ?_)
  intro gM w15 egM b0 x14 zgM
  have lgM : w.heap.size ≤ gM := Nat.le_trans X.size (Nat.le_of_eq egM.symm)
  have pgMhs := Nat.le_trans hs.1 (Nat.le_of_eq egM.symm)
  have ngMbR := Nat.lt_of_lt_of_eq bR.lt egM.symm
  have ngMb11 := Nat.lt_of_lt_of_eq b11.lt egM.symm
  have pgMhm := Nat.le_trans hm.hB (Nat.le_of_eq egM.symm)
  replace hs := hs.ext x14
  replace bR := bR.ext x14
  replace b11 := b11.ext x14
  replace hm := hm.ext x14
  replace X := Ext.trans X x14; clear x14
  refine ops_cons rfl (ow_storeB b0 ti28 rfl rfl rfl rfl rfl rfl ?_)
  intro w17 bM hg16 z18
  replace hs := hs.grown hg16 (by intro g hg; injection hg; omega)
  replace bR := bR.grown hg16 (by intro h; injection h; omega)
  replace b11 := b11.grown hg16 (by intro h; injection h; omega)
  replace hm := hm.grown hg16 (by omega)
  replace X := X.grown hg16 X.size (by intro g hg; injection hg; omega)
  clear hg16 b0
  replace bM : Blk _ gM 28 m.cells := bM
  refine ops_nil ?_
  refine c_seqI (fun wz => Blk wz gM 28 m.cells) mixed ?_
  obtain ⟨w19, ew19⟩ : ∃ wy, wy = World.drew w17 := ⟨_, rfl⟩
  rw [← ew19]
  have xd : Ext w17 w19 := ew19 ▸ Ext.drew w17
  replace hs := hs.ext xd
  replace bR := bR.ext xd
  replace b11 := b11.ext xd
  replace hm := hm.ext xd
  replace bM := bM.ext xd
  replace X := Ext.trans X xd; clear xd ew19
  refine wi_take 0 rfl (by kernel_rfl) rfl (by kernel_rfl) (listed' := #[true, false, false, false, false, false, false]) rfl (fun wq sq => ow_loadAB sq ti28 rfl rfl ⟨rfl, rfl⟩) ?_
  refine wi_take 1 rfl (by kernel_rfl) rfl (by kernel_rfl) (listed' := #[true, true, false, false, false, false, false]) rfl (fun wq sq => ow_move rfl ⟨rfl, rfl⟩) ?_
  refine wi_take 2 rfl (by kernel_rfl) rfl (by kernel_rfl) (listed' := #[true, true, true, false, false, false, false]) rfl (fun wq sq => ow_fieldAddrB off28_2 rfl rfl ⟨rfl, rfl⟩) ?_
  refine wi_take 3 rfl (by kernel_rfl) rfl (by kernel_rfl) (listed' := #[true, true, true, true, false, false, false]) rfl (fun wq sq => ow_loadB sq ti25 rfl rfl ⟨rfl, rfl⟩) ?_
  refine wi_one 4 rfl rfl (by kernel_rfl) (listed' := #[true, true, true, true, true, false, false]) rfl bM (ow_call ent102 rfl (ret_mono (l11DrawMode_c _ _ _ _ _ _ _ _ _ _ _ b11 hs hB ok hbl hdw.2) ?_))
  rintro _ w21 ⟨rm, a23, sd24, rfl, h_, ok, b22, x20⟩
  replace hs := hs.grown x20 (by intro g hg; injection hg; omega)
  replace bR := bR.grown x20 (by intro h; injection h; omega)
  replace hm := hm.grown x20 (by omega)
  replace bM := bM.grown x20 (by intro h; injection h; omega)
  replace X := X.grown x20 X.size (by intro g hg; injection hg; omega)
  clear x20 b11
  refine wi_one 5 rfl rfl (by kernel_rfl) (listed' := #[true, true, true, true, true, true, false]) rfl bM (ow_storeB bR ti28 rfl rfl rfl rfl rfl rfl ?_)
  intro w26 bZ hg25 z27
  replace hs := hs.grown hg25 (by intro g hg; injection hg; omega)
  replace hm := hm.grown hg25 (by omega)
  replace bM := bM.grown hg25 (by intro h; injection h; omega)
  replace b22 := b22.grown hg25 (by intro h; injection h; omega)
  replace X := X.grown hg25 X.size (by intro g hg; injection hg; omega)
  clear hg25 bR
  refine wi_take 6 rfl (by kernel_rfl) rfl (by kernel_rfl) (listed' := #[true, true, true, true, true, true, true]) rfl (fun wq sq => ow_assign rfl ⟨rfl, rfl⟩) ?_
  refine wi_done rfl bM (fun aj fj => ⟨_, fj, ?_⟩)
  refine c_ret ?_
  refine fin_cell2 rfl rfl bZ ti28 rfl rfl ?_
  exact ⟨m, rm, rfl, hdw, hm.up (by omega) hm.hB (Nat.le_refl _), X⟩
end Go.Proofs.YtojgfbbdjobdnaaGreatDoor
