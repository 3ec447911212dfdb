/- Demands and bookings that are drawn. No condition. -/
import Derived.Test.YtimabffnoanciaaGD
import Derived.Test.YtimabffnoanciaaPV
import Derived.Test.YtimabffnoanciaaMK
namespace Go.Proofs.Ytimabffnoanciaa
open Go.RowKit
set_option linter.unusedVariables false
set_option linter.unusedSimpArgs false
set_option maxRecDepth 20000
theorem Sl.up2 {B : Nat} {w : World} {A : Option Addr} {cs : List Value} (h : Sl B w A cs) : Sl w.heap.size w A cs := ⟨Nat.le_refl _, fun j v hj => by
  obtain ⟨h1, h2, h3⟩ := h.2 j v hj
  exact ⟨h1, Nat.lt_of_lt_of_le h2 h.1, h3⟩⟩
theorem tblOf_drop {ys : List ModeI} {r : Nat} {x : ModeI} (hx : ys[r]? = some x) : (tblOf ys).drop r = x.m.next :: (tblOf ys).drop (r + 1) := by
  obtain ⟨h1, h2⟩ := List.getElem?_eq_some_iff.1 hx
  unfold tblOf
  rw [← List.map_drop, ← List.map_drop, List.drop_eq_getElem_cons h1, List.map_cons, h2]
theorem drawSlots_c (A : Option Addr) (B c : Nat) (bs : List UInt8) (gS a : Nat) (sd : Int) (w : World) (q : Blk w gS 122 (srcC A c bs a sd)) (hs : Sl B w A (bs.flatMap eB)) (hB : B ≤ gS) (ok : a ≤ bs.length ∧ 0 ≤ sd ∧ sd < 2147483647) (hbl : bs.length ≤ 1048576) :
    Calls Try.prog 134 #[.pointer (some ⟨gS, 0, none⟩)] w (Ret fun v w' => ∃ y a' sd', v = .int .i64 y ∧ (0 ≤ y ∧ y ≤ 17) ∧ (a' ≤ bs.length ∧ 0 ≤ sd' ∧ sd' < 2147483647) ∧ Blk w' gS 122 (srcC A c bs a' sd') ∧ w.grownBy w' (some gS)) := by
  have Bhs := hs.1
  have X := gb_refl w (some gS)
  refine calls_of (args := [.pointer (some ⟨gS, 0, none⟩)]) Try.func134 Try.ntmps134 rfl rfl ?_
  refine c_seqR ?_
  refine ops_cons rfl (ow_assign rfl ?_)
  refine ops_nil ?_
  refine c_seq ?_
  refine c_seqR ?_
  refine ops_cons rfl (ow_move rfl ?_)
  refine ops_cons rfl (ow_call ent70 rfl (ret_mono (l01Next_c _ _ _ _ _ _ _ _ _ q hs hB ok hbl (by omega)) ?_))
  rintro _ w2 ⟨r16, a4, sd5, rfl, hr6, ok, b3, x1⟩
  replace hs := hs.grown x1 (by intro g hg; injection hg; omega)
  replace X : w.grownBy w2 (some gS) := by first | exact gb_trans X x1 | exact gb_new X x1 (by intro g hg; injection hg; omega)
  clear x1 q
  refine ops_cons rfl (ow_eql2 rfl rfl (fun h7 => ?_) (fun h7 => ?_))
  · skip
    refine ops_nil ?_
    refine c_true rfl ?_
    refine c_seqR ?_
    refine ops_cons rfl (ow_buildSlice el24 ti2 rfl rfl rfl rfl rfl ?_)
    intro g8 w10 eg8 oL bbg8 x9 zg8
    replace oL := Own.low oL X.size
    replace hs := hs.ext x9
    replace b3 := b3.ext x9
    replace X := gb_ext X x9; clear x9
    replace oL := oL.to (cs' := ([0, 16, 17] : List Int).flatMap eI) rfl
    refine ops_cons rfl (ow_move rfl ?_)
    refine ops_cons rfl (ow_call ent70 rfl (ret_mono (l01Next_c _ _ _ _ _ _ _ _ _ b3 hs hB ok hbl (by omega)) ?_))
    rintro _ w12 ⟨rr, a14, sd15, rfl, hr16, ok, b13, x11⟩
    replace hs := hs.grown x11 (by intro g hg; injection hg; omega)
    replace oL := oL.grownBlk x11 (Own.neT oL b3 (by decide))
    replace X : w.grownBy w12 (some gS) := by first | exact gb_trans X x11 | exact gb_new X x11 (by intro g hg; injection hg; omega)
    clear x11 b3
    obtain ⟨y, hy⟩ : ∃ y, ([0, 16, 17] : List Int)[rr.toNat]? = some y := ⟨_, List.getElem?_eq_getElem (by simp; omega)⟩
    have hyb : 0 ≤ y ∧ y ≤ 17 := by
      have := List.mem_of_getElem? hy
      simp at this; omega
    refine ops_cons rfl (ow_indexT (oL).sl eI_len rfl el24 rfl rfl rfl hy (by omega) ?_)
    refine ops_cons rfl (ow_loadT (oL).sl eI_len hy ti2 rfl rfl rfl ?_)
    refine ops_cons rfl (ow_assign rfl ?_)
    refine ops_nil ?_
    refine c_ret ?_
    refine tq_r ?_
    refine fin_ret1 rfl rfl ?_
    first
    | exact ⟨y, _, _, rfl, hyb, ok, b13, X⟩
    | exact ⟨1 + r8, _, _, rfl, by omega, ok, b13, X⟩
  · skip
    refine ops_nil ?_
    refine c_false rfl ?_
    refine c_skip ?_
    refine tq_n ?_
    refine c_seqR ?_
    refine ops_cons rfl (ow_move rfl ?_)
    refine ops_cons rfl (ow_call ent70 rfl (ret_mono (l01Next_c _ _ _ _ _ _ _ _ _ b3 hs hB ok hbl (by omega)) ?_))
    rintro _ w18 ⟨r8, a20, sd21, rfl, hr22, ok, b19, x17⟩
    replace hs := hs.grown x17 (by intro g hg; injection hg; omega)
    replace X : w.grownBy w18 (some gS) := by first | exact gb_trans X x17 | exact gb_new X x17 (by intro g hg; injection hg; omega)
    clear x17 b3
    refine ops_cons rfl (ow_add rfl rfl (w64 (by omega)) ?_)
    refine ops_cons rfl (ow_assign rfl ?_)
    refine ops_nil ?_
    refine c_ret ?_
    refine fin_ret1 rfl rfl ?_
    first
    | exact ⟨y, _, _, rfl, hyb, ok, b19, X⟩
    | exact ⟨1 + r8, _, _, rfl, by omega, ok, b19, X⟩

theorem drawPD_c (A : Option Addr) (B c : Nat) (bs : List UInt8) (w : World) (hs : Sl B w A (bs.flatMap eB)) (hbl : bs.length ≤ 1048576) :
    Calls Try.prog 125 #[.slice A bs.length c] w (Ret fun v w' => ∃ A' c' xs x y, v = .tuple #[.slice A' (List.length xs) c', .int .i64 x, .int .i64 y] ∧ (xs.length ≤ 41 ∧ 0 ≤ y ∧ y ≤ 17) ∧ Own w' w.heap.size 79 3 A' xs.length c' (xs.flatMap Dem.cells) ∧ Ext w w') := by
  have Bhs := hs.1
  have X := Ext.refl w
  refine calls_of (args := [.slice A bs.length c]) Try.func125 Try.ntmps125 rfl rfl ?_
  refine c_seqR ?_
  refine ops_cons rfl (ow_assign rfl ?_)
  refine ops_cons rfl (ow_assign rfl ?_)
  refine ops_cons rfl (ow_assign rfl ?_)
  refine ops_nil ?_
  refine c_seqR ?_
  refine ops_cons rfl (ow_move rfl ?_)
  refine ops_cons rfl (ow_call ent67 rfl (ret_mono (l01From_c _ _ _ _ _ hs hbl) ?_))
  rintro _ w2 ⟨gS, a6, sd7, rfl, lgS0, ok, o3, x1⟩
  have lgS : w.heap.size ≤ gS := Nat.le_trans X.size lgS0
  replace hs := hs.ext x1
  replace X := Ext.trans X x1; clear x1
  refine ops_cons rfl (ow_assign rfl ?_)
  refine ops_nil ?_
  refine c_seqR ?_
  have hB : B ≤ gS := by omega
  refine ops_cons rfl (ow_move rfl ?_)
  have LoT := X.size
  refine ops_cons rfl (ow_call ent83 rfl (ret_mono (l16Draw_c _ _ _ _ _ _ _ _ o3 hs hB ok hbl) ?_))
  rintro _ w9 ⟨A_11, c_12, ys, a13, sd14, rfl, hyl, oT, ok, b10, x8⟩
  replace hs := hs.grown x8 (by intro g hg; injection hg; omega)
  replace X := X.grown x8 X.size (by intro g hg; injection hg; omega)
  clear x8 o3
  replace oT := Own.low oT LoT
  refine ops_cons rfl (ow_assign rfl ?_)
  refine ops_nil ?_
  refine c_seqR ?_
  refine ops_cons rfl (ow_move rfl ?_)
  refine ops_cons rfl (ow_call ent84 rfl (ret_mono (drawRounds_c _ _ _ _ _ _ _ _ b10 hs hB ok hbl) ?_))
  rintro _ w17 ⟨rx, a19, sd20, rfl, h_, ok, b18, x16⟩
  replace hs := hs.grown x16 (by intro g hg; injection hg; omega)
  replace oT := oT.grownBlk x16 (Own.neT oT b10 (by decide))
  replace X := X.grown x16 X.size (by intro g hg; injection hg; omega)
  clear x16 b10
  refine ops_cons rfl (ow_assign rfl ?_)
  refine ops_nil ?_
  refine c_seqR ?_
  refine ops_cons rfl (ow_move rfl ?_)
  refine ops_cons rfl (ow_move rfl ?_)
  refine ops_cons rfl (ow_move rfl ?_)
  refine ops_cons rfl (ow_call ent134 rfl (ret_mono (drawSlots_c _ _ _ _ _ _ _ _ b18 hs hB ok hbl) ?_))
  rintro _ w22 ⟨ry, a24, sd25, rfl, hry, ok, b23, x21⟩
  replace hs := hs.grown x21 (by intro g hg; injection hg; omega)
  replace oT := oT.grownBlk x21 (Own.neT oT b18 (by decide))
  replace X := X.grown x21 X.size (by intro g hg; injection hg; omega)
  clear x21 b18
  refine ops_cons rfl (ow_assign rfl ?_)
  refine ops_cons rfl (ow_assign rfl ?_)
  refine ops_cons rfl (ow_assign rfl ?_)
  refine ops_nil ?_
  refine c_ret ?_
  refine fin_ret3 rfl rfl rfl rfl ?_
  exact ⟨_, _, ys, _, _, rfl, ⟨hyl, hry⟩, oT, X⟩

theorem drawAP_c (A : Option Addr) (B c : Nat) (bs : List UInt8) (w : World) (hs : Sl B w A (bs.flatMap eB)) (hbl : bs.length ≤ 1048576) :
    Calls Try.prog 99 #[.slice A bs.length c] w (Ret fun v w' => ∃ A1 c1 ds rounds slots A2 c2 bks, v = .tuple #[.slice A1 (List.length ds) c1, .int .i64 rounds, .int .i64 slots, .slice A2 (List.length bks) c2] ∧ ds.length ≤ 41 ∧ bks.length ≤ 1048576 ∧ Sl w'.heap.size w' A1 (ds.flatMap Dem.cells) ∧ Sl w'.heap.size w' A2 (bks.flatMap Bk.cells) ∧ Ext w w') := by
  have Bhs := hs.1
  have X := Ext.refl w
  refine calls_of (args := [.slice A bs.length c]) Try.func99 Try.ntmps99 rfl rfl ?_
  refine c_seqR ?_
  refine ops_cons rfl (ow_assign rfl ?_)
  refine ops_cons rfl (ow_assign rfl ?_)
  refine ops_cons rfl (ow_assign rfl ?_)
  refine ops_cons rfl (ow_assign rfl ?_)
  refine ops_nil ?_
  refine c_seqR ?_
  refine ops_cons rfl (ow_move rfl ?_)
  refine ops_cons rfl (ow_call ent67 rfl (ret_mono (l01From_c _ _ _ _ _ hs hbl) ?_))
  rintro _ w2 ⟨gS, a6, sd7, rfl, lgS0, ok, o3, x1⟩
  have lgS : w.heap.size ≤ gS := Nat.le_trans X.size lgS0
  replace hs := hs.ext x1
  replace X := Ext.trans X x1; clear x1
  have hB : B ≤ gS := by omega
  refine ops_cons rfl (ow_assign rfl ?_)
  refine ops_nil ?_
  refine c_seqR ?_
  refine ops_cons rfl (ow_move rfl ?_)
  refine ops_cons rfl (ow_call ent125 rfl (ret_mono (drawPD_c _ _ _ _ _ hs hbl) ?_))
  rintro _ w9 ⟨AT, cT, ds, rx, ry, rfl, hdl, oT, x8⟩
  replace oT := Own.low oT X.size
  replace hs := hs.ext x8
  replace o3 := o3.ext x8
  replace X := Ext.trans X x8; clear x8
  refine ops_cons rfl (ow_move rfl ?_)
  refine ops_cons rfl (ow_extract rfl rfl ?_)
  refine ops_cons rfl (ow_extract rfl rfl ?_)
  refine ops_cons rfl (ow_extract rfl rfl ?_)
  refine ops_cons rfl (ow_assign rfl ?_)
  refine ops_cons rfl (ow_assign rfl ?_)
  refine ops_cons rfl (ow_assign rfl ?_)
  refine ops_nil ?_
  refine c_seqR ?_
  refine ops_cons rfl (ow_move rfl ?_)
  refine ops_cons rfl (ow_move rfl ?_)
  refine ops_cons rfl (ow_move rfl ?_)
  refine ops_cons rfl (ow_call ent39 rfl (ret_mono (sPD_c _ _ _ ds rx ry _ oT.sl (by omega)) ?_))
  rintro _ w11 ⟨AR, cR, rfl, oR, x10⟩
  replace oR := Own.low oR X.size
  replace hs := hs.ext x10
  replace o3 := o3.ext x10
  replace oT := oT.ext x10
  replace X := Ext.trans X x10; clear x10
  have hpl := planF_len ds rx ry
  generalize hps : (planF ds rx ry).1 = ps at oR hpl ⊢
  refine ops_cons rfl (ow_move rfl ?_)
  refine ops_cons rfl (ow_extract rfl rfl ?_)
  refine ops_cons rfl (ow_extract rfl rfl ?_)
  refine ops_cons rfl (ow_assign rfl ?_)
  refine ops_cons rfl (ow_assign rfl ?_)
  refine ops_nil ?_
  refine c_seq ?_
  refine c_seqR ?_
  refine ops_cons rfl (ow_move rfl ?_)
  refine ops_cons rfl (ow_neq2 rfl rfl (fun hc => ?_) (fun hc => ?_))
  · skip
    refine ops_nil ?_
    refine c_true rfl ?_
    refine c_seqR ?_
    refine ops_cons rfl (ow_move rfl ?_)
    refine ops_cons rfl (ow_move rfl ?_)
    refine ops_cons rfl (ow_move rfl ?_)
    refine ops_cons rfl (ow_buildP pl102 ti102 rfl rfl ?_)
    refine ops_cons rfl (ow_buildP pl102 ti102 rfl rfl ?_)
    refine ops_cons rfl (ow_buildSlice el45 ti102 rfl rfl rfl rfl rfl ?_)
    intro g12 w14 eg12 oL bbg12 x13 zg12
    replace oL := Own.low oL X.size
    replace hs := hs.ext x13
    replace o3 := o3.ext x13
    replace oT := oT.ext x13
    replace oR := oR.ext x13
    replace X := Ext.trans X x13; clear x13
    replace oL := oL.to (cs' := ([⟨0, 0⟩, ⟨1, 0⟩] : List Bk).flatMap Bk.cells) rfl
    refine ops_cons rfl (ow_assign rfl ?_)
    refine ops_cons rfl (ow_assign rfl ?_)
    refine ops_cons rfl (ow_assign rfl ?_)
    refine ops_cons rfl (ow_assign rfl ?_)
    refine ops_nil ?_
    refine c_ret ?_
    refine tq_r ?_
    refine fin_ret4 rfl rfl rfl rfl rfl ?_
    first
    | (exact ⟨AT, cT, ds, rx, ry, _, _, [⟨0, 0⟩, ⟨1, 0⟩], rfl, hdl.1, by decide, oT.sl, oL.sl, X⟩)
    | (exact ⟨AT, cT, ds, rx, ry, AR, cR, zs, by rw [hzl] <;> rfl, hdl.1, by omega, oT.sl, oQ.sl, X⟩)
    | (exact ⟨AT, cT, ds, rx, ry, AP, cR - 1, ps.drop 1, by rw [hpd] <;> rfl, hdl.1, by omega, oT.sl, Sl.up2 pS, X⟩)
    | (exact ⟨AT, cT, ds, rx, ry, AR, cR, ps, rfl, hdl.1, hpl, oT.sl, oR.sl, X⟩)
  · skip
    refine ops_nil ?_
    refine c_false rfl ?_
    refine c_skip ?_
    refine tq_n ?_
    refine c_seq ?_
    refine c_seqR ?_
    refine ops_cons rfl (ow_move rfl ?_)
    refine ops_cons rfl (ow_len Try.underlying45 rfl ?_)
    refine ops_cons rfl (ow_gtr2 rfl rfl (fun hp0 => ?_) (fun hp0 => ?_))
    · skip
      refine ops_nil ?_
      refine c_true rfl ?_
      refine c_seqR ?_
      refine ops_cons rfl (ow_move rfl ?_)
      refine ops_cons rfl (ow_move rfl ?_)
      refine ops_cons rfl (ow_len Try.underlying45 rfl ?_)
      refine ops_cons rfl (ow_call ent70 rfl (ret_mono (l01Next_c _ _ _ _ _ _ _ _ _ o3 hs hB ok hbl (by omega)) ?_))
      rintro _ w16 ⟨rk, a18, sd19, rfl, hr20, ok, b17, x15⟩
      replace hs := hs.grown x15 (by intro g hg; injection hg; omega)
      replace oT := oT.grownBlk x15 (Own.neT oT o3 (by decide))
      replace oR := oR.grownBlk x15 (Own.neT oR o3 (by decide))
      replace X := X.grown x15 X.size (by intro g hg; injection hg; omega)
      clear x15 o3
      refine ops_cons rfl (ow_assign rfl ?_)
      refine ops_nil ?_
      refine c_seqR ?_
      refine ops_cons rfl (ow_move rfl ?_)
      refine ops_cons rfl (ow_call ent70 rfl (ret_mono (l01Next_c _ _ _ _ _ _ _ _ _ b17 hs hB ok hbl (by omega)) ?_))
      rintro _ w22 ⟨r6, a24, sd25, rfl, hr26, ok, b23, x21⟩
      replace hs := hs.grown x21 (by intro g hg; injection hg; omega)
      replace oT := oT.grownBlk x21 (Own.neT oT b17 (by decide))
      replace oR := oR.grownBlk x21 (Own.neT oR b17 (by decide))
      replace X := X.grown x21 X.size (by intro g hg; injection hg; omega)
      clear x21 b17
      refine ops_nil ?_
      refine c_block ?_
      refine c_seqR ?_
      refine ops_cons rfl (ow_eql2 rfl rfl (fun h9 => ?_) (fun h9 => ?_))
      · skip
        refine ops_cons rfl (ow_assign rfl ?_)
        refine ops_nil ?_
        refine c_true rfl ?_
        refine c_region ?_
        refine ops_cons rfl (ow_move rfl ?_)
        refine ops_cons rfl (ow_move rfl ?_)
        refine ops_cons rfl (ow_move rfl ?_)
        refine ops_cons rfl (ow_move rfl ?_)
        refine ops_cons rfl (ow_add rfl rfl (w64 (by omega)) ?_)
        refine ops_cons rfl (ow_call ent70 rfl (ret_mono (l01Next_c _ _ _ _ _ _ _ _ _ b23 hs hB ok hbl (by omega)) ?_))
        rintro _ w28 ⟨r5, a30, sd31, rfl, hr32, ok, b29, x27⟩
        replace hs := hs.grown x27 (by intro g hg; injection hg; omega)
        replace oT := oT.grownBlk x27 (Own.neT oT b23 (by decide))
        replace oR := oR.grownBlk x27 (Own.neT oR b23 (by decide))
        replace X := X.grown x27 X.size (by intro g hg; injection hg; omega)
        clear x27 b23
        refine ops_cons rfl (ow_move rfl ?_)
        refine ops_cons rfl (ow_call ent70 rfl (ret_mono (l01Next_c _ _ _ _ _ _ _ _ _ b29 hs hB ok hbl (by omega)) ?_))
        rintro _ w34 ⟨r7, a36, sd37, rfl, hr38, ok, b35, x33⟩
        replace hs := hs.grown x33 (by intro g hg; injection hg; omega)
        replace oT := oT.grownBlk x33 (Own.neT oT b29 (by decide))
        replace oR := oR.grownBlk x33 (Own.neT oR b29 (by decide))
        replace X := X.grown x33 X.size (by intro g hg; injection hg; omega)
        clear x33 b29
        refine ops_cons rfl (ow_quo rfl rfl (by omega) (q64 (by omega)) ?_)
        refine ops_cons rfl (ow_sub rfl rfl (w64 (by omega)) ?_)
        obtain ⟨z, hz⟩ : ∃ z, ps[rk.toNat]? = some z := ⟨_, List.getElem?_eq_getElem (by omega)⟩
        refine ops_cons rfl (ow_indexT (oR).sl Bk.len rfl el45 rfl rfl rfl hz (by omega) ?_)
        refine ops_cons rfl (ow_fieldAddr off102_0 rfl ?_)
        refine ops_cons rfl (ow_storeRF oR ti2 rfl rfl rfl rfl (by omega) (by omega) rfl ?_)
        intro w40 oU hg39 z41
        replace hs := hs.grown hg39 (fun g hg => Nat.le_trans Bhs (Own.lt oR hg).1)
        replace oT := oT.grown hg39 (Own.neO oT oR (by decide))
        replace b35 := b35.grown hg39 (fun h => Own.neT oR b35 (by decide) h.symm)
        replace X := X.grown hg39 X.size (fun g hg => (Own.lt oR hg).1)
        clear hg39 z41
        obtain ⟨zs, hzl, oQ⟩ : ∃ zs : List Bk, zs.length = ps.length ∧ Own _ w.heap.size 102 2 AR ps.length cR (zs.flatMap Bk.cells) := ⟨ps.set rk.toNat ⟨r5 - r7 / 7, z.phase⟩, List.length_set .., oU.to (set_field (x := z) (x' := ⟨r5 - r7 / 7, z.phase⟩) (vs := [.int .i64 (r5 - r7 / 7)]) Bk.len (f := 0) rfl (by omega) ps rk.toNat hz)⟩
        refine ops_nil ?_
        refine bq_n ?_
        refine tq_n ?_
        refine c_seqR ?_
        refine ops_cons rfl (ow_move rfl ?_)
        refine ops_cons rfl (ow_move rfl ?_)
        refine ops_cons rfl (ow_move rfl ?_)
        refine ops_cons rfl (ow_move rfl ?_)
        refine ops_cons rfl (ow_assign rfl ?_)
        refine ops_cons rfl (ow_assign rfl ?_)
        refine ops_cons rfl (ow_assign rfl ?_)
        refine ops_cons rfl (ow_assign rfl ?_)
        refine ops_nil ?_
        refine c_ret ?_
        refine fin_ret4 rfl rfl rfl rfl rfl ?_
        first
        | (exact ⟨AT, cT, ds, rx, ry, _, _, [⟨0, 0⟩, ⟨1, 0⟩], rfl, hdl.1, by decide, oT.sl, oL.sl, X⟩)
        | (exact ⟨AT, cT, ds, rx, ry, AR, cR, zs, by rw [hzl] <;> rfl, hdl.1, by omega, oT.sl, oQ.sl, X⟩)
        | (exact ⟨AT, cT, ds, rx, ry, AP, cR - 1, ps.drop 1, by rw [hpd] <;> rfl, hdl.1, by omega, oT.sl, Sl.up2 pS, X⟩)
        | (exact ⟨AT, cT, ds, rx, ry, AR, cR, ps, rfl, hdl.1, hpl, oT.sl, oR.sl, X⟩)
      · skip
        refine ops_cons rfl (ow_assign rfl ?_)
        refine ops_nil ?_
        refine c_false rfl ?_
        refine c_seqR ?_
        refine ops_cons rfl (ow_eql2 rfl rfl (fun h11 => ?_) (fun h11 => ?_))
        · skip
          refine ops_cons rfl (ow_assign rfl ?_)
          refine ops_nil ?_
          refine c_true rfl ?_
          refine c_region ?_
          refine ops_cons rfl (ow_move rfl ?_)
          refine ops_cons rfl (ow_move rfl ?_)
          refine ops_cons rfl (ow_move rfl ?_)
          refine ops_cons rfl (ow_call ent70 rfl (ret_mono (l01Next_c _ _ _ _ _ _ _ _ _ b23 hs hB ok hbl (by omega)) ?_))
          rintro _ w43 ⟨r9, a45, sd46, rfl, hr47, ok, b44, x42⟩
          replace hs := hs.grown x42 (by intro g hg; injection hg; omega)
          replace oT := oT.grownBlk x42 (Own.neT oT b23 (by decide))
          replace oR := oR.grownBlk x42 (Own.neT oR b23 (by decide))
          replace X := X.grown x42 X.size (by intro g hg; injection hg; omega)
          clear x42 b23
          obtain ⟨z, hz⟩ : ∃ z, ps[rk.toNat]? = some z := ⟨_, List.getElem?_eq_getElem (by omega)⟩
          refine ops_cons rfl (ow_indexT (oR).sl Bk.len rfl el45 rfl rfl rfl hz (by omega) ?_)
          refine ops_cons rfl (ow_fieldAddr off102_1 rfl ?_)
          refine ops_cons rfl (ow_storeRF oR ti2 rfl rfl rfl rfl (by omega) (by omega) rfl ?_)
          intro w49 oU hg48 z50
          replace hs := hs.grown hg48 (fun g hg => Nat.le_trans Bhs (Own.lt oR hg).1)
          replace oT := oT.grown hg48 (Own.neO oT oR (by decide))
          replace b44 := b44.grown hg48 (fun h => Own.neT oR b44 (by decide) h.symm)
          replace X := X.grown hg48 X.size (fun g hg => (Own.lt oR hg).1)
          clear hg48 z50
          obtain ⟨zs, hzl, oQ⟩ : ∃ zs : List Bk, zs.length = ps.length ∧ Own _ w.heap.size 102 2 AR ps.length cR (zs.flatMap Bk.cells) := ⟨ps.set rk.toNat ⟨z.slot, r9⟩, List.length_set .., oU.to (set_field (x := z) (x' := ⟨z.slot, r9⟩) (vs := [.int .i64 r9]) Bk.len (f := 1) rfl (by omega) ps rk.toNat hz)⟩
          refine ops_nil ?_
          refine bq_n ?_
          refine tq_n ?_
          refine c_seqR ?_
          refine ops_cons rfl (ow_move rfl ?_)
          refine ops_cons rfl (ow_move rfl ?_)
          refine ops_cons rfl (ow_move rfl ?_)
          refine ops_cons rfl (ow_move rfl ?_)
          refine ops_cons rfl (ow_assign rfl ?_)
          refine ops_cons rfl (ow_assign rfl ?_)
          refine ops_cons rfl (ow_assign rfl ?_)
          refine ops_cons rfl (ow_assign rfl ?_)
          refine ops_nil ?_
          refine c_ret ?_
          refine fin_ret4 rfl rfl rfl rfl rfl ?_
          first
          | (exact ⟨AT, cT, ds, rx, ry, _, _, [⟨0, 0⟩, ⟨1, 0⟩], rfl, hdl.1, by decide, oT.sl, oL.sl, X⟩)
          | (exact ⟨AT, cT, ds, rx, ry, AR, cR, zs, by rw [hzl] <;> rfl, hdl.1, by omega, oT.sl, oQ.sl, X⟩)
          | (exact ⟨AT, cT, ds, rx, ry, AP, cR - 1, ps.drop 1, by rw [hpd] <;> rfl, hdl.1, by omega, oT.sl, Sl.up2 pS, X⟩)
          | (exact ⟨AT, cT, ds, rx, ry, AR, cR, ps, rfl, hdl.1, hpl, oT.sl, oR.sl, X⟩)
        · skip
          refine ops_cons rfl (ow_assign rfl ?_)
          refine ops_nil ?_
          refine c_false rfl ?_
          refine c_seqR ?_
          refine ops_cons rfl (ow_eql2 rfl rfl (fun h13 => ?_) (fun h13 => ?_))
          · skip
            refine ops_cons rfl (ow_assign rfl ?_)
            refine ops_nil ?_
            refine c_true rfl ?_
            refine c_region ?_
            refine ops_cons rfl (ow_move rfl ?_)
            refine ops_cons rfl (ow_sliceL el45 (oR).sl Bk.len rfl rfl (show _ = ((1 : Nat) : Int) from rfl) rfl (by omega) (Own.cap oR) ?_)
            intro AP pS
            have hpd : (ps.drop 1).length = ps.length - 1 := List.length_drop ..
            refine ops_cons rfl (ow_assign rfl ?_)
            refine ops_nil ?_
            refine bq_n ?_
            refine tq_n ?_
            refine c_seqR ?_
            refine ops_cons rfl (ow_move rfl ?_)
            refine ops_cons rfl (ow_move rfl ?_)
            refine ops_cons rfl (ow_move rfl ?_)
            refine ops_cons rfl (ow_move rfl ?_)
            refine ops_cons rfl (ow_assign rfl ?_)
            refine ops_cons rfl (ow_assign rfl ?_)
            refine ops_cons rfl (ow_assign rfl ?_)
            refine ops_cons rfl (ow_assign rfl ?_)
            refine ops_nil ?_
            refine c_ret ?_
            refine fin_ret4 rfl rfl rfl rfl rfl ?_
            first
            | (exact ⟨AT, cT, ds, rx, ry, _, _, [⟨0, 0⟩, ⟨1, 0⟩], rfl, hdl.1, by decide, oT.sl, oL.sl, X⟩)
            | (exact ⟨AT, cT, ds, rx, ry, AR, cR, zs, by rw [hzl] <;> rfl, hdl.1, by omega, oT.sl, oQ.sl, X⟩)
            | (exact ⟨AT, cT, ds, rx, ry, AP, cR - 1, ps.drop 1, by rw [hpd] <;> rfl, hdl.1, by omega, oT.sl, Sl.up2 pS, X⟩)
            | (exact ⟨AT, cT, ds, rx, ry, AR, cR, ps, rfl, hdl.1, hpl, oT.sl, oR.sl, X⟩)
          · skip
            refine ops_cons rfl (ow_assign rfl ?_)
            refine ops_nil ?_
            refine c_false rfl ?_
            refine c_skip ?_
            refine bq_n ?_
            refine tq_n ?_
            refine c_seqR ?_
            refine ops_cons rfl (ow_move rfl ?_)
            refine ops_cons rfl (ow_move rfl ?_)
            refine ops_cons rfl (ow_move rfl ?_)
            refine ops_cons rfl (ow_move rfl ?_)
            refine ops_cons rfl (ow_assign rfl ?_)
            refine ops_cons rfl (ow_assign rfl ?_)
            refine ops_cons rfl (ow_assign rfl ?_)
            refine ops_cons rfl (ow_assign rfl ?_)
            refine ops_nil ?_
            refine c_ret ?_
            refine fin_ret4 rfl rfl rfl rfl rfl ?_
            first
            | (exact ⟨AT, cT, ds, rx, ry, _, _, [⟨0, 0⟩, ⟨1, 0⟩], rfl, hdl.1, by decide, oT.sl, oL.sl, X⟩)
            | (exact ⟨AT, cT, ds, rx, ry, AR, cR, zs, by rw [hzl] <;> rfl, hdl.1, by omega, oT.sl, oQ.sl, X⟩)
            | (exact ⟨AT, cT, ds, rx, ry, AP, cR - 1, ps.drop 1, by rw [hpd] <;> rfl, hdl.1, by omega, oT.sl, Sl.up2 pS, X⟩)
            | (exact ⟨AT, cT, ds, rx, ry, AR, cR, ps, rfl, hdl.1, hpl, oT.sl, oR.sl, X⟩)
    · skip
      refine ops_nil ?_
      refine c_false rfl ?_
      refine c_skip ?_
      refine tq_n ?_
      refine c_seqR ?_
      refine ops_cons rfl (ow_move rfl ?_)
      refine ops_cons rfl (ow_move rfl ?_)
      refine ops_cons rfl (ow_move rfl ?_)
      refine ops_cons rfl (ow_move rfl ?_)
      refine ops_cons rfl (ow_assign rfl ?_)
      refine ops_cons rfl (ow_assign rfl ?_)
      refine ops_cons rfl (ow_assign rfl ?_)
      refine ops_cons rfl (ow_assign rfl ?_)
      refine ops_nil ?_
      refine c_ret ?_
      refine fin_ret4 rfl rfl rfl rfl rfl ?_
      first
      | (exact ⟨AT, cT, ds, rx, ry, _, _, [⟨0, 0⟩, ⟨1, 0⟩], rfl, hdl.1, by decide, oT.sl, oL.sl, X⟩)
      | (exact ⟨AT, cT, ds, rx, ry, AR, cR, zs, by rw [hzl] <;> rfl, hdl.1, by omega, oT.sl, oQ.sl, X⟩)
      | (exact ⟨AT, cT, ds, rx, ry, AP, cR - 1, ps.drop 1, by rw [hpd] <;> rfl, hdl.1, by omega, oT.sl, Sl.up2 pS, X⟩)
      | (exact ⟨AT, cT, ds, rx, ry, AR, cR, ps, rfl, hdl.1, hpl, oT.sl, oR.sl, X⟩)

theorem drawPT_c (A : Option Addr) (B c : Nat) (bs : List UInt8) (w : World) (hs : Sl B w A (bs.flatMap eB)) (hbl : bs.length ≤ 1048576) :
    Calls Try.prog 57 #[.slice A bs.length c] w (Ret fun v w' => ∃ A1 c1 ds rounds slots A2 c2 bks, v = .tuple #[.slice A1 (List.length ds) c1, .int .i64 rounds, .int .i64 slots, .slice A2 (List.length bks) c2] ∧ ds.length ≤ 41 ∧ bks.length ≤ 1048576 ∧ Sl w'.heap.size w' A1 (ds.flatMap Dem.cells) ∧ Sl w'.heap.size w' A2 (bks.flatMap Bk.cells) ∧ Ext w w') := by
  have Bhs := hs.1
  have X := Ext.refl w
  refine calls_of (args := [.slice A bs.length c]) Try.func57 Try.ntmps57 rfl rfl ?_
  refine c_seqR ?_
  refine ops_cons rfl (ow_assign rfl ?_)
  refine ops_cons rfl (ow_assign rfl ?_)
  refine ops_cons rfl (ow_assign rfl ?_)
  refine ops_cons rfl (ow_assign rfl ?_)
  refine ops_nil ?_
  refine c_seqR ?_
  refine ops_cons rfl (ow_move rfl ?_)
  refine ops_cons rfl (ow_call ent99 rfl (ret_mono (drawAP_c _ _ _ bs _ hs hbl) ?_))
  rintro _ wD ⟨AD, cD, ds, rounds, slots, AB, cB, bks, rfl, hdl, hbl2, sD, sB, xD⟩
  replace hs := hs.ext xD
  replace X := Ext.trans X xD; clear xD
  refine ops_cons rfl (ow_extract rfl rfl ?_)
  refine ops_cons rfl (ow_extract rfl rfl ?_)
  refine ops_cons rfl (ow_extract rfl rfl ?_)
  refine ops_cons rfl (ow_extract rfl rfl ?_)
  refine ops_cons rfl (ow_assign rfl ?_)
  refine ops_cons rfl (ow_assign rfl ?_)
  refine ops_cons rfl (ow_assign rfl ?_)
  refine ops_cons rfl (ow_assign rfl ?_)
  refine ops_nil ?_
  refine c_ret ?_
  refine fin_ret4 rfl rfl rfl rfl rfl ?_
  exact ⟨_, _, ds, _, _, _, _, bks, rfl, hdl, hbl2, sD, sB, X⟩
end Go.Proofs.Ytimabffnoanciaa
