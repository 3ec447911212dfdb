/- Bytes of tables that are drawn. No condition. -/
import Derived.Test.YtojgfbbdjobdnaaG3
import Derived.Test.YtojgfbbdjobdnaaB1
namespace Go.Proofs.Ytojgfbbdjobdnaa
open Go.RowKit
set_option linter.unusedVariables false
set_option linter.unusedSimpArgs false
set_option maxRecDepth 20000
theorem l01DrawBytes_c (A : Option Addr) (B c : Nat) (bs : List UInt8) (gS a : Nat) (sd : Int) (n : Int) (w : World) (q : Blk w gS 91 (srcC A c bs a sd)) (hs : Sl B w A (bs.flatMap eB)) (hB : B ≤ gS) (ok : a ≤ bs.length ∧ 0 ≤ sd ∧ sd < 2147483647) (hbl : bs.length ≤ 1048576) (hn1 : 0 ≤ n ∧ n ≤ 20) :
    Calls Try.prog 44 #[.pointer (some ⟨gS, 0, none⟩), .int .i64 n] w (Ret fun v w' => ∃ A' c' xs a' sd', v = .slice A' (List.length xs) c' ∧ xs.length ≤ 1100 ∧ Own w' w.heap.size 2 1 A' xs.length c' (xs.flatMap eI) ∧ (a' ≤ bs.length ∧ 0 ≤ sd' ∧ sd' < 2147483647) ∧ Blk w' gS 91 (srcC A c bs a' sd') ∧ w.grownBy w' (some gS)) := by
  have Bhs := hs.1
  have X := gb_refl w (some gS)
  refine calls_of (args := [.pointer (some ⟨gS, 0, none⟩), .int .i64 n]) Try.func44 Try.ntmps44 rfl rfl ?_
  refine c_seqR ?_
  refine ops_cons rfl (ow_assign rfl ?_)
  refine ops_nil ?_
  refine c_seqR ?_
  refine ops_cons rfl (ow_buildSlice el26 ti2 rfl rfl rfl rfl rfl ?_)
  intro gI w2 egI oI bbgI x1 zgI
  replace oI := Own.low oI X.size
  replace q := q.ext x1
  replace hs := hs.ext x1
  replace X := gb_ext X x1; clear x1
  refine ops_cons rfl (ow_assign rfl ?_)
  refine ops_nil ?_
  refine c_seq ?_
  refine c_seqR ?_
  refine ops_cons rfl (ow_move rfl ?_)
  refine ops_cons rfl (ow_move rfl ?_)
  refine ops_cons rfl (ow_add rfl rfl (w64 (by omega)) ?_)
  refine ops_cons rfl (ow_call ent45 rfl (ret_mono (l01Next_c _ _ _ _ _ _ _ _ _ q hs hB ok hbl (by omega)) ?_))
  rintro _ w4 ⟨r0, a6, sd7, rfl, hr8, ok, b5, x3⟩
  replace hs := hs.grown x3 (by intro g hg; injection hg; omega)
  replace oI := oI.grownBlk x3 (Own.neT oI q (by decide))
  replace X : w.grownBy w4 (some gS) := by first | exact gb_trans X x3 | exact gb_new X x3 (by intro g hg; injection hg; omega)
  clear x3 q
  refine ops_cons rfl (ow_assign rfl ?_)
  refine ops_nil ?_
  refine c_block ?_
  refine c_loop (G := Int × List Int × Nat × Option Addr × Nat) (fun ⟨t, zs, n1, A1, c1⟩ => [(4, .slice none 0 0), (0, .pointer (some ⟨gS, 0, none⟩)), (5, .slice A1 n1 c1), (6, .int .i64 t)]) (fun ⟨t, zs, n1, A1, c1⟩ wr => (0 ≤ t ∧ t ≤ 20) ∧ n1 = zs.length ∧ (n1 : Int) + t ≤ 20 ∧ (∃ a sd, (a ≤ bs.length ∧ 0 ≤ sd ∧ sd < 2147483647) ∧ Blk wr gS 91 (srcC A c bs a sd)) ∧ Own wr w.heap.size 2 1 A1 n1 c1 (zs.flatMap eI) ∧ Sl B wr A (bs.flatMap eB) ∧ w.grownBy wr (some gS)) (fun ⟨t, zs, n1, A1, c1⟩ => t.toNat) (r0, [], 0, some ⟨gI, 0, none⟩, 0) (.cons rfl (.cons rfl (.cons rfl (.cons rfl (.nil _))))) ?_ ?_
  · exact ⟨(by omega), rfl, (by show ((0 : Nat) : Int) + _ ≤ _; omega), ⟨_, _, ok, b5⟩, oI, hs, X⟩
  clear hs oI b5
  clear X
  rintro ⟨t, zs, n1, A1, c1⟩ wr ⟨ht0, hn, hnt, qq, oO, hs, X⟩
  obtain ⟨a, sd, ok, q⟩ := qq
  refine c_seq ?_
  refine c_seqR ?_
  refine ops_cons rfl (ow_move rfl ?_)
  refine ops_cons rfl (ow_gtr2 rfl rfl (fun hk => ?_) (fun hk => ?_))
  · skip
    refine ops_nil ?_
    refine c_true rfl ?_
    refine c_skip ?_
    refine tq_n ?_
    refine c_seq ?_
    refine c_block ?_
    refine c_region ?_
    refine ops_cons rfl (ow_move rfl ?_)
    refine ops_cons rfl (ow_move rfl ?_)
    refine ops_cons rfl (ow_call ent45 rfl (ret_mono (l01Next_c _ _ _ _ _ _ _ _ _ q hs hB ok hbl (by omega)) ?_))
    rintro _ w10 ⟨rb, a12, sd13, rfl, hr14, ok, b11, x9⟩
    replace oO := oO.grownBlk x9 (Own.neT oO q (by decide))
    replace hs := hs.grown x9 (by intro g hg; injection hg; omega)
    replace X : w.grownBy w10 (some gS) := by first | exact gb_trans X x9 | exact gb_new X x9 (by intro g hg; injection hg; omega)
    clear x9 q
    refine ops_cons rfl (ow_buildSlice el26 ti2 rfl rfl rfl rfl rfl ?_)
    intro g15 w17 eg15 oV bbg15 x16 zg15
    replace oV := Own.low oV X.size
    replace oO := oO.ext x16
    replace hs := hs.ext x16
    replace b11 := b11.ext x16
    replace X := gb_ext X x16; clear x16
    refine ops_cons rfl (ow_append (ts := #[]) oO X.size oV.sl (by first | rfl | simp) (by first | exact List.all_eq_true.1 rfl | simp [Value.oneCell']) el26 ti2 rfl rfl rfl rfl (by omega) (by omega) ?_)
    intro AoN coN w19 oN hg18
    replace hs := hs.grown hg18 (fun g hg => Nat.le_trans Bhs (Own.lt oO hg).1)
    replace b11 := b11.grown hg18 (fun h => Own.neT oO b11 (by decide) h.symm)
    replace X := gb_new X hg18 (fun g hg => (Own.lt oO hg).1)
    clear hg18
    refine ops_cons rfl (ow_assign rfl ?_)
    refine ops_nil ?_
    refine bq_n ?_
    refine tq_n ?_
    refine c_region ?_
    refine ops_cons rfl (ow_move rfl ?_)
    refine ops_cons rfl (ow_sub rfl rfl (w64 (by omega)) ?_)
    refine ops_cons rfl (ow_assign rfl ?_)
    refine ops_nil ?_
    refine tq_n ⟨(t - 1, zs ++ [rb], n1 + 1, AoN, coN), (.cons rfl (.cons rfl (.cons rfl (.cons rfl (.nil _))))), ?_, ?_⟩
    · exact ⟨(by omega), (by simp [hn]), (by omega), ⟨_, _, ok, b11⟩, oN.to (snoc eI zs rb).symm, hs, X⟩
    · first | omega | (dsimp only; omega)
  · skip
    refine ops_nil ?_
    refine c_false rfl ?_
    refine c_exit ?_
    refine tq_e ?_
    refine tq_e ?_
    refine bq_e ?_
    refine tq_n ?_
    refine c_seq ?_
    refine c_seqR ?_
    refine ops_cons rfl (ow_move rfl ?_)
    refine ops_cons rfl (ow_call ent45 rfl (ret_mono (l01Next_c _ _ _ _ _ _ _ _ _ q hs hB ok hbl (by omega)) ?_))
    rintro _ w21 ⟨r40, a23, sd24, rfl, hr25, ok, b22, x20⟩
    replace oO := oO.grownBlk x20 (Own.neT oO q (by decide))
    replace hs := hs.grown x20 (by intro g hg; injection hg; omega)
    replace X : w.grownBy w21 (some gS) := by first | exact gb_trans X x20 | exact gb_new X x20 (by intro g hg; injection hg; omega)
    clear x20 q
    refine ops_nil ?_
    refine c_block ?_
    refine c_seqR ?_
    refine ops_cons rfl (ow_eql2 rfl rfl (fun h26 => ?_) (fun h26 => ?_))
    · skip
      refine ops_cons rfl (ow_assign rfl ?_)
      refine ops_nil ?_
      refine c_true rfl ?_
      refine c_region ?_
      refine ops_cons rfl (ow_move rfl ?_)
      refine ops_cons rfl (ow_buildSlice el26 ti2 rfl rfl rfl rfl rfl ?_)
      intro g27 w29 eg27 oL bbg27 x28 zg27
      replace oL := Own.low oL X.size
      replace oO := oO.ext x28
      replace hs := hs.ext x28
      replace b22 := b22.ext x28
      replace X := gb_ext X x28; clear x28
      replace oL := oL.to (cs' := ([256, -1] : List Int).flatMap eI) rfl
      refine ops_cons rfl (ow_move rfl ?_)
      refine ops_cons rfl (ow_call ent45 rfl (ret_mono (l01Next_c _ _ _ _ _ _ _ _ _ b22 hs hB ok hbl (by omega)) ?_))
      rintro _ w31 ⟨rr, a33, sd34, rfl, hr35, ok, b32, x30⟩
      replace oO := oO.grownBlk x30 (Own.neT oO b22 (by decide))
      replace hs := hs.grown x30 (by intro g hg; injection hg; omega)
      replace oL := oL.grownBlk x30 (Own.neT oL b22 (by decide))
      replace X : w.grownBy w31 (some gS) := by first | exact gb_trans X x30 | exact gb_new X x30 (by intro g hg; injection hg; omega)
      clear x30 b22
      obtain ⟨y, hy⟩ : ∃ y, ([256, -1] : List Int)[rr.toNat]? = some y := ⟨_, List.getElem?_eq_getElem (by simp; omega)⟩
      refine ops_cons rfl (ow_indexT (oL).sl eI_len rfl el26 rfl rfl rfl hy (by omega) ?_)
      refine ops_cons rfl (ow_loadT (oL).sl eI_len hy ti2 rfl rfl rfl ?_)
      clear oL
      refine ops_cons rfl (ow_buildSlice el26 ti2 rfl rfl rfl rfl rfl ?_)
      intro g36 w38 eg36 oV bbg36 x37 zg36
      replace oV := Own.low oV X.size
      replace oO := oO.ext x37
      replace hs := hs.ext x37
      replace b32 := b32.ext x37
      replace X := gb_ext X x37; clear x37
      refine ops_cons rfl (ow_append (ts := #[]) oO X.size oV.sl (by first | rfl | simp) (by first | exact List.all_eq_true.1 rfl | simp [Value.oneCell']) el26 ti2 rfl rfl rfl rfl (by omega) (by omega) ?_)
      intro AoU coU w40 oU hg39
      replace hs := hs.grown hg39 (fun g hg => Nat.le_trans Bhs (Own.lt oO hg).1)
      replace b32 := b32.grown hg39 (fun h => Own.neT oO b32 (by decide) h.symm)
      replace X := gb_new X hg39 (fun g hg => (Own.lt oO hg).1)
      clear hg39
      refine ops_cons rfl (ow_assign rfl ?_)
      refine ops_nil ?_
      refine bq_n ?_
      refine tq_n ?_
      refine c_seqR ?_
      refine ops_cons rfl (ow_move rfl ?_)
      refine ops_cons rfl (ow_assign rfl ?_)
      refine ops_nil ?_
      refine c_ret ?_
      refine fin_ret1 rfl rfl ?_
      first
      | (exact ⟨_, _, List.replicate (1024 + r1).toNat (0 : Int), _, _, by rw [List.length_replicate], by rw [List.length_replicate]; omega, by rw [List.length_replicate]; exact oM, ok, b32, X⟩)
      | (subst hn; exact ⟨_, _, zs ++ [y], _, _, by rw [List.length_append]; rfl, by rw [List.length_append]; simp; omega, by rw [List.length_append]; exact oU.to (snoc eI zs y).symm, ok, b32, X⟩)
      | (subst hn; exact ⟨A1, c1, zs, _, _, rfl, by omega, oO, ok, b32, X⟩)
    · skip
      refine ops_cons rfl (ow_assign rfl ?_)
      refine ops_nil ?_
      refine c_false rfl ?_
      refine c_seqR ?_
      refine ops_cons rfl (ow_eql2 rfl rfl (fun h41 => ?_) (fun h41 => ?_))
      · skip
        refine ops_cons rfl (ow_assign rfl ?_)
        refine ops_nil ?_
        refine c_true rfl ?_
        refine c_region ?_
        refine ops_cons rfl (ow_move rfl ?_)
        refine ops_cons rfl (ow_call ent45 rfl (ret_mono (l01Next_c _ _ _ _ _ _ _ _ _ b22 hs hB ok hbl (by omega)) ?_))
        rintro _ w43 ⟨r1, a45, sd46, rfl, hr47, ok, b44, x42⟩
        replace oO := oO.grownBlk x42 (Own.neT oO b22 (by decide))
        replace hs := hs.grown x42 (by intro g hg; injection hg; omega)
        replace X : w.grownBy w43 (some gS) := by first | exact gb_trans X x42 | exact gb_new X x42 (by intro g hg; injection hg; omega)
        clear x42 b22
        refine ops_cons rfl (ow_add rfl rfl (w64 (by omega)) ?_)
        refine ops_cons rfl (ow_make el26 ti2 rfl rfl rfl rfl (show _ = (((1024 + r1).toNat : Nat) : Int) by omega) (show _ = (((1024 + r1).toNat : Nat) : Int) by omega) (by omega) (by omega) ?_)
        intro gM w49 egM oM x48
        replace oM := Own.low oM X.size
        replace oO := oO.ext x48
        replace hs := hs.ext x48
        replace b44 := b44.ext x48
        replace X := gb_ext X x48; clear x48
        replace oM := oM.to (cs' := (List.replicate (1024 + r1).toNat (0 : Int)).flatMap eI) (by rw [← repL_flat]; rfl)
        refine ops_cons rfl (ow_assign rfl ?_)
        refine ops_nil ?_
        refine bq_n ?_
        refine tq_n ?_
        refine c_seqR ?_
        refine ops_cons rfl (ow_move rfl ?_)
        refine ops_cons rfl (ow_assign rfl ?_)
        refine ops_nil ?_
        refine c_ret ?_
        refine fin_ret1 rfl rfl ?_
        first
        | (exact ⟨_, _, List.replicate (1024 + r1).toNat (0 : Int), _, _, by rw [List.length_replicate], by rw [List.length_replicate]; omega, by rw [List.length_replicate]; exact oM, ok, b44, X⟩)
        | (subst hn; exact ⟨_, _, zs ++ [y], _, _, by rw [List.length_append]; rfl, by rw [List.length_append]; simp; omega, by rw [List.length_append]; exact oU.to (snoc eI zs y).symm, ok, b44, X⟩)
        | (subst hn; exact ⟨A1, c1, zs, _, _, rfl, by omega, oO, ok, b44, X⟩)
      · skip
        refine ops_cons rfl (ow_assign rfl ?_)
        refine ops_nil ?_
        refine c_false rfl ?_
        refine c_skip ?_
        refine bq_n ?_
        refine tq_n ?_
        refine c_seqR ?_
        refine ops_cons rfl (ow_move rfl ?_)
        refine ops_cons rfl (ow_assign rfl ?_)
        refine ops_nil ?_
        refine c_ret ?_
        refine fin_ret1 rfl rfl ?_
        first
        | (exact ⟨_, _, List.replicate (1024 + r1).toNat (0 : Int), _, _, by rw [List.length_replicate], by rw [List.length_replicate]; omega, by rw [List.length_replicate]; exact oM, ok, b22, X⟩)
        | (subst hn; exact ⟨_, _, zs ++ [y], _, _, by rw [List.length_append]; rfl, by rw [List.length_append]; simp; omega, by rw [List.length_append]; exact oU.to (snoc eI zs y).symm, ok, b22, X⟩)
        | (subst hn; exact ⟨A1, c1, zs, _, _, rfl, by omega, oO, ok, b22, X⟩)

theorem l08BytesS_c (d : Desc) (w : World) (hr : (0 ≤ d.node ∧ d.node ≤ 31) ∧ (0 ≤ d.kind ∧ d.kind ≤ 3) ∧ (0 ≤ d.size ∧ d.size ≤ 32) ∧ (0 ≤ d.duration ∧ d.duration ≤ 2000)) :
    Calls Try.prog 82 #[.agg d.cells.toArray] w (Ret fun v w' => ∃ A' c', v = .slice A' 5 c' ∧ Own w' w.heap.size 2 1 A' 5 c' ((descB d).flatMap eI) ∧ Ext w w') := by
  have X := Ext.refl w
  refine calls_of (args := [.agg d.cells.toArray]) Try.func82 Try.ntmps82 rfl rfl ?_
  refine c_seqR ?_
  refine ops_cons rfl (ow_box rfl rfl ?_)
  intro g4 w3 eg4 b1 x2 zg4
  have lg4 : w.heap.size ≤ g4 := Nat.le_trans X.size (Nat.le_of_eq eg4.symm)
  replace X := Ext.trans X x2; clear x2
  refine ops_cons rfl (ow_assign rfl ?_)
  refine ops_nil ?_
  refine c_seqR ?_
  refine ops_cons rfl (ow_assign rfl ?_)
  refine ops_nil ?_
  refine c_seq ?_
  refine c_seqR ?_
  refine ops_cons rfl (ow_fieldAddrB off39_4 rfl rfl ?_)
  refine ops_cons rfl (ow_loadB b1 ti4 rfl rfl ?_)
  cases hch : d.change
  · skip
    refine ops_nil ?_
    refine c_false rfl ?_
    refine c_skip ?_
    refine tq_n ?_
    refine c_seqR ?_
    refine ops_cons rfl (ow_fieldAddrB off39_0 rfl rfl ?_)
    refine ops_cons rfl (ow_loadB b1 ti2 rfl rfl ?_)
    refine ops_cons rfl (ow_fieldAddrB off39_1 rfl rfl ?_)
    refine ops_cons rfl (ow_loadB b1 ti2 rfl rfl ?_)
    refine ops_cons rfl (ow_mul rfl rfl (w64 (by omega)) ?_)
    refine ops_cons rfl (ow_fieldAddrB off39_2 rfl rfl ?_)
    refine ops_cons rfl (ow_loadB b1 ti2 rfl rfl ?_)
    refine ops_cons rfl (ow_add rfl rfl (w64 (by omega)) ?_)
    refine ops_cons rfl (ow_fieldAddrB off39_3 rfl rfl ?_)
    refine ops_cons rfl (ow_loadB b1 ti2 rfl rfl ?_)
    refine ops_cons rfl (ow_quo rfl rfl (by omega) (q64 (by omega)) ?_)
    refine ops_cons rfl (ow_fieldAddrB off39_3 rfl rfl ?_)
    refine ops_cons rfl (ow_loadB b1 ti2 rfl rfl ?_)
    refine ops_cons rfl (ow_rem rfl rfl (by omega) (m64 (by omega)) ?_)
    refine ops_cons rfl (ow_move rfl ?_)
    refine ops_cons rfl (ow_buildSlice el26 ti2 rfl rfl rfl rfl rfl ?_)
    intro g5 w7 eg5 oS bbg5 x6 zg5
    replace oS := Own.low oS X.size
    replace b1 := b1.ext x6
    replace X := Ext.trans X x6; clear x6
    refine ops_cons rfl (ow_assign rfl ?_)
    refine ops_nil ?_
    refine c_ret ?_
    refine fin_ret1 rfl rfl ?_
    exact ⟨_, _, rfl, oS.to (by simp [descB, hch, eI, repL]), X⟩
  · skip
    refine ops_nil ?_
    refine c_true rfl ?_
    refine c_region ?_
    refine ops_cons rfl (ow_assign rfl ?_)
    refine ops_nil ?_
    refine tq_n ?_
    refine c_seqR ?_
    refine ops_cons rfl (ow_fieldAddrB off39_0 rfl rfl ?_)
    refine ops_cons rfl (ow_loadB b1 ti2 rfl rfl ?_)
    refine ops_cons rfl (ow_fieldAddrB off39_1 rfl rfl ?_)
    refine ops_cons rfl (ow_loadB b1 ti2 rfl rfl ?_)
    refine ops_cons rfl (ow_mul rfl rfl (w64 (by omega)) ?_)
    refine ops_cons rfl (ow_fieldAddrB off39_2 rfl rfl ?_)
    refine ops_cons rfl (ow_loadB b1 ti2 rfl rfl ?_)
    refine ops_cons rfl (ow_add rfl rfl (w64 (by omega)) ?_)
    refine ops_cons rfl (ow_fieldAddrB off39_3 rfl rfl ?_)
    refine ops_cons rfl (ow_loadB b1 ti2 rfl rfl ?_)
    refine ops_cons rfl (ow_quo rfl rfl (by omega) (q64 (by omega)) ?_)
    refine ops_cons rfl (ow_fieldAddrB off39_3 rfl rfl ?_)
    refine ops_cons rfl (ow_loadB b1 ti2 rfl rfl ?_)
    refine ops_cons rfl (ow_rem rfl rfl (by omega) (m64 (by omega)) ?_)
    refine ops_cons rfl (ow_move rfl ?_)
    refine ops_cons rfl (ow_buildSlice el26 ti2 rfl rfl rfl rfl rfl ?_)
    intro g8 w10 eg8 oS bbg8 x9 zg8
    replace oS := Own.low oS X.size
    replace b1 := b1.ext x9
    replace X := Ext.trans X x9; clear x9
    refine ops_cons rfl (ow_assign rfl ?_)
    refine ops_nil ?_
    refine c_ret ?_
    refine fin_ret1 rfl rfl ?_
    exact ⟨_, _, rfl, oS.to (by simp [descB, hch, eI, repL]), X⟩

theorem l12BytesS_c (A : Option Addr) (B c : Nat) (xs : List SlotI) (w : World) (hs : Sl B w A (xs.flatMap SlotI.cells)) (hT : ∀ x ∈ xs, slSm x) (hL : xs.length ≤ 1000) :
    Calls Try.prog 60 #[.slice A xs.length c] w (Ret fun v w' => ∃ A' c', v = .slice A' (1 + 7 * xs.length) c' ∧ Own w' w.heap.size 2 1 A' (1 + 7 * xs.length) c' ((stB xs).flatMap eI) ∧ Ext w w') := by
  have Bhs := hs.1
  have X := Ext.refl w
  refine calls_of (args := [.slice A xs.length c]) Try.func60 Try.ntmps60 rfl rfl ?_
  refine c_seqR ?_
  refine ops_cons rfl (ow_assign rfl ?_)
  refine ops_nil ?_
  refine c_seqR ?_
  refine ops_cons rfl (ow_move rfl ?_)
  refine ops_cons rfl (ow_len Try.underlying35 rfl ?_)
  refine ops_cons rfl (ow_buildSlice el26 ti2 rfl rfl rfl rfl rfl ?_)
  intro gO w2 egO oO bbgO x1 zgO
  replace oO := Own.low oO X.size
  replace hs := hs.ext x1
  replace X := Ext.trans X x1; clear x1
  replace oO := oO.to (cs' := (stP xs 0).flatMap eI) rfl
  refine ops_cons rfl (ow_assign rfl ?_)
  refine ops_nil ?_
  refine c_seq ?_
  refine c_seqR ?_
  refine ops_cons rfl (ow_assign rfl ?_)
  refine ops_nil ?_
  refine c_block ?_
  refine c_loop (G := Nat × Nat × Option Addr × Nat) (fun ⟨k, n1, A1, c1⟩ => [(0, .slice A xs.length c), (2, .slice none 0 0), (3, .slice A1 n1 c1), (4, .int .i64 (k : Nat))]) (fun ⟨k, n1, A1, c1⟩ wr => k ≤ xs.length ∧ n1 = 1 + 7 * k ∧ Own wr w.heap.size 2 1 A1 n1 c1 ((stP xs k).flatMap eI) ∧ Sl B wr A (xs.flatMap SlotI.cells) ∧ Ext w wr) (fun ⟨k, n1, A1, c1⟩ => xs.length - k) (0, 1, some ⟨gO, 0, none⟩, 1) (.cons rfl (.cons rfl (.cons rfl (.cons rfl (.nil _))))) ?_ ?_
  · exact ⟨by omega, rfl, oO, hs, X⟩
  clear hs oO
  clear X
  rintro ⟨k, n1, A1, c1⟩ wr ⟨hk0, hn, oO, hs, X⟩
  refine c_seq ?_
  refine c_seqR ?_
  refine ops_cons rfl (ow_move rfl ?_)
  refine ops_cons rfl (ow_move rfl ?_)
  refine ops_cons rfl (ow_len Try.underlying35 rfl ?_)
  refine ops_cons rfl (ow_lss2 rfl rfl (fun hk => ?_) (fun hk => ?_))
  · skip
    obtain ⟨x, hx, dx⟩ := drop_at' hk
    have hk1 := hT x (List.mem_of_getElem? hx)
    have hd := hk1.2.2.2
    have hk2 := hk1.1
    have hk3 := hk1.2.1
    refine ops_nil ?_
    refine c_true rfl ?_
    refine c_skip ?_
    refine tq_n ?_
    refine c_seq ?_
    refine c_block ?_
    refine c_seqD [false, false, false, false, false, false, false, false, false, false, false, false, false, false, false, false, false, false, true] mixed (by kernel_rfl) ?_
    refine f_q rfl (fun wq sq => ow_move rfl ⟨rfl, Ext.refl _⟩) ?_
    refine f_q rfl (fun wq sq => ow_move rfl ⟨rfl, Ext.refl _⟩) ?_
    refine f_q rfl (fun wq sq => ow_move rfl ⟨rfl, Ext.refl _⟩) ?_
    refine f_q rfl (fun wq sq => ow_indexT (hs.ext sq) SlotI.len rfl el35 rfl rfl rfl hx rfl ⟨rfl, Ext.refl _⟩) ?_
    refine f_q rfl (fun wq sq => ow_fieldAddr off46_0 rfl ⟨rfl, Ext.refl _⟩) ?_
    refine f_q rfl (fun wq sq => ow_loadTF (hs.ext sq) SlotI.len hx ti2 rfl rfl rfl ⟨rfl, Ext.refl _⟩) ?_
    refine f_q rfl (fun wq sq => ow_mul rfl rfl (w64 (by omega)) ⟨rfl, Ext.refl _⟩) ?_
    refine f_q rfl (fun wq sq => ow_move rfl ⟨rfl, Ext.refl _⟩) ?_
    refine f_q rfl (fun wq sq => ow_move rfl ⟨rfl, Ext.refl _⟩) ?_
    refine f_q rfl (fun wq sq => ow_indexT (hs.ext sq) SlotI.len rfl el35 rfl rfl rfl hx rfl ⟨rfl, Ext.refl _⟩) ?_
    refine f_q rfl (fun wq sq => ow_fieldAddr off46_1 rfl ⟨rfl, Ext.refl _⟩) ?_
    refine f_q rfl (fun wq sq => ow_loadTF (hs.ext sq) SlotI.len hx ti2 rfl rfl rfl ⟨rfl, Ext.refl _⟩) ?_
    refine f_q rfl (fun wq sq => ow_add rfl rfl (w64 (by omega)) ⟨rfl, Ext.refl _⟩) ?_
    refine f_q rfl (fun wq sq => ow_move rfl ⟨rfl, Ext.refl _⟩) ?_
    refine f_q rfl (fun wq sq => ow_move rfl ⟨rfl, Ext.refl _⟩) ?_
    refine f_q rfl (fun wq sq => ow_indexT (hs.ext sq) SlotI.len rfl el35 rfl rfl rfl hx rfl ⟨rfl, Ext.refl _⟩) ?_
    refine f_q rfl (fun wq sq => ow_fieldAddr off46_2 rfl ⟨rfl, Ext.refl _⟩) ?_
    refine f_q rfl (fun wq sq => ow_loadTF (hs.ext sq) SlotI.len hx ti2 rfl rfl rfl ⟨rfl, Ext.refl _⟩) ?_
    refine f_op (fun gS : Nat => Value.slice (some ⟨gS, 0, none⟩) 2 2) (fun gS wz => Own wz w.heap.size 2 1 (some ⟨gS, 0, none⟩) 2 2 (eI (x.mode * 16 + x.round) ++ eI x.slot)) 0 rfl ⟨inj_own, fun _ _ _ h k => h.ext k, fun wq sq => ow_buildSlice el26 ti2 rfl rfl rfl rfl rfl (fun g w' hg ho hb hx hz => ⟨g, rfl, Own.low ho (Nat.le_trans X.size (sq).size), hx⟩)⟩ ?_
    intro gS
    refine f_nil (fun w3 sq => ?_)
    have xq := sq.1
    have oS := sq.2
    replace oO := oO.ext xq
    replace hs := hs.ext xq
    replace X := Ext.trans X xq; clear xq sq
    refine ops_cons rfl (ow_append (ts := #[]) oO X.size oS.sl (by first | rfl | simp) (by first | exact List.all_eq_true.1 rfl | simp [Value.oneCell']) el26 ti2 rfl rfl rfl rfl (by omega) (by omega) ?_)
    intro AoM coM w5 oM hg4
    replace hs := hs.grown hg4 (fun g hg => Nat.le_trans Bhs (Own.lt oO hg).1)
    replace X := X.grown hg4 X.size (fun g hg => (Own.lt oO hg).1)
    clear hg4
    refine ops_cons rfl (ow_assign rfl ?_)
    refine ops_nil ?_
    refine c_region ?_
    refine ops_cons rfl (ow_move rfl ?_)
    refine ops_cons rfl (ow_move rfl ?_)
    refine ops_cons rfl (ow_move rfl ?_)
    refine ops_cons rfl (ow_indexT hs SlotI.len rfl el35 rfl rfl rfl hx rfl ?_)
    refine ops_cons rfl (ow_fieldAddr off46_3 rfl ?_)
    refine ops_cons rfl (ow_loadTFA hs SlotI.len hx ti39 rfl rfl ?_)
    refine ops_cons rfl (ow_call ent82 rfl (ret_mono (l08BytesS_c x.desc _ hd) ?_))
    rintro _ w7 ⟨A8, c9, rfl, oD, x6⟩
    replace oD := Own.low oD X.size
    replace hs := hs.ext x6
    replace oM := oM.ext x6
    replace X := Ext.trans X x6; clear x6
    refine ops_cons rfl (ow_append (ts := #[]) oM X.size oD.sl (by simp [descB, eI]) (by simp [descB, eI, Value.oneCell']) el26 ti2 rfl rfl rfl rfl (by omega) (by omega) ?_)
    intro AoN coN w11 oN hg10
    replace hs := hs.grown hg10 (fun g hg => Nat.le_trans Bhs (Own.lt oM hg).1)
    replace X := X.grown hg10 X.size (fun g hg => (Own.lt oM hg).1)
    clear hg10
    refine ops_cons rfl (ow_assign rfl ?_)
    refine ops_nil ?_
    refine bq_n ?_
    refine tq_n ?_
    refine c_region ?_
    refine ops_cons rfl (ow_move rfl ?_)
    refine ops_cons rfl (ow_add rfl rfl (w64 (by omega)) ?_)
    refine ops_cons rfl (ow_assign rfl ?_)
    refine ops_nil ?_
    refine tq_n ⟨(k + 1, n1 + 2 + 5, AoN, coN), (.cons rfl (.cons rfl (.cons rfl (.cons rfl (.nil _))))), ?_, ?_⟩
    · exact ⟨by omega, by omega, oN.to (stP_step hx).symm, hs, X⟩
    · first | omega | (dsimp only; omega)
  · skip
    refine ops_nil ?_
    refine c_false rfl ?_
    refine c_exit ?_
    refine tq_e ?_
    refine tq_e ?_
    refine bq_e ?_
    refine tq_n ?_
    refine c_seqR ?_
    refine ops_cons rfl (ow_move rfl ?_)
    refine ops_cons rfl (ow_assign rfl ?_)
    refine ops_nil ?_
    refine c_ret ?_
    refine fin_ret1 rfl rfl ?_
    rw [show k = xs.length by omega] at oO hn
    subst hn
    exact ⟨_, _, rfl, oO, X⟩

theorem drawRST_c (A : Option Addr) (B c : Nat) (bs : List UInt8) (w : World) (hs : Sl B w A (bs.flatMap eB)) (hbl : bs.length ≤ 1048576) :
    Calls Try.prog 27 #[.slice A bs.length c] w (Ret fun v w' => ∃ A' c' xs, v = .slice A' (List.length xs) c' ∧ xs.length ≤ 2000 ∧ Own w' w.heap.size 2 1 A' xs.length c' (xs.flatMap eI) ∧ Ext w w') := by
  have Bhs := hs.1
  have X := Ext.refl w
  refine calls_of (args := [.slice A bs.length c]) Try.func27 Try.ntmps27 rfl rfl ?_
  refine c_seqR ?_
  refine ops_cons rfl (ow_assign rfl ?_)
  refine ops_nil ?_
  refine c_seqR ?_
  refine ops_cons rfl (ow_move rfl ?_)
  refine ops_cons rfl (ow_call ent40 rfl (ret_mono (l01From_c _ _ _ _ _ hs hbl) ?_))
  rintro _ w2 ⟨gS, a6, sd7, rfl, lgS0, ok, o3, x1⟩
  have lgS : w.heap.size ≤ gS := Nat.le_trans X.size lgS0
  replace hs := hs.ext x1
  replace X := Ext.trans X x1; clear x1
  refine ops_cons rfl (ow_assign rfl ?_)
  refine ops_nil ?_
  refine c_seqR ?_
  have hB : B ≤ gS := by omega
  refine ops_cons rfl (ow_move rfl ?_)
  have LoT := X.size
  refine ops_cons rfl (ow_call ent61 rfl (ret_mono (l12Draw_c _ _ _ _ _ _ _ _ o3 hs hB ok hbl) ?_))
  rintro _ w9 ⟨A_11, c_12, ys, a13, sd14, rfl, hyl, oT, ok, b10, x8⟩
  replace hs := hs.grown x8 (by intro g hg; injection hg; omega)
  replace X := X.grown x8 X.size (by intro g hg; injection hg; omega)
  clear x8 o3
  replace oT := Own.low oT LoT
  have hyl0 := hyl.1
  refine ops_cons rfl (ow_call ent60 rfl (ret_mono (l12BytesS_c _ _ _ ys _ oT.sl hyl.2 (by omega)) ?_))
  rintro _ w17 ⟨A18, c19, rfl, oB, x16⟩
  replace oB := Own.low oB X.size
  replace hs := hs.ext x16
  replace b10 := b10.ext x16
  replace oT := oT.ext x16
  replace X := Ext.trans X x16; clear x16
  obtain ⟨us, hul, oB⟩ : ∃ us : List Int, us.length = 1 + 7 * ys.length ∧ Own _ _ _ _ _ _ _ (us.flatMap eI) := ⟨stB ys, stP_len (Nat.le_refl _), oB⟩
  refine ops_cons rfl (ow_move rfl ?_)
  have LoD := X.size
  refine ops_cons rfl (ow_call ent44 rfl (ret_mono (l01DrawBytes_c _ _ _ _ _ _ _ _ _ b10 hs hB ok hbl (by omega)) ?_))
  rintro _ w21 ⟨A_23, c_24, ds, a25, sd26, rfl, hdl, oD, ok, b22, x20⟩
  replace hs := hs.grown x20 (by intro g hg; injection hg; omega)
  replace oT := oT.grownBlk x20 (Own.neT oT b10 (by decide))
  replace oB := oB.grownBlk x20 (Own.neT oB b10 (by decide))
  replace X := X.grown x20 X.size (by intro g hg; injection hg; omega)
  clear x20 b10
  replace oD := Own.low oD LoD
  refine ops_cons rfl (ow_append (ts := #[]) oB X.size oD.sl (by rw [flat_len eI_len ds]; try omega) (one_ints ds) el26 ti2 rfl rfl rfl rfl (by omega) (by omega) ?_)
  intro AoE coE w29 oE hg28
  replace hs := hs.grown hg28 (fun g hg => Nat.le_trans Bhs (Own.lt oB hg).1)
  replace oT := oT.grown hg28 (Own.neO oT oB (by decide))
  replace b22 := b22.grown hg28 (fun h => Own.neT oB b22 (by decide) h.symm)
  replace X := X.grown hg28 X.size (fun g hg => (Own.lt oB hg).1)
  clear hg28
  obtain ⟨zs, hzl, oE⟩ : ∃ zs : List Int, zs.length = 1 + 7 * ys.length + ds.length ∧ Own _ _ _ _ _ _ _ (zs.flatMap eI) := ⟨us ++ ds, by rw [List.length_append, hul], oE.to (by rw [List.flatMap_append])⟩
  refine ops_cons rfl (ow_assign rfl ?_)
  refine ops_nil ?_
  refine c_seq ?_
  refine c_seqR ?_
  refine ops_cons rfl (ow_move rfl ?_)
  refine ops_cons rfl (ow_call ent45 rfl (ret_mono (l01Next_c _ _ _ _ _ _ _ _ _ b22 hs hB ok hbl (by omega)) ?_))
  rintro _ w31 ⟨r8, a33, sd34, rfl, hr35, ok, b32, x30⟩
  replace hs := hs.grown x30 (by intro g hg; injection hg; omega)
  replace oT := oT.grownBlk x30 (Own.neT oT b22 (by decide))
  replace oE := oE.grownBlk x30 (Own.neT oE b22 (by decide))
  replace X := X.grown x30 X.size (by intro g hg; injection hg; omega)
  clear x30 b22
  refine ops_nil ?_
  refine c_block ?_
  refine c_seqR ?_
  refine ops_cons rfl (ow_eql2 rfl rfl (fun h36 => ?_) (fun h36 => ?_))
  · skip
    refine ops_cons rfl (ow_assign rfl ?_)
    refine ops_nil ?_
    refine c_true rfl ?_
    refine c_region ?_
    refine ops_cons rfl (ow_move rfl ?_)
    refine ops_cons rfl (ow_move rfl ?_)
    refine ops_cons rfl (ow_move rfl ?_)
    refine ops_cons rfl (ow_len Try.underlying26 rfl ?_)
    refine ops_cons rfl (ow_call ent45 rfl (ret_mono (l01Next_c _ _ _ _ _ _ _ _ _ b32 hs hB ok hbl (by omega)) ?_))
    rintro _ w38 ⟨rk, a40, sd41, rfl, hr42, ok, b39, x37⟩
    replace hs := hs.grown x37 (by intro g hg; injection hg; omega)
    replace oT := oT.grownBlk x37 (Own.neT oT b32 (by decide))
    replace oE := oE.grownBlk x37 (Own.neT oE b32 (by decide))
    replace X := X.grown x37 X.size (by intro g hg; injection hg; omega)
    clear x37 b32
    refine ops_cons rfl (ow_move rfl ?_)
    refine ops_cons rfl (ow_call ent45 rfl (ret_mono (l01Next_c _ _ _ _ _ _ _ _ _ b39 hs hB ok hbl (by omega)) ?_))
    rintro _ w44 ⟨rv, a46, sd47, rfl, hr48, ok, b45, x43⟩
    replace hs := hs.grown x43 (by intro g hg; injection hg; omega)
    replace oT := oT.grownBlk x43 (Own.neT oT b39 (by decide))
    replace oE := oE.grownBlk x43 (Own.neT oE b39 (by decide))
    replace X := X.grown x43 X.size (by intro g hg; injection hg; omega)
    clear x43 b39
    obtain ⟨x, hx⟩ : ∃ x, zs[rk.toNat]? = some x := ⟨_, List.getElem?_eq_getElem (by omega)⟩
    refine ops_cons rfl (ow_indexT (oE).sl eI_len rfl el26 rfl hzl.symm rfl hx (by omega) ?_)
    refine ops_cons rfl (ow_storeR oE ti2 rfl rfl rfl rfl (by omega) (by omega) rfl ?_)
    intro w50 oF hg49 z51
    replace hs := hs.grown hg49 (fun g hg => Nat.le_trans Bhs (Own.lt oE hg).1)
    replace oT := oT.grown hg49 (Own.neO oT oE (by decide))
    replace b45 := b45.grown hg49 (fun h => Own.neT oE b45 (by decide) h.symm)
    replace X := X.grown hg49 X.size (fun g hg => (Own.lt oE hg).1)
    clear hg49 z51
    replace oF := oF.to (cs' := (zs.set rk.toNat rv).flatMap eI) (set_field (x := x) (x' := rv) (vs := [.int .i64 rv]) eI_len (s' := 1) (f := 0) rfl (by omega) zs rk.toNat hx)
    refine ops_nil ?_
    refine bq_n ?_
    refine tq_n ?_
    refine c_seqR ?_
    refine ops_cons rfl (ow_move rfl ?_)
    refine ops_cons rfl (ow_assign rfl ?_)
    refine ops_nil ?_
    refine c_ret ?_
    refine fin_ret1 rfl rfl ?_
    first
    | (have e : (zs.take rk.toNat).length = rk.toNat := by rw [List.length_take]; omega
       refine ⟨_, _, zs.take rk.toNat, by rw [e], by omega, by rw [e]; exact oG.to (by rw [flat_take eI_len]), X⟩)
    | (have e : (zs.set rk.toNat rv).length = 1 + 7 * ys.length + ds.length := by rw [List.length_set, hzl]
       exact ⟨_, _, zs.set rk.toNat rv, by rw [e], by omega, by rw [e]; exact oF, X⟩)
    | (exact ⟨_, _, zs, by rw [hzl], by omega, by rw [hzl]; exact oE, X⟩)
  · skip
    refine ops_cons rfl (ow_assign rfl ?_)
    refine ops_nil ?_
    refine c_false rfl ?_
    refine c_seqR ?_
    refine ops_cons rfl (ow_eql2 rfl rfl (fun h52 => ?_) (fun h52 => ?_))
    · skip
      refine ops_cons rfl (ow_assign rfl ?_)
      refine ops_nil ?_
      refine c_true rfl ?_
      refine c_seqR ?_
      refine ops_cons rfl (ow_move rfl ?_)
      refine ops_cons rfl (ow_move rfl ?_)
      refine ops_cons rfl (ow_move rfl ?_)
      refine ops_cons rfl (ow_len Try.underlying26 rfl ?_)
      refine ops_cons rfl (ow_call ent45 rfl (ret_mono (l01Next_c _ _ _ _ _ _ _ _ _ b32 hs hB ok hbl (by omega)) ?_))
      rintro _ w54 ⟨rk, a56, sd57, rfl, hr58, ok, b55, x53⟩
      replace hs := hs.grown x53 (by intro g hg; injection hg; omega)
      replace oT := oT.grownBlk x53 (Own.neT oT b32 (by decide))
      replace oE := oE.grownBlk x53 (Own.neT oE b32 (by decide))
      replace X := X.grown x53 X.size (by intro g hg; injection hg; omega)
      clear x53 b32
      refine ops_cons rfl (ow_sliceHO el26 rfl rfl (show _ = ((rk.toNat : Nat) : Int) by omega) (Nat.le_trans (by omega) (Own.cap oE)) ?_)
      have oG := Own.pre oE (show rk.toNat ≤ 1 + 7 * ys.length + ds.length by omega)
      refine ops_cons rfl (ow_assign rfl ?_)
      refine ops_nil ?_
      refine c_ret ?_
      refine bq_r ?_
      refine tq_r ?_
      refine fin_ret1 rfl rfl ?_
      first
      | (have e : (zs.take rk.toNat).length = rk.toNat := by rw [List.length_take]; omega
         refine ⟨_, _, zs.take rk.toNat, by rw [e], by omega, by rw [e]; exact oG.to (by rw [flat_take eI_len]), X⟩)
      | (have e : (zs.set rk.toNat rv).length = 1 + 7 * ys.length + ds.length := by rw [List.length_set, hzl]
         exact ⟨_, _, zs.set rk.toNat rv, by rw [e], by omega, by rw [e]; exact oF, X⟩)
      | (exact ⟨_, _, zs, by rw [hzl], by omega, by rw [hzl]; exact oE, X⟩)
    · skip
      refine ops_cons rfl (ow_assign rfl ?_)
      refine ops_nil ?_
      refine c_false rfl ?_
      refine c_skip ?_
      refine bq_n ?_
      refine tq_n ?_
      refine c_seqR ?_
      refine ops_cons rfl (ow_move rfl ?_)
      refine ops_cons rfl (ow_assign rfl ?_)
      refine ops_nil ?_
      refine c_ret ?_
      refine fin_ret1 rfl rfl ?_
      first
      | (have e : (zs.take rk.toNat).length = rk.toNat := by rw [List.length_take]; omega
         refine ⟨_, _, zs.take rk.toNat, by rw [e], by omega, by rw [e]; exact oG.to (by rw [flat_take eI_len]), X⟩)
      | (have e : (zs.set rk.toNat rv).length = 1 + 7 * ys.length + ds.length := by rw [List.length_set, hzl]
         exact ⟨_, _, zs.set rk.toNat rv, by rw [e], by omega, by rw [e]; exact oF, X⟩)
      | (exact ⟨_, _, zs, by rw [hzl], by omega, by rw [hzl]; exact oE, X⟩)
end Go.Proofs.Ytojgfbbdjobdnaa
