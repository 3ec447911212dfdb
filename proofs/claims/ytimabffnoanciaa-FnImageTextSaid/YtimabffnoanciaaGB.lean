/- Bytes that are drawn. No condition. -/
import Derived.Test.YtimabffnoanciaaG1
import Derived.Test.YtimabffnoanciaaFlowK
import Derived.Test.YtimabffnoanciaaFlowI
import Derived.Test.YtimabffnoanciaaFlowH
import Derived.Test.YtimabffnoanciaaFlowG
namespace Go.Proofs.Ytimabffnoanciaa
open Go.RowKit
set_option linter.unusedVariables false
set_option linter.unusedSimpArgs false
set_option maxRecDepth 20000
theorem l01DrawBytes_c (A : Option Addr) (B c : Nat) (bs : List UInt8) (gS a : Nat) (sd : Int) (n : Int) (w : World) (q : Blk w gS 122 (srcC A c bs a sd)) (hs : Sl B w A (bs.flatMap eB)) (hB : B ≤ gS) (ok : a ≤ bs.length ∧ 0 ≤ sd ∧ sd < 2147483647) (hbl : bs.length ≤ 1048576) (hn1 : 0 ≤ n ∧ n ≤ 20) :
    Calls Try.prog 66 #[.pointer (some ⟨gS, 0, none⟩), .int .i64 n] w (Ret fun v w' => ∃ A' c' xs a' sd', v = .slice A' (List.length xs) c' ∧ xs.length ≤ 1100 ∧ Own w' w.heap.size 2 1 A' xs.length c' (xs.flatMap eI) ∧ (a' ≤ bs.length ∧ 0 ≤ sd' ∧ sd' < 2147483647) ∧ Blk w' gS 122 (srcC A c bs a' sd') ∧ w.grownBy w' (some gS)) := by
  have Bhs := hs.1
  have X := gb_refl w (some gS)
  refine calls_of (args := [.pointer (some ⟨gS, 0, none⟩), .int .i64 n]) Try.func66 Try.ntmps66 rfl rfl ?_
  refine c_seqR ?_
  refine ops_cons rfl (ow_assign rfl ?_)
  refine ops_nil ?_
  refine c_seqR ?_
  refine ops_cons rfl (ow_buildSlice el24 ti2 rfl rfl rfl rfl rfl ?_)
  intro gI w2 egI oI bbgI x1 zgI
  replace oI := Own.low oI X.size
  replace q := q.ext x1
  replace hs := hs.ext x1
  replace X := gb_ext X x1; clear x1
  refine ops_cons rfl (ow_assign rfl ?_)
  refine ops_nil ?_
  refine c_seq ?_
  refine c_seqR ?_
  refine ops_cons rfl (ow_move rfl ?_)
  refine ops_cons rfl (ow_move rfl ?_)
  refine ops_cons rfl (ow_add rfl rfl (w64 (by omega)) ?_)
  refine ops_cons rfl (ow_call ent70 rfl (ret_mono (l01Next_c _ _ _ _ _ _ _ _ _ q hs hB ok hbl (by omega)) ?_))
  rintro _ w4 ⟨r0, a6, sd7, rfl, hr8, ok, b5, x3⟩
  replace hs := hs.grown x3 (by intro g hg; injection hg; omega)
  replace oI := oI.grownBlk x3 (Own.neT oI q (by decide))
  replace X : w.grownBy w4 (some gS) := by first | exact gb_trans X x3 | exact gb_new X x3 (by intro g hg; injection hg; omega)
  clear x3 q
  refine ops_cons rfl (ow_assign rfl ?_)
  refine ops_nil ?_
  refine c_block ?_
  refine c_loop (G := Int × List Int × Nat × Option Addr × Nat) (fun ⟨t, zs, n1, A1, c1⟩ => [(4, .slice none 0 0), (0, .pointer (some ⟨gS, 0, none⟩)), (5, .slice A1 n1 c1), (6, .int .i64 t)]) (fun ⟨t, zs, n1, A1, c1⟩ wr => (0 ≤ t ∧ t ≤ 20) ∧ n1 = zs.length ∧ (n1 : Int) + t ≤ 20 ∧ (∃ a sd, (a ≤ bs.length ∧ 0 ≤ sd ∧ sd < 2147483647) ∧ Blk wr gS 122 (srcC A c bs a sd)) ∧ Own wr w.heap.size 2 1 A1 n1 c1 (zs.flatMap eI) ∧ Sl B wr A (bs.flatMap eB) ∧ w.grownBy wr (some gS)) (fun ⟨t, zs, n1, A1, c1⟩ => t.toNat) (r0, [], 0, some ⟨gI, 0, none⟩, 0) (.cons rfl (.cons rfl (.cons rfl (.cons rfl (.nil _))))) ?_ ?_
  · exact ⟨(by omega), rfl, (by show ((0 : Nat) : Int) + _ ≤ _; omega), ⟨_, _, ok, b5⟩, oI, hs, X⟩
  clear hs oI b5
  clear X
  rintro ⟨t, zs, n1, A1, c1⟩ wr ⟨ht0, hn, hnt, qq, oO, hs, X⟩
  obtain ⟨a, sd, ok, q⟩ := qq
  refine c_seq ?_
  refine c_seqR ?_
  refine ops_cons rfl (ow_move rfl ?_)
  refine ops_cons rfl (ow_gtr2 rfl rfl (fun hk => ?_) (fun hk => ?_))
  · skip
    refine ops_nil ?_
    refine c_true rfl ?_
    refine c_skip ?_
    refine tq_n ?_
    refine c_seq ?_
    refine c_block ?_
    refine c_region ?_
    refine ops_cons rfl (ow_move rfl ?_)
    refine ops_cons rfl (ow_move rfl ?_)
    refine ops_cons rfl (ow_call ent70 rfl (ret_mono (l01Next_c _ _ _ _ _ _ _ _ _ q hs hB ok hbl (by omega)) ?_))
    rintro _ w10 ⟨rb, a12, sd13, rfl, hr14, ok, b11, x9⟩
    replace oO := oO.grownBlk x9 (Own.neT oO q (by decide))
    replace hs := hs.grown x9 (by intro g hg; injection hg; omega)
    replace X : w.grownBy w10 (some gS) := by first | exact gb_trans X x9 | exact gb_new X x9 (by intro g hg; injection hg; omega)
    clear x9 q
    refine ops_cons rfl (ow_buildSlice el24 ti2 rfl rfl rfl rfl rfl ?_)
    intro g15 w17 eg15 oV bbg15 x16 zg15
    replace oV := Own.low oV X.size
    replace oO := oO.ext x16
    replace hs := hs.ext x16
    replace b11 := b11.ext x16
    replace X := gb_ext X x16; clear x16
    refine ops_cons rfl (ow_append (ts := #[]) oO X.size oV.sl (by first | rfl | simp) (by first | exact List.all_eq_true.1 rfl | simp [Value.oneCell']) el24 ti2 rfl rfl rfl rfl (by omega) (by omega) ?_)
    intro AoN coN w19 oN hg18
    replace hs := hs.grown hg18 (fun g hg => Nat.le_trans Bhs (Own.lt oO hg).1)
    replace b11 := b11.grown hg18 (fun h => Own.neT oO b11 (by decide) h.symm)
    replace X := gb_new X hg18 (fun g hg => (Own.lt oO hg).1)
    clear hg18
    refine ops_cons rfl (ow_assign rfl ?_)
    refine ops_nil ?_
    refine bq_n ?_
    refine tq_n ?_
    refine c_region ?_
    refine ops_cons rfl (ow_move rfl ?_)
    refine ops_cons rfl (ow_sub rfl rfl (w64 (by omega)) ?_)
    refine ops_cons rfl (ow_assign rfl ?_)
    refine ops_nil ?_
    refine tq_n ⟨(t - 1, zs ++ [rb], n1 + 1, AoN, coN), (.cons rfl (.cons rfl (.cons rfl (.cons rfl (.nil _))))), ?_, ?_⟩
    · exact ⟨(by omega), (by simp [hn]), (by omega), ⟨_, _, ok, b11⟩, oN.to (snoc eI zs rb).symm, hs, X⟩
    · first | omega | (dsimp only; omega)
  · skip
    refine ops_nil ?_
    refine c_false rfl ?_
    refine c_exit ?_
    refine tq_e ?_
    refine tq_e ?_
    refine bq_e ?_
    refine tq_n ?_
    refine c_seq ?_
    refine c_seqR ?_
    refine ops_cons rfl (ow_move rfl ?_)
    refine ops_cons rfl (ow_call ent70 rfl (ret_mono (l01Next_c _ _ _ _ _ _ _ _ _ q hs hB ok hbl (by omega)) ?_))
    rintro _ w21 ⟨r40, a23, sd24, rfl, hr25, ok, b22, x20⟩
    replace oO := oO.grownBlk x20 (Own.neT oO q (by decide))
    replace hs := hs.grown x20 (by intro g hg; injection hg; omega)
    replace X : w.grownBy w21 (some gS) := by first | exact gb_trans X x20 | exact gb_new X x20 (by intro g hg; injection hg; omega)
    clear x20 q
    refine ops_nil ?_
    refine c_block ?_
    refine c_seqR ?_
    refine ops_cons rfl (ow_eql2 rfl rfl (fun h26 => ?_) (fun h26 => ?_))
    · skip
      refine ops_cons rfl (ow_assign rfl ?_)
      refine ops_nil ?_
      refine c_true rfl ?_
      refine c_region ?_
      refine ops_cons rfl (ow_move rfl ?_)
      refine ops_cons rfl (ow_buildSlice el24 ti2 rfl rfl rfl rfl rfl ?_)
      intro g27 w29 eg27 oL bbg27 x28 zg27
      replace oL := Own.low oL X.size
      replace oO := oO.ext x28
      replace hs := hs.ext x28
      replace b22 := b22.ext x28
      replace X := gb_ext X x28; clear x28
      replace oL := oL.to (cs' := ([256, -1] : List Int).flatMap eI) rfl
      refine ops_cons rfl (ow_move rfl ?_)
      refine ops_cons rfl (ow_call ent70 rfl (ret_mono (l01Next_c _ _ _ _ _ _ _ _ _ b22 hs hB ok hbl (by omega)) ?_))
      rintro _ w31 ⟨rr, a33, sd34, rfl, hr35, ok, b32, x30⟩
      replace oO := oO.grownBlk x30 (Own.neT oO b22 (by decide))
      replace hs := hs.grown x30 (by intro g hg; injection hg; omega)
      replace oL := oL.grownBlk x30 (Own.neT oL b22 (by decide))
      replace X : w.grownBy w31 (some gS) := by first | exact gb_trans X x30 | exact gb_new X x30 (by intro g hg; injection hg; omega)
      clear x30 b22
      obtain ⟨y, hy⟩ : ∃ y, ([256, -1] : List Int)[rr.toNat]? = some y := ⟨_, List.getElem?_eq_getElem (by simp; omega)⟩
      refine ops_cons rfl (ow_indexT (oL).sl eI_len rfl el24 rfl rfl rfl hy (by omega) ?_)
      refine ops_cons rfl (ow_loadT (oL).sl eI_len hy ti2 rfl rfl rfl ?_)
      clear oL
      refine ops_cons rfl (ow_buildSlice el24 ti2 rfl rfl rfl rfl rfl ?_)
      intro g36 w38 eg36 oV bbg36 x37 zg36
      replace oV := Own.low oV X.size
      replace oO := oO.ext x37
      replace hs := hs.ext x37
      replace b32 := b32.ext x37
      replace X := gb_ext X x37; clear x37
      refine ops_cons rfl (ow_append (ts := #[]) oO X.size oV.sl (by first | rfl | simp) (by first | exact List.all_eq_true.1 rfl | simp [Value.oneCell']) el24 ti2 rfl rfl rfl rfl (by omega) (by omega) ?_)
      intro AoU coU w40 oU hg39
      replace hs := hs.grown hg39 (fun g hg => Nat.le_trans Bhs (Own.lt oO hg).1)
      replace b32 := b32.grown hg39 (fun h => Own.neT oO b32 (by decide) h.symm)
      replace X := gb_new X hg39 (fun g hg => (Own.lt oO hg).1)
      clear hg39
      refine ops_cons rfl (ow_assign rfl ?_)
      refine ops_nil ?_
      refine bq_n ?_
      refine tq_n ?_
      refine c_seqR ?_
      refine ops_cons rfl (ow_move rfl ?_)
      refine ops_cons rfl (ow_assign rfl ?_)
      refine ops_nil ?_
      refine c_ret ?_
      refine fin_ret1 rfl rfl ?_
      first
      | (exact ⟨_, _, List.replicate (1024 + r1).toNat (0 : Int), _, _, by rw [List.length_replicate], by rw [List.length_replicate]; omega, by rw [List.length_replicate]; exact oM, ok, b32, X⟩)
      | (subst hn; exact ⟨_, _, zs ++ [y], _, _, by rw [List.length_append]; rfl, by rw [List.length_append]; simp; omega, by rw [List.length_append]; exact oU.to (snoc eI zs y).symm, ok, b32, X⟩)
      | (subst hn; exact ⟨A1, c1, zs, _, _, rfl, by omega, oO, ok, b32, X⟩)
    · skip
      refine ops_cons rfl (ow_assign rfl ?_)
      refine ops_nil ?_
      refine c_false rfl ?_
      refine c_seqR ?_
      refine ops_cons rfl (ow_eql2 rfl rfl (fun h41 => ?_) (fun h41 => ?_))
      · skip
        refine ops_cons rfl (ow_assign rfl ?_)
        refine ops_nil ?_
        refine c_true rfl ?_
        refine c_region ?_
        refine ops_cons rfl (ow_move rfl ?_)
        refine ops_cons rfl (ow_call ent70 rfl (ret_mono (l01Next_c _ _ _ _ _ _ _ _ _ b22 hs hB ok hbl (by omega)) ?_))
        rintro _ w43 ⟨r1, a45, sd46, rfl, hr47, ok, b44, x42⟩
        replace oO := oO.grownBlk x42 (Own.neT oO b22 (by decide))
        replace hs := hs.grown x42 (by intro g hg; injection hg; omega)
        replace X : w.grownBy w43 (some gS) := by first | exact gb_trans X x42 | exact gb_new X x42 (by intro g hg; injection hg; omega)
        clear x42 b22
        refine ops_cons rfl (ow_add rfl rfl (w64 (by omega)) ?_)
        refine ops_cons rfl (ow_make el24 ti2 rfl rfl rfl rfl (show _ = (((1024 + r1).toNat : Nat) : Int) by omega) (show _ = (((1024 + r1).toNat : Nat) : Int) by omega) (by omega) (by omega) ?_)
        intro gM w49 egM oM x48
        replace oM := Own.low oM X.size
        replace oO := oO.ext x48
        replace hs := hs.ext x48
        replace b44 := b44.ext x48
        replace X := gb_ext X x48; clear x48
        replace oM := oM.to (cs' := (List.replicate (1024 + r1).toNat (0 : Int)).flatMap eI) (by rw [← repL_flat]; rfl)
        refine ops_cons rfl (ow_assign rfl ?_)
        refine ops_nil ?_
        refine bq_n ?_
        refine tq_n ?_
        refine c_seqR ?_
        refine ops_cons rfl (ow_move rfl ?_)
        refine ops_cons rfl (ow_assign rfl ?_)
        refine ops_nil ?_
        refine c_ret ?_
        refine fin_ret1 rfl rfl ?_
        first
        | (exact ⟨_, _, List.replicate (1024 + r1).toNat (0 : Int), _, _, by rw [List.length_replicate], by rw [List.length_replicate]; omega, by rw [List.length_replicate]; exact oM, ok, b44, X⟩)
        | (subst hn; exact ⟨_, _, zs ++ [y], _, _, by rw [List.length_append]; rfl, by rw [List.length_append]; simp; omega, by rw [List.length_append]; exact oU.to (snoc eI zs y).symm, ok, b44, X⟩)
        | (subst hn; exact ⟨A1, c1, zs, _, _, rfl, by omega, oO, ok, b44, X⟩)
      · skip
        refine ops_cons rfl (ow_assign rfl ?_)
        refine ops_nil ?_
        refine c_false rfl ?_
        refine c_skip ?_
        refine bq_n ?_
        refine tq_n ?_
        refine c_seqR ?_
        refine ops_cons rfl (ow_move rfl ?_)
        refine ops_cons rfl (ow_assign rfl ?_)
        refine ops_nil ?_
        refine c_ret ?_
        refine fin_ret1 rfl rfl ?_
        first
        | (exact ⟨_, _, List.replicate (1024 + r1).toNat (0 : Int), _, _, by rw [List.length_replicate], by rw [List.length_replicate]; omega, by rw [List.length_replicate]; exact oM, ok, b22, X⟩)
        | (subst hn; exact ⟨_, _, zs ++ [y], _, _, by rw [List.length_append]; rfl, by rw [List.length_append]; simp; omega, by rw [List.length_append]; exact oU.to (snoc eI zs y).symm, ok, b22, X⟩)
        | (subst hn; exact ⟨A1, c1, zs, _, _, rfl, by omega, oO, ok, b22, X⟩)
end Go.Proofs.Ytimabffnoanciaa
