/- Demands that are drawn. No condition. -/
import Derived.Test.YtimabffnoanciaaG1
import Derived.Test.YtimabffnoanciaaU2
import Derived.Test.YtimabffnoanciaaFlowK
import Derived.Test.YtimabffnoanciaaFlowI
import Derived.Test.YtimabffnoanciaaFlowH
namespace Go.Proofs.Ytimabffnoanciaa
open Go.RowKit
set_option linter.unusedVariables false
set_option linter.unusedSimpArgs false
set_option maxRecDepth 20000
set_option maxHeartbeats 4000000 in
theorem l16Draw_c (A : Option Addr) (B c : Nat) (bs : List UInt8) (gS a : Nat) (sd : Int) (w : World) (q : Blk w gS 122 (srcC A c bs a sd)) (hs : Sl B w A (bs.flatMap eB)) (hB : B ≤ gS) (ok : a ≤ bs.length ∧ 0 ≤ sd ∧ sd < 2147483647) (hbl : bs.length ≤ 1048576) :
    Calls Try.prog 83 #[.pointer (some ⟨gS, 0, none⟩)] w (Ret fun v w' => ∃ A' c' xs a' sd', v = .slice A' (List.length xs) c' ∧ xs.length ≤ 41 ∧ Own w' w.heap.size 79 3 A' xs.length c' (xs.flatMap Dem.cells) ∧ (a' ≤ bs.length ∧ 0 ≤ sd' ∧ sd' < 2147483647) ∧ Blk w' gS 122 (srcC A c bs a' sd') ∧ w.grownBy w' (some gS)) := by
  have Bhs := hs.1
  have X := gb_refl w (some gS)
  refine calls_of (args := [.pointer (some ⟨gS, 0, none⟩)]) Try.func83 Try.ntmps83 rfl rfl ?_
  refine c_seqR ?_
  refine ops_cons rfl (ow_assign rfl ?_)
  refine ops_nil ?_
  refine c_seqR ?_
  refine ops_cons rfl (ow_buildSlice el36 ti79 rfl rfl rfl rfl rfl ?_)
  intro gO w2 egO oI bbgO x1 zgO
  replace oI := Own.low oI X.size
  replace q := q.ext x1
  replace hs := hs.ext x1
  replace X := gb_ext X x1; clear x1
  refine ops_cons rfl (ow_assign rfl ?_)
  refine ops_nil ?_
  refine c_seq ?_
  refine c_seqR ?_
  refine ops_cons rfl (ow_move rfl ?_)
  refine ops_cons rfl (ow_call ent70 rfl (ret_mono (l01Next_c _ _ _ _ _ _ _ _ _ q hs hB ok hbl (by omega)) ?_))
  rintro _ w4 ⟨r12, a6, sd7, rfl, hr8, ok, b5, x3⟩
  replace hs := hs.grown x3 (by intro g hg; injection hg; omega)
  replace oI := oI.grownBlk x3 (Own.neT oI q (by decide))
  replace X : w.grownBy w4 (some gS) := by first | exact gb_trans X x3 | exact gb_new X x3 (by intro g hg; injection hg; omega)
  clear x3 q
  refine ops_cons rfl (ow_assign rfl ?_)
  refine ops_nil ?_
  refine c_block ?_
  refine c_loop (G := Int × List Dem × Nat × Option Addr × Nat) (fun ⟨t, ys, n1, A1, c1⟩ => [(2, .slice none 0 0), (0, .pointer (some ⟨gS, 0, none⟩)), (3, .slice A1 n1 c1), (4, .int .i64 t)]) (fun ⟨t, ys, n1, A1, c1⟩ wr => (0 ≤ t ∧ t ≤ 11) ∧ (n1 : Int) + t ≤ 11 ∧ n1 = ys.length ∧ (∃ a sd, (a ≤ bs.length ∧ 0 ≤ sd ∧ sd < 2147483647) ∧ Blk wr gS 122 (srcC A c bs a sd)) ∧ Own wr w.heap.size 79 3 A1 n1 c1 (ys.flatMap Dem.cells) ∧ Sl B wr A (bs.flatMap eB) ∧ w.grownBy wr (some gS)) (fun ⟨t, ys, n1, A1, c1⟩ => t.toNat) (r12, [], 0, some ⟨gO, 0, none⟩, 0) (.cons rfl (.cons rfl (.cons rfl (.cons rfl (.nil _))))) ?_ ?_
  · exact ⟨(by omega), (by show ((0 : Nat) : Int) + _ ≤ _; omega), rfl, ⟨_, _, ok, b5⟩, oI, hs, X⟩
  clear hs oI b5
  clear X
  rintro ⟨t, ys, n1, A1, c1⟩ wr ⟨ht0, hnt, hn, qq, oO, hs, X⟩
  obtain ⟨a, sd, ok, q⟩ := qq
  refine c_seq ?_
  refine c_seqR ?_
  refine ops_cons rfl (ow_move rfl ?_)
  refine ops_cons rfl (ow_gtr2 rfl rfl (fun h3 => ?_) (fun h3 => ?_))
  · skip
    refine ops_nil ?_
    refine c_true rfl ?_
    refine c_skip ?_
    refine tq_n ?_
    refine c_seq ?_
    refine c_block ?_
    refine c_regI (fun _ => True) mixed ?_
    obtain ⟨w9, ew9⟩ : ∃ wy, wy = World.drew wr := ⟨_, rfl⟩
    rw [← ew9]
    have xd : Ext wr w9 := ew9 ▸ Ext.drew wr
    replace oO := oO.ext xd
    replace hs := hs.ext xd
    replace q := q.ext xd
    replace X := gb_ext X xd; clear xd ew9
    refine wi_take 0 rfl (by kernel_rfl) rfl (by kernel_rfl) (listed' := #[true, false, false, false, false, false, false, false, false, false, false, false, false, false, false]) rfl (fun wq sq => ow_move rfl ⟨rfl, rfl⟩) ?_
    refine wi_take 1 rfl (by kernel_rfl) rfl (by kernel_rfl) (listed' := #[true, true, false, false, false, false, false, false, false, false, false, false, false, false, false]) rfl (fun wq sq => ow_move rfl ⟨rfl, rfl⟩) ?_
    refine wi_take 4 rfl (by kernel_rfl) rfl (by kernel_rfl) (listed' := #[true, true, false, false, true, false, false, false, false, false, false, false, false, false, false]) rfl (fun wq sq => ow_move rfl ⟨rfl, rfl⟩) ?_
    refine wi_take 8 rfl (by kernel_rfl) rfl (by kernel_rfl) (listed' := #[true, true, false, false, true, false, false, false, true, false, false, false, false, false, false]) rfl (fun wq sq => ow_move rfl ⟨rfl, rfl⟩) ?_
    refine wi_two 2 3 rfl rfl rfl rfl (by kernel_rfl) (listed' := #[true, true, true, false, true, false, false, false, true, false, false, false, false, false, false]) (listed'' := #[true, true, false, true, true, false, false, false, true, false, false, false, false, false, false]) rfl rfl trivial ?_ ?_
    · skip
      refine (ow_call ent70 rfl (ret_mono (l01Next_c _ _ _ _ _ _ _ _ _ q hs hB ok hbl (by omega)) ?_))
      rintro _ w11 ⟨rn, a13, sd14, rfl, hr15, ok, b12, x10⟩
      replace oO := oO.grownBlk x10 (Own.neT oO q (by decide))
      replace hs := hs.grown x10 (by intro g hg; injection hg; omega)
      replace X : w.grownBy w11 (some gS) := by first | exact gb_trans X x10 | exact gb_new X x10 (by intro g hg; injection hg; omega)
      clear x10 q
      refine wi_two 3 5 rfl rfl rfl rfl (by kernel_rfl) (listed' := #[true, true, true, true, true, false, false, false, true, false, false, false, false, false, false]) (listed'' := #[true, true, true, false, true, true, false, false, true, false, false, false, false, false, false]) rfl rfl trivial ?_ ?_
      · skip
        refine (ow_buildSlice el24 ti2 rfl rfl rfl rfl rfl ?_)
        intro g16 w18 eg16 oL bbg16 x17 zg16
        replace oL := Own.low oL X.size
        replace oO := oO.ext x17
        replace hs := hs.ext x17
        replace b12 := b12.ext x17
        replace X := gb_ext X x17; clear x17
        replace oL := oL.to (cs' := ([1, 2, 4, 8, 2, 4] : List Int).flatMap eI) rfl
        refine wi_one 5 rfl rfl (by kernel_rfl) (listed' := #[true, true, true, true, true, true, false, false, true, false, false, false, false, false, false]) rfl trivial (ow_call ent70 rfl (ret_mono (l01Next_c _ _ _ _ _ _ _ _ _ b12 hs hB ok hbl (by omega)) ?_))
        rintro _ w20 ⟨rr, a22, sd23, rfl, hr24, ok, b21, x19⟩
        replace oO := oO.grownBlk x19 (Own.neT oO b12 (by decide))
        replace hs := hs.grown x19 (by intro g hg; injection hg; omega)
        replace oL := oL.grownBlk x19 (Own.neT oL b12 (by decide))
        replace X : w.grownBy w20 (some gS) := by first | exact gb_trans X x19 | exact gb_new X x19 (by intro g hg; injection hg; omega)
        clear x19 b12
        refine wi_two 6 9 rfl rfl rfl rfl (by kernel_rfl) (listed' := #[true, true, true, true, true, true, true, false, true, false, false, false, false, false, false]) (listed'' := #[true, true, true, true, true, true, false, false, true, true, false, false, false, false, false]) rfl rfl trivial ?_ ?_
        · skip
          obtain ⟨y, hy⟩ : ∃ y, ([1, 2, 4, 8, 2, 4] : List Int)[rr.toNat]? = some y := ⟨_, List.getElem?_eq_getElem (by simp; omega)⟩
          refine (ow_indexT (oL).sl eI_len rfl el24 rfl rfl rfl hy (by omega) ?_)
          refine wi_two 7 9 rfl rfl rfl rfl (by kernel_rfl) (listed' := #[true, true, true, true, true, true, true, true, true, false, false, false, false, false, false]) (listed'' := #[true, true, true, true, true, true, true, false, true, true, false, false, false, false, false]) rfl rfl trivial ?_ ?_
          · skip
            refine (ow_loadT (oL).sl eI_len hy ti2 rfl rfl rfl ?_)
            refine wi_one 9 rfl rfl (by kernel_rfl) (listed' := #[true, true, true, true, true, true, true, true, true, true, false, false, false, false, false]) rfl trivial (ow_call ent70 rfl (ret_mono (l01Next_c _ _ _ _ _ _ _ _ _ b21 hs hB ok hbl (by omega)) ?_))
            rintro _ w26 ⟨rs, a28, sd29, rfl, hr30, ok, b27, x25⟩
            replace oO := oO.grownBlk x25 (Own.neT oO b21 (by decide))
            replace hs := hs.grown x25 (by intro g hg; injection hg; omega)
            replace oL := oL.grownBlk x25 (Own.neT oL b21 (by decide))
            replace X : w.grownBy w26 (some gS) := by first | exact gb_trans X x25 | exact gb_new X x25 (by intro g hg; injection hg; omega)
            clear x25 b21
            refine wi_one 10 rfl rfl (by kernel_rfl) (listed' := #[true, true, true, true, true, true, true, true, true, true, true, false, false, false, false]) rfl trivial (ow_add rfl rfl (w64 (by omega)) ?_)
            refine wi_one 11 rfl rfl (by kernel_rfl) (listed' := #[true, true, true, true, true, true, true, true, true, true, true, true, false, false, false]) rfl trivial (ow_buildP pl79 ti79 rfl rfl ?_)
            refine wi_one 12 rfl rfl (by kernel_rfl) (listed' := #[true, true, true, true, true, true, true, true, true, true, true, true, true, false, false]) rfl trivial (ow_buildSlice el36 ti79 rfl rfl rfl rfl rfl ?_)
            intro g31 w33 eg31 oV bbg31 x32 zg31
            replace oV := Own.low oV X.size
            replace oO := oO.ext x32
            replace hs := hs.ext x32
            replace oL := oL.ext x32
            replace b27 := b27.ext x32
            replace X := gb_ext X x32; clear x32
            refine wi_one 13 rfl rfl (by kernel_rfl) (listed' := #[true, true, true, true, true, true, true, true, true, true, true, true, true, true, false]) rfl trivial (ow_append (ts := #[]) oO X.size oV.sl (by first | rfl | simp) (by first | exact List.all_eq_true.1 rfl | simp [Value.oneCell']) el36 ti79 rfl rfl rfl rfl (by omega) (by omega) ?_)
            intro AoN coN w35 oN hg34
            replace hs := hs.grown hg34 (fun g hg => Nat.le_trans Bhs (Own.lt oO hg).1)
            replace oL := oL.grown hg34 (Own.neO oL oO (by decide))
            replace b27 := b27.grown hg34 (fun h => Own.neT oO b27 (by decide) h.symm)
            replace X := gb_new X hg34 (fun g hg => (Own.lt oO hg).1)
            clear hg34
            refine wi_take 14 rfl (by kernel_rfl) rfl (by kernel_rfl) (listed' := #[true, true, true, true, true, true, true, true, true, true, true, true, true, true, true]) rfl (fun wq sq => ow_assign rfl ⟨rfl, rfl⟩) ?_
            refine wi_done rfl trivial (fun aj fj => ⟨_, fj, ?_⟩)
            refine bq_n ?_
            refine tq_n ?_
            refine c_region ?_
            refine ops_cons rfl (ow_move rfl ?_)
            refine ops_cons rfl (ow_sub rfl rfl (w64 (by omega)) ?_)
            refine ops_cons rfl (ow_assign rfl ?_)
            refine ops_nil ?_
            refine tq_n ⟨(t - 1, ys ++ [⟨rn, y, 1 + rs⟩], n1 + 1, AoN, coN), (.cons rfl (.cons rfl (.cons rfl (.cons rfl (.nil _))))), ?_, ?_⟩
            · exact ⟨(by omega), (by omega), (by simp [hn]), ⟨_, _, ok, b27⟩, oN.to (snoc Dem.cells ys ⟨rn, y, 1 + rs⟩).symm, hs, X⟩
            · first | omega | (dsimp only; omega)
          · skip
            refine (ow_call ent70 rfl (ret_mono (l01Next_c _ _ _ _ _ _ _ _ _ b21 hs hB ok hbl (by omega)) ?_))
            rintro _ w37 ⟨rs, a39, sd40, rfl, hr41, ok, b38, x36⟩
            replace oO := oO.grownBlk x36 (Own.neT oO b21 (by decide))
            replace hs := hs.grown x36 (by intro g hg; injection hg; omega)
            replace oL := oL.grownBlk x36 (Own.neT oL b21 (by decide))
            replace X : w.grownBy w37 (some gS) := by first | exact gb_trans X x36 | exact gb_new X x36 (by intro g hg; injection hg; omega)
            clear x36 b21
            refine wi_two 7 10 rfl rfl rfl rfl (by kernel_rfl) (listed' := #[true, true, true, true, true, true, true, true, true, true, false, false, false, false, false]) (listed'' := #[true, true, true, true, true, true, true, false, true, true, true, false, false, false, false]) rfl rfl trivial ?_ ?_
            · skip
              refine (ow_loadT (oL).sl eI_len hy ti2 rfl rfl rfl ?_)
              refine wi_one 10 rfl rfl (by kernel_rfl) (listed' := #[true, true, true, true, true, true, true, true, true, true, true, false, false, false, false]) rfl trivial (ow_add rfl rfl (w64 (by omega)) ?_)
              refine wi_one 11 rfl rfl (by kernel_rfl) (listed' := #[true, true, true, true, true, true, true, true, true, true, true, true, false, false, false]) rfl trivial (ow_buildP pl79 ti79 rfl rfl ?_)
              refine wi_one 12 rfl rfl (by kernel_rfl) (listed' := #[true, true, true, true, true, true, true, true, true, true, true, true, true, false, false]) rfl trivial (ow_buildSlice el36 ti79 rfl rfl rfl rfl rfl ?_)
              intro g42 w44 eg42 oV bbg42 x43 zg42
              replace oV := Own.low oV X.size
              replace oO := oO.ext x43
              replace hs := hs.ext x43
              replace oL := oL.ext x43
              replace b38 := b38.ext x43
              replace X := gb_ext X x43; clear x43
              refine wi_one 13 rfl rfl (by kernel_rfl) (listed' := #[true, true, true, true, true, true, true, true, true, true, true, true, true, true, false]) rfl trivial (ow_append (ts := #[]) oO X.size oV.sl (by first | rfl | simp) (by first | exact List.all_eq_true.1 rfl | simp [Value.oneCell']) el36 ti79 rfl rfl rfl rfl (by omega) (by omega) ?_)
              intro AoN coN w46 oN hg45
              replace hs := hs.grown hg45 (fun g hg => Nat.le_trans Bhs (Own.lt oO hg).1)
              replace oL := oL.grown hg45 (Own.neO oL oO (by decide))
              replace b38 := b38.grown hg45 (fun h => Own.neT oO b38 (by decide) h.symm)
              replace X := gb_new X hg45 (fun g hg => (Own.lt oO hg).1)
              clear hg45
              refine wi_take 14 rfl (by kernel_rfl) rfl (by kernel_rfl) (listed' := #[true, true, true, true, true, true, true, true, true, true, true, true, true, true, true]) rfl (fun wq sq => ow_assign rfl ⟨rfl, rfl⟩) ?_
              refine wi_done rfl trivial (fun aj fj => ⟨_, fj, ?_⟩)
              refine bq_n ?_
              refine tq_n ?_
              refine c_region ?_
              refine ops_cons rfl (ow_move rfl ?_)
              refine ops_cons rfl (ow_sub rfl rfl (w64 (by omega)) ?_)
              refine ops_cons rfl (ow_assign rfl ?_)
              refine ops_nil ?_
              refine tq_n ⟨(t - 1, ys ++ [⟨rn, y, 1 + rs⟩], n1 + 1, AoN, coN), (.cons rfl (.cons rfl (.cons rfl (.cons rfl (.nil _))))), ?_, ?_⟩
              · exact ⟨(by omega), (by omega), (by simp [hn]), ⟨_, _, ok, b38⟩, oN.to (snoc Dem.cells ys ⟨rn, y, 1 + rs⟩).symm, hs, X⟩
              · first | omega | (dsimp only; omega)
            · skip
              refine (ow_add rfl rfl (w64 (by omega)) ?_)
              refine wi_one 7 rfl rfl (by kernel_rfl) (listed' := #[true, true, true, true, true, true, true, true, true, true, true, false, false, false, false]) rfl trivial (ow_loadT (oL).sl eI_len hy ti2 rfl rfl rfl ?_)
              refine wi_one 11 rfl rfl (by kernel_rfl) (listed' := #[true, true, true, true, true, true, true, true, true, true, true, true, false, false, false]) rfl trivial (ow_buildP pl79 ti79 rfl rfl ?_)
              refine wi_one 12 rfl rfl (by kernel_rfl) (listed' := #[true, true, true, true, true, true, true, true, true, true, true, true, true, false, false]) rfl trivial (ow_buildSlice el36 ti79 rfl rfl rfl rfl rfl ?_)
              intro g47 w49 eg47 oV bbg47 x48 zg47
              replace oV := Own.low oV X.size
              replace oO := oO.ext x48
              replace hs := hs.ext x48
              replace oL := oL.ext x48
              replace b38 := b38.ext x48
              replace X := gb_ext X x48; clear x48
              refine wi_one 13 rfl rfl (by kernel_rfl) (listed' := #[true, true, true, true, true, true, true, true, true, true, true, true, true, true, false]) rfl trivial (ow_append (ts := #[]) oO X.size oV.sl (by first | rfl | simp) (by first | exact List.all_eq_true.1 rfl | simp [Value.oneCell']) el36 ti79 rfl rfl rfl rfl (by omega) (by omega) ?_)
              intro AoN coN w51 oN hg50
              replace hs := hs.grown hg50 (fun g hg => Nat.le_trans Bhs (Own.lt oO hg).1)
              replace oL := oL.grown hg50 (Own.neO oL oO (by decide))
              replace b38 := b38.grown hg50 (fun h => Own.neT oO b38 (by decide) h.symm)
              replace X := gb_new X hg50 (fun g hg => (Own.lt oO hg).1)
              clear hg50
              refine wi_take 14 rfl (by kernel_rfl) rfl (by kernel_rfl) (listed' := #[true, true, true, true, true, true, true, true, true, true, true, true, true, true, true]) rfl (fun wq sq => ow_assign rfl ⟨rfl, rfl⟩) ?_
              refine wi_done rfl trivial (fun aj fj => ⟨_, fj, ?_⟩)
              refine bq_n ?_
              refine tq_n ?_
              refine c_region ?_
              refine ops_cons rfl (ow_move rfl ?_)
              refine ops_cons rfl (ow_sub rfl rfl (w64 (by omega)) ?_)
              refine ops_cons rfl (ow_assign rfl ?_)
              refine ops_nil ?_
              refine tq_n ⟨(t - 1, ys ++ [⟨rn, y, 1 + rs⟩], n1 + 1, AoN, coN), (.cons rfl (.cons rfl (.cons rfl (.cons rfl (.nil _))))), ?_, ?_⟩
              · exact ⟨(by omega), (by omega), (by simp [hn]), ⟨_, _, ok, b38⟩, oN.to (snoc Dem.cells ys ⟨rn, y, 1 + rs⟩).symm, hs, X⟩
              · first | omega | (dsimp only; omega)
        · skip
          refine (ow_call ent70 rfl (ret_mono (l01Next_c _ _ _ _ _ _ _ _ _ b21 hs hB ok hbl (by omega)) ?_))
          rintro _ w53 ⟨rs, a55, sd56, rfl, hr57, ok, b54, x52⟩
          replace oO := oO.grownBlk x52 (Own.neT oO b21 (by decide))
          replace hs := hs.grown x52 (by intro g hg; injection hg; omega)
          replace oL := oL.grownBlk x52 (Own.neT oL b21 (by decide))
          replace X : w.grownBy w53 (some gS) := by first | exact gb_trans X x52 | exact gb_new X x52 (by intro g hg; injection hg; omega)
          clear x52 b21
          refine wi_two 6 10 rfl rfl rfl rfl (by kernel_rfl) (listed' := #[true, true, true, true, true, true, true, false, true, true, false, false, false, false, false]) (listed'' := #[true, true, true, true, true, true, false, false, true, true, true, false, false, false, false]) rfl rfl trivial ?_ ?_
          · skip
            obtain ⟨y, hy⟩ : ∃ y, ([1, 2, 4, 8, 2, 4] : List Int)[rr.toNat]? = some y := ⟨_, List.getElem?_eq_getElem (by simp; omega)⟩
            refine (ow_indexT (oL).sl eI_len rfl el24 rfl rfl rfl hy (by omega) ?_)
            refine wi_two 7 10 rfl rfl rfl rfl (by kernel_rfl) (listed' := #[true, true, true, true, true, true, true, true, true, true, false, false, false, false, false]) (listed'' := #[true, true, true, true, true, true, true, false, true, true, true, false, false, false, false]) rfl rfl trivial ?_ ?_
            · skip
              refine (ow_loadT (oL).sl eI_len hy ti2 rfl rfl rfl ?_)
              refine wi_one 10 rfl rfl (by kernel_rfl) (listed' := #[true, true, true, true, true, true, true, true, true, true, true, false, false, false, false]) rfl trivial (ow_add rfl rfl (w64 (by omega)) ?_)
              refine wi_one 11 rfl rfl (by kernel_rfl) (listed' := #[true, true, true, true, true, true, true, true, true, true, true, true, false, false, false]) rfl trivial (ow_buildP pl79 ti79 rfl rfl ?_)
              refine wi_one 12 rfl rfl (by kernel_rfl) (listed' := #[true, true, true, true, true, true, true, true, true, true, true, true, true, false, false]) rfl trivial (ow_buildSlice el36 ti79 rfl rfl rfl rfl rfl ?_)
              intro g58 w60 eg58 oV bbg58 x59 zg58
              replace oV := Own.low oV X.size
              replace oO := oO.ext x59
              replace hs := hs.ext x59
              replace oL := oL.ext x59
              replace b54 := b54.ext x59
              replace X := gb_ext X x59; clear x59
              refine wi_one 13 rfl rfl (by kernel_rfl) (listed' := #[true, true, true, true, true, true, true, true, true, true, true, true, true, true, false]) rfl trivial (ow_append (ts := #[]) oO X.size oV.sl (by first | rfl | simp) (by first | exact List.all_eq_true.1 rfl | simp [Value.oneCell']) el36 ti79 rfl rfl rfl rfl (by omega) (by omega) ?_)
              intro AoN coN w62 oN hg61
              replace hs := hs.grown hg61 (fun g hg => Nat.le_trans Bhs (Own.lt oO hg).1)
              replace oL := oL.grown hg61 (Own.neO oL oO (by decide))
              replace b54 := b54.grown hg61 (fun h => Own.neT oO b54 (by decide) h.symm)
              replace X := gb_new X hg61 (fun g hg => (Own.lt oO hg).1)
              clear hg61
              refine wi_take 14 rfl (by kernel_rfl) rfl (by kernel_rfl) (listed' := #[true, true, true, true, true, true, true, true, true, true, true, true, true, true, true]) rfl (fun wq sq => ow_assign rfl ⟨rfl, rfl⟩) ?_
              refine wi_done rfl trivial (fun aj fj => ⟨_, fj, ?_⟩)
              refine bq_n ?_
              refine tq_n ?_
              refine c_region ?_
              refine ops_cons rfl (ow_move rfl ?_)
              refine ops_cons rfl (ow_sub rfl rfl (w64 (by omega)) ?_)
              refine ops_cons rfl (ow_assign rfl ?_)
              refine ops_nil ?_
              refine tq_n ⟨(t - 1, ys ++ [⟨rn, y, 1 + rs⟩], n1 + 1, AoN, coN), (.cons rfl (.cons rfl (.cons rfl (.cons rfl (.nil _))))), ?_, ?_⟩
              · exact ⟨(by omega), (by omega), (by simp [hn]), ⟨_, _, ok, b54⟩, oN.to (snoc Dem.cells ys ⟨rn, y, 1 + rs⟩).symm, hs, X⟩
              · first | omega | (dsimp only; omega)
            · skip
              refine (ow_add rfl rfl (w64 (by omega)) ?_)
              refine wi_one 7 rfl rfl (by kernel_rfl) (listed' := #[true, true, true, true, true, true, true, true, true, true, true, false, false, false, false]) rfl trivial (ow_loadT (oL).sl eI_len hy ti2 rfl rfl rfl ?_)
              refine wi_one 11 rfl rfl (by kernel_rfl) (listed' := #[true, true, true, true, true, true, true, true, true, true, true, true, false, false, false]) rfl trivial (ow_buildP pl79 ti79 rfl rfl ?_)
              refine wi_one 12 rfl rfl (by kernel_rfl) (listed' := #[true, true, true, true, true, true, true, true, true, true, true, true, true, false, false]) rfl trivial (ow_buildSlice el36 ti79 rfl rfl rfl rfl rfl ?_)
              intro g63 w65 eg63 oV bbg63 x64 zg63
              replace oV := Own.low oV X.size
              replace oO := oO.ext x64
              replace hs := hs.ext x64
              replace oL := oL.ext x64
              replace b54 := b54.ext x64
              replace X := gb_ext X x64; clear x64
              refine wi_one 13 rfl rfl (by kernel_rfl) (listed' := #[true, true, true, true, true, true, true, true, true, true, true, true, true, true, false]) rfl trivial (ow_append (ts := #[]) oO X.size oV.sl (by first | rfl | simp) (by first | exact List.all_eq_true.1 rfl | simp [Value.oneCell']) el36 ti79 rfl rfl rfl rfl (by omega) (by omega) ?_)
              intro AoN coN w67 oN hg66
              replace hs := hs.grown hg66 (fun g hg => Nat.le_trans Bhs (Own.lt oO hg).1)
              replace oL := oL.grown hg66 (Own.neO oL oO (by decide))
              replace b54 := b54.grown hg66 (fun h => Own.neT oO b54 (by decide) h.symm)
              replace X := gb_new X hg66 (fun g hg => (Own.lt oO hg).1)
              clear hg66
              refine wi_take 14 rfl (by kernel_rfl) rfl (by kernel_rfl) (listed' := #[true, true, true, true, true, true, true, true, true, true, true, true, true, true, true]) rfl (fun wq sq => ow_assign rfl ⟨rfl, rfl⟩) ?_
              refine wi_done rfl trivial (fun aj fj => ⟨_, fj, ?_⟩)
              refine bq_n ?_
              refine tq_n ?_
              refine c_region ?_
              refine ops_cons rfl (ow_move rfl ?_)
              refine ops_cons rfl (ow_sub rfl rfl (w64 (by omega)) ?_)
              refine ops_cons rfl (ow_assign rfl ?_)
              refine ops_nil ?_
              refine tq_n ⟨(t - 1, ys ++ [⟨rn, y, 1 + rs⟩], n1 + 1, AoN, coN), (.cons rfl (.cons rfl (.cons rfl (.cons rfl (.nil _))))), ?_, ?_⟩
              · exact ⟨(by omega), (by omega), (by simp [hn]), ⟨_, _, ok, b54⟩, oN.to (snoc Dem.cells ys ⟨rn, y, 1 + rs⟩).symm, hs, X⟩
              · first | omega | (dsimp only; omega)
          · skip
            refine (ow_add rfl rfl (w64 (by omega)) ?_)
            obtain ⟨y, hy⟩ : ∃ y, ([1, 2, 4, 8, 2, 4] : List Int)[rr.toNat]? = some y := ⟨_, List.getElem?_eq_getElem (by simp; omega)⟩
            refine wi_one 6 rfl rfl (by kernel_rfl) (listed' := #[true, true, true, true, true, true, true, false, true, true, true, false, false, false, false]) rfl trivial (ow_indexT (oL).sl eI_len rfl el24 rfl rfl rfl hy (by omega) ?_)
            refine wi_one 7 rfl rfl (by kernel_rfl) (listed' := #[true, true, true, true, true, true, true, true, true, true, true, false, false, false, false]) rfl trivial (ow_loadT (oL).sl eI_len hy ti2 rfl rfl rfl ?_)
            refine wi_one 11 rfl rfl (by kernel_rfl) (listed' := #[true, true, true, true, true, true, true, true, true, true, true, true, false, false, false]) rfl trivial (ow_buildP pl79 ti79 rfl rfl ?_)
            refine wi_one 12 rfl rfl (by kernel_rfl) (listed' := #[true, true, true, true, true, true, true, true, true, true, true, true, true, false, false]) rfl trivial (ow_buildSlice el36 ti79 rfl rfl rfl rfl rfl ?_)
            intro g68 w70 eg68 oV bbg68 x69 zg68
            replace oV := Own.low oV X.size
            replace oO := oO.ext x69
            replace hs := hs.ext x69
            replace oL := oL.ext x69
            replace b54 := b54.ext x69
            replace X := gb_ext X x69; clear x69
            refine wi_one 13 rfl rfl (by kernel_rfl) (listed' := #[true, true, true, true, true, true, true, true, true, true, true, true, true, true, false]) rfl trivial (ow_append (ts := #[]) oO X.size oV.sl (by first | rfl | simp) (by first | exact List.all_eq_true.1 rfl | simp [Value.oneCell']) el36 ti79 rfl rfl rfl rfl (by omega) (by omega) ?_)
            intro AoN coN w72 oN hg71
            replace hs := hs.grown hg71 (fun g hg => Nat.le_trans Bhs (Own.lt oO hg).1)
            replace oL := oL.grown hg71 (Own.neO oL oO (by decide))
            replace b54 := b54.grown hg71 (fun h => Own.neT oO b54 (by decide) h.symm)
            replace X := gb_new X hg71 (fun g hg => (Own.lt oO hg).1)
            clear hg71
            refine wi_take 14 rfl (by kernel_rfl) rfl (by kernel_rfl) (listed' := #[true, true, true, true, true, true, true, true, true, true, true, true, true, true, true]) rfl (fun wq sq => ow_assign rfl ⟨rfl, rfl⟩) ?_
            refine wi_done rfl trivial (fun aj fj => ⟨_, fj, ?_⟩)
            refine bq_n ?_
            refine tq_n ?_
            refine c_region ?_
            refine ops_cons rfl (ow_move rfl ?_)
            refine ops_cons rfl (ow_sub rfl rfl (w64 (by omega)) ?_)
            refine ops_cons rfl (ow_assign rfl ?_)
            refine ops_nil ?_
            refine tq_n ⟨(t - 1, ys ++ [⟨rn, y, 1 + rs⟩], n1 + 1, AoN, coN), (.cons rfl (.cons rfl (.cons rfl (.cons rfl (.nil _))))), ?_, ?_⟩
            · exact ⟨(by omega), (by omega), (by simp [hn]), ⟨_, _, ok, b54⟩, oN.to (snoc Dem.cells ys ⟨rn, y, 1 + rs⟩).symm, hs, X⟩
            · first | omega | (dsimp only; omega)
      · skip
        refine (ow_call ent70 rfl (ret_mono (l01Next_c _ _ _ _ _ _ _ _ _ b12 hs hB ok hbl (by omega)) ?_))
        rintro _ w74 ⟨rr, a76, sd77, rfl, hr78, ok, b75, x73⟩
        replace oO := oO.grownBlk x73 (Own.neT oO b12 (by decide))
        replace hs := hs.grown x73 (by intro g hg; injection hg; omega)
        replace X : w.grownBy w74 (some gS) := by first | exact gb_trans X x73 | exact gb_new X x73 (by intro g hg; injection hg; omega)
        clear x73 b12
        refine wi_two 3 9 rfl rfl rfl rfl (by kernel_rfl) (listed' := #[true, true, true, true, true, true, false, false, true, false, false, false, false, false, false]) (listed'' := #[true, true, true, false, true, true, false, false, true, true, false, false, false, false, false]) rfl rfl trivial ?_ ?_
        · skip
          refine (ow_buildSlice el24 ti2 rfl rfl rfl rfl rfl ?_)
          intro g79 w81 eg79 oL bbg79 x80 zg79
          replace oL := Own.low oL X.size
          replace oO := oO.ext x80
          replace hs := hs.ext x80
          replace b75 := b75.ext x80
          replace X := gb_ext X x80; clear x80
          replace oL := oL.to (cs' := ([1, 2, 4, 8, 2, 4] : List Int).flatMap eI) rfl
          refine wi_two 6 9 rfl rfl rfl rfl (by kernel_rfl) (listed' := #[true, true, true, true, true, true, true, false, true, false, false, false, false, false, false]) (listed'' := #[true, true, true, true, true, true, false, false, true, true, false, false, false, false, false]) rfl rfl trivial ?_ ?_
          · skip
            obtain ⟨y, hy⟩ : ∃ y, ([1, 2, 4, 8, 2, 4] : List Int)[rr.toNat]? = some y := ⟨_, List.getElem?_eq_getElem (by simp; omega)⟩
            refine (ow_indexT (oL).sl eI_len rfl el24 rfl rfl rfl hy (by omega) ?_)
            refine wi_two 7 9 rfl rfl rfl rfl (by kernel_rfl) (listed' := #[true, true, true, true, true, true, true, true, true, false, false, false, false, false, false]) (listed'' := #[true, true, true, true, true, true, true, false, true, true, false, false, false, false, false]) rfl rfl trivial ?_ ?_
            · skip
              refine (ow_loadT (oL).sl eI_len hy ti2 rfl rfl rfl ?_)
              refine wi_one 9 rfl rfl (by kernel_rfl) (listed' := #[true, true, true, true, true, true, true, true, true, true, false, false, false, false, false]) rfl trivial (ow_call ent70 rfl (ret_mono (l01Next_c _ _ _ _ _ _ _ _ _ b75 hs hB ok hbl (by omega)) ?_))
              rintro _ w83 ⟨rs, a85, sd86, rfl, hr87, ok, b84, x82⟩
              replace oO := oO.grownBlk x82 (Own.neT oO b75 (by decide))
              replace hs := hs.grown x82 (by intro g hg; injection hg; omega)
              replace oL := oL.grownBlk x82 (Own.neT oL b75 (by decide))
              replace X : w.grownBy w83 (some gS) := by first | exact gb_trans X x82 | exact gb_new X x82 (by intro g hg; injection hg; omega)
              clear x82 b75
              refine wi_one 10 rfl rfl (by kernel_rfl) (listed' := #[true, true, true, true, true, true, true, true, true, true, true, false, false, false, false]) rfl trivial (ow_add rfl rfl (w64 (by omega)) ?_)
              refine wi_one 11 rfl rfl (by kernel_rfl) (listed' := #[true, true, true, true, true, true, true, true, true, true, true, true, false, false, false]) rfl trivial (ow_buildP pl79 ti79 rfl rfl ?_)
              refine wi_one 12 rfl rfl (by kernel_rfl) (listed' := #[true, true, true, true, true, true, true, true, true, true, true, true, true, false, false]) rfl trivial (ow_buildSlice el36 ti79 rfl rfl rfl rfl rfl ?_)
              intro g88 w90 eg88 oV bbg88 x89 zg88
              replace oV := Own.low oV X.size
              replace oO := oO.ext x89
              replace hs := hs.ext x89
              replace oL := oL.ext x89
              replace b84 := b84.ext x89
              replace X := gb_ext X x89; clear x89
              refine wi_one 13 rfl rfl (by kernel_rfl) (listed' := #[true, true, true, true, true, true, true, true, true, true, true, true, true, true, false]) rfl trivial (ow_append (ts := #[]) oO X.size oV.sl (by first | rfl | simp) (by first | exact List.all_eq_true.1 rfl | simp [Value.oneCell']) el36 ti79 rfl rfl rfl rfl (by omega) (by omega) ?_)
              intro AoN coN w92 oN hg91
              replace hs := hs.grown hg91 (fun g hg => Nat.le_trans Bhs (Own.lt oO hg).1)
              replace oL := oL.grown hg91 (Own.neO oL oO (by decide))
              replace b84 := b84.grown hg91 (fun h => Own.neT oO b84 (by decide) h.symm)
              replace X := gb_new X hg91 (fun g hg => (Own.lt oO hg).1)
              clear hg91
              refine wi_take 14 rfl (by kernel_rfl) rfl (by kernel_rfl) (listed' := #[true, true, true, true, true, true, true, true, true, true, true, true, true, true, true]) rfl (fun wq sq => ow_assign rfl ⟨rfl, rfl⟩) ?_
              refine wi_done rfl trivial (fun aj fj => ⟨_, fj, ?_⟩)
              refine bq_n ?_
              refine tq_n ?_
              refine c_region ?_
              refine ops_cons rfl (ow_move rfl ?_)
              refine ops_cons rfl (ow_sub rfl rfl (w64 (by omega)) ?_)
              refine ops_cons rfl (ow_assign rfl ?_)
              refine ops_nil ?_
              refine tq_n ⟨(t - 1, ys ++ [⟨rn, y, 1 + rs⟩], n1 + 1, AoN, coN), (.cons rfl (.cons rfl (.cons rfl (.cons rfl (.nil _))))), ?_, ?_⟩
              · exact ⟨(by omega), (by omega), (by simp [hn]), ⟨_, _, ok, b84⟩, oN.to (snoc Dem.cells ys ⟨rn, y, 1 + rs⟩).symm, hs, X⟩
              · first | omega | (dsimp only; omega)
            · skip
              refine (ow_call ent70 rfl (ret_mono (l01Next_c _ _ _ _ _ _ _ _ _ b75 hs hB ok hbl (by omega)) ?_))
              rintro _ w94 ⟨rs, a96, sd97, rfl, hr98, ok, b95, x93⟩
              replace oO := oO.grownBlk x93 (Own.neT oO b75 (by decide))
              replace hs := hs.grown x93 (by intro g hg; injection hg; omega)
              replace oL := oL.grownBlk x93 (Own.neT oL b75 (by decide))
              replace X : w.grownBy w94 (some gS) := by first | exact gb_trans X x93 | exact gb_new X x93 (by intro g hg; injection hg; omega)
              clear x93 b75
              refine wi_two 7 10 rfl rfl rfl rfl (by kernel_rfl) (listed' := #[true, true, true, true, true, true, true, true, true, true, false, false, false, false, false]) (listed'' := #[true, true, true, true, true, true, true, false, true, true, true, false, false, false, false]) rfl rfl trivial ?_ ?_
              · skip
                refine (ow_loadT (oL).sl eI_len hy ti2 rfl rfl rfl ?_)
                refine wi_one 10 rfl rfl (by kernel_rfl) (listed' := #[true, true, true, true, true, true, true, true, true, true, true, false, false, false, false]) rfl trivial (ow_add rfl rfl (w64 (by omega)) ?_)
                refine wi_one 11 rfl rfl (by kernel_rfl) (listed' := #[true, true, true, true, true, true, true, true, true, true, true, true, false, false, false]) rfl trivial (ow_buildP pl79 ti79 rfl rfl ?_)
                refine wi_one 12 rfl rfl (by kernel_rfl) (listed' := #[true, true, true, true, true, true, true, true, true, true, true, true, true, false, false]) rfl trivial (ow_buildSlice el36 ti79 rfl rfl rfl rfl rfl ?_)
                intro g99 w101 eg99 oV bbg99 x100 zg99
                replace oV := Own.low oV X.size
                replace oO := oO.ext x100
                replace hs := hs.ext x100
                replace oL := oL.ext x100
                replace b95 := b95.ext x100
                replace X := gb_ext X x100; clear x100
                refine wi_one 13 rfl rfl (by kernel_rfl) (listed' := #[true, true, true, true, true, true, true, true, true, true, true, true, true, true, false]) rfl trivial (ow_append (ts := #[]) oO X.size oV.sl (by first | rfl | simp) (by first | exact List.all_eq_true.1 rfl | simp [Value.oneCell']) el36 ti79 rfl rfl rfl rfl (by omega) (by omega) ?_)
                intro AoN coN w103 oN hg102
                replace hs := hs.grown hg102 (fun g hg => Nat.le_trans Bhs (Own.lt oO hg).1)
                replace oL := oL.grown hg102 (Own.neO oL oO (by decide))
                replace b95 := b95.grown hg102 (fun h => Own.neT oO b95 (by decide) h.symm)
                replace X := gb_new X hg102 (fun g hg => (Own.lt oO hg).1)
                clear hg102
                refine wi_take 14 rfl (by kernel_rfl) rfl (by kernel_rfl) (listed' := #[true, true, true, true, true, true, true, true, true, true, true, true, true, true, true]) rfl (fun wq sq => ow_assign rfl ⟨rfl, rfl⟩) ?_
                refine wi_done rfl trivial (fun aj fj => ⟨_, fj, ?_⟩)
                refine bq_n ?_
                refine tq_n ?_
                refine c_region ?_
                refine ops_cons rfl (ow_move rfl ?_)
                refine ops_cons rfl (ow_sub rfl rfl (w64 (by omega)) ?_)
                refine ops_cons rfl (ow_assign rfl ?_)
                refine ops_nil ?_
                refine tq_n ⟨(t - 1, ys ++ [⟨rn, y, 1 + rs⟩], n1 + 1, AoN, coN), (.cons rfl (.cons rfl (.cons rfl (.cons rfl (.nil _))))), ?_, ?_⟩
                · exact ⟨(by omega), (by omega), (by simp [hn]), ⟨_, _, ok, b95⟩, oN.to (snoc Dem.cells ys ⟨rn, y, 1 + rs⟩).symm, hs, X⟩
                · first | omega | (dsimp only; omega)
              · skip
                refine (ow_add rfl rfl (w64 (by omega)) ?_)
                refine wi_one 7 rfl rfl (by kernel_rfl) (listed' := #[true, true, true, true, true, true, true, true, true, true, true, false, false, false, false]) rfl trivial (ow_loadT (oL).sl eI_len hy ti2 rfl rfl rfl ?_)
                refine wi_one 11 rfl rfl (by kernel_rfl) (listed' := #[true, true, true, true, true, true, true, true, true, true, true, true, false, false, false]) rfl trivial (ow_buildP pl79 ti79 rfl rfl ?_)
                refine wi_one 12 rfl rfl (by kernel_rfl) (listed' := #[true, true, true, true, true, true, true, true, true, true, true, true, true, false, false]) rfl trivial (ow_buildSlice el36 ti79 rfl rfl rfl rfl rfl ?_)
                intro g104 w106 eg104 oV bbg104 x105 zg104
                replace oV := Own.low oV X.size
                replace oO := oO.ext x105
                replace hs := hs.ext x105
                replace oL := oL.ext x105
                replace b95 := b95.ext x105
                replace X := gb_ext X x105; clear x105
                refine wi_one 13 rfl rfl (by kernel_rfl) (listed' := #[true, true, true, true, true, true, true, true, true, true, true, true, true, true, false]) rfl trivial (ow_append (ts := #[]) oO X.size oV.sl (by first | rfl | simp) (by first | exact List.all_eq_true.1 rfl | simp [Value.oneCell']) el36 ti79 rfl rfl rfl rfl (by omega) (by omega) ?_)
                intro AoN coN w108 oN hg107
                replace hs := hs.grown hg107 (fun g hg => Nat.le_trans Bhs (Own.lt oO hg).1)
                replace oL := oL.grown hg107 (Own.neO oL oO (by decide))
                replace b95 := b95.grown hg107 (fun h => Own.neT oO b95 (by decide) h.symm)
                replace X := gb_new X hg107 (fun g hg => (Own.lt oO hg).1)
                clear hg107
                refine wi_take 14 rfl (by kernel_rfl) rfl (by kernel_rfl) (listed' := #[true, true, true, true, true, true, true, true, true, true, true, true, true, true, true]) rfl (fun wq sq => ow_assign rfl ⟨rfl, rfl⟩) ?_
                refine wi_done rfl trivial (fun aj fj => ⟨_, fj, ?_⟩)
                refine bq_n ?_
                refine tq_n ?_
                refine c_region ?_
                refine ops_cons rfl (ow_move rfl ?_)
                refine ops_cons rfl (ow_sub rfl rfl (w64 (by omega)) ?_)
                refine ops_cons rfl (ow_assign rfl ?_)
                refine ops_nil ?_
                refine tq_n ⟨(t - 1, ys ++ [⟨rn, y, 1 + rs⟩], n1 + 1, AoN, coN), (.cons rfl (.cons rfl (.cons rfl (.cons rfl (.nil _))))), ?_, ?_⟩
                · exact ⟨(by omega), (by omega), (by simp [hn]), ⟨_, _, ok, b95⟩, oN.to (snoc Dem.cells ys ⟨rn, y, 1 + rs⟩).symm, hs, X⟩
                · first | omega | (dsimp only; omega)
          · skip
            refine (ow_call ent70 rfl (ret_mono (l01Next_c _ _ _ _ _ _ _ _ _ b75 hs hB ok hbl (by omega)) ?_))
            rintro _ w110 ⟨rs, a112, sd113, rfl, hr114, ok, b111, x109⟩
            replace oO := oO.grownBlk x109 (Own.neT oO b75 (by decide))
            replace hs := hs.grown x109 (by intro g hg; injection hg; omega)
            replace oL := oL.grownBlk x109 (Own.neT oL b75 (by decide))
            replace X : w.grownBy w110 (some gS) := by first | exact gb_trans X x109 | exact gb_new X x109 (by intro g hg; injection hg; omega)
            clear x109 b75
            refine wi_two 6 10 rfl rfl rfl rfl (by kernel_rfl) (listed' := #[true, true, true, true, true, true, true, false, true, true, false, false, false, false, false]) (listed'' := #[true, true, true, true, true, true, false, false, true, true, true, false, false, false, false]) rfl rfl trivial ?_ ?_
            · skip
              obtain ⟨y, hy⟩ : ∃ y, ([1, 2, 4, 8, 2, 4] : List Int)[rr.toNat]? = some y := ⟨_, List.getElem?_eq_getElem (by simp; omega)⟩
              refine (ow_indexT (oL).sl eI_len rfl el24 rfl rfl rfl hy (by omega) ?_)
              refine wi_two 7 10 rfl rfl rfl rfl (by kernel_rfl) (listed' := #[true, true, true, true, true, true, true, true, true, true, false, false, false, false, false]) (listed'' := #[true, true, true, true, true, true, true, false, true, true, true, false, false, false, false]) rfl rfl trivial ?_ ?_
              · skip
                refine (ow_loadT (oL).sl eI_len hy ti2 rfl rfl rfl ?_)
                refine wi_one 10 rfl rfl (by kernel_rfl) (listed' := #[true, true, true, true, true, true, true, true, true, true, true, false, false, false, false]) rfl trivial (ow_add rfl rfl (w64 (by omega)) ?_)
                refine wi_one 11 rfl rfl (by kernel_rfl) (listed' := #[true, true, true, true, true, true, true, true, true, true, true, true, false, false, false]) rfl trivial (ow_buildP pl79 ti79 rfl rfl ?_)
                refine wi_one 12 rfl rfl (by kernel_rfl) (listed' := #[true, true, true, true, true, true, true, true, true, true, true, true, true, false, false]) rfl trivial (ow_buildSlice el36 ti79 rfl rfl rfl rfl rfl ?_)
                intro g115 w117 eg115 oV bbg115 x116 zg115
                replace oV := Own.low oV X.size
                replace oO := oO.ext x116
                replace hs := hs.ext x116
                replace oL := oL.ext x116
                replace b111 := b111.ext x116
                replace X := gb_ext X x116; clear x116
                refine wi_one 13 rfl rfl (by kernel_rfl) (listed' := #[true, true, true, true, true, true, true, true, true, true, true, true, true, true, false]) rfl trivial (ow_append (ts := #[]) oO X.size oV.sl (by first | rfl | simp) (by first | exact List.all_eq_true.1 rfl | simp [Value.oneCell']) el36 ti79 rfl rfl rfl rfl (by omega) (by omega) ?_)
                intro AoN coN w119 oN hg118
                replace hs := hs.grown hg118 (fun g hg => Nat.le_trans Bhs (Own.lt oO hg).1)
                replace oL := oL.grown hg118 (Own.neO oL oO (by decide))
                replace b111 := b111.grown hg118 (fun h => Own.neT oO b111 (by decide) h.symm)
                replace X := gb_new X hg118 (fun g hg => (Own.lt oO hg).1)
                clear hg118
                refine wi_take 14 rfl (by kernel_rfl) rfl (by kernel_rfl) (listed' := #[true, true, true, true, true, true, true, true, true, true, true, true, true, true, true]) rfl (fun wq sq => ow_assign rfl ⟨rfl, rfl⟩) ?_
                refine wi_done rfl trivial (fun aj fj => ⟨_, fj, ?_⟩)
                refine bq_n ?_
                refine tq_n ?_
                refine c_region ?_
                refine ops_cons rfl (ow_move rfl ?_)
                refine ops_cons rfl (ow_sub rfl rfl (w64 (by omega)) ?_)
                refine ops_cons rfl (ow_assign rfl ?_)
                refine ops_nil ?_
                refine tq_n ⟨(t - 1, ys ++ [⟨rn, y, 1 + rs⟩], n1 + 1, AoN, coN), (.cons rfl (.cons rfl (.cons rfl (.cons rfl (.nil _))))), ?_, ?_⟩
                · exact ⟨(by omega), (by omega), (by simp [hn]), ⟨_, _, ok, b111⟩, oN.to (snoc Dem.cells ys ⟨rn, y, 1 + rs⟩).symm, hs, X⟩
                · first | omega | (dsimp only; omega)
              · skip
                refine (ow_add rfl rfl (w64 (by omega)) ?_)
                refine wi_one 7 rfl rfl (by kernel_rfl) (listed' := #[true, true, true, true, true, true, true, true, true, true, true, false, false, false, false]) rfl trivial (ow_loadT (oL).sl eI_len hy ti2 rfl rfl rfl ?_)
                refine wi_one 11 rfl rfl (by kernel_rfl) (listed' := #[true, true, true, true, true, true, true, true, true, true, true, true, false, false, false]) rfl trivial (ow_buildP pl79 ti79 rfl rfl ?_)
                refine wi_one 12 rfl rfl (by kernel_rfl) (listed' := #[true, true, true, true, true, true, true, true, true, true, true, true, true, false, false]) rfl trivial (ow_buildSlice el36 ti79 rfl rfl rfl rfl rfl ?_)
                intro g120 w122 eg120 oV bbg120 x121 zg120
                replace oV := Own.low oV X.size
                replace oO := oO.ext x121
                replace hs := hs.ext x121
                replace oL := oL.ext x121
                replace b111 := b111.ext x121
                replace X := gb_ext X x121; clear x121
                refine wi_one 13 rfl rfl (by kernel_rfl) (listed' := #[true, true, true, true, true, true, true, true, true, true, true, true, true, true, false]) rfl trivial (ow_append (ts := #[]) oO X.size oV.sl (by first | rfl | simp) (by first | exact List.all_eq_true.1 rfl | simp [Value.oneCell']) el36 ti79 rfl rfl rfl rfl (by omega) (by omega) ?_)
                intro AoN coN w124 oN hg123
                replace hs := hs.grown hg123 (fun g hg => Nat.le_trans Bhs (Own.lt oO hg).1)
                replace oL := oL.grown hg123 (Own.neO oL oO (by decide))
                replace b111 := b111.grown hg123 (fun h => Own.neT oO b111 (by decide) h.symm)
                replace X := gb_new X hg123 (fun g hg => (Own.lt oO hg).1)
                clear hg123
                refine wi_take 14 rfl (by kernel_rfl) rfl (by kernel_rfl) (listed' := #[true, true, true, true, true, true, true, true, true, true, true, true, true, true, true]) rfl (fun wq sq => ow_assign rfl ⟨rfl, rfl⟩) ?_
                refine wi_done rfl trivial (fun aj fj => ⟨_, fj, ?_⟩)
                refine bq_n ?_
                refine tq_n ?_
                refine c_region ?_
                refine ops_cons rfl (ow_move rfl ?_)
                refine ops_cons rfl (ow_sub rfl rfl (w64 (by omega)) ?_)
                refine ops_cons rfl (ow_assign rfl ?_)
                refine ops_nil ?_
                refine tq_n ⟨(t - 1, ys ++ [⟨rn, y, 1 + rs⟩], n1 + 1, AoN, coN), (.cons rfl (.cons rfl (.cons rfl (.cons rfl (.nil _))))), ?_, ?_⟩
                · exact ⟨(by omega), (by omega), (by simp [hn]), ⟨_, _, ok, b111⟩, oN.to (snoc Dem.cells ys ⟨rn, y, 1 + rs⟩).symm, hs, X⟩
                · first | omega | (dsimp only; omega)
            · skip
              refine (ow_add rfl rfl (w64 (by omega)) ?_)
              obtain ⟨y, hy⟩ : ∃ y, ([1, 2, 4, 8, 2, 4] : List Int)[rr.toNat]? = some y := ⟨_, List.getElem?_eq_getElem (by simp; omega)⟩
              refine wi_one 6 rfl rfl (by kernel_rfl) (listed' := #[true, true, true, true, true, true, true, false, true, true, true, false, false, false, false]) rfl trivial (ow_indexT (oL).sl eI_len rfl el24 rfl rfl rfl hy (by omega) ?_)
              refine wi_one 7 rfl rfl (by kernel_rfl) (listed' := #[true, true, true, true, true, true, true, true, true, true, true, false, false, false, false]) rfl trivial (ow_loadT (oL).sl eI_len hy ti2 rfl rfl rfl ?_)
              refine wi_one 11 rfl rfl (by kernel_rfl) (listed' := #[true, true, true, true, true, true, true, true, true, true, true, true, false, false, false]) rfl trivial (ow_buildP pl79 ti79 rfl rfl ?_)
              refine wi_one 12 rfl rfl (by kernel_rfl) (listed' := #[true, true, true, true, true, true, true, true, true, true, true, true, true, false, false]) rfl trivial (ow_buildSlice el36 ti79 rfl rfl rfl rfl rfl ?_)
              intro g125 w127 eg125 oV bbg125 x126 zg125
              replace oV := Own.low oV X.size
              replace oO := oO.ext x126
              replace hs := hs.ext x126
              replace oL := oL.ext x126
              replace b111 := b111.ext x126
              replace X := gb_ext X x126; clear x126
              refine wi_one 13 rfl rfl (by kernel_rfl) (listed' := #[true, true, true, true, true, true, true, true, true, true, true, true, true, true, false]) rfl trivial (ow_append (ts := #[]) oO X.size oV.sl (by first | rfl | simp) (by first | exact List.all_eq_true.1 rfl | simp [Value.oneCell']) el36 ti79 rfl rfl rfl rfl (by omega) (by omega) ?_)
              intro AoN coN w129 oN hg128
              replace hs := hs.grown hg128 (fun g hg => Nat.le_trans Bhs (Own.lt oO hg).1)
              replace oL := oL.grown hg128 (Own.neO oL oO (by decide))
              replace b111 := b111.grown hg128 (fun h => Own.neT oO b111 (by decide) h.symm)
              replace X := gb_new X hg128 (fun g hg => (Own.lt oO hg).1)
              clear hg128
              refine wi_take 14 rfl (by kernel_rfl) rfl (by kernel_rfl) (listed' := #[true, true, true, true, true, true, true, true, true, true, true, true, true, true, true]) rfl (fun wq sq => ow_assign rfl ⟨rfl, rfl⟩) ?_
              refine wi_done rfl trivial (fun aj fj => ⟨_, fj, ?_⟩)
              refine bq_n ?_
              refine tq_n ?_
              refine c_region ?_
              refine ops_cons rfl (ow_move rfl ?_)
              refine ops_cons rfl (ow_sub rfl rfl (w64 (by omega)) ?_)
              refine ops_cons rfl (ow_assign rfl ?_)
              refine ops_nil ?_
              refine tq_n ⟨(t - 1, ys ++ [⟨rn, y, 1 + rs⟩], n1 + 1, AoN, coN), (.cons rfl (.cons rfl (.cons rfl (.cons rfl (.nil _))))), ?_, ?_⟩
              · exact ⟨(by omega), (by omega), (by simp [hn]), ⟨_, _, ok, b111⟩, oN.to (snoc Dem.cells ys ⟨rn, y, 1 + rs⟩).symm, hs, X⟩
              · first | omega | (dsimp only; omega)
        · skip
          refine (ow_call ent70 rfl (ret_mono (l01Next_c _ _ _ _ _ _ _ _ _ b75 hs hB ok hbl (by omega)) ?_))
          rintro _ w131 ⟨rs, a133, sd134, rfl, hr135, ok, b132, x130⟩
          replace oO := oO.grownBlk x130 (Own.neT oO b75 (by decide))
          replace hs := hs.grown x130 (by intro g hg; injection hg; omega)
          replace X : w.grownBy w131 (some gS) := by first | exact gb_trans X x130 | exact gb_new X x130 (by intro g hg; injection hg; omega)
          clear x130 b75
          refine wi_two 3 10 rfl rfl rfl rfl (by kernel_rfl) (listed' := #[true, true, true, true, true, true, false, false, true, true, false, false, false, false, false]) (listed'' := #[true, true, true, false, true, true, false, false, true, true, true, false, false, false, false]) rfl rfl trivial ?_ ?_
          · skip
            refine (ow_buildSlice el24 ti2 rfl rfl rfl rfl rfl ?_)
            intro g136 w138 eg136 oL bbg136 x137 zg136
            replace oL := Own.low oL X.size
            replace oO := oO.ext x137
            replace hs := hs.ext x137
            replace b132 := b132.ext x137
            replace X := gb_ext X x137; clear x137
            replace oL := oL.to (cs' := ([1, 2, 4, 8, 2, 4] : List Int).flatMap eI) rfl
            refine wi_two 6 10 rfl rfl rfl rfl (by kernel_rfl) (listed' := #[true, true, true, true, true, true, true, false, true, true, false, false, false, false, false]) (listed'' := #[true, true, true, true, true, true, false, false, true, true, true, false, false, false, false]) rfl rfl trivial ?_ ?_
            · skip
              obtain ⟨y, hy⟩ : ∃ y, ([1, 2, 4, 8, 2, 4] : List Int)[rr.toNat]? = some y := ⟨_, List.getElem?_eq_getElem (by simp; omega)⟩
              refine (ow_indexT (oL).sl eI_len rfl el24 rfl rfl rfl hy (by omega) ?_)
              refine wi_two 7 10 rfl rfl rfl rfl (by kernel_rfl) (listed' := #[true, true, true, true, true, true, true, true, true, true, false, false, false, false, false]) (listed'' := #[true, true, true, true, true, true, true, false, true, true, true, false, false, false, false]) rfl rfl trivial ?_ ?_
              · skip
                refine (ow_loadT (oL).sl eI_len hy ti2 rfl rfl rfl ?_)
                refine wi_one 10 rfl rfl (by kernel_rfl) (listed' := #[true, true, true, true, true, true, true, true, true, true, true, false, false, false, false]) rfl trivial (ow_add rfl rfl (w64 (by omega)) ?_)
                refine wi_one 11 rfl rfl (by kernel_rfl) (listed' := #[true, true, true, true, true, true, true, true, true, true, true, true, false, false, false]) rfl trivial (ow_buildP pl79 ti79 rfl rfl ?_)
                refine wi_one 12 rfl rfl (by kernel_rfl) (listed' := #[true, true, true, true, true, true, true, true, true, true, true, true, true, false, false]) rfl trivial (ow_buildSlice el36 ti79 rfl rfl rfl rfl rfl ?_)
                intro g139 w141 eg139 oV bbg139 x140 zg139
                replace oV := Own.low oV X.size
                replace oO := oO.ext x140
                replace hs := hs.ext x140
                replace b132 := b132.ext x140
                replace oL := oL.ext x140
                replace X := gb_ext X x140; clear x140
                refine wi_one 13 rfl rfl (by kernel_rfl) (listed' := #[true, true, true, true, true, true, true, true, true, true, true, true, true, true, false]) rfl trivial (ow_append (ts := #[]) oO X.size oV.sl (by first | rfl | simp) (by first | exact List.all_eq_true.1 rfl | simp [Value.oneCell']) el36 ti79 rfl rfl rfl rfl (by omega) (by omega) ?_)
                intro AoN coN w143 oN hg142
                replace hs := hs.grown hg142 (fun g hg => Nat.le_trans Bhs (Own.lt oO hg).1)
                replace b132 := b132.grown hg142 (fun h => Own.neT oO b132 (by decide) h.symm)
                replace oL := oL.grown hg142 (Own.neO oL oO (by decide))
                replace X := gb_new X hg142 (fun g hg => (Own.lt oO hg).1)
                clear hg142
                refine wi_take 14 rfl (by kernel_rfl) rfl (by kernel_rfl) (listed' := #[true, true, true, true, true, true, true, true, true, true, true, true, true, true, true]) rfl (fun wq sq => ow_assign rfl ⟨rfl, rfl⟩) ?_
                refine wi_done rfl trivial (fun aj fj => ⟨_, fj, ?_⟩)
                refine bq_n ?_
                refine tq_n ?_
                refine c_region ?_
                refine ops_cons rfl (ow_move rfl ?_)
                refine ops_cons rfl (ow_sub rfl rfl (w64 (by omega)) ?_)
                refine ops_cons rfl (ow_assign rfl ?_)
                refine ops_nil ?_
                refine tq_n ⟨(t - 1, ys ++ [⟨rn, y, 1 + rs⟩], n1 + 1, AoN, coN), (.cons rfl (.cons rfl (.cons rfl (.cons rfl (.nil _))))), ?_, ?_⟩
                · exact ⟨(by omega), (by omega), (by simp [hn]), ⟨_, _, ok, b132⟩, oN.to (snoc Dem.cells ys ⟨rn, y, 1 + rs⟩).symm, hs, X⟩
                · first | omega | (dsimp only; omega)
              · skip
                refine (ow_add rfl rfl (w64 (by omega)) ?_)
                refine wi_one 7 rfl rfl (by kernel_rfl) (listed' := #[true, true, true, true, true, true, true, true, true, true, true, false, false, false, false]) rfl trivial (ow_loadT (oL).sl eI_len hy ti2 rfl rfl rfl ?_)
                refine wi_one 11 rfl rfl (by kernel_rfl) (listed' := #[true, true, true, true, true, true, true, true, true, true, true, true, false, false, false]) rfl trivial (ow_buildP pl79 ti79 rfl rfl ?_)
                refine wi_one 12 rfl rfl (by kernel_rfl) (listed' := #[true, true, true, true, true, true, true, true, true, true, true, true, true, false, false]) rfl trivial (ow_buildSlice el36 ti79 rfl rfl rfl rfl rfl ?_)
                intro g144 w146 eg144 oV bbg144 x145 zg144
                replace oV := Own.low oV X.size
                replace oO := oO.ext x145
                replace hs := hs.ext x145
                replace b132 := b132.ext x145
                replace oL := oL.ext x145
                replace X := gb_ext X x145; clear x145
                refine wi_one 13 rfl rfl (by kernel_rfl) (listed' := #[true, true, true, true, true, true, true, true, true, true, true, true, true, true, false]) rfl trivial (ow_append (ts := #[]) oO X.size oV.sl (by first | rfl | simp) (by first | exact List.all_eq_true.1 rfl | simp [Value.oneCell']) el36 ti79 rfl rfl rfl rfl (by omega) (by omega) ?_)
                intro AoN coN w148 oN hg147
                replace hs := hs.grown hg147 (fun g hg => Nat.le_trans Bhs (Own.lt oO hg).1)
                replace b132 := b132.grown hg147 (fun h => Own.neT oO b132 (by decide) h.symm)
                replace oL := oL.grown hg147 (Own.neO oL oO (by decide))
                replace X := gb_new X hg147 (fun g hg => (Own.lt oO hg).1)
                clear hg147
                refine wi_take 14 rfl (by kernel_rfl) rfl (by kernel_rfl) (listed' := #[true, true, true, true, true, true, true, true, true, true, true, true, true, true, true]) rfl (fun wq sq => ow_assign rfl ⟨rfl, rfl⟩) ?_
                refine wi_done rfl trivial (fun aj fj => ⟨_, fj, ?_⟩)
                refine bq_n ?_
                refine tq_n ?_
                refine c_region ?_
                refine ops_cons rfl (ow_move rfl ?_)
                refine ops_cons rfl (ow_sub rfl rfl (w64 (by omega)) ?_)
                refine ops_cons rfl (ow_assign rfl ?_)
                refine ops_nil ?_
                refine tq_n ⟨(t - 1, ys ++ [⟨rn, y, 1 + rs⟩], n1 + 1, AoN, coN), (.cons rfl (.cons rfl (.cons rfl (.cons rfl (.nil _))))), ?_, ?_⟩
                · exact ⟨(by omega), (by omega), (by simp [hn]), ⟨_, _, ok, b132⟩, oN.to (snoc Dem.cells ys ⟨rn, y, 1 + rs⟩).symm, hs, X⟩
                · first | omega | (dsimp only; omega)
            · skip
              refine (ow_add rfl rfl (w64 (by omega)) ?_)
              obtain ⟨y, hy⟩ : ∃ y, ([1, 2, 4, 8, 2, 4] : List Int)[rr.toNat]? = some y := ⟨_, List.getElem?_eq_getElem (by simp; omega)⟩
              refine wi_one 6 rfl rfl (by kernel_rfl) (listed' := #[true, true, true, true, true, true, true, false, true, true, true, false, false, false, false]) rfl trivial (ow_indexT (oL).sl eI_len rfl el24 rfl rfl rfl hy (by omega) ?_)
              refine wi_one 7 rfl rfl (by kernel_rfl) (listed' := #[true, true, true, true, true, true, true, true, true, true, true, false, false, false, false]) rfl trivial (ow_loadT (oL).sl eI_len hy ti2 rfl rfl rfl ?_)
              refine wi_one 11 rfl rfl (by kernel_rfl) (listed' := #[true, true, true, true, true, true, true, true, true, true, true, true, false, false, false]) rfl trivial (ow_buildP pl79 ti79 rfl rfl ?_)
              refine wi_one 12 rfl rfl (by kernel_rfl) (listed' := #[true, true, true, true, true, true, true, true, true, true, true, true, true, false, false]) rfl trivial (ow_buildSlice el36 ti79 rfl rfl rfl rfl rfl ?_)
              intro g149 w151 eg149 oV bbg149 x150 zg149
              replace oV := Own.low oV X.size
              replace oO := oO.ext x150
              replace hs := hs.ext x150
              replace b132 := b132.ext x150
              replace oL := oL.ext x150
              replace X := gb_ext X x150; clear x150
              refine wi_one 13 rfl rfl (by kernel_rfl) (listed' := #[true, true, true, true, true, true, true, true, true, true, true, true, true, true, false]) rfl trivial (ow_append (ts := #[]) oO X.size oV.sl (by first | rfl | simp) (by first | exact List.all_eq_true.1 rfl | simp [Value.oneCell']) el36 ti79 rfl rfl rfl rfl (by omega) (by omega) ?_)
              intro AoN coN w153 oN hg152
              replace hs := hs.grown hg152 (fun g hg => Nat.le_trans Bhs (Own.lt oO hg).1)
              replace b132 := b132.grown hg152 (fun h => Own.neT oO b132 (by decide) h.symm)
              replace oL := oL.grown hg152 (Own.neO oL oO (by decide))
              replace X := gb_new X hg152 (fun g hg => (Own.lt oO hg).1)
              clear hg152
              refine wi_take 14 rfl (by kernel_rfl) rfl (by kernel_rfl) (listed' := #[true, true, true, true, true, true, true, true, true, true, true, true, true, true, true]) rfl (fun wq sq => ow_assign rfl ⟨rfl, rfl⟩) ?_
              refine wi_done rfl trivial (fun aj fj => ⟨_, fj, ?_⟩)
              refine bq_n ?_
              refine tq_n ?_
              refine c_region ?_
              refine ops_cons rfl (ow_move rfl ?_)
              refine ops_cons rfl (ow_sub rfl rfl (w64 (by omega)) ?_)
              refine ops_cons rfl (ow_assign rfl ?_)
              refine ops_nil ?_
              refine tq_n ⟨(t - 1, ys ++ [⟨rn, y, 1 + rs⟩], n1 + 1, AoN, coN), (.cons rfl (.cons rfl (.cons rfl (.cons rfl (.nil _))))), ?_, ?_⟩
              · exact ⟨(by omega), (by omega), (by simp [hn]), ⟨_, _, ok, b132⟩, oN.to (snoc Dem.cells ys ⟨rn, y, 1 + rs⟩).symm, hs, X⟩
              · first | omega | (dsimp only; omega)
          · skip
            refine (ow_add rfl rfl (w64 (by omega)) ?_)
            refine wi_one 3 rfl rfl (by kernel_rfl) (listed' := #[true, true, true, true, true, true, false, false, true, true, true, false, false, false, false]) rfl trivial (ow_buildSlice el24 ti2 rfl rfl rfl rfl rfl ?_)
            intro g154 w156 eg154 oL bbg154 x155 zg154
            replace oL := Own.low oL X.size
            replace oO := oO.ext x155
            replace hs := hs.ext x155
            replace b132 := b132.ext x155
            replace X := gb_ext X x155; clear x155
            replace oL := oL.to (cs' := ([1, 2, 4, 8, 2, 4] : List Int).flatMap eI) rfl
            obtain ⟨y, hy⟩ : ∃ y, ([1, 2, 4, 8, 2, 4] : List Int)[rr.toNat]? = some y := ⟨_, List.getElem?_eq_getElem (by simp; omega)⟩
            refine wi_one 6 rfl rfl (by kernel_rfl) (listed' := #[true, true, true, true, true, true, true, false, true, true, true, false, false, false, false]) rfl trivial (ow_indexT (oL).sl eI_len rfl el24 rfl rfl rfl hy (by omega) ?_)
            refine wi_one 7 rfl rfl (by kernel_rfl) (listed' := #[true, true, true, true, true, true, true, true, true, true, true, false, false, false, false]) rfl trivial (ow_loadT (oL).sl eI_len hy ti2 rfl rfl rfl ?_)
            refine wi_one 11 rfl rfl (by kernel_rfl) (listed' := #[true, true, true, true, true, true, true, true, true, true, true, true, false, false, false]) rfl trivial (ow_buildP pl79 ti79 rfl rfl ?_)
            refine wi_one 12 rfl rfl (by kernel_rfl) (listed' := #[true, true, true, true, true, true, true, true, true, true, true, true, true, false, false]) rfl trivial (ow_buildSlice el36 ti79 rfl rfl rfl rfl rfl ?_)
            intro g157 w159 eg157 oV bbg157 x158 zg157
            replace oV := Own.low oV X.size
            replace oO := oO.ext x158
            replace hs := hs.ext x158
            replace b132 := b132.ext x158
            replace oL := oL.ext x158
            replace X := gb_ext X x158; clear x158
            refine wi_one 13 rfl rfl (by kernel_rfl) (listed' := #[true, true, true, true, true, true, true, true, true, true, true, true, true, true, false]) rfl trivial (ow_append (ts := #[]) oO X.size oV.sl (by first | rfl | simp) (by first | exact List.all_eq_true.1 rfl | simp [Value.oneCell']) el36 ti79 rfl rfl rfl rfl (by omega) (by omega) ?_)
            intro AoN coN w161 oN hg160
            replace hs := hs.grown hg160 (fun g hg => Nat.le_trans Bhs (Own.lt oO hg).1)
            replace b132 := b132.grown hg160 (fun h => Own.neT oO b132 (by decide) h.symm)
            replace oL := oL.grown hg160 (Own.neO oL oO (by decide))
            replace X := gb_new X hg160 (fun g hg => (Own.lt oO hg).1)
            clear hg160
            refine wi_take 14 rfl (by kernel_rfl) rfl (by kernel_rfl) (listed' := #[true, true, true, true, true, true, true, true, true, true, true, true, true, true, true]) rfl (fun wq sq => ow_assign rfl ⟨rfl, rfl⟩) ?_
            refine wi_done rfl trivial (fun aj fj => ⟨_, fj, ?_⟩)
            refine bq_n ?_
            refine tq_n ?_
            refine c_region ?_
            refine ops_cons rfl (ow_move rfl ?_)
            refine ops_cons rfl (ow_sub rfl rfl (w64 (by omega)) ?_)
            refine ops_cons rfl (ow_assign rfl ?_)
            refine ops_nil ?_
            refine tq_n ⟨(t - 1, ys ++ [⟨rn, y, 1 + rs⟩], n1 + 1, AoN, coN), (.cons rfl (.cons rfl (.cons rfl (.cons rfl (.nil _))))), ?_, ?_⟩
            · exact ⟨(by omega), (by omega), (by simp [hn]), ⟨_, _, ok, b132⟩, oN.to (snoc Dem.cells ys ⟨rn, y, 1 + rs⟩).symm, hs, X⟩
            · first | omega | (dsimp only; omega)
    · skip
      refine (ow_buildSlice el24 ti2 rfl rfl rfl rfl rfl ?_)
      intro g162 w164 eg162 oL bbg162 x163 zg162
      replace oL := Own.low oL X.size
      replace oO := oO.ext x163
      replace hs := hs.ext x163
      replace q := q.ext x163
      replace X := gb_ext X x163; clear x163
      replace oL := oL.to (cs' := ([1, 2, 4, 8, 2, 4] : List Int).flatMap eI) rfl
      refine wi_one 2 rfl rfl (by kernel_rfl) (listed' := #[true, true, true, true, true, false, false, false, true, false, false, false, false, false, false]) rfl trivial (ow_call ent70 rfl (ret_mono (l01Next_c _ _ _ _ _ _ _ _ _ q hs hB ok hbl (by omega)) ?_))
      rintro _ w166 ⟨rn, a168, sd169, rfl, hr170, ok, b167, x165⟩
      replace oO := oO.grownBlk x165 (Own.neT oO q (by decide))
      replace hs := hs.grown x165 (by intro g hg; injection hg; omega)
      replace oL := oL.grownBlk x165 (Own.neT oL q (by decide))
      replace X : w.grownBy w166 (some gS) := by first | exact gb_trans X x165 | exact gb_new X x165 (by intro g hg; injection hg; omega)
      clear x165 q
      refine wi_one 5 rfl rfl (by kernel_rfl) (listed' := #[true, true, true, true, true, true, false, false, true, false, false, false, false, false, false]) rfl trivial (ow_call ent70 rfl (ret_mono (l01Next_c _ _ _ _ _ _ _ _ _ b167 hs hB ok hbl (by omega)) ?_))
      rintro _ w172 ⟨rr, a174, sd175, rfl, hr176, ok, b173, x171⟩
      replace oO := oO.grownBlk x171 (Own.neT oO b167 (by decide))
      replace hs := hs.grown x171 (by intro g hg; injection hg; omega)
      replace oL := oL.grownBlk x171 (Own.neT oL b167 (by decide))
      replace X : w.grownBy w172 (some gS) := by first | exact gb_trans X x171 | exact gb_new X x171 (by intro g hg; injection hg; omega)
      clear x171 b167
      refine wi_two 6 9 rfl rfl rfl rfl (by kernel_rfl) (listed' := #[true, true, true, true, true, true, true, false, true, false, false, false, false, false, false]) (listed'' := #[true, true, true, true, true, true, false, false, true, true, false, false, false, false, false]) rfl rfl trivial ?_ ?_
      · skip
        obtain ⟨y, hy⟩ : ∃ y, ([1, 2, 4, 8, 2, 4] : List Int)[rr.toNat]? = some y := ⟨_, List.getElem?_eq_getElem (by simp; omega)⟩
        refine (ow_indexT (oL).sl eI_len rfl el24 rfl rfl rfl hy (by omega) ?_)
        refine wi_two 7 9 rfl rfl rfl rfl (by kernel_rfl) (listed' := #[true, true, true, true, true, true, true, true, true, false, false, false, false, false, false]) (listed'' := #[true, true, true, true, true, true, true, false, true, true, false, false, false, false, false]) rfl rfl trivial ?_ ?_
        · skip
          refine (ow_loadT (oL).sl eI_len hy ti2 rfl rfl rfl ?_)
          refine wi_one 9 rfl rfl (by kernel_rfl) (listed' := #[true, true, true, true, true, true, true, true, true, true, false, false, false, false, false]) rfl trivial (ow_call ent70 rfl (ret_mono (l01Next_c _ _ _ _ _ _ _ _ _ b173 hs hB ok hbl (by omega)) ?_))
          rintro _ w178 ⟨rs, a180, sd181, rfl, hr182, ok, b179, x177⟩
          replace oO := oO.grownBlk x177 (Own.neT oO b173 (by decide))
          replace hs := hs.grown x177 (by intro g hg; injection hg; omega)
          replace oL := oL.grownBlk x177 (Own.neT oL b173 (by decide))
          replace X : w.grownBy w178 (some gS) := by first | exact gb_trans X x177 | exact gb_new X x177 (by intro g hg; injection hg; omega)
          clear x177 b173
          refine wi_one 10 rfl rfl (by kernel_rfl) (listed' := #[true, true, true, true, true, true, true, true, true, true, true, false, false, false, false]) rfl trivial (ow_add rfl rfl (w64 (by omega)) ?_)
          refine wi_one 11 rfl rfl (by kernel_rfl) (listed' := #[true, true, true, true, true, true, true, true, true, true, true, true, false, false, false]) rfl trivial (ow_buildP pl79 ti79 rfl rfl ?_)
          refine wi_one 12 rfl rfl (by kernel_rfl) (listed' := #[true, true, true, true, true, true, true, true, true, true, true, true, true, false, false]) rfl trivial (ow_buildSlice el36 ti79 rfl rfl rfl rfl rfl ?_)
          intro g183 w185 eg183 oV bbg183 x184 zg183
          replace oV := Own.low oV X.size
          replace oO := oO.ext x184
          replace hs := hs.ext x184
          replace oL := oL.ext x184
          replace b179 := b179.ext x184
          replace X := gb_ext X x184; clear x184
          refine wi_one 13 rfl rfl (by kernel_rfl) (listed' := #[true, true, true, true, true, true, true, true, true, true, true, true, true, true, false]) rfl trivial (ow_append (ts := #[]) oO X.size oV.sl (by first | rfl | simp) (by first | exact List.all_eq_true.1 rfl | simp [Value.oneCell']) el36 ti79 rfl rfl rfl rfl (by omega) (by omega) ?_)
          intro AoN coN w187 oN hg186
          replace hs := hs.grown hg186 (fun g hg => Nat.le_trans Bhs (Own.lt oO hg).1)
          replace oL := oL.grown hg186 (Own.neO oL oO (by decide))
          replace b179 := b179.grown hg186 (fun h => Own.neT oO b179 (by decide) h.symm)
          replace X := gb_new X hg186 (fun g hg => (Own.lt oO hg).1)
          clear hg186
          refine wi_take 14 rfl (by kernel_rfl) rfl (by kernel_rfl) (listed' := #[true, true, true, true, true, true, true, true, true, true, true, true, true, true, true]) rfl (fun wq sq => ow_assign rfl ⟨rfl, rfl⟩) ?_
          refine wi_done rfl trivial (fun aj fj => ⟨_, fj, ?_⟩)
          refine bq_n ?_
          refine tq_n ?_
          refine c_region ?_
          refine ops_cons rfl (ow_move rfl ?_)
          refine ops_cons rfl (ow_sub rfl rfl (w64 (by omega)) ?_)
          refine ops_cons rfl (ow_assign rfl ?_)
          refine ops_nil ?_
          refine tq_n ⟨(t - 1, ys ++ [⟨rn, y, 1 + rs⟩], n1 + 1, AoN, coN), (.cons rfl (.cons rfl (.cons rfl (.cons rfl (.nil _))))), ?_, ?_⟩
          · exact ⟨(by omega), (by omega), (by simp [hn]), ⟨_, _, ok, b179⟩, oN.to (snoc Dem.cells ys ⟨rn, y, 1 + rs⟩).symm, hs, X⟩
          · first | omega | (dsimp only; omega)
        · skip
          refine (ow_call ent70 rfl (ret_mono (l01Next_c _ _ _ _ _ _ _ _ _ b173 hs hB ok hbl (by omega)) ?_))
          rintro _ w189 ⟨rs, a191, sd192, rfl, hr193, ok, b190, x188⟩
          replace oO := oO.grownBlk x188 (Own.neT oO b173 (by decide))
          replace hs := hs.grown x188 (by intro g hg; injection hg; omega)
          replace oL := oL.grownBlk x188 (Own.neT oL b173 (by decide))
          replace X : w.grownBy w189 (some gS) := by first | exact gb_trans X x188 | exact gb_new X x188 (by intro g hg; injection hg; omega)
          clear x188 b173
          refine wi_two 7 10 rfl rfl rfl rfl (by kernel_rfl) (listed' := #[true, true, true, true, true, true, true, true, true, true, false, false, false, false, false]) (listed'' := #[true, true, true, true, true, true, true, false, true, true, true, false, false, false, false]) rfl rfl trivial ?_ ?_
          · skip
            refine (ow_loadT (oL).sl eI_len hy ti2 rfl rfl rfl ?_)
            refine wi_one 10 rfl rfl (by kernel_rfl) (listed' := #[true, true, true, true, true, true, true, true, true, true, true, false, false, false, false]) rfl trivial (ow_add rfl rfl (w64 (by omega)) ?_)
            refine wi_one 11 rfl rfl (by kernel_rfl) (listed' := #[true, true, true, true, true, true, true, true, true, true, true, true, false, false, false]) rfl trivial (ow_buildP pl79 ti79 rfl rfl ?_)
            refine wi_one 12 rfl rfl (by kernel_rfl) (listed' := #[true, true, true, true, true, true, true, true, true, true, true, true, true, false, false]) rfl trivial (ow_buildSlice el36 ti79 rfl rfl rfl rfl rfl ?_)
            intro g194 w196 eg194 oV bbg194 x195 zg194
            replace oV := Own.low oV X.size
            replace oO := oO.ext x195
            replace hs := hs.ext x195
            replace oL := oL.ext x195
            replace b190 := b190.ext x195
            replace X := gb_ext X x195; clear x195
            refine wi_one 13 rfl rfl (by kernel_rfl) (listed' := #[true, true, true, true, true, true, true, true, true, true, true, true, true, true, false]) rfl trivial (ow_append (ts := #[]) oO X.size oV.sl (by first | rfl | simp) (by first | exact List.all_eq_true.1 rfl | simp [Value.oneCell']) el36 ti79 rfl rfl rfl rfl (by omega) (by omega) ?_)
            intro AoN coN w198 oN hg197
            replace hs := hs.grown hg197 (fun g hg => Nat.le_trans Bhs (Own.lt oO hg).1)
            replace oL := oL.grown hg197 (Own.neO oL oO (by decide))
            replace b190 := b190.grown hg197 (fun h => Own.neT oO b190 (by decide) h.symm)
            replace X := gb_new X hg197 (fun g hg => (Own.lt oO hg).1)
            clear hg197
            refine wi_take 14 rfl (by kernel_rfl) rfl (by kernel_rfl) (listed' := #[true, true, true, true, true, true, true, true, true, true, true, true, true, true, true]) rfl (fun wq sq => ow_assign rfl ⟨rfl, rfl⟩) ?_
            refine wi_done rfl trivial (fun aj fj => ⟨_, fj, ?_⟩)
            refine bq_n ?_
            refine tq_n ?_
            refine c_region ?_
            refine ops_cons rfl (ow_move rfl ?_)
            refine ops_cons rfl (ow_sub rfl rfl (w64 (by omega)) ?_)
            refine ops_cons rfl (ow_assign rfl ?_)
            refine ops_nil ?_
            refine tq_n ⟨(t - 1, ys ++ [⟨rn, y, 1 + rs⟩], n1 + 1, AoN, coN), (.cons rfl (.cons rfl (.cons rfl (.cons rfl (.nil _))))), ?_, ?_⟩
            · exact ⟨(by omega), (by omega), (by simp [hn]), ⟨_, _, ok, b190⟩, oN.to (snoc Dem.cells ys ⟨rn, y, 1 + rs⟩).symm, hs, X⟩
            · first | omega | (dsimp only; omega)
          · skip
            refine (ow_add rfl rfl (w64 (by omega)) ?_)
            refine wi_one 7 rfl rfl (by kernel_rfl) (listed' := #[true, true, true, true, true, true, true, true, true, true, true, false, false, false, false]) rfl trivial (ow_loadT (oL).sl eI_len hy ti2 rfl rfl rfl ?_)
            refine wi_one 11 rfl rfl (by kernel_rfl) (listed' := #[true, true, true, true, true, true, true, true, true, true, true, true, false, false, false]) rfl trivial (ow_buildP pl79 ti79 rfl rfl ?_)
            refine wi_one 12 rfl rfl (by kernel_rfl) (listed' := #[true, true, true, true, true, true, true, true, true, true, true, true, true, false, false]) rfl trivial (ow_buildSlice el36 ti79 rfl rfl rfl rfl rfl ?_)
            intro g199 w201 eg199 oV bbg199 x200 zg199
            replace oV := Own.low oV X.size
            replace oO := oO.ext x200
            replace hs := hs.ext x200
            replace oL := oL.ext x200
            replace b190 := b190.ext x200
            replace X := gb_ext X x200; clear x200
            refine wi_one 13 rfl rfl (by kernel_rfl) (listed' := #[true, true, true, true, true, true, true, true, true, true, true, true, true, true, false]) rfl trivial (ow_append (ts := #[]) oO X.size oV.sl (by first | rfl | simp) (by first | exact List.all_eq_true.1 rfl | simp [Value.oneCell']) el36 ti79 rfl rfl rfl rfl (by omega) (by omega) ?_)
            intro AoN coN w203 oN hg202
            replace hs := hs.grown hg202 (fun g hg => Nat.le_trans Bhs (Own.lt oO hg).1)
            replace oL := oL.grown hg202 (Own.neO oL oO (by decide))
            replace b190 := b190.grown hg202 (fun h => Own.neT oO b190 (by decide) h.symm)
            replace X := gb_new X hg202 (fun g hg => (Own.lt oO hg).1)
            clear hg202
            refine wi_take 14 rfl (by kernel_rfl) rfl (by kernel_rfl) (listed' := #[true, true, true, true, true, true, true, true, true, true, true, true, true, true, true]) rfl (fun wq sq => ow_assign rfl ⟨rfl, rfl⟩) ?_
            refine wi_done rfl trivial (fun aj fj => ⟨_, fj, ?_⟩)
            refine bq_n ?_
            refine tq_n ?_
            refine c_region ?_
            refine ops_cons rfl (ow_move rfl ?_)
            refine ops_cons rfl (ow_sub rfl rfl (w64 (by omega)) ?_)
            refine ops_cons rfl (ow_assign rfl ?_)
            refine ops_nil ?_
            refine tq_n ⟨(t - 1, ys ++ [⟨rn, y, 1 + rs⟩], n1 + 1, AoN, coN), (.cons rfl (.cons rfl (.cons rfl (.cons rfl (.nil _))))), ?_, ?_⟩
            · exact ⟨(by omega), (by omega), (by simp [hn]), ⟨_, _, ok, b190⟩, oN.to (snoc Dem.cells ys ⟨rn, y, 1 + rs⟩).symm, hs, X⟩
            · first | omega | (dsimp only; omega)
      · skip
        refine (ow_call ent70 rfl (ret_mono (l01Next_c _ _ _ _ _ _ _ _ _ b173 hs hB ok hbl (by omega)) ?_))
        rintro _ w205 ⟨rs, a207, sd208, rfl, hr209, ok, b206, x204⟩
        replace oO := oO.grownBlk x204 (Own.neT oO b173 (by decide))
        replace hs := hs.grown x204 (by intro g hg; injection hg; omega)
        replace oL := oL.grownBlk x204 (Own.neT oL b173 (by decide))
        replace X : w.grownBy w205 (some gS) := by first | exact gb_trans X x204 | exact gb_new X x204 (by intro g hg; injection hg; omega)
        clear x204 b173
        refine wi_two 6 10 rfl rfl rfl rfl (by kernel_rfl) (listed' := #[true, true, true, true, true, true, true, false, true, true, false, false, false, false, false]) (listed'' := #[true, true, true, true, true, true, false, false, true, true, true, false, false, false, false]) rfl rfl trivial ?_ ?_
        · skip
          obtain ⟨y, hy⟩ : ∃ y, ([1, 2, 4, 8, 2, 4] : List Int)[rr.toNat]? = some y := ⟨_, List.getElem?_eq_getElem (by simp; omega)⟩
          refine (ow_indexT (oL).sl eI_len rfl el24 rfl rfl rfl hy (by omega) ?_)
          refine wi_two 7 10 rfl rfl rfl rfl (by kernel_rfl) (listed' := #[true, true, true, true, true, true, true, true, true, true, false, false, false, false, false]) (listed'' := #[true, true, true, true, true, true, true, false, true, true, true, false, false, false, false]) rfl rfl trivial ?_ ?_
          · skip
            refine (ow_loadT (oL).sl eI_len hy ti2 rfl rfl rfl ?_)
            refine wi_one 10 rfl rfl (by kernel_rfl) (listed' := #[true, true, true, true, true, true, true, true, true, true, true, false, false, false, false]) rfl trivial (ow_add rfl rfl (w64 (by omega)) ?_)
            refine wi_one 11 rfl rfl (by kernel_rfl) (listed' := #[true, true, true, true, true, true, true, true, true, true, true, true, false, false, false]) rfl trivial (ow_buildP pl79 ti79 rfl rfl ?_)
            refine wi_one 12 rfl rfl (by kernel_rfl) (listed' := #[true, true, true, true, true, true, true, true, true, true, true, true, true, false, false]) rfl trivial (ow_buildSlice el36 ti79 rfl rfl rfl rfl rfl ?_)
            intro g210 w212 eg210 oV bbg210 x211 zg210
            replace oV := Own.low oV X.size
            replace oO := oO.ext x211
            replace hs := hs.ext x211
            replace oL := oL.ext x211
            replace b206 := b206.ext x211
            replace X := gb_ext X x211; clear x211
            refine wi_one 13 rfl rfl (by kernel_rfl) (listed' := #[true, true, true, true, true, true, true, true, true, true, true, true, true, true, false]) rfl trivial (ow_append (ts := #[]) oO X.size oV.sl (by first | rfl | simp) (by first | exact List.all_eq_true.1 rfl | simp [Value.oneCell']) el36 ti79 rfl rfl rfl rfl (by omega) (by omega) ?_)
            intro AoN coN w214 oN hg213
            replace hs := hs.grown hg213 (fun g hg => Nat.le_trans Bhs (Own.lt oO hg).1)
            replace oL := oL.grown hg213 (Own.neO oL oO (by decide))
            replace b206 := b206.grown hg213 (fun h => Own.neT oO b206 (by decide) h.symm)
            replace X := gb_new X hg213 (fun g hg => (Own.lt oO hg).1)
            clear hg213
            refine wi_take 14 rfl (by kernel_rfl) rfl (by kernel_rfl) (listed' := #[true, true, true, true, true, true, true, true, true, true, true, true, true, true, true]) rfl (fun wq sq => ow_assign rfl ⟨rfl, rfl⟩) ?_
            refine wi_done rfl trivial (fun aj fj => ⟨_, fj, ?_⟩)
            refine bq_n ?_
            refine tq_n ?_
            refine c_region ?_
            refine ops_cons rfl (ow_move rfl ?_)
            refine ops_cons rfl (ow_sub rfl rfl (w64 (by omega)) ?_)
            refine ops_cons rfl (ow_assign rfl ?_)
            refine ops_nil ?_
            refine tq_n ⟨(t - 1, ys ++ [⟨rn, y, 1 + rs⟩], n1 + 1, AoN, coN), (.cons rfl (.cons rfl (.cons rfl (.cons rfl (.nil _))))), ?_, ?_⟩
            · exact ⟨(by omega), (by omega), (by simp [hn]), ⟨_, _, ok, b206⟩, oN.to (snoc Dem.cells ys ⟨rn, y, 1 + rs⟩).symm, hs, X⟩
            · first | omega | (dsimp only; omega)
          · skip
            refine (ow_add rfl rfl (w64 (by omega)) ?_)
            refine wi_one 7 rfl rfl (by kernel_rfl) (listed' := #[true, true, true, true, true, true, true, true, true, true, true, false, false, false, false]) rfl trivial (ow_loadT (oL).sl eI_len hy ti2 rfl rfl rfl ?_)
            refine wi_one 11 rfl rfl (by kernel_rfl) (listed' := #[true, true, true, true, true, true, true, true, true, true, true, true, false, false, false]) rfl trivial (ow_buildP pl79 ti79 rfl rfl ?_)
            refine wi_one 12 rfl rfl (by kernel_rfl) (listed' := #[true, true, true, true, true, true, true, true, true, true, true, true, true, false, false]) rfl trivial (ow_buildSlice el36 ti79 rfl rfl rfl rfl rfl ?_)
            intro g215 w217 eg215 oV bbg215 x216 zg215
            replace oV := Own.low oV X.size
            replace oO := oO.ext x216
            replace hs := hs.ext x216
            replace oL := oL.ext x216
            replace b206 := b206.ext x216
            replace X := gb_ext X x216; clear x216
            refine wi_one 13 rfl rfl (by kernel_rfl) (listed' := #[true, true, true, true, true, true, true, true, true, true, true, true, true, true, false]) rfl trivial (ow_append (ts := #[]) oO X.size oV.sl (by first | rfl | simp) (by first | exact List.all_eq_true.1 rfl | simp [Value.oneCell']) el36 ti79 rfl rfl rfl rfl (by omega) (by omega) ?_)
            intro AoN coN w219 oN hg218
            replace hs := hs.grown hg218 (fun g hg => Nat.le_trans Bhs (Own.lt oO hg).1)
            replace oL := oL.grown hg218 (Own.neO oL oO (by decide))
            replace b206 := b206.grown hg218 (fun h => Own.neT oO b206 (by decide) h.symm)
            replace X := gb_new X hg218 (fun g hg => (Own.lt oO hg).1)
            clear hg218
            refine wi_take 14 rfl (by kernel_rfl) rfl (by kernel_rfl) (listed' := #[true, true, true, true, true, true, true, true, true, true, true, true, true, true, true]) rfl (fun wq sq => ow_assign rfl ⟨rfl, rfl⟩) ?_
            refine wi_done rfl trivial (fun aj fj => ⟨_, fj, ?_⟩)
            refine bq_n ?_
            refine tq_n ?_
            refine c_region ?_
            refine ops_cons rfl (ow_move rfl ?_)
            refine ops_cons rfl (ow_sub rfl rfl (w64 (by omega)) ?_)
            refine ops_cons rfl (ow_assign rfl ?_)
            refine ops_nil ?_
            refine tq_n ⟨(t - 1, ys ++ [⟨rn, y, 1 + rs⟩], n1 + 1, AoN, coN), (.cons rfl (.cons rfl (.cons rfl (.cons rfl (.nil _))))), ?_, ?_⟩
            · exact ⟨(by omega), (by omega), (by simp [hn]), ⟨_, _, ok, b206⟩, oN.to (snoc Dem.cells ys ⟨rn, y, 1 + rs⟩).symm, hs, X⟩
            · first | omega | (dsimp only; omega)
        · skip
          refine (ow_add rfl rfl (w64 (by omega)) ?_)
          obtain ⟨y, hy⟩ : ∃ y, ([1, 2, 4, 8, 2, 4] : List Int)[rr.toNat]? = some y := ⟨_, List.getElem?_eq_getElem (by simp; omega)⟩
          refine wi_one 6 rfl rfl (by kernel_rfl) (listed' := #[true, true, true, true, true, true, true, false, true, true, true, false, false, false, false]) rfl trivial (ow_indexT (oL).sl eI_len rfl el24 rfl rfl rfl hy (by omega) ?_)
          refine wi_one 7 rfl rfl (by kernel_rfl) (listed' := #[true, true, true, true, true, true, true, true, true, true, true, false, false, false, false]) rfl trivial (ow_loadT (oL).sl eI_len hy ti2 rfl rfl rfl ?_)
          refine wi_one 11 rfl rfl (by kernel_rfl) (listed' := #[true, true, true, true, true, true, true, true, true, true, true, true, false, false, false]) rfl trivial (ow_buildP pl79 ti79 rfl rfl ?_)
          refine wi_one 12 rfl rfl (by kernel_rfl) (listed' := #[true, true, true, true, true, true, true, true, true, true, true, true, true, false, false]) rfl trivial (ow_buildSlice el36 ti79 rfl rfl rfl rfl rfl ?_)
          intro g220 w222 eg220 oV bbg220 x221 zg220
          replace oV := Own.low oV X.size
          replace oO := oO.ext x221
          replace hs := hs.ext x221
          replace oL := oL.ext x221
          replace b206 := b206.ext x221
          replace X := gb_ext X x221; clear x221
          refine wi_one 13 rfl rfl (by kernel_rfl) (listed' := #[true, true, true, true, true, true, true, true, true, true, true, true, true, true, false]) rfl trivial (ow_append (ts := #[]) oO X.size oV.sl (by first | rfl | simp) (by first | exact List.all_eq_true.1 rfl | simp [Value.oneCell']) el36 ti79 rfl rfl rfl rfl (by omega) (by omega) ?_)
          intro AoN coN w224 oN hg223
          replace hs := hs.grown hg223 (fun g hg => Nat.le_trans Bhs (Own.lt oO hg).1)
          replace oL := oL.grown hg223 (Own.neO oL oO (by decide))
          replace b206 := b206.grown hg223 (fun h => Own.neT oO b206 (by decide) h.symm)
          replace X := gb_new X hg223 (fun g hg => (Own.lt oO hg).1)
          clear hg223
          refine wi_take 14 rfl (by kernel_rfl) rfl (by kernel_rfl) (listed' := #[true, true, true, true, true, true, true, true, true, true, true, true, true, true, true]) rfl (fun wq sq => ow_assign rfl ⟨rfl, rfl⟩) ?_
          refine wi_done rfl trivial (fun aj fj => ⟨_, fj, ?_⟩)
          refine bq_n ?_
          refine tq_n ?_
          refine c_region ?_
          refine ops_cons rfl (ow_move rfl ?_)
          refine ops_cons rfl (ow_sub rfl rfl (w64 (by omega)) ?_)
          refine ops_cons rfl (ow_assign rfl ?_)
          refine ops_nil ?_
          refine tq_n ⟨(t - 1, ys ++ [⟨rn, y, 1 + rs⟩], n1 + 1, AoN, coN), (.cons rfl (.cons rfl (.cons rfl (.cons rfl (.nil _))))), ?_, ?_⟩
          · exact ⟨(by omega), (by omega), (by simp [hn]), ⟨_, _, ok, b206⟩, oN.to (snoc Dem.cells ys ⟨rn, y, 1 + rs⟩).symm, hs, X⟩
          · first | omega | (dsimp only; omega)
  · skip
    refine ops_nil ?_
    refine c_false rfl ?_
    refine c_exit ?_
    refine tq_e ?_
    refine tq_e ?_
    refine bq_e ?_
    refine tq_n ?_
    refine c_seq ?_
    refine c_seqR ?_
    refine ops_cons rfl (ow_move rfl ?_)
    refine ops_cons rfl (ow_len Try.underlying36 rfl ?_)
    refine ops_cons rfl (ow_gtr2 rfl rfl (fun h6 => ?_) (fun h6 => ?_))
    · skip
      refine ops_nil ?_
      refine c_true rfl ?_
      refine c_seqR ?_
      refine ops_cons rfl (ow_move rfl ?_)
      refine ops_cons rfl (ow_call ent70 rfl (ret_mono (l01Next_c _ _ _ _ _ _ _ _ _ q hs hB ok hbl (by omega)) ?_))
      rintro _ w226 ⟨r30, a228, sd229, rfl, hr230, ok, b227, x225⟩
      replace oO := oO.grownBlk x225 (Own.neT oO q (by decide))
      replace hs := hs.grown x225 (by intro g hg; injection hg; omega)
      replace X : w.grownBy w226 (some gS) := by first | exact gb_trans X x225 | exact gb_new X x225 (by intro g hg; injection hg; omega)
      clear x225 q
      refine ops_nil ?_
      refine c_block ?_
      refine c_seqR ?_
      refine ops_cons rfl (ow_eql2 rfl rfl (fun h231 => ?_) (fun h231 => ?_))
      · skip
        refine ops_cons rfl (ow_assign rfl ?_)
        refine ops_nil ?_
        refine c_true rfl ?_
        refine c_region ?_
        refine ops_cons rfl (ow_move rfl ?_)
        refine ops_cons rfl (ow_buildSlice el24 ti2 rfl rfl rfl rfl rfl ?_)
        intro g232 w234 eg232 oL bbg232 x233 zg232
        replace oL := Own.low oL X.size
        replace oO := oO.ext x233
        replace hs := hs.ext x233
        replace b227 := b227.ext x233
        replace X := gb_ext X x233; clear x233
        replace oL := oL.to (cs' := ([0, 3, 16] : List Int).flatMap eI) rfl
        refine ops_cons rfl (ow_move rfl ?_)
        refine ops_cons rfl (ow_call ent70 rfl (ret_mono (l01Next_c _ _ _ _ _ _ _ _ _ b227 hs hB ok hbl (by omega)) ?_))
        rintro _ w236 ⟨rr, a238, sd239, rfl, hr240, ok, b237, x235⟩
        replace oO := oO.grownBlk x235 (Own.neT oO b227 (by decide))
        replace hs := hs.grown x235 (by intro g hg; injection hg; omega)
        replace oL := oL.grownBlk x235 (Own.neT oL b227 (by decide))
        replace X : w.grownBy w236 (some gS) := by first | exact gb_trans X x235 | exact gb_new X x235 (by intro g hg; injection hg; omega)
        clear x235 b227
        obtain ⟨y, hy⟩ : ∃ y, ([0, 3, 16] : List Int)[rr.toNat]? = some y := ⟨_, List.getElem?_eq_getElem (by simp; omega)⟩
        refine ops_cons rfl (ow_indexT (oL).sl eI_len rfl el24 rfl rfl rfl hy (by omega) ?_)
        refine ops_cons rfl (ow_loadT (oL).sl eI_len hy ti2 rfl rfl rfl ?_)
        obtain ⟨x, hx⟩ : ∃ x, ys[0]? = some x := ⟨_, List.getElem?_eq_getElem (by omega)⟩
        refine ops_cons rfl (ow_indexT (oO).sl Dem.len rfl el36 rfl hn rfl hx rfl ?_)
        refine ops_cons rfl (ow_fieldAddr off79_1 rfl ?_)
        refine ops_cons rfl (ow_storeRF oO ti2 rfl rfl rfl rfl (by omega) (by omega) rfl ?_)
        intro w242 oU hg241 z243
        replace hs := hs.grown hg241 (fun g hg => Nat.le_trans Bhs (Own.lt oO hg).1)
        replace oL := oL.grown hg241 (Own.neO oL oO (by decide))
        replace b237 := b237.grown hg241 (fun h => Own.neT oO b237 (by decide) h.symm)
        replace X : w.grownBy w242 (some gS) := by first | exact gb_trans X hg241 | exact gb_new X hg241 (fun g hg => (Own.lt oO hg).1)
        clear hg241 z243
        obtain ⟨zs, hzl, oR⟩ : ∃ zs : List Dem, zs.length = ys.length ∧ Own _ w.heap.size 79 3 A1 n1 c1 (zs.flatMap Dem.cells) := ⟨ys.set 0 ⟨x.node, y, x.size⟩, List.length_set .., oU.to (set_field (x := x) (x' := ⟨x.node, y, x.size⟩) (vs := [.int .i64 y]) Dem.len (f := 1) rfl (by omega) ys 0 hx)⟩
        refine ops_nil ?_
        refine bq_n ?_
        refine tq_n ?_
        refine c_seqR ?_
        refine ops_cons rfl (ow_move rfl ?_)
        refine ops_cons rfl (ow_assign rfl ?_)
        refine ops_nil ?_
        refine c_ret ?_
        refine fin_ret1 rfl rfl ?_
        first
        | (subst hn; exact ⟨_, _, zs, _, _, by rw [hzl], by omega, by rw [hzl]; exact oR, ok, b237, X⟩)
        | (subst hn; exact ⟨A1, c1, ys, _, _, rfl, by omega, oO, ok, b237, X⟩)
      · skip
        refine ops_cons rfl (ow_assign rfl ?_)
        refine ops_nil ?_
        refine c_false rfl ?_
        refine c_seqR ?_
        refine ops_cons rfl (ow_eql2 rfl rfl (fun h244 => ?_) (fun h244 => ?_))
        · skip
          refine ops_cons rfl (ow_assign rfl ?_)
          refine ops_nil ?_
          refine c_true rfl ?_
          refine c_region ?_
          refine ops_cons rfl (ow_move rfl ?_)
          refine ops_cons rfl (ow_buildSlice el24 ti2 rfl rfl rfl rfl rfl ?_)
          intro g245 w247 eg245 oL bbg245 x246 zg245
          replace oL := Own.low oL X.size
          replace oO := oO.ext x246
          replace hs := hs.ext x246
          replace b227 := b227.ext x246
          replace X := gb_ext X x246; clear x246
          replace oL := oL.to (cs' := ([0, 32, 33] : List Int).flatMap eI) rfl
          refine ops_cons rfl (ow_move rfl ?_)
          refine ops_cons rfl (ow_call ent70 rfl (ret_mono (l01Next_c _ _ _ _ _ _ _ _ _ b227 hs hB ok hbl (by omega)) ?_))
          rintro _ w249 ⟨rr, a251, sd252, rfl, hr253, ok, b250, x248⟩
          replace oO := oO.grownBlk x248 (Own.neT oO b227 (by decide))
          replace hs := hs.grown x248 (by intro g hg; injection hg; omega)
          replace oL := oL.grownBlk x248 (Own.neT oL b227 (by decide))
          replace X : w.grownBy w249 (some gS) := by first | exact gb_trans X x248 | exact gb_new X x248 (by intro g hg; injection hg; omega)
          clear x248 b227
          obtain ⟨y, hy⟩ : ∃ y, ([0, 32, 33] : List Int)[rr.toNat]? = some y := ⟨_, List.getElem?_eq_getElem (by simp; omega)⟩
          refine ops_cons rfl (ow_indexT (oL).sl eI_len rfl el24 rfl rfl rfl hy (by omega) ?_)
          refine ops_cons rfl (ow_loadT (oL).sl eI_len hy ti2 rfl rfl rfl ?_)
          obtain ⟨x, hx⟩ : ∃ x, ys[0]? = some x := ⟨_, List.getElem?_eq_getElem (by omega)⟩
          refine ops_cons rfl (ow_indexT (oO).sl Dem.len rfl el36 rfl hn rfl hx rfl ?_)
          refine ops_cons rfl (ow_fieldAddr off79_2 rfl ?_)
          refine ops_cons rfl (ow_storeRF oO ti2 rfl rfl rfl rfl (by omega) (by omega) rfl ?_)
          intro w255 oU hg254 z256
          replace hs := hs.grown hg254 (fun g hg => Nat.le_trans Bhs (Own.lt oO hg).1)
          replace oL := oL.grown hg254 (Own.neO oL oO (by decide))
          replace b250 := b250.grown hg254 (fun h => Own.neT oO b250 (by decide) h.symm)
          replace X : w.grownBy w255 (some gS) := by first | exact gb_trans X hg254 | exact gb_new X hg254 (fun g hg => (Own.lt oO hg).1)
          clear hg254 z256
          obtain ⟨zs, hzl, oR⟩ : ∃ zs : List Dem, zs.length = ys.length ∧ Own _ w.heap.size 79 3 A1 n1 c1 (zs.flatMap Dem.cells) := ⟨ys.set 0 ⟨x.node, x.every, y⟩, List.length_set .., oU.to (set_field (x := x) (x' := ⟨x.node, x.every, y⟩) (vs := [.int .i64 y]) Dem.len (f := 2) rfl (by omega) ys 0 hx)⟩
          refine ops_nil ?_
          refine bq_n ?_
          refine tq_n ?_
          refine c_seqR ?_
          refine ops_cons rfl (ow_move rfl ?_)
          refine ops_cons rfl (ow_assign rfl ?_)
          refine ops_nil ?_
          refine c_ret ?_
          refine fin_ret1 rfl rfl ?_
          first
          | (subst hn; exact ⟨_, _, zs, _, _, by rw [hzl], by omega, by rw [hzl]; exact oR, ok, b250, X⟩)
          | (subst hn; exact ⟨A1, c1, ys, _, _, rfl, by omega, oO, ok, b250, X⟩)
        · skip
          refine ops_cons rfl (ow_assign rfl ?_)
          refine ops_nil ?_
          refine c_false rfl ?_
          refine c_seqR ?_
          refine ops_cons rfl (ow_eql2 rfl rfl (fun h257 => ?_) (fun h257 => ?_))
          · skip
            refine ops_cons rfl (ow_assign rfl ?_)
            refine ops_nil ?_
            refine c_true rfl ?_
            refine c_region ?_
            refine ops_cons rfl (ow_move rfl ?_)
            refine ops_cons rfl (ow_buildSlice el24 ti2 rfl rfl rfl rfl rfl ?_)
            intro g258 w260 eg258 oL bbg258 x259 zg258
            replace oL := Own.low oL X.size
            replace oO := oO.ext x259
            replace hs := hs.ext x259
            replace b227 := b227.ext x259
            replace X := gb_ext X x259; clear x259
            replace oL := oL.to (cs' := ([-1, 32] : List Int).flatMap eI) rfl
            refine ops_cons rfl (ow_move rfl ?_)
            refine ops_cons rfl (ow_call ent70 rfl (ret_mono (l01Next_c _ _ _ _ _ _ _ _ _ b227 hs hB ok hbl (by omega)) ?_))
            rintro _ w262 ⟨rr, a264, sd265, rfl, hr266, ok, b263, x261⟩
            replace oO := oO.grownBlk x261 (Own.neT oO b227 (by decide))
            replace hs := hs.grown x261 (by intro g hg; injection hg; omega)
            replace oL := oL.grownBlk x261 (Own.neT oL b227 (by decide))
            replace X : w.grownBy w262 (some gS) := by first | exact gb_trans X x261 | exact gb_new X x261 (by intro g hg; injection hg; omega)
            clear x261 b227
            obtain ⟨y, hy⟩ : ∃ y, ([-1, 32] : List Int)[rr.toNat]? = some y := ⟨_, List.getElem?_eq_getElem (by simp; omega)⟩
            refine ops_cons rfl (ow_indexT (oL).sl eI_len rfl el24 rfl rfl rfl hy (by omega) ?_)
            refine ops_cons rfl (ow_loadT (oL).sl eI_len hy ti2 rfl rfl rfl ?_)
            obtain ⟨x, hx⟩ : ∃ x, ys[0]? = some x := ⟨_, List.getElem?_eq_getElem (by omega)⟩
            refine ops_cons rfl (ow_indexT (oO).sl Dem.len rfl el36 rfl hn rfl hx rfl ?_)
            refine ops_cons rfl (ow_fieldAddr off79_0 rfl ?_)
            refine ops_cons rfl (ow_storeRF oO ti2 rfl rfl rfl rfl (by omega) (by omega) rfl ?_)
            intro w268 oU hg267 z269
            replace hs := hs.grown hg267 (fun g hg => Nat.le_trans Bhs (Own.lt oO hg).1)
            replace oL := oL.grown hg267 (Own.neO oL oO (by decide))
            replace b263 := b263.grown hg267 (fun h => Own.neT oO b263 (by decide) h.symm)
            replace X : w.grownBy w268 (some gS) := by first | exact gb_trans X hg267 | exact gb_new X hg267 (fun g hg => (Own.lt oO hg).1)
            clear hg267 z269
            obtain ⟨zs, hzl, oR⟩ : ∃ zs : List Dem, zs.length = ys.length ∧ Own _ w.heap.size 79 3 A1 n1 c1 (zs.flatMap Dem.cells) := ⟨ys.set 0 ⟨y, x.every, x.size⟩, List.length_set .., oU.to (set_field (x := x) (x' := ⟨y, x.every, x.size⟩) (vs := [.int .i64 y]) Dem.len (f := 0) rfl (by omega) ys 0 hx)⟩
            refine ops_nil ?_
            refine bq_n ?_
            refine tq_n ?_
            refine c_seqR ?_
            refine ops_cons rfl (ow_move rfl ?_)
            refine ops_cons rfl (ow_assign rfl ?_)
            refine ops_nil ?_
            refine c_ret ?_
            refine fin_ret1 rfl rfl ?_
            first
            | (subst hn; exact ⟨_, _, zs, _, _, by rw [hzl], by omega, by rw [hzl]; exact oR, ok, b263, X⟩)
            | (subst hn; exact ⟨A1, c1, ys, _, _, rfl, by omega, oO, ok, b263, X⟩)
          · skip
            refine ops_cons rfl (ow_assign rfl ?_)
            refine ops_nil ?_
            refine c_false rfl ?_
            refine c_seqR ?_
            refine ops_cons rfl (ow_eql2 rfl rfl (fun h270 => ?_) (fun h270 => ?_))
            · skip
              refine ops_cons rfl (ow_assign rfl ?_)
              refine ops_nil ?_
              refine c_true rfl ?_
              refine c_block ?_
              refine c_loop (G := List Dem × Nat × Option Addr × Nat) (fun ⟨ys, n1, A1, c1⟩ => [(2, .slice none 0 0), (0, .pointer (some ⟨gS, 0, none⟩)), (3, .slice A1 n1 c1)]) (fun ⟨ys, n1, A1, c1⟩ wr => (0 < n1 ∧ n1 ≤ 41) ∧ n1 = ys.length ∧ (∃ a sd, (a ≤ bs.length ∧ 0 ≤ sd ∧ sd < 2147483647) ∧ Blk wr gS 122 (srcC A c bs a sd)) ∧ Own wr w.heap.size 79 3 A1 n1 c1 (ys.flatMap Dem.cells) ∧ Sl B wr A (bs.flatMap eB) ∧ w.grownBy wr (some gS)) (fun ⟨ys, n1, A1, c1⟩ => 41 - n1) (ys, n1, A1, c1) (.cons rfl (.cons rfl (.cons rfl (.nil _)))) ?_ ?_
              · exact ⟨(by omega), hn, ⟨_, _, ok, b227⟩, oO, hs, X⟩
              clear oO hs b227
              clear X
              rintro ⟨ys, n1, A1, c1⟩ wr ⟨hn1, hn, qq, oO, hs, X⟩
              obtain ⟨a, sd, ok, q⟩ := qq
              refine c_seq ?_
              refine c_seqR ?_
              refine ops_cons rfl (ow_move rfl ?_)
              refine ops_cons rfl (ow_len Try.underlying36 rfl ?_)
              refine ops_cons rfl (ow_move rfl ?_)
              refine ops_cons rfl (ow_call ent70 rfl (ret_mono (l01Next_c _ _ _ _ _ _ _ _ _ q hs hB ok hbl (by omega)) ?_))
              rintro _ w272 ⟨r2, a274, sd275, rfl, hr276, ok, b273, x271⟩
              replace oO := oO.grownBlk x271 (Own.neT oO q (by decide))
              replace hs := hs.grown x271 (by intro g hg; injection hg; omega)
              replace X : w.grownBy w272 (some gS) := by first | exact gb_trans X x271 | exact gb_new X x271 (by intro g hg; injection hg; omega)
              clear x271 q
              refine ops_cons rfl (ow_add rfl rfl (w64 (by omega)) ?_)
              refine ops_cons rfl (ow_lss2 rfl rfl (fun h15 => ?_) (fun h15 => ?_))
              · skip
                refine ops_nil ?_
                refine c_true rfl ?_
                refine c_skip ?_
                refine tq_n ?_
                refine c_block ?_
                refine c_region ?_
                refine ops_cons rfl (ow_move rfl ?_)
                refine ops_cons rfl (ow_move rfl ?_)
                obtain ⟨x, hx⟩ : ∃ x, ys[0]? = some x := ⟨_, List.getElem?_eq_getElem (by omega)⟩
                refine ops_cons rfl (ow_indexT (oO).sl Dem.len rfl el36 rfl hn rfl hx rfl ?_)
                refine ops_cons rfl (ow_loadTA (oO).sl Dem.len hx ti79 rfl ?_)
                refine ops_cons rfl (ow_buildSlice el36 ti79 rfl rfl rfl rfl rfl ?_)
                intro g277 w279 eg277 oV bbg277 x278 zg277
                replace oV := Own.low oV X.size
                replace oO := oO.ext x278
                replace hs := hs.ext x278
                replace b273 := b273.ext x278
                replace X := gb_ext X x278; clear x278
                refine ops_cons rfl (ow_append (ts := #[]) oO X.size oV.sl (by first | rfl | simp) (by first | exact List.all_eq_true.1 rfl | simp [Value.oneCell']) el36 ti79 rfl rfl rfl rfl (by omega) (by omega) ?_)
                intro AoN coN w281 oN hg280
                replace hs := hs.grown hg280 (fun g hg => Nat.le_trans Bhs (Own.lt oO hg).1)
                replace b273 := b273.grown hg280 (fun h => Own.neT oO b273 (by decide) h.symm)
                replace X := gb_new X hg280 (fun g hg => (Own.lt oO hg).1)
                clear hg280
                refine ops_cons rfl (ow_assign rfl ?_)
                refine ops_nil ?_
                refine bq_n ?_
                refine tq_n ⟨(ys ++ [x], n1 + 1, AoN, coN), (.cons rfl (.cons rfl (.cons rfl (.nil _)))), ?_, ?_⟩
                · exact ⟨(by omega), (by simp [hn]), ⟨_, _, ok, b273⟩, oN.to (snoc Dem.cells ys x).symm, hs, X⟩
                · first | omega | (dsimp only; omega)
              · skip
                refine ops_nil ?_
                refine c_false rfl ?_
                refine c_exit ?_
                refine tq_e ?_
                refine tq_e ?_
                refine bq_e ?_
                refine bq_n ?_
                refine tq_n ?_
                refine c_seqR ?_
                refine ops_cons rfl (ow_move rfl ?_)
                refine ops_cons rfl (ow_assign rfl ?_)
                refine ops_nil ?_
                refine c_ret ?_
                refine fin_ret1 rfl rfl ?_
                first
                | (subst hn; exact ⟨_, _, zs, _, _, by rw [hzl], by omega, by rw [hzl]; exact oR, ok, b273, X⟩)
                | (subst hn; exact ⟨A1, c1, ys, _, _, rfl, by omega, oO, ok, b273, X⟩)
            · skip
              refine ops_cons rfl (ow_assign rfl ?_)
              refine ops_nil ?_
              refine c_false rfl ?_
              refine c_skip ?_
              refine bq_n ?_
              refine tq_n ?_
              refine c_seqR ?_
              refine ops_cons rfl (ow_move rfl ?_)
              refine ops_cons rfl (ow_assign rfl ?_)
              refine ops_nil ?_
              refine c_ret ?_
              refine fin_ret1 rfl rfl ?_
              first
              | (subst hn; exact ⟨_, _, zs, _, _, by rw [hzl], by omega, by rw [hzl]; exact oR, ok, b227, X⟩)
              | (subst hn; exact ⟨A1, c1, ys, _, _, rfl, by omega, oO, ok, b227, X⟩)
    · skip
      refine ops_nil ?_
      refine c_false rfl ?_
      refine c_skip ?_
      refine tq_n ?_
      refine c_seqR ?_
      refine ops_cons rfl (ow_move rfl ?_)
      refine ops_cons rfl (ow_assign rfl ?_)
      refine ops_nil ?_
      refine c_ret ?_
      refine fin_ret1 rfl rfl ?_
      first
      | (subst hn; exact ⟨_, _, zs, _, _, by rw [hzl], by omega, by rw [hzl]; exact oR, ok, q, X⟩)
      | (subst hn; exact ⟨A1, c1, ys, _, _, rfl, by omega, oO, ok, q, X⟩)

theorem drawRounds_c (A : Option Addr) (B c : Nat) (bs : List UInt8) (gS a : Nat) (sd : Int) (w : World) (q : Blk w gS 122 (srcC A c bs a sd)) (hs : Sl B w A (bs.flatMap eB)) (hB : B ≤ gS) (ok : a ≤ bs.length ∧ 0 ≤ sd ∧ sd < 2147483647) (hbl : bs.length ≤ 1048576) :
    Calls Try.prog 84 #[.pointer (some ⟨gS, 0, none⟩)] w (Ret fun v w' => ∃ y a' sd', v = .int .i64 y ∧ True ∧ (a' ≤ bs.length ∧ 0 ≤ sd' ∧ sd' < 2147483647) ∧ Blk w' gS 122 (srcC A c bs a' sd') ∧ w.grownBy w' (some gS)) := by
  have Bhs := hs.1
  have X := gb_refl w (some gS)
  refine calls_of (args := [.pointer (some ⟨gS, 0, none⟩)]) Try.func84 Try.ntmps84 rfl rfl ?_
  refine c_seqR ?_
  refine ops_cons rfl (ow_assign rfl ?_)
  refine ops_nil ?_
  refine c_seq ?_
  refine c_seqR ?_
  refine ops_cons rfl (ow_move rfl ?_)
  refine ops_cons rfl (ow_call ent70 rfl (ret_mono (l01Next_c _ _ _ _ _ _ _ _ _ q hs hB ok hbl (by omega)) ?_))
  rintro _ w2 ⟨r16, a4, sd5, rfl, hr6, ok, b3, x1⟩
  replace hs := hs.grown x1 (by intro g hg; injection hg; omega)
  replace X : w.grownBy w2 (some gS) := by first | exact gb_trans X x1 | exact gb_new X x1 (by intro g hg; injection hg; omega)
  clear x1 q
  refine ops_cons rfl (ow_eql2 rfl rfl (fun h7 => ?_) (fun h7 => ?_))
  · skip
    refine ops_nil ?_
    refine c_true rfl ?_
    refine c_seqR ?_
    refine ops_cons rfl (ow_buildSlice el24 ti2 rfl rfl rfl rfl rfl ?_)
    intro g8 w10 eg8 oL bbg8 x9 zg8
    replace oL := Own.low oL X.size
    replace hs := hs.ext x9
    replace b3 := b3.ext x9
    replace X := gb_ext X x9; clear x9
    replace oL := oL.to (cs' := ([0, 3, 16, 2] : List Int).flatMap eI) rfl
    refine ops_cons rfl (ow_move rfl ?_)
    refine ops_cons rfl (ow_call ent70 rfl (ret_mono (l01Next_c _ _ _ _ _ _ _ _ _ b3 hs hB ok hbl (by omega)) ?_))
    rintro _ w12 ⟨rr, a14, sd15, rfl, hr16, ok, b13, x11⟩
    replace hs := hs.grown x11 (by intro g hg; injection hg; omega)
    replace oL := oL.grownBlk x11 (Own.neT oL b3 (by decide))
    replace X : w.grownBy w12 (some gS) := by first | exact gb_trans X x11 | exact gb_new X x11 (by intro g hg; injection hg; omega)
    clear x11 b3
    obtain ⟨y, hy⟩ : ∃ y, ([0, 3, 16, 2] : List Int)[rr.toNat]? = some y := ⟨_, List.getElem?_eq_getElem (by simp; omega)⟩
    refine ops_cons rfl (ow_indexT (oL).sl eI_len rfl el24 rfl rfl rfl hy (by omega) ?_)
    refine ops_cons rfl (ow_loadT (oL).sl eI_len hy ti2 rfl rfl rfl ?_)
    refine ops_cons rfl (ow_assign rfl ?_)
    refine ops_nil ?_
    refine c_ret ?_
    refine tq_r ?_
    refine fin_ret1 rfl rfl ?_
    exact ⟨y, _, _, rfl, trivial, ok, b13, X⟩
  · skip
    refine ops_nil ?_
    refine c_false rfl ?_
    refine c_skip ?_
    refine tq_n ?_
    refine c_seqR ?_
    refine ops_cons rfl (ow_buildSlice el24 ti2 rfl rfl rfl rfl rfl ?_)
    intro g17 w19 eg17 oL bbg17 x18 zg17
    replace oL := Own.low oL X.size
    replace hs := hs.ext x18
    replace b3 := b3.ext x18
    replace X := gb_ext X x18; clear x18
    replace oL := oL.to (cs' := ([8, 4, 8, 2, 1] : List Int).flatMap eI) rfl
    refine ops_cons rfl (ow_move rfl ?_)
    refine ops_cons rfl (ow_call ent70 rfl (ret_mono (l01Next_c _ _ _ _ _ _ _ _ _ b3 hs hB ok hbl (by omega)) ?_))
    rintro _ w21 ⟨rr, a23, sd24, rfl, hr25, ok, b22, x20⟩
    replace hs := hs.grown x20 (by intro g hg; injection hg; omega)
    replace oL := oL.grownBlk x20 (Own.neT oL b3 (by decide))
    replace X : w.grownBy w21 (some gS) := by first | exact gb_trans X x20 | exact gb_new X x20 (by intro g hg; injection hg; omega)
    clear x20 b3
    obtain ⟨y, hy⟩ : ∃ y, ([8, 4, 8, 2, 1] : List Int)[rr.toNat]? = some y := ⟨_, List.getElem?_eq_getElem (by simp; omega)⟩
    refine ops_cons rfl (ow_indexT (oL).sl eI_len rfl el24 rfl rfl rfl hy (by omega) ?_)
    refine ops_cons rfl (ow_loadT (oL).sl eI_len hy ti2 rfl rfl rfl ?_)
    refine ops_cons rfl (ow_assign rfl ?_)
    refine ops_nil ?_
    refine c_ret ?_
    refine fin_ret1 rfl rfl ?_
    exact ⟨y, _, _, rfl, trivial, ok, b22, X⟩

theorem drawSN_c (A : Option Addr) (B c : Nat) (bs : List UInt8) (w : World) (hs : Sl B w A (bs.flatMap eB)) (hbl : bs.length ≤ 1048576) :
    Calls Try.prog 32 #[.slice A bs.length c] w (Ret fun v w' => ∃ A' c' xs x, v = .tuple #[.slice A' (List.length xs) c', .int .i64 x] ∧ xs.length ≤ 41 ∧ Own w' w.heap.size 79 3 A' xs.length c' (xs.flatMap Dem.cells) ∧ Ext w w') := by
  have Bhs := hs.1
  have X := Ext.refl w
  refine calls_of (args := [.slice A bs.length c]) Try.func32 Try.ntmps32 rfl rfl ?_
  refine c_seqR ?_
  refine ops_cons rfl (ow_assign rfl ?_)
  refine ops_cons rfl (ow_assign rfl ?_)
  refine ops_nil ?_
  refine c_seqR ?_
  refine ops_cons rfl (ow_move rfl ?_)
  refine ops_cons rfl (ow_call ent67 rfl (ret_mono (l01From_c _ _ _ _ _ hs hbl) ?_))
  rintro _ w2 ⟨gS, a6, sd7, rfl, lgS0, ok, o3, x1⟩
  have lgS : w.heap.size ≤ gS := Nat.le_trans X.size lgS0
  replace hs := hs.ext x1
  replace X := Ext.trans X x1; clear x1
  refine ops_cons rfl (ow_assign rfl ?_)
  refine ops_nil ?_
  refine c_seqR ?_
  have hB : B ≤ gS := by omega
  refine ops_cons rfl (ow_move rfl ?_)
  have LoT := X.size
  refine ops_cons rfl (ow_call ent83 rfl (ret_mono (l16Draw_c _ _ _ _ _ _ _ _ o3 hs hB ok hbl) ?_))
  rintro _ w9 ⟨A_11, c_12, ys, a13, sd14, rfl, hyl, oT, ok, b10, x8⟩
  replace hs := hs.grown x8 (by intro g hg; injection hg; omega)
  replace X := X.grown x8 X.size (by intro g hg; injection hg; omega)
  clear x8 o3
  replace oT := Own.low oT LoT
  refine ops_cons rfl (ow_assign rfl ?_)
  refine ops_nil ?_
  refine c_seqR ?_
  refine ops_cons rfl (ow_move rfl ?_)
  refine ops_cons rfl (ow_move rfl ?_)
  refine ops_cons rfl (ow_call ent84 rfl (ret_mono (drawRounds_c _ _ _ _ _ _ _ _ b10 hs hB ok hbl) ?_))
  rintro _ w17 ⟨ry, a19, sd20, rfl, hp21, ok, b18, x16⟩
  replace hs := hs.grown x16 (by intro g hg; injection hg; omega)
  replace oT := oT.grownBlk x16 (Own.neT oT b10 (by decide))
  replace X := X.grown x16 X.size (by intro g hg; injection hg; omega)
  clear x16 b10
  refine ops_cons rfl (ow_assign rfl ?_)
  refine ops_cons rfl (ow_assign rfl ?_)
  refine ops_nil ?_
  refine c_ret ?_
  refine fin_ret2 rfl rfl rfl ?_
  exact ⟨_, _, ys, _, rfl, hyl, oT, X⟩
end Go.Proofs.Ytimabffnoanciaa
