/- Bytes of tables of nodes. No condition. -/
import Derived.Test.YthdeoagoehkcfaaGreatDoorNB
import Derived.Test.YthdeoagoehkcfaaGreatDoorN2
import Derived.Test.YthdeoagoehkcfaaGreatDoorFlowK
namespace Go.Proofs.YthdeoagoehkcfaaGreatDoor
open Go.RowKit
set_option linter.unusedVariables false
set_option linter.unusedSimpArgs false
set_option maxRecDepth 20000
theorem l10Bytes_c (A : Option Addr) (B c : Nat) (xs : List NodeI) (w : World) (hs : Sl B w A (xs.flatMap NodeI.cells)) (hN : isNT xs = true) :
    Calls Tryz.prog 103 #[.slice A xs.length c] w (Ret fun v w' => ∃ A' c', v = .slice A' (ntB xs).length c' ∧ Own w' w.heap.size 2 1 A' (ntB xs).length c' ((ntB xs).flatMap eI) ∧ Ext w w') := by
  have hnl := isNT_len hN
  have Bhs := hs.1
  have X := Ext.refl w
  refine calls_of (args := [.slice A xs.length c]) Tryz.func103 Tryz.ntmps103 rfl rfl ?_
  refine c_seqR ?_
  refine ops_cons rfl (ow_assign rfl ?_)
  refine ops_nil ?_
  refine c_seqR ?_
  refine ops_cons rfl (ow_move rfl ?_)
  refine ops_cons rfl (ow_len Tryz.underlying23 rfl ?_)
  refine ops_cons rfl (ow_buildSlice el22 ti2 rfl rfl rfl rfl rfl ?_)
  intro gO w2 egO oO bbgO x1 zgO
  replace oO := Own.low oO X.size
  replace hs := hs.ext x1
  replace X := Ext.trans X x1; clear x1
  replace oO := oO.to (cs' := (ntP xs 0).flatMap eI) rfl
  refine ops_cons rfl (ow_assign rfl ?_)
  refine ops_nil ?_
  refine c_seq ?_
  refine c_seqR ?_
  refine ops_cons rfl (ow_assign rfl ?_)
  refine ops_nil ?_
  refine c_block ?_
  refine c_loop (G := Nat × Nat × Option Addr × Nat) (fun ⟨k, n1, A1, c1⟩ => [(0, .slice A xs.length c), (2, .slice none 0 0), (3, .slice A1 n1 c1), (4, .int .i64 (k : Nat))]) (fun ⟨k, n1, A1, c1⟩ wr => k ≤ xs.length ∧ n1 = (ntP xs k).length ∧ n1 ≤ 1 + 11 * k ∧ Own wr w.heap.size 2 1 A1 n1 c1 ((ntP xs k).flatMap eI) ∧ Sl B wr A (xs.flatMap NodeI.cells) ∧ Ext w wr) (fun ⟨k, n1, A1, c1⟩ => xs.length - k) (0, 1, some ⟨gO, 0, none⟩, 1) (.cons rfl (.cons rfl (.cons rfl (.cons rfl (.nil _))))) ?_ ?_
  · exact ⟨by omega, rfl, (Nat.le_refl _), oO, hs, X⟩
  clear hs oO
  clear X
  rintro ⟨k, n1, A1, c1⟩ wr ⟨hk0, hn, hn1, oO, hs, X⟩
  refine c_seq ?_
  refine c_seqR ?_
  refine ops_cons rfl (ow_move rfl ?_)
  refine ops_cons rfl (ow_move rfl ?_)
  refine ops_cons rfl (ow_len Tryz.underlying23 rfl ?_)
  refine ops_cons rfl (ow_lss2 rfl rfl (fun hk => ?_) (fun hk => ?_))
  · skip
    obtain ⟨x, hx, dx⟩ := drop_at' hk
    have hok := isNT_all hN x (List.mem_of_getElem? hx)
    have hxi := nodeOk_in hok
    have hxs := nodeOk_size hok
    refine ops_nil ?_
    refine c_true rfl ?_
    refine c_skip ?_
    refine tq_n ?_
    refine c_seq ?_
    refine c_block ?_
    refine c_seqR ?_
    refine ops_cons rfl (ow_move rfl ?_)
    refine ops_cons rfl (ow_move rfl ?_)
    refine ops_cons rfl (ow_indexT hs NodeI.len rfl el23 rfl rfl rfl hx rfl ?_)
    refine ops_cons rfl (ow_loadTA hs NodeI.len hx ti104 rfl ?_)
    refine ops_cons rfl (ow_alloc ti104 ?_)
    intro gX w4 egX bX x3 zgX
    have lgX : w.heap.size ≤ gX := Nat.le_trans X.size (Nat.le_of_eq egX.symm)
    have pgXhs := Nat.le_trans hs.1 (Nat.le_of_eq egX.symm)
    replace oO := oO.ext x3
    replace hs := hs.ext x3
    replace X := Ext.trans X x3; clear x3
    refine ops_cons rfl (ow_storeB bX ti104 rfl rfl rfl rfl rfl rfl ?_)
    intro w6 bY hg5 z7
    replace oO := oO.grownBlk hg5 (Own.neT oO bX (by decide))
    replace hs := hs.grown hg5 (by intro g hg; injection hg; omega)
    replace X := X.grown hg5 X.size (by intro g hg; injection hg; omega)
    clear hg5 bX
    refine ops_nil ?_
    refine c_seqR ?_
    refine ops_cons rfl (ow_assign rfl ?_)
    refine ops_nil ?_
    refine c_seq ?_
    refine c_seqR ?_
    refine ops_cons rfl (ow_fieldAddrB off104_3 rfl rfl ?_)
    refine ops_cons rfl (ow_loadB bY ti4 rfl rfl ?_)
    cases hpa : x.passive
    · skip
      refine ops_nil ?_
      refine c_false rfl ?_
      refine c_skip ?_
      refine tq_n ?_
      refine c_seqR ?_
      refine ops_cons rfl (ow_move rfl ?_)
      refine ops_cons rfl (ow_fieldAddrB off104_0 rfl rfl ?_)
      refine ops_cons rfl (ow_loadB bY ti2 rfl rfl ?_)
      refine ops_cons rfl (ow_fieldAddrB off104_2 rfl rfl ?_)
      refine ops_cons rfl (ow_loadB bY ti2 rfl rfl ?_)
      refine ops_cons rfl (ow_quo rfl rfl (by omega) (q64 (by omega)) ?_)
      refine ops_cons rfl (ow_fieldAddrB off104_2 rfl rfl ?_)
      refine ops_cons rfl (ow_loadB bY ti2 rfl rfl ?_)
      refine ops_cons rfl (ow_rem rfl rfl (by omega) (m64 (by omega)) ?_)
      refine ops_cons rfl (ow_move rfl ?_)
      refine ops_cons rfl (ow_fieldAddrB off104_1 rfl rfl ?_)
      refine ops_cons rfl (ow_loadB bY ti9 rfl rfl ?_)
      refine ops_cons rfl (ow_lenS Tryz.underlying9 rfl ?_)
      refine ops_cons rfl (ow_buildSlice el22 ti2 rfl rfl rfl rfl rfl ?_)
      intro g8 w10 eg8 oS bbg8 x9 zg8
      replace oS := Own.low oS X.size
      replace oO := oO.ext x9
      replace hs := hs.ext x9
      replace bY := bY.ext x9
      replace X := Ext.trans X x9; clear x9
      refine ops_cons rfl (ow_append (ts := #[]) oO X.size oS.sl (by first | rfl | simp) (by first | exact List.all_eq_true.1 rfl | simp [Value.oneCell']) el22 ti2 rfl rfl rfl rfl (by omega) (by omega) ?_)
      intro AoM coM w12 oM hg11
      replace hs := hs.grown hg11 (fun g hg => Nat.le_trans Bhs (Own.lt oO hg).1)
      replace bY := bY.grown hg11 (fun h => Own.neT oO bY (by decide) h.symm)
      replace X := X.grown hg11 X.size (fun g hg => (Own.lt oO hg).1)
      clear hg11
      replace oM := oM.to (cs' := ((ntP xs k).flatMap eI ++ (nodeH x).flatMap eI)) (by simp only [nodeH, hpa]; rfl)
      refine ops_cons rfl (ow_assign rfl ?_)
      refine ops_nil ?_
      refine c_seqR ?_
      refine ops_cons rfl (ow_assign rfl ?_)
      refine ops_nil ?_
      refine c_block ?_
      refine c_loop (G := Nat × Nat × Option Addr × Nat) (fun ⟨j, n2, A2, c2⟩ => [(0, .slice A xs.length c), (2, .slice none 0 0), (4, .int .i64 (k : Nat)), (5, .pointer (some ⟨gX, 0, none⟩)), (6, .int .i64 0), (11, .int .i64 (k : Nat)), (12, .slice A xs.length c), (13, .int .i64 (xs.length : Nat)), (17, .slice A xs.length c), (18, .int .i64 (k : Nat)), (23, .slice A1 n1 c1), (32, .int .i64 0), (3, .slice A2 n2 c2), (7, .int .i64 (j : Nat))]) (fun ⟨j, n2, A2, c2⟩ wr => j ≤ x.name.size ∧ n2 = ((ntP xs k ++ nodeH x) ++ (nameI x).take j).length ∧ n2 ≤ 1 + 11 * k + 5 + j ∧ Own wr w.heap.size 2 1 A2 n2 c2 (((ntP xs k ++ nodeH x) ++ (nameI x).take j).flatMap eI) ∧ Sl B wr A (xs.flatMap NodeI.cells) ∧ Blk wr gX 104 x.cells ∧ Ext w wr) (fun ⟨j, n2, A2, c2⟩ => x.name.size - j) (0, n1 + 5, AoM, coM) (.cons rfl (.cons rfl (.cons rfl (.cons rfl (.cons rfl (.cons rfl (.cons rfl (.cons rfl (.cons rfl (.cons rfl (.cons rfl (.cons rfl (.cons rfl (.cons rfl (.nil _))))))))))))))) ?_ ?_
      · exact ⟨by omega, (by rw [List.take_zero, List.append_nil, List.length_append, ← hn]; rfl), (by omega), oM.to (by rw [List.take_zero, List.append_nil, List.flatMap_append]; try rfl), hs, bY, X⟩
      clear hs bY oM
      clear X
      rintro ⟨j, n2, A2, c2⟩ wr ⟨hj0, hn2, hn3, oP, hs, bY, X⟩
      refine c_seq ?_
      refine c_seqR ?_
      refine ops_cons rfl (ow_move rfl ?_)
      refine ops_cons rfl (ow_fieldAddrB off104_1 rfl rfl ?_)
      refine ops_cons rfl (ow_loadB bY ti9 rfl rfl ?_)
      refine ops_cons rfl (ow_lenS Tryz.underlying9 rfl ?_)
      refine ops_cons rfl (ow_lss2 rfl rfl (fun hj => ?_) (fun hj => ?_))
      · skip
        have hjl : j < x.name.size := by omega
        refine ops_nil ?_
        refine c_true rfl ?_
        refine c_skip ?_
        refine tq_n ?_
        refine c_seq ?_
        refine c_block ?_
        refine c_region ?_
        refine ops_cons rfl (ow_move rfl ?_)
        refine ops_cons rfl (ow_fieldAddrB off104_1 rfl rfl ?_)
        refine ops_cons rfl (ow_loadB bY ti9 rfl rfl ?_)
        refine ops_cons rfl (ow_move rfl ?_)
        refine ops_cons rfl (ow_indexS Tryz.underlying9 rfl rfl (by omega) (by omega) ?_)
        refine ops_cons rfl (ow_conv Tryz.underlying5 Tryz.underlying2 rfl (w64 (by have := (x.name.data.toList.getD ((j : Int)).toNat 0).toNat_lt; omega)) ?_)
        refine ops_cons rfl (ow_buildSlice el22 ti2 rfl rfl rfl rfl rfl ?_)
        intro g13 w15 eg13 oT bbg13 x14 zg13
        replace oT := Own.low oT X.size
        replace oP := oP.ext x14
        replace hs := hs.ext x14
        replace bY := bY.ext x14
        replace X := Ext.trans X x14; clear x14
        refine ops_cons rfl (ow_append (ts := #[]) oP X.size oT.sl (by first | rfl | simp) (by first | exact List.all_eq_true.1 rfl | simp [Value.oneCell']) el22 ti2 rfl rfl rfl rfl (by omega) (by omega) ?_)
        intro AoQ coQ w17 oQ hg16
        replace hs := hs.grown hg16 (fun g hg => Nat.le_trans Bhs (Own.lt oP hg).1)
        replace bY := bY.grown hg16 (fun h => Own.neT oP bY (by decide) h.symm)
        replace X := X.grown hg16 X.size (fun g hg => (Own.lt oP hg).1)
        clear hg16
        refine ops_cons rfl (ow_assign rfl ?_)
        refine ops_nil ?_
        refine bq_n ?_
        refine tq_n ?_
        refine c_region ?_
        refine ops_cons rfl (ow_move rfl ?_)
        refine ops_cons rfl (ow_add rfl rfl (w64 (by omega)) ?_)
        refine ops_cons rfl (ow_assign rfl ?_)
        refine ops_nil ?_
        refine tq_n ⟨(j + 1, n2 + 1, AoQ, coQ), (.cons rfl (.cons rfl (.cons rfl (.cons rfl (.cons rfl (.cons rfl (.cons rfl (.cons rfl (.cons rfl (.cons rfl (.cons rfl (.cons rfl (.cons rfl (.cons rfl (.nil _))))))))))))))), ?_, ?_⟩
        · exact ⟨by omega, (by rw [hn2, take_snoc (nameI_at hjl)]; simp only [List.length_append, List.length_cons, List.length_nil]; try omega), (by omega), oQ.to (by rw [take_snoc (nameI_at hjl), ← List.append_assoc]; exact Eq.symm (by rw [List.flatMap_append]; rfl)), hs, bY, X⟩
        · first | omega | (dsimp only; omega)
      · skip
        have hje : j = x.name.size := by omega
        refine ops_nil ?_
        refine c_false rfl ?_
        refine c_exit ?_
        refine tq_e ?_
        refine tq_e ?_
        refine bq_e ?_
        refine bq_n ?_
        refine tq_n ?_
        refine c_region ?_
        refine ops_cons rfl (ow_move rfl ?_)
        refine ops_cons rfl (ow_add rfl rfl (w64 (by omega)) ?_)
        refine ops_cons rfl (ow_assign rfl ?_)
        refine ops_nil ?_
        refine tq_n ⟨(k + 1, n2, A2, c2), (.cons rfl (.cons rfl (.cons rfl (.cons rfl (.nil _))))), ?_, ?_⟩
        · exact ⟨by omega, (by rw [ntP_step hx, List.length_append, hn2, List.length_append, hje, ← nameI_len, List.take_length]), (by omega), oP.to (by rw [ntP_step hx, hje, ← nameI_len, List.take_length]), hs, X⟩
        · first | omega | (dsimp only; omega)
    · skip
      refine ops_nil ?_
      refine c_true rfl ?_
      refine c_region ?_
      refine ops_cons rfl (ow_assign rfl ?_)
      refine ops_nil ?_
      refine tq_n ?_
      refine c_seqR ?_
      refine ops_cons rfl (ow_move rfl ?_)
      refine ops_cons rfl (ow_fieldAddrB off104_0 rfl rfl ?_)
      refine ops_cons rfl (ow_loadB bY ti2 rfl rfl ?_)
      refine ops_cons rfl (ow_fieldAddrB off104_2 rfl rfl ?_)
      refine ops_cons rfl (ow_loadB bY ti2 rfl rfl ?_)
      refine ops_cons rfl (ow_quo rfl rfl (by omega) (q64 (by omega)) ?_)
      refine ops_cons rfl (ow_fieldAddrB off104_2 rfl rfl ?_)
      refine ops_cons rfl (ow_loadB bY ti2 rfl rfl ?_)
      refine ops_cons rfl (ow_rem rfl rfl (by omega) (m64 (by omega)) ?_)
      refine ops_cons rfl (ow_move rfl ?_)
      refine ops_cons rfl (ow_fieldAddrB off104_1 rfl rfl ?_)
      refine ops_cons rfl (ow_loadB bY ti9 rfl rfl ?_)
      refine ops_cons rfl (ow_lenS Tryz.underlying9 rfl ?_)
      refine ops_cons rfl (ow_buildSlice el22 ti2 rfl rfl rfl rfl rfl ?_)
      intro g18 w20 eg18 oS bbg18 x19 zg18
      replace oS := Own.low oS X.size
      replace oO := oO.ext x19
      replace hs := hs.ext x19
      replace bY := bY.ext x19
      replace X := Ext.trans X x19; clear x19
      refine ops_cons rfl (ow_append (ts := #[]) oO X.size oS.sl (by first | rfl | simp) (by first | exact List.all_eq_true.1 rfl | simp [Value.oneCell']) el22 ti2 rfl rfl rfl rfl (by omega) (by omega) ?_)
      intro AoM coM w22 oM hg21
      replace hs := hs.grown hg21 (fun g hg => Nat.le_trans Bhs (Own.lt oO hg).1)
      replace bY := bY.grown hg21 (fun h => Own.neT oO bY (by decide) h.symm)
      replace X := X.grown hg21 X.size (fun g hg => (Own.lt oO hg).1)
      clear hg21
      replace oM := oM.to (cs' := ((ntP xs k).flatMap eI ++ (nodeH x).flatMap eI)) (by simp only [nodeH, hpa]; rfl)
      refine ops_cons rfl (ow_assign rfl ?_)
      refine ops_nil ?_
      refine c_seqR ?_
      refine ops_cons rfl (ow_assign rfl ?_)
      refine ops_nil ?_
      refine c_block ?_
      refine c_loop (G := Nat × Nat × Option Addr × Nat) (fun ⟨j, n2, A2, c2⟩ => [(0, .slice A xs.length c), (2, .slice none 0 0), (4, .int .i64 (k : Nat)), (5, .pointer (some ⟨gX, 0, none⟩)), (6, .int .i64 1), (11, .int .i64 (k : Nat)), (12, .slice A xs.length c), (13, .int .i64 (xs.length : Nat)), (17, .slice A xs.length c), (18, .int .i64 (k : Nat)), (23, .slice A1 n1 c1), (32, .int .i64 1), (3, .slice A2 n2 c2), (7, .int .i64 (j : Nat))]) (fun ⟨j, n2, A2, c2⟩ wr => j ≤ x.name.size ∧ n2 = ((ntP xs k ++ nodeH x) ++ (nameI x).take j).length ∧ n2 ≤ 1 + 11 * k + 5 + j ∧ Own wr w.heap.size 2 1 A2 n2 c2 (((ntP xs k ++ nodeH x) ++ (nameI x).take j).flatMap eI) ∧ Sl B wr A (xs.flatMap NodeI.cells) ∧ Blk wr gX 104 x.cells ∧ Ext w wr) (fun ⟨j, n2, A2, c2⟩ => x.name.size - j) (0, n1 + 5, AoM, coM) (.cons rfl (.cons rfl (.cons rfl (.cons rfl (.cons rfl (.cons rfl (.cons rfl (.cons rfl (.cons rfl (.cons rfl (.cons rfl (.cons rfl (.cons rfl (.cons rfl (.nil _))))))))))))))) ?_ ?_
      · exact ⟨by omega, (by rw [List.take_zero, List.append_nil, List.length_append, ← hn]; rfl), (by omega), oM.to (by rw [List.take_zero, List.append_nil, List.flatMap_append]; try rfl), hs, bY, X⟩
      clear hs bY oM
      clear X
      rintro ⟨j, n2, A2, c2⟩ wr ⟨hj0, hn2, hn3, oP, hs, bY, X⟩
      refine c_seq ?_
      refine c_seqR ?_
      refine ops_cons rfl (ow_move rfl ?_)
      refine ops_cons rfl (ow_fieldAddrB off104_1 rfl rfl ?_)
      refine ops_cons rfl (ow_loadB bY ti9 rfl rfl ?_)
      refine ops_cons rfl (ow_lenS Tryz.underlying9 rfl ?_)
      refine ops_cons rfl (ow_lss2 rfl rfl (fun hj => ?_) (fun hj => ?_))
      · skip
        have hjl : j < x.name.size := by omega
        refine ops_nil ?_
        refine c_true rfl ?_
        refine c_skip ?_
        refine tq_n ?_
        refine c_seq ?_
        refine c_block ?_
        refine c_region ?_
        refine ops_cons rfl (ow_move rfl ?_)
        refine ops_cons rfl (ow_fieldAddrB off104_1 rfl rfl ?_)
        refine ops_cons rfl (ow_loadB bY ti9 rfl rfl ?_)
        refine ops_cons rfl (ow_move rfl ?_)
        refine ops_cons rfl (ow_indexS Tryz.underlying9 rfl rfl (by omega) (by omega) ?_)
        refine ops_cons rfl (ow_conv Tryz.underlying5 Tryz.underlying2 rfl (w64 (by have := (x.name.data.toList.getD ((j : Int)).toNat 0).toNat_lt; omega)) ?_)
        refine ops_cons rfl (ow_buildSlice el22 ti2 rfl rfl rfl rfl rfl ?_)
        intro g23 w25 eg23 oT bbg23 x24 zg23
        replace oT := Own.low oT X.size
        replace oP := oP.ext x24
        replace hs := hs.ext x24
        replace bY := bY.ext x24
        replace X := Ext.trans X x24; clear x24
        refine ops_cons rfl (ow_append (ts := #[]) oP X.size oT.sl (by first | rfl | simp) (by first | exact List.all_eq_true.1 rfl | simp [Value.oneCell']) el22 ti2 rfl rfl rfl rfl (by omega) (by omega) ?_)
        intro AoQ coQ w27 oQ hg26
        replace hs := hs.grown hg26 (fun g hg => Nat.le_trans Bhs (Own.lt oP hg).1)
        replace bY := bY.grown hg26 (fun h => Own.neT oP bY (by decide) h.symm)
        replace X := X.grown hg26 X.size (fun g hg => (Own.lt oP hg).1)
        clear hg26
        refine ops_cons rfl (ow_assign rfl ?_)
        refine ops_nil ?_
        refine bq_n ?_
        refine tq_n ?_
        refine c_region ?_
        refine ops_cons rfl (ow_move rfl ?_)
        refine ops_cons rfl (ow_add rfl rfl (w64 (by omega)) ?_)
        refine ops_cons rfl (ow_assign rfl ?_)
        refine ops_nil ?_
        refine tq_n ⟨(j + 1, n2 + 1, AoQ, coQ), (.cons rfl (.cons rfl (.cons rfl (.cons rfl (.cons rfl (.cons rfl (.cons rfl (.cons rfl (.cons rfl (.cons rfl (.cons rfl (.cons rfl (.cons rfl (.cons rfl (.nil _))))))))))))))), ?_, ?_⟩
        · exact ⟨by omega, (by rw [hn2, take_snoc (nameI_at hjl)]; simp only [List.length_append, List.length_cons, List.length_nil]; try omega), (by omega), oQ.to (by rw [take_snoc (nameI_at hjl), ← List.append_assoc]; exact Eq.symm (by rw [List.flatMap_append]; rfl)), hs, bY, X⟩
        · first | omega | (dsimp only; omega)
      · skip
        have hje : j = x.name.size := by omega
        refine ops_nil ?_
        refine c_false rfl ?_
        refine c_exit ?_
        refine tq_e ?_
        refine tq_e ?_
        refine bq_e ?_
        refine bq_n ?_
        refine tq_n ?_
        refine c_region ?_
        refine ops_cons rfl (ow_move rfl ?_)
        refine ops_cons rfl (ow_add rfl rfl (w64 (by omega)) ?_)
        refine ops_cons rfl (ow_assign rfl ?_)
        refine ops_nil ?_
        refine tq_n ⟨(k + 1, n2, A2, c2), (.cons rfl (.cons rfl (.cons rfl (.cons rfl (.nil _))))), ?_, ?_⟩
        · exact ⟨by omega, (by rw [ntP_step hx, List.length_append, hn2, List.length_append, hje, ← nameI_len, List.take_length]), (by omega), oP.to (by rw [ntP_step hx, hje, ← nameI_len, List.take_length]), hs, X⟩
        · first | omega | (dsimp only; omega)
  · skip
    refine ops_nil ?_
    refine c_false rfl ?_
    refine c_exit ?_
    refine tq_e ?_
    refine tq_e ?_
    refine bq_e ?_
    refine tq_n ?_
    refine c_seqR ?_
    refine ops_cons rfl (ow_move rfl ?_)
    refine ops_cons rfl (ow_assign rfl ?_)
    refine ops_nil ?_
    refine c_ret ?_
    refine fin_ret1 rfl rfl ?_
    rw [show k = xs.length by omega] at oO hn
    unfold ntB
    rw [← hn]
    exact ⟨_, _, rfl, oO, X⟩

theorem nodeTableBytes_c (A : Option Addr) (B c : Nat) (xs : List NodeI) (w : World) (hs : Sl B w A (xs.flatMap NodeI.cells)) (hN : isNT xs = true) :
    Calls Tryz.prog 109 #[.slice A xs.length c] w (Ret fun v w' => ∃ A' c', v = .slice A' (ntB xs).length c' ∧ Own w' w.heap.size 2 1 A' (ntB xs).length c' ((ntB xs).flatMap eI) ∧ Ext w w') := by
  have hnl := isNT_len hN
  have Bhs := hs.1
  have X := Ext.refl w
  refine calls_of (args := [.slice A xs.length c]) Tryz.func109 Tryz.ntmps109 rfl rfl ?_
  refine c_seqR ?_
  refine ops_cons rfl (ow_assign rfl ?_)
  refine ops_nil ?_
  refine c_seqR ?_
  refine ops_cons rfl (ow_move rfl ?_)
  refine ops_cons rfl (ow_len Tryz.underlying23 rfl ?_)
  refine ops_cons rfl (ow_buildSlice el22 ti2 rfl rfl rfl rfl rfl ?_)
  intro gO w2 egO oO bbgO x1 zgO
  replace oO := Own.low oO X.size
  replace hs := hs.ext x1
  replace X := Ext.trans X x1; clear x1
  replace oO := oO.to (cs' := (ntP xs 0).flatMap eI) rfl
  refine ops_cons rfl (ow_assign rfl ?_)
  refine ops_nil ?_
  refine c_seq ?_
  refine c_seqR ?_
  refine ops_cons rfl (ow_move rfl ?_)
  refine ops_cons rfl (ow_len Tryz.underlying23 rfl ?_)
  refine ops_cons rfl (ow_move rfl ?_)
  refine ops_nil ?_
  refine c_block ?_
  refine c_loop (G := Nat × Nat × Option Addr × Nat) (fun ⟨k, n1, A1, c1⟩ => [(2, .slice none 0 0), (10, .slice A xs.length c), (11, .int .i64 (xs.length : Nat)), (3, .slice A1 n1 c1), (12, .int .i64 (k : Nat))]) (fun ⟨k, n1, A1, c1⟩ wr => k ≤ xs.length ∧ n1 = (ntP xs k).length ∧ n1 ≤ 1 + 11 * k ∧ Own wr w.heap.size 2 1 A1 n1 c1 ((ntP xs k).flatMap eI) ∧ Sl B wr A (xs.flatMap NodeI.cells) ∧ Ext w wr) (fun ⟨k, n1, A1, c1⟩ => xs.length - k) (0, 1, some ⟨gO, 0, none⟩, 1) (.cons rfl (.cons rfl (.cons rfl (.cons rfl (.cons rfl (.nil _)))))) ?_ ?_
  · exact ⟨by omega, rfl, (Nat.le_refl _), oO, hs, X⟩
  clear hs oO
  clear X
  rintro ⟨k, n1, A1, c1⟩ wr ⟨hk0, hn, hn1, oO, hs, X⟩
  refine c_seqR ?_
  refine ops_cons rfl (ow_lss2 rfl rfl (fun hk => ?_) (fun hk => ?_))
  · skip
    obtain ⟨x, hx, dx⟩ := drop_at' hk
    have hok := isNT_all hN x (List.mem_of_getElem? hx)
    have hxi := nodeOk_in hok
    have hxs := nodeOk_size hok
    refine ops_nil ?_
    refine c_seq ?_
    refine c_true rfl ?_
    refine c_skip ?_
    refine tq_n ?_
    refine c_seq ?_
    refine c_block ?_
    refine c_seqR ?_
    refine ops_cons rfl (ow_indexT hs NodeI.len rfl el23 rfl rfl rfl hx rfl ?_)
    refine ops_cons rfl (ow_loadTA hs NodeI.len hx ti104 rfl ?_)
    refine ops_cons rfl (ow_alloc ti104 ?_)
    intro gX w4 egX bX x3 zgX
    have lgX : w.heap.size ≤ gX := Nat.le_trans X.size (Nat.le_of_eq egX.symm)
    have pgXhs := Nat.le_trans hs.1 (Nat.le_of_eq egX.symm)
    replace oO := oO.ext x3
    replace hs := hs.ext x3
    replace X := Ext.trans X x3; clear x3
    refine ops_cons rfl (ow_storeB bX ti104 rfl rfl rfl rfl rfl rfl ?_)
    intro w6 bY hg5 z7
    replace oO := oO.grownBlk hg5 (Own.neT oO bX (by decide))
    replace hs := hs.grown hg5 (by intro g hg; injection hg; omega)
    replace X := X.grown hg5 X.size (by intro g hg; injection hg; omega)
    clear hg5 bX
    refine ops_nil ?_
    refine c_seqD [false, false, false, false, false, false, false, false, false, false, false, false, false, false, false, true] mixed (by kernel_rfl) ?_
    refine f_q rfl (fun wq sq => ow_move rfl ⟨rfl, Ext.refl _⟩) ?_
    refine f_q rfl (fun wq sq => ow_fieldAddrB off104_0 rfl rfl ⟨rfl, Ext.refl _⟩) ?_
    refine f_q rfl (fun wq sq => ow_loadB (bY.ext sq) ti2 rfl rfl ⟨rfl, Ext.refl _⟩) ?_
    refine f_q rfl (fun wq sq => ow_fieldAddrB off104_2 rfl rfl ⟨rfl, Ext.refl _⟩) ?_
    refine f_q rfl (fun wq sq => ow_loadB (bY.ext sq) ti2 rfl rfl ⟨rfl, Ext.refl _⟩) ?_
    refine f_q rfl (fun wq sq => ow_quo rfl rfl (by omega) (q64 (by omega)) ⟨rfl, Ext.refl _⟩) ?_
    refine f_q rfl (fun wq sq => ow_fieldAddrB off104_2 rfl rfl ⟨rfl, Ext.refl _⟩) ?_
    refine f_q rfl (fun wq sq => ow_loadB (bY.ext sq) ti2 rfl rfl ⟨rfl, Ext.refl _⟩) ?_
    refine f_q rfl (fun wq sq => ow_rem rfl rfl (by omega) (m64 (by omega)) ⟨rfl, Ext.refl _⟩) ?_
    refine f_q rfl (fun wq sq => ow_fieldAddrB off104_3 rfl rfl ⟨rfl, Ext.refl _⟩) ?_
    refine f_q rfl (fun wq sq => ow_loadB (bY.ext sq) ti4 rfl rfl ⟨rfl, Ext.refl _⟩) ?_
    refine f_q rfl (fun wq sq => ow_call ent167 rfl (oneIf_c _ _)) ?_
    refine f_q rfl (fun wq sq => ow_fieldAddrB off104_1 rfl rfl ⟨rfl, Ext.refl _⟩) ?_
    refine f_q rfl (fun wq sq => ow_loadB (bY.ext sq) ti9 rfl rfl ⟨rfl, Ext.refl _⟩) ?_
    refine f_q rfl (fun wq sq => ow_lenS Tryz.underlying9 rfl ⟨rfl, Ext.refl _⟩) ?_
    refine f_op (fun gS : Nat => Value.slice (some ⟨gS, 0, none⟩) 5 5) (fun gS wz => Own wz w.heap.size 2 1 (some ⟨gS, 0, none⟩) 5 5 ((nodeH x).flatMap eI)) 0 rfl ⟨inj_own, fun _ _ _ h k => h.ext k, fun wq sq => ow_buildSlice el22 ti2 rfl rfl rfl rfl rfl (fun g w' hg ho hb hx hz => ⟨g, rfl, Own.low ho (Nat.le_trans X.size (sq).size), hx⟩)⟩ ?_
    intro gS
    refine f_nil (fun w8 sq => ?_)
    have xq := sq.1
    have oS := sq.2
    replace oO := oO.ext xq
    replace hs := hs.ext xq
    replace bY := bY.ext xq
    replace X := Ext.trans X xq; clear xq sq
    refine ops_cons rfl (ow_append (ts := #[]) oO X.size oS.sl (by first | rfl | simp) (by first | exact List.all_eq_true.1 rfl | simp [Value.oneCell']) el22 ti2 rfl rfl rfl rfl (by omega) (by omega) ?_)
    intro AoM coM w10 oM hg9
    replace hs := hs.grown hg9 (fun g hg => Nat.le_trans Bhs (Own.lt oO hg).1)
    replace bY := bY.grown hg9 (fun h => Own.neT oO bY (by decide) h.symm)
    replace X := X.grown hg9 X.size (fun g hg => (Own.lt oO hg).1)
    clear hg9
    refine ops_cons rfl (ow_assign rfl ?_)
    refine ops_nil ?_
    refine c_seqR ?_
    refine ops_cons rfl (ow_fieldAddrB off104_1 rfl rfl ?_)
    refine ops_cons rfl (ow_loadB bY ti9 rfl rfl ?_)
    refine ops_cons rfl (ow_lenS Tryz.underlying9 rfl ?_)
    refine ops_cons rfl (ow_move rfl ?_)
    refine ops_nil ?_
    refine c_block ?_
    refine c_loop (G := Nat × Nat × Option Addr × Nat) (fun ⟨j, n2, A2, c2⟩ => [(2, .slice none 0 0), (5, .pointer (some ⟨gX, 0, none⟩)), (10, .slice A xs.length c), (11, .int .i64 (xs.length : Nat)), (12, .int .i64 (k : Nat)), (16, .slice A1 n1 c1), (35, .int .i64 (x.name.size : Nat)), (3, .slice A2 n2 c2), (36, .int .i64 (j : Nat))]) (fun ⟨j, n2, A2, c2⟩ wr => j ≤ x.name.size ∧ n2 = ((ntP xs k ++ nodeH x) ++ (nameI x).take j).length ∧ n2 ≤ 1 + 11 * k + 5 + j ∧ Own wr w.heap.size 2 1 A2 n2 c2 (((ntP xs k ++ nodeH x) ++ (nameI x).take j).flatMap eI) ∧ Sl B wr A (xs.flatMap NodeI.cells) ∧ Blk wr gX 104 x.cells ∧ Ext w wr) (fun ⟨j, n2, A2, c2⟩ => x.name.size - j) (0, n1 + 5, AoM, coM) (.cons rfl (.cons rfl (.cons rfl (.cons rfl (.cons rfl (.cons rfl (.cons rfl (.cons rfl (.cons rfl (.nil _)))))))))) ?_ ?_
    · exact ⟨by omega, (by rw [List.take_zero, List.append_nil, List.length_append, ← hn]; rfl), (by omega), oM.to (by rw [List.take_zero, List.append_nil, List.flatMap_append]; try rfl), hs, bY, X⟩
    clear hs bY oM
    clear X
    rintro ⟨j, n2, A2, c2⟩ wr ⟨hj0, hn2, hn3, oP, hs, bY, X⟩
    refine c_seqR ?_
    refine ops_cons rfl (ow_lss2 rfl rfl (fun hj => ?_) (fun hj => ?_))
    · skip
      have hjl : j < x.name.size := by omega
      refine ops_nil ?_
      refine c_seq ?_
      refine c_true rfl ?_
      refine c_skip ?_
      refine tq_n ?_
      refine c_seq ?_
      refine c_block ?_
      refine c_seqR ?_
      refine ops_cons rfl (ow_move rfl ?_)
      refine ops_cons rfl (ow_assign rfl ?_)
      refine ops_nil ?_
      refine c_region ?_
      refine ops_cons rfl (ow_move rfl ?_)
      refine ops_cons rfl (ow_fieldAddrB off104_1 rfl rfl ?_)
      refine ops_cons rfl (ow_loadB bY ti9 rfl rfl ?_)
      refine ops_cons rfl (ow_move rfl ?_)
      refine ops_cons rfl (ow_indexS Tryz.underlying9 rfl rfl (by omega) (by omega) ?_)
      refine ops_cons rfl (ow_conv Tryz.underlying5 Tryz.underlying2 rfl (w64 (by have := (x.name.data.toList.getD ((j : Int)).toNat 0).toNat_lt; omega)) ?_)
      refine ops_cons rfl (ow_buildSlice el22 ti2 rfl rfl rfl rfl rfl ?_)
      intro g11 w13 eg11 oT bbg11 x12 zg11
      replace oT := Own.low oT X.size
      replace oP := oP.ext x12
      replace hs := hs.ext x12
      replace bY := bY.ext x12
      replace X := Ext.trans X x12; clear x12
      refine ops_cons rfl (ow_append (ts := #[]) oP X.size oT.sl (by first | rfl | simp) (by first | exact List.all_eq_true.1 rfl | simp [Value.oneCell']) el22 ti2 rfl rfl rfl rfl (by omega) (by omega) ?_)
      intro AoQ coQ w15 oQ hg14
      replace hs := hs.grown hg14 (fun g hg => Nat.le_trans Bhs (Own.lt oP hg).1)
      replace bY := bY.grown hg14 (fun h => Own.neT oP bY (by decide) h.symm)
      replace X := X.grown hg14 X.size (fun g hg => (Own.lt oP hg).1)
      clear hg14
      refine ops_cons rfl (ow_assign rfl ?_)
      refine ops_nil ?_
      refine bq_n ?_
      refine tq_n ?_
      refine c_region ?_
      refine ops_cons rfl (ow_add rfl rfl (w64 (by omega)) ?_)
      refine ops_cons rfl (ow_move rfl ?_)
      refine ops_nil ?_
      refine tq_n ⟨(j + 1, n2 + 1, AoQ, coQ), (.cons rfl (.cons rfl (.cons rfl (.cons rfl (.cons rfl (.cons rfl (.cons rfl (.cons rfl (.cons rfl (.nil _)))))))))), ?_, ?_⟩
      · exact ⟨by omega, (by rw [hn2, take_snoc (nameI_at hjl)]; simp only [List.length_append, List.length_cons, List.length_nil]; try omega), (by omega), oQ.to (by rw [take_snoc (nameI_at hjl), ← List.append_assoc]; exact Eq.symm (by rw [List.flatMap_append]; rfl)), hs, bY, X⟩
      · first | omega | (dsimp only; omega)
    · skip
      have hje : j = x.name.size := by omega
      refine ops_nil ?_
      refine c_seq ?_
      refine c_false rfl ?_
      refine c_exit ?_
      refine tq_e ?_
      refine tq_e ?_
      refine bq_e ?_
      refine bq_n ?_
      refine tq_n ?_
      refine c_region ?_
      refine ops_cons rfl (ow_add rfl rfl (w64 (by omega)) ?_)
      refine ops_cons rfl (ow_move rfl ?_)
      refine ops_nil ?_
      refine tq_n ⟨(k + 1, n2, A2, c2), (.cons rfl (.cons rfl (.cons rfl (.cons rfl (.cons rfl (.nil _)))))), ?_, ?_⟩
      · exact ⟨by omega, (by rw [ntP_step hx, List.length_append, hn2, List.length_append, hje, ← nameI_len, List.take_length]), (by omega), oP.to (by rw [ntP_step hx, hje, ← nameI_len, List.take_length]), hs, X⟩
      · first | omega | (dsimp only; omega)
  · skip
    refine ops_nil ?_
    refine c_seq ?_
    refine c_false rfl ?_
    refine c_exit ?_
    refine tq_e ?_
    refine tq_e ?_
    refine bq_e ?_
    refine tq_n ?_
    refine c_seqR ?_
    refine ops_cons rfl (ow_move rfl ?_)
    refine ops_cons rfl (ow_assign rfl ?_)
    refine ops_nil ?_
    refine c_ret ?_
    refine fin_ret1 rfl rfl ?_
    rw [show k = xs.length by omega] at oO hn
    unfold ntB
    rw [← hn]
    exact ⟨_, _, rfl, oO, X⟩
end Go.Proofs.YthdeoagoehkcfaaGreatDoor
