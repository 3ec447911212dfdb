/- Plans, as the program makes them. No condition. -/
import Derived.Test.YtimabffnoanciaaPP
namespace Go.Proofs.Ytimabffnoanciaa
open Go.RowKit
set_option linter.unusedVariables false
set_option linter.unusedSimpArgs false
set_option maxRecDepth 20000
theorem iPlan_c (A : Option Addr) (B c : Nat) (xs : List Dem) (R S : Nat) (w : World) (hs : Sl B w A (xs.flatMap Dem.cells)) (hE : ∀ d ∈ xs, 1 ≤ d.every ∧ d.every ≤ 8) (hl : xs.length ≤ 40) (hR : 1 ≤ R ∧ R ≤ 8) (hS : 1 ≤ S ∧ S ≤ 16) :
    Calls Try.prog 78 #[.slice A xs.length c, .int .i64 (R : Nat), .int .i64 (S : Nat)] w (Ret fun v w' => ∃ A' c', v = .tuple #[.slice A' ((planL S xs 0 (tab0 R S)).getD []).length c', .bool (planL S xs 0 (tab0 R S)).isSome] ∧ Own w' w.heap.size 102 2 A' ((planL S xs 0 (tab0 R S)).getD []).length c' (((planL S xs 0 (tab0 R S)).getD []).flatMap Bk.cells) ∧ Ext w w') := by
  have Bhs := hs.1
  have X := Ext.refl w
  refine calls_of (args := [.slice A xs.length c, .int .i64 (R : Nat), .int .i64 (S : Nat)]) Try.func78 Try.ntmps78 rfl rfl ?_
  refine c_seqR ?_
  refine ops_cons rfl (ow_assign rfl ?_)
  refine ops_cons rfl (ow_assign rfl ?_)
  refine ops_nil ?_
  refine c_seqR ?_
  refine ops_cons rfl (ow_move rfl ?_)
  refine ops_cons rfl (ow_move rfl ?_)
  refine ops_cons rfl (ow_call ent112 rfl (ret_mono (iEmpty_c R S _ hR.2 hS) ?_))
  rintro _ w2 ⟨AT, cT, y0, rfl, em, hdj, oT, oTn, x1⟩
  replace oT := Own.low oT X.size
  replace oTn := NOwn.low oTn X.size
  replace hs := hs.ext x1
  replace X := Ext.trans X x1; clear x1
  have hy0 : y0.length = R := by rw [← tblOf_len, em]; exact (tab0_tab R S).1
  refine ops_cons rfl (ow_buildSlice el45 ti102 rfl rfl rfl rfl rfl ?_)
  intro gB w4 egB oB bbgB x3 zgB
  replace oB := Own.low oB X.size
  replace hs := hs.ext x3
  replace oT := oT.ext x3
  replace oTn := oTn.ext x3
  replace X := Ext.trans X x3; clear x3
  refine ops_cons rfl (ow_assign rfl ?_)
  refine ops_cons rfl (ow_assign rfl ?_)
  refine ops_nil ?_
  refine c_seq ?_
  refine c_seqR ?_
  refine ops_cons rfl (ow_move rfl ?_)
  refine ops_cons rfl (ow_len Try.underlying36 rfl ?_)
  refine ops_cons rfl (ow_move rfl ?_)
  refine ops_nil ?_
  refine c_block ?_
  refine c_loop (G := Nat × List ModeI × List Bk × Nat × Option Addr × Nat) (fun ⟨k, ys, bs, n1, A1, c1⟩ => [(2, .int .i64 (S : Nat)), (18, .slice A xs.length c), (19, .int .i64 (xs.length : Nat)), (9, .slice A1 n1 c1), (8, .slice AT y0.length cT), (20, .int .i64 (k : Nat))]) (fun ⟨k, ys, bs, n1, A1, c1⟩ wr => k ≤ xs.length ∧ ys.length = y0.length ∧ Tab R S (tblOf ys) ∧ Disj ys ∧ n1 = bs.length ∧ bs.length = k ∧ (planL S xs 0 (tab0 R S)) = (planL S (xs.drop k) k (tblOf ys)).map (bs ++ ·) ∧ Own wr w.heap.size 24 1 AT y0.length cT (ys.flatMap rowC) ∧ NOwn wr w.heap.size 2 ys ∧ Own wr w.heap.size 102 2 A1 n1 c1 (bs.flatMap Bk.cells) ∧ Sl B wr A (xs.flatMap Dem.cells) ∧ Ext w wr) (fun ⟨k, ys, bs, n1, A1, c1⟩ => xs.length - k) (0, y0, [], 0, some ⟨gB, 0, none⟩, 0) (.cons rfl (.cons rfl (.cons rfl (.cons rfl (.cons rfl (.cons rfl (.nil _))))))) ?_ ?_
  · exact ⟨by omega, rfl, (by rw [em]; exact tab0_tab R S), hdj, rfl, rfl, (by rw [em, List.drop_zero]; cases planL S xs 0 (tab0 R S) <;> rfl), oT, oTn, oB, hs, X⟩
  clear hs oT oTn oB
  clear X
  rintro ⟨k, ys, bs, n1, A1, c1⟩ wr ⟨hk0, hyl, hT, hd, hn, hnk, hq, oT, oN, oB, hs, X⟩
  refine c_seqR ?_
  refine ops_cons rfl (ow_lss2 rfl rfl (fun hk => ?_) (fun hk => ?_))
  · skip
    obtain ⟨x, hx, dx⟩ := drop_at' hk
    have hex := hE x (List.mem_of_getElem? hx)
    have hcm : (S : Int) * x.every = ((S * x.every.toNat : Nat) : Int) := by rw [Int.natCast_mul, Int.toNat_of_nonneg (by omega)]
    have hb128 : S * x.every.toNat ≤ 16 * 8 := Nat.mul_le_mul hS.2 (by omega)
    refine ops_nil ?_
    refine c_seq ?_
    refine c_true rfl ?_
    refine c_skip ?_
    refine tq_n ?_
    refine c_seq ?_
    refine c_block ?_
    refine c_seqR ?_
    refine ops_cons rfl (ow_move rfl ?_)
    refine ops_cons rfl (ow_indexT hs Dem.len rfl el36 rfl rfl rfl hx rfl ?_)
    refine ops_cons rfl (ow_loadTA hs Dem.len hx ti79 rfl ?_)
    refine ops_cons rfl (ow_alloc ti79 ?_)
    intro gD w6 egD bD x5 zgD
    have lgD : w.heap.size ≤ gD := Nat.le_trans X.size (Nat.le_of_eq egD.symm)
    have pgDhs := Nat.le_trans hs.1 (Nat.le_of_eq egD.symm)
    replace oT := oT.ext x5
    replace oN := oN.ext x5
    replace oB := oB.ext x5
    replace hs := hs.ext x5
    replace X := Ext.trans X x5; clear x5
    refine ops_cons rfl (ow_assign rfl ?_)
    refine ops_cons rfl (ow_storeB bD ti79 rfl rfl rfl rfl rfl rfl ?_)
    intro w8 bD2 hg7 z9
    replace oT := oT.grownBlk hg7 (Own.neT oT bD (by decide))
    replace oN := oN.grownB bD hg7 (by decide)
    replace oB := oB.grownBlk hg7 (Own.neT oB bD (by decide))
    replace hs := hs.grown hg7 (by intro g hg; injection hg; omega)
    replace X := X.grown hg7 X.size (by intro g hg; injection hg; omega)
    clear hg7 bD
    refine ops_nil ?_
    refine c_seq ?_
    refine c_seqR ?_
    refine ops_cons rfl (ow_move rfl ?_)
    refine ops_cons rfl (ow_fieldAddrB off79_1 rfl rfl ?_)
    refine ops_cons rfl (ow_loadB bD2 ti2 rfl rfl ?_)
    refine ops_cons rfl (ow_mul rfl rfl (show IntKind.i64.wrap ((S : Int) * x.every) = ((S * x.every.toNat : Nat) : Int) by rw [hcm]; exact w64 (by omega)) ?_)
    refine ops_cons rfl (ow_move rfl ?_)
    refine ops_nil ?_
    refine c_block ?_
    refine c_loop (G := Nat × List ModeI) (fun ⟨i, ys2⟩ => [(2, .int .i64 (S : Nat)), (10, .int .i64 (k : Nat)), (11, .pointer (some ⟨gD, 0, none⟩)), (18, .slice A xs.length c), (19, .int .i64 (xs.length : Nat)), (20, .int .i64 (k : Nat)), (22, .int .i64 (k : Nat)), (25, .int .i64 (S : Nat)), (28, .int .i64 ((S * x.every.toNat : Nat) : Int)), (9, .slice A1 n1 c1), (8, .slice AT y0.length cT), (29, .int .i64 (i : Nat))]) (fun ⟨i, ys2⟩ wr => i ≤ S * x.every.toNat ∧ ys2.length = y0.length ∧ Tab R S (tblOf ys2) ∧ Disj ys2 ∧ tblOf ys2 = tblOf ys ∧ firstB (tblOf ys) x.every S = firstF (fun i => fitsB (tblOf ys) x.every (bkOf x.every.toNat i)) (S * x.every.toNat - i) i ∧ Own wr w.heap.size 24 1 AT y0.length cT (ys2.flatMap rowC) ∧ NOwn wr w.heap.size 2 ys2 ∧ Own wr w.heap.size 102 2 A1 n1 c1 (bs.flatMap Bk.cells) ∧ Sl B wr A (xs.flatMap Dem.cells) ∧ Blk wr gD 79 x.cells ∧ Ext w wr) (fun ⟨i, ys2⟩ => S * x.every.toNat - i) (0, ys) (.cons rfl (.cons rfl (.cons rfl (.cons rfl (.cons rfl (.cons rfl (.cons rfl (.cons rfl (.cons rfl (.cons rfl (.cons rfl (.cons rfl (.nil _))))))))))))) ?_ ?_
    · exact ⟨(Nat.zero_le _), hyl, hT, hd, rfl, (by unfold firstB; rfl), oT, oN, oB, hs, bD2, X⟩
    clear oT oN oB hs bD2
    clear X
    rintro ⟨i, ys2⟩ wr ⟨hi0, hyl2, hT2, hd2, e2, hfi, oT, oN, oB, hs, bD2, X⟩
    refine c_seqR ?_
    refine ops_cons rfl (ow_lss2 rfl rfl (fun hi1 => ?_) (fun hi1 => ?_))
    · skip
      have hq1 : (i : Int) / x.every = ((i / x.every.toNat : Nat) : Int) := by rw [Int.natCast_ediv, Int.toNat_of_nonneg (by omega)]
      have hq2 : (i : Int) % x.every = ((i % x.every.toNat : Nat) : Int) := by rw [Int.natCast_emod, Int.toNat_of_nonneg (by omega)]
      refine ops_nil ?_
      refine c_seq ?_
      refine c_true rfl ?_
      refine c_skip ?_
      refine tq_n ?_
      refine c_seq ?_
      refine c_block ?_
      refine c_seqR ?_
      refine ops_cons rfl (ow_move rfl ?_)
      refine ops_cons rfl (ow_assign rfl ?_)
      refine ops_nil ?_
      have Rhs := hs.1
      refine c_seqD [false, false, false, false, false, false, false, false, false, true] mixed (by kernel_rfl) ?_
      have UB := fun g hg => (Own.lt oB (g := g) hg).2
      refine f_q rfl (fun wq sq => ow_move rfl ⟨rfl, Ext.refl _⟩) ?_
      refine f_q rfl (fun wq sq => ow_fieldAddrB off79_1 rfl rfl ⟨rfl, Ext.refl _⟩) ?_
      refine f_q rfl (fun wq sq => ow_loadB (bD2.ext sq) ti2 rfl rfl ⟨rfl, Ext.refl _⟩) ?_
      refine f_q rfl (fun wq sq => ow_quo rfl rfl (by omega) (show IntKind.i64.wrap _ = ((i / x.every.toNat : Nat) : Int) by rw [q64 (by omega)]; exact hq1) ⟨rfl, Ext.refl _⟩) ?_
      refine f_q rfl (fun wq sq => ow_move rfl ⟨rfl, Ext.refl _⟩) ?_
      refine f_q rfl (fun wq sq => ow_fieldAddrB off79_1 rfl rfl ⟨rfl, Ext.refl _⟩) ?_
      refine f_q rfl (fun wq sq => ow_loadB (bD2.ext sq) ti2 rfl rfl ⟨rfl, Ext.refl _⟩) ?_
      refine f_q rfl (fun wq sq => ow_rem rfl rfl (by omega) ((m64 (by omega)).trans hq2) ⟨rfl, Ext.refl _⟩) ?_
      refine f_q rfl (fun wq sq => ow_buildP pl102 ti102 rfl rfl ⟨rfl, Ext.refl _⟩) ?_
      refine f_op (fun gQ : Nat => Value.pointer (some ⟨gQ, 0, none⟩)) (fun gQ wz => Blk wz gQ 102 (⟨0, 0⟩ : Bk).cells ∧ w.heap.size ≤ gQ ∧ wr.heap.size ≤ gQ ∧ gD < gQ) 0 rfl ⟨inj_ptr, fun _ _ _ h k => ⟨h.1.ext k, h.2⟩, fun wq sq => ow_alloc ti102 (fun g w' hg hb hx hz => ⟨g, rfl, ⟨hb, Nat.le_trans (Nat.le_trans X.size (sq).size) (Nat.le_of_eq hg.symm), Nat.le_trans (sq).size (Nat.le_of_eq hg.symm), Nat.lt_of_lt_of_eq (bD2.ext sq).lt hg.symm⟩, hx⟩)⟩ ?_
      intro gQ
      refine f_nil (fun w10 sq => ?_)
      have xq := sq.1
      have bQ := sq.2.1
      have lgQ := sq.2.2.1
      have rgQ := sq.2.2.2.1
      have ngQgD := sq.2.2.2.2
      replace oT := oT.ext xq
      replace oN := oN.ext xq
      replace oB := oB.ext xq
      replace hs := hs.ext xq
      replace bD2 := bD2.ext xq
      replace X := Ext.trans X xq; clear xq sq
      refine ops_cons rfl (ow_storeB bQ ti102 rfl rfl rfl rfl rfl rfl ?_)
      intro w12 bQ2 hg11 z13
      replace oT := oT.grownBlk hg11 (Own.neT oT bQ (by decide))
      replace oN := oN.grownB bQ hg11 (by decide)
      replace oB := oB.grownBlk hg11 (fun h => by have := UB _ h; omega)
      replace hs := hs.grown hg11 (by intro g hg; injection hg; omega)
      replace bD2 := bD2.grown hg11 (by intro h; injection h; omega)
      replace X := X.grown hg11 X.size (by intro g hg; injection hg; omega)
      clear hg11 bQ
      refine ops_nil ?_
      refine c_seqR ?_
      refine ops_cons rfl (ow_move rfl ?_)
      refine ops_cons rfl (ow_loadAB bD2 ti79 rfl rfl ?_)
      refine ops_cons rfl (ow_loadAB bQ2 ti102 rfl rfl ?_)
      refine ops_cons rfl (ow_move rfl ?_)
      refine ops_cons rfl (ow_call ent113 rfl (ret_mono (by have h := book_c AT cT w.heap.size _ ys2 R S x (bkOf x.every.toNat i) (k : Int) _ (by rw [hyl2]; exact oT) oN hd2 (fun y hy g hg => (Own.lt (oN y hy).1 hg).2) X.size hT2 hR hS hex; rw [hyl2] at h; exact h) ?_))
      rintro _ wM ⟨zs, rfl, eZ, hdZ, hlZ, oTZ, oNZ, xM⟩
      have xB := xM.below X.size
      replace hs := hs.below (Below.mono xB Bhs)
      replace oB := oB.kep xM.kep (by decide)
      replace bD2 := bD2.kep xM.kep (by decide)
      replace bQ2 := bQ2.kep xM.kep (by decide)
      replace X := Below.trans X xB
      replace oT := oTZ
      replace oN := oNZ
      cases hF : (fitsB (tblOf ys2) x.every (bkOf x.every.toNat i))
      · skip
        rw [if_neg (by rw [hF]; simp)] at eZ
        have hFn : (fun i => fitsB (tblOf ys) x.every (bkOf x.every.toNat i)) i = false := by rw [e2] at hF; exact hF
        refine ops_nil ?_
        refine c_false rfl ?_
        refine c_skip ?_
        refine bq_n ?_
        refine tq_n ?_
        refine c_region ?_
        refine ops_cons rfl (ow_add rfl rfl (w64 (by omega)) ?_)
        refine ops_cons rfl (ow_move rfl ?_)
        refine ops_nil ?_
        refine tq_n ⟨(i + 1, zs), (.cons rfl (.cons rfl (.cons rfl (.cons rfl (.cons rfl (.cons rfl (.cons rfl (.cons rfl (.cons rfl (.cons rfl (.cons rfl (.cons rfl (.nil _))))))))))))), ?_, ?_⟩
        · exact ⟨(by omega), hlZ, (by rw [eZ]; exact hT2), hdZ, (eZ.trans e2), (by rw [hfi, firstF_no (by omega) hFn, show S * x.every.toNat - i - 1 = S * x.every.toNat - (i + 1) by omega]), by omega, by omega, oB, hs, bD2, X⟩
        · first | omega | (dsimp only; omega)
      · skip
        rw [if_pos hF] at eZ
        have hY : firstB (tblOf ys) x.every S = some i := by rw [hfi, firstF_yes (by omega) (by rw [e2] at hF; exact hF)]
        refine ops_nil ?_
        refine c_true rfl ?_
        refine c_seqR ?_
        refine ops_cons rfl (ow_move rfl ?_)
        refine ops_cons rfl (ow_loadAB bQ2 ti102 rfl rfl ?_)
        refine ops_cons rfl (ow_buildSlice el45 ti102 rfl rfl rfl rfl rfl ?_)
        intro g14 w16 eg14 oV bbg14 x15 zg14
        replace oV := Own.low oV X.size
        replace oT := oT.ext x15
        replace oN := oN.ext x15
        replace oB := oB.ext x15
        replace hs := hs.ext x15
        replace bD2 := bD2.ext x15
        replace bQ2 := bQ2.ext x15
        replace X := Ext.trans X x15; clear x15
        refine ops_cons rfl (ow_append (ts := #[]) oB X.size oV.sl (by first | rfl | simp) (by first | exact List.all_eq_true.1 rfl | simp [Value.oneCell']) el45 ti102 rfl rfl rfl rfl (by omega) (by omega) ?_)
        intro AoA coA w18 oA hg17
        replace oT := oT.grown hg17 (Own.neO oT oB (by decide))
        replace oN := oN.grownO oB hg17 (by decide)
        replace hs := hs.grown hg17 (fun g hg => Nat.le_trans Bhs (Own.lt oB hg).1)
        replace bD2 := bD2.grown hg17 (fun h => Own.neT oB bD2 (by decide) h.symm)
        replace bQ2 := bQ2.grown hg17 (fun h => by have := UB _ h.symm; omega)
        replace X := X.grown hg17 X.size (fun g hg => (Own.lt oB hg).1)
        clear hg17
        refine ops_cons rfl (ow_assign rfl ?_)
        refine ops_nil ?_
        refine c_exit ?_
        refine bq_o rfl ?_
        refine tq_e ?_
        refine tq_e ?_
        refine bq_e ?_
        refine tq_n ?_
        refine c_seqR ?_
        refine ops_cons rfl (ow_move rfl ?_)
        refine ops_cons rfl (ow_len Try.underlying45 rfl ?_)
        refine ops_cons rfl (ow_move rfl ?_)
        refine ops_cons rfl (ow_eql2 rfl rfl (fun h19 => absurd h19 (by omega)) (fun h19 => ?_))
        refine ops_nil ?_
        refine c_false rfl ?_
        refine c_skip ?_
        refine bq_n ?_
        refine tq_n ?_
        refine c_region ?_
        refine ops_cons rfl (ow_add rfl rfl (w64 (by omega)) ?_)
        refine ops_cons rfl (ow_move rfl ?_)
        refine ops_nil ?_
        refine tq_n ⟨(k + 1, zs, bs ++ [(bkOf x.every.toNat i)], n1 + 1, AoA, coA), (.cons rfl (.cons rfl (.cons rfl (.cons rfl (.cons rfl (.cons rfl (.nil _))))))), ?_, ?_⟩
        · exact ⟨by omega, hlZ, (by rw [eZ]; exact hT2.putB _ _ _), hdZ, (by simp [hn]), (by simp [hnk]), (by rw [hq, dx, planL_some hY, map_snoc, ← e2, ← eZ]), by omega, oN, oA.to (snoc Bk.cells bs (bkOf x.every.toNat i)).symm, hs, X⟩
        · first | omega | (dsimp only; omega)
    · skip
      refine ops_nil ?_
      refine c_seq ?_
      refine c_false rfl ?_
      refine c_exit ?_
      refine tq_e ?_
      refine tq_e ?_
      refine bq_e ?_
      refine tq_n ?_
      refine c_seqR ?_
      refine ops_cons rfl (ow_move rfl ?_)
      refine ops_cons rfl (ow_len Try.underlying45 rfl ?_)
      refine ops_cons rfl (ow_move rfl ?_)
      refine ops_cons rfl (ow_eql2 rfl rfl (fun h20 => ?_) (fun h20 => absurd h20 (by omega)))
      refine ops_nil ?_
      refine c_true rfl ?_
      refine c_seqR ?_
      refine ops_cons rfl (ow_assign rfl ?_)
      refine ops_cons rfl (ow_assign rfl ?_)
      refine ops_nil ?_
      refine c_ret ?_
      refine bq_r ?_
      refine tq_r ?_
      refine tq_r ?_
      refine bq_r ?_
      refine tq_r ?_
      refine fin_ret2 rfl rfl rfl ?_
      first
      | (have hY : (planL S xs 0 (tab0 R S)) = some bs := by rw [hq, hkk, List.drop_length]; simp [planL]
         rw [hY]
         subst hn
         exact ⟨A1, c1, rfl, oB, X⟩)
      | (have hN : (planL S xs 0 (tab0 R S)) = none := by rw [hq, dx, planL_none (by rw [hfi, firstF_zero (by omega)])]; rfl
         rw [hN]; exact ⟨none, 0, rfl, Own.nil_ _ _ _ _, X⟩)
  · skip
    have hkk : k = xs.length := by omega
    refine ops_nil ?_
    refine c_seq ?_
    refine c_false rfl ?_
    refine c_exit ?_
    refine tq_e ?_
    refine tq_e ?_
    refine bq_e ?_
    refine tq_n ?_
    refine c_seqR ?_
    refine ops_cons rfl (ow_move rfl ?_)
    refine ops_cons rfl (ow_assign rfl ?_)
    refine ops_cons rfl (ow_assign rfl ?_)
    refine ops_nil ?_
    refine c_ret ?_
    refine fin_ret2 rfl rfl rfl ?_
    first
    | (have hY : (planL S xs 0 (tab0 R S)) = some bs := by rw [hq, hkk, List.drop_length]; simp [planL]
       rw [hY]
       subst hn
       exact ⟨A1, c1, rfl, oB, X⟩)
    | (have hN : (planL S xs 0 (tab0 R S)) = none := by rw [hq, dx, planL_none (by rw [hfi, firstF_zero (by omega)])]; rfl
       rw [hN]; exact ⟨none, 0, rfl, Own.nil_ _ _ _ _, X⟩)
end Go.Proofs.Ytimabffnoanciaa
