/- Texts of the seat that a law needs, put together. No condition. -/
import Derived.Test.YtdoibplhbdkapaaGreatDoorDMP11
import Derived.Test.YtdoibplhbdkapaaGreatDoorDMP6
import Derived.Test.YtdoibplhbdkapaaGreatDoorDMP7
import Derived.Test.YtdoibplhbdkapaaGreatDoorDMP10
namespace Go.Proofs.YtdoibplhbdkapaaGreatDoor
open Go.RowKit
set_option linter.unusedVariables false
set_option linter.unusedSimpArgs false
set_option maxRecDepth 20000
theorem readModes_c (A : Option Addr) (B c : Nat) (xs : List Int) (w : World) (hs : Sl B w A (xs.flatMap eI)) (hl : xs.length ≤ 1048576) (hB : isB xs = true) :
    Calls Tryz.prog 77 #[.slice A xs.length c] w (Ret fun v w' => ∃ A' c' ys sz ok, v = .tuple #[.slice A' (List.length ys) c', .int .i64 sz, .bool ok] ∧ RdM (rdM xs) (ys.map (·.m)) sz ok ∧ Disj ys ∧ Own w' w.heap.size 92 3 A' ys.length c' (ys.flatMap ModeI.cells) ∧ NOwn w' w.heap.size 2 ys ∧ Ext w w') := by
  have Bhs := hs.1
  have X := Ext.refl w
  refine calls_of (args := [.slice A xs.length c]) Tryz.func77 Tryz.ntmps77 rfl rfl ?_
  refine c_seqR ?_
  refine ops_cons rfl (ow_assign rfl ?_)
  refine ops_cons rfl (ow_assign rfl ?_)
  refine ops_cons rfl (ow_assign rfl ?_)
  refine ops_nil ?_
  refine c_seqR ?_
  refine ops_cons rfl (ow_move rfl ?_)
  refine ops_cons rfl (ow_buildP pl166 ti166 rfl rfl ?_)
  refine ops_cons rfl (ow_box rfl rfl ?_)
  intro gC w2 egC q x1 zgC
  have lgC : w.heap.size ≤ gC := Nat.le_trans X.size (Nat.le_of_eq egC.symm)
  have pgChs := Nat.le_trans hs.1 (Nat.le_of_eq egC.symm)
  replace hs := hs.ext x1
  replace X := Ext.trans X x1; clear x1
  have q : Blk _ gC 166 (curC A c xs 0 false) := q
  refine ops_cons rfl (ow_buildSlice el25 ti92 rfl rfl rfl rfl rfl ?_)
  intro gO w4 egO oT bbgO x3 zgO
  replace oT := Own.low oT X.size
  replace hs := hs.ext x3
  replace q := q.ext x3
  replace X := Ext.trans X x3; clear x3
  refine ops_cons rfl (ow_assign rfl ?_)
  refine ops_cons rfl (ow_assign rfl ?_)
  refine ops_nil ?_
  refine c_seq ?_
  refine c_seqR ?_
  refine ops_cons rfl (ow_move rfl ?_)
  refine ops_cons rfl (ow_call ent160 rfl (ret_mono (next_c A B c xs gC 0 false _ q hs hl (Nat.zero_le _) (by omega)) ?_))
  rintro _ w6 ⟨rfl, q1, x5⟩
  replace hs := hs.grown x5 (by intro g hg; injection hg; omega)
  replace oT := oT.grownBlk x5 (Own.neT oT q (by decide))
  replace X := X.grown x5 X.size (by intro g hg; injection hg; omega)
  clear x5 q
  refine ops_cons rfl (ow_assign rfl ?_)
  refine ops_nil ?_
  refine c_block ?_
  refine c_loop (G := Nat × Nat × Bool × List ModeI × Nat × Option Addr × Nat × Int) (fun ⟨rem, a, b, ys, n1, A1, c1, tm⟩ => [(2, .slice none 0 0), (3, .int .i64 0), (4, .bool false), (5, .pointer (some ⟨gC, 0, none⟩)), (7, .int .i64 tm), (6, .slice A1 n1 c1)]) (fun ⟨rem, a, b, ys, n1, A1, c1, tm⟩ wr => a ≤ xs.length ∧ n1 = ys.length ∧ tm = (rem : Int) ∧ n1 + rem ≤ 255 ∧ HgM xs rem a b (ys.map (·.m)) ∧ (∀ y ∈ ys, y.m.next.length ≤ 255) ∧ Disj ys ∧ Blk wr gC 166 (curC A c xs a b) ∧ Own wr w.heap.size 92 3 A1 n1 c1 (ys.flatMap ModeI.cells) ∧ NOwn wr w.heap.size 2 ys ∧ Sl B wr A (xs.flatMap eI) ∧ Ext w wr) (fun ⟨rem, a, b, ys, n1, A1, c1, tm⟩ => rem) ((nV xs 0).toNat, nAt xs 0, nBad xs 0 false, [], 0, some ⟨gO, 0, none⟩, 0, nV xs 0) (.cons rfl (.cons rfl (.cons rfl (.cons rfl (.cons rfl (.cons rfl (.nil _))))))) ?_ ?_
  · exact ⟨(nAt_le (Nat.zero_le _)), rfl, (by have := nV_in hB 0; omega), (by have := nV_in hB 0; show 0 + _ ≤ _; omega), (HgM.start xs), (fun y hy => by simp at hy), Disj.nil_, q1, oT, NOwn.nil_, hs, X⟩
  clear hs oT q1
  clear X
  rintro ⟨rem, a, b, ys, n1, A1, c1, tm⟩ wr ⟨ha1, hn, htm, hrm, hg, hnl, hd, q, oT, oN, hs, X⟩
  refine c_seq ?_
  refine c_seqR ?_
  refine ops_cons rfl (ow_move rfl ?_)
  refine ops_cons rfl (ow_gtr2 rfl rfl (fun h7 => ?_) (fun h7 => ?_))
  refine ops_cons rfl (ow_move rfl ?_)
  refine ops_want rfl rfl rfl (ow_move rfl ?_)
  refine ops_want rfl rfl rfl (ow_nilCheck rfl ?_)
  refine ops_want rfl rfl rfl (ow_fieldAddrB off166_2 rfl rfl ?_)
  refine ops_want rfl rfl rfl (ow_loadB q ti4 rfl rfl ?_)
  refine ops_want rfl rfl rfl (ow_not rfl ?_)
  refine ops_cons rfl (ow_pick rfl rfl ?_)
  refine ops_nil ?_
  refine c_split rfl (fun h8 => ?_) (fun h8 => ?_)
  refine c_skip ?_
  refine tq_n ?_
  refine c_seq ?_
  refine c_block ?_
  refine c_seqR ?_
  refine ops_cons rfl (ow_move rfl ?_)
  have hb0 : b = false := by simpa using ‹(!b) = true›
  subst hb0
  refine ops_cons rfl (ow_call ent160 rfl (ret_mono (next_c A B c xs gC a false _ q hs hl ha1 (by omega)) ?_))
  rintro _ w10 ⟨rfl, q2, x9⟩
  replace oT := oT.grownBlk x9 (Own.neT oT q (by decide))
  replace oN := oN.grownB q x9 (by decide)
  replace hs := hs.grown x9 (by intro g hg; injection hg; omega)
  replace X := X.grown x9 X.size (by intro g hg; injection hg; omega)
  clear x9 q
  refine ops_cons rfl (ow_buildP pl92 ti92 rfl rfl ?_)
  have UT := fun g hg => (Own.lt oT (g := g) hg).2
  refine ops_cons rfl (ow_alloc ti92 ?_)
  intro gX w12 egX bX x11 zgX
  have lgX : w.heap.size ≤ gX := Nat.le_trans X.size (Nat.le_of_eq egX.symm)
  have pgXhs := Nat.le_trans hs.1 (Nat.le_of_eq egX.symm)
  have ngXq2 := Nat.lt_of_lt_of_eq q2.lt egX.symm
  replace oT := oT.ext x11
  replace oN := oN.ext x11
  replace hs := hs.ext x11
  replace q2 := q2.ext x11
  replace X := Ext.trans X x11; clear x11
  refine ops_cons rfl (ow_storeB bX ti92 rfl rfl rfl rfl rfl rfl ?_)
  intro w14 bY hg13 z15
  replace oT := oT.grownBlk hg13 (fun h => by have := UT _ h; omega)
  replace oN := oN.grownB bX hg13 (by decide)
  replace hs := hs.grown hg13 (by intro g hg; injection hg; omega)
  replace q2 := q2.grown hg13 (by intro h; injection h; omega)
  replace X := X.grown hg13 X.size (by intro g hg; injection hg; omega)
  clear hg13 bX
  refine ops_nil ?_
  refine c_seqR ?_
  refine ops_cons rfl (ow_move rfl ?_)
  refine ops_cons rfl (ow_call ent160 rfl (ret_mono (next_c A B c xs gC _ _ _ q2 hs hl (nAt_le ha1) (by omega)) ?_))
  rintro _ w17 ⟨rfl, q3, x16⟩
  replace oT := oT.grownBlk x16 (Own.neT oT q2 (by decide))
  replace oN := oN.grownB q2 x16 (by decide)
  replace hs := hs.grown x16 (by intro g hg; injection hg; omega)
  replace bY := bY.grown x16 (by intro h; injection h; omega)
  replace X := X.grown x16 X.size (by intro g hg; injection hg; omega)
  clear x16 q2
  refine ops_cons rfl (ow_fieldAddrB off92_1 rfl rfl ?_)
  refine ops_cons rfl (ow_storeB bY ti2 rfl rfl rfl rfl rfl rfl ?_)
  intro w19 bZ hg18 z20
  replace oT := oT.grownBlk hg18 (fun h => by have := UT _ h; omega)
  replace oN := oN.grownB bY hg18 (by decide)
  replace hs := hs.grown hg18 (by intro g hg; injection hg; omega)
  replace q3 := q3.grown hg18 (by intro h; injection h; omega)
  replace X := X.grown hg18 X.size (by intro g hg; injection hg; omega)
  clear hg18 bY
  refine ops_nil ?_
  refine c_seqR ?_
  refine ops_cons rfl (ow_move rfl ?_)
  refine ops_cons rfl (ow_move rfl ?_)
  refine ops_cons rfl (ow_call ent160 rfl (ret_mono (next_c A B c xs gC _ _ _ q3 hs hl (nAt_le (nAt_le ha1)) (by omega)) ?_))
  rintro _ w22 ⟨rfl, q4, x21⟩
  replace oT := oT.grownBlk x21 (Own.neT oT q3 (by decide))
  replace oN := oN.grownB q3 x21 (by decide)
  replace hs := hs.grown x21 (by intro g hg; injection hg; omega)
  replace bZ := bZ.grown x21 (by intro h; injection h; omega)
  replace X := X.grown x21 X.size (by intro g hg; injection hg; omega)
  clear x21 q3
  have hbd := fun y hy g hg => (Own.lt (oN y hy).1 (g := g) hg).2
  have LP := X.size
  refine ops_cons rfl (ow_call ent161 rfl (ret_mono (some_c A B c xs gC _ _ _ _ q4 hs hl (nAt_le (nAt_le (nAt_le ha1))) (by omega) (by have := nV_in hB (nAt xs (nAt xs a)); omega)) ?_))
  rintro _ w24 ⟨AP, cP, rfl, oP, q5, x23⟩
  replace oT := oT.grownBlk x23 (Own.neT oT q4 (by decide))
  replace oN := oN.grownB q4 x23 (by decide)
  replace hs := hs.grown x23 (by intro g hg; injection hg; omega)
  replace bZ := bZ.grown x23 (by intro h; injection h; omega)
  replace X := X.grown x23 X.size (by intro g hg; injection hg; omega)
  clear x23 q4
  have hnb := fun g hg => (Own.lt oP (g := g) hg).1
  replace oP := Own.low oP LP
  refine ops_cons rfl (ow_fieldAddrB off92_2 rfl rfl ?_)
  refine ops_cons rfl (ow_storeB bZ ti30 rfl rfl rfl rfl rfl rfl ?_)
  intro w26 bW hg25 z27
  replace oT := oT.grownBlk hg25 (fun h => by have := UT _ h; omega)
  replace oN := oN.grownB bZ hg25 (by decide)
  replace hs := hs.grown hg25 (by intro g hg; injection hg; omega)
  replace q5 := q5.grown hg25 (by intro h; injection h; omega)
  replace oP := oP.grownBlk hg25 (Own.neT oP bZ (by decide))
  replace X := X.grown hg25 X.size (by intro g hg; injection hg; omega)
  clear hg25 bZ
  refine ops_nil ?_
  refine c_region ?_
  refine ops_cons rfl (ow_move rfl ?_)
  refine ops_cons rfl (ow_loadAB bW ti92 rfl rfl ?_)
  refine ops_cons rfl (ow_buildSlice el25 ti92 rfl rfl rfl rfl rfl ?_)
  intro g28 w30 eg28 oV bbg28 x29 zg28
  replace oV := Own.low oV X.size
  replace oT := oT.ext x29
  replace oN := oN.ext x29
  replace hs := hs.ext x29
  replace q5 := q5.ext x29
  replace oP := oP.ext x29
  replace bW := bW.ext x29
  replace X := Ext.trans X x29; clear x29
  refine ops_cons rfl (ow_append (ts := #[]) oT X.size oV.sl (by first | rfl | simp) (by first | exact List.all_eq_true.1 rfl | simp [Value.oneCell']) el25 ti92 rfl rfl rfl rfl (by omega) (by omega) ?_)
  intro AoU coU w32 oU hg31
  replace oN := oN.grownO oT hg31 (by decide)
  replace hs := hs.grown hg31 (fun g hg => Nat.le_trans Bhs (Own.lt oT hg).1)
  replace q5 := q5.grown hg31 (fun h => Own.neT oT q5 (by decide) h.symm)
  replace oP := oP.grown hg31 (Own.neO oP oT (by decide))
  replace bW := bW.grown hg31 (fun h => by have := UT _ h.symm; omega)
  replace X := X.grown hg31 X.size (fun g hg => (Own.lt oT hg).1)
  clear hg31
  refine ops_cons rfl (ow_assign rfl ?_)
  refine ops_nil ?_
  refine bq_n ?_
  refine tq_n ?_
  refine c_region ?_
  refine ops_cons rfl (ow_move rfl ?_)
  refine ops_cons rfl (ow_sub rfl rfl (w64 (by omega)) ?_)
  refine ops_cons rfl (ow_assign rfl ?_)
  refine ops_nil ?_
  refine tq_n ⟨(rem - 1, (entR xs a).2.1, (entR xs a).2.2, ys ++ [⟨⟨nV xs a, nV xs (nAt xs a), (entR xs a).1⟩, AP, cP⟩], n1 + 1, AoU, coU, tm - 1), (.cons rfl (.cons rfl (.cons rfl (.cons rfl (.cons rfl (.cons rfl (.nil _))))))), ?_, ?_⟩
  · skip
    exact ⟨(entR_in hB ha1).1, (by simp [hn]), (by omega), (by omega), (by have := hg.step (by omega) ha1; rw [List.map_append]; exact this), (by
      intro y hy
      rcases List.mem_append.1 hy with h | h
      · exact hnl y h
      · obtain rfl : y = ⟨⟨nV xs a, nV xs (nAt xs a), (entR xs a).1⟩, AP, cP⟩ := by simpa using h
        exact (entR_in hB ha1).2), (hd.snoc (x := ⟨⟨nV xs a, nV xs (nAt xs a), (entR xs a).1⟩, AP, cP⟩) (fun y hy g hg e => absurd (hbd y hy g hg) (Nat.not_lt.2 (hnb g e)))), q5, oU.to (snoc ModeI.cells ys ⟨⟨nV xs a, nV xs (nAt xs a), (entR xs a).1⟩, AP, cP⟩).symm, oN.snoc (x := ⟨⟨nV xs a, nV xs (nAt xs a), (entR xs a).1⟩, AP, cP⟩) oP (by show (entR xs a).1.length ≤ _; have := (entR_in hB ha1).2; omega), hs, X⟩
  · first | omega | (dsimp only; omega)
  refine c_exit ?_
  refine tq_e ?_
  refine tq_e ?_
  refine bq_e ?_
  refine tq_n ?_
  refine c_seq ?_
  refine c_seqR ?_
  refine ops_cons rfl (ow_move rfl ?_)
  subst hn
  refine ops_cons rfl (ow_nilCheck rfl ?_)
  refine ops_cons rfl (ow_fieldAddrB off166_2 rfl rfl ?_)
  refine ops_cons rfl (ow_loadB q ti4 rfl rfl ?_)
  cases hb1 : b
  refine ops_cons rfl (ow_move rfl ?_)
  refine ops_want rfl rfl rfl (ow_move rfl ?_)
  refine ops_want rfl rfl rfl (ow_callB ent163 rfl (iIsMT_c _ _ _ _ ys _ oT.sl oN.nexts (by omega) (fun x hx => by have := hnl x hx; omega)) (fun w34 hIT x33 => ?_) (fun w34 hIT x33 => ?_))
  replace q := q.ext x33
  replace oT := oT.ext x33
  replace oN := oN.ext x33
  replace hs := hs.ext x33
  replace X := Ext.trans X x33; clear x33
  refine ops_want rfl rfl rfl (ow_not rfl ?_)
  refine ops_cons rfl (ow_pick rfl rfl ?_)
  refine ops_nil ?_
  refine c_false rfl ?_
  refine c_skip ?_
  refine tq_n ?_
  refine c_seqD [false, false, false, false, false, false, false, false] mixed (by kernel_rfl) ?_
  refine f_q rfl (fun wq sq => ow_move rfl ⟨rfl, Ext.refl _⟩) ?_
  refine f_q rfl (fun wq sq => ow_move rfl ⟨rfl, Ext.refl _⟩) ?_
  refine f_q rfl (fun wq sq => ow_nilCheck rfl ⟨rfl, Ext.refl _⟩) ?_
  refine f_q rfl (fun wq sq => ow_fieldAddrB off166_1 rfl rfl ⟨rfl, Ext.refl _⟩) ?_
  refine f_q rfl (fun wq sq => ow_loadB (q.ext sq) ti3 rfl rfl ⟨rfl, Ext.refl _⟩) ?_
  refine f_q rfl (fun wq sq => ow_assign rfl ⟨rfl, Ext.refl _⟩) ?_
  refine f_q rfl (fun wq sq => ow_assign rfl ⟨rfl, Ext.refl _⟩) ?_
  refine f_q rfl (fun wq sq => ow_assign rfl ⟨rfl, Ext.refl _⟩) ?_
  refine f_nil (fun w35 sq => ?_)
  have xq := sq
  replace q := q.ext xq
  replace oT := oT.ext xq
  replace oN := oN.ext xq
  replace hs := hs.ext xq
  replace X := Ext.trans X xq; clear xq sq
  refine ops_nil ?_
  refine c_ret ?_
  refine fin_ret3 rfl rfl rfl rfl ?_
  · skip
    subst hb1
    first
    | (exact absurd ‹(!false) = false› (by decide))
    | (have HN : rdM xs = none := hg.2 rfl
       exact ⟨none, 0, [], 0, false, rfl, (by rw [HN]; exact ⟨rfl, rfl, rfl⟩), Disj.nil_, Own.nil_ _ _ _ _, NOwn.nil_, X⟩)
    | (have hr0 : rem = 0 := by omega
       subst hr0
       have HN : rdM xs = none := hg.stop.2 hIT
       exact ⟨none, 0, [], 0, false, rfl, (by rw [HN]; exact ⟨rfl, rfl, rfl⟩), Disj.nil_, Own.nil_ _ _ _ _, NOwn.nil_, X⟩)
    | (have hr0 : rem = 0 := by omega
       subst hr0
       have HS : rdM xs = some (ys.map (·.m), a) := hg.stop.1 hIT
       exact ⟨_, _, ys, _, true, rfl, (by rw [HS]; exact ⟨rfl, rfl, rfl⟩), hd, oT, oN, X⟩)
  replace q := q.ext x33
  replace oT := oT.ext x33
  replace oN := oN.ext x33
  replace hs := hs.ext x33
  replace X := Ext.trans X x33; clear x33
  refine ops_want rfl rfl rfl (ow_not rfl ?_)
  refine ops_cons rfl (ow_pick rfl rfl ?_)
  refine ops_nil ?_
  refine c_true rfl ?_
  refine c_seqR ?_
  refine ops_cons rfl (ow_assign rfl ?_)
  refine ops_cons rfl (ow_assign rfl ?_)
  refine ops_cons rfl (ow_assign rfl ?_)
  refine ops_nil ?_
  refine c_ret ?_
  refine tq_r ?_
  refine fin_ret3 rfl rfl rfl rfl ?_
  · skip
    subst hb1
    first
    | (exact absurd ‹(!false) = false› (by decide))
    | (have HN : rdM xs = none := hg.2 rfl
       exact ⟨none, 0, [], 0, false, rfl, (by rw [HN]; exact ⟨rfl, rfl, rfl⟩), Disj.nil_, Own.nil_ _ _ _ _, NOwn.nil_, X⟩)
    | (have hr0 : rem = 0 := by omega
       subst hr0
       have HN : rdM xs = none := hg.stop.2 hIT
       exact ⟨none, 0, [], 0, false, rfl, (by rw [HN]; exact ⟨rfl, rfl, rfl⟩), Disj.nil_, Own.nil_ _ _ _ _, NOwn.nil_, X⟩)
    | (have hr0 : rem = 0 := by omega
       subst hr0
       have HS : rdM xs = some (ys.map (·.m), a) := hg.stop.1 hIT
       exact ⟨_, _, ys, _, true, rfl, (by rw [HS]; exact ⟨rfl, rfl, rfl⟩), hd, oT, oN, X⟩)
  refine ops_cons rfl (ow_move rfl ?_)
  refine ops_skip rfl rfl rfl rfl ?_
  refine ops_skip rfl rfl rfl rfl ?_
  refine ops_skip rfl rfl rfl rfl ?_
  refine ops_cons rfl (ow_pick rfl rfl ?_)
  refine ops_nil ?_
  refine c_true rfl ?_
  refine c_seqR ?_
  refine ops_cons rfl (ow_assign rfl ?_)
  refine ops_cons rfl (ow_assign rfl ?_)
  refine ops_cons rfl (ow_assign rfl ?_)
  refine ops_nil ?_
  refine c_ret ?_
  refine tq_r ?_
  refine fin_ret3 rfl rfl rfl rfl ?_
  · skip
    subst hb1
    first
    | (exact absurd ‹(!false) = false› (by decide))
    | (have HN : rdM xs = none := hg.2 rfl
       exact ⟨none, 0, [], 0, false, rfl, (by rw [HN]; exact ⟨rfl, rfl, rfl⟩), Disj.nil_, Own.nil_ _ _ _ _, NOwn.nil_, X⟩)
    | (have hr0 : rem = 0 := by omega
       subst hr0
       have HN : rdM xs = none := hg.stop.2 hIT
       exact ⟨none, 0, [], 0, false, rfl, (by rw [HN]; exact ⟨rfl, rfl, rfl⟩), Disj.nil_, Own.nil_ _ _ _ _, NOwn.nil_, X⟩)
    | (have hr0 : rem = 0 := by omega
       subst hr0
       have HS : rdM xs = some (ys.map (·.m), a) := hg.stop.1 hIT
       exact ⟨_, _, ys, _, true, rfl, (by rw [HS]; exact ⟨rfl, rfl, rfl⟩), hd, oT, oN, X⟩)
  refine ops_cons rfl (ow_move rfl ?_)
  refine ops_skip rfl rfl rfl rfl ?_
  refine ops_skip rfl rfl rfl rfl ?_
  refine ops_skip rfl rfl rfl rfl ?_
  refine ops_skip rfl rfl rfl rfl ?_
  refine ops_skip rfl rfl rfl rfl ?_
  refine ops_cons rfl (ow_pick rfl rfl ?_)
  refine ops_nil ?_
  refine c_false rfl ?_
  refine c_exit ?_
  refine tq_e ?_
  refine tq_e ?_
  refine bq_e ?_
  refine tq_n ?_
  refine c_seq ?_
  refine c_seqR ?_
  refine ops_cons rfl (ow_move rfl ?_)
  subst hn
  refine ops_cons rfl (ow_nilCheck rfl ?_)
  refine ops_cons rfl (ow_fieldAddrB off166_2 rfl rfl ?_)
  refine ops_cons rfl (ow_loadB q ti4 rfl rfl ?_)
  cases hb1 : b
  refine ops_cons rfl (ow_move rfl ?_)
  refine ops_want rfl rfl rfl (ow_move rfl ?_)
  refine ops_want rfl rfl rfl (ow_callB ent163 rfl (iIsMT_c _ _ _ _ ys _ oT.sl oN.nexts (by omega) (fun x hx => by have := hnl x hx; omega)) (fun w37 hIT x36 => ?_) (fun w37 hIT x36 => ?_))
  replace q := q.ext x36
  replace oT := oT.ext x36
  replace oN := oN.ext x36
  replace hs := hs.ext x36
  replace X := Ext.trans X x36; clear x36
  refine ops_want rfl rfl rfl (ow_not rfl ?_)
  refine ops_cons rfl (ow_pick rfl rfl ?_)
  refine ops_nil ?_
  refine c_false rfl ?_
  refine c_skip ?_
  refine tq_n ?_
  refine c_seqD [false, false, false, false, false, false, false, false] mixed (by kernel_rfl) ?_
  refine f_q rfl (fun wq sq => ow_move rfl ⟨rfl, Ext.refl _⟩) ?_
  refine f_q rfl (fun wq sq => ow_move rfl ⟨rfl, Ext.refl _⟩) ?_
  refine f_q rfl (fun wq sq => ow_nilCheck rfl ⟨rfl, Ext.refl _⟩) ?_
  refine f_q rfl (fun wq sq => ow_fieldAddrB off166_1 rfl rfl ⟨rfl, Ext.refl _⟩) ?_
  refine f_q rfl (fun wq sq => ow_loadB (q.ext sq) ti3 rfl rfl ⟨rfl, Ext.refl _⟩) ?_
  refine f_q rfl (fun wq sq => ow_assign rfl ⟨rfl, Ext.refl _⟩) ?_
  refine f_q rfl (fun wq sq => ow_assign rfl ⟨rfl, Ext.refl _⟩) ?_
  refine f_q rfl (fun wq sq => ow_assign rfl ⟨rfl, Ext.refl _⟩) ?_
  refine f_nil (fun w38 sq => ?_)
  have xq := sq
  replace q := q.ext xq
  replace oT := oT.ext xq
  replace oN := oN.ext xq
  replace hs := hs.ext xq
  replace X := Ext.trans X xq; clear xq sq
  refine ops_nil ?_
  refine c_ret ?_
  refine fin_ret3 rfl rfl rfl rfl ?_
  · skip
    subst hb1
    first
    | (exact absurd ‹(!false) = false› (by decide))
    | (have HN : rdM xs = none := hg.2 rfl
       exact ⟨none, 0, [], 0, false, rfl, (by rw [HN]; exact ⟨rfl, rfl, rfl⟩), Disj.nil_, Own.nil_ _ _ _ _, NOwn.nil_, X⟩)
    | (have hr0 : rem = 0 := by omega
       subst hr0
       have HN : rdM xs = none := hg.stop.2 hIT
       exact ⟨none, 0, [], 0, false, rfl, (by rw [HN]; exact ⟨rfl, rfl, rfl⟩), Disj.nil_, Own.nil_ _ _ _ _, NOwn.nil_, X⟩)
    | (have hr0 : rem = 0 := by omega
       subst hr0
       have HS : rdM xs = some (ys.map (·.m), a) := hg.stop.1 hIT
       exact ⟨_, _, ys, _, true, rfl, (by rw [HS]; exact ⟨rfl, rfl, rfl⟩), hd, oT, oN, X⟩)
  replace q := q.ext x36
  replace oT := oT.ext x36
  replace oN := oN.ext x36
  replace hs := hs.ext x36
  replace X := Ext.trans X x36; clear x36
  refine ops_want rfl rfl rfl (ow_not rfl ?_)
  refine ops_cons rfl (ow_pick rfl rfl ?_)
  refine ops_nil ?_
  refine c_true rfl ?_
  refine c_seqR ?_
  refine ops_cons rfl (ow_assign rfl ?_)
  refine ops_cons rfl (ow_assign rfl ?_)
  refine ops_cons rfl (ow_assign rfl ?_)
  refine ops_nil ?_
  refine c_ret ?_
  refine tq_r ?_
  refine fin_ret3 rfl rfl rfl rfl ?_
  · skip
    subst hb1
    first
    | (exact absurd ‹(!false) = false› (by decide))
    | (have HN : rdM xs = none := hg.2 rfl
       exact ⟨none, 0, [], 0, false, rfl, (by rw [HN]; exact ⟨rfl, rfl, rfl⟩), Disj.nil_, Own.nil_ _ _ _ _, NOwn.nil_, X⟩)
    | (have hr0 : rem = 0 := by omega
       subst hr0
       have HN : rdM xs = none := hg.stop.2 hIT
       exact ⟨none, 0, [], 0, false, rfl, (by rw [HN]; exact ⟨rfl, rfl, rfl⟩), Disj.nil_, Own.nil_ _ _ _ _, NOwn.nil_, X⟩)
    | (have hr0 : rem = 0 := by omega
       subst hr0
       have HS : rdM xs = some (ys.map (·.m), a) := hg.stop.1 hIT
       exact ⟨_, _, ys, _, true, rfl, (by rw [HS]; exact ⟨rfl, rfl, rfl⟩), hd, oT, oN, X⟩)
  refine ops_cons rfl (ow_move rfl ?_)
  refine ops_skip rfl rfl rfl rfl ?_
  refine ops_skip rfl rfl rfl rfl ?_
  refine ops_skip rfl rfl rfl rfl ?_
  refine ops_cons rfl (ow_pick rfl rfl ?_)
  refine ops_nil ?_
  refine c_true rfl ?_
  refine c_seqR ?_
  refine ops_cons rfl (ow_assign rfl ?_)
  refine ops_cons rfl (ow_assign rfl ?_)
  refine ops_cons rfl (ow_assign rfl ?_)
  refine ops_nil ?_
  refine c_ret ?_
  refine tq_r ?_
  refine fin_ret3 rfl rfl rfl rfl ?_
  · skip
    subst hb1
    first
    | (exact absurd ‹(!false) = false› (by decide))
    | (have HN : rdM xs = none := hg.2 rfl
       exact ⟨none, 0, [], 0, false, rfl, (by rw [HN]; exact ⟨rfl, rfl, rfl⟩), Disj.nil_, Own.nil_ _ _ _ _, NOwn.nil_, X⟩)
    | (have hr0 : rem = 0 := by omega
       subst hr0
       have HN : rdM xs = none := hg.stop.2 hIT
       exact ⟨none, 0, [], 0, false, rfl, (by rw [HN]; exact ⟨rfl, rfl, rfl⟩), Disj.nil_, Own.nil_ _ _ _ _, NOwn.nil_, X⟩)
    | (have hr0 : rem = 0 := by omega
       subst hr0
       have HS : rdM xs = some (ys.map (·.m), a) := hg.stop.1 hIT
       exact ⟨_, _, ys, _, true, rfl, (by rw [HS]; exact ⟨rfl, rfl, rfl⟩), hd, oT, oN, X⟩)

theorem l11Read_c (A : Option Addr) (B c : Nat) (xs : List Int) (w : World) (hs : Sl B w A (xs.flatMap eI)) (hl : xs.length ≤ 1048576) (hB : isB xs = true) (hcap : xs.length ≤ c) :
    Calls Tryz.prog 171 #[.slice A xs.length c] w (Ret fun v w' => ∃ A' c' ys sz ok, v = .tuple #[.slice A' (List.length ys) c', .int .i64 sz, .bool ok] ∧ RdM (rdM xs) (ys.map (·.m)) sz ok ∧ Disj ys ∧ Own w' w.heap.size 92 3 A' ys.length c' (ys.flatMap ModeI.cells) ∧ NOwn w' w.heap.size 2 ys ∧ Ext w w') := by
  have Bhs := hs.1
  have X := Ext.refl w
  refine calls_of (args := [.slice A xs.length c]) Tryz.func171 Tryz.ntmps171 rfl rfl ?_
  refine c_seqR ?_
  refine ops_cons rfl (ow_assign rfl ?_)
  refine ops_cons rfl (ow_assign rfl ?_)
  refine ops_cons rfl (ow_assign rfl ?_)
  refine ops_nil ?_
  refine c_seq ?_
  refine c_seqR ?_
  refine ops_cons rfl (ow_move rfl ?_)
  refine ops_cons rfl (ow_len Tryz.underlying30 rfl ?_)
  refine ops_cons rfl (ow_eql2 rfl rfl (fun h0 => ?_) (fun h0 => ?_))
  refine ops_nil ?_
  refine c_true rfl ?_
  refine c_seqR ?_
  refine ops_cons rfl (ow_assign rfl ?_)
  refine ops_cons rfl (ow_assign rfl ?_)
  refine ops_cons rfl (ow_assign rfl ?_)
  refine ops_nil ?_
  refine c_ret ?_
  refine tq_r ?_
  refine fin_ret3 rfl rfl rfl rfl ?_
  · skip
    first
    | (have HN : rdM xs = none := rdM_empty (by omega)
       exact ⟨none, 0, [], 0, false, rfl, (by rw [HN]; exact ⟨rfl, rfl, rfl⟩), Disj.nil_, Own.nil_ _ _ _ _, NOwn.nil_, X⟩)
    | (have HN : rdM xs = none := rdM_none hne (by rw [hg, prsM_short (by omega) (by omega)]; rfl)
       exact ⟨none, 0, [], 0, false, rfl, (by rw [HN]; exact ⟨rfl, rfl, rfl⟩), Disj.nil_, Own.nil_ _ _ _ _, NOwn.nil_, X⟩)
    | (have HN : rdM xs = none := rdM_none hne (by rw [hg, prsM_short2 (by omega) hx2 (by omega)]; rfl)
       exact ⟨none, 0, [], 0, false, rfl, (by rw [HN]; exact ⟨rfl, rfl, rfl⟩), Disj.nil_, Own.nil_ _ _ _ _, NOwn.nil_, X⟩)
    | (have hr0 : rem = 0 := by omega
       subst hr0
       have HN : rdM xs = none := rdM_not hne (by rw [hg]; rfl) (by simpa using hIT)
       exact ⟨none, 0, [], 0, false, rfl, (by rw [HN]; exact ⟨rfl, rfl, rfl⟩), Disj.nil_, Own.nil_ _ _ _ _, NOwn.nil_, X⟩)
    | (have hr0 : rem = 0 := by omega
       subst hr0
       have HS : rdM xs = some (ys.map (·.m), a) := rdM_some hne (by rw [hg]; simp [prsM]) (by simpa using hIT)
       exact ⟨_, _, ys, _, true, rfl, (by rw [HS]; exact ⟨rfl, rfl, rfl⟩), hd, oT, oN, X⟩)
  obtain ⟨z0, h00, _⟩ := drop_at (xs := xs) (k := 0) (by omega)
  have hz0 := isB_at hB h00
  have hne : xs.length ≠ 0 := by omega
  refine ops_nil ?_
  refine c_false rfl ?_
  refine c_skip ?_
  refine tq_n ?_
  refine c_seqR ?_
  refine ops_cons rfl (ow_buildSlice el25 ti92 rfl rfl rfl rfl rfl ?_)
  intro gO w2 egO oT bbgO x1 zgO
  replace oT := Own.low oT X.size
  replace hs := hs.ext x1
  replace X := Ext.trans X x1; clear x1
  refine ops_cons rfl (ow_assign rfl ?_)
  refine ops_nil ?_
  refine c_seqR ?_
  refine ops_cons rfl (ow_assign rfl ?_)
  refine ops_nil ?_
  refine c_seq ?_
  refine c_seqR ?_
  refine ops_cons rfl (ow_move rfl ?_)
  refine ops_cons rfl (ow_indexT hs eI_len rfl el30 rfl rfl rfl h00 rfl ?_)
  refine ops_cons rfl (ow_loadT hs eI_len h00 ti2 rfl rfl rfl ?_)
  refine ops_cons rfl (ow_assign rfl ?_)
  refine ops_nil ?_
  refine c_block ?_
  refine c_loop (G := Nat × Nat × List ModeI × Nat × Option Addr × Nat × Int) (fun ⟨rem, a, ys, n1, A1, c1, tm⟩ => [(0, .slice A xs.length c), (7, .int .i64 tm), (6, .int .i64 (a : Nat)), (5, .slice A1 n1 c1)]) (fun ⟨rem, a, ys, n1, A1, c1, tm⟩ wr => a ≤ xs.length ∧ 1 ≤ a ∧ n1 = ys.length ∧ tm = (rem : Int) ∧ n1 + rem ≤ 255 ∧ prsM xs (xs.getD 0 0).toNat 1 = (prsM xs rem a).map (fun r => (ys.map (·.m) ++ r.1, r.2)) ∧ (∀ y ∈ ys, y.m.next.length ≤ 255) ∧ Disj ys ∧ Own wr w.heap.size 92 3 A1 n1 c1 (ys.flatMap ModeI.cells) ∧ NOwn wr w.heap.size 2 ys ∧ Sl B wr A (xs.flatMap eI) ∧ Ext w wr) (fun ⟨rem, a, ys, n1, A1, c1, tm⟩ => rem) (z0.toNat, 1, [], 0, some ⟨gO, 0, none⟩, 0, z0) (.cons rfl (.cons rfl (.cons rfl (.cons rfl (.nil _))))) ?_ ?_
  · exact ⟨(by omega), by omega, rfl, (by have := isB_at hB h00; omega), (by have := isB_at hB h00; show 0 + _ ≤ _; omega), (by rw [get_D0 h00]; cases prsM xs z0.toNat 1 <;> simp), (fun y hy => by simp at hy), Disj.nil_, oT, NOwn.nil_, hs, X⟩
  clear hs oT
  clear X
  rintro ⟨rem, a, ys, n1, A1, c1, tm⟩ wr ⟨ha1, ha0, hn, htm, hrm, hg, hnl, hd, oT, oN, hs, X⟩
  refine c_seq ?_
  refine c_seqR ?_
  refine ops_cons rfl (ow_move rfl ?_)
  refine ops_cons rfl (ow_gtr2 rfl rfl (fun hr => ?_) (fun hr => ?_))
  refine ops_nil ?_
  refine c_true rfl ?_
  refine c_skip ?_
  refine tq_n ?_
  refine c_seq ?_
  refine c_block ?_
  refine c_seq ?_
  refine c_seqR ?_
  refine ops_cons rfl (ow_move rfl ?_)
  refine ops_cons rfl (ow_add rfl rfl (w64 (by omega)) ?_)
  refine ops_cons rfl (ow_move rfl ?_)
  refine ops_cons rfl (ow_len Tryz.underlying30 rfl ?_)
  refine ops_cons rfl (ow_gtr2 rfl rfl (fun e1 => ?_) (fun e1 => ?_))
  refine ops_cons rfl (ow_move rfl ?_)
  refine ops_skip rfl rfl rfl rfl ?_
  refine ops_skip rfl rfl rfl rfl ?_
  refine ops_skip rfl rfl rfl rfl ?_
  refine ops_skip rfl rfl rfl rfl ?_
  refine ops_skip rfl rfl rfl rfl ?_
  refine ops_skip rfl rfl rfl rfl ?_
  refine ops_skip rfl rfl rfl rfl ?_
  refine ops_skip rfl rfl rfl rfl ?_
  refine ops_skip rfl rfl rfl rfl ?_
  refine ops_skip rfl rfl rfl rfl ?_
  refine ops_skip rfl rfl rfl rfl ?_
  refine ops_cons rfl (ow_pick rfl rfl ?_)
  refine ops_nil ?_
  refine c_true rfl ?_
  refine c_seqR ?_
  refine ops_cons rfl (ow_assign rfl ?_)
  refine ops_cons rfl (ow_assign rfl ?_)
  refine ops_cons rfl (ow_assign rfl ?_)
  refine ops_nil ?_
  refine c_ret ?_
  refine tq_r ?_
  refine bq_r ?_
  refine tq_r ?_
  refine tq_r ?_
  refine bq_r ?_
  refine tq_r ?_
  refine fin_ret3 rfl rfl rfl rfl ?_
  · skip
    first
    | (have HN : rdM xs = none := rdM_empty (by omega)
       exact ⟨none, 0, [], 0, false, rfl, (by rw [HN]; exact ⟨rfl, rfl, rfl⟩), Disj.nil_, Own.nil_ _ _ _ _, NOwn.nil_, X⟩)
    | (have HN : rdM xs = none := rdM_none hne (by rw [hg, prsM_short (by omega) (by omega)]; rfl)
       exact ⟨none, 0, [], 0, false, rfl, (by rw [HN]; exact ⟨rfl, rfl, rfl⟩), Disj.nil_, Own.nil_ _ _ _ _, NOwn.nil_, X⟩)
    | (have HN : rdM xs = none := rdM_none hne (by rw [hg, prsM_short2 (by omega) hx2 (by omega)]; rfl)
       exact ⟨none, 0, [], 0, false, rfl, (by rw [HN]; exact ⟨rfl, rfl, rfl⟩), Disj.nil_, Own.nil_ _ _ _ _, NOwn.nil_, X⟩)
    | (have hr0 : rem = 0 := by omega
       subst hr0
       have HN : rdM xs = none := rdM_not hne (by rw [hg]; rfl) (by simpa using hIT)
       exact ⟨none, 0, [], 0, false, rfl, (by rw [HN]; exact ⟨rfl, rfl, rfl⟩), Disj.nil_, Own.nil_ _ _ _ _, NOwn.nil_, X⟩)
    | (have hr0 : rem = 0 := by omega
       subst hr0
       have HS : rdM xs = some (ys.map (·.m), a) := rdM_some hne (by rw [hg]; simp [prsM]) (by simpa using hIT)
       exact ⟨_, _, ys, _, true, rfl, (by rw [HS]; exact ⟨rfl, rfl, rfl⟩), hd, oT, oN, X⟩)
  obtain ⟨y, hx2, _⟩ := drop_at (xs := xs) (k := a + 2) (by omega)
  have hyb := isB_at hB hx2
  obtain ⟨yn, rfl⟩ : ∃ n : Nat, y = (n : Int) := ⟨y.toNat, by omega⟩
  refine ops_cons rfl (ow_move rfl ?_)
  refine ops_want rfl rfl rfl (ow_move rfl ?_)
  refine ops_want rfl rfl rfl (ow_add rfl rfl (w64 (by omega)) ?_)
  refine ops_want rfl rfl rfl (ow_move rfl ?_)
  refine ops_want rfl rfl rfl (ow_move rfl ?_)
  refine ops_want rfl rfl rfl (ow_add rfl rfl (w64 (by omega)) ?_)
  refine ops_want rfl rfl rfl (ow_indexT hs eI_len rfl el30 rfl rfl rfl hx2 (by omega) ?_)
  refine ops_want rfl rfl rfl (ow_loadT hs eI_len hx2 ti2 rfl rfl rfl ?_)
  refine ops_want rfl rfl rfl (ow_add rfl rfl (w64 (by omega)) ?_)
  refine ops_want rfl rfl rfl (ow_move rfl ?_)
  refine ops_want rfl rfl rfl (ow_len Tryz.underlying30 rfl ?_)
  refine ops_want rfl rfl rfl (ow_gtr2 rfl rfl (fun e2 => ?_) (fun e2 => ?_))
  refine ops_cons rfl (ow_pick rfl rfl ?_)
  refine ops_nil ?_
  refine c_true rfl ?_
  refine c_seqR ?_
  refine ops_cons rfl (ow_assign rfl ?_)
  refine ops_cons rfl (ow_assign rfl ?_)
  refine ops_cons rfl (ow_assign rfl ?_)
  refine ops_nil ?_
  refine c_ret ?_
  refine tq_r ?_
  refine bq_r ?_
  refine tq_r ?_
  refine tq_r ?_
  refine bq_r ?_
  refine tq_r ?_
  refine fin_ret3 rfl rfl rfl rfl ?_
  · skip
    first
    | (have HN : rdM xs = none := rdM_empty (by omega)
       exact ⟨none, 0, [], 0, false, rfl, (by rw [HN]; exact ⟨rfl, rfl, rfl⟩), Disj.nil_, Own.nil_ _ _ _ _, NOwn.nil_, X⟩)
    | (have HN : rdM xs = none := rdM_none hne (by rw [hg, prsM_short (by omega) (by omega)]; rfl)
       exact ⟨none, 0, [], 0, false, rfl, (by rw [HN]; exact ⟨rfl, rfl, rfl⟩), Disj.nil_, Own.nil_ _ _ _ _, NOwn.nil_, X⟩)
    | (have HN : rdM xs = none := rdM_none hne (by rw [hg, prsM_short2 (by omega) hx2 (by omega)]; rfl)
       exact ⟨none, 0, [], 0, false, rfl, (by rw [HN]; exact ⟨rfl, rfl, rfl⟩), Disj.nil_, Own.nil_ _ _ _ _, NOwn.nil_, X⟩)
    | (have hr0 : rem = 0 := by omega
       subst hr0
       have HN : rdM xs = none := rdM_not hne (by rw [hg]; rfl) (by simpa using hIT)
       exact ⟨none, 0, [], 0, false, rfl, (by rw [HN]; exact ⟨rfl, rfl, rfl⟩), Disj.nil_, Own.nil_ _ _ _ _, NOwn.nil_, X⟩)
    | (have hr0 : rem = 0 := by omega
       subst hr0
       have HS : rdM xs = some (ys.map (·.m), a) := rdM_some hne (by rw [hg]; simp [prsM]) (by simpa using hIT)
       exact ⟨_, _, ys, _, true, rfl, (by rw [HS]; exact ⟨rfl, rfl, rfl⟩), hd, oT, oN, X⟩)
  obtain ⟨x0, hx0, _⟩ := drop_at (xs := xs) (k := a) (by omega)
  obtain ⟨x1, hx1, _⟩ := drop_at (xs := xs) (k := a + 1) (by omega)
  refine ops_cons rfl (ow_pick rfl rfl ?_)
  refine ops_nil ?_
  refine c_false rfl ?_
  refine c_skip ?_
  refine tq_n ?_
  refine c_seqR ?_
  refine ops_cons rfl (ow_move rfl ?_)
  refine ops_cons rfl (ow_move rfl ?_)
  refine ops_cons rfl (ow_add rfl rfl (w64 (by omega)) ?_)
  refine ops_cons rfl (ow_move rfl ?_)
  refine ops_cons rfl (ow_add rfl rfl (w64 (by omega)) ?_)
  refine ops_cons rfl (ow_move rfl ?_)
  refine ops_cons rfl (ow_move rfl ?_)
  refine ops_cons rfl (ow_add rfl rfl (w64 (by omega)) ?_)
  refine ops_cons rfl (ow_indexT hs eI_len rfl el30 rfl rfl rfl hx2 (by omega) ?_)
  refine ops_cons rfl (ow_loadT hs eI_len hx2 ti2 rfl rfl rfl ?_)
  refine ops_cons rfl (ow_add rfl rfl (w64 (by omega)) ?_)
  refine ops_cons rfl (ow_sliceLH el30 hs eI_len rfl rfl rfl (show _ = ((a + 3 : Nat) : Int) by omega) (show _ = ((a + 3 + yn : Nat) : Int) by omega) (by omega) (by omega) ?_)
  intro Ap pS
  have hbd := fun y hy g hg => (Own.lt (oN y hy).1 (g := g) hg).2
  refine ops_cons rfl (ow_call ent196 rfl (ret_mono (l01Own_c Ap B _ _ ((xs.drop (a + 3)).take yn) _ (by have h := pS; rwa [show a + 3 + yn - (a + 3) = yn by omega] at h) (by simp; omega) (by simp; omega)) ?_))
  rintro _ w4 ⟨AW, cW, rfl, oW, x3⟩
  have LoW := X.size
  replace oT := oT.ext x3
  replace oN := oN.ext x3
  replace hs := hs.ext x3
  replace pS := pS.ext x3
  replace X := Ext.trans X x3; clear x3
  have hnb := fun g hg => (Own.lt oW (g := g) hg).1
  replace oW := Own.low oW LoW
  clear pS
  have hyl : ((xs.drop (a + 3)).take yn).length = yn := by simp; omega
  refine ops_cons rfl (ow_assign rfl ?_)
  refine ops_nil ?_
  refine c_seqD [false, false, false, false, false, false, false, false, false, false, false, false, true] mixed (by kernel_rfl) ?_
  refine f_q rfl (fun wq sq => ow_move rfl ⟨rfl, Ext.refl _⟩) ?_
  refine f_q rfl (fun wq sq => ow_move rfl ⟨rfl, Ext.refl _⟩) ?_
  refine f_q rfl (fun wq sq => ow_move rfl ⟨rfl, Ext.refl _⟩) ?_
  refine f_q rfl (fun wq sq => ow_indexT (hs.ext sq) eI_len rfl el30 rfl rfl rfl hx0 rfl ⟨rfl, Ext.refl _⟩) ?_
  refine f_q rfl (fun wq sq => ow_loadT (hs.ext sq) eI_len hx0 ti2 rfl rfl rfl ⟨rfl, Ext.refl _⟩) ?_
  refine f_q rfl (fun wq sq => ow_move rfl ⟨rfl, Ext.refl _⟩) ?_
  refine f_q rfl (fun wq sq => ow_move rfl ⟨rfl, Ext.refl _⟩) ?_
  refine f_q rfl (fun wq sq => ow_add rfl rfl (w64 (by omega)) ⟨rfl, Ext.refl _⟩) ?_
  refine f_q rfl (fun wq sq => ow_indexT (hs.ext sq) eI_len rfl el30 rfl rfl rfl hx1 (by omega) ⟨rfl, Ext.refl _⟩) ?_
  refine f_q rfl (fun wq sq => ow_loadT (hs.ext sq) eI_len hx1 ti2 rfl rfl rfl ⟨rfl, Ext.refl _⟩) ?_
  refine f_q rfl (fun wq sq => ow_move rfl ⟨rfl, Ext.refl _⟩) ?_
  refine f_q rfl (fun wq sq => ow_buildP pl92 ti92 rfl rfl ⟨rfl, Ext.refl _⟩) ?_
  refine f_op (fun g5 : Nat => Value.slice (some ⟨g5, 0, none⟩) 1 1) (fun g5 wz => Own wz w.heap.size 92 3 (some ⟨g5, 0, none⟩) 1 1 (ModeI.cells ⟨⟨x0, x1, (xs.drop (a + 3)).take yn⟩, AW, cW⟩)) 0 rfl ⟨inj_own, fun _ _ _ h k => h.ext k, fun wq sq => ow_buildSlice el25 ti92 rfl rfl rfl rfl rfl (fun g w' hg ho hb hx hz => ⟨g, rfl, Own.low ho (Nat.le_trans X.size (sq).size), hx⟩)⟩ ?_
  intro g5
  refine f_nil (fun w6 sq => ?_)
  have xq := sq.1
  have oV := sq.2
  replace oT := oT.ext xq
  replace oN := oN.ext xq
  replace hs := hs.ext xq
  replace oW := oW.ext xq
  replace X := Ext.trans X xq; clear xq sq
  refine ops_cons rfl (ow_append (ts := #[]) oT X.size oV.sl (by first | rfl | simp) (by first | exact List.all_eq_true.1 rfl | simp [Value.oneCell']) el25 ti92 rfl rfl rfl rfl (by omega) (by omega) ?_)
  intro AoU coU w9 oU hg7
  replace oN := oN.grownO oT hg7 (by decide)
  replace hs := hs.grown hg7 (fun g hg => Nat.le_trans Bhs (Own.lt oT hg).1)
  replace oW := oW.grown hg7 (Own.neO oW oT (by decide))
  replace X := X.grown hg7 X.size (fun g hg => (Own.lt oT hg).1)
  clear hg7
  refine ops_cons rfl (ow_assign rfl ?_)
  refine ops_nil ?_
  refine c_region ?_
  refine ops_cons rfl (ow_move rfl ?_)
  refine ops_cons rfl (ow_add rfl rfl (w64 (by omega)) ?_)
  refine ops_cons rfl (ow_move rfl ?_)
  refine ops_cons rfl (ow_len Tryz.underlying30 rfl ?_)
  refine ops_cons rfl (ow_add rfl rfl (show IntKind.i64.wrap _ = ((a + 3 + yn : Nat) : Int) by rw [hyl]; exact (w64 (by omega)).trans (by omega)) ?_)
  refine ops_cons rfl (ow_assign rfl ?_)
  refine ops_nil ?_
  refine bq_n ?_
  refine tq_n ?_
  refine c_region ?_
  refine ops_cons rfl (ow_move rfl ?_)
  refine ops_cons rfl (ow_sub rfl rfl (w64 (by omega)) ?_)
  refine ops_cons rfl (ow_assign rfl ?_)
  refine ops_nil ?_
  refine tq_n ⟨(rem - 1, a + 3 + yn, ys ++ [⟨⟨x0, x1, (xs.drop (a + 3)).take yn⟩, AW, cW⟩], n1 + 1, AoU, coU, tm - 1), (.cons rfl (.cons rfl (.cons rfl (.cons rfl (.nil _))))), ?_, ?_⟩
  · skip
    exact ⟨(by omega), by omega, (by simp [hn]), (by omega), (by omega), (by rw [hg, prsM_step (by omega) hx0 hx1 hx2 (by omega)]; cases prsM xs (rem - 1) (a + 3 + yn) <;> simp), (by
      intro y hy
      rcases List.mem_append.1 hy with h | h
      · exact hnl y h
      · obtain rfl : y = ⟨⟨x0, x1, (xs.drop (a + 3)).take yn⟩, AW, cW⟩ := by simpa using h
        show ((xs.drop (a + 3)).take yn).length ≤ 255
        simp; omega), (hd.snoc (x := ⟨⟨x0, x1, (xs.drop (a + 3)).take yn⟩, AW, cW⟩) (fun y hy g hg e => absurd (hbd y hy g hg) (Nat.not_lt.2 (hnb g e)))), oU.to (snoc ModeI.cells ys ⟨⟨x0, x1, (xs.drop (a + 3)).take yn⟩, AW, cW⟩).symm, oN.snoc (x := ⟨⟨x0, x1, (xs.drop (a + 3)).take yn⟩, AW, cW⟩) oW (by show ((xs.drop (a + 3)).take yn).length ≤ _; simp; omega), hs, X⟩
  · first | omega | (dsimp only; omega)
  refine ops_nil ?_
  refine c_false rfl ?_
  refine c_exit ?_
  refine tq_e ?_
  refine tq_e ?_
  refine bq_e ?_
  refine tq_n ?_
  refine c_seq ?_
  refine c_seqR ?_
  subst hn
  refine ops_cons rfl (ow_move rfl ?_)
  refine ops_cons rfl (ow_callB ent225 rfl (sIsMT_c _ _ _ _ ys _ oT.sl oN.nexts (by omega) (fun x hx => by have := hnl x hx; omega)) (fun w11 hIT x10 => ?_) (fun w11 hIT x10 => ?_))
  replace oT := oT.ext x10
  replace oN := oN.ext x10
  replace hs := hs.ext x10
  replace X := Ext.trans X x10; clear x10
  refine ops_cons rfl (ow_not rfl ?_)
  refine ops_nil ?_
  refine c_false rfl ?_
  refine c_skip ?_
  refine tq_n ?_
  refine c_seqR ?_
  refine ops_cons rfl (ow_move rfl ?_)
  refine ops_cons rfl (ow_move rfl ?_)
  refine ops_cons rfl (ow_assign rfl ?_)
  refine ops_cons rfl (ow_assign rfl ?_)
  refine ops_cons rfl (ow_assign rfl ?_)
  refine ops_nil ?_
  refine c_ret ?_
  refine fin_ret3 rfl rfl rfl rfl ?_
  · skip
    first
    | (have HN : rdM xs = none := rdM_empty (by omega)
       exact ⟨none, 0, [], 0, false, rfl, (by rw [HN]; exact ⟨rfl, rfl, rfl⟩), Disj.nil_, Own.nil_ _ _ _ _, NOwn.nil_, X⟩)
    | (have HN : rdM xs = none := rdM_none hne (by rw [hg, prsM_short (by omega) (by omega)]; rfl)
       exact ⟨none, 0, [], 0, false, rfl, (by rw [HN]; exact ⟨rfl, rfl, rfl⟩), Disj.nil_, Own.nil_ _ _ _ _, NOwn.nil_, X⟩)
    | (have HN : rdM xs = none := rdM_none hne (by rw [hg, prsM_short2 (by omega) hx2 (by omega)]; rfl)
       exact ⟨none, 0, [], 0, false, rfl, (by rw [HN]; exact ⟨rfl, rfl, rfl⟩), Disj.nil_, Own.nil_ _ _ _ _, NOwn.nil_, X⟩)
    | (have hr0 : rem = 0 := by omega
       subst hr0
       have HN : rdM xs = none := rdM_not hne (by rw [hg]; rfl) (by simpa using hIT)
       exact ⟨none, 0, [], 0, false, rfl, (by rw [HN]; exact ⟨rfl, rfl, rfl⟩), Disj.nil_, Own.nil_ _ _ _ _, NOwn.nil_, X⟩)
    | (have hr0 : rem = 0 := by omega
       subst hr0
       have HS : rdM xs = some (ys.map (·.m), a) := rdM_some hne (by rw [hg]; simp [prsM]) (by simpa using hIT)
       exact ⟨_, _, ys, _, true, rfl, (by rw [HS]; exact ⟨rfl, rfl, rfl⟩), hd, oT, oN, X⟩)
  replace oT := oT.ext x10
  replace oN := oN.ext x10
  replace hs := hs.ext x10
  replace X := Ext.trans X x10; clear x10
  refine ops_cons rfl (ow_not rfl ?_)
  refine ops_nil ?_
  refine c_true rfl ?_
  refine c_seqR ?_
  refine ops_cons rfl (ow_assign rfl ?_)
  refine ops_cons rfl (ow_assign rfl ?_)
  refine ops_cons rfl (ow_assign rfl ?_)
  refine ops_nil ?_
  refine c_ret ?_
  refine tq_r ?_
  refine fin_ret3 rfl rfl rfl rfl ?_
  · skip
    first
    | (have HN : rdM xs = none := rdM_empty (by omega)
       exact ⟨none, 0, [], 0, false, rfl, (by rw [HN]; exact ⟨rfl, rfl, rfl⟩), Disj.nil_, Own.nil_ _ _ _ _, NOwn.nil_, X⟩)
    | (have HN : rdM xs = none := rdM_none hne (by rw [hg, prsM_short (by omega) (by omega)]; rfl)
       exact ⟨none, 0, [], 0, false, rfl, (by rw [HN]; exact ⟨rfl, rfl, rfl⟩), Disj.nil_, Own.nil_ _ _ _ _, NOwn.nil_, X⟩)
    | (have HN : rdM xs = none := rdM_none hne (by rw [hg, prsM_short2 (by omega) hx2 (by omega)]; rfl)
       exact ⟨none, 0, [], 0, false, rfl, (by rw [HN]; exact ⟨rfl, rfl, rfl⟩), Disj.nil_, Own.nil_ _ _ _ _, NOwn.nil_, X⟩)
    | (have hr0 : rem = 0 := by omega
       subst hr0
       have HN : rdM xs = none := rdM_not hne (by rw [hg]; rfl) (by simpa using hIT)
       exact ⟨none, 0, [], 0, false, rfl, (by rw [HN]; exact ⟨rfl, rfl, rfl⟩), Disj.nil_, Own.nil_ _ _ _ _, NOwn.nil_, X⟩)
    | (have hr0 : rem = 0 := by omega
       subst hr0
       have HS : rdM xs = some (ys.map (·.m), a) := rdM_some hne (by rw [hg]; simp [prsM]) (by simpa using hIT)
       exact ⟨_, _, ys, _, true, rfl, (by rw [HS]; exact ⟨rfl, rfl, rfl⟩), hd, oT, oN, X⟩)
end Go.Proofs.YtdoibplhbdkapaaGreatDoor
