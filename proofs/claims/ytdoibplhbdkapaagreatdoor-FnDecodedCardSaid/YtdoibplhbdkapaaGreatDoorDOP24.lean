/- Parts. No condition. -/
import Derived.Test.YtdoibplhbdkapaaGreatDoorDOP22
import Derived.Test.YtdoibplhbdkapaaGreatDoorDOP11
import Derived.Test.YtdoibplhbdkapaaGreatDoorDOP8
import Derived.Test.YtdoibplhbdkapaaGreatDoorDOP3
import Derived.Test.YtdoibplhbdkapaaGreatDoorDOP4
import Derived.Test.YtdoibplhbdkapaaGreatDoorDOP10
namespace Go.Proofs.YtdoibplhbdkapaaGreatDoor
open Go.RowKit
set_option linter.unusedVariables false
set_option linter.unusedSimpArgs false
set_option maxRecDepth 20000
theorem aDb (A : Option Addr) (B c : Nat) (xs : List Int) (w : World) (hs : Sl B w A (xs.flatMap eI)) (hl : xs.length ≤ 1048576) (hB : nU xs = true) :
   Calls Tryz.prog 77 #[.slice A xs.length c] w (fF fun v w' => ∃ A' c' ys sz ok, v = .tuple #[.slice A' (List.length ys) c', .int .i64 sz, .bool ok] ∧ RdM (lF xs) (ys.map (·.m)) sz ok ∧ Disj ys ∧ Own w' w.heap.size 92 3 A' ys.length c' (ys.flatMap ModeI.cells) ∧ NOwn w' w.heap.size 2 ys ∧ Ext w w') := by
 have Bhs := hs.1
 have X := Q7r w
 refine bJ (args := [.slice A xs.length c]) Tryz.func77 Tryz.ntmps77 rfl rfl (aF (aA rfl (aE rfl (aA rfl (aE rfl (aA rfl (aE rfl (aB (aF (aA rfl (aC rfl (aA rfl (dA aHh aHg rfl rfl (aA rfl (eX rfl rfl ?_)))))))))))))))
 intro gC w2 egC q x1 zgC
 have lgC : w.heap.size ≤ gC := Q7l X.size (Q7e egC.symm)
 have pgChs := Q7l hs.1 (Q7e egC.symm)
 replace hs := hs.ext x1
 replace X := Q7x X x1; clear x1
 have q : Blk _ gC 166 (wT A c xs 0 false) := q
 refine aA rfl (aO kX iO rfl rfl rfl rfl rfl ?_)
 intro gO w4 egO oT bbgO x3 zgO
 replace oT := Own.low oT X.size
 replace hs := hs.ext x3
 replace q := q.ext x3
 replace X := Q7x X x3; clear x3
 refine aA rfl (aE rfl (aA rfl (aE rfl (aB (aR (aF (aA rfl (aC rfl (aA rfl (aT mW rfl (aP (mT A B c xs gC 0 false _ q hs hl (Nat.zero_le _) (by omega)) ?_)))))))))))
 rintro _ w6 ⟨rfl, q1, x5⟩
 replace hs := hs.grown x5 (by intro g hg; injection hg; omega)
 replace oT := oT.grownBlk x5 (Own.neT oT q (by decide))
 replace X := X.grown x5 X.size (by intro g hg; injection hg; omega)
 clear x5 q
 refine aA rfl (aE rfl (aB (aX (dG (G := Nat × Nat × Bool × List ModeI × Nat × Option Addr × Nat × Int) (fun ⟨rem, a, b, ys, n1, A1, c1, tm⟩ => [(2, .slice none 0 0), (3, .int .i64 0), (4, .bool false), (5, .pointer (some ⟨gC, 0, none⟩)), (7, .int .i64 tm), (6, .slice A1 n1 c1)]) (fun ⟨rem, a, b, ys, n1, A1, c1, tm⟩ wr => a ≤ xs.length ∧ n1 = ys.length ∧ tm = (rem : Int) ∧ n1 + rem ≤ 255 ∧ HgM xs rem a b (ys.map (·.m)) ∧ (∀ y ∈ ys, y.m.next.length ≤ 255) ∧ Disj ys ∧ Blk wr gC 166 (wT A c xs a b) ∧ Own wr w.heap.size 92 3 A1 n1 c1 (ys.flatMap ModeI.cells) ∧ NOwn wr w.heap.size 2 ys ∧ Sl B wr A (xs.flatMap eI) ∧ Ext w wr) (fun ⟨rem, a, b, ys, n1, A1, c1, tm⟩ => rem) ((nV xs 0).toNat, iD xs 0, fL xs 0 false, [], 0, some ⟨gO, 0, none⟩, 0, nV xs 0) (.cons rfl (.cons rfl (.cons rfl (.cons rfl (.cons rfl (.cons rfl (.nil _))))))) ?_ ?_))))
 · exact ⟨(fT (Nat.zero_le _)), rfl, (by have := pY hB 0; omega), (by have := pY hB 0; show 0 + _ ≤ _; omega), (HgM.start xs), (fun y hy => by simp at hy), Disj.nil_, q1, oT, NOwn.nil_, hs, X⟩
 clear hs oT q1
 clear X
 rintro ⟨rem, a, b, ys, n1, A1, c1, tm⟩ wr ⟨ha1, hn, htm, hrm, hg, hnl, hd, q, oT, oN, hs, X⟩
 refine aR (aF (aA rfl (aC rfl (aA rfl (fG rfl rfl (fun h7 => ?_) (fun h7 => ?_))))))
 refine aA rfl (aC rfl (aI rfl rfl rfl (aC rfl (aI rfl rfl rfl (dJ rfl (aI rfl rfl rfl (aG jG rfl rfl (aI rfl rfl rfl (aJ q xO rfl rfl (aI rfl rfl rfl (bP rfl (aA rfl (aK rfl rfl (aB (rU rfl (fun h8 => ?_) (fun h8 => ?_))))))))))))))))
 refine aV (aS (aR (aX (aF (aA rfl (aC rfl ?_))))))
 have hb0 : b = false := by simpa using ‹(!b) = true›
 subst hb0
 refine aA rfl (aT mW rfl (aP (mT A B c xs gC a false _ q hs hl ha1 (by omega)) ?_))
 rintro _ w10 ⟨rfl, q2, x9⟩
 replace oT := oT.grownBlk x9 (Own.neT oT q (by decide))
 replace oN := oN.grownB q x9 (by decide)
 replace hs := hs.grown x9 (by intro g hg; injection hg; omega)
 replace X := X.grown x9 X.size (by intro g hg; injection hg; omega)
 clear x9 q
 refine aA rfl (dA aF3 iO rfl rfl ?_)
 have UT := fun g hg => (Own.lt oT (g := g) hg).2
 refine aA rfl (dT iO ?_)
 intro gX w12 egX bX x11 zgX
 have lgX : w.heap.size ≤ gX := Q7l X.size (Q7e egX.symm)
 have pgXhs := Q7l hs.1 (Q7e egX.symm)
 have ngXq2 := Nat.lt_of_lt_of_eq q2.lt egX.symm
 replace oT := oT.ext x11
 replace oN := oN.ext x11
 replace hs := hs.ext x11
 replace q2 := q2.ext x11
 replace X := Q7x X x11
 refine aA rfl (bK bX iO rfl rfl rfl rfl rfl rfl ?_)
 intro w14 bY hg13 z15
 replace oT := oT.grownBlk hg13 (fun h => by have := UT _ h; omega)
 replace oN := oN.grownB bX hg13 (by decide)
 replace hs := hs.grown hg13 (by intro g hg; injection hg; omega)
 replace q2 := q2.grown hg13 (by intro h; injection h; omega)
 replace X := X.grown hg13 X.size (by intro g hg; injection hg; omega)
 clear hg13 bX
 refine aB (aF (aA rfl (aC rfl (aA rfl (aT mW rfl (aP (mT A B c xs gC _ _ _ q2 hs hl (fT ha1) (by omega)) ?_))))))
 rintro _ w17 ⟨rfl, q3, x16⟩
 replace oT := oT.grownBlk x16 (Own.neT oT q2 (by decide))
 replace oN := oN.grownB q2 x16 (by decide)
 replace hs := hs.grown x16 (by intro g hg; injection hg; omega)
 replace bY := bY.grown x16 (by intro h; injection h; omega)
 replace X := X.grown x16 X.size (by intro g hg; injection hg; omega)
 clear x16 q2
 refine aA rfl (aG iP rfl rfl (aA rfl (bK bY dB rfl rfl rfl rfl rfl rfl ?_)))
 intro w19 bZ hg18 z20
 replace oT := oT.grownBlk hg18 (fun h => by have := UT _ h; omega)
 replace oN := oN.grownB bY hg18 (by decide)
 replace hs := hs.grown hg18 (by intro g hg; injection hg; omega)
 replace q3 := q3.grown hg18 (by intro h; injection h; omega)
 replace X := X.grown hg18 X.size (by intro g hg; injection hg; omega)
 clear hg18 bY
 refine aB (aF (aA rfl (aC rfl (aA rfl (aC rfl (aA rfl (aT mW rfl (aP (mT A B c xs gC _ _ _ q3 hs hl (fT (fT ha1)) (by omega)) ?_))))))))
 rintro _ w22 ⟨rfl, q4, x21⟩
 replace oT := oT.grownBlk x21 (Own.neT oT q3 (by decide))
 replace oN := oN.grownB q3 x21 (by decide)
 replace hs := hs.grown x21 (by intro g hg; injection hg; omega)
 replace bZ := bZ.grown x21 (by intro h; injection h; omega)
 replace X := X.grown x21 X.size (by intro g hg; injection hg; omega)
 clear x21 q3
 have hbd := fun y hy g hg => (Own.lt (oN y hy).1 (g := g) hg).2
 have LP := X.size
 refine aA rfl (aT aEr rfl (aP (aD8 A B c xs gC _ _ _ _ q4 hs hl (fT (fT (fT ha1))) (by omega) (by have := pY hB (iD xs (iD xs a)); omega)) ?_))
 rintro _ w24 ⟨AP, cP, rfl, oP, q5, x23⟩
 replace oT := oT.grownBlk x23 (Own.neT oT q4 (by decide))
 replace oN := oN.grownB q4 x23 (by decide)
 replace hs := hs.grown x23 (by intro g hg; injection hg; omega)
 replace bZ := bZ.grown x23 (by intro h; injection h; omega)
 replace X := X.grown x23 X.size (by intro g hg; injection hg; omega)
 clear x23 q4
 have hnb := fun g hg => (Own.lt oP (g := g) hg).1
 replace oP := Own.low oP LP
 refine aA rfl (aG lE rfl rfl (aA rfl (bK bZ mD rfl rfl rfl rfl rfl rfl ?_)))
 intro w26 bW hg25 z27
 replace oT := oT.grownBlk hg25 (fun h => by have := UT _ h; omega)
 replace oN := oN.grownB bZ hg25 (by decide)
 replace hs := hs.grown hg25 (by intro g hg; injection hg; omega)
 replace q5 := q5.grown hg25 (by intro h; injection h; omega)
 replace oP := oP.grownBlk hg25 (Own.neT oP bZ (by decide))
 replace X := X.grown hg25 X.size (by intro g hg; injection hg; omega)
 clear hg25 bZ
 refine aB (aN (aA rfl (aC rfl (aA rfl (dE bW iO rfl rfl (aA rfl (aO kX iO rfl rfl rfl rfl rfl ?_)))))))
 intro g28 w30 eg28 oV bbg28 x29 zg28
 replace oV := Own.low oV X.size
 replace oT := oT.ext x29
 replace oN := oN.ext x29
 replace hs := hs.ext x29
 replace q5 := q5.ext x29
 replace oP := oP.ext x29
 replace bW := bW.ext x29
 replace X := Q7x X x29
 refine aA rfl (cH (ts := #[]) oT X.size oV.sl (by first | rfl | simp) (by first | exact List.all_eq_true.1 rfl | simp [Value.oneCell']) kX iO rfl rfl rfl rfl (by omega) (by omega) ?_)
 intro AoU coU w32 oU hg31
 replace oN := oN.grownO oT hg31 (by decide)
 replace hs := hs.grown hg31 (fun g hg => Q7l Bhs (Own.lt oT hg).1)
 replace q5 := q5.grown hg31 (fun h => Own.neT oT q5 (by decide) h.symm)
 replace oP := oP.grown hg31 (Own.neO oP oT (by decide))
 replace bW := bW.grown hg31 (fun h => by have := UT _ h.symm; omega)
 replace X := X.grown hg31 X.size (fun g hg => (Own.lt oT hg).1)
 clear hg31
 refine aA rfl (aE rfl (aB (dO (aS (aN (aA rfl (aC rfl (aA rfl (fZ rfl rfl (dM (by omega)) (aA rfl (aE rfl (aB (aS ⟨(rem - 1, (qL xs a).2.1, (qL xs a).2.2, ys ++ [⟨⟨nV xs a, nV xs (iD xs a), (qL xs a).1⟩, AP, cP⟩], n1 + 1, AoU, coU, tm - 1), (.cons rfl (.cons rfl (.cons rfl (.cons rfl (.cons rfl (.cons rfl (.nil _))))))), ?_, ?_⟩)))))))))))))
 · skip
   exact ⟨(aCc hB ha1).1, (by simp [hn]), (by omega), (by omega), (by have := hg.step (by omega) ha1; rw [List.map_append]; exact this), (by
     intro y hy
     rcases List.mem_append.1 hy with h | h
     · exact hnl y h
     · obtain rfl : y = ⟨⟨nV xs a, nV xs (iD xs a), (qL xs a).1⟩, AP, cP⟩ := by simpa using h
       exact (aCc hB ha1).2), (hd.snoc (x := ⟨⟨nV xs a, nV xs (iD xs a), (qL xs a).1⟩, AP, cP⟩) (fun y hy g hg e => absurd (hbd y hy g hg) (Nat.not_lt.2 (hnb g e)))), q5, oU.to (lI ModeI.cells ys ⟨⟨nV xs a, nV xs (iD xs a), (qL xs a).1⟩, AP, cP⟩).symm, oN.snoc (x := ⟨⟨nV xs a, nV xs (iD xs a), (qL xs a).1⟩, AP, cP⟩) oP (by show (qL xs a).1.length ≤ _; have := (aCc hB ha1).2; omega), hs, X⟩
 · first | omega | (dsimp only; omega)
 refine dD (dC (dC (eG (aS (aR (aF (aA rfl (aC rfl ?_))))))))
 subst hn
 refine aA rfl (dJ rfl (aA rfl (aG jG rfl rfl (aA rfl (aJ q xO rfl rfl ?_)))))
 cases hb1 : b
 refine aA rfl (aC rfl (aI rfl rfl rfl (aC rfl (aI rfl rfl rfl (cV aEs rfl (aCC _ _ _ _ ys _ oT.sl oN.nexts (by omega) (fun x hx => by have := hnl x hx; omega)) (fun w34 hIT x33 => ?_) (fun w34 hIT x33 => ?_))))))
 replace q := q.ext x33
 replace oT := oT.ext x33
 replace oN := oN.ext x33
 replace hs := hs.ext x33
 replace X := Q7x X x33
 refine aI rfl rfl rfl (bP rfl (aA rfl (aK rfl rfl (aB (aM rfl (aV (aS (eK [false, false, false, false, false, false, false, false] mixed (by kernel_rfl) (cO rfl (fun wq sq => aC rfl ⟨rfl, Q7r _⟩) (cO rfl (fun wq sq => aC rfl ⟨rfl, Q7r _⟩) (cO rfl (fun wq sq => dJ rfl ⟨rfl, Q7r _⟩) (cO rfl (fun wq sq => aG kF rfl rfl ⟨rfl, Q7r _⟩) (cO rfl (fun wq sq => aJ (q.ext sq) ti3 rfl rfl ⟨rfl, Q7r _⟩) (cO rfl (fun wq sq => aE rfl ⟨rfl, Q7r _⟩) (cO rfl (fun wq sq => aE rfl ⟨rfl, Q7r _⟩) (cO rfl (fun wq sq => aE rfl ⟨rfl, Q7r _⟩) (dX (fun w35 sq => ?_))))))))))))))))))
 have xq := sq
 replace q := q.ext xq
 replace oT := oT.ext xq
 replace oN := oN.ext xq
 replace hs := hs.ext xq
 replace X := Q7x X xq; clear xq sq
 refine aB (aW (dZ rfl rfl rfl rfl ?_))
 · skip
   subst hb1
   first
   | (exact absurd ‹(!false) = false› (by decide))
   | (have HN : lF xs = none := hg.2 rfl
      exact ⟨none, 0, [], 0, false, rfl, (by rw [HN]; exact ⟨rfl, rfl, rfl⟩), Disj.nil_, Own.nil_ _ _ _ _, NOwn.nil_, X⟩)
   | (have hr0 : rem = 0 := by omega
      subst hr0
      have HN : lF xs = none := hg.stop.2 hIT
      exact ⟨none, 0, [], 0, false, rfl, (by rw [HN]; exact ⟨rfl, rfl, rfl⟩), Disj.nil_, Own.nil_ _ _ _ _, NOwn.nil_, X⟩)
   | (have hr0 : rem = 0 := by omega
      subst hr0
      have HS : lF xs = some (ys.map (·.m), a) := hg.stop.1 hIT
      exact ⟨_, _, ys, _, true, rfl, (by rw [HS]; exact ⟨rfl, rfl, rfl⟩), hd, oT, oN, X⟩)
 replace q := q.ext x33
 replace oT := oT.ext x33
 replace oN := oN.ext x33
 replace hs := hs.ext x33
 replace X := Q7x X x33
 refine aI rfl rfl rfl (bP rfl (aA rfl (aK rfl rfl (aB (aQ rfl (aF (aA rfl (aE rfl (aA rfl (aE rfl (aA rfl (aE rfl (aB (aW (bN (dZ rfl rfl rfl rfl ?_))))))))))))))))
 · skip
   subst hb1
   first
   | (exact absurd ‹(!false) = false› (by decide))
   | (have HN : lF xs = none := hg.2 rfl
      exact ⟨none, 0, [], 0, false, rfl, (by rw [HN]; exact ⟨rfl, rfl, rfl⟩), Disj.nil_, Own.nil_ _ _ _ _, NOwn.nil_, X⟩)
   | (have hr0 : rem = 0 := by omega
      subst hr0
      have HN : lF xs = none := hg.stop.2 hIT
      exact ⟨none, 0, [], 0, false, rfl, (by rw [HN]; exact ⟨rfl, rfl, rfl⟩), Disj.nil_, Own.nil_ _ _ _ _, NOwn.nil_, X⟩)
   | (have hr0 : rem = 0 := by omega
      subst hr0
      have HS : lF xs = some (ys.map (·.m), a) := hg.stop.1 hIT
      exact ⟨_, _, ys, _, true, rfl, (by rw [HS]; exact ⟨rfl, rfl, rfl⟩), hd, oT, oN, X⟩)
 refine aA rfl (aC rfl (aH rfl rfl rfl rfl (aH rfl rfl rfl rfl (aH rfl rfl rfl rfl (aA rfl (aK rfl rfl (aB (aQ rfl (aF (aA rfl (aE rfl (aA rfl (aE rfl (aA rfl (aE rfl (aB (aW (bN (dZ rfl rfl rfl rfl ?_)))))))))))))))))))
 · skip
   subst hb1
   first
   | (exact absurd ‹(!false) = false› (by decide))
   | (have HN : lF xs = none := hg.2 rfl
      exact ⟨none, 0, [], 0, false, rfl, (by rw [HN]; exact ⟨rfl, rfl, rfl⟩), Disj.nil_, Own.nil_ _ _ _ _, NOwn.nil_, X⟩)
   | (have hr0 : rem = 0 := by omega
      subst hr0
      have HN : lF xs = none := hg.stop.2 hIT
      exact ⟨none, 0, [], 0, false, rfl, (by rw [HN]; exact ⟨rfl, rfl, rfl⟩), Disj.nil_, Own.nil_ _ _ _ _, NOwn.nil_, X⟩)
   | (have hr0 : rem = 0 := by omega
      subst hr0
      have HS : lF xs = some (ys.map (·.m), a) := hg.stop.1 hIT
      exact ⟨_, _, ys, _, true, rfl, (by rw [HS]; exact ⟨rfl, rfl, rfl⟩), hd, oT, oN, X⟩)
 refine aA rfl (aC rfl (aH rfl rfl rfl rfl (aH rfl rfl rfl rfl (aH rfl rfl rfl rfl (aH rfl rfl rfl rfl (aH rfl rfl rfl rfl (aA rfl (aK rfl rfl (aB (aM rfl (dD (dC (dC (eG (aS (aR (aF (aA rfl (aC rfl ?_)))))))))))))))))))
 subst hn
 refine aA rfl (dJ rfl (aA rfl (aG jG rfl rfl (aA rfl (aJ q xO rfl rfl ?_)))))
 cases hb1 : b
 refine aA rfl (aC rfl (aI rfl rfl rfl (aC rfl (aI rfl rfl rfl (cV aEs rfl (aCC _ _ _ _ ys _ oT.sl oN.nexts (by omega) (fun x hx => by have := hnl x hx; omega)) (fun w37 hIT x36 => ?_) (fun w37 hIT x36 => ?_))))))
 replace q := q.ext x36
 replace oT := oT.ext x36
 replace oN := oN.ext x36
 replace hs := hs.ext x36
 replace X := Q7x X x36
 refine aI rfl rfl rfl (bP rfl (aA rfl (aK rfl rfl (aB (aM rfl (aV (aS (eK [false, false, false, false, false, false, false, false] mixed (by kernel_rfl) (cO rfl (fun wq sq => aC rfl ⟨rfl, Q7r _⟩) (cO rfl (fun wq sq => aC rfl ⟨rfl, Q7r _⟩) (cO rfl (fun wq sq => dJ rfl ⟨rfl, Q7r _⟩) (cO rfl (fun wq sq => aG kF rfl rfl ⟨rfl, Q7r _⟩) (cO rfl (fun wq sq => aJ (q.ext sq) ti3 rfl rfl ⟨rfl, Q7r _⟩) (cO rfl (fun wq sq => aE rfl ⟨rfl, Q7r _⟩) (cO rfl (fun wq sq => aE rfl ⟨rfl, Q7r _⟩) (cO rfl (fun wq sq => aE rfl ⟨rfl, Q7r _⟩) (dX (fun w38 sq => ?_))))))))))))))))))
 have xq := sq
 replace q := q.ext xq
 replace oT := oT.ext xq
 replace oN := oN.ext xq
 replace hs := hs.ext xq
 replace X := Q7x X xq; clear xq sq
 refine aB (aW (dZ rfl rfl rfl rfl ?_))
 · skip
   subst hb1
   first
   | (exact absurd ‹(!false) = false› (by decide))
   | (have HN : lF xs = none := hg.2 rfl
      exact ⟨none, 0, [], 0, false, rfl, (by rw [HN]; exact ⟨rfl, rfl, rfl⟩), Disj.nil_, Own.nil_ _ _ _ _, NOwn.nil_, X⟩)
   | (have hr0 : rem = 0 := by omega
      subst hr0
      have HN : lF xs = none := hg.stop.2 hIT
      exact ⟨none, 0, [], 0, false, rfl, (by rw [HN]; exact ⟨rfl, rfl, rfl⟩), Disj.nil_, Own.nil_ _ _ _ _, NOwn.nil_, X⟩)
   | (have hr0 : rem = 0 := by omega
      subst hr0
      have HS : lF xs = some (ys.map (·.m), a) := hg.stop.1 hIT
      exact ⟨_, _, ys, _, true, rfl, (by rw [HS]; exact ⟨rfl, rfl, rfl⟩), hd, oT, oN, X⟩)
 replace q := q.ext x36
 replace oT := oT.ext x36
 replace oN := oN.ext x36
 replace hs := hs.ext x36
 replace X := Q7x X x36
 refine aI rfl rfl rfl (bP rfl (aA rfl (aK rfl rfl (aB (aQ rfl (aF (aA rfl (aE rfl (aA rfl (aE rfl (aA rfl (aE rfl (aB (aW (bN (dZ rfl rfl rfl rfl ?_))))))))))))))))
 · skip
   subst hb1
   first
   | (exact absurd ‹(!false) = false› (by decide))
   | (have HN : lF xs = none := hg.2 rfl
      exact ⟨none, 0, [], 0, false, rfl, (by rw [HN]; exact ⟨rfl, rfl, rfl⟩), Disj.nil_, Own.nil_ _ _ _ _, NOwn.nil_, X⟩)
   | (have hr0 : rem = 0 := by omega
      subst hr0
      have HN : lF xs = none := hg.stop.2 hIT
      exact ⟨none, 0, [], 0, false, rfl, (by rw [HN]; exact ⟨rfl, rfl, rfl⟩), Disj.nil_, Own.nil_ _ _ _ _, NOwn.nil_, X⟩)
   | (have hr0 : rem = 0 := by omega
      subst hr0
      have HS : lF xs = some (ys.map (·.m), a) := hg.stop.1 hIT
      exact ⟨_, _, ys, _, true, rfl, (by rw [HS]; exact ⟨rfl, rfl, rfl⟩), hd, oT, oN, X⟩)
 refine aA rfl (aC rfl (aH rfl rfl rfl rfl (aH rfl rfl rfl rfl (aH rfl rfl rfl rfl (aA rfl (aK rfl rfl (aB (aQ rfl (aF (aA rfl (aE rfl (aA rfl (aE rfl (aA rfl (aE rfl (aB (aW (bN (dZ rfl rfl rfl rfl ?_)))))))))))))))))))
 · skip
   subst hb1
   first
   | (exact absurd ‹(!false) = false› (by decide))
   | (have HN : lF xs = none := hg.2 rfl
      exact ⟨none, 0, [], 0, false, rfl, (by rw [HN]; exact ⟨rfl, rfl, rfl⟩), Disj.nil_, Own.nil_ _ _ _ _, NOwn.nil_, X⟩)
   | (have hr0 : rem = 0 := by omega
      subst hr0
      have HN : lF xs = none := hg.stop.2 hIT
      exact ⟨none, 0, [], 0, false, rfl, (by rw [HN]; exact ⟨rfl, rfl, rfl⟩), Disj.nil_, Own.nil_ _ _ _ _, NOwn.nil_, X⟩)
   | (have hr0 : rem = 0 := by omega
      subst hr0
      have HS : lF xs = some (ys.map (·.m), a) := hg.stop.1 hIT
      exact ⟨_, _, ys, _, true, rfl, (by rw [HS]; exact ⟨rfl, rfl, rfl⟩), hd, oT, oN, X⟩)
theorem aFP (A : Option Addr) (B c : Nat) (xs : List Int) (w : World) (hs : Sl B w A (xs.flatMap eI)) (hl : xs.length ≤ 1048576) (hB : nU xs = true) (hcap : xs.length ≤ c) :
   Calls Tryz.prog 171 #[.slice A xs.length c] w (fF fun v w' => ∃ A' c' ys sz ok, v = .tuple #[.slice A' (List.length ys) c', .int .i64 sz, .bool ok] ∧ RdM (lF xs) (ys.map (·.m)) sz ok ∧ Disj ys ∧ Own w' w.heap.size 92 3 A' ys.length c' (ys.flatMap ModeI.cells) ∧ NOwn w' w.heap.size 2 ys ∧ Ext w w') := by
 have Bhs := hs.1
 have X := Q7r w
 refine bJ (args := [.slice A xs.length c]) Tryz.func171 Tryz.ntmps171 rfl rfl (aF (aA rfl (aE rfl (aA rfl (aE rfl (aA rfl (aE rfl (aB (aR (aF (aA rfl (aC rfl (aA rfl (bO Tryz.underlying30 rfl (aA rfl (dP rfl rfl (fun h0 => ?_) (fun h0 => ?_)))))))))))))))))
 refine aB (aQ rfl (aF (aA rfl (aE rfl (aA rfl (aE rfl (aA rfl (aE rfl (aB (aW (bN (dZ rfl rfl rfl rfl ?_))))))))))))
 · skip
   first
   | (have HN : lF xs = none := nF (by omega)
      exact ⟨none, 0, [], 0, false, rfl, (by rw [HN]; exact ⟨rfl, rfl, rfl⟩), Disj.nil_, Own.nil_ _ _ _ _, NOwn.nil_, X⟩)
   | (have HN : lF xs = none := kU hne (by rw [hg, pZ (by omega) (by omega)]; rfl)
      exact ⟨none, 0, [], 0, false, rfl, (by rw [HN]; exact ⟨rfl, rfl, rfl⟩), Disj.nil_, Own.nil_ _ _ _ _, NOwn.nil_, X⟩)
   | (have HN : lF xs = none := kU hne (by rw [hg, nT (by omega) hx2 (by omega)]; rfl)
      exact ⟨none, 0, [], 0, false, rfl, (by rw [HN]; exact ⟨rfl, rfl, rfl⟩), Disj.nil_, Own.nil_ _ _ _ _, NOwn.nil_, X⟩)
   | (have hr0 : rem = 0 := by omega
      subst hr0
      have HN : lF xs = none := uN hne (by rw [hg]; rfl) (by simpa using hIT)
      exact ⟨none, 0, [], 0, false, rfl, (by rw [HN]; exact ⟨rfl, rfl, rfl⟩), Disj.nil_, Own.nil_ _ _ _ _, NOwn.nil_, X⟩)
   | (have hr0 : rem = 0 := by omega
      subst hr0
      have HS : lF xs = some (ys.map (·.m), a) := rE hne (by rw [hg]; simp [iY]) (by simpa using hIT)
      exact ⟨_, _, ys, _, true, rfl, (by rw [HS]; exact ⟨rfl, rfl, rfl⟩), hd, oT, oN, X⟩)
 obtain ⟨z0, h00, _⟩ := eL (xs := xs) (k := 0) (by omega)
 have hz0 := iE hB h00
 have hne : xs.length ≠ 0 := by omega
 refine aB (aM rfl (aV (aS (aF (aA rfl (aO kX iO rfl rfl rfl rfl rfl ?_))))))
 intro gO w2 egO oT bbgO x1 zgO
 replace oT := Own.low oT X.size
 replace hs := hs.ext x1
 replace X := Q7x X x1; clear x1
 refine aA rfl (aE rfl (aB (aF (aA rfl (aE rfl (aB (aR (aF (aA rfl (aC rfl (aA rfl (aU hs bI rfl cQ rfl rfl rfl h00 rfl (aA rfl (bS hs bI h00 dB rfl rfl rfl (aA rfl (aE rfl (aB (aX (dG (G := Nat × Nat × List ModeI × Nat × Option Addr × Nat × Int) (fun ⟨rem, a, ys, n1, A1, c1, tm⟩ => [(0, .slice A xs.length c), (7, .int .i64 tm), (6, .int .i64 (a : Nat)), (5, .slice A1 n1 c1)]) (fun ⟨rem, a, ys, n1, A1, c1, tm⟩ wr => a ≤ xs.length ∧ 1 ≤ a ∧ n1 = ys.length ∧ tm = (rem : Int) ∧ n1 + rem ≤ 255 ∧ iY xs (xs.getD 0 0).toNat 1 = (iY xs rem a).map (fun r => (ys.map (·.m) ++ r.1, r.2)) ∧ (∀ y ∈ ys, y.m.next.length ≤ 255) ∧ Disj ys ∧ Own wr w.heap.size 92 3 A1 n1 c1 (ys.flatMap ModeI.cells) ∧ NOwn wr w.heap.size 2 ys ∧ Sl B wr A (xs.flatMap eI) ∧ Ext w wr) (fun ⟨rem, a, ys, n1, A1, c1, tm⟩ => rem) (z0.toNat, 1, [], 0, some ⟨gO, 0, none⟩, 0, z0) (.cons rfl (.cons rfl (.cons rfl (.cons rfl (.nil _))))) ?_ ?_)))))))))))))))))))
 · exact ⟨(by omega), by omega, rfl, (by have := iE hB h00; omega), (by have := iE hB h00; show 0 + _ ≤ _; omega), (by rw [tL h00]; cases iY xs z0.toNat 1 <;> simp), (fun y hy => by simp at hy), Disj.nil_, oT, NOwn.nil_, hs, X⟩
 clear hs oT
 clear X
 rintro ⟨rem, a, ys, n1, A1, c1, tm⟩ wr ⟨ha1, ha0, hn, htm, hrm, hg, hnl, hd, oT, oN, hs, X⟩
 refine aR (aF (aA rfl (aC rfl (aA rfl (fG rfl rfl (fun hr => ?_) (fun hr => ?_))))))
 refine aB (aQ rfl (aV (aS (aR (aX (aR (aF (aA rfl (aC rfl (aA rfl (aY rfl rfl (dM (by omega)) (aA rfl (aC rfl (aA rfl (bO Tryz.underlying30 rfl (aA rfl (fG rfl rfl (fun e1 => ?_) (fun e1 => ?_))))))))))))))))))
 refine aA rfl (aC rfl (aH rfl rfl rfl rfl (aH rfl rfl rfl rfl (aH rfl rfl rfl rfl (aH rfl rfl rfl rfl (aH rfl rfl rfl rfl (aH rfl rfl rfl rfl (aH rfl rfl rfl rfl (aH rfl rfl rfl rfl (aH rfl rfl rfl rfl (aH rfl rfl rfl rfl (aH rfl rfl rfl rfl (aA rfl (aK rfl rfl (aB (aQ rfl (aF (aA rfl (aE rfl (aA rfl (aE rfl (aA rfl (aE rfl (aB (aW (bN (dL (bN (bN (dL (bN (dZ rfl rfl rfl rfl ?_))))))))))))))))))))))))))))))))
 · skip
   first
   | (have HN : lF xs = none := nF (by omega)
      exact ⟨none, 0, [], 0, false, rfl, (by rw [HN]; exact ⟨rfl, rfl, rfl⟩), Disj.nil_, Own.nil_ _ _ _ _, NOwn.nil_, X⟩)
   | (have HN : lF xs = none := kU hne (by rw [hg, pZ (by omega) (by omega)]; rfl)
      exact ⟨none, 0, [], 0, false, rfl, (by rw [HN]; exact ⟨rfl, rfl, rfl⟩), Disj.nil_, Own.nil_ _ _ _ _, NOwn.nil_, X⟩)
   | (have HN : lF xs = none := kU hne (by rw [hg, nT (by omega) hx2 (by omega)]; rfl)
      exact ⟨none, 0, [], 0, false, rfl, (by rw [HN]; exact ⟨rfl, rfl, rfl⟩), Disj.nil_, Own.nil_ _ _ _ _, NOwn.nil_, X⟩)
   | (have hr0 : rem = 0 := by omega
      subst hr0
      have HN : lF xs = none := uN hne (by rw [hg]; rfl) (by simpa using hIT)
      exact ⟨none, 0, [], 0, false, rfl, (by rw [HN]; exact ⟨rfl, rfl, rfl⟩), Disj.nil_, Own.nil_ _ _ _ _, NOwn.nil_, X⟩)
   | (have hr0 : rem = 0 := by omega
      subst hr0
      have HS : lF xs = some (ys.map (·.m), a) := rE hne (by rw [hg]; simp [iY]) (by simpa using hIT)
      exact ⟨_, _, ys, _, true, rfl, (by rw [HS]; exact ⟨rfl, rfl, rfl⟩), hd, oT, oN, X⟩)
 obtain ⟨y, hx2, _⟩ := eL (xs := xs) (k := a + 2) (by omega)
 have hyb := iE hB hx2
 obtain ⟨yn, rfl⟩ : ∃ n : Nat, y = (n : Int) := ⟨y.toNat, by omega⟩
 refine aA rfl (aC rfl (aI rfl rfl rfl (aC rfl (aI rfl rfl rfl (aY rfl rfl (dM (by omega)) (aI rfl rfl rfl (aC rfl (aI rfl rfl rfl (aC rfl (aI rfl rfl rfl (aY rfl rfl (dM (by omega)) (aI rfl rfl rfl (aU hs bI rfl cQ rfl rfl rfl hx2 (by omega) (aI rfl rfl rfl (bS hs bI hx2 dB rfl rfl rfl (aI rfl rfl rfl (aY rfl rfl (dM (by omega)) (aI rfl rfl rfl (aC rfl (aI rfl rfl rfl (bO Tryz.underlying30 rfl (aI rfl rfl rfl (fG rfl rfl (fun e2 => ?_) (fun e2 => ?_))))))))))))))))))))))))
 refine aA rfl (aK rfl rfl (aB (aQ rfl (aF (aA rfl (aE rfl (aA rfl (aE rfl (aA rfl (aE rfl (aB (aW (bN (dL (bN (bN (dL (bN (dZ rfl rfl rfl rfl ?_)))))))))))))))))))
 · skip
   first
   | (have HN : lF xs = none := nF (by omega)
      exact ⟨none, 0, [], 0, false, rfl, (by rw [HN]; exact ⟨rfl, rfl, rfl⟩), Disj.nil_, Own.nil_ _ _ _ _, NOwn.nil_, X⟩)
   | (have HN : lF xs = none := kU hne (by rw [hg, pZ (by omega) (by omega)]; rfl)
      exact ⟨none, 0, [], 0, false, rfl, (by rw [HN]; exact ⟨rfl, rfl, rfl⟩), Disj.nil_, Own.nil_ _ _ _ _, NOwn.nil_, X⟩)
   | (have HN : lF xs = none := kU hne (by rw [hg, nT (by omega) hx2 (by omega)]; rfl)
      exact ⟨none, 0, [], 0, false, rfl, (by rw [HN]; exact ⟨rfl, rfl, rfl⟩), Disj.nil_, Own.nil_ _ _ _ _, NOwn.nil_, X⟩)
   | (have hr0 : rem = 0 := by omega
      subst hr0
      have HN : lF xs = none := uN hne (by rw [hg]; rfl) (by simpa using hIT)
      exact ⟨none, 0, [], 0, false, rfl, (by rw [HN]; exact ⟨rfl, rfl, rfl⟩), Disj.nil_, Own.nil_ _ _ _ _, NOwn.nil_, X⟩)
   | (have hr0 : rem = 0 := by omega
      subst hr0
      have HS : lF xs = some (ys.map (·.m), a) := rE hne (by rw [hg]; simp [iY]) (by simpa using hIT)
      exact ⟨_, _, ys, _, true, rfl, (by rw [HS]; exact ⟨rfl, rfl, rfl⟩), hd, oT, oN, X⟩)
 obtain ⟨x0, hx0, _⟩ := eL (xs := xs) (k := a) (by omega)
 obtain ⟨x1, hx1, _⟩ := eL (xs := xs) (k := a + 1) (by omega)
 refine aA rfl (aK rfl rfl (aB (aM rfl (aV (aS (aF (aA rfl (aC rfl (aA rfl (aC rfl (aA rfl (aY rfl rfl (dM (by omega)) (aA rfl (aC rfl (aA rfl (aY rfl rfl (dM (by omega)) (aA rfl (aC rfl (aA rfl (aC rfl (aA rfl (aY rfl rfl (dM (by omega)) (aA rfl (aU hs bI rfl cQ rfl rfl rfl hx2 (by omega) (aA rfl (bS hs bI hx2 dB rfl rfl rfl (aA rfl (aY rfl rfl (dM (by omega)) (aA rfl (kZ cQ hs bI rfl rfl rfl (show _ = ((a + 3 : Nat) : Int) by omega) (show _ = ((a + 3 + yn : Nat) : Int) by omega) (by omega) (by omega) ?_))))))))))))))))))))))))))))))
 intro Ap pS
 have hbd := fun y hy g hg => (Own.lt (oN y hy).1 (g := g) hg).2
 refine aA rfl (aT aKc rfl (aP (aGy Ap B _ _ ((xs.drop (a + 3)).take yn) _ (by have h := pS; rwa [show a + 3 + yn - (a + 3) = yn by omega] at h) (by simp; omega) (by simp; omega)) ?_))
 rintro _ w4 ⟨AW, cW, rfl, oW, x3⟩
 have LoW := X.size
 replace oT := oT.ext x3
 replace oN := oN.ext x3
 replace hs := hs.ext x3
 replace pS := pS.ext x3
 replace X := Q7x X x3; clear x3
 have hnb := fun g hg => (Own.lt oW (g := g) hg).1
 replace oW := Own.low oW LoW
 clear pS
 have hyl : ((xs.drop (a + 3)).take yn).length = yn := by simp; omega
 refine aA rfl (aE rfl (aB (eK [false, false, false, false, false, false, false, false, false, false, false, false, true] mixed (by kernel_rfl) (cO rfl (fun wq sq => aC rfl ⟨rfl, Q7r _⟩) (cO rfl (fun wq sq => aC rfl ⟨rfl, Q7r _⟩) (cO rfl (fun wq sq => aC rfl ⟨rfl, Q7r _⟩) (cO rfl (fun wq sq => aU (hs.ext sq) bI rfl cQ rfl rfl rfl hx0 rfl ⟨rfl, Q7r _⟩) (cO rfl (fun wq sq => bS (hs.ext sq) bI hx0 dB rfl rfl rfl ⟨rfl, Q7r _⟩) (cO rfl (fun wq sq => aC rfl ⟨rfl, Q7r _⟩) (cO rfl (fun wq sq => aC rfl ⟨rfl, Q7r _⟩) (cO rfl (fun wq sq => aY rfl rfl (dM (by omega)) ⟨rfl, Q7r _⟩) (cO rfl (fun wq sq => aU (hs.ext sq) bI rfl cQ rfl rfl rfl hx1 (by omega) ⟨rfl, Q7r _⟩) ?_))))))))))))
 refine cO rfl (fun wq sq => bS (hs.ext sq) bI hx1 dB rfl rfl rfl ⟨rfl, Q7r _⟩) (cO rfl (fun wq sq => aC rfl ⟨rfl, Q7r _⟩) (cO rfl (fun wq sq => dA aF3 iO rfl rfl ⟨rfl, Q7r _⟩) (zL (fun g5 : Nat => Value.slice (some ⟨g5, 0, none⟩) 1 1) (fun g5 wz => Own wz w.heap.size 92 3 (some ⟨g5, 0, none⟩) 1 1 (ModeI.cells ⟨⟨x0, x1, (xs.drop (a + 3)).take yn⟩, AW, cW⟩)) 0 rfl ⟨lT, fun _ _ _ h k => h.ext k, fun wq sq => aO kX iO rfl rfl rfl rfl rfl (fun g w' hg ho hb hx hz => ⟨g, rfl, Own.low ho (Q7l X.size (sq).size), hx⟩)⟩ ?_)))
 intro g5
 refine dX (fun w6 sq => ?_)
 have xq := sq.1
 have oV := sq.2
 replace oT := oT.ext xq
 replace oN := oN.ext xq
 replace hs := hs.ext xq
 replace oW := oW.ext xq
 replace X := Q7x X xq; clear xq sq
 refine aA rfl (cH (ts := #[]) oT X.size oV.sl (by first | rfl | simp) (by first | exact List.all_eq_true.1 rfl | simp [Value.oneCell']) kX iO rfl rfl rfl rfl (by omega) (by omega) ?_)
 intro AoU coU w9 oU hg7
 replace oN := oN.grownO oT hg7 (by decide)
 replace hs := hs.grown hg7 (fun g hg => Q7l Bhs (Own.lt oT hg).1)
 replace oW := oW.grown hg7 (Own.neO oW oT (by decide))
 replace X := X.grown hg7 X.size (fun g hg => (Own.lt oT hg).1)
 clear hg7
 refine aA rfl (aE rfl (aB (aN (aA rfl (aC rfl (aA rfl (aY rfl rfl (dM (by omega)) (aA rfl (aC rfl (aA rfl (bO Tryz.underlying30 rfl (aA rfl (aY rfl rfl (show IntKind.i64.wrap _ = ((a + 3 + yn : Nat) : Int) by rw [hyl]; exact (dM (by omega)).trans (by omega)) (aA rfl (aE rfl (aB (dO (aS (aN (aA rfl (aC rfl (aA rfl (fZ rfl rfl (dM (by omega)) (aA rfl (aE rfl (aB (aS ⟨(rem - 1, a + 3 + yn, ys ++ [⟨⟨x0, x1, (xs.drop (a + 3)).take yn⟩, AW, cW⟩], n1 + 1, AoU, coU, tm - 1), (.cons rfl (.cons rfl (.cons rfl (.cons rfl (.nil _))))), ?_, ?_⟩)))))))))))))))))))))))))))
 · skip
   exact ⟨(by omega), by omega, (by simp [hn]), (by omega), (by omega), (by rw [hg, aFF (by omega) hx0 hx1 hx2 (by omega)]; cases iY xs (rem - 1) (a + 3 + yn) <;> simp), (by
     intro y hy
     rcases List.mem_append.1 hy with h | h
     · exact hnl y h
     · obtain rfl : y = ⟨⟨x0, x1, (xs.drop (a + 3)).take yn⟩, AW, cW⟩ := by simpa using h
       show ((xs.drop (a + 3)).take yn).length ≤ 255
       simp; omega), (hd.snoc (x := ⟨⟨x0, x1, (xs.drop (a + 3)).take yn⟩, AW, cW⟩) (fun y hy g hg e => absurd (hbd y hy g hg) (Nat.not_lt.2 (hnb g e)))), oU.to (lI ModeI.cells ys ⟨⟨x0, x1, (xs.drop (a + 3)).take yn⟩, AW, cW⟩).symm, oN.snoc (x := ⟨⟨x0, x1, (xs.drop (a + 3)).take yn⟩, AW, cW⟩) oW (by show ((xs.drop (a + 3)).take yn).length ≤ _; simp; omega), hs, X⟩
 · first | omega | (dsimp only; omega)
 refine aB (aM rfl (dD (dC (dC (eG (aS (aR (aF ?_))))))))
 subst hn
 refine aA rfl (aC rfl (aA rfl (cV aHA rfl (aFj _ _ _ _ ys _ oT.sl oN.nexts (by omega) (fun x hx => by have := hnl x hx; omega)) (fun w11 hIT x10 => ?_) (fun w11 hIT x10 => ?_))))
 replace oT := oT.ext x10
 replace oN := oN.ext x10
 replace hs := hs.ext x10
 replace X := Q7x X x10
 refine aA rfl (bP rfl (aB (aM rfl (aV (aS (aF (aA rfl (aC rfl (aA rfl (aC rfl (aA rfl (aE rfl (aA rfl (aE rfl (aA rfl (aE rfl (aB (aW (dZ rfl rfl rfl rfl ?_)))))))))))))))))))
 · skip
   first
   | (have HN : lF xs = none := nF (by omega)
      exact ⟨none, 0, [], 0, false, rfl, (by rw [HN]; exact ⟨rfl, rfl, rfl⟩), Disj.nil_, Own.nil_ _ _ _ _, NOwn.nil_, X⟩)
   | (have HN : lF xs = none := kU hne (by rw [hg, pZ (by omega) (by omega)]; rfl)
      exact ⟨none, 0, [], 0, false, rfl, (by rw [HN]; exact ⟨rfl, rfl, rfl⟩), Disj.nil_, Own.nil_ _ _ _ _, NOwn.nil_, X⟩)
   | (have HN : lF xs = none := kU hne (by rw [hg, nT (by omega) hx2 (by omega)]; rfl)
      exact ⟨none, 0, [], 0, false, rfl, (by rw [HN]; exact ⟨rfl, rfl, rfl⟩), Disj.nil_, Own.nil_ _ _ _ _, NOwn.nil_, X⟩)
   | (have hr0 : rem = 0 := by omega
      subst hr0
      have HN : lF xs = none := uN hne (by rw [hg]; rfl) (by simpa using hIT)
      exact ⟨none, 0, [], 0, false, rfl, (by rw [HN]; exact ⟨rfl, rfl, rfl⟩), Disj.nil_, Own.nil_ _ _ _ _, NOwn.nil_, X⟩)
   | (have hr0 : rem = 0 := by omega
      subst hr0
      have HS : lF xs = some (ys.map (·.m), a) := rE hne (by rw [hg]; simp [iY]) (by simpa using hIT)
      exact ⟨_, _, ys, _, true, rfl, (by rw [HS]; exact ⟨rfl, rfl, rfl⟩), hd, oT, oN, X⟩)
 replace oT := oT.ext x10
 replace oN := oN.ext x10
 replace hs := hs.ext x10
 replace X := Q7x X x10
 refine aA rfl (bP rfl (aB (aQ rfl (aF (aA rfl (aE rfl (aA rfl (aE rfl (aA rfl (aE rfl (aB (aW (bN (dZ rfl rfl rfl rfl ?_))))))))))))))
 · skip
   first
   | (have HN : lF xs = none := nF (by omega)
      exact ⟨none, 0, [], 0, false, rfl, (by rw [HN]; exact ⟨rfl, rfl, rfl⟩), Disj.nil_, Own.nil_ _ _ _ _, NOwn.nil_, X⟩)
   | (have HN : lF xs = none := kU hne (by rw [hg, pZ (by omega) (by omega)]; rfl)
      exact ⟨none, 0, [], 0, false, rfl, (by rw [HN]; exact ⟨rfl, rfl, rfl⟩), Disj.nil_, Own.nil_ _ _ _ _, NOwn.nil_, X⟩)
   | (have HN : lF xs = none := kU hne (by rw [hg, nT (by omega) hx2 (by omega)]; rfl)
      exact ⟨none, 0, [], 0, false, rfl, (by rw [HN]; exact ⟨rfl, rfl, rfl⟩), Disj.nil_, Own.nil_ _ _ _ _, NOwn.nil_, X⟩)
   | (have hr0 : rem = 0 := by omega
      subst hr0
      have HN : lF xs = none := uN hne (by rw [hg]; rfl) (by simpa using hIT)
      exact ⟨none, 0, [], 0, false, rfl, (by rw [HN]; exact ⟨rfl, rfl, rfl⟩), Disj.nil_, Own.nil_ _ _ _ _, NOwn.nil_, X⟩)
   | (have hr0 : rem = 0 := by omega
      subst hr0
      have HS : lF xs = some (ys.map (·.m), a) := rE hne (by rw [hg]; simp [iY]) (by simpa using hIT)
      exact ⟨_, _, ys, _, true, rfl, (by rw [HS]; exact ⟨rfl, rfl, rfl⟩), hd, oT, oN, X⟩)
end Go.Proofs.YtdoibplhbdkapaaGreatDoor
