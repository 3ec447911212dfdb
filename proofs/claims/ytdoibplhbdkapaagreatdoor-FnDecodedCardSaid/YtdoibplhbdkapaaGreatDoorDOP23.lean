/- Parts. No condition. -/
import Derived.Test.YtdoibplhbdkapaaGreatDoorDOP22
import Derived.Test.YtdoibplhbdkapaaGreatDoorDOP11
import Derived.Test.YtdoibplhbdkapaaGreatDoorDOP13
namespace Go.Proofs.YtdoibplhbdkapaaGreatDoor
open Go.RowKit
set_option linter.unusedVariables false
set_option linter.unusedSimpArgs false
set_option maxRecDepth 20000
theorem aC9 (A : Option Addr) (B c : Nat) (xs : List Int) (gC a : Nat) (A2 : Option Addr) (B2 c2 : Nat) (ys : List Int) (w : World) (q : Blk w gC 166 (wT A c xs a false)) (hs : Sl B w A (xs.flatMap eI)) (h2 : Sl B2 w A2 (ys.flatMap eI)) (hl : xs.length ≤ 1048576) (ha : a ≤ xs.length) (hcap : xs.length ≤ c) :
   Calls Tryz.prog 162 #[.pointer (some ⟨gC, 0, none⟩), .slice A2 ys.length c2] w (fF fun v w' => v = .bool (decide (xs.take a = ys)) ∧ Ext w w') := by
 have Bhs := hs.1
 have Bh2 := h2.1
 have X := Q7r w
 refine bJ (args := [.pointer (some ⟨gC, 0, none⟩), .slice A2 ys.length c2]) Tryz.func162 Tryz.ntmps162 rfl rfl (aF (aA rfl (aE rfl (aB (eK [false, false, false, false, false, false, false, false, false, false, false, false, false, false, false, false, false, false, false] mixed (by kernel_rfl) (cO rfl (fun wq sq => aC rfl ⟨rfl, Q7r _⟩) (cO rfl (fun wq sq => dJ rfl ⟨rfl, Q7r _⟩) (cO rfl (fun wq sq => aG jG rfl rfl ⟨rfl, Q7r _⟩) (cO rfl (fun wq sq => aJ (q.ext sq) xO rfl rfl ⟨rfl, Q7r _⟩) (cO rfl (fun wq sq => bP rfl ⟨rfl, Q7r _⟩) (cO rfl (fun wq sq => aC rfl ⟨rfl, Q7r _⟩) (dQ rfl rfl rfl (fun wq sq => aC rfl ⟨rfl, Q7r _⟩) ?_))))))))))))
 refine dQ rfl rfl rfl (fun wq sq => dJ rfl ⟨rfl, Q7r _⟩) (dQ rfl rfl rfl (fun wq sq => aG aAZ rfl rfl ⟨rfl, Q7r _⟩) (dQ rfl rfl rfl (fun wq sq => aJ (q.ext sq) mD rfl rfl ⟨rfl, Q7r _⟩) (dQ rfl rfl rfl (fun wq sq => aC rfl ⟨rfl, Q7r _⟩) (dQ rfl rfl rfl (fun wq sq => dJ rfl ⟨rfl, Q7r _⟩) (dQ rfl rfl rfl (fun wq sq => aG kF rfl rfl ⟨rfl, Q7r _⟩) (dQ rfl rfl rfl (fun wq sq => aJ (q.ext sq) ti3 rfl rfl ⟨rfl, Q7r _⟩) (dQ rfl rfl rfl (fun wq sq => iL (h := a) cQ rfl rfl rfl (by omega) ⟨rfl, Q7r _⟩) (dQ rfl rfl rfl (fun wq sq => aC rfl ⟨rfl, Q7r _⟩) (dQ rfl rfl rfl (fun wq sq => aT aEt rfl (aCN _ _ _ a (xs.take a) _ _ _ _ ys _ ((hs.ext sq).takeI _) (h2.ext sq) (by rw [List.length_take]; omega) (by rw [List.length_take]; omega) rfl)) ?_)))))))))
 refine cO rfl (fun wq sq => aK rfl rfl ⟨rfl, Q7r _⟩) (cO rfl (fun wq sq => aE rfl ⟨rfl, Q7r _⟩) (dX (fun w1 sq => ?_)))
 have xq := sq
 replace q := q.ext xq
 replace hs := hs.ext xq
 replace h2 := h2.ext xq
 replace X := Q7x X xq; clear xq sq
 exact aB (aW (aL rfl rfl ⟨by rfl, X⟩))
theorem aDa (A : Option Addr) (B c : Nat) (xs : List Int) (w : World) (hs : Sl B w A (xs.flatMap eI)) (hl : xs.length ≤ 1048576) (hB : nU xs = true) (hcap : xs.length ≤ c) :
   Calls Tryz.prog 76 #[.slice A xs.length c] w (fF fun v w' => ∃ A' c' ys sz ok, v = .tuple #[.slice A' (List.length ys) c', .int .i64 sz, .bool ok] ∧ RdN (jD xs) ys sz ok ∧ Own w' w.heap.size 59 4 A' ys.length c' (ys.flatMap NodeI.cells) ∧ Ext w w') := by
 have Bhs := hs.1
 have X := Q7r w
 refine bJ (args := [.slice A xs.length c]) Tryz.func76 Tryz.ntmps76 rfl rfl (aF (aA rfl (aE rfl (aA rfl (aE rfl (aA rfl (aE rfl (aB (aF (aA rfl (aC rfl (aA rfl (dA aHh aHg rfl rfl (aA rfl (eX rfl rfl ?_)))))))))))))))
 intro gC w2 egC q x1 zgC
 have lgC : w.heap.size ≤ gC := Q7l X.size (Q7e egC.symm)
 have pgChs := Q7l hs.1 (Q7e egC.symm)
 replace hs := hs.ext x1
 replace X := Q7x X x1; clear x1
 have q : Blk _ gC 166 (wT A c xs 0 false) := q
 refine aA rfl (aO lO kE rfl rfl rfl rfl rfl ?_)
 intro gO w4 egO oT bbgO x3 zgO
 replace oT := Own.low oT X.size
 replace hs := hs.ext x3
 replace q := q.ext x3
 replace X := Q7x X x3; clear x3
 refine aA rfl (aE rfl (aA rfl (aE rfl (aB (aR (aF (aA rfl (aC rfl (aA rfl (aT mW rfl (aP (mT A B c xs gC 0 false _ q hs hl (Nat.zero_le _) (by omega)) ?_)))))))))))
 rintro _ w6 ⟨rfl, q1, x5⟩
 replace hs := hs.grown x5 (by intro g hg; injection hg; omega)
 replace oT := oT.grownBlk x5 (Own.neT oT q (by decide))
 replace X := X.grown x5 X.size (by intro g hg; injection hg; omega)
 clear x5 q
 refine aA rfl (aE rfl (aB (aX (dG (G := Nat × Nat × Bool × List NodeI × Nat × Option Addr × Nat × Int) (fun ⟨rem, a, b, ys, n1, A1, c1, tm⟩ => [(2, .slice none 0 0), (3, .int .i64 0), (4, .bool false), (5, .pointer (some ⟨gC, 0, none⟩)), (7, .int .i64 tm), (6, .slice A1 n1 c1)]) (fun ⟨rem, a, b, ys, n1, A1, c1, tm⟩ wr => a ≤ xs.length ∧ n1 = ys.length ∧ tm = (rem : Int) ∧ n1 + rem ≤ 255 ∧ HgN xs rem a b ys ∧ (∀ y ∈ ys, y.name.size ≤ 1020) ∧ Blk wr gC 166 (wT A c xs a b) ∧ Own wr w.heap.size 59 4 A1 n1 c1 (ys.flatMap NodeI.cells) ∧ Sl B wr A (xs.flatMap eI) ∧ Ext w wr) (fun ⟨rem, a, b, ys, n1, A1, c1, tm⟩ => rem) ((nV xs 0).toNat, iD xs 0, fL xs 0 false, [], 0, some ⟨gO, 0, none⟩, 0, nV xs 0) (.cons rfl (.cons rfl (.cons rfl (.cons rfl (.cons rfl (.cons rfl (.nil _))))))) ?_ ?_))))
 · exact ⟨(fT (Nat.zero_le _)), rfl, (by have := pY hB 0; omega), (by have := pY hB 0; show 0 + _ ≤ _; omega), (HgN.start xs), (fun y hy => by simp at hy), q1, oT, hs, X⟩
 clear hs oT q1
 clear X
 rintro ⟨rem, a, b, ys, n1, A1, c1, tm⟩ wr ⟨ha1, hn, htm, hrm, hg, hnm, q, oT, hs, X⟩
 refine aR (aF (aA rfl (aC rfl (aA rfl (fG rfl rfl (fun h7 => ?_) (fun h7 => ?_))))))
 refine aA rfl (aC rfl (aI rfl rfl rfl (aC rfl (aI rfl rfl rfl (dJ rfl (aI rfl rfl rfl (aG jG rfl rfl (aI rfl rfl rfl (aJ q xO rfl rfl (aI rfl rfl rfl (bP rfl (aA rfl (aK rfl rfl (aB (rU rfl (fun h8 => ?_) (fun h8 => ?_))))))))))))))))
 refine aV (aS (aR (aX (aF (aA rfl (aC rfl ?_))))))
 have hb0 : b = false := by simpa using ‹(!b) = true›
 subst hb0
 have hv0 := pY hB (iD xs (iD xs (iD xs (iD xs a))))
 have hv1 := pY hB (iD xs a)
 have hv2 := pY hB (iD xs (iD xs a))
 have hv3 := pY hB (iD xs (iD xs (iD xs a)))
 refine aA rfl (aT mW rfl (aP (mT A B c xs gC a false _ q hs hl ha1 (by omega)) ?_))
 rintro _ w10 ⟨rfl, q2, x9⟩
 replace oT := oT.grownBlk x9 (Own.neT oT q (by decide))
 replace hs := hs.grown x9 (by intro g hg; injection hg; omega)
 replace X := X.grown x9 X.size (by intro g hg; injection hg; omega)
 clear x9 q
 refine aA rfl (dA aHe kE rfl rfl ?_)
 have UT := fun g hg => (Own.lt oT (g := g) hg).2
 refine aA rfl (dT kE ?_)
 intro gX w12 egX bX x11 zgX
 have lgX : w.heap.size ≤ gX := Q7l X.size (Q7e egX.symm)
 have pgXhs := Q7l hs.1 (Q7e egX.symm)
 have ngXq2 := Nat.lt_of_lt_of_eq q2.lt egX.symm
 replace oT := oT.ext x11
 replace hs := hs.ext x11
 replace q2 := q2.ext x11
 replace X := Q7x X x11
 refine aA rfl (bK bX kE rfl rfl rfl rfl rfl rfl ?_)
 intro w14 bY hg13 z15
 replace oT := oT.grownBlk hg13 (fun h => by have := UT _ h; omega)
 replace hs := hs.grown hg13 (by intro g hg; injection hg; omega)
 replace q2 := q2.grown hg13 (by intro h; injection h; omega)
 replace X := X.grown hg13 X.size (by intro g hg; injection hg; omega)
 clear hg13 bX
 refine aB (aF (aA rfl (aC rfl (aA rfl (aT mW rfl (aP (mT A B c xs gC _ _ _ q2 hs hl (fT ha1) (by omega)) ?_))))))
 rintro _ w17 ⟨rfl, q3, x16⟩
 replace oT := oT.grownBlk x16 (Own.neT oT q2 (by decide))
 replace hs := hs.grown x16 (by intro g hg; injection hg; omega)
 replace bY := bY.grown x16 (by intro h; injection h; omega)
 replace X := X.grown x16 X.size (by intro g hg; injection hg; omega)
 clear x16 q2
 refine aA rfl (fO rfl rfl (dM (by omega)) (aA rfl (aC rfl (aA rfl (aT mW rfl (aP (mT A B c xs gC _ _ _ q3 hs hl (fT (fT ha1)) (by omega)) ?_))))))
 rintro _ w19 ⟨rfl, q4, x18⟩
 replace oT := oT.grownBlk x18 (Own.neT oT q3 (by decide))
 replace hs := hs.grown x18 (by intro g hg; injection hg; omega)
 replace bY := bY.grown x18 (by intro h; injection h; omega)
 replace X := X.grown x18 X.size (by intro g hg; injection hg; omega)
 clear x18 q3
 refine aA rfl (aY rfl rfl (dM (by omega)) (aA rfl (aG lD rfl rfl (aA rfl (bK bY dB rfl rfl rfl rfl rfl rfl ?_)))))
 intro w21 bZ hg20 z22
 replace oT := oT.grownBlk hg20 (fun h => by have := UT _ h; omega)
 replace hs := hs.grown hg20 (by intro g hg; injection hg; omega)
 replace q4 := q4.grown hg20 (by intro h; injection h; omega)
 replace X := X.grown hg20 X.size (by intro g hg; injection hg; omega)
 clear hg20 bY
 refine aB (aF (aA rfl (aC rfl (aA rfl (aT mW rfl (aP (mT A B c xs gC _ _ _ q4 hs hl (fT (fT (fT ha1))) (by omega)) ?_))))))
 rintro _ w24 ⟨rfl, q5, x23⟩
 replace oT := oT.grownBlk x23 (Own.neT oT q4 (by decide))
 replace hs := hs.grown x23 (by intro g hg; injection hg; omega)
 replace bZ := bZ.grown x23 (by intro h; injection h; omega)
 replace X := X.grown x23 X.size (by intro g hg; injection hg; omega)
 clear x23 q4
 refine aA rfl (jJ rfl rfl (aA rfl (aG sO rfl rfl (aA rfl (bK bZ xO rfl rfl rfl rfl rfl rfl ?_)))))
 intro w26 bW hg25 z27
 replace oT := oT.grownBlk hg25 (fun h => by have := UT _ h; omega)
 replace hs := hs.grown hg25 (by intro g hg; injection hg; omega)
 replace q5 := q5.grown hg25 (by intro h; injection h; omega)
 replace X := X.grown hg25 X.size (by intro g hg; injection hg; omega)
 clear hg25 bZ
 replace bW : Blk _ gX 59 (NodeI.cells ⟨nV xs a, vE ((mX xs a).1.take 0), 256 * (nV xs (iD xs a)) + (nV xs (iD xs (iD xs a))), decide ((nV xs (iD xs (iD xs (iD xs a)))) = 1)⟩) := bW
 refine aB (aR (aF (aA rfl (aC rfl (aA rfl (aC rfl (aA rfl (aT mW rfl (aP (mT A B c xs gC _ _ _ q5 hs hl (fT (fT (fT (fT ha1)))) (by omega)) ?_)))))))))
 rintro _ w29 ⟨rfl, q5b, x28⟩
 replace oT := oT.grownBlk x28 (Own.neT oT q5 (by decide))
 replace hs := hs.grown x28 (by intro g hg; injection hg; omega)
 replace bW := bW.grown x28 (by intro h; injection h; omega)
 replace X := X.grown x28 X.size (by intro g hg; injection hg; omega)
 clear x28 q5
 have LP := X.size
 refine aA rfl (aT aEr rfl (aP (aD8 A B c xs gC _ _ _ _ q5b hs hl (fT (fT (fT (fT (fT ha1))))) (by omega) ⟨hv0.1, by have := hv0.2; omega⟩) ?_))
 rintro _ w31 ⟨AP, cP, rfl, oP, q6, x30⟩
 replace oT := oT.grownBlk x30 (Own.neT oT q5b (by decide))
 replace hs := hs.grown x30 (by intro g hg; injection hg; omega)
 replace bW := bW.grown x30 (by intro h; injection h; omega)
 replace X := X.grown x30 X.size (by intro g hg; injection hg; omega)
 clear x30 q5b
 replace oP := Own.low oP LP
 have hel := aGY hB a
 refine aA rfl (bO Tryz.underlying30 rfl (aA rfl (aC rfl (aB (aX ?_)))))
 refine dG (G := Nat) (fun k => [(2, .slice none 0 0), (3, .int .i64 0), (4, .bool false), (5, .pointer (some ⟨gC, 0, none⟩)), (6, .slice A1 n1 c1), (7, .int .i64 tm), (8, .pointer (some ⟨gX, 0, none⟩)), (17, .int .i64 tm), (20, .pointer (some ⟨gC, 0, none⟩)), (28, .pointer (some ⟨gC, 0, none⟩)), (31, .pointer (some ⟨gC, 0, none⟩)), (34, .pointer (some ⟨gC, 0, none⟩)), (38, .pointer (some ⟨gC, 0, none⟩)), (42, .pointer (some ⟨gC, 0, none⟩)), (43, .pointer (some ⟨gC, 0, none⟩)), (45, .slice AP (mX xs a).1.length cP), (46, .int .i64 ((mX xs a).1.length : Nat)), (47, .int .i64 (k : Nat))]) (fun k wr => k ≤ (mX xs a).1.length ∧ Blk wr gX 59 (NodeI.cells ⟨nV xs a, vE ((mX xs a).1.take k), 256 * (nV xs (iD xs a)) + (nV xs (iD xs (iD xs a))), decide ((nV xs (iD xs (iD xs (iD xs a)))) = 1)⟩) ∧ Own wr w.heap.size 59 4 A1 n1 c1 (ys.flatMap NodeI.cells) ∧ Sl B wr A (xs.flatMap eI) ∧ Blk wr gC 166 (wT A c xs (mX xs a).2.1 (mX xs a).2.2) ∧ Own wr w.heap.size 2 1 AP (mX xs a).1.length cP ((mX xs a).1.flatMap eI) ∧ Ext w wr) (fun k => (mX xs a).1.length - k) 0 (.cons rfl (.cons rfl (.cons rfl (.cons rfl (.cons rfl (.cons rfl (.cons rfl (.cons rfl (.cons rfl (.cons rfl (.cons rfl (.cons rfl (.cons rfl (.cons rfl (.cons rfl (.cons rfl (.cons rfl (.cons rfl (.nil _))))))))))))))))))) ?_ ?_
 · exact ⟨by omega, bW, oT, hs, q6, oP, X⟩
 clear oT hs bW q6 oP
 clear X
 rintro k wr ⟨hk0, bW, oT, hs, q6, oP, X⟩
 refine aF (aA rfl (cU rfl rfl (fun hk => ?_) (fun hk => ?_)))
 obtain ⟨z, hz, _⟩ := eL (xs := (mX xs a).1) (k := k) (by omega)
 have hzb := aJA hB hz
 have hpz := xW ((mX xs a).1.take k)
 rw [List.length_take] at hpz
 have hez := aC7 z
 refine aB (aR (aQ rfl (aV (aS (aR (aX (aF (aA rfl (aU (oP).sl bI rfl cQ rfl rfl rfl hz rfl (aA rfl (bS (oP).sl bI hz dB rfl rfl rfl (aA rfl (aE rfl (aB (aN (aA rfl (aG gG rfl rfl (aA rfl (aJ bW yA rfl rfl (aA rfl (aC rfl (aA rfl (jC Tryz.underlying2 Tryz.underlying21 rfl (aLC (by omega)) (aA rfl (aFM Tryz.underlying21 Tryz.underlying9 rfl (aA rfl (aB6 rfl rfl (Q7l (Nat.add_le_add (show (vE ((mX xs a).1.take k)).size ≤ 1020 by omega) hez) (by decide)) (aA rfl (aG gG rfl rfl (aA rfl (bK bW yA rfl rfl rfl rfl rfl rfl ?_)))))))))))))))))))))))))))))))
 intro w33 bV hg32 z34
 replace oT := oT.grownBlk hg32 (fun h => by have := UT _ h; omega)
 replace hs := hs.grown hg32 (by intro g hg; injection hg; omega)
 replace q6 := q6.grown hg32 (by intro h; injection h; omega)
 replace oP := oP.grownBlk hg32 (Own.neT oP bW (by decide))
 replace X := X.grown hg32 X.size (by intro g hg; injection hg; omega)
 clear hg32 bW
 refine aB (dO (aS (aN (aA rfl (aY rfl rfl (dM (by omega)) (aA rfl (aC rfl (aB (aS ⟨k + 1, (.cons rfl (.cons rfl (.cons rfl (.cons rfl (.cons rfl (.cons rfl (.cons rfl (.cons rfl (.cons rfl (.cons rfl (.cons rfl (.cons rfl (.cons rfl (.cons rfl (.cons rfl (.cons rfl (.cons rfl (.cons rfl (.nil _))))))))))))))))))), ?_, ?_⟩)))))))))
 · exact ⟨by omega, (by rw [aFJ hz]; exact bV), oT, hs, q6, oP, X⟩
 · first | omega | (dsimp only; omega)
 refine aB (aR (aM rfl (dD (dC (dC (eG (aS (aN ?_))))))))
 have hkL : k = (mX xs a).1.length := by omega
 rw [hkL, List.take_length] at bW
 refine aA rfl (aC rfl (aA rfl (dE bW kE rfl rfl (aA rfl (aO lO kE rfl rfl rfl rfl rfl ?_)))))
 intro g35 w37 eg35 oV bbg35 x36 zg35
 replace oV := Own.low oV X.size
 replace bW := bW.ext x36
 replace oT := oT.ext x36
 replace hs := hs.ext x36
 replace q6 := q6.ext x36
 replace oP := oP.ext x36
 replace X := Q7x X x36
 refine aA rfl (cH (ts := #[]) oT X.size oV.sl (by first | rfl | simp) (by first | exact List.all_eq_true.1 rfl | simp [Value.oneCell']) lO kE rfl rfl rfl rfl (by omega) (by omega) ?_)
 intro AoU coU w39 oU hg38
 replace bW := bW.grown hg38 (fun h => by have := UT _ h.symm; omega)
 replace hs := hs.grown hg38 (fun g hg => Q7l Bhs (Own.lt oT hg).1)
 replace q6 := q6.grown hg38 (fun h => Own.neT oT q6 (by decide) h.symm)
 replace oP := oP.grown hg38 (Own.neO oP oT (by decide))
 replace X := X.grown hg38 X.size (fun g hg => (Own.lt oT hg).1)
 clear hg38
 refine aA rfl (aE rfl (aB (dO (aS (aN (aA rfl (aC rfl (aA rfl (fZ rfl rfl (dM (by omega)) (aA rfl (aE rfl (aB (aS ⟨(rem - 1, (mX xs a).2.1, (mX xs a).2.2, ys ++ [yX xs a], n1 + 1, AoU, coU, tm - 1), (.cons rfl (.cons rfl (.cons rfl (.cons rfl (.cons rfl (.cons rfl (.nil _))))))), ?_, ?_⟩)))))))))))))
 · skip
   exact ⟨(aIh ha1), (by simp [hn]), (by omega), (by omega), (hg.step hB (by omega) ha1), (by
     intro y hy
     rcases List.mem_append.1 hy with h | h
     · exact hnm y h
     · obtain rfl : y = yX xs a := by simpa using h
       have h3 := xW (mX xs a).1
       show (vE (mX xs a).1).size ≤ 1020
       omega), q6, oU.to (lI NodeI.cells ys (yX xs a)).symm, hs, X⟩
 · first | omega | (dsimp only; omega)
 refine dD (dC (dC (eG (aS (aR (aF ?_))))))
 subst hn
 refine aA rfl (aC rfl (aA rfl (dJ rfl (aA rfl (aG jG rfl rfl (aA rfl (aJ q xO rfl rfl ?_)))))))
 cases hb1 : b
 refine aA rfl (aC rfl (aI rfl rfl rfl (aC rfl (aI rfl rfl rfl (cV aEp rfl (aB1 _ _ _ ys oT.cap _ oT.sl (by omega) (fun x hx => by have := hnm x hx; omega)) (fun w41 hIT x40 => ?_) (fun w41 hIT x40 => ?_))))))
 replace q := q.ext x40
 replace oT := oT.ext x40
 replace hs := hs.ext x40
 replace X := Q7x X x40
 refine aI rfl rfl rfl (bP rfl (aA rfl (aK rfl rfl (aA rfl (aC rfl (aI rfl rfl rfl (aC rfl (aI rfl rfl rfl (aC rfl (aI rfl rfl rfl (aT aEq rfl (aP (nC _ _ _ ys _ oT.sl hIT) ?_))))))))))))
 rintro _ w43 ⟨A44, c45, rfl, oB, x42⟩
 replace oB := Own.low oB X.size
 replace q := q.ext x42
 replace oT := oT.ext x42
 replace hs := hs.ext x42
 replace X := Q7x X x42
 refine aI rfl rfl rfl (cV aHs rfl (aC9 A B c xs gC a _ _ _ (rA ys) _ (by have h := q; rw [hb1] at h; exact h) hs oB.sl hl ha1 hcap) (fun w47 hBg x46 => ?_) (fun w47 hBg x46 => ?_))
 replace q := q.ext x46
 replace oT := oT.ext x46
 replace hs := hs.ext x46
 replace oB := oB.ext x46
 replace X := Q7x X x46
 refine aI rfl rfl rfl (bP rfl (aA rfl (aK rfl rfl (aB (aM rfl (aV (aS (eK [false, false, false, false, false, false, false, false] mixed (by kernel_rfl) (cO rfl (fun wq sq => aC rfl ⟨rfl, Q7r _⟩) (cO rfl (fun wq sq => aC rfl ⟨rfl, Q7r _⟩) (cO rfl (fun wq sq => dJ rfl ⟨rfl, Q7r _⟩) (cO rfl (fun wq sq => aG kF rfl rfl ⟨rfl, Q7r _⟩) (cO rfl (fun wq sq => aJ (q.ext sq) ti3 rfl rfl ⟨rfl, Q7r _⟩) (cO rfl (fun wq sq => aE rfl ⟨rfl, Q7r _⟩) (cO rfl (fun wq sq => aE rfl ⟨rfl, Q7r _⟩) (cO rfl (fun wq sq => aE rfl ⟨rfl, Q7r _⟩) (dX (fun w48 sq => ?_))))))))))))))))))
 have xq := sq
 replace q := q.ext xq
 replace oT := oT.ext xq
 replace hs := hs.ext xq
 replace oB := oB.ext xq
 replace X := Q7x X xq; clear xq sq
 refine aB (aW (dZ rfl rfl rfl rfl ?_))
 · skip
   subst hb1
   first
   | (exact absurd ‹(!false) = false› (by decide))
   | (have HN : jD xs = none := hg.2 rfl
      exact ⟨none, 0, [], 0, false, rfl, (by rw [HN]; exact ⟨rfl, rfl, rfl⟩), Own.nil_ _ _ _ _, X⟩)
   | (have hr0 : rem = 0 := by omega
      subst hr0
      have HN : jD xs = none := hg.stop.1 hIT
      exact ⟨none, 0, [], 0, false, rfl, (by rw [HN]; exact ⟨rfl, rfl, rfl⟩), Own.nil_ _ _ _ _, X⟩)
   | (have hr0 : rem = 0 := by omega
      subst hr0
      have HN : jD xs = none := hg.stop.2.1 hIT (fun e => of_decide_eq_false hBg e.symm)
      exact ⟨none, 0, [], 0, false, rfl, (by rw [HN]; exact ⟨rfl, rfl, rfl⟩), Own.nil_ _ _ _ _, X⟩)
   | (have hr0 : rem = 0 := by omega
      subst hr0
      have HS : jD xs = some (ys, a) := hg.stop.2.2 hIT (of_decide_eq_true hBg).symm
      exact ⟨_, _, ys, _, true, rfl, (by rw [HS]; exact ⟨rfl, rfl, rfl⟩), oT, X⟩)
 replace q := q.ext x46
 replace oT := oT.ext x46
 replace hs := hs.ext x46
 replace oB := oB.ext x46
 replace X := Q7x X x46
 refine aI rfl rfl rfl (bP rfl (aA rfl (aK rfl rfl (aB (aQ rfl (aF (aA rfl (aE rfl (aA rfl (aE rfl (aA rfl (aE rfl (aB (aW (bN (dZ rfl rfl rfl rfl ?_))))))))))))))))
 · skip
   subst hb1
   first
   | (exact absurd ‹(!false) = false› (by decide))
   | (have HN : jD xs = none := hg.2 rfl
      exact ⟨none, 0, [], 0, false, rfl, (by rw [HN]; exact ⟨rfl, rfl, rfl⟩), Own.nil_ _ _ _ _, X⟩)
   | (have hr0 : rem = 0 := by omega
      subst hr0
      have HN : jD xs = none := hg.stop.1 hIT
      exact ⟨none, 0, [], 0, false, rfl, (by rw [HN]; exact ⟨rfl, rfl, rfl⟩), Own.nil_ _ _ _ _, X⟩)
   | (have hr0 : rem = 0 := by omega
      subst hr0
      have HN : jD xs = none := hg.stop.2.1 hIT (fun e => of_decide_eq_false hBg e.symm)
      exact ⟨none, 0, [], 0, false, rfl, (by rw [HN]; exact ⟨rfl, rfl, rfl⟩), Own.nil_ _ _ _ _, X⟩)
   | (have hr0 : rem = 0 := by omega
      subst hr0
      have HS : jD xs = some (ys, a) := hg.stop.2.2 hIT (of_decide_eq_true hBg).symm
      exact ⟨_, _, ys, _, true, rfl, (by rw [HS]; exact ⟨rfl, rfl, rfl⟩), oT, X⟩)
 replace q := q.ext x40
 replace oT := oT.ext x40
 replace hs := hs.ext x40
 replace X := Q7x X x40
 refine aI rfl rfl rfl (bP rfl (aA rfl (aK rfl rfl (aA rfl (aC rfl (aH rfl rfl rfl rfl (aH rfl rfl rfl rfl (aH rfl rfl rfl rfl (aH rfl rfl rfl rfl (aH rfl rfl rfl rfl (aA rfl (aK rfl rfl (aB (aQ rfl (aF (aA rfl (aE rfl (aA rfl (aE rfl (aA rfl (aE rfl (aB (aW (bN (dZ rfl rfl rfl rfl ?_)))))))))))))))))))))))))
 · skip
   subst hb1
   first
   | (exact absurd ‹(!false) = false› (by decide))
   | (have HN : jD xs = none := hg.2 rfl
      exact ⟨none, 0, [], 0, false, rfl, (by rw [HN]; exact ⟨rfl, rfl, rfl⟩), Own.nil_ _ _ _ _, X⟩)
   | (have hr0 : rem = 0 := by omega
      subst hr0
      have HN : jD xs = none := hg.stop.1 hIT
      exact ⟨none, 0, [], 0, false, rfl, (by rw [HN]; exact ⟨rfl, rfl, rfl⟩), Own.nil_ _ _ _ _, X⟩)
   | (have hr0 : rem = 0 := by omega
      subst hr0
      have HN : jD xs = none := hg.stop.2.1 hIT (fun e => of_decide_eq_false hBg e.symm)
      exact ⟨none, 0, [], 0, false, rfl, (by rw [HN]; exact ⟨rfl, rfl, rfl⟩), Own.nil_ _ _ _ _, X⟩)
   | (have hr0 : rem = 0 := by omega
      subst hr0
      have HS : jD xs = some (ys, a) := hg.stop.2.2 hIT (of_decide_eq_true hBg).symm
      exact ⟨_, _, ys, _, true, rfl, (by rw [HS]; exact ⟨rfl, rfl, rfl⟩), oT, X⟩)
 refine aA rfl (aC rfl (aH rfl rfl rfl rfl (aH rfl rfl rfl rfl (aH rfl rfl rfl rfl (aA rfl (aK rfl rfl (aA rfl (aC rfl (aH rfl rfl rfl rfl (aH rfl rfl rfl rfl (aH rfl rfl rfl rfl (aH rfl rfl rfl rfl (aH rfl rfl rfl rfl (aA rfl (aK rfl rfl (aB (aQ rfl (aF (aA rfl (aE rfl (aA rfl (aE rfl (aA rfl (aE rfl (aB (aW (bN (dZ rfl rfl rfl rfl ?_))))))))))))))))))))))))))))
 · skip
   subst hb1
   first
   | (exact absurd ‹(!false) = false› (by decide))
   | (have HN : jD xs = none := hg.2 rfl
      exact ⟨none, 0, [], 0, false, rfl, (by rw [HN]; exact ⟨rfl, rfl, rfl⟩), Own.nil_ _ _ _ _, X⟩)
   | (have hr0 : rem = 0 := by omega
      subst hr0
      have HN : jD xs = none := hg.stop.1 hIT
      exact ⟨none, 0, [], 0, false, rfl, (by rw [HN]; exact ⟨rfl, rfl, rfl⟩), Own.nil_ _ _ _ _, X⟩)
   | (have hr0 : rem = 0 := by omega
      subst hr0
      have HN : jD xs = none := hg.stop.2.1 hIT (fun e => of_decide_eq_false hBg e.symm)
      exact ⟨none, 0, [], 0, false, rfl, (by rw [HN]; exact ⟨rfl, rfl, rfl⟩), Own.nil_ _ _ _ _, X⟩)
   | (have hr0 : rem = 0 := by omega
      subst hr0
      have HS : jD xs = some (ys, a) := hg.stop.2.2 hIT (of_decide_eq_true hBg).symm
      exact ⟨_, _, ys, _, true, rfl, (by rw [HS]; exact ⟨rfl, rfl, rfl⟩), oT, X⟩)
 refine aA rfl (aC rfl (aH rfl rfl rfl rfl (aH rfl rfl rfl rfl (aH rfl rfl rfl rfl (aH rfl rfl rfl rfl (aH rfl rfl rfl rfl (aA rfl (aK rfl rfl (aB (aM rfl (dD (dC (dC (eG (aS (aR (aF ?_)))))))))))))))))
 subst hn
 refine aA rfl (aC rfl (aA rfl (dJ rfl (aA rfl (aG jG rfl rfl (aA rfl (aJ q xO rfl rfl ?_)))))))
 cases hb1 : b
 refine aA rfl (aC rfl (aI rfl rfl rfl (aC rfl (aI rfl rfl rfl (cV aEp rfl (aB1 _ _ _ ys oT.cap _ oT.sl (by omega) (fun x hx => by have := hnm x hx; omega)) (fun w50 hIT x49 => ?_) (fun w50 hIT x49 => ?_))))))
 replace q := q.ext x49
 replace oT := oT.ext x49
 replace hs := hs.ext x49
 replace X := Q7x X x49
 refine aI rfl rfl rfl (bP rfl (aA rfl (aK rfl rfl (aA rfl (aC rfl (aI rfl rfl rfl (aC rfl (aI rfl rfl rfl (aC rfl (aI rfl rfl rfl (aT aEq rfl (aP (nC _ _ _ ys _ oT.sl hIT) ?_))))))))))))
 rintro _ w52 ⟨A53, c54, rfl, oB, x51⟩
 replace oB := Own.low oB X.size
 replace q := q.ext x51
 replace oT := oT.ext x51
 replace hs := hs.ext x51
 replace X := Q7x X x51
 refine aI rfl rfl rfl (cV aHs rfl (aC9 A B c xs gC a _ _ _ (rA ys) _ (by have h := q; rw [hb1] at h; exact h) hs oB.sl hl ha1 hcap) (fun w56 hBg x55 => ?_) (fun w56 hBg x55 => ?_))
 replace q := q.ext x55
 replace oT := oT.ext x55
 replace hs := hs.ext x55
 replace oB := oB.ext x55
 replace X := Q7x X x55
 refine aI rfl rfl rfl (bP rfl (aA rfl (aK rfl rfl (aB (aM rfl (aV (aS (eK [false, false, false, false, false, false, false, false] mixed (by kernel_rfl) (cO rfl (fun wq sq => aC rfl ⟨rfl, Q7r _⟩) (cO rfl (fun wq sq => aC rfl ⟨rfl, Q7r _⟩) (cO rfl (fun wq sq => dJ rfl ⟨rfl, Q7r _⟩) (cO rfl (fun wq sq => aG kF rfl rfl ⟨rfl, Q7r _⟩) (cO rfl (fun wq sq => aJ (q.ext sq) ti3 rfl rfl ⟨rfl, Q7r _⟩) (cO rfl (fun wq sq => aE rfl ⟨rfl, Q7r _⟩) (cO rfl (fun wq sq => aE rfl ⟨rfl, Q7r _⟩) (cO rfl (fun wq sq => aE rfl ⟨rfl, Q7r _⟩) (dX (fun w57 sq => ?_))))))))))))))))))
 have xq := sq
 replace q := q.ext xq
 replace oT := oT.ext xq
 replace hs := hs.ext xq
 replace oB := oB.ext xq
 replace X := Q7x X xq; clear xq sq
 refine aB (aW (dZ rfl rfl rfl rfl ?_))
 · skip
   subst hb1
   first
   | (exact absurd ‹(!false) = false› (by decide))
   | (have HN : jD xs = none := hg.2 rfl
      exact ⟨none, 0, [], 0, false, rfl, (by rw [HN]; exact ⟨rfl, rfl, rfl⟩), Own.nil_ _ _ _ _, X⟩)
   | (have hr0 : rem = 0 := by omega
      subst hr0
      have HN : jD xs = none := hg.stop.1 hIT
      exact ⟨none, 0, [], 0, false, rfl, (by rw [HN]; exact ⟨rfl, rfl, rfl⟩), Own.nil_ _ _ _ _, X⟩)
   | (have hr0 : rem = 0 := by omega
      subst hr0
      have HN : jD xs = none := hg.stop.2.1 hIT (fun e => of_decide_eq_false hBg e.symm)
      exact ⟨none, 0, [], 0, false, rfl, (by rw [HN]; exact ⟨rfl, rfl, rfl⟩), Own.nil_ _ _ _ _, X⟩)
   | (have hr0 : rem = 0 := by omega
      subst hr0
      have HS : jD xs = some (ys, a) := hg.stop.2.2 hIT (of_decide_eq_true hBg).symm
      exact ⟨_, _, ys, _, true, rfl, (by rw [HS]; exact ⟨rfl, rfl, rfl⟩), oT, X⟩)
 replace q := q.ext x55
 replace oT := oT.ext x55
 replace hs := hs.ext x55
 replace oB := oB.ext x55
 replace X := Q7x X x55
 refine aI rfl rfl rfl (bP rfl (aA rfl (aK rfl rfl (aB (aQ rfl (aF (aA rfl (aE rfl (aA rfl (aE rfl (aA rfl (aE rfl (aB (aW (bN (dZ rfl rfl rfl rfl ?_))))))))))))))))
 · skip
   subst hb1
   first
   | (exact absurd ‹(!false) = false› (by decide))
   | (have HN : jD xs = none := hg.2 rfl
      exact ⟨none, 0, [], 0, false, rfl, (by rw [HN]; exact ⟨rfl, rfl, rfl⟩), Own.nil_ _ _ _ _, X⟩)
   | (have hr0 : rem = 0 := by omega
      subst hr0
      have HN : jD xs = none := hg.stop.1 hIT
      exact ⟨none, 0, [], 0, false, rfl, (by rw [HN]; exact ⟨rfl, rfl, rfl⟩), Own.nil_ _ _ _ _, X⟩)
   | (have hr0 : rem = 0 := by omega
      subst hr0
      have HN : jD xs = none := hg.stop.2.1 hIT (fun e => of_decide_eq_false hBg e.symm)
      exact ⟨none, 0, [], 0, false, rfl, (by rw [HN]; exact ⟨rfl, rfl, rfl⟩), Own.nil_ _ _ _ _, X⟩)
   | (have hr0 : rem = 0 := by omega
      subst hr0
      have HS : jD xs = some (ys, a) := hg.stop.2.2 hIT (of_decide_eq_true hBg).symm
      exact ⟨_, _, ys, _, true, rfl, (by rw [HS]; exact ⟨rfl, rfl, rfl⟩), oT, X⟩)
 replace q := q.ext x49
 replace oT := oT.ext x49
 replace hs := hs.ext x49
 replace X := Q7x X x49
 refine aI rfl rfl rfl (bP rfl (aA rfl (aK rfl rfl (aA rfl (aC rfl (aH rfl rfl rfl rfl (aH rfl rfl rfl rfl (aH rfl rfl rfl rfl (aH rfl rfl rfl rfl (aH rfl rfl rfl rfl (aA rfl (aK rfl rfl (aB (aQ rfl (aF (aA rfl (aE rfl (aA rfl (aE rfl (aA rfl (aE rfl (aB (aW (bN (dZ rfl rfl rfl rfl ?_)))))))))))))))))))))))))
 · skip
   subst hb1
   first
   | (exact absurd ‹(!false) = false› (by decide))
   | (have HN : jD xs = none := hg.2 rfl
      exact ⟨none, 0, [], 0, false, rfl, (by rw [HN]; exact ⟨rfl, rfl, rfl⟩), Own.nil_ _ _ _ _, X⟩)
   | (have hr0 : rem = 0 := by omega
      subst hr0
      have HN : jD xs = none := hg.stop.1 hIT
      exact ⟨none, 0, [], 0, false, rfl, (by rw [HN]; exact ⟨rfl, rfl, rfl⟩), Own.nil_ _ _ _ _, X⟩)
   | (have hr0 : rem = 0 := by omega
      subst hr0
      have HN : jD xs = none := hg.stop.2.1 hIT (fun e => of_decide_eq_false hBg e.symm)
      exact ⟨none, 0, [], 0, false, rfl, (by rw [HN]; exact ⟨rfl, rfl, rfl⟩), Own.nil_ _ _ _ _, X⟩)
   | (have hr0 : rem = 0 := by omega
      subst hr0
      have HS : jD xs = some (ys, a) := hg.stop.2.2 hIT (of_decide_eq_true hBg).symm
      exact ⟨_, _, ys, _, true, rfl, (by rw [HS]; exact ⟨rfl, rfl, rfl⟩), oT, X⟩)
 refine aA rfl (aC rfl (aH rfl rfl rfl rfl (aH rfl rfl rfl rfl (aH rfl rfl rfl rfl (aA rfl (aK rfl rfl (aA rfl (aC rfl (aH rfl rfl rfl rfl (aH rfl rfl rfl rfl (aH rfl rfl rfl rfl (aH rfl rfl rfl rfl (aH rfl rfl rfl rfl (aA rfl (aK rfl rfl (aB (aQ rfl (aF (aA rfl (aE rfl (aA rfl (aE rfl (aA rfl (aE rfl (aB (aW (bN (dZ rfl rfl rfl rfl ?_))))))))))))))))))))))))))))
 · skip
   subst hb1
   first
   | (exact absurd ‹(!false) = false› (by decide))
   | (have HN : jD xs = none := hg.2 rfl
      exact ⟨none, 0, [], 0, false, rfl, (by rw [HN]; exact ⟨rfl, rfl, rfl⟩), Own.nil_ _ _ _ _, X⟩)
   | (have hr0 : rem = 0 := by omega
      subst hr0
      have HN : jD xs = none := hg.stop.1 hIT
      exact ⟨none, 0, [], 0, false, rfl, (by rw [HN]; exact ⟨rfl, rfl, rfl⟩), Own.nil_ _ _ _ _, X⟩)
   | (have hr0 : rem = 0 := by omega
      subst hr0
      have HN : jD xs = none := hg.stop.2.1 hIT (fun e => of_decide_eq_false hBg e.symm)
      exact ⟨none, 0, [], 0, false, rfl, (by rw [HN]; exact ⟨rfl, rfl, rfl⟩), Own.nil_ _ _ _ _, X⟩)
   | (have hr0 : rem = 0 := by omega
      subst hr0
      have HS : jD xs = some (ys, a) := hg.stop.2.2 hIT (of_decide_eq_true hBg).symm
      exact ⟨_, _, ys, _, true, rfl, (by rw [HS]; exact ⟨rfl, rfl, rfl⟩), oT, X⟩)
theorem aFO (A : Option Addr) (B c : Nat) (xs : List Int) (w : World) (hs : Sl B w A (xs.flatMap eI)) (hl : xs.length ≤ 1048576) (hB : nU xs = true) (hcap : xs.length ≤ c) :
   Calls Tryz.prog 170 #[.slice A xs.length c] w (fF fun v w' => ∃ A' c' ys sz ok, v = .tuple #[.slice A' (List.length ys) c', .int .i64 sz, .bool ok] ∧ RdN (jD xs) ys sz ok ∧ Own w' w.heap.size 59 4 A' ys.length c' (ys.flatMap NodeI.cells) ∧ Ext w w') := by
 have Bhs := hs.1
 have X := Q7r w
 refine bJ (args := [.slice A xs.length c]) Tryz.func170 Tryz.ntmps170 rfl rfl (aF (aA rfl (aE rfl (aA rfl (aE rfl (aA rfl (aE rfl (aB (aR (aF (aA rfl (aC rfl (aA rfl (bO Tryz.underlying30 rfl (aA rfl (dP rfl rfl (fun h0 => ?_) (fun h0 => ?_)))))))))))))))))
 refine aB (aQ rfl (aF (aA rfl (aE rfl (aA rfl (aE rfl (aA rfl (aE rfl (aB (aW (bN (dZ rfl rfl rfl rfl ?_))))))))))))
 · skip
   first
   | (have HN : jD xs = none := nG (by omega)
      exact ⟨none, 0, [], 0, false, rfl, (by rw [HN]; exact ⟨rfl, rfl, rfl⟩), Own.nil_ _ _ _ _, X⟩)
   | (have HN : jD xs = none := qC hne (by rw [hg, mB (by omega) (by omega)]; rfl)
      exact ⟨none, 0, [], 0, false, rfl, (by rw [HN]; exact ⟨rfl, rfl, rfl⟩), Own.nil_ _ _ _ _, X⟩)
   | (have hr0 : rem = 0 := by omega
      subst hr0
      have HN : jD xs = none := qQ hne (by rw [hg]; rfl) (by simpa using hIT)
      exact ⟨none, 0, [], 0, false, rfl, (by rw [HN]; exact ⟨rfl, rfl, rfl⟩), Own.nil_ _ _ _ _, X⟩)
   | (have hr0 : rem = 0 := by omega
      subst hr0
      have HN : jD xs = none := qE hne (by rw [hg]; rfl) (by simpa using of_decide_eq_false hBg)
      exact ⟨none, 0, [], 0, false, rfl, (by rw [HN]; exact ⟨rfl, rfl, rfl⟩), Own.nil_ _ _ _ _, X⟩)
   | (have hr0 : rem = 0 := by omega
      subst hr0
      have HS : jD xs = some (ys, a) := qD hne (by rw [hg]; simp [mA]) hIT (of_decide_eq_true hBg)
      exact ⟨_, _, ys, _, true, rfl, (by rw [HS]; exact ⟨rfl, rfl, rfl⟩), oT, X⟩)
 obtain ⟨z0, h00, _⟩ := eL (xs := xs) (k := 0) (by omega)
 have hz0 := iE hB h00
 have hne : xs.length ≠ 0 := by omega
 refine aB (aM rfl (aV (aS (aF (aA rfl (aO lO kE rfl rfl rfl rfl rfl ?_))))))
 intro gO w2 egO oT bbgO x1 zgO
 replace oT := Own.low oT X.size
 replace hs := hs.ext x1
 replace X := Q7x X x1; clear x1
 refine aA rfl (aE rfl (aB (aF (aA rfl (aE rfl (aB (aR (aF (aA rfl (aC rfl (aA rfl (aU hs bI rfl cQ rfl rfl rfl h00 rfl (aA rfl (bS hs bI h00 dB rfl rfl rfl (aA rfl (aE rfl (aB (aX (dG (G := Nat × Nat × List NodeI × Nat × Option Addr × Nat × Int) (fun ⟨rem, a, ys, n1, A1, c1, tm⟩ => [(0, .slice A xs.length c), (7, .int .i64 tm), (6, .int .i64 (a : Nat)), (5, .slice A1 n1 c1)]) (fun ⟨rem, a, ys, n1, A1, c1, tm⟩ wr => a ≤ xs.length ∧ 1 ≤ a ∧ n1 = ys.length ∧ tm = (rem : Int) ∧ n1 + rem ≤ 255 ∧ mA xs (xs.getD 0 0).toNat 1 = (mA xs rem a).map (fun r => (ys ++ r.1, r.2)) ∧ (∀ y ∈ ys, y.name.size ≤ 1020) ∧ Own wr w.heap.size 59 4 A1 n1 c1 (ys.flatMap NodeI.cells) ∧ Sl B wr A (xs.flatMap eI) ∧ Ext w wr) (fun ⟨rem, a, ys, n1, A1, c1, tm⟩ => rem) (z0.toNat, 1, [], 0, some ⟨gO, 0, none⟩, 0, z0) (.cons rfl (.cons rfl (.cons rfl (.cons rfl (.nil _))))) ?_ ?_)))))))))))))))))))
 · exact ⟨(by omega), by omega, rfl, (by have := iE hB h00; omega), (by have := iE hB h00; show 0 + _ ≤ _; omega), (by rw [iH h00]; cases mA xs z0.toNat 1 <;> simp), (fun y hy => by simp at hy), oT, hs, X⟩
 clear hs oT
 clear X
 rintro ⟨rem, a, ys, n1, A1, c1, tm⟩ wr ⟨ha1, ha0, hn, htm, hrm, hg, hnm, oT, hs, X⟩
 refine aR (aF (aA rfl (aC rfl (aA rfl (fG rfl rfl (fun hr => ?_) (fun hr => ?_))))))
 refine aB (aQ rfl (aV (aS (aR (aX (aR (aF (aA rfl (aC rfl (aA rfl (aY rfl rfl (dM (by omega)) (aA rfl (aC rfl (aA rfl (bO Tryz.underlying30 rfl (aA rfl (fG rfl rfl (fun e1 => ?_) (fun e1 => ?_))))))))))))))))))
 refine aA rfl (aC rfl (aH rfl rfl rfl rfl (aH rfl rfl rfl rfl (aH rfl rfl rfl rfl (aH rfl rfl rfl rfl (aH rfl rfl rfl rfl (aH rfl rfl rfl rfl (aH rfl rfl rfl rfl (aH rfl rfl rfl rfl (aH rfl rfl rfl rfl (aH rfl rfl rfl rfl (aH rfl rfl rfl rfl (aA rfl (aK rfl rfl (aB (aQ rfl (aF (aA rfl (aE rfl (aA rfl (aE rfl (aA rfl (aE rfl (aB (aW (bN (dL (bN (bN (dL (bN (dZ rfl rfl rfl rfl ?_))))))))))))))))))))))))))))))))
 · skip
   first
   | (have HN : jD xs = none := nG (by omega)
      exact ⟨none, 0, [], 0, false, rfl, (by rw [HN]; exact ⟨rfl, rfl, rfl⟩), Own.nil_ _ _ _ _, X⟩)
   | (have HN : jD xs = none := qC hne (by rw [hg, mB (by omega) (by omega)]; rfl)
      exact ⟨none, 0, [], 0, false, rfl, (by rw [HN]; exact ⟨rfl, rfl, rfl⟩), Own.nil_ _ _ _ _, X⟩)
   | (have hr0 : rem = 0 := by omega
      subst hr0
      have HN : jD xs = none := qQ hne (by rw [hg]; rfl) (by simpa using hIT)
      exact ⟨none, 0, [], 0, false, rfl, (by rw [HN]; exact ⟨rfl, rfl, rfl⟩), Own.nil_ _ _ _ _, X⟩)
   | (have hr0 : rem = 0 := by omega
      subst hr0
      have HN : jD xs = none := qE hne (by rw [hg]; rfl) (by simpa using of_decide_eq_false hBg)
      exact ⟨none, 0, [], 0, false, rfl, (by rw [HN]; exact ⟨rfl, rfl, rfl⟩), Own.nil_ _ _ _ _, X⟩)
   | (have hr0 : rem = 0 := by omega
      subst hr0
      have HS : jD xs = some (ys, a) := qD hne (by rw [hg]; simp [mA]) hIT (of_decide_eq_true hBg)
      exact ⟨_, _, ys, _, true, rfl, (by rw [HS]; exact ⟨rfl, rfl, rfl⟩), oT, X⟩)
 obtain ⟨y, hx4, _⟩ := eL (xs := xs) (k := a + 4) (by omega)
 have hyb := iE hB hx4
 obtain ⟨yn, rfl⟩ : ∃ n : Nat, y = (n : Int) := ⟨y.toNat, by omega⟩
 have hnml : nmL xs a = yn := by unfold nmL; rw [iH hx4]; exact Int.toNat_natCast yn
 refine aA rfl (aC rfl (aI rfl rfl rfl (aC rfl (aI rfl rfl rfl (aY rfl rfl (dM (by omega)) (aI rfl rfl rfl (aC rfl (aI rfl rfl rfl (aC rfl (aI rfl rfl rfl (aY rfl rfl (dM (by omega)) (aI rfl rfl rfl (aU hs bI rfl cQ rfl rfl rfl hx4 (by omega) (aI rfl rfl rfl (bS hs bI hx4 dB rfl rfl rfl (aI rfl rfl rfl (aY rfl rfl (dM (by omega)) (aI rfl rfl rfl (aC rfl (aI rfl rfl rfl (bO Tryz.underlying30 rfl (aI rfl rfl rfl (fG rfl rfl (fun e2 => ?_) (fun e2 => ?_))))))))))))))))))))))))
 refine aA rfl (aK rfl rfl (aB (aQ rfl (aF (aA rfl (aE rfl (aA rfl (aE rfl (aA rfl (aE rfl (aB (aW (bN (dL (bN (bN (dL (bN (dZ rfl rfl rfl rfl ?_)))))))))))))))))))
 · skip
   first
   | (have HN : jD xs = none := nG (by omega)
      exact ⟨none, 0, [], 0, false, rfl, (by rw [HN]; exact ⟨rfl, rfl, rfl⟩), Own.nil_ _ _ _ _, X⟩)
   | (have HN : jD xs = none := qC hne (by rw [hg, mB (by omega) (by omega)]; rfl)
      exact ⟨none, 0, [], 0, false, rfl, (by rw [HN]; exact ⟨rfl, rfl, rfl⟩), Own.nil_ _ _ _ _, X⟩)
   | (have hr0 : rem = 0 := by omega
      subst hr0
      have HN : jD xs = none := qQ hne (by rw [hg]; rfl) (by simpa using hIT)
      exact ⟨none, 0, [], 0, false, rfl, (by rw [HN]; exact ⟨rfl, rfl, rfl⟩), Own.nil_ _ _ _ _, X⟩)
   | (have hr0 : rem = 0 := by omega
      subst hr0
      have HN : jD xs = none := qE hne (by rw [hg]; rfl) (by simpa using of_decide_eq_false hBg)
      exact ⟨none, 0, [], 0, false, rfl, (by rw [HN]; exact ⟨rfl, rfl, rfl⟩), Own.nil_ _ _ _ _, X⟩)
   | (have hr0 : rem = 0 := by omega
      subst hr0
      have HS : jD xs = some (ys, a) := qD hne (by rw [hg]; simp [mA]) hIT (of_decide_eq_true hBg)
      exact ⟨_, _, ys, _, true, rfl, (by rw [HS]; exact ⟨rfl, rfl, rfl⟩), oT, X⟩)
 obtain ⟨x0, hx0, _⟩ := eL (xs := xs) (k := a) (by omega)
 have hxb0 := iE hB hx0
 obtain ⟨x1, hx1, _⟩ := eL (xs := xs) (k := a + 1) (by omega)
 have hxb1 := iE hB hx1
 obtain ⟨x2, hx2, _⟩ := eL (xs := xs) (k := a + 2) (by omega)
 have hxb2 := iE hB hx2
 obtain ⟨x3, hx3, _⟩ := eL (xs := xs) (k := a + 3) (by omega)
 have hxb3 := iE hB hx3
 have eY : yW xs a = ⟨x0, vD ((xs.drop (a + 5)).take yn), 256 * x1 + x2, decide (x3 = 1)⟩ := by unfold yW; rw [iH hx0, iH hx1, iH hx2, iH hx3, iH hx4, Int.toNat_natCast]
 refine aA rfl (aK rfl rfl (aB (aM rfl (aV (aS (aF (aA rfl (aO aCs ti5 rfl rfl rfl rfl rfl ?_))))))))
 intro gS w4 egS oS bbgS x3 zgS
 replace oS := Own.low oS X.size
 replace oT := oT.ext x3
 replace hs := hs.ext x3
 replace X := Q7x X x3; clear x3
 refine aA rfl (aE rfl (aB (aR (aF (aA rfl (aC rfl (aA rfl (aY rfl rfl (dM (by omega)) (aA rfl (aE rfl (aB (aX (dG (G := Nat × Nat × Option Addr × Nat) (fun ⟨k, nB_, A2, c2⟩ => [(0, .slice A xs.length c), (5, .slice A1 n1 c1), (6, .int .i64 (a : Nat)), (7, .int .i64 tm), (17, .int .i64 tm), (21, .int .i64 (a : Nat)), (23, .slice A xs.length c), (24, .int .i64 (xs.length : Nat)), (27, .int .i64 (a : Nat)), (29, .slice A xs.length c), (30, .int .i64 (a : Nat)), (35, .slice A xs.length c), (36, .int .i64 (xs.length : Nat)), (40, .int .i64 (a : Nat)), (9, .int .i64 ((a + 5 + k : Nat) : Int)), (8, .slice A2 nB_ c2)]) (fun ⟨k, nB_, A2, c2⟩ wr => k ≤ yn ∧ nB_ = k ∧ Own wr w.heap.size 5 1 A2 nB_ c2 ((((xs.drop (a + 5)).take k).map fun x => x.toNat.toUInt8).flatMap eB) ∧ Own wr w.heap.size 59 4 A1 n1 c1 (ys.flatMap NodeI.cells) ∧ Sl B wr A (xs.flatMap eI) ∧ Ext w wr) (fun ⟨k, nB_, A2, c2⟩ => yn - k) (0, 0, some ⟨gS, 0, none⟩, 0) (.cons rfl (.cons rfl (.cons rfl (.cons rfl (.cons rfl (.cons rfl (.cons rfl (.cons rfl (.cons rfl (.cons rfl (.cons rfl (.cons rfl (.cons rfl (.cons rfl (.cons rfl (.cons rfl (.nil _))))))))))))))))) ?_ ?_)))))))))))))
 · exact ⟨by omega, rfl, oS, oT, hs, X⟩
 clear oT hs oS
 clear X
 rintro ⟨k, nB_, A2, c2⟩ wr ⟨hk0, hnb, oS, oT, hs, X⟩
 refine aR (aF (aA rfl (aC rfl (aA rfl (aC rfl (aA rfl (aY rfl rfl (dM (by omega)) (aA rfl (aC rfl (aA rfl (aC rfl (aA rfl (aY rfl rfl (dM (by omega)) (aA rfl (aU hs bI rfl cQ rfl rfl rfl hx4 (by omega) (aA rfl (bS hs bI hx4 dB rfl rfl rfl (aA rfl (aY rfl rfl (dM (by omega)) (aA rfl (cU rfl rfl (fun hk => ?_) (fun hk => ?_))))))))))))))))))))))
 obtain ⟨x, hx, _⟩ := eL (xs := xs) (k := a + 5 + k) (by omega)
 have hxx := iE hB hx
 refine aB (aQ rfl (aV (aS (aR (aX (aN (aA rfl (aC rfl (aA rfl (aC rfl (aA rfl (aC rfl (aA rfl (aU hs bI rfl cQ rfl rfl rfl hx (by omega) (aA rfl (bS hs bI hx dB rfl rfl rfl (aA rfl (jC Tryz.underlying2 Tryz.underlying5 rfl (aLD (by omega)) (aA rfl (aO aCs ti5 rfl rfl rfl rfl rfl ?_))))))))))))))))))))
 intro g5 w7 eg5 oV bbg5 x6 zg5
 replace oV := Own.low oV X.size
 replace oS := oS.ext x6
 replace oT := oT.ext x6
 replace hs := hs.ext x6
 replace X := Q7x X x6; clear x6
 refine aA rfl (cH (ts := #[]) oS X.size oV.sl rfl (aFN [x.toNat.toUInt8]) aCs ti5 rfl rfl rfl rfl (by omega) (by omega) ?_)
 intro AoW coW w9 oW hg8
 replace oT := oT.grown hg8 (Own.neO oT oS (by decide))
 replace hs := hs.grown hg8 (fun g hg => Q7l Bhs (Own.lt oS hg).1)
 replace X := X.grown hg8 X.size (fun g hg => (Own.lt oS hg).1)
 clear hg8
 refine aA rfl (aE rfl (aB (dO (aS (aN (aA rfl (aC rfl (aA rfl (aY rfl rfl (dM (by omega)) (aA rfl (aE rfl (aB (aS ⟨(k + 1, nB_ + 1, AoW, coW), (.cons rfl (.cons rfl (.cons rfl (.cons rfl (.cons rfl (.cons rfl (.cons rfl (.cons rfl (.cons rfl (.cons rfl (.cons rfl (.cons rfl (.cons rfl (.cons rfl (.cons rfl (.cons rfl (.nil _))))))))))))))))), ?_, ?_⟩)))))))))))))
 · exact ⟨by omega, (by omega), (oW.to (by rw [aD7 hx, List.flatMap_append]; rfl)), oT, hs, X⟩
 · first | omega | (dsimp only; omega)
 refine aB (aM rfl (dD (dC (dC (eG (aS (eK [false, false, false, false, false, false, false, false, false, false, false, false, false, false, false, false, false, false, false, false, false, false, false, false, false, false, true] mixed (by kernel_rfl) ?_)))))))
 have hky : k = yn := by omega
 subst hky
 have hbl : (((xs.drop (a + 5)).take k).map fun x => x.toNat.toUInt8).length = k := by rw [List.length_map, List.length_take, List.length_drop]; omega
 refine cO rfl (fun wq sq => aC rfl ⟨rfl, Q7r _⟩) (cO rfl (fun wq sq => aC rfl ⟨rfl, Q7r _⟩) (cO rfl (fun wq sq => aC rfl ⟨rfl, Q7r _⟩) (cO rfl (fun wq sq => aU (hs.ext sq) bI rfl cQ rfl rfl rfl hx0 rfl ⟨rfl, Q7r _⟩) (cO rfl (fun wq sq => bS (hs.ext sq) bI hx0 dB rfl rfl rfl ⟨rfl, Q7r _⟩) (cO rfl (fun wq sq => aC rfl ⟨rfl, Q7r _⟩) (cO rfl (fun wq sq => uR Tryz.underlying22 Tryz.underlying5 Tryz.underlying9 ((oS.ext sq)).sl rfl (hnb.trans hbl.symm) ⟨rfl, Q7r _⟩) (cO rfl (fun wq sq => aC rfl ⟨rfl, Q7r _⟩) (cO rfl (fun wq sq => aC rfl ⟨rfl, Q7r _⟩) (cO rfl (fun wq sq => aY rfl rfl (dM (by omega)) ⟨rfl, Q7r _⟩) ?_)))))))))
 refine cO rfl (fun wq sq => aU (hs.ext sq) bI rfl cQ rfl rfl rfl hx1 (by omega) ⟨rfl, Q7r _⟩) (cO rfl (fun wq sq => bS (hs.ext sq) bI hx1 dB rfl rfl rfl ⟨rfl, Q7r _⟩) (cO rfl (fun wq sq => fO rfl rfl (dM (by omega)) ⟨rfl, Q7r _⟩) (cO rfl (fun wq sq => aC rfl ⟨rfl, Q7r _⟩) (cO rfl (fun wq sq => aC rfl ⟨rfl, Q7r _⟩) (cO rfl (fun wq sq => aY rfl rfl (dM (by omega)) ⟨rfl, Q7r _⟩) (cO rfl (fun wq sq => aU (hs.ext sq) bI rfl cQ rfl rfl rfl hx2 (by omega) ⟨rfl, Q7r _⟩) (cO rfl (fun wq sq => bS (hs.ext sq) bI hx2 dB rfl rfl rfl ⟨rfl, Q7r _⟩) (cO rfl (fun wq sq => aY rfl rfl (dM (by omega)) ⟨rfl, Q7r _⟩) ?_))))))))
 refine cO rfl (fun wq sq => aC rfl ⟨rfl, Q7r _⟩) (cO rfl (fun wq sq => aC rfl ⟨rfl, Q7r _⟩) (cO rfl (fun wq sq => aY rfl rfl (dM (by omega)) ⟨rfl, Q7r _⟩) (cO rfl (fun wq sq => aU (hs.ext sq) bI rfl cQ rfl rfl rfl hx3 (by omega) ⟨rfl, Q7r _⟩) (cO rfl (fun wq sq => bS (hs.ext sq) bI hx3 dB rfl rfl rfl ⟨rfl, Q7r _⟩) (cO rfl (fun wq sq => jJ rfl rfl ⟨rfl, Q7r _⟩) (cO rfl (fun wq sq => dA aHe kE rfl rfl ⟨rfl, Q7r _⟩) ?_))))))
 refine zL (fun g10 : Nat => Value.slice (some ⟨g10, 0, none⟩) 1 1) (fun g10 wz => Own wz w.heap.size 59 4 (some ⟨g10, 0, none⟩) 1 1 (NodeI.cells ⟨x0, vD ((xs.drop (a + 5)).take k), 256 * x1 + x2, decide (x3 = 1)⟩)) 0 rfl ⟨lT, fun _ _ _ h k => h.ext k, fun wq sq => aO lO kE rfl rfl rfl rfl rfl (fun g w' hg ho hb hx hz => ⟨g, rfl, Own.low ho (Q7l X.size (sq).size), hx⟩)⟩ ?_
 intro g10
 refine dX (fun w11 sq => ?_)
 have xq := sq.1
 have oV := sq.2
 replace oS := oS.ext xq
 replace oT := oT.ext xq
 replace hs := hs.ext xq
 replace X := Q7x X xq; clear xq sq
 refine aA rfl (cH (ts := #[]) oT X.size oV.sl (by first | rfl | simp) (by first | exact List.all_eq_true.1 rfl | simp [Value.oneCell']) lO kE rfl rfl rfl rfl (by omega) (by omega) ?_)
 intro AoU coU w13 oU hg12
 replace oS := oS.grown hg12 (Own.neO oS oT (by decide))
 replace hs := hs.grown hg12 (fun g hg => Q7l Bhs (Own.lt oT hg).1)
 replace X := X.grown hg12 X.size (fun g hg => (Own.lt oT hg).1)
 clear hg12
 refine aA rfl (aE rfl (aB (aN (aA rfl (aC rfl (aA rfl (aY rfl rfl (dM (by omega)) (aA rfl (aC rfl (aA rfl (bO Tryz.underlying22 rfl (aA rfl (aY rfl rfl (show IntKind.i64.wrap _ = ((a + 5 + k : Nat) : Int) from (dM (by omega)).trans (by omega)) (aA rfl (aE rfl (aB (dO (aS (aN (aA rfl (aC rfl (aA rfl (fZ rfl rfl (dM (by omega)) (aA rfl (aE rfl (aB ?_))))))))))))))))))))))))))
 refine aS ⟨(rem - 1, a + 5 + k, ys ++ [⟨x0, vD ((xs.drop (a + 5)).take k), 256 * x1 + x2, decide (x3 = 1)⟩], n1 + 1, AoU, coU, tm - 1), (.cons rfl (.cons rfl (.cons rfl (.cons rfl (.nil _))))), ?_, ?_⟩
 · skip
   exact ⟨(by omega), by omega, (by simp [hn]), (by omega), (by omega), (by rw [hg, aBA (by omega) (by omega), eY, hnml]; cases mA xs (rem - 1) (a + 5 + k) <;> simp), (by
     intro y hy
     rcases List.mem_append.1 hy with h | h
     · exact hnm y h
     · obtain rfl : y = ⟨x0, vD ((xs.drop (a + 5)).take k), 256 * x1 + x2, decide (x3 = 1)⟩ := by simpa using h
       show (vD ((xs.drop (a + 5)).take k)).size ≤ 1020
       rw [aFI, List.length_take]; omega), oU.to (lI NodeI.cells ys ⟨x0, vD ((xs.drop (a + 5)).take k), 256 * x1 + x2, decide (x3 = 1)⟩).symm, hs, X⟩
 · first | omega | (dsimp only; omega)
 refine aB (aM rfl (dD (dC (dC (eG (aS (aR (tT (fun wz => Sl B wz A (xs.flatMap eI) ∧ Own wz w.heap.size 59 4 A1 n1 c1 (ys.flatMap NodeI.cells)) mixed ?_))))))))
 obtain ⟨w14, ew14⟩ : ∃ wy, wy = World.drew wr := ⟨_, rfl⟩
 rw [← ew14]
 have xd : Ext wr w14 := ew14 ▸ Ext.drew wr
 replace oT := oT.ext xd
 replace hs := hs.ext xd
 replace X := Q7x X xd; clear xd ew14
 subst hn
 refine dH 0 rfl (by kernel_rfl) rfl (by kernel_rfl) (listed' := #[true, false, false, false, false, false, false, false, false, false, false, false]) rfl (fun wq sq => aC rfl ⟨rfl, rfl⟩) (hU 1 rfl rfl (by kernel_rfl) (listed' := #[true, true, false, false, false, false, false, false, false, false, false, false]) rfl ⟨hs, oT⟩ (cV aHz rfl (aEX _ _ _ ys _ oT.sl (by omega) (fun x hx => by have := hnm x hx; omega)) (fun w16 hIT x15 => ?_) (fun w16 hIT x15 => ?_)))
 replace oT := oT.ext x15
 replace hs := hs.ext x15
 replace X := Q7x X x15
 refine dH 2 rfl (by kernel_rfl) rfl (by kernel_rfl) (listed' := #[true, true, true, false, false, false, false, false, false, false, false, false]) rfl (fun wq sq => bP rfl ⟨rfl, rfl⟩) (dH 3 rfl (by kernel_rfl) rfl (by kernel_rfl) (listed' := #[true, true, true, true, false, false, false, false, false, false, false, false]) rfl (fun wq sq => aC rfl ⟨rfl, rfl⟩) (gW 4 rfl (by kernel_rfl) rfl (by kernel_rfl) (listed' := #[true, true, true, true, true, false, false, false, false, false, false, false]) rfl rfl rfl (fun wq sq => aC rfl ⟨rfl, rfl⟩) (gW 6 rfl (by kernel_rfl) rfl (by kernel_rfl) (listed' := #[true, true, true, true, true, false, true, false, false, false, false, false]) rfl rfl rfl (fun wq sq => aC rfl ⟨rfl, rfl⟩) ?_)))
 refine gW 7 rfl (by kernel_rfl) rfl (by kernel_rfl) (listed' := #[true, true, true, true, true, false, true, true, false, false, false, false]) rfl rfl rfl (fun wq sq => aC rfl ⟨rfl, rfl⟩) (gW 8 rfl (by kernel_rfl) rfl (by kernel_rfl) (listed' := #[true, true, true, true, true, false, true, true, true, false, false, false]) rfl rfl rfl (fun wq sq => iL (h := a) cQ rfl rfl rfl (by omega) ⟨rfl, rfl⟩) (uY 5 rfl rfl (by kernel_rfl) (listed' := #[true, true, true, true, true, true, true, true, true, false, false, false]) rfl rfl rfl ⟨hs, oT⟩ (aT aHr rfl (aP (aDQ _ _ _ ys _ oT.sl hIT) ?_))))
 rintro _ w18 ⟨AB, cB, rfl, oB, x17⟩
 replace oB := Own.low oB X.size
 replace oT := oT.ext x17
 replace hs := hs.ext x17
 replace X := Q7x X x17
 refine uY 9 rfl rfl (by kernel_rfl) (listed' := #[true, true, true, true, true, true, true, true, true, true, false, false]) rfl rfl rfl ⟨hs, oT⟩ (cV aEu rfl (aIi _ _ _ _ (rA ys) _ _ _ _ (xs.take a) _ oB.sl (hs.takeI _) (by have := aEN hIT; omega) rfl (by rw [List.length_take]; omega)) (fun w20 hBg x19 => ?_) (fun w20 hBg x19 => ?_))
 replace oT := oT.ext x19
 replace hs := hs.ext x19
 replace oB := oB.ext x19
 replace X := Q7x X x19
 refine gW 10 rfl (by kernel_rfl) rfl (by kernel_rfl) (listed' := #[true, true, true, true, true, true, true, true, true, true, true, false]) rfl rfl rfl (fun wq sq => bP rfl ⟨rfl, rfl⟩) (dH 11 rfl (by kernel_rfl) rfl (by kernel_rfl) (listed' := #[true, true, true, true, true, true, true, true, true, true, true, true]) rfl (fun wq sq => aK rfl rfl ⟨rfl, rfl⟩) (jE rfl ⟨hs, oT⟩ (fun aj fj => ⟨_, fj, aM rfl (aV (aS (aF (aA rfl (aC rfl (aA rfl (aC rfl (aA rfl (aE rfl (aA rfl (aE rfl (aA rfl (aE rfl (aB (aW (dZ rfl rfl rfl rfl ?_))))))))))))))))⟩)))
 · skip
   first
   | (have HN : jD xs = none := nG (by omega)
      exact ⟨none, 0, [], 0, false, rfl, (by rw [HN]; exact ⟨rfl, rfl, rfl⟩), Own.nil_ _ _ _ _, X⟩)
   | (have HN : jD xs = none := qC hne (by rw [hg, mB (by omega) (by omega)]; rfl)
      exact ⟨none, 0, [], 0, false, rfl, (by rw [HN]; exact ⟨rfl, rfl, rfl⟩), Own.nil_ _ _ _ _, X⟩)
   | (have hr0 : rem = 0 := by omega
      subst hr0
      have HN : jD xs = none := qQ hne (by rw [hg]; rfl) (by simpa using hIT)
      exact ⟨none, 0, [], 0, false, rfl, (by rw [HN]; exact ⟨rfl, rfl, rfl⟩), Own.nil_ _ _ _ _, X⟩)
   | (have hr0 : rem = 0 := by omega
      subst hr0
      have HN : jD xs = none := qE hne (by rw [hg]; rfl) (by simpa using of_decide_eq_false hBg)
      exact ⟨none, 0, [], 0, false, rfl, (by rw [HN]; exact ⟨rfl, rfl, rfl⟩), Own.nil_ _ _ _ _, X⟩)
   | (have hr0 : rem = 0 := by omega
      subst hr0
      have HS : jD xs = some (ys, a) := qD hne (by rw [hg]; simp [mA]) hIT (of_decide_eq_true hBg)
      exact ⟨_, _, ys, _, true, rfl, (by rw [HS]; exact ⟨rfl, rfl, rfl⟩), oT, X⟩)
 replace oT := oT.ext x19
 replace hs := hs.ext x19
 replace oB := oB.ext x19
 replace X := Q7x X x19
 refine gW 10 rfl (by kernel_rfl) rfl (by kernel_rfl) (listed' := #[true, true, true, true, true, true, true, true, true, true, true, false]) rfl rfl rfl (fun wq sq => bP rfl ⟨rfl, rfl⟩) (dH 11 rfl (by kernel_rfl) rfl (by kernel_rfl) (listed' := #[true, true, true, true, true, true, true, true, true, true, true, true]) rfl (fun wq sq => aK rfl rfl ⟨rfl, rfl⟩) (jE rfl ⟨hs, oT⟩ (fun aj fj => ⟨_, fj, aQ rfl (aF (aA rfl (aE rfl (aA rfl (aE rfl (aA rfl (aE rfl (aB (aW (bN (dZ rfl rfl rfl rfl ?_)))))))))))⟩)))
 · skip
   first
   | (have HN : jD xs = none := nG (by omega)
      exact ⟨none, 0, [], 0, false, rfl, (by rw [HN]; exact ⟨rfl, rfl, rfl⟩), Own.nil_ _ _ _ _, X⟩)
   | (have HN : jD xs = none := qC hne (by rw [hg, mB (by omega) (by omega)]; rfl)
      exact ⟨none, 0, [], 0, false, rfl, (by rw [HN]; exact ⟨rfl, rfl, rfl⟩), Own.nil_ _ _ _ _, X⟩)
   | (have hr0 : rem = 0 := by omega
      subst hr0
      have HN : jD xs = none := qQ hne (by rw [hg]; rfl) (by simpa using hIT)
      exact ⟨none, 0, [], 0, false, rfl, (by rw [HN]; exact ⟨rfl, rfl, rfl⟩), Own.nil_ _ _ _ _, X⟩)
   | (have hr0 : rem = 0 := by omega
      subst hr0
      have HN : jD xs = none := qE hne (by rw [hg]; rfl) (by simpa using of_decide_eq_false hBg)
      exact ⟨none, 0, [], 0, false, rfl, (by rw [HN]; exact ⟨rfl, rfl, rfl⟩), Own.nil_ _ _ _ _, X⟩)
   | (have hr0 : rem = 0 := by omega
      subst hr0
      have HS : jD xs = some (ys, a) := qD hne (by rw [hg]; simp [mA]) hIT (of_decide_eq_true hBg)
      exact ⟨_, _, ys, _, true, rfl, (by rw [HS]; exact ⟨rfl, rfl, rfl⟩), oT, X⟩)
 replace oT := oT.ext x15
 replace hs := hs.ext x15
 replace X := Q7x X x15
 refine dH 2 rfl (by kernel_rfl) rfl (by kernel_rfl) (listed' := #[true, true, true, false, false, false, false, false, false, false, false, false]) rfl (fun wq sq => bP rfl ⟨rfl, rfl⟩) (dH 3 rfl (by kernel_rfl) rfl (by kernel_rfl) (listed' := #[true, true, true, true, false, false, false, false, false, false, false, false]) rfl (fun wq sq => aC rfl ⟨rfl, rfl⟩) (fQ 4 rfl (by kernel_rfl) rfl (by kernel_rfl) (listed' := #[true, true, true, true, true, false, false, false, false, false, false, false]) rfl rfl rfl rfl (fQ 5 rfl (by kernel_rfl) rfl (by kernel_rfl) (listed' := #[true, true, true, true, true, true, false, false, false, false, false, false]) rfl rfl rfl rfl ?_)))
 refine fQ 6 rfl (by kernel_rfl) rfl (by kernel_rfl) (listed' := #[true, true, true, true, true, true, true, false, false, false, false, false]) rfl rfl rfl rfl (fQ 7 rfl (by kernel_rfl) rfl (by kernel_rfl) (listed' := #[true, true, true, true, true, true, true, true, false, false, false, false]) rfl rfl rfl rfl (fQ 8 rfl (by kernel_rfl) rfl (by kernel_rfl) (listed' := #[true, true, true, true, true, true, true, true, true, false, false, false]) rfl rfl rfl rfl (fQ 9 rfl (by kernel_rfl) rfl (by kernel_rfl) (listed' := #[true, true, true, true, true, true, true, true, true, true, false, false]) rfl rfl rfl rfl ?_)))
 refine fQ 10 rfl (by kernel_rfl) rfl (by kernel_rfl) (listed' := #[true, true, true, true, true, true, true, true, true, true, true, false]) rfl rfl rfl rfl (dH 11 rfl (by kernel_rfl) rfl (by kernel_rfl) (listed' := #[true, true, true, true, true, true, true, true, true, true, true, true]) rfl (fun wq sq => aK rfl rfl ⟨rfl, rfl⟩) (jE rfl ⟨hs, oT⟩ (fun aj fj => ⟨_, fj, aQ rfl (aF (aA rfl (aE rfl (aA rfl (aE rfl (aA rfl (aE rfl (aB (aW (bN (dZ rfl rfl rfl rfl ?_)))))))))))⟩)))
 · skip
   first
   | (have HN : jD xs = none := nG (by omega)
      exact ⟨none, 0, [], 0, false, rfl, (by rw [HN]; exact ⟨rfl, rfl, rfl⟩), Own.nil_ _ _ _ _, X⟩)
   | (have HN : jD xs = none := qC hne (by rw [hg, mB (by omega) (by omega)]; rfl)
      exact ⟨none, 0, [], 0, false, rfl, (by rw [HN]; exact ⟨rfl, rfl, rfl⟩), Own.nil_ _ _ _ _, X⟩)
   | (have hr0 : rem = 0 := by omega
      subst hr0
      have HN : jD xs = none := qQ hne (by rw [hg]; rfl) (by simpa using hIT)
      exact ⟨none, 0, [], 0, false, rfl, (by rw [HN]; exact ⟨rfl, rfl, rfl⟩), Own.nil_ _ _ _ _, X⟩)
   | (have hr0 : rem = 0 := by omega
      subst hr0
      have HN : jD xs = none := qE hne (by rw [hg]; rfl) (by simpa using of_decide_eq_false hBg)
      exact ⟨none, 0, [], 0, false, rfl, (by rw [HN]; exact ⟨rfl, rfl, rfl⟩), Own.nil_ _ _ _ _, X⟩)
   | (have hr0 : rem = 0 := by omega
      subst hr0
      have HS : jD xs = some (ys, a) := qD hne (by rw [hg]; simp [mA]) hIT (of_decide_eq_true hBg)
      exact ⟨_, _, ys, _, true, rfl, (by rw [HS]; exact ⟨rfl, rfl, rfl⟩), oT, X⟩)
end Go.Proofs.YtdoibplhbdkapaaGreatDoor
