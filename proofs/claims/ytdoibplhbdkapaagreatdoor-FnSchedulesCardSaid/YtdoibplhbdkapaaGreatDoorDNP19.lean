/- Parts. No condition. -/
import Derived.Test.YtdoibplhbdkapaaGreatDoorDNP17
import Derived.Test.YtdoibplhbdkapaaGreatDoorDNP14
import Derived.Test.YtdoibplhbdkapaaGreatDoorDNP4
import Derived.Test.YtdoibplhbdkapaaGreatDoorDNP16
import Derived.Test.YtdoibplhbdkapaaGreatDoorDNP13
import Derived.Test.YtdoibplhbdkapaaGreatDoorDNP12
namespace Go.Proofs.YtdoibplhbdkapaaGreatDoor
open Go.RowKit
set_option linter.unusedVariables false
set_option linter.unusedSimpArgs false
set_option maxRecDepth 20000
theorem aCo (A : Option Addr) (B c : Nat) (xs : List Int) (w : World) (hs : Sl B w A (xs.flatMap eI)) (hl : xs.length ≤ 1048576) (hB : rL xs = true) :
   Calls Tryz.prog 77 #[.slice A xs.length c] w (fD fun v w' => ∃ A' c' ys sz ok, v = .tuple #[.slice A' (List.length ys) c', .int .i64 sz, .bool ok] ∧ RdM (pT xs) (ys.map (·.m)) sz ok ∧ Disj ys ∧ Own w' w.heap.size 92 3 A' ys.length c' (ys.flatMap ModeI.cells) ∧ NOwn w' w.heap.size 2 ys ∧ Ext w w') := by
 have Bhs := hs.1
 have X := Q7r w
 refine bI (args := [.slice A xs.length c]) Tryz.func77 Tryz.ntmps77 rfl rfl ?_
 refine aE ?_
 refine aA rfl (aD rfl ?_)
 refine aA rfl (aD rfl ?_)
 refine aA rfl (aD rfl ?_)
 refine aB ?_
 refine aE ?_
 refine aA rfl (aC rfl ?_)
 refine aA rfl (cO aGp aGo rfl rfl ?_)
 refine aA rfl (eE rfl rfl ?_)
 intro gC w2 egC q x1 zgC
 have lgC : w.heap.size ≤ gC := Q7l X.size (Q7e egC.symm)
 have pgChs := Q7l hs.1 (Q7e egC.symm)
 replace hs := hs.ext x1
 replace X := Q7x X x1
 have q : Blk _ gC 166 (uT A c xs 0 false) := q
 refine aA rfl (aN iA hH rfl rfl rfl rfl rfl ?_)
 intro gO w4 egO oT bbgO x3 zgO
 replace oT := Own.low oT X.size
 replace hs := hs.ext x3
 replace q := q.ext x3
 replace X := Q7x X x3
 refine aA rfl (aD rfl ?_)
 refine aA rfl (aD rfl ?_)
 refine aB ?_
 refine aQ ?_
 refine aE ?_
 refine aA rfl (aC rfl ?_)
 refine aA rfl (aS mB rfl (aO (lX A B c xs gC 0 false _ q hs hl (Nat.zero_le _) (by omega)) ?_))
 rintro _ w6 ⟨rfl, q1, x5⟩
 replace hs := hs.grown x5 (by intro g hg; injection hg; omega)
 replace oT := oT.grownBlk x5 (Own.neT oT q (by decide))
 replace X := X.grown x5 X.size (by intro g hg; injection hg; omega)
 clear x5 q
 refine aA rfl (aD rfl ?_)
 refine aB ?_
 refine aW ?_
 refine dD (G := Nat × Nat × Bool × List ModeI × Nat × Option Addr × Nat × Int) (fun ⟨rem, a, b, ys, n1, A1, c1, tm⟩ => [(2, .slice none 0 0), (3, .int .i64 0), (4, .bool false), (5, .pointer (some ⟨gC, 0, none⟩)), (7, .int .i64 tm), (6, .slice A1 n1 c1)]) (fun ⟨rem, a, b, ys, n1, A1, c1, tm⟩ wr => a ≤ xs.length ∧ n1 = ys.length ∧ tm = (rem : Int) ∧ n1 + rem ≤ 255 ∧ HgM xs rem a b (ys.map (·.m)) ∧ (∀ y ∈ ys, y.m.next.length ≤ 255) ∧ Disj ys ∧ Blk wr gC 166 (uT A c xs a b) ∧ Own wr w.heap.size 92 3 A1 n1 c1 (ys.flatMap ModeI.cells) ∧ NOwn wr w.heap.size 2 ys ∧ Sl B wr A (xs.flatMap eI) ∧ Ext w wr) (fun ⟨rem, a, b, ys, n1, A1, c1, tm⟩ => rem) ((nV xs 0).toNat, gU xs 0, eU xs 0 false, [], 0, some ⟨gO, 0, none⟩, 0, nV xs 0) (.cons rfl (.cons rfl (.cons rfl (.cons rfl (.cons rfl (.cons rfl (.nil _))))))) ?_ ?_
 · exact ⟨(fG (Nat.zero_le _)), rfl, (by have := nU hB 0; omega), (by have := nU hB 0; show 0 + _ ≤ _; omega), (HgM.start xs), (fun y hy => by simp at hy), Disj.nil_, q1, oT, NOwn.nil_, hs, X⟩
 clear hs oT q1
 clear X
 rintro ⟨rem, a, b, ys, n1, A1, c1, tm⟩ wr ⟨ha1, hn, htm, hrm, hg, hnl, hd, q, oT, oN, hs, X⟩
 refine aQ ?_
 refine aE ?_
 refine aA rfl (aC rfl ?_)
 refine aA rfl (fX rfl rfl (fun h7 => ?_) (fun h7 => ?_))
 refine aA rfl (aC rfl ?_)
 refine aH rfl rfl rfl (aC rfl ?_)
 refine aH rfl rfl rfl (dF rfl ?_)
 refine aH rfl rfl rfl (aF iT rfl rfl ?_)
 refine aH rfl rfl rfl (aI q uX rfl rfl ?_)
 refine aH rfl rfl rfl (cD rfl ?_)
 refine aA rfl (aJ rfl rfl ?_)
 refine aB ?_
 refine lB rfl (fun h8 => ?_) (fun h8 => ?_)
 refine aU ?_
 refine aP ?_
 refine aQ ?_
 refine aW ?_
 refine aE ?_
 refine aA rfl (aC rfl ?_)
 have hb0 : b = false := by simpa using ‹(!b) = true›
 subst hb0
 refine aA rfl (aS mB rfl (aO (lX A B c xs gC a false _ q hs hl ha1 (by omega)) ?_))
 rintro _ w10 ⟨rfl, q2, x9⟩
 replace oT := oT.grownBlk x9 (Own.neT oT q (by decide))
 replace oN := oN.grownB q x9 (by decide)
 replace hs := hs.grown x9 (by intro g hg; injection hg; omega)
 replace X := X.grown x9 X.size (by intro g hg; injection hg; omega)
 clear x9 q
 refine aA rfl (cO aBC hH rfl rfl ?_)
 have UT := fun g hg => (Own.lt oT (g := g) hg).2
 refine aA rfl (dO hH ?_)
 intro gX w12 egX bX x11 zgX
 have lgX : w.heap.size ≤ gX := Q7l X.size (Q7e egX.symm)
 have pgXhs := Q7l hs.1 (Q7e egX.symm)
 have ngXq2 := Nat.lt_of_lt_of_eq q2.lt egX.symm
 replace oT := oT.ext x11
 replace oN := oN.ext x11
 replace hs := hs.ext x11
 replace q2 := q2.ext x11
 replace X := Q7x X x11
 refine aA rfl (aX bX hH rfl rfl rfl rfl rfl rfl ?_)
 intro w14 bY hg13 z15
 replace oT := oT.grownBlk hg13 (fun h => by have := UT _ h; omega)
 replace oN := oN.grownB bX hg13 (by decide)
 replace hs := hs.grown hg13 (by intro g hg; injection hg; omega)
 replace q2 := q2.grown hg13 (by intro h; injection h; omega)
 replace X := X.grown hg13 X.size (by intro g hg; injection hg; omega)
 clear hg13 bX
 refine aB ?_
 refine aE ?_
 refine aA rfl (aC rfl ?_)
 refine aA rfl (aS mB rfl (aO (lX A B c xs gC _ _ _ q2 hs hl (fG ha1) (by omega)) ?_))
 rintro _ w17 ⟨rfl, q3, x16⟩
 replace oT := oT.grownBlk x16 (Own.neT oT q2 (by decide))
 replace oN := oN.grownB q2 x16 (by decide)
 replace hs := hs.grown x16 (by intro g hg; injection hg; omega)
 replace bY := bY.grown x16 (by intro h; injection h; omega)
 replace X := X.grown x16 X.size (by intro g hg; injection hg; omega)
 clear x16 q2
 refine aA rfl (aF fU rfl rfl ?_)
 refine aA rfl (aX bY cY rfl rfl rfl rfl rfl rfl ?_)
 intro w19 bZ hg18 z20
 replace oT := oT.grownBlk hg18 (fun h => by have := UT _ h; omega)
 replace oN := oN.grownB bY hg18 (by decide)
 replace hs := hs.grown hg18 (by intro g hg; injection hg; omega)
 replace q3 := q3.grown hg18 (by intro h; injection h; omega)
 replace X := X.grown hg18 X.size (by intro g hg; injection hg; omega)
 clear hg18 bY
 refine aB ?_
 refine aE ?_
 refine aA rfl (aC rfl ?_)
 refine aA rfl (aC rfl ?_)
 refine aA rfl (aS mB rfl (aO (lX A B c xs gC _ _ _ q3 hs hl (fG (fG ha1)) (by omega)) ?_))
 rintro _ w22 ⟨rfl, q4, x21⟩
 replace oT := oT.grownBlk x21 (Own.neT oT q3 (by decide))
 replace oN := oN.grownB q3 x21 (by decide)
 replace hs := hs.grown x21 (by intro g hg; injection hg; omega)
 replace bZ := bZ.grown x21 (by intro h; injection h; omega)
 replace X := X.grown x21 X.size (by intro g hg; injection hg; omega)
 clear x21 q3
 have hbd := fun y hy g hg => (Own.lt (oN y hy).1 (g := g) hg).2
 have LP := X.size
 refine aA rfl (aS aDL rfl (aO (aDp A B c xs gC _ _ _ _ q4 hs hl (fG (fG (fG ha1))) (by omega) (by have := nU hB (gU xs (gU xs a)); omega)) ?_))
 rintro _ w24 ⟨AP, cP, rfl, oP, q5, x23⟩
 replace oT := oT.grownBlk x23 (Own.neT oT q4 (by decide))
 replace oN := oN.grownB q4 x23 (by decide)
 replace hs := hs.grown x23 (by intro g hg; injection hg; omega)
 replace bZ := bZ.grown x23 (by intro h; injection h; omega)
 replace X := X.grown x23 X.size (by intro g hg; injection hg; omega)
 clear x23 q4
 have hnb := fun g hg => (Own.lt oP (g := g) hg).1
 replace oP := Own.low oP LP
 refine aA rfl (aF jD rfl rfl ?_)
 refine aA rfl (aX bZ kQ rfl rfl rfl rfl rfl rfl ?_)
 intro w26 bW hg25 z27
 replace oT := oT.grownBlk hg25 (fun h => by have := UT _ h; omega)
 replace oN := oN.grownB bZ hg25 (by decide)
 replace hs := hs.grown hg25 (by intro g hg; injection hg; omega)
 replace q5 := q5.grown hg25 (by intro h; injection h; omega)
 replace oP := oP.grownBlk hg25 (Own.neT oP bZ (by decide))
 replace X := X.grown hg25 X.size (by intro g hg; injection hg; omega)
 clear hg25 bZ
 refine aB ?_
 refine aM ?_
 refine aA rfl (aC rfl ?_)
 refine aA rfl (bO bW hH rfl rfl ?_)
 refine aA rfl (aN iA hH rfl rfl rfl rfl rfl ?_)
 intro g28 w30 eg28 oV bbg28 x29 zg28
 replace oV := Own.low oV X.size
 replace oT := oT.ext x29
 replace oN := oN.ext x29
 replace hs := hs.ext x29
 replace q5 := q5.ext x29
 replace oP := oP.ext x29
 replace bW := bW.ext x29
 replace X := Q7x X x29
 refine aA rfl (cF (ts := #[]) oT X.size oV.sl (by first | rfl | simp) (by first | exact List.all_eq_true.1 rfl | simp [Value.oneCell']) iA hH rfl rfl rfl rfl (by omega) (by omega) ?_)
 intro AoU coU w32 oU hg31
 replace oN := oN.grownO oT hg31 (by decide)
 replace hs := hs.grown hg31 (fun g hg => Q7l Bhs (Own.lt oT hg).1)
 replace q5 := q5.grown hg31 (fun h => Own.neT oT q5 (by decide) h.symm)
 replace oP := oP.grown hg31 (Own.neO oP oT (by decide))
 replace bW := bW.grown hg31 (fun h => by have := UT _ h.symm; omega)
 replace X := X.grown hg31 X.size (fun g hg => (Own.lt oT hg).1)
 clear hg31
 refine aA rfl (aD rfl ?_)
 refine aB ?_
 refine dJ ?_
 refine aP ?_
 refine aM ?_
 refine aA rfl (aC rfl ?_)
 refine aA rfl (fZ rfl rfl (dR (by omega)) ?_)
 refine aA rfl (aD rfl ?_)
 refine aB ?_
 refine aP ⟨(rem - 1, (pH xs a).2.1, (pH xs a).2.2, ys ++ [⟨⟨nV xs a, nV xs (gU xs a), (pH xs a).1⟩, AP, cP⟩], n1 + 1, AoU, coU, tm - 1), (.cons rfl (.cons rfl (.cons rfl (.cons rfl (.cons rfl (.cons rfl (.nil _))))))), ?_, ?_⟩
 · skip
   exact ⟨(aBk hB ha1).1, (by simp [hn]), (by omega), (by omega), (by have := hg.step (by omega) ha1; rw [List.map_append]; exact this), (by
     intro y hy
     rcases List.mem_append.1 hy with h | h
     · exact hnl y h
     · obtain rfl : y = ⟨⟨nV xs a, nV xs (gU xs a), (pH xs a).1⟩, AP, cP⟩ := by simpa using h
       exact (aBk hB ha1).2), (hd.snoc (x := ⟨⟨nV xs a, nV xs (gU xs a), (pH xs a).1⟩, AP, cP⟩) (fun y hy g hg e => absurd (hbd y hy g hg) (Nat.not_lt.2 (hnb g e)))), q5, oU.to (kG ModeI.cells ys ⟨⟨nV xs a, nV xs (gU xs a), (pH xs a).1⟩, AP, cP⟩).symm, oN.snoc (x := ⟨⟨nV xs a, nV xs (gU xs a), (pH xs a).1⟩, AP, cP⟩) oP (by show (pH xs a).1.length ≤ _; have := (aBk hB ha1).2; omega), hs, X⟩
 · first | omega | (dsimp only; omega)
 refine dC ?_
 refine dB ?_
 refine dB ?_
 refine eA ?_
 refine aP ?_
 refine aQ ?_
 refine aE ?_
 refine aA rfl (aC rfl ?_)
 subst hn
 refine aA rfl (dF rfl ?_)
 refine aA rfl (aF iT rfl rfl ?_)
 refine aA rfl (aI q uX rfl rfl ?_)
 cases hb1 : b
 refine aA rfl (aC rfl ?_)
 refine aH rfl rfl rfl (aC rfl ?_)
 refine aH rfl rfl rfl (cW aDM rfl (aBi _ _ _ _ ys _ oT.sl oN.nexts (by omega) (fun x hx => by have := hnl x hx; omega)) (fun w34 hIT x33 => ?_) (fun w34 hIT x33 => ?_))
 replace q := q.ext x33
 replace oT := oT.ext x33
 replace oN := oN.ext x33
 replace hs := hs.ext x33
 replace X := Q7x X x33
 refine aH rfl rfl rfl (cD rfl ?_)
 refine aA rfl (aJ rfl rfl ?_)
 refine aB ?_
 refine aL rfl ?_
 refine aU ?_
 refine aP ?_
 refine eO [false, false, false, false, false, false, false, false] mixed (by kernel_rfl) ?_
 refine cE rfl (fun wq sq => aC rfl ⟨rfl, Q7r _⟩) ?_
 refine cE rfl (fun wq sq => aC rfl ⟨rfl, Q7r _⟩) ?_
 refine cE rfl (fun wq sq => dF rfl ⟨rfl, Q7r _⟩) ?_
 refine cE rfl (fun wq sq => aF jU rfl rfl ⟨rfl, Q7r _⟩) ?_
 refine cE rfl (fun wq sq => aI (q.ext sq) ti3 rfl rfl ⟨rfl, Q7r _⟩) ?_
 refine cE rfl (fun wq sq => aD rfl ⟨rfl, Q7r _⟩) ?_
 refine cE rfl (fun wq sq => aD rfl ⟨rfl, Q7r _⟩) ?_
 refine cE rfl (fun wq sq => aD rfl ⟨rfl, Q7r _⟩) ?_
 refine dW (fun w35 sq => ?_)
 have xq := sq
 replace q := q.ext xq
 replace oT := oT.ext xq
 replace oN := oN.ext xq
 replace hs := hs.ext xq
 replace X := Q7x X xq; clear xq sq
 refine aB ?_
 refine aV ?_
 refine fH rfl rfl rfl rfl ?_
 · skip
   subst hb1
   first
   | (exact absurd ‹(!false) = false› (by decide))
   | (have HN : pT xs = none := hg.2 rfl
      exact ⟨none, 0, [], 0, false, rfl, (by rw [HN]; exact ⟨rfl, rfl, rfl⟩), Disj.nil_, Own.nil_ _ _ _ _, NOwn.nil_, X⟩)
   | (have hr0 : rem = 0 := by omega
      subst hr0
      have HN : pT xs = none := hg.stop.2 hIT
      exact ⟨none, 0, [], 0, false, rfl, (by rw [HN]; exact ⟨rfl, rfl, rfl⟩), Disj.nil_, Own.nil_ _ _ _ _, NOwn.nil_, X⟩)
   | (have hr0 : rem = 0 := by omega
      subst hr0
      have HS : pT xs = some (ys.map (·.m), a) := hg.stop.1 hIT
      exact ⟨_, _, ys, _, true, rfl, (by rw [HS]; exact ⟨rfl, rfl, rfl⟩), hd, oT, oN, X⟩)
 replace q := q.ext x33
 replace oT := oT.ext x33
 replace oN := oN.ext x33
 replace hs := hs.ext x33
 replace X := Q7x X x33
 refine aH rfl rfl rfl (cD rfl ?_)
 refine aA rfl (aJ rfl rfl ?_)
 refine aB ?_
 refine aR rfl ?_
 refine aE ?_
 refine aA rfl (aD rfl ?_)
 refine aA rfl (aD rfl ?_)
 refine aA rfl (aD rfl ?_)
 refine aB ?_
 refine aV ?_
 refine bU ?_
 refine fH rfl rfl rfl rfl ?_
 · skip
   subst hb1
   first
   | (exact absurd ‹(!false) = false› (by decide))
   | (have HN : pT xs = none := hg.2 rfl
      exact ⟨none, 0, [], 0, false, rfl, (by rw [HN]; exact ⟨rfl, rfl, rfl⟩), Disj.nil_, Own.nil_ _ _ _ _, NOwn.nil_, X⟩)
   | (have hr0 : rem = 0 := by omega
      subst hr0
      have HN : pT xs = none := hg.stop.2 hIT
      exact ⟨none, 0, [], 0, false, rfl, (by rw [HN]; exact ⟨rfl, rfl, rfl⟩), Disj.nil_, Own.nil_ _ _ _ _, NOwn.nil_, X⟩)
   | (have hr0 : rem = 0 := by omega
      subst hr0
      have HS : pT xs = some (ys.map (·.m), a) := hg.stop.1 hIT
      exact ⟨_, _, ys, _, true, rfl, (by rw [HS]; exact ⟨rfl, rfl, rfl⟩), hd, oT, oN, X⟩)
 refine aA rfl (aC rfl ?_)
 refine aG rfl rfl rfl rfl ?_
 refine aG rfl rfl rfl rfl ?_
 refine aG rfl rfl rfl rfl ?_
 refine aA rfl (aJ rfl rfl ?_)
 refine aB ?_
 refine aR rfl ?_
 refine aE ?_
 refine aA rfl (aD rfl ?_)
 refine aA rfl (aD rfl ?_)
 refine aA rfl (aD rfl ?_)
 refine aB ?_
 refine aV ?_
 refine bU ?_
 refine fH rfl rfl rfl rfl ?_
 · skip
   subst hb1
   first
   | (exact absurd ‹(!false) = false› (by decide))
   | (have HN : pT xs = none := hg.2 rfl
      exact ⟨none, 0, [], 0, false, rfl, (by rw [HN]; exact ⟨rfl, rfl, rfl⟩), Disj.nil_, Own.nil_ _ _ _ _, NOwn.nil_, X⟩)
   | (have hr0 : rem = 0 := by omega
      subst hr0
      have HN : pT xs = none := hg.stop.2 hIT
      exact ⟨none, 0, [], 0, false, rfl, (by rw [HN]; exact ⟨rfl, rfl, rfl⟩), Disj.nil_, Own.nil_ _ _ _ _, NOwn.nil_, X⟩)
   | (have hr0 : rem = 0 := by omega
      subst hr0
      have HS : pT xs = some (ys.map (·.m), a) := hg.stop.1 hIT
      exact ⟨_, _, ys, _, true, rfl, (by rw [HS]; exact ⟨rfl, rfl, rfl⟩), hd, oT, oN, X⟩)
 refine aA rfl (aC rfl ?_)
 refine aG rfl rfl rfl rfl ?_
 refine aG rfl rfl rfl rfl ?_
 refine aG rfl rfl rfl rfl ?_
 refine aG rfl rfl rfl rfl ?_
 refine aG rfl rfl rfl rfl ?_
 refine aA rfl (aJ rfl rfl ?_)
 refine aB ?_
 refine aL rfl ?_
 refine dC ?_
 refine dB ?_
 refine dB ?_
 refine eA ?_
 refine aP ?_
 refine aQ ?_
 refine aE ?_
 refine aA rfl (aC rfl ?_)
 subst hn
 refine aA rfl (dF rfl ?_)
 refine aA rfl (aF iT rfl rfl ?_)
 refine aA rfl (aI q uX rfl rfl ?_)
 cases hb1 : b
 refine aA rfl (aC rfl ?_)
 refine aH rfl rfl rfl (aC rfl ?_)
 refine aH rfl rfl rfl (cW aDM rfl (aBi _ _ _ _ ys _ oT.sl oN.nexts (by omega) (fun x hx => by have := hnl x hx; omega)) (fun w37 hIT x36 => ?_) (fun w37 hIT x36 => ?_))
 replace q := q.ext x36
 replace oT := oT.ext x36
 replace oN := oN.ext x36
 replace hs := hs.ext x36
 replace X := Q7x X x36
 refine aH rfl rfl rfl (cD rfl ?_)
 refine aA rfl (aJ rfl rfl ?_)
 refine aB ?_
 refine aL rfl ?_
 refine aU ?_
 refine aP ?_
 refine eO [false, false, false, false, false, false, false, false] mixed (by kernel_rfl) ?_
 refine cE rfl (fun wq sq => aC rfl ⟨rfl, Q7r _⟩) ?_
 refine cE rfl (fun wq sq => aC rfl ⟨rfl, Q7r _⟩) ?_
 refine cE rfl (fun wq sq => dF rfl ⟨rfl, Q7r _⟩) ?_
 refine cE rfl (fun wq sq => aF jU rfl rfl ⟨rfl, Q7r _⟩) ?_
 refine cE rfl (fun wq sq => aI (q.ext sq) ti3 rfl rfl ⟨rfl, Q7r _⟩) ?_
 refine cE rfl (fun wq sq => aD rfl ⟨rfl, Q7r _⟩) ?_
 refine cE rfl (fun wq sq => aD rfl ⟨rfl, Q7r _⟩) ?_
 refine cE rfl (fun wq sq => aD rfl ⟨rfl, Q7r _⟩) ?_
 refine dW (fun w38 sq => ?_)
 have xq := sq
 replace q := q.ext xq
 replace oT := oT.ext xq
 replace oN := oN.ext xq
 replace hs := hs.ext xq
 replace X := Q7x X xq; clear xq sq
 refine aB ?_
 refine aV ?_
 refine fH rfl rfl rfl rfl ?_
 · skip
   subst hb1
   first
   | (exact absurd ‹(!false) = false› (by decide))
   | (have HN : pT xs = none := hg.2 rfl
      exact ⟨none, 0, [], 0, false, rfl, (by rw [HN]; exact ⟨rfl, rfl, rfl⟩), Disj.nil_, Own.nil_ _ _ _ _, NOwn.nil_, X⟩)
   | (have hr0 : rem = 0 := by omega
      subst hr0
      have HN : pT xs = none := hg.stop.2 hIT
      exact ⟨none, 0, [], 0, false, rfl, (by rw [HN]; exact ⟨rfl, rfl, rfl⟩), Disj.nil_, Own.nil_ _ _ _ _, NOwn.nil_, X⟩)
   | (have hr0 : rem = 0 := by omega
      subst hr0
      have HS : pT xs = some (ys.map (·.m), a) := hg.stop.1 hIT
      exact ⟨_, _, ys, _, true, rfl, (by rw [HS]; exact ⟨rfl, rfl, rfl⟩), hd, oT, oN, X⟩)
 replace q := q.ext x36
 replace oT := oT.ext x36
 replace oN := oN.ext x36
 replace hs := hs.ext x36
 replace X := Q7x X x36
 refine aH rfl rfl rfl (cD rfl ?_)
 refine aA rfl (aJ rfl rfl ?_)
 refine aB ?_
 refine aR rfl ?_
 refine aE ?_
 refine aA rfl (aD rfl ?_)
 refine aA rfl (aD rfl ?_)
 refine aA rfl (aD rfl ?_)
 refine aB ?_
 refine aV ?_
 refine bU ?_
 refine fH rfl rfl rfl rfl ?_
 · skip
   subst hb1
   first
   | (exact absurd ‹(!false) = false› (by decide))
   | (have HN : pT xs = none := hg.2 rfl
      exact ⟨none, 0, [], 0, false, rfl, (by rw [HN]; exact ⟨rfl, rfl, rfl⟩), Disj.nil_, Own.nil_ _ _ _ _, NOwn.nil_, X⟩)
   | (have hr0 : rem = 0 := by omega
      subst hr0
      have HN : pT xs = none := hg.stop.2 hIT
      exact ⟨none, 0, [], 0, false, rfl, (by rw [HN]; exact ⟨rfl, rfl, rfl⟩), Disj.nil_, Own.nil_ _ _ _ _, NOwn.nil_, X⟩)
   | (have hr0 : rem = 0 := by omega
      subst hr0
      have HS : pT xs = some (ys.map (·.m), a) := hg.stop.1 hIT
      exact ⟨_, _, ys, _, true, rfl, (by rw [HS]; exact ⟨rfl, rfl, rfl⟩), hd, oT, oN, X⟩)
 refine aA rfl (aC rfl ?_)
 refine aG rfl rfl rfl rfl ?_
 refine aG rfl rfl rfl rfl ?_
 refine aG rfl rfl rfl rfl ?_
 refine aA rfl (aJ rfl rfl ?_)
 refine aB ?_
 refine aR rfl ?_
 refine aE ?_
 refine aA rfl (aD rfl ?_)
 refine aA rfl (aD rfl ?_)
 refine aA rfl (aD rfl ?_)
 refine aB ?_
 refine aV ?_
 refine bU ?_
 refine fH rfl rfl rfl rfl ?_
 · skip
   subst hb1
   first
   | (exact absurd ‹(!false) = false› (by decide))
   | (have HN : pT xs = none := hg.2 rfl
      exact ⟨none, 0, [], 0, false, rfl, (by rw [HN]; exact ⟨rfl, rfl, rfl⟩), Disj.nil_, Own.nil_ _ _ _ _, NOwn.nil_, X⟩)
   | (have hr0 : rem = 0 := by omega
      subst hr0
      have HN : pT xs = none := hg.stop.2 hIT
      exact ⟨none, 0, [], 0, false, rfl, (by rw [HN]; exact ⟨rfl, rfl, rfl⟩), Disj.nil_, Own.nil_ _ _ _ _, NOwn.nil_, X⟩)
   | (have hr0 : rem = 0 := by omega
      subst hr0
      have HS : pT xs = some (ys.map (·.m), a) := hg.stop.1 hIT
      exact ⟨_, _, ys, _, true, rfl, (by rw [HS]; exact ⟨rfl, rfl, rfl⟩), hd, oT, oN, X⟩)
theorem aDr (A : Option Addr) (B c : Nat) (p0 p1 p2 p3 p4 : Int) (w : World) (hs : Sl B w A ([p0, p1, p2, p3, p4].flatMap eI)) (b0 : 0 ≤ p0 ∧ p0 ≤ 255) (b1 : 0 ≤ p1 ∧ p1 ≤ 255) (b2 : 0 ≤ p2 ∧ p2 ≤ 255) (b3 : 0 ≤ p3 ∧ p3 ≤ 255) (b4 : 0 ≤ p4 ∧ p4 ≤ 255) :
   Calls Tryz.prog 164 #[.slice A 5 c] w (fD fun v w' => v = .tuple #[.agg (yQ p0 p1 p2 p3 p4).cells.toArray, .bool (wN p0 p1 p2 p3 p4)] ∧ Ext w w') := by
 have Bhs := hs.1
 have X := Q7r w
 refine bI (args := [.slice A 5 c]) Tryz.func164 Tryz.ntmps164 rfl rfl ?_
 refine aE ?_
 refine aA rfl (dO eV ?_)
 intro g0 w2 eg0 b0 x1 zg0
 have lg0 : w.heap.size ≤ g0 := Q7l X.size (Q7e eg0.symm)
 have pg0hs := Q7l hs.1 (Q7e eg0.symm)
 replace hs := hs.ext x1
 replace X := Q7x X x1
 refine aA rfl (aD rfl ?_)
 refine aB ?_
 have Rhs := hs.1
 refine eO [false, false, false, false, false, false, false, false, false, false, false, false, false, false, false, false, false, false, false, false, false, false, false, false, true] mixed (by kernel_rfl) ?_
 refine cE rfl (fun wq sq => aC rfl ⟨rfl, Q7r _⟩) ?_
 refine cE rfl (fun wq sq => aT (hs.ext sq) bL rfl dA rfl rfl rfl (show [p0, p1, p2, p3, p4][0]? = some p0 from rfl) rfl ⟨rfl, Q7r _⟩) ?_
 refine cE rfl (fun wq sq => cX (hs.ext sq) bL (show [p0, p1, p2, p3, p4][0]? = some p0 from rfl) cY rfl rfl rfl ⟨rfl, Q7r _⟩) ?_
 refine cE rfl (fun wq sq => aC rfl ⟨rfl, Q7r _⟩) ?_
 refine cE rfl (fun wq sq => aT (hs.ext sq) bL rfl dA rfl rfl rfl (show [p0, p1, p2, p3, p4][1]? = some p1 from rfl) rfl ⟨rfl, Q7r _⟩) ?_
 refine cE rfl (fun wq sq => cX (hs.ext sq) bL (show [p0, p1, p2, p3, p4][1]? = some p1 from rfl) cY rfl rfl rfl ⟨rfl, Q7r _⟩) ?_
 refine cE rfl (fun wq sq => iE rfl rfl (by omega) (xW (by omega)) ⟨rfl, Q7r _⟩) ?_
 refine cE rfl (fun wq sq => aC rfl ⟨rfl, Q7r _⟩) ?_
 refine cE rfl (fun wq sq => aT (hs.ext sq) bL rfl dA rfl rfl rfl (show [p0, p1, p2, p3, p4][1]? = some p1 from rfl) rfl ⟨rfl, Q7r _⟩) ?_
 refine cE rfl (fun wq sq => cX (hs.ext sq) bL (show [p0, p1, p2, p3, p4][1]? = some p1 from rfl) cY rfl rfl rfl ⟨rfl, Q7r _⟩) ?_
 refine cE rfl (fun wq sq => fN rfl rfl (by omega) (sV (by omega)) ⟨rfl, Q7r _⟩) ?_
 refine cE rfl (fun wq sq => aC rfl ⟨rfl, Q7r _⟩) ?_
 refine cE rfl (fun wq sq => aT (hs.ext sq) bL rfl dA rfl rfl rfl (show [p0, p1, p2, p3, p4][2]? = some p2 from rfl) rfl ⟨rfl, Q7r _⟩) ?_
 refine cE rfl (fun wq sq => cX (hs.ext sq) bL (show [p0, p1, p2, p3, p4][2]? = some p2 from rfl) cY rfl rfl rfl ⟨rfl, Q7r _⟩) ?_
 refine cE rfl (fun wq sq => iN rfl rfl ((dR (by omega)).trans (Int.mul_comm _ _)) ⟨rfl, Q7r _⟩) ?_
 refine cE rfl (fun wq sq => aC rfl ⟨rfl, Q7r _⟩) ?_
 refine cE rfl (fun wq sq => aT (hs.ext sq) bL rfl dA rfl rfl rfl (show [p0, p1, p2, p3, p4][3]? = some p3 from rfl) rfl ⟨rfl, Q7r _⟩) ?_
 refine cE rfl (fun wq sq => cX (hs.ext sq) bL (show [p0, p1, p2, p3, p4][3]? = some p3 from rfl) cY rfl rfl rfl ⟨rfl, Q7r _⟩) ?_
 refine cE rfl (fun wq sq => aZ rfl rfl (dR (by omega)) ⟨rfl, Q7r _⟩) ?_
 refine cE rfl (fun wq sq => aC rfl ⟨rfl, Q7r _⟩) ?_
 refine cE rfl (fun wq sq => aT (hs.ext sq) bL rfl dA rfl rfl rfl (show [p0, p1, p2, p3, p4][4]? = some p4 from rfl) rfl ⟨rfl, Q7r _⟩) ?_
 refine cE rfl (fun wq sq => cX (hs.ext sq) bL (show [p0, p1, p2, p3, p4][4]? = some p4 from rfl) cY rfl rfl rfl ⟨rfl, Q7r _⟩) ?_
 refine cE rfl (fun wq sq => iD rfl rfl ⟨rfl, Q7r _⟩) ?_
 refine cE rfl (fun wq sq => cO zP eV rfl rfl ⟨rfl, Q7r _⟩) ?_
 refine aBe (fun gD : Nat => Value.pointer (some ⟨gD, 0, none⟩)) (fun gD wz => Blk wz gD 67 (⟨0, 0, 0, 0, false⟩ : Desc).cells ∧ w.heap.size ≤ gD ∧ w2.heap.size ≤ gD ∧ g0 < gD) 0 rfl ⟨aD3, fun _ _ _ h k => ⟨h.1.ext k, h.2⟩, fun wq sq => dO eV (fun g w' hg hb hx hz => ⟨g, rfl, ⟨hb, Q7l (Q7l X.size (sq).size) (Q7e hg.symm), Q7l (sq).size (Q7e hg.symm), Nat.lt_of_lt_of_eq (b0.ext sq).lt hg.symm⟩, hx⟩)⟩ ?_
 intro gD
 refine dW (fun w3 sq => ?_)
 have xq := sq.1
 have bD := sq.2.1
 have lgD := sq.2.2.1
 have rgD := sq.2.2.2.1
 have ngDg0 := sq.2.2.2.2
 replace hs := hs.ext xq
 replace b0 := b0.ext xq
 replace X := Q7x X xq; clear xq sq
 refine aA rfl (aX bD eV rfl rfl rfl rfl rfl rfl ?_)
 intro w5 bE hg4 z6
 replace hs := hs.grown hg4 (by intro g hg; injection hg; omega)
 replace b0 := b0.grown hg4 (by intro h; injection h; omega)
 replace X := X.grown hg4 X.size (by intro g hg; injection hg; omega)
 clear hg4 bD
 have bE : Blk _ gD 67 (yQ p0 p1 p2 p3 p4).cells := bE
 refine aB ?_
 refine vY (fun wz => Sl B wz A ([p0, p1, p2, p3, p4].flatMap eI) ∧ Blk wz gD 67 (yQ p0 p1 p2 p3 p4).cells) mixed ?_
 obtain ⟨w7, ew7⟩ : ∃ wy, wy = World.drew w5 := ⟨_, rfl⟩
 rw [← ew7]
 have xd : Ext w5 w7 := ew7 ▸ Ext.drew w5
 replace hs := hs.ext xd
 replace b0 := b0.ext xd
 replace bE := bE.ext xd
 replace X := Q7x X xd; clear xd ew7
 refine dI 0 rfl (by kernel_rfl) rfl (by kernel_rfl) (listed' := #[true, false, false, false, false, false, false, false, false, false, false]) rfl (fun wq sq => bO sq.2 eV rfl rfl ⟨rfl, rfl⟩) ?_
 refine dI 1 rfl (by kernel_rfl) rfl (by kernel_rfl) (listed' := #[true, true, false, false, false, false, false, false, false, false, false]) rfl (fun wq sq => bO sq.2 eV rfl rfl ⟨rfl, rfl⟩) ?_
 refine fM 2 rfl rfl (by kernel_rfl) (listed' := #[true, true, true, false, false, false, false, false, false, false, false]) rfl ⟨hs, bE⟩ (cW aGH rfl (aA8 _ _) (fun w9 hd x8 => ?_) (fun w9 hd x8 => ?_))
 replace hs := hs.ext x8
 replace b0 := b0.ext x8
 replace bE := bE.ext x8
 replace X := Q7x X x8
 refine dI 3 rfl (by kernel_rfl) rfl (by kernel_rfl) (listed' := #[true, true, true, true, false, false, false, false, false, false, false]) rfl (fun wq sq => aC rfl ⟨rfl, rfl⟩) ?_
 refine jI 4 rfl (by kernel_rfl) rfl (by kernel_rfl) (listed' := #[true, true, true, true, true, false, false, false, false, false, false]) rfl rfl rfl (fun wq sq => aC rfl ⟨rfl, rfl⟩) ?_
 refine jI 5 rfl (by kernel_rfl) rfl (by kernel_rfl) (listed' := #[true, true, true, true, true, true, false, false, false, false, false]) rfl rfl rfl (fun wq sq => aT sq.1 bL rfl dA rfl rfl rfl (show [p0, p1, p2, p3, p4][4]? = some p4 from rfl) rfl ⟨rfl, rfl⟩) ?_
 refine jI 6 rfl (by kernel_rfl) rfl (by kernel_rfl) (listed' := #[true, true, true, true, true, true, true, false, false, false, false]) rfl rfl rfl (fun wq sq => cX sq.1 bL (show [p0, p1, p2, p3, p4][4]? = some p4 from rfl) cY rfl rfl rfl ⟨rfl, rfl⟩) ?_
 refine jI 7 rfl (by kernel_rfl) rfl (by kernel_rfl) (listed' := #[true, true, true, true, true, true, true, true, false, false, false]) rfl rfl rfl (fun wq sq => pM rfl rfl ⟨rfl, rfl⟩) ?_
 refine dI 8 rfl (by kernel_rfl) rfl (by kernel_rfl) (listed' := #[true, true, true, true, true, true, true, true, true, false, false]) rfl (fun wq sq => aJ rfl rfl ⟨rfl, rfl⟩) ?_
 refine fM 9 rfl rfl (by kernel_rfl) (listed' := #[true, true, true, true, true, true, true, true, true, true, false]) rfl ⟨hs, bE⟩ (aX b0 eV rfl rfl rfl rfl rfl rfl ?_)
 intro w11 b9 hg10 z12
 replace hs := hs.grown hg10 (by intro g hg; injection hg; omega)
 replace bE := bE.grown hg10 (by intro h; injection h; omega)
 replace X := X.grown hg10 X.size (by intro g hg; injection hg; omega)
 clear hg10 b0
 refine dI 10 rfl (by kernel_rfl) rfl (by kernel_rfl) (listed' := #[true, true, true, true, true, true, true, true, true, true, true]) rfl (fun wq sq => aD rfl ⟨rfl, rfl⟩) ?_
 refine kA rfl ⟨hs, bE⟩ (fun aj fj => ⟨_, fj, ?_⟩)
 refine aV ?_
 refine fV rfl rfl b9 eV rfl rfl ?_
 · skip
   first
   | (rw [wN, hd, Bool.true_and]; exact ⟨rfl, X⟩)
   | (rw [wN, hd, Bool.false_and]; exact ⟨rfl, X⟩)
 replace hs := hs.ext x8
 replace b0 := b0.ext x8
 replace bE := bE.ext x8
 replace X := Q7x X x8
 refine dI 3 rfl (by kernel_rfl) rfl (by kernel_rfl) (listed' := #[true, true, true, true, false, false, false, false, false, false, false]) rfl (fun wq sq => aC rfl ⟨rfl, rfl⟩) ?_
 refine iV 4 rfl (by kernel_rfl) rfl (by kernel_rfl) (listed' := #[true, true, true, true, true, false, false, false, false, false, false]) rfl rfl rfl rfl ?_
 refine iV 5 rfl (by kernel_rfl) rfl (by kernel_rfl) (listed' := #[true, true, true, true, true, true, false, false, false, false, false]) rfl rfl rfl rfl ?_
 refine iV 6 rfl (by kernel_rfl) rfl (by kernel_rfl) (listed' := #[true, true, true, true, true, true, true, false, false, false, false]) rfl rfl rfl rfl ?_
 refine iV 7 rfl (by kernel_rfl) rfl (by kernel_rfl) (listed' := #[true, true, true, true, true, true, true, true, false, false, false]) rfl rfl rfl rfl ?_
 refine dI 8 rfl (by kernel_rfl) rfl (by kernel_rfl) (listed' := #[true, true, true, true, true, true, true, true, true, false, false]) rfl (fun wq sq => aJ rfl rfl ⟨rfl, rfl⟩) ?_
 refine fM 9 rfl rfl (by kernel_rfl) (listed' := #[true, true, true, true, true, true, true, true, true, true, false]) rfl ⟨hs, bE⟩ (aX b0 eV rfl rfl rfl rfl rfl rfl ?_)
 intro w14 b9 hg13 z15
 replace hs := hs.grown hg13 (by intro g hg; injection hg; omega)
 replace bE := bE.grown hg13 (by intro h; injection h; omega)
 replace X := X.grown hg13 X.size (by intro g hg; injection hg; omega)
 clear hg13 b0
 refine dI 10 rfl (by kernel_rfl) rfl (by kernel_rfl) (listed' := #[true, true, true, true, true, true, true, true, true, true, true]) rfl (fun wq sq => aD rfl ⟨rfl, rfl⟩) ?_
 refine kA rfl ⟨hs, bE⟩ (fun aj fj => ⟨_, fj, ?_⟩)
 refine aV ?_
 refine fV rfl rfl b9 eV rfl rfl ?_
 · skip
   first
   | (rw [wN, hd, Bool.true_and]; exact ⟨rfl, X⟩)
   | (rw [wN, hd, Bool.false_and]; exact ⟨rfl, X⟩)
theorem aDs (A : Option Addr) (B c n : Nat) (p0 p1 p2 p3 p4 : Int) (w : World) (hs : Sl B w A ([p0, p1, p2, p3, p4].flatMap eI)) (b0 : 0 ≤ p0 ∧ p0 ≤ 255) (b1 : 0 ≤ p1 ∧ p1 ≤ 255) (b2 : 0 ≤ p2 ∧ p2 ≤ 255) (b3 : 0 ≤ p3 ∧ p3 ≤ 255) (b4 : 0 ≤ p4 ∧ p4 ≤ 255) (en : n = 5) :
   Calls Tryz.prog 164 #[.slice A n c] w (fD fun v w' => v = .tuple #[.agg (yQ p0 p1 p2 p3 p4).cells.toArray, .bool (wN p0 p1 p2 p3 p4)] ∧ Ext w w') := by
 subst en
 exact aDr A B c p0 p1 p2 p3 p4 w hs b0 b1 b2 b3 b4
theorem aCp (A : Option Addr) (B c : Nat) (xs : List Int) (w : World) (hs : Sl B w A (xs.flatMap eI)) (hl : xs.length ≤ 1048576) (hB : rL xs = true) :
   Calls Tryz.prog 78 #[.slice A xs.length c] w (fD fun v w' => ∃ A' c' ys sz ok, v = .tuple #[.slice A' (List.length ys) c', .int .i64 sz, .bool ok] ∧ RdS (kB xs) ys sz ok ∧ Own w' w.heap.size 89 8 A' ys.length c' (ys.flatMap SlotI.cells) ∧ Ext w w') := by
 have Bhs := hs.1
 have X := Q7r w
 refine bI (args := [.slice A xs.length c]) Tryz.func78 Tryz.ntmps78 rfl rfl ?_
 refine aE ?_
 refine aA rfl (aD rfl ?_)
 refine aA rfl (aD rfl ?_)
 refine aA rfl (aD rfl ?_)
 refine aB ?_
 refine aE ?_
 refine aA rfl (aC rfl ?_)
 refine aA rfl (cO aGp aGo rfl rfl ?_)
 refine aA rfl (eE rfl rfl ?_)
 intro gC w2 egC q x1 zgC
 have lgC : w.heap.size ≤ gC := Q7l X.size (Q7e egC.symm)
 have pgChs := Q7l hs.1 (Q7e egC.symm)
 replace hs := hs.ext x1
 replace X := Q7x X x1
 have q : Blk _ gC 166 (uT A c xs 0 false) := q
 refine aA rfl (aN eW dZ rfl rfl rfl rfl rfl ?_)
 intro gO w4 egO oT bbgO x3 zgO
 replace oT := Own.low oT X.size
 replace hs := hs.ext x3
 replace q := q.ext x3
 replace X := Q7x X x3
 refine aA rfl (aD rfl ?_)
 refine aA rfl (aD rfl ?_)
 refine aB ?_
 refine aQ ?_
 refine aE ?_
 refine aA rfl (aC rfl ?_)
 refine aA rfl (aS mB rfl (aO (lX A B c xs gC 0 false _ q hs hl (Nat.zero_le _) (by omega)) ?_))
 rintro _ w6 ⟨rfl, q1, x5⟩
 replace hs := hs.grown x5 (by intro g hg; injection hg; omega)
 replace oT := oT.grownBlk x5 (Own.neT oT q (by decide))
 replace X := X.grown x5 X.size (by intro g hg; injection hg; omega)
 clear x5 q
 refine aA rfl (aD rfl ?_)
 refine aB ?_
 refine aW ?_
 refine dD (G := Nat × Nat × Bool × List SlotI × Nat × Option Addr × Nat × Int) (fun ⟨rem, a, b, ys, n1, A1, c1, tm⟩ => [(5, .pointer (some ⟨gC, 0, none⟩)), (7, .int .i64 tm), (6, .slice A1 n1 c1)]) (fun ⟨rem, a, b, ys, n1, A1, c1, tm⟩ wr => a ≤ xs.length ∧ n1 = ys.length ∧ tm = (rem : Int) ∧ n1 + rem ≤ 255 ∧ (b = false → a = 1 + 7 * n1) ∧ HgS xs rem a b ys ∧ Blk wr gC 166 (uT A c xs a b) ∧ Own wr w.heap.size 89 8 A1 n1 c1 (ys.flatMap SlotI.cells) ∧ Sl B wr A (xs.flatMap eI) ∧ Ext w wr) (fun ⟨rem, a, b, ys, n1, A1, c1, tm⟩ => rem) ((nV xs 0).toNat, gU xs 0, eU xs 0 false, [], 0, some ⟨gO, 0, none⟩, 0, nV xs 0) (.cons rfl (.cons rfl (.cons rfl (.nil _)))) ?_ ?_
 · exact ⟨(fG (Nat.zero_le _)), rfl, (by have := nU hB 0; omega), (by have := nU hB 0; show 0 + _ ≤ _; omega), (fun h => (aED h)), (HgS.start xs), q1, oT, hs, X⟩
 clear hs oT q1
 clear X
 rintro ⟨rem, a, b, ys, n1, A1, c1, tm⟩ wr ⟨ha1, hn, htm, hrm, hai, hg, q, oT, hs, X⟩
 refine aQ ?_
 refine aE ?_
 refine aA rfl (aC rfl ?_)
 refine aA rfl (fX rfl rfl (fun h7 => ?_) (fun h7 => ?_))
 refine aA rfl (aC rfl ?_)
 refine aH rfl rfl rfl (aC rfl ?_)
 refine aH rfl rfl rfl (dF rfl ?_)
 refine aH rfl rfl rfl (aF iT rfl rfl ?_)
 refine aH rfl rfl rfl (aI q uX rfl rfl ?_)
 refine aH rfl rfl rfl (cD rfl ?_)
 refine aA rfl (aJ rfl rfl ?_)
 refine aB ?_
 refine lB rfl (fun h8 => ?_) (fun h8 => ?_)
 refine aU ?_
 refine aP ?_
 refine aQ ?_
 refine aW ?_
 refine aE ?_
 refine aA rfl (aC rfl ?_)
 have hb0 : b = false := by simpa using ‹(!b) = true›
 subst hb0
 have hv0 := nU hB a
 refine aA rfl (aS mB rfl (aO (lX A B c xs gC a false _ q hs hl ha1 (by omega)) ?_))
 rintro _ w10 ⟨rfl, q2, x9⟩
 replace oT := oT.grownBlk x9 (Own.neT oT q (by decide))
 replace hs := hs.grown x9 (by intro g hg; injection hg; omega)
 replace X := X.grown x9 X.size (by intro g hg; injection hg; omega)
 clear x9 q
 refine aA rfl (aD rfl ?_)
 refine aB ?_
 refine aE ?_
 refine aA rfl (aC rfl ?_)
 refine aA rfl (iE rfl rfl (by omega) (xW (by omega)) ?_)
 refine aA rfl (aC rfl ?_)
 refine aA rfl (fN rfl rfl (by omega) (sV (by omega)) ?_)
 refine aA rfl (aC rfl ?_)
 refine aA rfl (aS mB rfl (aO (lX A B c xs gC _ _ _ q2 hs hl (fG ha1) (by omega)) ?_))
 rintro _ w12 ⟨rfl, q3, x11⟩
 replace oT := oT.grownBlk x11 (Own.neT oT q2 (by decide))
 replace hs := hs.grown x11 (by intro g hg; injection hg; omega)
 replace X := X.grown x11 X.size (by intro g hg; injection hg; omega)
 clear x11 q2
 refine aA rfl (cO oF dZ rfl rfl ?_)
 have UT := fun g hg => (Own.lt oT (g := g) hg).2
 refine aA rfl (dO dZ ?_)
 intro gX w14 egX bX x13 zgX
 have lgX : w.heap.size ≤ gX := Q7l X.size (Q7e egX.symm)
 have pgXhs := Q7l hs.1 (Q7e egX.symm)
 have ngXq3 := Nat.lt_of_lt_of_eq q3.lt egX.symm
 replace oT := oT.ext x13
 replace hs := hs.ext x13
 replace q3 := q3.ext x13
 replace X := Q7x X x13
 refine aA rfl (aX bX dZ rfl rfl rfl rfl rfl rfl ?_)
 intro w16 bY hg15 z17
 replace oT := oT.grownBlk hg15 (fun h => by have := UT _ h; omega)
 replace hs := hs.grown hg15 (by intro g hg; injection hg; omega)
 replace q3 := q3.grown hg15 (by intro h; injection h; omega)
 replace X := X.grown hg15 X.size (by intro g hg; injection hg; omega)
 clear hg15 bX
 refine aB ?_
 refine aE ?_
 refine aA rfl (aC rfl ?_)
 refine aA rfl (aS aDL rfl (aO (aDp A B c xs gC _ _ 5 _ q3 hs hl (fG (fG ha1)) (by omega) (by omega)) ?_))
 rintro _ w19 ⟨AP, cP, rfl, oP, q5, x18⟩
 replace oT := oT.grownBlk x18 (Own.neT oT q3 (by decide))
 replace hs := hs.grown x18 (by intro g hg; injection hg; omega)
 replace bY := bY.grown x18 (by intro h; injection h; omega)
 replace X := X.grown x18 X.size (by intro g hg; injection hg; omega)
 clear x18 q3
 have oP : Own _ _ 2 1 AP (rT xs a).1.length cP ((rT xs a).1.flatMap eI) := oP
 have q5 : Blk _ gC 166 (uT A c xs (rT xs a).2.1 (rT xs a).2.2) := q5
 refine aA rfl (aD rfl ?_)
 refine aB ?_
 refine aQ ?_
 refine aE ?_
 refine aA rfl (aC rfl ?_)
 refine aA rfl (dF rfl ?_)
 refine aA rfl (aF iT rfl rfl ?_)
 refine aA rfl (aI q5 uX rfl rfl ?_)
 cases hb3 : (rT xs a).2.2
 obtain ⟨_, ha7, hv1, hv2, hp5, ha8⟩ := (yR ha1).resolve_left (fun h => by rw [hb3] at h; cases h.1)
 refine aB ?_
 refine aL rfl ?_
 refine aU ?_
 refine aP ?_
 refine aE ?_
 refine aA rfl (aC rfl ?_)
 refine aA rfl (aS aI0 rfl (aO (aDs AP _ _ _ (xs.getD (a + 2) 0) (xs.getD (a + 2 + 1) 0) (xs.getD (a + 2 + 2) 0) (xs.getD (a + 2 + 3) 0) (xs.getD (a + 2 + 4) 0) _ (by have h := oP.sl; rw [hp5] at h; exact h) (gB hB _) (gB hB _) (gB hB _) (gB hB _) (gB hB _) (by show (rT xs a).1.length = 5; rw [hp5]; rfl)) ?_))
 rintro _ w21 ⟨rfl, x20⟩
 replace oT := oT.ext x20
 replace hs := hs.ext x20
 replace bY := bY.ext x20
 replace q5 := q5.ext x20
 replace oP := oP.ext x20
 replace X := Q7x X x20
 refine aA rfl (aC rfl ?_)
 refine aA rfl (dG rfl rfl ?_)
 refine aA rfl (dG rfl rfl ?_)
 refine aA rfl (dO eV ?_)
 intro gD w23 egD bD x22 zgD
 have lgD : w.heap.size ≤ gD := Q7l X.size (Q7e egD.symm)
 have pgDhs := Q7l hs.1 (Q7e egD.symm)
 have ngDbY := Nat.lt_of_lt_of_eq bY.lt egD.symm
 have ngDq5 := Nat.lt_of_lt_of_eq q5.lt egD.symm
 replace oT := oT.ext x22
 replace hs := hs.ext x22
 replace bY := bY.ext x22
 replace q5 := q5.ext x22
 replace oP := oP.ext x22
 replace X := Q7x X x22
 refine aA rfl (aX bD eV rfl rfl rfl rfl rfl rfl ?_)
 intro w25 bE hg24 z26
 replace oT := oT.grownBlk hg24 (Own.neT oT bD (by decide))
 replace hs := hs.grown hg24 (by intro g hg; injection hg; omega)
 replace bY := bY.grown hg24 (by intro h; injection h; omega)
 replace q5 := q5.grown hg24 (by intro h; injection h; omega)
 replace oP := oP.grownBlk hg24 (Own.neT oP bD (by decide))
 replace X := X.grown hg24 X.size (by intro g hg; injection hg; omega)
 clear hg24 bD
 refine aA rfl (aD rfl ?_)
 cases hv : (wN (xs.getD (a + 2) 0) (xs.getD (a + 2 + 1) 0) (xs.getD (a + 2 + 2) 0) (xs.getD (a + 2 + 3) 0) (xs.getD (a + 2 + 4) 0))
 refine aB ?_
 refine aQ ?_
 refine aE ?_
 refine aA rfl (aC rfl ?_)
 refine aA rfl (cD rfl ?_)
 refine aB ?_
 refine aR rfl ?_
 refine aE ?_
 refine aA rfl (aD rfl ?_)
 refine aA rfl (aD rfl ?_)
 refine aA rfl (aD rfl ?_)
 refine aB ?_
 refine aV ?_
 refine bU ?_
 refine dN ?_
 refine bU ?_
 refine bU ?_
 refine dN ?_
 refine bU ?_
 refine fH rfl rfl rfl rfl ?_
 · skip
   first
   | (exact absurd (hb3.symm.trans hb1) (by decide))
   | (subst hb1; exact absurd ‹(!false) = false› (by decide))
   | (have HN : kB xs = none := hg.inval (by omega) hv
      exact ⟨none, 0, [], 0, false, rfl, (by rw [HN]; rfl), Own.nil_ _ _ _ _, X⟩)
   | (have HN : kB xs = none := hg.bad (by omega) ha1 hb3
      exact ⟨none, 0, [], 0, false, rfl, (by rw [HN]; rfl), Own.nil_ _ _ _ _, X⟩)
   | (subst hb1
      have HN : kB xs = none := hg.2 rfl
      exact ⟨none, 0, [], 0, false, rfl, (by rw [HN]; rfl), Own.nil_ _ _ _ _, X⟩)
   | (subst hb1
      have hr0 : rem = 0 := by omega
      subst hr0
      have HN : kB xs = none := hg.stop.2 hIT
      exact ⟨none, 0, [], 0, false, rfl, (by rw [HN]; rfl), Own.nil_ _ _ _ _, X⟩)
   | (subst hb1
      have hr0 : rem = 0 := by omega
      subst hr0
      have HS : kB xs = some ys := hg.stop.1 hIT
      exact ⟨_, _, ys, _, true, rfl, (by rw [HS]; exact ⟨rfl, by have := hai rfl; omega, rfl⟩), oT, X⟩)
 refine aB ?_
 refine aQ ?_
 refine aE ?_
 refine aA rfl (aC rfl ?_)
 refine aA rfl (cD rfl ?_)
 refine aB ?_
 refine aL rfl ?_
 refine aU ?_
 refine aP ?_
 refine aE ?_
 refine aA rfl (bO bE eV rfl rfl ?_)
 refine aA rfl (aF fP rfl rfl ?_)
 refine aA rfl (aX bY eV rfl rfl rfl rfl rfl rfl ?_)
 intro w28 bW hg27 z29
 replace oT := oT.grownBlk hg27 (fun h => by have := UT _ h; omega)
 replace hs := hs.grown hg27 (by intro g hg; injection hg; omega)
 replace q5 := q5.grown hg27 (by intro h; injection h; omega)
 replace oP := oP.grownBlk hg27 (Own.neT oP bY (by decide))
 replace bE := bE.grown hg27 (by intro h; injection h; omega)
 replace X := X.grown hg27 X.size (by intro g hg; injection hg; omega)
 clear hg27 bY
 refine aB ?_
 refine aM ?_
 refine aA rfl (aC rfl ?_)
 refine aA rfl (bO bW dZ rfl rfl ?_)
 refine aA rfl (aN eW dZ rfl rfl rfl rfl rfl ?_)
 intro g30 w32 eg30 oV bbg30 x31 zg30
 replace oV := Own.low oV X.size
 replace oT := oT.ext x31
 replace hs := hs.ext x31
 replace q5 := q5.ext x31
 replace oP := oP.ext x31
 replace bE := bE.ext x31
 replace bW := bW.ext x31
 replace X := Q7x X x31
 have eY : ((⟨nV xs a / 16, nV xs a % 16, nV xs (gU xs a), dAt xs (a + 2)⟩) : SlotI) = aAC xs a := by rw [aAC, hv1, hv2]
 refine aA rfl (cF (ts := #[]) oT X.size oV.sl (by first | rfl | simp) (by first | exact List.all_eq_true.1 rfl | simp [Value.oneCell']) eW dZ rfl rfl rfl rfl (by omega) (by omega) ?_)
 intro AoU coU w34 oU hg33
 replace hs := hs.grown hg33 (fun g hg => Q7l Bhs (Own.lt oT hg).1)
 replace q5 := q5.grown hg33 (fun h => Own.neT oT q5 (by decide) h.symm)
 replace oP := oP.grown hg33 (Own.neO oP oT (by decide))
 replace bE := bE.grown hg33 (fun h => Own.neT oT bE (by decide) h.symm)
 replace bW := bW.grown hg33 (fun h => by have := UT _ h.symm; omega)
 replace X := X.grown hg33 X.size (fun g hg => (Own.lt oT hg).1)
 clear hg33
 refine aA rfl (aD rfl ?_)
 refine aB ?_
 refine dJ ?_
 refine aP ?_
 refine aM ?_
 refine aA rfl (aC rfl ?_)
 refine aA rfl (fZ rfl rfl (dR (by omega)) ?_)
 refine aA rfl (aD rfl ?_)
 refine aB ?_
 refine aP ⟨(rem - 1, (rT xs a).2.1, (rT xs a).2.2, ys ++ [⟨nV xs a / 16, nV xs a % 16, nV xs (gU xs a), dAt xs (a + 2)⟩], n1 + 1, AoU, coU, tm - 1), (.cons rfl (.cons rfl (.cons rfl (.nil _)))), ?_, ?_⟩
 · exact ⟨(by omega), (by simp [hn]), (by omega), (by omega), (fun _ => by have := hai rfl; omega), (by rw [hb3, ha8, eY]; exact hg.step (by omega) ha7 hv), q5, oU.to (kG SlotI.cells ys ⟨nV xs a / 16, nV xs a % 16, nV xs (gU xs a), dAt xs (a + 2)⟩).symm, hs, X⟩
 · first | omega | (dsimp only; omega)
 refine aB ?_
 refine aR rfl ?_
 refine dC ?_
 refine dB ?_
 refine aKF rfl ?_
 refine dB ?_
 refine dB ?_
 refine eA ?_
 refine aP ?_
 refine aQ ?_
 refine aE ?_
 refine aA rfl (aC rfl ?_)
 subst hn
 refine aA rfl (dF rfl ?_)
 refine aA rfl (aF iT rfl rfl ?_)
 refine aA rfl (aI q5 uX rfl rfl ?_)
 cases hb1 : (rT xs a).2.2
 refine aA rfl (aC rfl ?_)
 refine aH rfl rfl rfl (aC rfl ?_)
 refine aH rfl rfl rfl (cW aBE rfl (xN _ _ _ ys _ oT.sl (by omega)) (fun w36 hIT x35 => ?_) (fun w36 hIT x35 => ?_))
 replace oT := oT.ext x35
 replace hs := hs.ext x35
 replace bY := bY.ext x35
 replace q5 := q5.ext x35
 replace oP := oP.ext x35
 replace X := Q7x X x35
 refine aH rfl rfl rfl (cD rfl ?_)
 refine aA rfl (aJ rfl rfl ?_)
 refine aB ?_
 refine aL rfl ?_
 refine aU ?_
 refine aP ?_
 refine eO [false, false, false, false, false, false, false, false] mixed (by kernel_rfl) ?_
 refine cE rfl (fun wq sq => aC rfl ⟨rfl, Q7r _⟩) ?_
 refine cE rfl (fun wq sq => aC rfl ⟨rfl, Q7r _⟩) ?_
 refine cE rfl (fun wq sq => dF rfl ⟨rfl, Q7r _⟩) ?_
 refine cE rfl (fun wq sq => aF jU rfl rfl ⟨rfl, Q7r _⟩) ?_
 refine cE rfl (fun wq sq => aI (q5.ext sq) ti3 rfl rfl ⟨rfl, Q7r _⟩) ?_
 refine cE rfl (fun wq sq => aD rfl ⟨rfl, Q7r _⟩) ?_
 refine cE rfl (fun wq sq => aD rfl ⟨rfl, Q7r _⟩) ?_
 refine cE rfl (fun wq sq => aD rfl ⟨rfl, Q7r _⟩) ?_
 refine dW (fun w37 sq => ?_)
 have xq := sq
 replace oT := oT.ext xq
 replace hs := hs.ext xq
 replace bY := bY.ext xq
 replace q5 := q5.ext xq
 replace oP := oP.ext xq
 replace X := Q7x X xq; clear xq sq
 refine aB ?_
 refine aV ?_
 refine fH rfl rfl rfl rfl ?_
 · skip
   first
   | (exact absurd (hb3.symm.trans hb1) (by decide))
   | (subst hb1; exact absurd ‹(!false) = false› (by decide))
   | (have HN : kB xs = none := hg.inval (by omega) hv
      exact ⟨none, 0, [], 0, false, rfl, (by rw [HN]; rfl), Own.nil_ _ _ _ _, X⟩)
   | (have HN : kB xs = none := hg.bad (by omega) ha1 hb3
      exact ⟨none, 0, [], 0, false, rfl, (by rw [HN]; rfl), Own.nil_ _ _ _ _, X⟩)
   | (subst hb1
      have HN : kB xs = none := hg.2 rfl
      exact ⟨none, 0, [], 0, false, rfl, (by rw [HN]; rfl), Own.nil_ _ _ _ _, X⟩)
   | (subst hb1
      have hr0 : rem = 0 := by omega
      subst hr0
      have HN : kB xs = none := hg.stop.2 hIT
      exact ⟨none, 0, [], 0, false, rfl, (by rw [HN]; rfl), Own.nil_ _ _ _ _, X⟩)
   | (subst hb1
      have hr0 : rem = 0 := by omega
      subst hr0
      have HS : kB xs = some ys := hg.stop.1 hIT
      exact ⟨_, _, ys, _, true, rfl, (by rw [HS]; exact ⟨rfl, by have := hai rfl; omega, rfl⟩), oT, X⟩)
 replace oT := oT.ext x35
 replace hs := hs.ext x35
 replace bY := bY.ext x35
 replace q5 := q5.ext x35
 replace oP := oP.ext x35
 replace X := Q7x X x35
 refine aH rfl rfl rfl (cD rfl ?_)
 refine aA rfl (aJ rfl rfl ?_)
 refine aB ?_
 refine aR rfl ?_
 refine aE ?_
 refine aA rfl (aD rfl ?_)
 refine aA rfl (aD rfl ?_)
 refine aA rfl (aD rfl ?_)
 refine aB ?_
 refine aV ?_
 refine bU ?_
 refine fH rfl rfl rfl rfl ?_
 · skip
   first
   | (exact absurd (hb3.symm.trans hb1) (by decide))
   | (subst hb1; exact absurd ‹(!false) = false› (by decide))
   | (have HN : kB xs = none := hg.inval (by omega) hv
      exact ⟨none, 0, [], 0, false, rfl, (by rw [HN]; rfl), Own.nil_ _ _ _ _, X⟩)
   | (have HN : kB xs = none := hg.bad (by omega) ha1 hb3
      exact ⟨none, 0, [], 0, false, rfl, (by rw [HN]; rfl), Own.nil_ _ _ _ _, X⟩)
   | (subst hb1
      have HN : kB xs = none := hg.2 rfl
      exact ⟨none, 0, [], 0, false, rfl, (by rw [HN]; rfl), Own.nil_ _ _ _ _, X⟩)
   | (subst hb1
      have hr0 : rem = 0 := by omega
      subst hr0
      have HN : kB xs = none := hg.stop.2 hIT
      exact ⟨none, 0, [], 0, false, rfl, (by rw [HN]; rfl), Own.nil_ _ _ _ _, X⟩)
   | (subst hb1
      have hr0 : rem = 0 := by omega
      subst hr0
      have HS : kB xs = some ys := hg.stop.1 hIT
      exact ⟨_, _, ys, _, true, rfl, (by rw [HS]; exact ⟨rfl, by have := hai rfl; omega, rfl⟩), oT, X⟩)
 refine aA rfl (aC rfl ?_)
 refine aG rfl rfl rfl rfl ?_
 refine aG rfl rfl rfl rfl ?_
 refine aG rfl rfl rfl rfl ?_
 refine aA rfl (aJ rfl rfl ?_)
 refine aB ?_
 refine aR rfl ?_
 refine aE ?_
 refine aA rfl (aD rfl ?_)
 refine aA rfl (aD rfl ?_)
 refine aA rfl (aD rfl ?_)
 refine aB ?_
 refine aV ?_
 refine bU ?_
 refine fH rfl rfl rfl rfl ?_
 · skip
   first
   | (exact absurd (hb3.symm.trans hb1) (by decide))
   | (subst hb1; exact absurd ‹(!false) = false› (by decide))
   | (have HN : kB xs = none := hg.inval (by omega) hv
      exact ⟨none, 0, [], 0, false, rfl, (by rw [HN]; rfl), Own.nil_ _ _ _ _, X⟩)
   | (have HN : kB xs = none := hg.bad (by omega) ha1 hb3
      exact ⟨none, 0, [], 0, false, rfl, (by rw [HN]; rfl), Own.nil_ _ _ _ _, X⟩)
   | (subst hb1
      have HN : kB xs = none := hg.2 rfl
      exact ⟨none, 0, [], 0, false, rfl, (by rw [HN]; rfl), Own.nil_ _ _ _ _, X⟩)
   | (subst hb1
      have hr0 : rem = 0 := by omega
      subst hr0
      have HN : kB xs = none := hg.stop.2 hIT
      exact ⟨none, 0, [], 0, false, rfl, (by rw [HN]; rfl), Own.nil_ _ _ _ _, X⟩)
   | (subst hb1
      have hr0 : rem = 0 := by omega
      subst hr0
      have HS : kB xs = some ys := hg.stop.1 hIT
      exact ⟨_, _, ys, _, true, rfl, (by rw [HS]; exact ⟨rfl, by have := hai rfl; omega, rfl⟩), oT, X⟩)
 refine dC ?_
 refine dB ?_
 refine dB ?_
 refine eA ?_
 refine aP ?_
 refine aQ ?_
 refine aE ?_
 refine aA rfl (aC rfl ?_)
 subst hn
 refine aA rfl (dF rfl ?_)
 refine aA rfl (aF iT rfl rfl ?_)
 refine aA rfl (aI q uX rfl rfl ?_)
 cases hb1 : b
 refine aA rfl (aC rfl ?_)
 refine aH rfl rfl rfl (aC rfl ?_)
 refine aH rfl rfl rfl (cW aBE rfl (xN _ _ _ ys _ oT.sl (by omega)) (fun w39 hIT x38 => ?_) (fun w39 hIT x38 => ?_))
 replace q := q.ext x38
 replace oT := oT.ext x38
 replace hs := hs.ext x38
 replace X := Q7x X x38
 refine aH rfl rfl rfl (cD rfl ?_)
 refine aA rfl (aJ rfl rfl ?_)
 refine aB ?_
 refine aL rfl ?_
 refine aU ?_
 refine aP ?_
 refine eO [false, false, false, false, false, false, false, false] mixed (by kernel_rfl) ?_
 refine cE rfl (fun wq sq => aC rfl ⟨rfl, Q7r _⟩) ?_
 refine cE rfl (fun wq sq => aC rfl ⟨rfl, Q7r _⟩) ?_
 refine cE rfl (fun wq sq => dF rfl ⟨rfl, Q7r _⟩) ?_
 refine cE rfl (fun wq sq => aF jU rfl rfl ⟨rfl, Q7r _⟩) ?_
 refine cE rfl (fun wq sq => aI (q.ext sq) ti3 rfl rfl ⟨rfl, Q7r _⟩) ?_
 refine cE rfl (fun wq sq => aD rfl ⟨rfl, Q7r _⟩) ?_
 refine cE rfl (fun wq sq => aD rfl ⟨rfl, Q7r _⟩) ?_
 refine cE rfl (fun wq sq => aD rfl ⟨rfl, Q7r _⟩) ?_
 refine dW (fun w40 sq => ?_)
 have xq := sq
 replace q := q.ext xq
 replace oT := oT.ext xq
 replace hs := hs.ext xq
 replace X := Q7x X xq; clear xq sq
 refine aB ?_
 refine aV ?_
 refine fH rfl rfl rfl rfl ?_
 · skip
   first
   | (exact absurd (hb3.symm.trans hb1) (by decide))
   | (subst hb1; exact absurd ‹(!false) = false› (by decide))
   | (have HN : kB xs = none := hg.inval (by omega) hv
      exact ⟨none, 0, [], 0, false, rfl, (by rw [HN]; rfl), Own.nil_ _ _ _ _, X⟩)
   | (have HN : kB xs = none := hg.bad (by omega) ha1 hb3
      exact ⟨none, 0, [], 0, false, rfl, (by rw [HN]; rfl), Own.nil_ _ _ _ _, X⟩)
   | (subst hb1
      have HN : kB xs = none := hg.2 rfl
      exact ⟨none, 0, [], 0, false, rfl, (by rw [HN]; rfl), Own.nil_ _ _ _ _, X⟩)
   | (subst hb1
      have hr0 : rem = 0 := by omega
      subst hr0
      have HN : kB xs = none := hg.stop.2 hIT
      exact ⟨none, 0, [], 0, false, rfl, (by rw [HN]; rfl), Own.nil_ _ _ _ _, X⟩)
   | (subst hb1
      have hr0 : rem = 0 := by omega
      subst hr0
      have HS : kB xs = some ys := hg.stop.1 hIT
      exact ⟨_, _, ys, _, true, rfl, (by rw [HS]; exact ⟨rfl, by have := hai rfl; omega, rfl⟩), oT, X⟩)
 replace q := q.ext x38
 replace oT := oT.ext x38
 replace hs := hs.ext x38
 replace X := Q7x X x38
 refine aH rfl rfl rfl (cD rfl ?_)
 refine aA rfl (aJ rfl rfl ?_)
 refine aB ?_
 refine aR rfl ?_
 refine aE ?_
 refine aA rfl (aD rfl ?_)
 refine aA rfl (aD rfl ?_)
 refine aA rfl (aD rfl ?_)
 refine aB ?_
 refine aV ?_
 refine bU ?_
 refine fH rfl rfl rfl rfl ?_
 · skip
   first
   | (exact absurd (hb3.symm.trans hb1) (by decide))
   | (subst hb1; exact absurd ‹(!false) = false› (by decide))
   | (have HN : kB xs = none := hg.inval (by omega) hv
      exact ⟨none, 0, [], 0, false, rfl, (by rw [HN]; rfl), Own.nil_ _ _ _ _, X⟩)
   | (have HN : kB xs = none := hg.bad (by omega) ha1 hb3
      exact ⟨none, 0, [], 0, false, rfl, (by rw [HN]; rfl), Own.nil_ _ _ _ _, X⟩)
   | (subst hb1
      have HN : kB xs = none := hg.2 rfl
      exact ⟨none, 0, [], 0, false, rfl, (by rw [HN]; rfl), Own.nil_ _ _ _ _, X⟩)
   | (subst hb1
      have hr0 : rem = 0 := by omega
      subst hr0
      have HN : kB xs = none := hg.stop.2 hIT
      exact ⟨none, 0, [], 0, false, rfl, (by rw [HN]; rfl), Own.nil_ _ _ _ _, X⟩)
   | (subst hb1
      have hr0 : rem = 0 := by omega
      subst hr0
      have HS : kB xs = some ys := hg.stop.1 hIT
      exact ⟨_, _, ys, _, true, rfl, (by rw [HS]; exact ⟨rfl, by have := hai rfl; omega, rfl⟩), oT, X⟩)
 refine aA rfl (aC rfl ?_)
 refine aG rfl rfl rfl rfl ?_
 refine aG rfl rfl rfl rfl ?_
 refine aG rfl rfl rfl rfl ?_
 refine aA rfl (aJ rfl rfl ?_)
 refine aB ?_
 refine aR rfl ?_
 refine aE ?_
 refine aA rfl (aD rfl ?_)
 refine aA rfl (aD rfl ?_)
 refine aA rfl (aD rfl ?_)
 refine aB ?_
 refine aV ?_
 refine bU ?_
 refine fH rfl rfl rfl rfl ?_
 · skip
   first
   | (exact absurd (hb3.symm.trans hb1) (by decide))
   | (subst hb1; exact absurd ‹(!false) = false› (by decide))
   | (have HN : kB xs = none := hg.inval (by omega) hv
      exact ⟨none, 0, [], 0, false, rfl, (by rw [HN]; rfl), Own.nil_ _ _ _ _, X⟩)
   | (have HN : kB xs = none := hg.bad (by omega) ha1 hb3
      exact ⟨none, 0, [], 0, false, rfl, (by rw [HN]; rfl), Own.nil_ _ _ _ _, X⟩)
   | (subst hb1
      have HN : kB xs = none := hg.2 rfl
      exact ⟨none, 0, [], 0, false, rfl, (by rw [HN]; rfl), Own.nil_ _ _ _ _, X⟩)
   | (subst hb1
      have hr0 : rem = 0 := by omega
      subst hr0
      have HN : kB xs = none := hg.stop.2 hIT
      exact ⟨none, 0, [], 0, false, rfl, (by rw [HN]; rfl), Own.nil_ _ _ _ _, X⟩)
   | (subst hb1
      have hr0 : rem = 0 := by omega
      subst hr0
      have HS : kB xs = some ys := hg.stop.1 hIT
      exact ⟨_, _, ys, _, true, rfl, (by rw [HS]; exact ⟨rfl, by have := hai rfl; omega, rfl⟩), oT, X⟩)
 refine aA rfl (aC rfl ?_)
 refine aG rfl rfl rfl rfl ?_
 refine aG rfl rfl rfl rfl ?_
 refine aG rfl rfl rfl rfl ?_
 refine aG rfl rfl rfl rfl ?_
 refine aG rfl rfl rfl rfl ?_
 refine aA rfl (aJ rfl rfl ?_)
 refine aB ?_
 refine aL rfl ?_
 refine dC ?_
 refine dB ?_
 refine dB ?_
 refine eA ?_
 refine aP ?_
 refine aQ ?_
 refine aE ?_
 refine aA rfl (aC rfl ?_)
 subst hn
 refine aA rfl (dF rfl ?_)
 refine aA rfl (aF iT rfl rfl ?_)
 refine aA rfl (aI q uX rfl rfl ?_)
 cases hb1 : b
 refine aA rfl (aC rfl ?_)
 refine aH rfl rfl rfl (aC rfl ?_)
 refine aH rfl rfl rfl (cW aBE rfl (xN _ _ _ ys _ oT.sl (by omega)) (fun w42 hIT x41 => ?_) (fun w42 hIT x41 => ?_))
 replace q := q.ext x41
 replace oT := oT.ext x41
 replace hs := hs.ext x41
 replace X := Q7x X x41
 refine aH rfl rfl rfl (cD rfl ?_)
 refine aA rfl (aJ rfl rfl ?_)
 refine aB ?_
 refine aL rfl ?_
 refine aU ?_
 refine aP ?_
 refine eO [false, false, false, false, false, false, false, false] mixed (by kernel_rfl) ?_
 refine cE rfl (fun wq sq => aC rfl ⟨rfl, Q7r _⟩) ?_
 refine cE rfl (fun wq sq => aC rfl ⟨rfl, Q7r _⟩) ?_
 refine cE rfl (fun wq sq => dF rfl ⟨rfl, Q7r _⟩) ?_
 refine cE rfl (fun wq sq => aF jU rfl rfl ⟨rfl, Q7r _⟩) ?_
 refine cE rfl (fun wq sq => aI (q.ext sq) ti3 rfl rfl ⟨rfl, Q7r _⟩) ?_
 refine cE rfl (fun wq sq => aD rfl ⟨rfl, Q7r _⟩) ?_
 refine cE rfl (fun wq sq => aD rfl ⟨rfl, Q7r _⟩) ?_
 refine cE rfl (fun wq sq => aD rfl ⟨rfl, Q7r _⟩) ?_
 refine dW (fun w43 sq => ?_)
 have xq := sq
 replace q := q.ext xq
 replace oT := oT.ext xq
 replace hs := hs.ext xq
 replace X := Q7x X xq; clear xq sq
 refine aB ?_
 refine aV ?_
 refine fH rfl rfl rfl rfl ?_
 · skip
   first
   | (exact absurd (hb3.symm.trans hb1) (by decide))
   | (subst hb1; exact absurd ‹(!false) = false› (by decide))
   | (have HN : kB xs = none := hg.inval (by omega) hv
      exact ⟨none, 0, [], 0, false, rfl, (by rw [HN]; rfl), Own.nil_ _ _ _ _, X⟩)
   | (have HN : kB xs = none := hg.bad (by omega) ha1 hb3
      exact ⟨none, 0, [], 0, false, rfl, (by rw [HN]; rfl), Own.nil_ _ _ _ _, X⟩)
   | (subst hb1
      have HN : kB xs = none := hg.2 rfl
      exact ⟨none, 0, [], 0, false, rfl, (by rw [HN]; rfl), Own.nil_ _ _ _ _, X⟩)
   | (subst hb1
      have hr0 : rem = 0 := by omega
      subst hr0
      have HN : kB xs = none := hg.stop.2 hIT
      exact ⟨none, 0, [], 0, false, rfl, (by rw [HN]; rfl), Own.nil_ _ _ _ _, X⟩)
   | (subst hb1
      have hr0 : rem = 0 := by omega
      subst hr0
      have HS : kB xs = some ys := hg.stop.1 hIT
      exact ⟨_, _, ys, _, true, rfl, (by rw [HS]; exact ⟨rfl, by have := hai rfl; omega, rfl⟩), oT, X⟩)
 replace q := q.ext x41
 replace oT := oT.ext x41
 replace hs := hs.ext x41
 replace X := Q7x X x41
 refine aH rfl rfl rfl (cD rfl ?_)
 refine aA rfl (aJ rfl rfl ?_)
 refine aB ?_
 refine aR rfl ?_
 refine aE ?_
 refine aA rfl (aD rfl ?_)
 refine aA rfl (aD rfl ?_)
 refine aA rfl (aD rfl ?_)
 refine aB ?_
 refine aV ?_
 refine bU ?_
 refine fH rfl rfl rfl rfl ?_
 · skip
   first
   | (exact absurd (hb3.symm.trans hb1) (by decide))
   | (subst hb1; exact absurd ‹(!false) = false› (by decide))
   | (have HN : kB xs = none := hg.inval (by omega) hv
      exact ⟨none, 0, [], 0, false, rfl, (by rw [HN]; rfl), Own.nil_ _ _ _ _, X⟩)
   | (have HN : kB xs = none := hg.bad (by omega) ha1 hb3
      exact ⟨none, 0, [], 0, false, rfl, (by rw [HN]; rfl), Own.nil_ _ _ _ _, X⟩)
   | (subst hb1
      have HN : kB xs = none := hg.2 rfl
      exact ⟨none, 0, [], 0, false, rfl, (by rw [HN]; rfl), Own.nil_ _ _ _ _, X⟩)
   | (subst hb1
      have hr0 : rem = 0 := by omega
      subst hr0
      have HN : kB xs = none := hg.stop.2 hIT
      exact ⟨none, 0, [], 0, false, rfl, (by rw [HN]; rfl), Own.nil_ _ _ _ _, X⟩)
   | (subst hb1
      have hr0 : rem = 0 := by omega
      subst hr0
      have HS : kB xs = some ys := hg.stop.1 hIT
      exact ⟨_, _, ys, _, true, rfl, (by rw [HS]; exact ⟨rfl, by have := hai rfl; omega, rfl⟩), oT, X⟩)
 refine aA rfl (aC rfl ?_)
 refine aG rfl rfl rfl rfl ?_
 refine aG rfl rfl rfl rfl ?_
 refine aG rfl rfl rfl rfl ?_
 refine aA rfl (aJ rfl rfl ?_)
 refine aB ?_
 refine aR rfl ?_
 refine aE ?_
 refine aA rfl (aD rfl ?_)
 refine aA rfl (aD rfl ?_)
 refine aA rfl (aD rfl ?_)
 refine aB ?_
 refine aV ?_
 refine bU ?_
 refine fH rfl rfl rfl rfl ?_
 · skip
   first
   | (exact absurd (hb3.symm.trans hb1) (by decide))
   | (subst hb1; exact absurd ‹(!false) = false› (by decide))
   | (have HN : kB xs = none := hg.inval (by omega) hv
      exact ⟨none, 0, [], 0, false, rfl, (by rw [HN]; rfl), Own.nil_ _ _ _ _, X⟩)
   | (have HN : kB xs = none := hg.bad (by omega) ha1 hb3
      exact ⟨none, 0, [], 0, false, rfl, (by rw [HN]; rfl), Own.nil_ _ _ _ _, X⟩)
   | (subst hb1
      have HN : kB xs = none := hg.2 rfl
      exact ⟨none, 0, [], 0, false, rfl, (by rw [HN]; rfl), Own.nil_ _ _ _ _, X⟩)
   | (subst hb1
      have hr0 : rem = 0 := by omega
      subst hr0
      have HN : kB xs = none := hg.stop.2 hIT
      exact ⟨none, 0, [], 0, false, rfl, (by rw [HN]; rfl), Own.nil_ _ _ _ _, X⟩)
   | (subst hb1
      have hr0 : rem = 0 := by omega
      subst hr0
      have HS : kB xs = some ys := hg.stop.1 hIT
      exact ⟨_, _, ys, _, true, rfl, (by rw [HS]; exact ⟨rfl, by have := hai rfl; omega, rfl⟩), oT, X⟩)
end Go.Proofs.YtdoibplhbdkapaaGreatDoor
