/- Parts. No condition. -/
import Derived.Test.YtdoibplhbdkapaaGreatDoorDNP20
namespace Go.Proofs.YtdoibplhbdkapaaGreatDoor
open Go.RowKit
set_option linter.unusedVariables false
set_option linter.unusedSimpArgs false
set_option maxRecDepth 20000
theorem aIv (A : Option Addr) (B c : Nat) (xs : List SlotI) (w : World) (hs : Sl B w A (xs.flatMap SlotI.cells)) (hl : xs.length ≤ 1048576) (hd : ∀ x ∈ xs, 0 ≤ x.desc.duration ∧ x.desc.duration ≤ 1000) :
   Calls Tryz.prog 205 #[.slice A xs.length c] w (fD fun v w' => v = .int .i64 (aBO xs) ∧ Ext w w') := by
 have Bhs := hs.1
 have X := Q7r w
 refine bI (args := [.slice A xs.length c]) Tryz.func205 Tryz.ntmps205 rfl rfl ?_
 refine aE ?_
 refine aA rfl (aD rfl ?_)
 refine aB ?_
 refine aE ?_
 refine aA rfl (aD rfl ?_)
 refine aB ?_
 refine aQ ?_
 refine aE ?_
 refine aA rfl (aC rfl ?_)
 refine aA rfl (cQ Tryz.underlying26 rfl ?_)
 refine aA rfl (aC rfl ?_)
 refine aB ?_
 refine aW ?_
 refine dD (G := Nat × Int) (fun ⟨k, n⟩ => [(2, .int .i64 0), (6, .slice A xs.length c), (7, .int .i64 (xs.length : Nat)), (3, .int .i64 n), (8, .int .i64 (k : Nat))]) (fun ⟨k, n⟩ wr => k ≤ xs.length ∧ (0 ≤ n ∧ n ≤ 1000 * k) ∧ aBO xs = n + aBO (xs.drop k) ∧ Sl B wr A (xs.flatMap SlotI.cells) ∧ Ext w wr) (fun ⟨k, n⟩ => xs.length - k) (0, 0) (.cons rfl (.cons rfl (.cons rfl (.cons rfl (.cons rfl (.nil _)))))) ?_ ?_
 · exact ⟨by omega, by omega, (by simp), hs, X⟩
 clear hs
 clear X
 rintro ⟨k, n⟩ wr ⟨hk0, hn, hi, hs, X⟩
 refine aE ?_
 refine aA rfl (cH rfl rfl (fun hk => ?_) (fun hk => ?_))
 obtain ⟨x, hx, dx⟩ := dM hk
 have hdx := hd x (List.mem_of_getElem? hx)
 refine aB ?_
 refine aQ ?_
 refine aR rfl ?_
 refine aU ?_
 refine aP ?_
 refine aQ ?_
 refine aW ?_
 refine aE ?_
 refine aA rfl (aT hs SlotI.len rfl eW rfl rfl rfl hx rfl ?_)
 refine aA rfl (dY hs SlotI.len hx dZ rfl ?_)
 refine aA rfl (dO dZ ?_)
 intro g4 w3 eg4 b1 x2 zg4
 have lg4 : w.heap.size ≤ g4 := Q7l X.size (Q7e eg4.symm)
 have pg4hs := Q7l hs.1 (Q7e eg4.symm)
 replace hs := hs.ext x2
 replace X := Q7x X x2
 refine aA rfl (aX b1 dZ rfl rfl rfl rfl rfl rfl ?_)
 intro w6 b8 hg5 z7
 replace hs := hs.grown hg5 (by intro g hg; injection hg; omega)
 replace X := X.grown hg5 X.size (by intro g hg; injection hg; omega)
 clear hg5 b1
 refine aB ?_
 refine aM ?_
 refine aA rfl (aC rfl ?_)
 refine aA rfl (aF fP rfl rfl ?_)
 refine aA rfl (aF eK rfl rfl ?_)
 refine aA rfl (aI b8 cY rfl rfl ?_)
 refine aA rfl (aZ rfl rfl (dR (by omega)) ?_)
 refine aA rfl (aD rfl ?_)
 refine aB ?_
 refine dJ ?_
 refine aP ?_
 refine aM ?_
 refine aA rfl (aZ rfl rfl (dR (by omega)) ?_)
 refine aA rfl (aC rfl ?_)
 refine aB ?_
 refine aP ⟨(k + 1, n + x.desc.duration), (.cons rfl (.cons rfl (.cons rfl (.cons rfl (.cons rfl (.nil _)))))), ?_, ?_⟩
 · exact ⟨by omega, by omega, (by rw [hi, dx, aBO]; omega), hs, X⟩
 · first | omega | (dsimp only; omega)
 refine aB ?_
 refine aQ ?_
 refine aL rfl ?_
 refine dC ?_
 refine dB ?_
 refine dB ?_
 refine eA ?_
 refine aP ?_
 refine aE ?_
 refine aA rfl (aC rfl ?_)
 refine aA rfl (aD rfl ?_)
 refine aB ?_
 refine aV ?_
 refine aK rfl rfl ?_
 exact ⟨by rw [hi, bJ hk]; simp [aBO], X⟩
theorem aCv (m : MedlI) (B : Nat) (mode : Int) (w : World) (hm : Med B w m) (hz : m.small) :
   Calls Tryz.prog 120 #[.agg m.cells.toArray, .int .i64 mode] w (fD fun v w' => ∃ A' c', v = .slice A' (kJ mode m.ss).length c' ∧ Own w' w.heap.size 89 8 A' (kJ mode m.ss).length c' ((kJ mode m.ss).flatMap SlotI.cells) ∧ Ext w w') := by
 have hls := hz.ls
 have hlm := hz.lm
 have hln := hz.ln
 have Bhm := hm.1
 have X := Q7r w
 refine bI (args := [.agg m.cells.toArray, .int .i64 mode]) Tryz.func120 Tryz.ntmps120 rfl rfl ?_
 refine aE ?_
 refine aA rfl (eE rfl rfl ?_)
 intro g4 w3 eg4 b1 x2 zg4
 have lg4 : w.heap.size ≤ g4 := Q7l X.size (Q7e eg4.symm)
 have pg4hm := Q7l hm.1 (Q7e eg4.symm)
 replace hm := hm.ext x2
 replace X := Q7x X x2
 refine aA rfl (aD rfl ?_)
 refine aB ?_
 refine aE ?_
 refine aA rfl (aN eW dZ rfl rfl rfl rfl rfl ?_)
 intro gO w6 egO oO bbgO x5 zgO
 replace oO := Own.low oO X.size
 replace hm := hm.ext x5
 replace b1 := b1.ext x5
 replace X := Q7x X x5
 refine aA rfl (aD rfl ?_)
 refine aB ?_
 refine aQ ?_
 refine aE ?_
 refine aA rfl (aF dU rfl rfl ?_)
 refine aA rfl (aI b1 iF rfl rfl ?_)
 refine aA rfl (cQ Tryz.underlying26 rfl ?_)
 refine aA rfl (aC rfl ?_)
 refine aB ?_
 refine aW ?_
 refine dD (G := Nat × Nat × List SlotI × Option Addr × Nat) (fun ⟨k, n1, ys, A1, c1⟩ => [(1, .int .i64 mode), (4, .slice none 0 0), (10, .slice m.As m.ss.length m.cs), (11, .int .i64 (m.ss.length : Nat)), (5, .slice A1 n1 c1), (12, .int .i64 (k : Nat))]) (fun ⟨k, n1, ys, A1, c1⟩ wr => k ≤ m.ss.length ∧ n1 = ys.length ∧ n1 ≤ k ∧ kJ mode m.ss = ys ++ kJ mode (m.ss.drop k) ∧ Own wr w.heap.size 89 8 A1 n1 c1 (ys.flatMap SlotI.cells) ∧ Med B wr m ∧ Blk wr g4 28 m.cells ∧ Ext w wr) (fun ⟨k, n1, ys, A1, c1⟩ => m.ss.length - k) (0, 0, [], some ⟨gO, 0, none⟩, 0) (.cons rfl (.cons rfl (.cons rfl (.cons rfl (.cons rfl (.cons rfl (.nil _))))))) ?_ ?_
 · exact ⟨by omega, rfl, by omega, rfl, oO, hm, b1, X⟩
 clear hm b1 oO
 clear X
 rintro ⟨k, n1, ys, A1, c1⟩ wr ⟨hk0, hn, hn1, hi, oO, hm, b1, X⟩
 refine aE ?_
 refine aA rfl (cH rfl rfl (fun hk => ?_) (fun hk => ?_))
 obtain ⟨x, hx, dx⟩ := dM hk
 refine aB ?_
 refine aQ ?_
 refine aR rfl ?_
 refine aU ?_
 refine aP ?_
 refine aQ ?_
 refine aW ?_
 refine aE ?_
 refine aA rfl (aT hm.ss SlotI.len rfl eW rfl rfl rfl hx rfl ?_)
 refine aA rfl (dY hm.ss SlotI.len hx dZ rfl ?_)
 have UO := fun g hg => (Own.lt oO (g := g) hg).2
 refine aA rfl (dO dZ ?_)
 intro gX w9 egX bX x7 zgX
 have lgX : w.heap.size ≤ gX := Q7l X.size (Q7e egX.symm)
 have pgXhm := Q7l hm.1 (Q7e egX.symm)
 have ngXb1 := Nat.lt_of_lt_of_eq b1.lt egX.symm
 replace oO := oO.ext x7
 replace hm := hm.ext x7
 replace b1 := b1.ext x7
 replace X := Q7x X x7
 refine aA rfl (aX bX dZ rfl rfl rfl rfl rfl rfl ?_)
 intro w11 bY hg10 z12
 replace oO := oO.grownBlk hg10 (fun h => by have := UO _ h; omega)
 replace hm := hm.grown hg10 (by intro g hg; injection hg; omega)
 replace b1 := b1.grown hg10 (by intro h; injection h; omega)
 replace X := X.grown hg10 X.size (by intro g hg; injection hg; omega)
 clear hg10 bX
 refine aB ?_
 refine aE ?_
 refine aA rfl (aF gF rfl rfl ?_)
 refine aA rfl (aI bY cY rfl rfl ?_)
 refine aA rfl (aC rfl ?_)
 refine aA rfl (dK rfl rfl (fun he => ?_) (fun he => ?_))
 refine aB ?_
 refine aR rfl ?_
 refine aM ?_
 refine aA rfl (aC rfl ?_)
 refine aA rfl (bO bY dZ rfl rfl ?_)
 refine aA rfl (aN eW dZ rfl rfl rfl rfl rfl ?_)
 intro g14 w16 eg14 o13 bbg14 x15 zg14
 replace o13 := Own.low o13 X.size
 replace oO := oO.ext x15
 replace hm := hm.ext x15
 replace b1 := b1.ext x15
 replace bY := bY.ext x15
 replace X := Q7x X x15
 refine aA rfl (cF (ts := #[]) oO X.size o13.sl (by first | rfl | simp) (by first | exact List.all_eq_true.1 rfl | simp [Value.oneCell']) eW dZ rfl rfl rfl rfl (by omega) (by omega) ?_)
 intro AoN coN w18 oN hg17
 replace hm := hm.grown hg17 (fun g hg => Q7l Bhm (Own.lt oO hg).1)
 replace b1 := b1.grown hg17 (fun h => Own.neT oO b1 (by decide) h.symm)
 replace bY := bY.grown hg17 (fun h => by have := UO _ h.symm; omega)
 replace X := X.grown hg17 X.size (fun g hg => (Own.lt oO hg).1)
 clear hg17
 refine aA rfl (aD rfl ?_)
 refine aB ?_
 refine dJ ?_
 refine aP ?_
 refine aM ?_
 refine aA rfl (aZ rfl rfl (dR (by omega)) ?_)
 refine aA rfl (aC rfl ?_)
 refine aB ?_
 refine aP ⟨(k + 1, n1 + 1, ys ++ [x], AoN, coN), (.cons rfl (.cons rfl (.cons rfl (.cons rfl (.cons rfl (.cons rfl (.nil _))))))), ?_, ?_⟩
 · exact ⟨by omega, by simp [hn], by omega, (by rw [hi, dx, tY he]; simp), oN.to (kG SlotI.cells ys _).symm, hm, b1, X⟩
 · first | omega | (dsimp only; omega)
 refine aB ?_
 refine aL rfl ?_
 refine aU ?_
 refine dJ ?_
 refine aP ?_
 refine aM ?_
 refine aA rfl (aZ rfl rfl (dR (by omega)) ?_)
 refine aA rfl (aC rfl ?_)
 refine aB ?_
 refine aP ⟨(k + 1, n1, ys, A1, c1), (.cons rfl (.cons rfl (.cons rfl (.cons rfl (.cons rfl (.cons rfl (.nil _))))))), ?_, ?_⟩
 · exact ⟨by omega, hn, by omega, (by rw [hi, dx, tZ he]), oO, hm, b1, X⟩
 · first | omega | (dsimp only; omega)
 refine aB ?_
 refine aQ ?_
 refine aL rfl ?_
 refine dC ?_
 refine dB ?_
 refine dB ?_
 refine eA ?_
 refine aP ?_
 refine aE ?_
 refine aA rfl (aC rfl ?_)
 refine aA rfl (aD rfl ?_)
 refine aB ?_
 refine aV ?_
 refine aK rfl rfl ?_
 · skip
   have e : kJ mode m.ss = ys := by rw [hi, bJ hk]; simp [kJ]
   rw [e, ← hn]; exact ⟨A1, c1, rfl, oO, X⟩
theorem aDA (m : MedlI) (B : Nat) (mode : Int) (w : World) (hm : Med B w m) (hz : m.small) (hok : ∀ x ∈ m.ss, fT x = true) :
   Calls Tryz.prog 230 #[.agg m.cells.toArray, .int .i64 mode] w (fD fun v w' => v = .int .i64 (cyc m.ss mode) ∧ Ext w w') := by
 have hls := hz.ls
 have hlm := hz.lm
 have hln := hz.ln
 have Bhm := hm.1
 have X := Q7r w
 refine bI (args := [.agg m.cells.toArray, .int .i64 mode]) Tryz.func230 Tryz.ntmps230 rfl rfl ?_
 refine aE ?_
 refine aA rfl (eE rfl rfl ?_)
 intro g4 w3 eg4 b1 x2 zg4
 have lg4 : w.heap.size ≤ g4 := Q7l X.size (Q7e eg4.symm)
 have pg4hm := Q7l hm.1 (Q7e eg4.symm)
 replace hm := hm.ext x2
 replace X := Q7x X x2
 refine aA rfl (aD rfl ?_)
 refine aB ?_
 refine aE ?_
 refine aA rfl (aD rfl ?_)
 refine aB ?_
 refine aQ ?_
 refine aE ?_
 refine aA rfl (aD rfl ?_)
 refine aB ?_
 refine aW ?_
 refine dD (G := Nat × Int) (fun ⟨k, n⟩ => [(1, .int .i64 mode), (2, .pointer (some ⟨g4, 0, none⟩)), (4, .int .i64 0), (5, .int .i64 n), (6, .int .i64 (k : Nat))]) (fun ⟨k, n⟩ wr => k ≤ m.ss.length ∧ (0 ≤ n ∧ n ≤ 1000 * k) ∧ cyc m.ss mode = n + cyc (m.ss.drop k) mode ∧ Med B wr m ∧ Blk wr g4 28 m.cells ∧ Ext w wr) (fun ⟨k, n⟩ => m.ss.length - k) (0, 0) (.cons rfl (.cons rfl (.cons rfl (.cons rfl (.cons rfl (.nil _)))))) ?_ ?_
 · exact ⟨by omega, by omega, (by simp), hm, b1, X⟩
 clear hm b1
 clear X
 rintro ⟨k, n⟩ wr ⟨hk0, hn, hi, hm, b1, X⟩
 refine aQ ?_
 refine aE ?_
 refine aA rfl (aC rfl ?_)
 refine aA rfl (aF dU rfl rfl ?_)
 refine aA rfl (aI b1 iF rfl rfl ?_)
 refine aA rfl (cQ Tryz.underlying26 rfl ?_)
 refine aA rfl (cH rfl rfl (fun hk => ?_) (fun hk => ?_))
 obtain ⟨x, hx, dx⟩ := dM hk
 have hxs := aAZ (hok x (List.mem_of_getElem? hx))
 refine aB ?_
 refine aR rfl ?_
 refine aU ?_
 refine aP ?_
 refine aQ ?_
 refine aW ?_
 refine aE ?_
 refine aA rfl (aF dU rfl rfl ?_)
 refine aA rfl (aI b1 iF rfl rfl ?_)
 refine aA rfl (aC rfl ?_)
 refine aA rfl (aT hm.ss SlotI.len rfl eW rfl rfl rfl hx rfl ?_)
 refine aA rfl (bK gF rfl ?_)
 refine aA rfl (dQ hm.ss SlotI.len hx cY rfl rfl rfl ?_)
 refine aA rfl (aC rfl ?_)
 refine aA rfl (dK rfl rfl (fun he => ?_) (fun he => ?_))
 refine aB ?_
 refine aR rfl ?_
 refine aM ?_
 refine aA rfl (aC rfl ?_)
 refine aA rfl (aF dU rfl rfl ?_)
 refine aA rfl (aI b1 iF rfl rfl ?_)
 refine aA rfl (aC rfl ?_)
 refine aA rfl (aT hm.ss SlotI.len rfl eW rfl rfl rfl hx rfl ?_)
 refine aA rfl (bK fP rfl ?_)
 refine aA rfl (bK eK rfl ?_)
 refine aA rfl (nZ hm.ss SlotI.len hx cY rfl rfl rfl ?_)
 refine aA rfl (aZ rfl rfl (dR (by omega)) ?_)
 refine aA rfl (aD rfl ?_)
 refine aB ?_
 refine dJ ?_
 refine aP ?_
 refine aM ?_
 refine aA rfl (aC rfl ?_)
 refine aA rfl (aZ rfl rfl (dR (by omega)) ?_)
 refine aA rfl (aD rfl ?_)
 refine aB ?_
 refine aP ⟨(k + 1, n + x.desc.duration), (.cons rfl (.cons rfl (.cons rfl (.cons rfl (.cons rfl (.nil _)))))), ?_, ?_⟩
 · exact ⟨by omega, by omega, (by rw [hi, dx, cyc, tY he, aBO]; unfold cyc; omega), hm, b1, X⟩
 · first | omega | (dsimp only; omega)
 refine aB ?_
 refine aL rfl ?_
 refine aU ?_
 refine dJ ?_
 refine aP ?_
 refine aM ?_
 refine aA rfl (aC rfl ?_)
 refine aA rfl (aZ rfl rfl (dR (by omega)) ?_)
 refine aA rfl (aD rfl ?_)
 refine aB ?_
 refine aP ⟨(k + 1, n), (.cons rfl (.cons rfl (.cons rfl (.cons rfl (.cons rfl (.nil _)))))), ?_, ?_⟩
 · exact ⟨by omega, by omega, (by rw [hi, dx, cyc, tZ he]; rfl), hm, b1, X⟩
 · first | omega | (dsimp only; omega)
 refine aB ?_
 refine aL rfl ?_
 refine dC ?_
 refine dB ?_
 refine dB ?_
 refine eA ?_
 refine aP ?_
 refine aE ?_
 refine aA rfl (aC rfl ?_)
 refine aA rfl (aD rfl ?_)
 refine aB ?_
 refine aV ?_
 refine aK rfl rfl ?_
 exact ⟨by rw [hi, bJ hk]; simp [cyc, kJ, aBO], X⟩
theorem aE2 (m : MedlI) (B : Nat) (w : World) (hm : Med B w m) (hz : m.small) (hok : ∀ x ∈ m.ss, fT x = true) :
   Calls Tryz.prog 188 #[.agg m.cells.toArray] w (fD fun v w' => v = .bool (rE m.d) ∧ Ext w w') := by
 have hls := hz.ls
 have hlm := hz.lm
 have hln := hz.ln
 have Bhm := hm.1
 have X := Q7r w
 refine bI (args := [.agg m.cells.toArray]) Tryz.func188 Tryz.ntmps188 rfl rfl ?_
 refine aE ?_
 refine aA rfl (eE rfl rfl ?_)
 intro g4 w3 eg4 b1 x2 zg4
 have lg4 : w.heap.size ≤ g4 := Q7l X.size (Q7e eg4.symm)
 have pg4hm := Q7l hm.1 (Q7e eg4.symm)
 replace hm := hm.ext x2
 replace X := Q7x X x2
 refine aA rfl (aD rfl ?_)
 refine aB ?_
 refine aQ ?_
 refine aE ?_
 refine aA rfl (aF fO rfl rfl ?_)
 refine aA rfl (aI b1 mK rfl rfl ?_)
 refine aA rfl (cQ Tryz.underlying25 rfl ?_)
 refine aA rfl (aC rfl ?_)
 refine aB ?_
 refine aW ?_
 refine dD (G := Nat) (fun k => [(1, .pointer (some ⟨g4, 0, none⟩)), (6, .int .i64 (m.ms.length : Nat)), (7, .int .i64 (k : Nat))]) (fun k wr => k ≤ m.ms.length ∧ rE m.d = ((List.range m.ms.length).drop k).all (fun (i : Nat) => decide (cyc m.ss i ≤ 32000)) ∧ Med B wr m ∧ Blk wr g4 28 m.cells ∧ Ext w wr) (fun k => m.ms.length - k) 0 (.cons rfl (.cons rfl (.cons rfl (.nil _)))) ?_ ?_
 · exact ⟨by omega, aCR, hm, b1, X⟩
 clear hm b1
 clear X
 rintro k wr ⟨hk0, hi, hm, b1, X⟩
 refine aE ?_
 refine aA rfl (cH rfl rfl (fun hk => ?_) (fun hk => ?_))
 have hk1 : k < m.ms.length := by omega
 refine aB ?_
 refine aQ ?_
 refine aR rfl ?_
 refine aU ?_
 refine aP ?_
 refine aQ ?_
 refine aW ?_
 refine aE ?_
 refine aA rfl (aC rfl ?_)
 refine aA rfl (aD rfl ?_)
 refine aB ?_
 refine aE ?_
 refine aA rfl (bO b1 dP rfl rfl ?_)
 refine aA rfl (aC rfl ?_)
 refine aA rfl (aS aIO rfl (aO (aCv m _ _ _ hm hz) ?_))
 rintro _ w6 ⟨A7, c8, rfl, oL, x5⟩
 replace oL := Own.low oL X.size
 replace hm := hm.ext x5
 replace b1 := b1.ext x5
 replace X := Q7x X x5
 refine aA rfl (aS aJc rfl (aO (aIv _ _ _ _ _ (oL).sl (Q7l (aDU _ _) hls) (fun y hy => by have h1 := aDT _ _ y hy; have h2 := aAZ (hok y h1.1); omega)) ?_))
 rintro _ w10 ⟨rfl, x9⟩
 replace hm := hm.ext x9
 replace b1 := b1.ext x9
 replace oL := oL.ext x9
 replace X := Q7x X x9
 refine aA rfl (fX rfl rfl (fun hc => ?_) (fun hc => ?_))
 refine aB ?_
 refine aR rfl ?_
 refine aE ?_
 refine aA rfl (aD rfl ?_)
 refine aB ?_
 refine aV ?_
 refine dN ?_
 refine bU ?_
 refine bU ?_
 refine dN ?_
 refine bU ?_
 refine aK rfl rfl ?_
 · skip
   refine ⟨congrArg Value.bool ?_, X⟩
   first
   | (rw [hi, pG hk1, decide_eq_false (show ¬ cyc m.ss k ≤ 32000 by unfold cyc; omega)]; rfl)
   | (rw [hi, wF hk]; done)
 refine aB ?_
 refine aL rfl ?_
 refine aU ?_
 refine dJ ?_
 refine aP ?_
 refine aM ?_
 refine aA rfl (aZ rfl rfl (dR (by omega)) ?_)
 refine aA rfl (aC rfl ?_)
 refine aB ?_
 refine aP ⟨k + 1, (.cons rfl (.cons rfl (.cons rfl (.nil _)))), ?_, ?_⟩
 · exact ⟨by omega, (by rw [hi, pG hk1, decide_eq_true (show cyc m.ss k ≤ 32000 by unfold cyc; omega)]; rfl), hm, b1, X⟩
 · first | omega | (dsimp only; omega)
 refine aB ?_
 refine aQ ?_
 refine aL rfl ?_
 refine dC ?_
 refine dB ?_
 refine dB ?_
 refine eA ?_
 refine aP ?_
 refine aE ?_
 refine aA rfl (aD rfl ?_)
 refine aB ?_
 refine aV ?_
 refine aK rfl rfl ?_
 · skip
   refine ⟨congrArg Value.bool ?_, X⟩
   first
   | (rw [hi, pG hk1, decide_eq_false (show ¬ cyc m.ss k ≤ 32000 by unfold cyc; omega)]; rfl)
   | (rw [hi, wF hk]; done)
theorem aCw (m : MedlI) (B : Nat) (w : World) (hm : Med B w m) (hz : m.small) (hok : ∀ x ∈ m.ss, fT x = true) (hN : dV m.ns = true) (hT : jH (m.ms.map (·.m)) = true) :
   Calls Tryz.prog 231 #[.agg m.cells.toArray] w (fD fun v w' => v = .bool (sL (iG m.ns) m.ss 0 (m.ms.map (·.m))) ∧ Ext w w') := by
 have hls := hz.ls
 have hlm := hz.lm
 have hln := hz.ln
 have Bhm := hm.1
 have X := Q7r w
 refine bI (args := [.agg m.cells.toArray]) Tryz.func231 Tryz.ntmps231 rfl rfl ?_
 refine aE ?_
 refine aA rfl (eE rfl rfl ?_)
 intro g4 w3 eg4 b1 x2 zg4
 have lg4 : w.heap.size ≤ g4 := Q7l X.size (Q7e eg4.symm)
 have pg4hm := Q7l hm.1 (Q7e eg4.symm)
 replace hm := hm.ext x2
 replace X := Q7x X x2
 refine aA rfl (aD rfl ?_)
 refine aB ?_
 refine aE ?_
 refine aA rfl (aF kP rfl rfl ?_)
 refine aA rfl (aI b1 vV rfl rfl ?_)
 refine aA rfl (aS aBF rfl (aO (sM _ _ _ m.ns _ hm.sn hln (vF hN)) ?_))
 rintro _ w6 ⟨rfl, x5⟩
 replace hm := hm.ext x5
 replace b1 := b1.ext x5
 replace X := Q7x X x5
 refine aA rfl (aD rfl ?_)
 refine aB ?_
 refine aQ ?_
 refine aE ?_
 refine aA rfl (aD rfl ?_)
 refine aB ?_
 refine aW ?_
 refine dD (G := Nat) (fun k => [(1, .pointer (some ⟨g4, 0, none⟩)), (3, .int .i64 (iG m.ns : Nat)), (4, .int .i64 (k : Nat))]) (fun k wr => k ≤ m.ms.length ∧ sL (iG m.ns) m.ss 0 (m.ms.map (·.m)) = sL (iG m.ns) m.ss (k : Int) ((m.ms.drop k).map (·.m)) ∧ Med B wr m ∧ Blk wr g4 28 m.cells ∧ Ext w wr) (fun k => m.ms.length - k) 0 (.cons rfl (.cons rfl (.cons rfl (.nil _)))) ?_ ?_
 · exact ⟨by omega, rfl, hm, b1, X⟩
 clear hm b1
 clear X
 rintro k wr ⟨hk0, hi, hm, b1, X⟩
 refine aQ ?_
 refine aE ?_
 refine aA rfl (aC rfl ?_)
 refine aA rfl (aF fO rfl rfl ?_)
 refine aA rfl (aI b1 mK rfl rfl ?_)
 refine aA rfl (cQ Tryz.underlying25 rfl ?_)
 refine aA rfl (cH rfl rfl (fun hk => ?_) (fun hk => ?_))
 obtain ⟨x, hx, dx⟩ := dM hk
 have hxi := pL hT x.m (List.mem_map.2 ⟨x, List.mem_of_getElem? hx, rfl⟩)
 refine aB ?_
 refine aR rfl ?_
 refine aU ?_
 refine aP ?_
 refine aQ ?_
 refine aW ?_
 refine aE ?_
 refine aA rfl (aD rfl ?_)
 refine aB ?_
 refine aW ?_
 refine dD (G := Nat) (fun r => [(1, .pointer (some ⟨g4, 0, none⟩)), (3, .int .i64 (iG m.ns : Nat)), (4, .int .i64 (k : Nat)), (11, .int .i64 (k : Nat)), (13, .slice m.Am m.ms.length m.cm), (14, .int .i64 (m.ms.length : Nat)), (5, .int .i64 (r : Nat))]) (fun r wr => (r : Int) ≤ x.m.rounds ∧ sL (iG m.ns) m.ss 0 (m.ms.map (·.m)) = (aAm (fun (r : Nat) => decide (tU m.ss k r = iG m.ns)) x.m.rounds.toNat r && sL (iG m.ns) m.ss ((k + 1 : Nat) : Int) ((m.ms.drop (k + 1)).map (·.m))) ∧ Med B wr m ∧ Blk wr g4 28 m.cells ∧ Ext w wr) (fun r => x.m.rounds.toNat - r) 0 (.cons rfl (.cons rfl (.cons rfl (.cons rfl (.cons rfl (.cons rfl (.cons rfl (.nil _)))))))) ?_ ?_
 · exact ⟨by omega, (by rw [hi, dx]; rfl), hm, b1, X⟩
 clear hm b1
 clear X
 rintro r wr ⟨hr0, hi2, hm, b1, X⟩
 refine aQ ?_
 refine aE ?_
 refine aA rfl (aC rfl ?_)
 refine aA rfl (aF fO rfl rfl ?_)
 refine aA rfl (aI b1 mK rfl rfl ?_)
 refine aA rfl (aC rfl ?_)
 refine aA rfl (aT hm.sm ModeI.len rfl iA rfl rfl rfl hx rfl ?_)
 refine aA rfl (bK iS rfl ?_)
 refine aA rfl (dQ hm.sm ModeI.len hx cY rfl rfl rfl ?_)
 refine aA rfl (cH rfl rfl (fun hr => ?_) (fun hr => ?_))
 refine aB ?_
 refine aR rfl ?_
 refine aU ?_
 refine aP ?_
 refine aQ ?_
 refine aW ?_
 refine aE ?_
 refine aA rfl (aD rfl ?_)
 refine aB ?_
 refine aQ ?_
 refine aE ?_
 refine aA rfl (aD rfl ?_)
 refine aB ?_
 refine aW ?_
 refine dD (G := Nat × Nat) (fun ⟨j, a⟩ => [(1, .pointer (some ⟨g4, 0, none⟩)), (3, .int .i64 (iG m.ns : Nat)), (4, .int .i64 (k : Nat)), (5, .int .i64 (r : Nat)), (11, .int .i64 (k : Nat)), (13, .slice m.Am m.ms.length m.cm), (14, .int .i64 (m.ms.length : Nat)), (18, .int .i64 (r : Nat)), (20, .slice m.Am m.ms.length m.cm), (21, .int .i64 (k : Nat)), (6, .int .i64 (a : Nat)), (7, .int .i64 (j : Nat))]) (fun ⟨j, a⟩ wr => j ≤ m.ss.length ∧ a < 4294967296 ∧ tU m.ss k r = pD (fun x : SlotI => decide (x.mode = (k : Int)) && decide (x.round = (r : Int))) (fun x => x.desc.node) a (m.ss.drop j) ∧ Med B wr m ∧ Blk wr g4 28 m.cells ∧ Ext w wr) (fun ⟨j, a⟩ => m.ss.length - j) (0, 0) (.cons rfl (.cons rfl (.cons rfl (.cons rfl (.cons rfl (.cons rfl (.cons rfl (.cons rfl (.cons rfl (.cons rfl (.cons rfl (.cons rfl (.nil _))))))))))))) ?_ ?_
 · exact ⟨by omega, (by omega), rfl, hm, b1, X⟩
 clear hm b1
 clear X
 rintro ⟨j, a⟩ wr ⟨hj0, ha, hi3, hm, b1, X⟩
 refine aQ ?_
 refine aE ?_
 refine aA rfl (aC rfl ?_)
 refine aA rfl (aF dU rfl rfl ?_)
 refine aA rfl (aI b1 iF rfl rfl ?_)
 refine aA rfl (cQ Tryz.underlying26 rfl ?_)
 refine aA rfl (cH rfl rfl (fun hj => ?_) (fun hj => ?_))
 obtain ⟨y, hy, dy⟩ := dM hj
 have hys := aAZ (hok y (List.mem_of_getElem? hy))
 refine aB ?_
 refine aR rfl ?_
 refine aU ?_
 refine aP ?_
 refine aQ ?_
 refine aW ?_
 refine aE ?_
 refine aA rfl (aF dU rfl rfl ?_)
 refine aA rfl (aI b1 iF rfl rfl ?_)
 refine aA rfl (aC rfl ?_)
 refine aA rfl (aT hm.ss SlotI.len rfl eW rfl rfl rfl hy rfl ?_)
 refine aA rfl (bK gF rfl ?_)
 refine aA rfl (dQ hm.ss SlotI.len hy cY rfl rfl rfl ?_)
 refine aA rfl (aC rfl ?_)
 refine aA rfl (dK rfl rfl (fun h7 => ?_) (fun h7 => ?_))
 refine aA rfl (aC rfl ?_)
 refine aH rfl rfl rfl (aF dU rfl rfl ?_)
 refine aH rfl rfl rfl (aI b1 iF rfl rfl ?_)
 refine aH rfl rfl rfl (aC rfl ?_)
 refine aH rfl rfl rfl (aT hm.ss SlotI.len rfl eW rfl rfl rfl hy rfl ?_)
 refine aH rfl rfl rfl (bK jY rfl ?_)
 refine aH rfl rfl rfl (dQ hm.ss SlotI.len hy cY rfl rfl rfl ?_)
 refine aH rfl rfl rfl (aC rfl ?_)
 refine aH rfl rfl rfl (dK rfl rfl (fun h8 => ?_) (fun h8 => ?_))
 refine aA rfl (aJ rfl rfl ?_)
 refine aB ?_
 refine aR rfl ?_
 refine aM ?_
 refine aA rfl (aC rfl ?_)
 refine aA rfl (aF dU rfl rfl ?_)
 refine aA rfl (aI b1 iF rfl rfl ?_)
 refine aA rfl (aC rfl ?_)
 refine aA rfl (aT hm.ss SlotI.len rfl eW rfl rfl rfl hy rfl ?_)
 refine aA rfl (bK fP rfl ?_)
 refine aA rfl (bK jN rfl ?_)
 refine aA rfl (nZ hm.ss SlotI.len hy cY rfl rfl rfl ?_)
 refine aA rfl (aS aGJ rfl (aO (aCX _ _ _ ha hys.2.1) ?_))
 rintro _ w10 ⟨rfl, x9⟩
 replace hm := hm.ext x9
 replace b1 := b1.ext x9
 replace X := Q7x X x9
 refine aA rfl (aD rfl ?_)
 refine aB ?_
 refine dJ ?_
 refine aP ?_
 refine aM ?_
 refine aA rfl (aC rfl ?_)
 refine aA rfl (aZ rfl rfl (dR (by omega)) ?_)
 refine aA rfl (aD rfl ?_)
 refine aB ?_
 refine aP ⟨(j + 1, rO a y.desc.node), (.cons rfl (.cons rfl (.cons rfl (.cons rfl (.cons rfl (.cons rfl (.cons rfl (.cons rfl (.cons rfl (.cons rfl (.cons rfl (.cons rfl (.nil _))))))))))))), ?_, ?_⟩
 · exact ⟨by omega, (sI ha hys.2.1), (by rw [hi3, dy, pD]; simp [*]), hm, b1, X⟩
 · first | omega | (dsimp only; omega)
 refine aA rfl (aJ rfl rfl ?_)
 refine aB ?_
 refine aL rfl ?_
 refine aU ?_
 refine dJ ?_
 refine aP ?_
 refine aM ?_
 refine aA rfl (aC rfl ?_)
 refine aA rfl (aZ rfl rfl (dR (by omega)) ?_)
 refine aA rfl (aD rfl ?_)
 refine aB ?_
 refine aP ⟨(j + 1, a), (.cons rfl (.cons rfl (.cons rfl (.cons rfl (.cons rfl (.cons rfl (.cons rfl (.cons rfl (.cons rfl (.cons rfl (.cons rfl (.cons rfl (.nil _))))))))))))), ?_, ?_⟩
 · exact ⟨by omega, ha, (by rw [hi3, dy, pD]; simp [*]), hm, b1, X⟩
 · first | omega | (dsimp only; omega)
 refine aA rfl (aC rfl ?_)
 refine aG rfl rfl rfl rfl ?_
 refine aG rfl rfl rfl rfl ?_
 refine aG rfl rfl rfl rfl ?_
 refine aG rfl rfl rfl rfl ?_
 refine aG rfl rfl rfl rfl ?_
 refine aG rfl rfl rfl rfl ?_
 refine aG rfl rfl rfl rfl ?_
 refine aG rfl rfl rfl rfl ?_
 refine aA rfl (aJ rfl rfl ?_)
 refine aB ?_
 refine aL rfl ?_
 refine aU ?_
 refine dJ ?_
 refine aP ?_
 refine aM ?_
 refine aA rfl (aC rfl ?_)
 refine aA rfl (aZ rfl rfl (dR (by omega)) ?_)
 refine aA rfl (aD rfl ?_)
 refine aB ?_
 refine aP ⟨(j + 1, a), (.cons rfl (.cons rfl (.cons rfl (.cons rfl (.cons rfl (.cons rfl (.cons rfl (.cons rfl (.cons rfl (.cons rfl (.cons rfl (.cons rfl (.nil _))))))))))))), ?_, ?_⟩
 · exact ⟨by omega, ha, (by rw [hi3, dy, pD]; simp [*]), hm, b1, X⟩
 · first | omega | (dsimp only; omega)
 have hsv : tU m.ss k r = a := by rw [hi3, bJ hj]; rfl
 have hac := yE hN
 refine aB ?_
 refine aL rfl ?_
 refine dC ?_
 refine dB ?_
 refine dB ?_
 refine eA ?_
 refine aP ?_
 refine aE ?_
 refine aA rfl (aC rfl ?_)
 refine aA rfl (aC rfl ?_)
 refine aA rfl (hP rfl rfl (fun hv => ?_) (fun hv => ?_))
 refine aB ?_
 refine aR rfl ?_
 refine aE ?_
 refine aA rfl (aD rfl ?_)
 refine aB ?_
 refine aV ?_
 refine dN ?_
 refine bU ?_
 refine bU ?_
 refine dN ?_
 refine dN ?_
 refine bU ?_
 refine bU ?_
 refine dN ?_
 refine bU ?_
 refine aK rfl rfl ?_
 · skip
   refine ⟨congrArg Value.bool ?_, X⟩
   first
   | (rw [hi, bJ hk]; rfl)
   | (rw [hi2, mO (by omega), decide_eq_false (show ¬ tU m.ss k r = iG m.ns by rw [hsv]; omega)]; rfl)
 refine aB ?_
 refine aL rfl ?_
 refine aU ?_
 refine dJ ?_
 refine aP ?_
 refine aM ?_
 refine aA rfl (aC rfl ?_)
 refine aA rfl (aZ rfl rfl (dR (by omega)) ?_)
 refine aA rfl (aD rfl ?_)
 refine aB ?_
 refine aP ⟨r + 1, (.cons rfl (.cons rfl (.cons rfl (.cons rfl (.cons rfl (.cons rfl (.cons rfl (.nil _)))))))), ?_, ?_⟩
 · exact ⟨by omega, (by rw [hi2, mO (by omega), decide_eq_true (show tU m.ss k r = iG m.ns by rw [hsv]; omega)]; rfl), hm, b1, X⟩
 · first | omega | (dsimp only; omega)
 refine aB ?_
 refine aL rfl ?_
 refine dC ?_
 refine dB ?_
 refine dB ?_
 refine eA ?_
 refine dJ ?_
 refine aP ?_
 refine aM ?_
 refine aA rfl (aC rfl ?_)
 refine aA rfl (aZ rfl rfl (dR (by omega)) ?_)
 refine aA rfl (aD rfl ?_)
 refine aB ?_
 refine aP ⟨k + 1, (.cons rfl (.cons rfl (.cons rfl (.nil _)))), ?_, ?_⟩
 · exact ⟨by omega, (by rw [hi2, aA0 (by omega)]; rfl), hm, b1, X⟩
 · first | omega | (dsimp only; omega)
 refine aB ?_
 refine aL rfl ?_
 refine dC ?_
 refine dB ?_
 refine dB ?_
 refine eA ?_
 refine aP ?_
 refine aE ?_
 refine aA rfl (aD rfl ?_)
 refine aB ?_
 refine aV ?_
 refine aK rfl rfl ?_
 · skip
   refine ⟨congrArg Value.bool ?_, X⟩
   first
   | (rw [hi, bJ hk]; rfl)
   | (rw [hi2, mO (by omega), decide_eq_false (show ¬ tU m.ss k r = iG m.ns by rw [hsv]; omega)]; rfl)
theorem aE3 (m : MedlI) (B : Nat) (w : World) (hm : Med B w m) (hz : m.small) (hok : ∀ x ∈ m.ss, fT x = true) (hN : dV m.ns = true) (hT : jH (m.ms.map (·.m)) = true) :
   Calls Tryz.prog 189 #[.agg m.cells.toArray] w (fD fun v w' => v = .bool (wX (iG m.ns) m.ss 0 (m.ms.map (·.m))) ∧ Ext w w') := by
 have hls := hz.ls
 have hlm := hz.lm
 have hln := hz.ln
 have Bhm := hm.1
 have X := Q7r w
 refine bI (args := [.agg m.cells.toArray]) Tryz.func189 Tryz.ntmps189 rfl rfl ?_
 refine aE ?_
 refine aA rfl (eE rfl rfl ?_)
 intro g4 w3 eg4 b1 x2 zg4
 have lg4 : w.heap.size ≤ g4 := Q7l X.size (Q7e eg4.symm)
 have pg4hm := Q7l hm.1 (Q7e eg4.symm)
 replace hm := hm.ext x2
 replace X := Q7x X x2
 refine aA rfl (aD rfl ?_)
 refine aB ?_
 refine aQ ?_
 refine aE ?_
 refine aA rfl (aF fO rfl rfl ?_)
 refine aA rfl (aI b1 mK rfl rfl ?_)
 refine aA rfl (cQ Tryz.underlying25 rfl ?_)
 refine aA rfl (aC rfl ?_)
 refine aB ?_
 refine aW ?_
 refine dD (G := Nat) (fun k => [(1, .pointer (some ⟨g4, 0, none⟩)), (10, .slice m.Am m.ms.length m.cm), (11, .int .i64 (m.ms.length : Nat)), (12, .int .i64 (k : Nat))]) (fun k wr => k ≤ m.ms.length ∧ wX (iG m.ns) m.ss 0 (m.ms.map (·.m)) = wX (iG m.ns) m.ss (k : Int) ((m.ms.drop k).map (·.m)) ∧ Med B wr m ∧ Blk wr g4 28 m.cells ∧ Ext w wr) (fun k => m.ms.length - k) 0 (.cons rfl (.cons rfl (.cons rfl (.cons rfl (.nil _))))) ?_ ?_
 · exact ⟨by omega, rfl, hm, b1, X⟩
 clear hm b1
 clear X
 rintro k wr ⟨hk0, hi, hm, b1, X⟩
 refine aE ?_
 refine aA rfl (cH rfl rfl (fun hk => ?_) (fun hk => ?_))
 obtain ⟨x, hx, dx⟩ := dM hk
 have hxi := pL hT x.m (List.mem_map.2 ⟨x, List.mem_of_getElem? hx, rfl⟩)
 refine aB ?_
 refine aQ ?_
 refine aR rfl ?_
 refine aU ?_
 refine aP ?_
 refine aQ ?_
 refine aW ?_
 refine aE ?_
 refine aA rfl (aC rfl ?_)
 refine aA rfl (aT hm.sm ModeI.len rfl iA rfl rfl rfl hx rfl ?_)
 refine aA rfl (dY hm.sm ModeI.len hx hH rfl ?_)
 refine aA rfl (dO hH ?_)
 intro gX w6 egX bX x5 zgX
 have lgX : w.heap.size ≤ gX := Q7l X.size (Q7e egX.symm)
 have pgXhm := Q7l hm.1 (Q7e egX.symm)
 have ngXb1 := Nat.lt_of_lt_of_eq b1.lt egX.symm
 replace hm := hm.ext x5
 replace b1 := b1.ext x5
 replace X := Q7x X x5
 refine aA rfl (aD rfl ?_)
 refine aA rfl (aX bX hH rfl rfl rfl rfl rfl rfl ?_)
 intro w9 bY hg7 z10
 replace hm := hm.grown hg7 (by intro g hg; injection hg; omega)
 replace b1 := b1.grown hg7 (by intro h; injection h; omega)
 replace X := X.grown hg7 X.size (by intro g hg; injection hg; omega)
 clear hg7 bX
 refine aB ?_
 refine aE ?_
 refine aA rfl (aF iS rfl rfl ?_)
 refine aA rfl (aI bY cY rfl rfl ?_)
 refine aA rfl (aC rfl ?_)
 refine aB ?_
 refine aW ?_
 refine dD (G := Nat) (fun r => [(1, .pointer (some ⟨g4, 0, none⟩)), (3, .int .i64 (k : Nat)), (4, .pointer (some ⟨gX, 0, none⟩)), (10, .slice m.Am m.ms.length m.cm), (11, .int .i64 (m.ms.length : Nat)), (12, .int .i64 (k : Nat)), (14, .int .i64 (k : Nat)), (18, .int .i64 x.m.rounds), (19, .int .i64 (r : Nat))]) (fun r wr => (r : Int) ≤ x.m.rounds ∧ wX (iG m.ns) m.ss 0 (m.ms.map (·.m)) = (aAm (fun (r : Nat) => decide (sH (iG m.ns) (tU m.ss k r) = 0)) x.m.rounds.toNat r && wX (iG m.ns) m.ss ((k + 1 : Nat) : Int) ((m.ms.drop (k + 1)).map (·.m))) ∧ Med B wr m ∧ Blk wr g4 28 m.cells ∧ Blk wr gX 92 x.cells ∧ Ext w wr) (fun r => x.m.rounds.toNat - r) 0 (.cons rfl (.cons rfl (.cons rfl (.cons rfl (.cons rfl (.cons rfl (.cons rfl (.cons rfl (.cons rfl (.nil _)))))))))) ?_ ?_
 · exact ⟨by omega, (by rw [hi, dx]; rfl), hm, b1, bY, X⟩
 clear hm b1 bY
 clear X
 rintro r wr ⟨hr0, hi2, hm, b1, bY, X⟩
 refine aE ?_
 refine aA rfl (cH rfl rfl (fun hr => ?_) (fun hr => ?_))
 refine aB ?_
 refine aQ ?_
 refine aR rfl ?_
 refine aU ?_
 refine aP ?_
 refine aQ ?_
 refine aW ?_
 refine aE ?_
 refine aA rfl (aC rfl ?_)
 refine aA rfl (aD rfl ?_)
 refine aB ?_
 refine aE ?_
 refine aA rfl (aD rfl ?_)
 refine aB ?_
 refine aQ ?_
 refine aE ?_
 refine aA rfl (aF dU rfl rfl ?_)
 refine aA rfl (aI b1 iF rfl rfl ?_)
 refine aA rfl (cQ Tryz.underlying26 rfl ?_)
 refine aA rfl (aC rfl ?_)
 refine aB ?_
 refine aW ?_
 refine dD (G := Nat × Nat) (fun ⟨j, a⟩ => [(1, .pointer (some ⟨g4, 0, none⟩)), (3, .int .i64 (k : Nat)), (4, .pointer (some ⟨gX, 0, none⟩)), (5, .int .i64 (r : Nat)), (10, .slice m.Am m.ms.length m.cm), (11, .int .i64 (m.ms.length : Nat)), (12, .int .i64 (k : Nat)), (14, .int .i64 (k : Nat)), (18, .int .i64 x.m.rounds), (19, .int .i64 (r : Nat)), (21, .int .i64 (r : Nat)), (23, .slice m.As m.ss.length m.cs), (24, .int .i64 (m.ss.length : Nat)), (6, .int .i64 (a : Nat)), (25, .int .i64 (j : Nat))]) (fun ⟨j, a⟩ wr => j ≤ m.ss.length ∧ a < 4294967296 ∧ tU m.ss k r = pD (fun x : SlotI => decide (x.mode = (k : Int)) && decide (x.round = (r : Int))) (fun x => x.desc.node) a (m.ss.drop j) ∧ Med B wr m ∧ Blk wr g4 28 m.cells ∧ Blk wr gX 92 x.cells ∧ Ext w wr) (fun ⟨j, a⟩ => m.ss.length - j) (0, 0) (.cons rfl (.cons rfl (.cons rfl (.cons rfl (.cons rfl (.cons rfl (.cons rfl (.cons rfl (.cons rfl (.cons rfl (.cons rfl (.cons rfl (.cons rfl (.cons rfl (.cons rfl (.nil _)))))))))))))))) ?_ ?_
 · exact ⟨by omega, (by omega), rfl, hm, b1, bY, X⟩
 clear hm b1 bY
 clear X
 rintro ⟨j, a⟩ wr ⟨hj0, ha, hi3, hm, b1, bY, X⟩
 refine aE ?_
 refine aA rfl (cH rfl rfl (fun hj => ?_) (fun hj => ?_))
 obtain ⟨y, hy, dy⟩ := dM hj
 have hys := aAZ (hok y (List.mem_of_getElem? hy))
 refine aB ?_
 refine aQ ?_
 refine aR rfl ?_
 refine aU ?_
 refine aP ?_
 refine aQ ?_
 refine aW ?_
 refine aE ?_
 refine aA rfl (aT hm.ss SlotI.len rfl eW rfl rfl rfl hy rfl ?_)
 refine aA rfl (dY hm.ss SlotI.len hy dZ rfl ?_)
 refine aA rfl (dO dZ ?_)
 intro g14 w13 eg14 b11 x12 zg14
 have lg14 : w.heap.size ≤ g14 := Q7l X.size (Q7e eg14.symm)
 have pg14hm := Q7l hm.1 (Q7e eg14.symm)
 have ng14b1 := Nat.lt_of_lt_of_eq b1.lt eg14.symm
 have ng14bY := Nat.lt_of_lt_of_eq bY.lt eg14.symm
 replace hm := hm.ext x12
 replace b1 := b1.ext x12
 replace bY := bY.ext x12
 replace X := Q7x X x12
 refine aA rfl (aX b11 dZ rfl rfl rfl rfl rfl rfl ?_)
 intro w16 b18 hg15 z17
 replace hm := hm.grown hg15 (by intro g hg; injection hg; omega)
 replace b1 := b1.grown hg15 (by intro h; injection h; omega)
 replace bY := bY.grown hg15 (by intro h; injection h; omega)
 replace X := X.grown hg15 X.size (by intro g hg; injection hg; omega)
 clear hg15 b11
 refine aB ?_
 refine aE ?_
 refine aA rfl (aF gF rfl rfl ?_)
 refine aA rfl (aI b18 cY rfl rfl ?_)
 refine aA rfl (aC rfl ?_)
 refine aA rfl (dK rfl rfl (fun h19 => ?_) (fun h19 => ?_))
 refine aA rfl (aC rfl ?_)
 refine aH rfl rfl rfl (aF jY rfl rfl ?_)
 refine aH rfl rfl rfl (aI b18 cY rfl rfl ?_)
 refine aH rfl rfl rfl (aC rfl ?_)
 refine aH rfl rfl rfl (dK rfl rfl (fun h20 => ?_) (fun h20 => ?_))
 refine aA rfl (aJ rfl rfl ?_)
 refine aB ?_
 refine aR rfl ?_
 refine aM ?_
 refine aA rfl (aC rfl ?_)
 refine aA rfl (aF fP rfl rfl ?_)
 refine aA rfl (aF jN rfl rfl ?_)
 refine aA rfl (aI b18 cY rfl rfl ?_)
 refine aA rfl (rX rfl rfl hys.2.1.1 rfl ?_)
 refine aA rfl (aHX rfl rfl (aAY ha hys.2.1) ?_)
 refine aA rfl (aD rfl ?_)
 refine aB ?_
 refine dJ ?_
 refine aP ?_
 refine aM ?_
 refine aA rfl (aZ rfl rfl (dR (by omega)) ?_)
 refine aA rfl (aC rfl ?_)
 refine aB ?_
 refine aP ⟨(j + 1, rO a y.desc.node), (.cons rfl (.cons rfl (.cons rfl (.cons rfl (.cons rfl (.cons rfl (.cons rfl (.cons rfl (.cons rfl (.cons rfl (.cons rfl (.cons rfl (.cons rfl (.cons rfl (.cons rfl (.nil _)))))))))))))))), ?_, ?_⟩
 · exact ⟨by omega, (sI ha hys.2.1), (by rw [hi3, dy, pD]; simp [*]), hm, b1, bY, X⟩
 · first | omega | (dsimp only; omega)
 refine aA rfl (aJ rfl rfl ?_)
 refine aB ?_
 refine aL rfl ?_
 refine aU ?_
 refine dJ ?_
 refine aP ?_
 refine aM ?_
 refine aA rfl (aZ rfl rfl (dR (by omega)) ?_)
 refine aA rfl (aC rfl ?_)
 refine aB ?_
 refine aP ⟨(j + 1, a), (.cons rfl (.cons rfl (.cons rfl (.cons rfl (.cons rfl (.cons rfl (.cons rfl (.cons rfl (.cons rfl (.cons rfl (.cons rfl (.cons rfl (.cons rfl (.cons rfl (.cons rfl (.nil _)))))))))))))))), ?_, ?_⟩
 · exact ⟨by omega, ha, (by rw [hi3, dy, pD]; simp [*]), hm, b1, bY, X⟩
 · first | omega | (dsimp only; omega)
 refine aA rfl (aC rfl ?_)
 refine aG rfl rfl rfl rfl ?_
 refine aG rfl rfl rfl rfl ?_
 refine aG rfl rfl rfl rfl ?_
 refine aG rfl rfl rfl rfl ?_
 refine aA rfl (aJ rfl rfl ?_)
 refine aB ?_
 refine aL rfl ?_
 refine aU ?_
 refine dJ ?_
 refine aP ?_
 refine aM ?_
 refine aA rfl (aZ rfl rfl (dR (by omega)) ?_)
 refine aA rfl (aC rfl ?_)
 refine aB ?_
 refine aP ⟨(j + 1, a), (.cons rfl (.cons rfl (.cons rfl (.cons rfl (.cons rfl (.cons rfl (.cons rfl (.cons rfl (.cons rfl (.cons rfl (.cons rfl (.cons rfl (.cons rfl (.cons rfl (.cons rfl (.nil _)))))))))))))))), ?_, ?_⟩
 · exact ⟨by omega, ha, (by rw [hi3, dy, pD]; simp [*]), hm, b1, bY, X⟩
 · first | omega | (dsimp only; omega)
 have hsv : tU m.ss k r = a := by rw [hi3, bJ hj]; rfl
 have hac := yE hN
 refine aB ?_
 refine aQ ?_
 refine aL rfl ?_
 refine dC ?_
 refine dB ?_
 refine dB ?_
 refine eA ?_
 refine aP ?_
 refine aE ?_
 refine aA rfl (aF kP rfl rfl ?_)
 refine aA rfl (aI b1 vV rfl rfl ?_)
 refine aA rfl (aS aGv rfl (aO (sN _ _ _ m.ns _ hm.sn hln (vF hN)) ?_))
 rintro _ w22 ⟨rfl, x21⟩
 replace hm := hm.ext x21
 replace b1 := b1.ext x21
 replace bY := bY.ext x21
 replace X := Q7x X x21
 refine aA rfl (aC rfl ?_)
 refine aA rfl (aEW rfl rfl (aCJ (by omega) (by omega)) ?_)
 refine aA rfl (hP rfl rfl (fun hv => ?_) (fun hv => ?_))
 refine aB ?_
 refine aR rfl ?_
 refine aE ?_
 refine aA rfl (aD rfl ?_)
 refine aB ?_
 refine aV ?_
 refine dN ?_
 refine bU ?_
 refine bU ?_
 refine dN ?_
 refine dN ?_
 refine bU ?_
 refine bU ?_
 refine dN ?_
 refine bU ?_
 refine aK rfl rfl ?_
 · skip
   refine ⟨congrArg Value.bool ?_, X⟩
   first
   | (rw [hi, bJ hk]; rfl)
   | (rw [hi2, mO (by omega), decide_eq_false (show ¬ sH (iG m.ns) (tU m.ss k r) = 0 by rw [hsv]; omega)]; rfl)
 refine aB ?_
 refine aL rfl ?_
 refine aU ?_
 refine dJ ?_
 refine aP ?_
 refine aM ?_
 refine aA rfl (aZ rfl rfl (dR (by omega)) ?_)
 refine aA rfl (aC rfl ?_)
 refine aB ?_
 refine aP ⟨r + 1, (.cons rfl (.cons rfl (.cons rfl (.cons rfl (.cons rfl (.cons rfl (.cons rfl (.cons rfl (.cons rfl (.nil _)))))))))), ?_, ?_⟩
 · exact ⟨by omega, (by rw [hi2, mO (by omega), decide_eq_true (show sH (iG m.ns) (tU m.ss k r) = 0 by rw [hsv]; omega)]; rfl), hm, b1, bY, X⟩
 · first | omega | (dsimp only; omega)
 refine aB ?_
 refine aQ ?_
 refine aL rfl ?_
 refine dC ?_
 refine dB ?_
 refine dB ?_
 refine eA ?_
 refine dJ ?_
 refine aP ?_
 refine aM ?_
 refine aA rfl (aZ rfl rfl (dR (by omega)) ?_)
 refine aA rfl (aC rfl ?_)
 refine aB ?_
 refine aP ⟨k + 1, (.cons rfl (.cons rfl (.cons rfl (.cons rfl (.nil _))))), ?_, ?_⟩
 · exact ⟨by omega, (by rw [hi2, aA0 (by omega)]; rfl), hm, b1, X⟩
 · first | omega | (dsimp only; omega)
 refine aB ?_
 refine aQ ?_
 refine aL rfl ?_
 refine dC ?_
 refine dB ?_
 refine dB ?_
 refine eA ?_
 refine aP ?_
 refine aE ?_
 refine aA rfl (aD rfl ?_)
 refine aB ?_
 refine aV ?_
 refine aK rfl rfl ?_
 · skip
   refine ⟨congrArg Value.bool ?_, X⟩
   first
   | (rw [hi, bJ hk]; rfl)
   | (rw [hi2, mO (by omega), decide_eq_false (show ¬ sH (iG m.ns) (tU m.ss k r) = 0 by rw [hsv]; omega)]; rfl)
theorem aBt (m : MedlI) (B : Nat) (w : World) (hm : Med B w m) (hz : m.small) (hok : ∀ x ∈ m.ss, fT x = true) (hN : dV m.ns = true) :
   Calls Tryz.prog 228 #[.agg m.cells.toArray] w (fD fun v w' => v = .bool (mU m.d) ∧ Ext w w') := by
 have hls := hz.ls
 have hlm := hz.lm
 have hln := hz.ln
 have hac := yE hN
 have Bhm := hm.1
 have X := Q7r w
 refine bI (args := [.agg m.cells.toArray]) Tryz.func228 Tryz.ntmps228 rfl rfl ?_
 refine aE ?_
 refine aA rfl (eE rfl rfl ?_)
 intro g4 w3 eg4 b1 x2 zg4
 have lg4 : w.heap.size ≤ g4 := Q7l X.size (Q7e eg4.symm)
 have pg4hm := Q7l hm.1 (Q7e eg4.symm)
 replace hm := hm.ext x2
 replace X := Q7x X x2
 refine aA rfl (aD rfl ?_)
 refine aB ?_
 refine aE ?_
 refine aA rfl (aF kP rfl rfl ?_)
 refine aA rfl (aI b1 vV rfl rfl ?_)
 refine aA rfl (aS aBF rfl (aO (sM _ _ _ m.ns _ hm.sn hln (vF hN)) ?_))
 rintro _ w6 ⟨rfl, x5⟩
 replace hm := hm.ext x5
 replace b1 := b1.ext x5
 replace X := Q7x X x5
 refine aA rfl (aD rfl ?_)
 refine aB ?_
 refine aQ ?_
 refine aE ?_
 refine aA rfl (aD rfl ?_)
 refine aB ?_
 refine aW ?_
 refine dD (G := Nat) (fun k => [(1, .pointer (some ⟨g4, 0, none⟩)), (3, .int .i64 (iG m.ns : Nat)), (4, .int .i64 (k : Nat))]) (fun k wr => k ≤ m.ss.length ∧ mU m.d = ((m.ss.drop k).all fun x => nC (iG m.ns) x.desc.node) ∧ Med B wr m ∧ Blk wr g4 28 m.cells ∧ Ext w wr) (fun k => m.ss.length - k) 0 (.cons rfl (.cons rfl (.cons rfl (.nil _)))) ?_ ?_
 · exact ⟨by omega, rfl, hm, b1, X⟩
 clear hm b1
 clear X
 rintro k wr ⟨hk0, hi, hm, b1, X⟩
 refine aQ ?_
 refine aE ?_
 refine aA rfl (aC rfl ?_)
 refine aA rfl (aF dU rfl rfl ?_)
 refine aA rfl (aI b1 iF rfl rfl ?_)
 refine aA rfl (cQ Tryz.underlying26 rfl ?_)
 refine aA rfl (cH rfl rfl (fun hk => ?_) (fun hk => ?_))
 obtain ⟨x, hx, dx⟩ := dM hk
 have hxs := aAZ (hok x (List.mem_of_getElem? hx))
 refine aB ?_
 refine aR rfl ?_
 refine aU ?_
 refine aP ?_
 refine aQ ?_
 refine aW ?_
 refine aE ?_
 refine aA rfl (aC rfl ?_)
 refine aA rfl (aF dU rfl rfl ?_)
 refine aA rfl (aI b1 iF rfl rfl ?_)
 refine aA rfl (aC rfl ?_)
 refine aA rfl (aT hm.ss SlotI.len rfl eW rfl rfl rfl hx rfl ?_)
 refine aA rfl (bK fP rfl ?_)
 refine aA rfl (bK jN rfl ?_)
 refine aA rfl (nZ hm.ss SlotI.len hx cY rfl rfl rfl ?_)
 refine aA rfl (cW aDO rfl (aAo _ _ _ hac hxs.2.1) (fun w9 hh x7 => ?_) (fun w9 hh x7 => ?_))
 replace hm := hm.ext x7
 replace b1 := b1.ext x7
 replace X := Q7x X x7
 refine aA rfl (cD rfl ?_)
 refine aB ?_
 refine aL rfl ?_
 refine aU ?_
 refine dJ ?_
 refine aP ?_
 refine aM ?_
 refine aA rfl (aC rfl ?_)
 refine aA rfl (aZ rfl rfl (dR (by omega)) ?_)
 refine aA rfl (aD rfl ?_)
 refine aB ?_
 refine aP ⟨k + 1, (.cons rfl (.cons rfl (.cons rfl (.nil _)))), ?_, ?_⟩
 · exact ⟨by omega, (by rw [hi, dx, List.all_cons, hh]; rfl), hm, b1, X⟩
 · first | omega | (dsimp only; omega)
 replace hm := hm.ext x7
 replace b1 := b1.ext x7
 replace X := Q7x X x7
 refine aA rfl (cD rfl ?_)
 refine aB ?_
 refine aR rfl ?_
 refine aE ?_
 refine aA rfl (aD rfl ?_)
 refine aB ?_
 refine aV ?_
 refine dN ?_
 refine bU ?_
 refine bU ?_
 refine dN ?_
 refine bU ?_
 refine aK rfl rfl ?_
 · skip
   refine ⟨congrArg Value.bool ?_, X⟩
   first | (rw [hi, bJ hk]; rfl) | (rw [hi, dx, List.all_cons, hh]; rfl)
 refine aB ?_
 refine aL rfl ?_
 refine dC ?_
 refine dB ?_
 refine dB ?_
 refine eA ?_
 refine aP ?_
 refine aE ?_
 refine aA rfl (aD rfl ?_)
 refine aB ?_
 refine aV ?_
 refine aK rfl rfl ?_
 · skip
   refine ⟨congrArg Value.bool ?_, X⟩
   first | (rw [hi, bJ hk]; rfl) | (rw [hi, dx, List.all_cons, hh]; rfl)
end Go.Proofs.YtdoibplhbdkapaaGreatDoor
