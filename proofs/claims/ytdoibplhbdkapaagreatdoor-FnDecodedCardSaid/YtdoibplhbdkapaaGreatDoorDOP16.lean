/- Parts. No condition. -/
import Derived.Test.YtdoibplhbdkapaaGreatDoorDOP15
namespace Go.Proofs.YtdoibplhbdkapaaGreatDoor
open Go.RowKit
set_option linter.unusedVariables false
set_option linter.unusedSimpArgs false
set_option maxRecDepth 20000
theorem aJm (A : Option Addr) (B c : Nat) (xs : List SlotI) (w : World) (hs : Sl B w A (xs.flatMap SlotI.cells)) (hl : xs.length ≤ 1048576) (hd : ∀ x ∈ xs, 0 ≤ x.desc.duration ∧ x.desc.duration ≤ 1000) :
   Calls Tryz.prog 205 #[.slice A xs.length c] w (fF fun v w' => v = .int .i64 (aCF xs) ∧ Ext w w') := by
 have Bhs := hs.1
 have X := Q7r w
 refine bJ (args := [.slice A xs.length c]) Tryz.func205 Tryz.ntmps205 rfl rfl (aF (aA rfl (aE rfl (aB (aF (aA rfl (aE rfl (aB (aR (aF (aA rfl (aC rfl (aA rfl (bO Tryz.underlying26 rfl (aA rfl (aC rfl (aB (aX (dG (G := Nat × Int) (fun ⟨k, n⟩ => [(2, .int .i64 0), (6, .slice A xs.length c), (7, .int .i64 (xs.length : Nat)), (3, .int .i64 n), (8, .int .i64 (k : Nat))]) (fun ⟨k, n⟩ wr => k ≤ xs.length ∧ (0 ≤ n ∧ n ≤ 1000 * k) ∧ aCF xs = n + aCF (xs.drop k) ∧ Sl B wr A (xs.flatMap SlotI.cells) ∧ Ext w wr) (fun ⟨k, n⟩ => xs.length - k) (0, 0) (.cons rfl (.cons rfl (.cons rfl (.cons rfl (.cons rfl (.nil _)))))) ?_ ?_)))))))))))))))))))
 · exact ⟨by omega, by omega, (by simp), hs, X⟩
 clear hs
 clear X
 rintro ⟨k, n⟩ wr ⟨hk0, hn, hi, hs, X⟩
 refine aF (aA rfl (cU rfl rfl (fun hk => ?_) (fun hk => ?_)))
 obtain ⟨x, hx, dx⟩ := dR hk
 have hdx := hd x (List.mem_of_getElem? hx)
 refine aB (aR (aQ rfl (aV (aS (aR (aX (aF (aA rfl (aU hs SlotI.len rfl gF rfl rfl rfl hx rfl (aA rfl (eE hs SlotI.len hx eQ rfl (aA rfl (dT eQ ?_)))))))))))))
 intro g4 w3 eg4 b1 x2 zg4
 have lg4 : w.heap.size ≤ g4 := Q7l X.size (Q7e eg4.symm)
 have pg4hs := Q7l hs.1 (Q7e eg4.symm)
 replace hs := hs.ext x2
 replace X := Q7x X x2; clear x2
 refine aA rfl (bK b1 eQ rfl rfl rfl rfl rfl rfl ?_)
 intro w6 b8 hg5 z7
 replace hs := hs.grown hg5 (by intro g hg; injection hg; omega)
 replace X := X.grown hg5 X.size (by intro g hg; injection hg; omega)
 clear hg5 b1
 refine aB (aN (aA rfl (aC rfl (aA rfl (aG iN rfl rfl (aA rfl (aG fC rfl rfl (aA rfl (aJ b8 dB rfl rfl (aA rfl (aY rfl rfl (dM (by omega)) (aA rfl (aE rfl (aB (dO (aS (aN (aA rfl (aY rfl rfl (dM (by omega)) (aA rfl (aC rfl (aB (aS ⟨(k + 1, n + x.desc.duration), (.cons rfl (.cons rfl (.cons rfl (.cons rfl (.cons rfl (.nil _)))))), ?_, ?_⟩)))))))))))))))))))))))
 · exact ⟨by omega, by omega, (by rw [hi, dx, aCF]; omega), hs, X⟩
 · first | omega | (dsimp only; omega)
 exact aB (aR (aM rfl (dD (dC (dC (eG (aS (aF (aA rfl (aC rfl (aA rfl (aE rfl (aB (aW (aL rfl rfl ⟨by rw [hi, bL hk]; simp [aCF], X⟩)))))))))))))))
theorem aCV (m : MedlI) (B : Nat) (mode : Int) (w : World) (hm : Med B w m) (hz : m.small) :
   Calls Tryz.prog 120 #[.agg m.cells.toArray, .int .i64 mode] w (fF fun v w' => ∃ A' c', v = .slice A' (lA mode m.ss).length c' ∧ Own w' w.heap.size 89 8 A' (lA mode m.ss).length c' ((lA mode m.ss).flatMap SlotI.cells) ∧ Ext w w') := by
 have hls := hz.ls
 have hlm := hz.lm
 have hln := hz.ln
 have Bhm := hm.1
 have X := Q7r w
 refine bJ (args := [.agg m.cells.toArray, .int .i64 mode]) Tryz.func120 Tryz.ntmps120 rfl rfl (aF (aA rfl (eX rfl rfl ?_)))
 intro g4 w3 eg4 b1 x2 zg4
 have lg4 : w.heap.size ≤ g4 := Q7l X.size (Q7e eg4.symm)
 have pg4hm := Q7l hm.1 (Q7e eg4.symm)
 replace hm := hm.ext x2
 replace X := Q7x X x2; clear x2
 refine aA rfl (aE rfl (aB (aF (aA rfl (aO gF eQ rfl rfl rfl rfl rfl ?_)))))
 intro gO w6 egO oO bbgO x5 zgO
 replace oO := Own.low oO X.size
 replace hm := hm.ext x5
 replace b1 := b1.ext x5
 replace X := Q7x X x5; clear x5
 refine aA rfl (aE rfl (aB (aR (aF (aA rfl (aG fI rfl rfl (aA rfl (aJ b1 kY rfl rfl (aA rfl (bO Tryz.underlying26 rfl (aA rfl (aC rfl (aB (aX (dG (G := Nat × Nat × List SlotI × Option Addr × Nat) (fun ⟨k, n1, ys, A1, c1⟩ => [(1, .int .i64 mode), (4, .slice none 0 0), (10, .slice m.As m.ss.length m.cs), (11, .int .i64 (m.ss.length : Nat)), (5, .slice A1 n1 c1), (12, .int .i64 (k : Nat))]) (fun ⟨k, n1, ys, A1, c1⟩ wr => k ≤ m.ss.length ∧ n1 = ys.length ∧ n1 ≤ k ∧ lA mode m.ss = ys ++ lA mode (m.ss.drop k) ∧ Own wr w.heap.size 89 8 A1 n1 c1 (ys.flatMap SlotI.cells) ∧ Med B wr m ∧ Blk wr g4 28 m.cells ∧ Ext w wr) (fun ⟨k, n1, ys, A1, c1⟩ => m.ss.length - k) (0, 0, [], some ⟨gO, 0, none⟩, 0) (.cons rfl (.cons rfl (.cons rfl (.cons rfl (.cons rfl (.cons rfl (.nil _))))))) ?_ ?_)))))))))))))))
 · exact ⟨by omega, rfl, by omega, rfl, oO, hm, b1, X⟩
 clear hm b1 oO
 clear X
 rintro ⟨k, n1, ys, A1, c1⟩ wr ⟨hk0, hn, hn1, hi, oO, hm, b1, X⟩
 refine aF (aA rfl (cU rfl rfl (fun hk => ?_) (fun hk => ?_)))
 obtain ⟨x, hx, dx⟩ := dR hk
 refine aB (aR (aQ rfl (aV (aS (aR (aX (aF (aA rfl (aU hm.ss SlotI.len rfl gF rfl rfl rfl hx rfl (aA rfl (eE hm.ss SlotI.len hx eQ rfl ?_)))))))))))
 have UO := fun g hg => (Own.lt oO (g := g) hg).2
 refine aA rfl (dT eQ ?_)
 intro gX w9 egX bX x7 zgX
 have lgX : w.heap.size ≤ gX := Q7l X.size (Q7e egX.symm)
 have pgXhm := Q7l hm.1 (Q7e egX.symm)
 have ngXb1 := Nat.lt_of_lt_of_eq b1.lt egX.symm
 replace oO := oO.ext x7
 replace hm := hm.ext x7
 replace b1 := b1.ext x7
 replace X := Q7x X x7; clear x7
 refine aA rfl (bK bX eQ rfl rfl rfl rfl rfl rfl ?_)
 intro w11 bY hg10 z12
 replace oO := oO.grownBlk hg10 (fun h => by have := UO _ h; omega)
 replace hm := hm.grown hg10 (by intro g hg; injection hg; omega)
 replace b1 := b1.grown hg10 (by intro h; injection h; omega)
 replace X := X.grown hg10 X.size (by intro g hg; injection hg; omega)
 clear hg10 bX
 refine aB (aF (aA rfl (aG iA rfl rfl (aA rfl (aJ bY dB rfl rfl (aA rfl (aC rfl (aA rfl (dP rfl rfl (fun he => ?_) (fun he => ?_))))))))))
 refine aB (aQ rfl (aN (aA rfl (aC rfl (aA rfl (dE bY eQ rfl rfl (aA rfl (aO gF eQ rfl rfl rfl rfl rfl ?_))))))))
 intro g14 w16 eg14 o13 bbg14 x15 zg14
 replace o13 := Own.low o13 X.size
 replace oO := oO.ext x15
 replace hm := hm.ext x15
 replace b1 := b1.ext x15
 replace bY := bY.ext x15
 replace X := Q7x X x15
 refine aA rfl (cH (ts := #[]) oO X.size o13.sl (by first | rfl | simp) (by first | exact List.all_eq_true.1 rfl | simp [Value.oneCell']) gF eQ rfl rfl rfl rfl (by omega) (by omega) ?_)
 intro AoN coN w18 oN hg17
 replace hm := hm.grown hg17 (fun g hg => Q7l Bhm (Own.lt oO hg).1)
 replace b1 := b1.grown hg17 (fun h => Own.neT oO b1 (by decide) h.symm)
 replace bY := bY.grown hg17 (fun h => by have := UO _ h.symm; omega)
 replace X := X.grown hg17 X.size (fun g hg => (Own.lt oO hg).1)
 clear hg17
 refine aA rfl (aE rfl (aB (dO (aS (aN (aA rfl (aY rfl rfl (dM (by omega)) (aA rfl (aC rfl (aB (aS ⟨(k + 1, n1 + 1, ys ++ [x], AoN, coN), (.cons rfl (.cons rfl (.cons rfl (.cons rfl (.cons rfl (.cons rfl (.nil _))))))), ?_, ?_⟩)))))))))))
 · exact ⟨by omega, by simp [hn], by omega, (by rw [hi, dx, vQ he]; simp), oN.to (lI SlotI.cells ys _).symm, hm, b1, X⟩
 · first | omega | (dsimp only; omega)
 refine aB (aM rfl (aV (dO (aS (aN (aA rfl (aY rfl rfl (dM (by omega)) (aA rfl (aC rfl (aB (aS ⟨(k + 1, n1, ys, A1, c1), (.cons rfl (.cons rfl (.cons rfl (.cons rfl (.cons rfl (.cons rfl (.nil _))))))), ?_, ?_⟩)))))))))))
 · exact ⟨by omega, hn, by omega, (by rw [hi, dx, vR he]), oO, hm, b1, X⟩
 · first | omega | (dsimp only; omega)
 refine aB (aR (aM rfl (dD (dC (dC (eG (aS (aF (aA rfl (aC rfl (aA rfl (aE rfl (aB (aW (aL rfl rfl ?_)))))))))))))))
 · skip
   have e : lA mode m.ss = ys := by rw [hi, bL hk]; simp [lA]
   rw [e, ← hn]; exact ⟨A1, c1, rfl, oO, X⟩
theorem aDU (m : MedlI) (B : Nat) (mode : Int) (w : World) (hm : Med B w m) (hz : m.small) (hok : ∀ x ∈ m.ss, hP x = true) :
   Calls Tryz.prog 230 #[.agg m.cells.toArray, .int .i64 mode] w (fF fun v w' => v = .int .i64 (cyc m.ss mode) ∧ Ext w w') := by
 have hls := hz.ls
 have hlm := hz.lm
 have hln := hz.ln
 have Bhm := hm.1
 have X := Q7r w
 refine bJ (args := [.agg m.cells.toArray, .int .i64 mode]) Tryz.func230 Tryz.ntmps230 rfl rfl (aF (aA rfl (eX rfl rfl ?_)))
 intro g4 w3 eg4 b1 x2 zg4
 have lg4 : w.heap.size ≤ g4 := Q7l X.size (Q7e eg4.symm)
 have pg4hm := Q7l hm.1 (Q7e eg4.symm)
 replace hm := hm.ext x2
 replace X := Q7x X x2; clear x2
 refine aA rfl (aE rfl (aB (aF (aA rfl (aE rfl (aB (aR (aF (aA rfl (aE rfl (aB (aX (dG (G := Nat × Int) (fun ⟨k, n⟩ => [(1, .int .i64 mode), (2, .pointer (some ⟨g4, 0, none⟩)), (4, .int .i64 0), (5, .int .i64 n), (6, .int .i64 (k : Nat))]) (fun ⟨k, n⟩ wr => k ≤ m.ss.length ∧ (0 ≤ n ∧ n ≤ 1000 * k) ∧ cyc m.ss mode = n + cyc (m.ss.drop k) mode ∧ Med B wr m ∧ Blk wr g4 28 m.cells ∧ Ext w wr) (fun ⟨k, n⟩ => m.ss.length - k) (0, 0) (.cons rfl (.cons rfl (.cons rfl (.cons rfl (.cons rfl (.nil _)))))) ?_ ?_)))))))))))))
 · exact ⟨by omega, by omega, (by simp), hm, b1, X⟩
 clear hm b1
 clear X
 rintro ⟨k, n⟩ wr ⟨hk0, hn, hi, hm, b1, X⟩
 refine aR (aF (aA rfl (aC rfl (aA rfl (aG fI rfl rfl (aA rfl (aJ b1 kY rfl rfl (aA rfl (bO Tryz.underlying26 rfl (aA rfl (cU rfl rfl (fun hk => ?_) (fun hk => ?_))))))))))))
 obtain ⟨x, hx, dx⟩ := dR hk
 have hxs := aBP (hok x (List.mem_of_getElem? hx))
 refine aB (aQ rfl (aV (aS (aR (aX (aF (aA rfl (aG fI rfl rfl (aA rfl (aJ b1 kY rfl rfl (aA rfl (aC rfl (aA rfl (aU hm.ss SlotI.len rfl gF rfl rfl rfl hx rfl (aA rfl (dF iA rfl (aA rfl (eF hm.ss SlotI.len hx dB rfl rfl rfl (aA rfl (aC rfl (aA rfl (dP rfl rfl (fun he => ?_) (fun he => ?_)))))))))))))))))))))))
 refine aB (aQ rfl (aN (aA rfl (aC rfl (aA rfl (aG fI rfl rfl (aA rfl (aJ b1 kY rfl rfl (aA rfl (aC rfl (aA rfl (aU hm.ss SlotI.len rfl gF rfl rfl rfl hx rfl (aA rfl (dF iN rfl (aA rfl (dF fC rfl (aA rfl (sE hm.ss SlotI.len hx dB rfl rfl rfl (aA rfl (aY rfl rfl (dM (by omega)) (aA rfl (aE rfl (aB (dO (aS (aN (aA rfl (aC rfl (aA rfl (aY rfl rfl (dM (by omega)) (aA rfl (aE rfl (aB (aS ⟨(k + 1, n + x.desc.duration), (.cons rfl (.cons rfl (.cons rfl (.cons rfl (.cons rfl (.nil _)))))), ?_, ?_⟩))))))))))))))))))))))))))))))))))
 · exact ⟨by omega, by omega, (by rw [hi, dx, cyc, vQ he, aCF]; unfold cyc; omega), hm, b1, X⟩
 · first | omega | (dsimp only; omega)
 refine aB (aM rfl (aV (dO (aS (aN (aA rfl (aC rfl (aA rfl (aY rfl rfl (dM (by omega)) (aA rfl (aE rfl (aB (aS ⟨(k + 1, n), (.cons rfl (.cons rfl (.cons rfl (.cons rfl (.cons rfl (.nil _)))))), ?_, ?_⟩)))))))))))))
 · exact ⟨by omega, by omega, (by rw [hi, dx, cyc, vR he]; rfl), hm, b1, X⟩
 · first | omega | (dsimp only; omega)
 exact aB (aM rfl (dD (dC (dC (eG (aS (aF (aA rfl (aC rfl (aA rfl (aE rfl (aB (aW (aL rfl rfl ⟨by rw [hi, bL hk]; simp [cyc, lA, aCF], X⟩))))))))))))))
theorem aFu (m : MedlI) (B : Nat) (w : World) (hm : Med B w m) (hz : m.small) (hok : ∀ x ∈ m.ss, hP x = true) :
   Calls Tryz.prog 188 #[.agg m.cells.toArray] w (fF fun v w' => v = .bool (sU m.d) ∧ Ext w w') := by
 have hls := hz.ls
 have hlm := hz.lm
 have hln := hz.ln
 have Bhm := hm.1
 have X := Q7r w
 refine bJ (args := [.agg m.cells.toArray]) Tryz.func188 Tryz.ntmps188 rfl rfl (aF (aA rfl (eX rfl rfl ?_)))
 intro g4 w3 eg4 b1 x2 zg4
 have lg4 : w.heap.size ≤ g4 := Q7l X.size (Q7e eg4.symm)
 have pg4hm := Q7l hm.1 (Q7e eg4.symm)
 replace hm := hm.ext x2
 replace X := Q7x X x2; clear x2
 refine aA rfl (aE rfl (aB (aR (aF (aA rfl (aG jF rfl rfl (aA rfl (aJ b1 tZ rfl rfl (aA rfl (bO Tryz.underlying25 rfl (aA rfl (aC rfl (aB (aX ?_))))))))))))))
 refine dG (G := Nat) (fun k => [(1, .pointer (some ⟨g4, 0, none⟩)), (6, .int .i64 (m.ms.length : Nat)), (7, .int .i64 (k : Nat))]) (fun k wr => k ≤ m.ms.length ∧ sU m.d = ((List.range m.ms.length).drop k).all (fun (i : Nat) => decide (cyc m.ss i ≤ 32000)) ∧ Med B wr m ∧ Blk wr g4 28 m.cells ∧ Ext w wr) (fun k => m.ms.length - k) 0 (.cons rfl (.cons rfl (.cons rfl (.nil _)))) ?_ ?_
 · exact ⟨by omega, aDJ, hm, b1, X⟩
 clear hm b1
 clear X
 rintro k wr ⟨hk0, hi, hm, b1, X⟩
 refine aF (aA rfl (cU rfl rfl (fun hk => ?_) (fun hk => ?_)))
 have hk1 : k < m.ms.length := by omega
 refine aB (aR (aQ rfl (aV (aS (aR (aX (aF (aA rfl (aC rfl (aA rfl (aE rfl (aB (aF (aA rfl (dE b1 dW rfl rfl (aA rfl (aC rfl (aA rfl (aT aJO rfl (aP (aCV m _ _ _ hm hz) ?_))))))))))))))))))))
 rintro _ w6 ⟨A7, c8, rfl, oL, x5⟩
 replace oL := Own.low oL X.size
 replace hm := hm.ext x5
 replace b1 := b1.ext x5
 replace X := Q7x X x5; clear x5
 refine aA rfl (aT aKf rfl (aP (aJm _ _ _ _ _ (oL).sl (Q7l (aEL _ _) hls) (fun y hy => by have h1 := aEK _ _ y hy; have h2 := aBP (hok y h1.1); omega)) ?_))
 rintro _ w10 ⟨rfl, x9⟩
 replace hm := hm.ext x9
 replace b1 := b1.ext x9
 replace oL := oL.ext x9
 replace X := Q7x X x9; clear x9
 refine aA rfl (fG rfl rfl (fun hc => ?_) (fun hc => ?_))
 refine aB (aQ rfl (aF (aA rfl (aE rfl (aB (aW (dL (bN (bN (dL (bN (aL rfl rfl ?_))))))))))))
 · skip
   refine ⟨congrArg Value.bool ?_, X⟩
   first
   | (rw [hi, qJ hk1, decide_eq_false (show ¬ cyc m.ss k ≤ 32000 by unfold cyc; omega)]; rfl)
   | (rw [hi, yO hk]; done)
 refine aB (aM rfl (aV (dO (aS (aN (aA rfl (aY rfl rfl (dM (by omega)) (aA rfl (aC rfl (aB (aS ⟨k + 1, (.cons rfl (.cons rfl (.cons rfl (.nil _)))), ?_, ?_⟩)))))))))))
 · exact ⟨by omega, (by rw [hi, qJ hk1, decide_eq_true (show cyc m.ss k ≤ 32000 by unfold cyc; omega)]; rfl), hm, b1, X⟩
 · first | omega | (dsimp only; omega)
 refine aB (aR (aM rfl (dD (dC (dC (eG (aS (aF (aA rfl (aE rfl (aB (aW (aL rfl rfl ?_)))))))))))))
 · skip
   refine ⟨congrArg Value.bool ?_, X⟩
   first
   | (rw [hi, qJ hk1, decide_eq_false (show ¬ cyc m.ss k ≤ 32000 by unfold cyc; omega)]; rfl)
   | (rw [hi, yO hk]; done)
theorem aCW (m : MedlI) (B : Nat) (w : World) (hm : Med B w m) (hz : m.small) (hok : ∀ x ∈ m.ss, hP x = true) (hN : eC m.ns = true) (hT : jX (m.ms.map (·.m)) = true) :
   Calls Tryz.prog 231 #[.agg m.cells.toArray] w (fF fun v w' => v = .bool (uD (iM m.ns) m.ss 0 (m.ms.map (·.m))) ∧ Ext w w') := by
 have hls := hz.ls
 have hlm := hz.lm
 have hln := hz.ln
 have Bhm := hm.1
 have X := Q7r w
 refine bJ (args := [.agg m.cells.toArray]) Tryz.func231 Tryz.ntmps231 rfl rfl (aF (aA rfl (eX rfl rfl ?_)))
 intro g4 w3 eg4 b1 x2 zg4
 have lg4 : w.heap.size ≤ g4 := Q7l X.size (Q7e eg4.symm)
 have pg4hm := Q7l hm.1 (Q7e eg4.symm)
 replace hm := hm.ext x2
 replace X := Q7x X x2; clear x2
 refine aA rfl (aE rfl (aB (aF (aA rfl (aG lY rfl rfl (aA rfl (aJ b1 zS rfl rfl (aA rfl (aT aCw rfl (aP (tD _ _ _ m.ns _ hm.sn hln (xN hN)) ?_))))))))))
 rintro _ w6 ⟨rfl, x5⟩
 replace hm := hm.ext x5
 replace b1 := b1.ext x5
 replace X := Q7x X x5; clear x5
 refine aA rfl (aE rfl (aB (aR (aF (aA rfl (aE rfl (aB (aX (dG (G := Nat) (fun k => [(1, .pointer (some ⟨g4, 0, none⟩)), (3, .int .i64 (iM m.ns : Nat)), (4, .int .i64 (k : Nat))]) (fun k wr => k ≤ m.ms.length ∧ uD (iM m.ns) m.ss 0 (m.ms.map (·.m)) = uD (iM m.ns) m.ss (k : Int) ((m.ms.drop k).map (·.m)) ∧ Med B wr m ∧ Blk wr g4 28 m.cells ∧ Ext w wr) (fun k => m.ms.length - k) 0 (.cons rfl (.cons rfl (.cons rfl (.nil _)))) ?_ ?_)))))))))
 · exact ⟨by omega, rfl, hm, b1, X⟩
 clear hm b1
 clear X
 rintro k wr ⟨hk0, hi, hm, b1, X⟩
 refine aR (aF (aA rfl (aC rfl (aA rfl (aG jF rfl rfl (aA rfl (aJ b1 tZ rfl rfl (aA rfl (bO Tryz.underlying25 rfl (aA rfl (cU rfl rfl (fun hk => ?_) (fun hk => ?_))))))))))))
 obtain ⟨x, hx, dx⟩ := dR hk
 have hxi := qV hT x.m (List.mem_map.2 ⟨x, List.mem_of_getElem? hx, rfl⟩)
 refine aB (aQ rfl (aV (aS (aR (aX (aF (aA rfl (aE rfl (aB (aX ?_))))))))))
 refine dG (G := Nat) (fun r => [(1, .pointer (some ⟨g4, 0, none⟩)), (3, .int .i64 (iM m.ns : Nat)), (4, .int .i64 (k : Nat)), (11, .int .i64 (k : Nat)), (13, .slice m.Am m.ms.length m.cm), (14, .int .i64 (m.ms.length : Nat)), (5, .int .i64 (r : Nat))]) (fun r wr => (r : Int) ≤ x.m.rounds ∧ uD (iM m.ns) m.ss 0 (m.ms.map (·.m)) = (aBg (fun (r : Nat) => decide (vI m.ss k r = iM m.ns)) x.m.rounds.toNat r && uD (iM m.ns) m.ss ((k + 1 : Nat) : Int) ((m.ms.drop (k + 1)).map (·.m))) ∧ Med B wr m ∧ Blk wr g4 28 m.cells ∧ Ext w wr) (fun r => x.m.rounds.toNat - r) 0 (.cons rfl (.cons rfl (.cons rfl (.cons rfl (.cons rfl (.cons rfl (.cons rfl (.nil _)))))))) ?_ ?_
 · exact ⟨by omega, (by rw [hi, dx]; rfl), hm, b1, X⟩
 clear hm b1
 clear X
 rintro r wr ⟨hr0, hi2, hm, b1, X⟩
 refine aR (aF (aA rfl (aC rfl (aA rfl (aG jF rfl rfl (aA rfl (aJ b1 tZ rfl rfl (aA rfl (aC rfl (aA rfl (aU hm.sm ModeI.len rfl kX rfl rfl rfl hx rfl (aA rfl (dF kQ rfl (aA rfl (eF hm.sm ModeI.len hx dB rfl rfl rfl (aA rfl (cU rfl rfl (fun hr => ?_) (fun hr => ?_))))))))))))))))))
 refine aB (aQ rfl (aV (aS (aR (aX (aF (aA rfl (aE rfl (aB (aR (aF (aA rfl (aE rfl (aB (aX ?_)))))))))))))))
 refine dG (G := Nat × Nat) (fun ⟨j, a⟩ => [(1, .pointer (some ⟨g4, 0, none⟩)), (3, .int .i64 (iM m.ns : Nat)), (4, .int .i64 (k : Nat)), (5, .int .i64 (r : Nat)), (11, .int .i64 (k : Nat)), (13, .slice m.Am m.ms.length m.cm), (14, .int .i64 (m.ms.length : Nat)), (18, .int .i64 (r : Nat)), (20, .slice m.Am m.ms.length m.cm), (21, .int .i64 (k : Nat)), (6, .int .i64 (a : Nat)), (7, .int .i64 (j : Nat))]) (fun ⟨j, a⟩ wr => j ≤ m.ss.length ∧ a < 4294967296 ∧ vI m.ss k r = qG (fun x : SlotI => decide (x.mode = (k : Int)) && decide (x.round = (r : Int))) (fun x => x.desc.node) a (m.ss.drop j) ∧ Med B wr m ∧ Blk wr g4 28 m.cells ∧ Ext w wr) (fun ⟨j, a⟩ => m.ss.length - j) (0, 0) (.cons rfl (.cons rfl (.cons rfl (.cons rfl (.cons rfl (.cons rfl (.cons rfl (.cons rfl (.cons rfl (.cons rfl (.cons rfl (.cons rfl (.nil _))))))))))))) ?_ ?_
 · exact ⟨by omega, (by omega), rfl, hm, b1, X⟩
 clear hm b1
 clear X
 rintro ⟨j, a⟩ wr ⟨hj0, ha, hi3, hm, b1, X⟩
 refine aR (aF (aA rfl (aC rfl (aA rfl (aG fI rfl rfl (aA rfl (aJ b1 kY rfl rfl (aA rfl (bO Tryz.underlying26 rfl (aA rfl (cU rfl rfl (fun hj => ?_) (fun hj => ?_))))))))))))
 obtain ⟨y, hy, dy⟩ := dR hj
 have hys := aBP (hok y (List.mem_of_getElem? hy))
 refine aB (aQ rfl (aV (aS (aR (aX (aF (aA rfl (aG fI rfl rfl (aA rfl (aJ b1 kY rfl rfl (aA rfl (aC rfl (aA rfl (aU hm.ss SlotI.len rfl gF rfl rfl rfl hy rfl (aA rfl (dF iA rfl (aA rfl (eF hm.ss SlotI.len hy dB rfl rfl rfl (aA rfl (aC rfl (aA rfl (dP rfl rfl (fun h7 => ?_) (fun h7 => ?_)))))))))))))))))))))))
 refine aA rfl (aC rfl (aI rfl rfl rfl (aG fI rfl rfl (aI rfl rfl rfl (aJ b1 kY rfl rfl (aI rfl rfl rfl (aC rfl (aI rfl rfl rfl (aU hm.ss SlotI.len rfl gF rfl rfl rfl hy rfl (aI rfl rfl rfl (dF kP rfl (aI rfl rfl rfl (eF hm.ss SlotI.len hy dB rfl rfl rfl (aI rfl rfl rfl (aC rfl (aI rfl rfl rfl (dP rfl rfl (fun h8 => ?_) (fun h8 => ?_))))))))))))))))))
 refine aA rfl (aK rfl rfl (aB (aQ rfl (aN (aA rfl (aC rfl (aA rfl (aG fI rfl rfl (aA rfl (aJ b1 kY rfl rfl (aA rfl (aC rfl (aA rfl (aU hm.ss SlotI.len rfl gF rfl rfl rfl hy rfl (aA rfl (dF iN rfl (aA rfl (dF kA rfl (aA rfl (sE hm.ss SlotI.len hy dB rfl rfl rfl (aA rfl (aT aHF rfl (aP (aCR _ _ _ ha hys.2.1) ?_)))))))))))))))))))))))
 rintro _ w10 ⟨rfl, x9⟩
 replace hm := hm.ext x9
 replace b1 := b1.ext x9
 replace X := Q7x X x9; clear x9
 refine aA rfl (aE rfl (aB (dO (aS (aN (aA rfl (aC rfl (aA rfl (aY rfl rfl (dM (by omega)) (aA rfl (aE rfl (aB (aS ⟨(j + 1, sW a y.desc.node), (.cons rfl (.cons rfl (.cons rfl (.cons rfl (.cons rfl (.cons rfl (.cons rfl (.cons rfl (.cons rfl (.cons rfl (.cons rfl (.cons rfl (.nil _))))))))))))), ?_, ?_⟩)))))))))))))
 · exact ⟨by omega, (tX ha hys.2.1), (by rw [hi3, dy, qG]; simp [*]), hm, b1, X⟩
 · first | omega | (dsimp only; omega)
 refine aA rfl (aK rfl rfl (aB (aM rfl (aV (dO (aS (aN (aA rfl (aC rfl (aA rfl (aY rfl rfl (dM (by omega)) (aA rfl (aE rfl (aB (aS ⟨(j + 1, a), (.cons rfl (.cons rfl (.cons rfl (.cons rfl (.cons rfl (.cons rfl (.cons rfl (.cons rfl (.cons rfl (.cons rfl (.cons rfl (.cons rfl (.nil _))))))))))))), ?_, ?_⟩)))))))))))))))
 · exact ⟨by omega, ha, (by rw [hi3, dy, qG]; simp [*]), hm, b1, X⟩
 · first | omega | (dsimp only; omega)
 refine aA rfl (aC rfl (aH rfl rfl rfl rfl (aH rfl rfl rfl rfl (aH rfl rfl rfl rfl (aH rfl rfl rfl rfl (aH rfl rfl rfl rfl (aH rfl rfl rfl rfl (aH rfl rfl rfl rfl (aH rfl rfl rfl rfl (aA rfl (aK rfl rfl (aB (aM rfl (aV (dO (aS (aN (aA rfl (aC rfl (aA rfl (aY rfl rfl (dM (by omega)) (aA rfl (aE rfl (aB (aS ⟨(j + 1, a), (.cons rfl (.cons rfl (.cons rfl (.cons rfl (.cons rfl (.cons rfl (.cons rfl (.cons rfl (.cons rfl (.cons rfl (.cons rfl (.cons rfl (.nil _))))))))))))), ?_, ?_⟩)))))))))))))))))))))))))
 · exact ⟨by omega, ha, (by rw [hi3, dy, qG]; simp [*]), hm, b1, X⟩
 · first | omega | (dsimp only; omega)
 have hsv : vI m.ss k r = a := by rw [hi3, bL hj]; rfl
 have hac := aAh hN
 refine aB (aM rfl (dD (dC (dC (eG (aS (aF (aA rfl (aC rfl (aA rfl (aC rfl (aA rfl (gH rfl rfl (fun hv => ?_) (fun hv => ?_))))))))))))))
 refine aB (aQ rfl (aF (aA rfl (aE rfl (aB (aW (dL (bN (bN (dL (dL (bN (bN (dL (bN (aL rfl rfl ?_))))))))))))))))
 · skip
   refine ⟨congrArg Value.bool ?_, X⟩
   first
   | (rw [hi, bL hk]; rfl)
   | (rw [hi2, nN (by omega), decide_eq_false (show ¬ vI m.ss k r = iM m.ns by rw [hsv]; omega)]; rfl)
 refine aB (aM rfl (aV (dO (aS (aN (aA rfl (aC rfl (aA rfl (aY rfl rfl (dM (by omega)) (aA rfl (aE rfl (aB (aS ⟨r + 1, (.cons rfl (.cons rfl (.cons rfl (.cons rfl (.cons rfl (.cons rfl (.cons rfl (.nil _)))))))), ?_, ?_⟩)))))))))))))
 · exact ⟨by omega, (by rw [hi2, nN (by omega), decide_eq_true (show vI m.ss k r = iM m.ns by rw [hsv]; omega)]; rfl), hm, b1, X⟩
 · first | omega | (dsimp only; omega)
 refine aB (aM rfl (dD (dC (dC (eG (dO (aS (aN (aA rfl (aC rfl (aA rfl (aY rfl rfl (dM (by omega)) (aA rfl (aE rfl (aB (aS ⟨k + 1, (.cons rfl (.cons rfl (.cons rfl (.nil _)))), ?_, ?_⟩))))))))))))))))
 · exact ⟨by omega, (by rw [hi2, aBQ (by omega)]; rfl), hm, b1, X⟩
 · first | omega | (dsimp only; omega)
 refine aB (aM rfl (dD (dC (dC (eG (aS (aF (aA rfl (aE rfl (aB (aW (aL rfl rfl ?_))))))))))))
 · skip
   refine ⟨congrArg Value.bool ?_, X⟩
   first
   | (rw [hi, bL hk]; rfl)
   | (rw [hi2, nN (by omega), decide_eq_false (show ¬ vI m.ss k r = iM m.ns by rw [hsv]; omega)]; rfl)
theorem aFv (m : MedlI) (B : Nat) (w : World) (hm : Med B w m) (hz : m.small) (hok : ∀ x ∈ m.ss, hP x = true) (hN : eC m.ns = true) (hT : jX (m.ms.map (·.m)) = true) :
   Calls Tryz.prog 189 #[.agg m.cells.toArray] w (fF fun v w' => v = .bool (zI (iM m.ns) m.ss 0 (m.ms.map (·.m))) ∧ Ext w w') := by
 have hls := hz.ls
 have hlm := hz.lm
 have hln := hz.ln
 have Bhm := hm.1
 have X := Q7r w
 refine bJ (args := [.agg m.cells.toArray]) Tryz.func189 Tryz.ntmps189 rfl rfl (aF (aA rfl (eX rfl rfl ?_)))
 intro g4 w3 eg4 b1 x2 zg4
 have lg4 : w.heap.size ≤ g4 := Q7l X.size (Q7e eg4.symm)
 have pg4hm := Q7l hm.1 (Q7e eg4.symm)
 replace hm := hm.ext x2
 replace X := Q7x X x2; clear x2
 refine aA rfl (aE rfl (aB (aR (aF (aA rfl (aG jF rfl rfl (aA rfl (aJ b1 tZ rfl rfl (aA rfl (bO Tryz.underlying25 rfl (aA rfl (aC rfl (aB (aX (dG (G := Nat) (fun k => [(1, .pointer (some ⟨g4, 0, none⟩)), (10, .slice m.Am m.ms.length m.cm), (11, .int .i64 (m.ms.length : Nat)), (12, .int .i64 (k : Nat))]) (fun k wr => k ≤ m.ms.length ∧ zI (iM m.ns) m.ss 0 (m.ms.map (·.m)) = zI (iM m.ns) m.ss (k : Int) ((m.ms.drop k).map (·.m)) ∧ Med B wr m ∧ Blk wr g4 28 m.cells ∧ Ext w wr) (fun k => m.ms.length - k) 0 (.cons rfl (.cons rfl (.cons rfl (.cons rfl (.nil _))))) ?_ ?_)))))))))))))))
 · exact ⟨by omega, rfl, hm, b1, X⟩
 clear hm b1
 clear X
 rintro k wr ⟨hk0, hi, hm, b1, X⟩
 refine aF (aA rfl (cU rfl rfl (fun hk => ?_) (fun hk => ?_)))
 obtain ⟨x, hx, dx⟩ := dR hk
 have hxi := qV hT x.m (List.mem_map.2 ⟨x, List.mem_of_getElem? hx, rfl⟩)
 refine aB (aR (aQ rfl (aV (aS (aR (aX (aF (aA rfl (aC rfl (aA rfl (aU hm.sm ModeI.len rfl kX rfl rfl rfl hx rfl (aA rfl (eE hm.sm ModeI.len hx iO rfl (aA rfl (dT iO ?_)))))))))))))))
 intro gX w6 egX bX x5 zgX
 have lgX : w.heap.size ≤ gX := Q7l X.size (Q7e egX.symm)
 have pgXhm := Q7l hm.1 (Q7e egX.symm)
 have ngXb1 := Nat.lt_of_lt_of_eq b1.lt egX.symm
 replace hm := hm.ext x5
 replace b1 := b1.ext x5
 replace X := Q7x X x5; clear x5
 refine aA rfl (aE rfl (aA rfl (bK bX iO rfl rfl rfl rfl rfl rfl ?_)))
 intro w9 bY hg7 z10
 replace hm := hm.grown hg7 (by intro g hg; injection hg; omega)
 replace b1 := b1.grown hg7 (by intro h; injection h; omega)
 replace X := X.grown hg7 X.size (by intro g hg; injection hg; omega)
 clear hg7 bX
 refine aB (aF (aA rfl (aG kQ rfl rfl (aA rfl (aJ bY dB rfl rfl (aA rfl (aC rfl (aB (aX ?_)))))))))
 refine dG (G := Nat) (fun r => [(1, .pointer (some ⟨g4, 0, none⟩)), (3, .int .i64 (k : Nat)), (4, .pointer (some ⟨gX, 0, none⟩)), (10, .slice m.Am m.ms.length m.cm), (11, .int .i64 (m.ms.length : Nat)), (12, .int .i64 (k : Nat)), (14, .int .i64 (k : Nat)), (18, .int .i64 x.m.rounds), (19, .int .i64 (r : Nat))]) (fun r wr => (r : Int) ≤ x.m.rounds ∧ zI (iM m.ns) m.ss 0 (m.ms.map (·.m)) = (aBg (fun (r : Nat) => decide (tW (iM m.ns) (vI m.ss k r) = 0)) x.m.rounds.toNat r && zI (iM m.ns) m.ss ((k + 1 : Nat) : Int) ((m.ms.drop (k + 1)).map (·.m))) ∧ Med B wr m ∧ Blk wr g4 28 m.cells ∧ Blk wr gX 92 x.cells ∧ Ext w wr) (fun r => x.m.rounds.toNat - r) 0 (.cons rfl (.cons rfl (.cons rfl (.cons rfl (.cons rfl (.cons rfl (.cons rfl (.cons rfl (.cons rfl (.nil _)))))))))) ?_ ?_
 · exact ⟨by omega, (by rw [hi, dx]; rfl), hm, b1, bY, X⟩
 clear hm b1 bY
 clear X
 rintro r wr ⟨hr0, hi2, hm, b1, bY, X⟩
 refine aF (aA rfl (cU rfl rfl (fun hr => ?_) (fun hr => ?_)))
 refine aB (aR (aQ rfl (aV (aS (aR (aX (aF (aA rfl (aC rfl (aA rfl (aE rfl (aB (aF (aA rfl (aE rfl (aB (aR (aF (aA rfl (aG fI rfl rfl (aA rfl (aJ b1 kY rfl rfl (aA rfl (bO Tryz.underlying26 rfl (aA rfl (aC rfl (aB (aX ?_))))))))))))))))))))))))))))
 refine dG (G := Nat × Nat) (fun ⟨j, a⟩ => [(1, .pointer (some ⟨g4, 0, none⟩)), (3, .int .i64 (k : Nat)), (4, .pointer (some ⟨gX, 0, none⟩)), (5, .int .i64 (r : Nat)), (10, .slice m.Am m.ms.length m.cm), (11, .int .i64 (m.ms.length : Nat)), (12, .int .i64 (k : Nat)), (14, .int .i64 (k : Nat)), (18, .int .i64 x.m.rounds), (19, .int .i64 (r : Nat)), (21, .int .i64 (r : Nat)), (23, .slice m.As m.ss.length m.cs), (24, .int .i64 (m.ss.length : Nat)), (6, .int .i64 (a : Nat)), (25, .int .i64 (j : Nat))]) (fun ⟨j, a⟩ wr => j ≤ m.ss.length ∧ a < 4294967296 ∧ vI m.ss k r = qG (fun x : SlotI => decide (x.mode = (k : Int)) && decide (x.round = (r : Int))) (fun x => x.desc.node) a (m.ss.drop j) ∧ Med B wr m ∧ Blk wr g4 28 m.cells ∧ Blk wr gX 92 x.cells ∧ Ext w wr) (fun ⟨j, a⟩ => m.ss.length - j) (0, 0) (.cons rfl (.cons rfl (.cons rfl (.cons rfl (.cons rfl (.cons rfl (.cons rfl (.cons rfl (.cons rfl (.cons rfl (.cons rfl (.cons rfl (.cons rfl (.cons rfl (.cons rfl (.nil _)))))))))))))))) ?_ ?_
 · exact ⟨by omega, (by omega), rfl, hm, b1, bY, X⟩
 clear hm b1 bY
 clear X
 rintro ⟨j, a⟩ wr ⟨hj0, ha, hi3, hm, b1, bY, X⟩
 refine aF (aA rfl (cU rfl rfl (fun hj => ?_) (fun hj => ?_)))
 obtain ⟨y, hy, dy⟩ := dR hj
 have hys := aBP (hok y (List.mem_of_getElem? hy))
 refine aB (aR (aQ rfl (aV (aS (aR (aX (aF (aA rfl (aU hm.ss SlotI.len rfl gF rfl rfl rfl hy rfl (aA rfl (eE hm.ss SlotI.len hy eQ rfl (aA rfl (dT eQ ?_)))))))))))))
 intro g14 w13 eg14 b11 x12 zg14
 have lg14 : w.heap.size ≤ g14 := Q7l X.size (Q7e eg14.symm)
 have pg14hm := Q7l hm.1 (Q7e eg14.symm)
 have ng14b1 := Nat.lt_of_lt_of_eq b1.lt eg14.symm
 have ng14bY := Nat.lt_of_lt_of_eq bY.lt eg14.symm
 replace hm := hm.ext x12
 replace b1 := b1.ext x12
 replace bY := bY.ext x12
 replace X := Q7x X x12
 refine aA rfl (bK b11 eQ rfl rfl rfl rfl rfl rfl ?_)
 intro w16 b18 hg15 z17
 replace hm := hm.grown hg15 (by intro g hg; injection hg; omega)
 replace b1 := b1.grown hg15 (by intro h; injection h; omega)
 replace bY := bY.grown hg15 (by intro h; injection h; omega)
 replace X := X.grown hg15 X.size (by intro g hg; injection hg; omega)
 clear hg15 b11
 refine aB (aF (aA rfl (aG iA rfl rfl (aA rfl (aJ b18 dB rfl rfl (aA rfl (aC rfl (aA rfl (dP rfl rfl (fun h19 => ?_) (fun h19 => ?_))))))))))
 refine aA rfl (aC rfl (aI rfl rfl rfl (aG kP rfl rfl (aI rfl rfl rfl (aJ b18 dB rfl rfl (aI rfl rfl rfl (aC rfl (aI rfl rfl rfl (dP rfl rfl (fun h20 => ?_) (fun h20 => ?_))))))))))
 refine aA rfl (aK rfl rfl (aB (aQ rfl (aN (aA rfl (aC rfl (aA rfl (aG iN rfl rfl (aA rfl (aG kA rfl rfl (aA rfl (aJ b18 dB rfl rfl (aA rfl (tG rfl rfl hys.2.1.1 rfl (aA rfl (aIU rfl rfl (aBF ha hys.2.1) (aA rfl (aE rfl (aB (dO (aS (aN (aA rfl (aY rfl rfl (dM (by omega)) (aA rfl (aC rfl (aB (aS ⟨(j + 1, sW a y.desc.node), (.cons rfl (.cons rfl (.cons rfl (.cons rfl (.cons rfl (.cons rfl (.cons rfl (.cons rfl (.cons rfl (.cons rfl (.cons rfl (.cons rfl (.cons rfl (.cons rfl (.cons rfl (.nil _)))))))))))))))), ?_, ?_⟩))))))))))))))))))))))))))))
 · exact ⟨by omega, (tX ha hys.2.1), (by rw [hi3, dy, qG]; simp [*]), hm, b1, bY, X⟩
 · first | omega | (dsimp only; omega)
 refine aA rfl (aK rfl rfl (aB (aM rfl (aV (dO (aS (aN (aA rfl (aY rfl rfl (dM (by omega)) (aA rfl (aC rfl (aB (aS ⟨(j + 1, a), (.cons rfl (.cons rfl (.cons rfl (.cons rfl (.cons rfl (.cons rfl (.cons rfl (.cons rfl (.cons rfl (.cons rfl (.cons rfl (.cons rfl (.cons rfl (.cons rfl (.cons rfl (.nil _)))))))))))))))), ?_, ?_⟩)))))))))))))
 · exact ⟨by omega, ha, (by rw [hi3, dy, qG]; simp [*]), hm, b1, bY, X⟩
 · first | omega | (dsimp only; omega)
 refine aA rfl (aC rfl (aH rfl rfl rfl rfl (aH rfl rfl rfl rfl (aH rfl rfl rfl rfl (aH rfl rfl rfl rfl (aA rfl (aK rfl rfl (aB (aM rfl (aV (dO (aS (aN (aA rfl (aY rfl rfl (dM (by omega)) (aA rfl (aC rfl (aB (aS ⟨(j + 1, a), (.cons rfl (.cons rfl (.cons rfl (.cons rfl (.cons rfl (.cons rfl (.cons rfl (.cons rfl (.cons rfl (.cons rfl (.cons rfl (.cons rfl (.cons rfl (.cons rfl (.cons rfl (.nil _)))))))))))))))), ?_, ?_⟩)))))))))))))))))))
 · exact ⟨by omega, ha, (by rw [hi3, dy, qG]; simp [*]), hm, b1, bY, X⟩
 · first | omega | (dsimp only; omega)
 have hsv : vI m.ss k r = a := by rw [hi3, bL hj]; rfl
 have hac := aAh hN
 refine aB (aR (aM rfl (dD (dC (dC (eG (aS (aF (aA rfl (aG lY rfl rfl (aA rfl (aJ b1 zS rfl rfl (aA rfl (aT aHm rfl (aP (tE _ _ _ m.ns _ hm.sn hln (xN hN)) ?_)))))))))))))))
 rintro _ w22 ⟨rfl, x21⟩
 replace hm := hm.ext x21
 replace b1 := b1.ext x21
 replace bY := bY.ext x21
 replace X := Q7x X x21
 refine aA rfl (aC rfl (aA rfl (aFz rfl rfl (aDl (by omega) (by omega)) (aA rfl (gH rfl rfl (fun hv => ?_) (fun hv => ?_))))))
 refine aB (aQ rfl (aF (aA rfl (aE rfl (aB (aW (dL (bN (bN (dL (dL (bN (bN (dL (bN (aL rfl rfl ?_))))))))))))))))
 · skip
   refine ⟨congrArg Value.bool ?_, X⟩
   first
   | (rw [hi, bL hk]; rfl)
   | (rw [hi2, nN (by omega), decide_eq_false (show ¬ tW (iM m.ns) (vI m.ss k r) = 0 by rw [hsv]; omega)]; rfl)
 refine aB (aM rfl (aV (dO (aS (aN (aA rfl (aY rfl rfl (dM (by omega)) (aA rfl (aC rfl (aB (aS ⟨r + 1, (.cons rfl (.cons rfl (.cons rfl (.cons rfl (.cons rfl (.cons rfl (.cons rfl (.cons rfl (.cons rfl (.nil _)))))))))), ?_, ?_⟩)))))))))))
 · exact ⟨by omega, (by rw [hi2, nN (by omega), decide_eq_true (show tW (iM m.ns) (vI m.ss k r) = 0 by rw [hsv]; omega)]; rfl), hm, b1, bY, X⟩
 · first | omega | (dsimp only; omega)
 refine aB (aR (aM rfl (dD (dC (dC (eG (dO (aS (aN (aA rfl (aY rfl rfl (dM (by omega)) (aA rfl (aC rfl (aB (aS ⟨k + 1, (.cons rfl (.cons rfl (.cons rfl (.cons rfl (.nil _))))), ?_, ?_⟩)))))))))))))))
 · exact ⟨by omega, (by rw [hi2, aBQ (by omega)]; rfl), hm, b1, X⟩
 · first | omega | (dsimp only; omega)
 refine aB (aR (aM rfl (dD (dC (dC (eG (aS (aF (aA rfl (aE rfl (aB (aW (aL rfl rfl ?_)))))))))))))
 · skip
   refine ⟨congrArg Value.bool ?_, X⟩
   first
   | (rw [hi, bL hk]; rfl)
   | (rw [hi2, nN (by omega), decide_eq_false (show ¬ tW (iM m.ns) (vI m.ss k r) = 0 by rw [hsv]; omega)]; rfl)
theorem aB3 (m : MedlI) (B : Nat) (w : World) (hm : Med B w m) (hz : m.small) (hok : ∀ x ∈ m.ss, hP x = true) (hN : eC m.ns = true) :
   Calls Tryz.prog 228 #[.agg m.cells.toArray] w (fF fun v w' => v = .bool (nY m.d) ∧ Ext w w') := by
 have hls := hz.ls
 have hlm := hz.lm
 have hln := hz.ln
 have hac := aAh hN
 have Bhm := hm.1
 have X := Q7r w
 refine bJ (args := [.agg m.cells.toArray]) Tryz.func228 Tryz.ntmps228 rfl rfl (aF (aA rfl (eX rfl rfl ?_)))
 intro g4 w3 eg4 b1 x2 zg4
 have lg4 : w.heap.size ≤ g4 := Q7l X.size (Q7e eg4.symm)
 have pg4hm := Q7l hm.1 (Q7e eg4.symm)
 replace hm := hm.ext x2
 replace X := Q7x X x2; clear x2
 refine aA rfl (aE rfl (aB (aF (aA rfl (aG lY rfl rfl (aA rfl (aJ b1 zS rfl rfl (aA rfl (aT aCw rfl (aP (tD _ _ _ m.ns _ hm.sn hln (xN hN)) ?_))))))))))
 rintro _ w6 ⟨rfl, x5⟩
 replace hm := hm.ext x5
 replace b1 := b1.ext x5
 replace X := Q7x X x5; clear x5
 refine aA rfl (aE rfl (aB (aR (aF (aA rfl (aE rfl (aB (aX (dG (G := Nat) (fun k => [(1, .pointer (some ⟨g4, 0, none⟩)), (3, .int .i64 (iM m.ns : Nat)), (4, .int .i64 (k : Nat))]) (fun k wr => k ≤ m.ss.length ∧ nY m.d = ((m.ss.drop k).all fun x => pE (iM m.ns) x.desc.node) ∧ Med B wr m ∧ Blk wr g4 28 m.cells ∧ Ext w wr) (fun k => m.ss.length - k) 0 (.cons rfl (.cons rfl (.cons rfl (.nil _)))) ?_ ?_)))))))))
 · exact ⟨by omega, rfl, hm, b1, X⟩
 clear hm b1
 clear X
 rintro k wr ⟨hk0, hi, hm, b1, X⟩
 refine aR (aF (aA rfl (aC rfl (aA rfl (aG fI rfl rfl (aA rfl (aJ b1 kY rfl rfl (aA rfl (bO Tryz.underlying26 rfl (aA rfl (cU rfl rfl (fun hk => ?_) (fun hk => ?_))))))))))))
 obtain ⟨x, hx, dx⟩ := dR hk
 have hxs := aBP (hok x (List.mem_of_getElem? hx))
 refine aB (aQ rfl (aV (aS (aR (aX (aF (aA rfl (aC rfl (aA rfl (aG fI rfl rfl (aA rfl (aJ b1 kY rfl rfl (aA rfl (aC rfl (aA rfl (aU hm.ss SlotI.len rfl gF rfl rfl rfl hx rfl (aA rfl (dF iN rfl (aA rfl (dF kA rfl (aA rfl (sE hm.ss SlotI.len hx dB rfl rfl rfl (aA rfl (cV aEv rfl (aAy _ _ _ hac hxs.2.1) (fun w9 hh x7 => ?_) (fun w9 hh x7 => ?_)))))))))))))))))))))))))
 replace hm := hm.ext x7
 replace b1 := b1.ext x7
 replace X := Q7x X x7; clear x7
 refine aA rfl (bP rfl (aB (aM rfl (aV (dO (aS (aN (aA rfl (aC rfl (aA rfl (aY rfl rfl (dM (by omega)) (aA rfl (aE rfl (aB (aS ⟨k + 1, (.cons rfl (.cons rfl (.cons rfl (.nil _)))), ?_, ?_⟩)))))))))))))))
 · exact ⟨by omega, (by rw [hi, dx, List.all_cons, hh]; rfl), hm, b1, X⟩
 · first | omega | (dsimp only; omega)
 replace hm := hm.ext x7
 replace b1 := b1.ext x7
 replace X := Q7x X x7; clear x7
 refine aA rfl (bP rfl (aB (aQ rfl (aF (aA rfl (aE rfl (aB (aW (dL (bN (bN (dL (bN (aL rfl rfl ?_))))))))))))))
 · skip
   refine ⟨congrArg Value.bool ?_, X⟩
   first | (rw [hi, bL hk]; rfl) | (rw [hi, dx, List.all_cons, hh]; rfl)
 refine aB (aM rfl (dD (dC (dC (eG (aS (aF (aA rfl (aE rfl (aB (aW (aL rfl rfl ?_))))))))))))
 · skip
   refine ⟨congrArg Value.bool ?_, X⟩
   first | (rw [hi, bL hk]; rfl) | (rw [hi, dx, List.all_cons, hh]; rfl)
end Go.Proofs.YtdoibplhbdkapaaGreatDoor
