/- Parts. No condition. -/
import Derived.Test.YtdoibplhbdkapaaGreatDoorDOP14
import Derived.Test.YtdoibplhbdkapaaGreatDoorDOP8
import Derived.Test.YtdoibplhbdkapaaGreatDoorDOP13
import Derived.Test.YtdoibplhbdkapaaGreatDoorDOP9
namespace Go.Proofs.YtdoibplhbdkapaaGreatDoor
open Go.RowKit
set_option linter.unusedVariables false
set_option linter.unusedSimpArgs false
set_option maxRecDepth 20000
theorem aBk (m : MedlI) (B : Nat) (w : World) (hm : Med B w m) (hz : m.small) (hT : jX (m.ms.map (·.m)) = true) (hS : iB m.ss = true) :
   Calls Tryz.prog 227 #[.agg m.cells.toArray] w (fF fun v w' => v = .bool (iW m.d) ∧ Ext w w') := by
 have hls := hz.ls
 have hlm := hz.lm
 have hln := hz.ln
 have Bhm := hm.1
 have X := Q7r w
 refine bJ (args := [.agg m.cells.toArray]) Tryz.func227 Tryz.ntmps227 rfl rfl (aF (aA rfl (eX rfl rfl ?_)))
 intro g4 w3 eg4 b1 x2 zg4
 have lg4 : w.heap.size ≤ g4 := Q7l X.size (Q7e eg4.symm)
 have pg4hm := Q7l hm.1 (Q7e eg4.symm)
 replace hm := hm.ext x2
 replace X := Q7x X x2; clear x2
 refine aA rfl (aE rfl (aB (aF (aA rfl (aE rfl (aB (aR (aF (aA rfl (aE rfl (aB (aX (dG (G := Nat × Int) (fun ⟨k, n⟩ => [(1, .pointer (some ⟨g4, 0, none⟩)), (3, .int .i64 n), (4, .int .i64 (k : Nat))]) (fun ⟨k, n⟩ wr => k ≤ m.ms.length ∧ (0 ≤ n ∧ n ≤ 128 * k) ∧ hM m.ss (jM 0 (m.ms.map (·.m))) 0 = hM m.ss (jM (k : Int) ((m.ms.drop k).map (·.m))) n ∧ Med B wr m ∧ Blk wr g4 28 m.cells ∧ Ext w wr) (fun ⟨k, n⟩ => m.ms.length - k) (0, 0) (.cons rfl (.cons rfl (.cons rfl (.nil _)))) ?_ ?_)))))))))))))
 · exact ⟨by omega, by omega, rfl, hm, b1, X⟩
 clear hm b1
 clear X
 rintro ⟨k, n⟩ wr ⟨hk0, hn, hi, hm, b1, X⟩
 refine aR (aF (aA rfl (aC rfl (aA rfl (aG jF rfl rfl (aA rfl (aJ b1 tZ rfl rfl (aA rfl (bO Tryz.underlying25 rfl (aA rfl (cU rfl rfl (fun hk => ?_) (fun hk => ?_))))))))))))
 obtain ⟨x, hx, dx⟩ := dR hk
 have hxi := qV hT x.m (List.mem_map.2 ⟨x, List.mem_of_getElem? hx, rfl⟩)
 have hmul := aLu hxi.1 hxi.2
 refine aB (aQ rfl (aV (aS (aR (aX (aF (aA rfl (aE rfl (aB (aX (dG (G := Nat × Int) (fun ⟨r, n⟩ => [(1, .pointer (some ⟨g4, 0, none⟩)), (4, .int .i64 (k : Nat)), (7, .int .i64 (k : Nat)), (9, .slice m.Am m.ms.length m.cm), (10, .int .i64 (m.ms.length : Nat)), (3, .int .i64 n), (5, .int .i64 (r : Nat))]) (fun ⟨r, n⟩ wr => (r : Int) ≤ x.m.rounds ∧ (0 ≤ n ∧ n ≤ 128 * k + 16 * r) ∧ hM m.ss (jM 0 (m.ms.map (·.m))) 0 = hM m.ss (aEM k x.m r ++ jM ((k + 1 : Nat) : Int) ((m.ms.drop (k + 1)).map (·.m))) n ∧ Med B wr m ∧ Blk wr g4 28 m.cells ∧ Ext w wr) (fun ⟨r, n⟩ => x.m.rounds.toNat - r) (0, n) (.cons rfl (.cons rfl (.cons rfl (.cons rfl (.cons rfl (.cons rfl (.cons rfl (.nil _)))))))) ?_ ?_)))))))))))
 · exact ⟨by omega, by omega, (by rw [hi, dx]; rfl), hm, b1, X⟩
 clear hm b1
 clear X
 rintro ⟨r, n⟩ wr ⟨hr0, hn2, hi2, hm, b1, X⟩
 refine aR (aF (aA rfl (aC rfl (aA rfl (aG jF rfl rfl (aA rfl (aJ b1 tZ rfl rfl (aA rfl (aC rfl (aA rfl (aU hm.sm ModeI.len rfl kX rfl rfl rfl hx rfl (aA rfl (dF kQ rfl (aA rfl (eF hm.sm ModeI.len hx dB rfl rfl rfl (aA rfl (cU rfl rfl (fun hr => ?_) (fun hr => ?_))))))))))))))))))
 refine aB (aQ rfl (aV (aS (aR (aX (aF (aA rfl (aE rfl (aB (aX (dG (G := Nat × Int) (fun ⟨s, n⟩ => [(1, .pointer (some ⟨g4, 0, none⟩)), (4, .int .i64 (k : Nat)), (5, .int .i64 (r : Nat)), (7, .int .i64 (k : Nat)), (9, .slice m.Am m.ms.length m.cm), (10, .int .i64 (m.ms.length : Nat)), (14, .int .i64 (r : Nat)), (16, .slice m.Am m.ms.length m.cm), (17, .int .i64 (k : Nat)), (3, .int .i64 n), (6, .int .i64 (s : Nat))]) (fun ⟨s, n⟩ wr => (s : Int) ≤ x.m.slots ∧ (0 ≤ n ∧ n ≤ 128 * k + 16 * r + s) ∧ hM m.ss (jM 0 (m.ms.map (·.m))) 0 = hM m.ss ((vG k r x.m.slots.toNat).drop s ++ (aEM k x.m (r + 1) ++ jM ((k + 1 : Nat) : Int) ((m.ms.drop (k + 1)).map (·.m)))) n ∧ Med B wr m ∧ Blk wr g4 28 m.cells ∧ Ext w wr) (fun ⟨s, n⟩ => x.m.slots.toNat - s) (0, n) (.cons rfl (.cons rfl (.cons rfl (.cons rfl (.cons rfl (.cons rfl (.cons rfl (.cons rfl (.cons rfl (.cons rfl (.cons rfl (.nil _)))))))))))) ?_ ?_)))))))))))
 · exact ⟨by omega, by omega, (by rw [hi2, aGi hr, List.append_assoc]; rfl), hm, b1, X⟩
 clear hm b1
 clear X
 rintro ⟨s, n⟩ wr ⟨hs0, hn3, hi3, hm, b1, X⟩
 refine aR (aF (aA rfl (aC rfl (aA rfl (aG jF rfl rfl (aA rfl (aJ b1 tZ rfl rfl (aA rfl (aC rfl (aA rfl (aU hm.sm ModeI.len rfl kX rfl rfl rfl hx rfl (aA rfl (dF iP rfl (aA rfl (eF hm.sm ModeI.len hx dB rfl rfl rfl (aA rfl (cU rfl rfl (fun hs1 => ?_) (fun hs1 => ?_))))))))))))))))))
 refine aB (aQ rfl (aV (aS (aR (aX (aR (aF (aA rfl (aG fI rfl rfl (aA rfl (aJ b1 kY rfl rfl (aA rfl (aC rfl (aA rfl (aC rfl (aA rfl (aC rfl (aA rfl (aT aJM rfl (aP (aFt _ _ _ _ (k : Int) (r : Int) (s : Int) _ hm.ss hls) ?_))))))))))))))))))))
 rintro _ w6 ⟨rfl, x5⟩
 replace hm := hm.ext x5
 replace b1 := b1.ext x5
 replace X := Q7x X x5; clear x5
 refine aA rfl (cU rfl rfl (fun hf => ?_) (fun hf => ?_))
 refine aB (aQ rfl (aF (aA rfl (aE rfl (aB (aW (bN (dL (bN (bN (dL (dL (bN (bN (dL (dL (bN (bN (dL (bN (aL rfl rfl ?_)))))))))))))))))))))
 · skip
   refine ⟨congrArg Value.bool ?_, X⟩
   have e0 : iW m.d = hM m.ss (jM 0 (m.ms.map (·.m))) 0 := (zH (d := m.d) hT hS).symm
   rw [e0]
   first
   | (rw [hi3, yL (by omega), List.cons_append, zJ (k := ((k : Int), (r : Int), (s : Int))) hf]; done)
   | (rw [hi, bL hk]; exact completeS_nil.symm)
 refine aB (aM rfl (aV (aS (aN (aA rfl (aC rfl (aA rfl (aY rfl rfl (dM (by omega)) (aA rfl (aE rfl (aB (dO (aS (aN (aA rfl (aC rfl (aA rfl (aY rfl rfl (dM (by omega)) (aA rfl (aE rfl (aB (aS ⟨(s + 1, n + 1), (.cons rfl (.cons rfl (.cons rfl (.cons rfl (.cons rfl (.cons rfl (.cons rfl (.cons rfl (.cons rfl (.cons rfl (.cons rfl (.nil _)))))))))))), ?_, ?_⟩))))))))))))))))))))))
 · exact ⟨by omega, by omega, (by rw [hi3, yL (by omega), List.cons_append, aDI (k := ((k : Int), (r : Int), (s : Int))) hf]), hm, b1, X⟩
 · first | omega | (dsimp only; omega)
 refine aB (aM rfl (dD (dC (dC (eG (dO (aS (aN (aA rfl (aC rfl (aA rfl (aY rfl rfl (dM (by omega)) (aA rfl (aE rfl (aB (aS ⟨(r + 1, n), (.cons rfl (.cons rfl (.cons rfl (.cons rfl (.cons rfl (.cons rfl (.cons rfl (.nil _)))))))), ?_, ?_⟩))))))))))))))))
 · exact ⟨by omega, by omega, (by rw [hi3, aHT (by omega)]; rfl), hm, b1, X⟩
 · first | omega | (dsimp only; omega)
 refine aB (aM rfl (dD (dC (dC (eG (dO (aS (aN (aA rfl (aC rfl (aA rfl (aY rfl rfl (dM (by omega)) (aA rfl (aE rfl (aB (aS ⟨(k + 1, n), (.cons rfl (.cons rfl (.cons rfl (.nil _)))), ?_, ?_⟩))))))))))))))))
 · exact ⟨by omega, by omega, (by rw [hi2, aHU hr]; rfl), hm, b1, X⟩
 · first | omega | (dsimp only; omega)
 refine aB (aM rfl (dD (dC (dC (eG (aS (aF (aA rfl (aC rfl (aA rfl (aG fI rfl rfl (aA rfl (aJ b1 kY rfl rfl (aA rfl (bO Tryz.underlying26 rfl (aA rfl (jJ rfl rfl (aA rfl (aE rfl (aB (aW (aL rfl rfl ?_))))))))))))))))))))))
 · skip
   refine ⟨congrArg Value.bool ?_, X⟩
   have e0 : iW m.d = hM m.ss (jM 0 (m.ms.map (·.m))) 0 := (zH (d := m.d) hT hS).symm
   rw [e0]
   first
   | (rw [hi3, yL (by omega), List.cons_append, zJ (k := ((k : Int), (r : Int), (s : Int))) hf]; done)
   | (rw [hi, bL hk]; exact completeS_nil.symm)
theorem aB2 (m : MedlI) (B : Nat) (w : World) (hm : Med B w m) (hz : m.small) (hT : jX (m.ms.map (·.m)) = true) (hS : iB m.ss = true) :
   Calls Tryz.prog 185 #[.agg m.cells.toArray] w (fF fun v w' => v = .bool (iW m.d) ∧ Ext w w') := by
 have hls := hz.ls
 have hlm := hz.lm
 have hln := hz.ln
 have Bhm := hm.1
 have X := Q7r w
 refine bJ (args := [.agg m.cells.toArray]) Tryz.func185 Tryz.ntmps185 rfl rfl (aF (aA rfl (eX rfl rfl ?_)))
 intro g4 w3 eg4 b1 x2 zg4
 have lg4 : w.heap.size ≤ g4 := Q7l X.size (Q7e eg4.symm)
 have pg4hm := Q7l hm.1 (Q7e eg4.symm)
 replace hm := hm.ext x2
 replace X := Q7x X x2; clear x2
 refine aA rfl (aE rfl (aB (aF (aA rfl (aE rfl (aB (aR (aF (aA rfl (aG jF rfl rfl (aA rfl (aJ b1 tZ rfl rfl (aA rfl (bO Tryz.underlying25 rfl (aA rfl (aC rfl (aB (aX ?_))))))))))))))))))
 refine dG (G := Nat × Nat) (fun ⟨k, j⟩ => [(1, .pointer (some ⟨g4, 0, none⟩)), (8, .slice m.Am m.ms.length m.cm), (9, .int .i64 (m.ms.length : Nat)), (3, .int .i64 (j : Nat)), (10, .int .i64 (k : Nat))]) (fun ⟨k, j⟩ wr => k ≤ m.ms.length ∧ j ≤ m.ss.length ∧ iW m.d = decide ((m.ss.drop j).map SlotI.key = jM (k : Int) ((m.ms.drop k).map (·.m))) ∧ Med B wr m ∧ Blk wr g4 28 m.cells ∧ Ext w wr) (fun ⟨k, j⟩ => m.ms.length - k) (0, 0) (.cons rfl (.cons rfl (.cons rfl (.cons rfl (.cons rfl (.nil _)))))) ?_ ?_
 · exact ⟨by omega, by omega, rfl, hm, b1, X⟩
 clear hm b1
 clear X
 rintro ⟨k, j⟩ wr ⟨hk0, hj0, hi, hm, b1, X⟩
 refine aF (aA rfl (cU rfl rfl (fun hk => ?_) (fun hk => ?_)))
 obtain ⟨x, hx, dx⟩ := dR hk
 have hxi := qV hT x.m (List.mem_map.2 ⟨x, List.mem_of_getElem? hx, rfl⟩)
 have hmul := aLu hxi.1 hxi.2
 refine aB (aR (aQ rfl (aV (aS (aR (aX (aF (aA rfl (aC rfl (aA rfl (aU hm.sm ModeI.len rfl kX rfl rfl rfl hx rfl (aA rfl (eE hm.sm ModeI.len hx iO rfl (aA rfl (dT iO ?_)))))))))))))))
 intro gX w6 egX bX x5 zgX
 have lgX : w.heap.size ≤ gX := Q7l X.size (Q7e egX.symm)
 have pgXhm := Q7l hm.1 (Q7e egX.symm)
 have ngXb1 := Nat.lt_of_lt_of_eq b1.lt egX.symm
 replace hm := hm.ext x5
 replace b1 := b1.ext x5
 replace X := Q7x X x5; clear x5
 refine aA rfl (aE rfl (aA rfl (bK bX iO rfl rfl rfl rfl rfl rfl ?_)))
 intro w9 bY hg7 z10
 replace hm := hm.grown hg7 (by intro g hg; injection hg; omega)
 replace b1 := b1.grown hg7 (by intro h; injection h; omega)
 replace X := X.grown hg7 X.size (by intro g hg; injection hg; omega)
 clear hg7 bX
 refine aB (aF (aA rfl (aG kQ rfl rfl (aA rfl (aJ bY dB rfl rfl (aA rfl (aG iP rfl rfl (aA rfl (aJ bY dB rfl rfl (aA rfl (fO rfl rfl (dM (by omega)) (aA rfl (aC rfl (aB (aX ?_)))))))))))))))
 refine dG (G := Nat × Nat) (fun ⟨i, j⟩ => [(1, .pointer (some ⟨g4, 0, none⟩)), (4, .int .i64 (k : Nat)), (5, .pointer (some ⟨gX, 0, none⟩)), (8, .slice m.Am m.ms.length m.cm), (9, .int .i64 (m.ms.length : Nat)), (10, .int .i64 (k : Nat)), (12, .int .i64 (k : Nat)), (19, .int .i64 (x.m.rounds * x.m.slots)), (3, .int .i64 (j : Nat)), (20, .int .i64 (i : Nat))]) (fun ⟨i, j⟩ wr => (i : Int) ≤ x.m.rounds * x.m.slots ∧ j ≤ m.ss.length ∧ iW m.d = decide ((m.ss.drop j).map SlotI.key = (vH k x.m).drop i ++ jM ((k + 1 : Nat) : Int) ((m.ms.drop (k + 1)).map (·.m))) ∧ Med B wr m ∧ Blk wr g4 28 m.cells ∧ Blk wr gX 92 x.cells ∧ Ext w wr) (fun ⟨i, j⟩ => (x.m.rounds * x.m.slots).toNat - i) (0, j) (.cons rfl (.cons rfl (.cons rfl (.cons rfl (.cons rfl (.cons rfl (.cons rfl (.cons rfl (.cons rfl (.cons rfl (.nil _))))))))))) ?_ ?_
 · exact ⟨by omega, by omega, (by rw [hi, dx]; rfl), hm, b1, bY, X⟩
 clear hm b1 bY
 clear X
 rintro ⟨i, j⟩ wr ⟨hi0, hj1, hi2, hm, b1, bY, X⟩
 refine aF (aA rfl (cU rfl rfl (fun hi1 => ?_) (fun hi1 => ?_)))
 refine aB (aR (aQ rfl (aV (aS (aR (aX (aF (aA rfl (aC rfl (aA rfl (aE rfl (aB (aR (eK [false, false, false, false, false, false, false, false, false, false, false, false, false, false, false, false, false, false, false, false, false, false, false, false] mixed (by kernel_rfl) (cO rfl (fun wq sq => aC rfl ⟨rfl, Q7r _⟩) (cO rfl (fun wq sq => aG fI rfl rfl ⟨rfl, Q7r _⟩) (cO rfl (fun wq sq => aJ (b1.ext sq) kY rfl rfl ⟨rfl, Q7r _⟩) (cO rfl (fun wq sq => bO Tryz.underlying26 rfl ⟨rfl, Q7r _⟩) (uZ rfl (fun wq sq => jJ rfl rfl ⟨rfl, Q7r _⟩) (fun he => ?_) (fun he => ?_))))))))))))))))))))
 refine cO rfl (fun wq sq => aC rfl ⟨rfl, Q7r _⟩) (dK rfl rfl rfl rfl (dK rfl rfl rfl rfl (dK rfl rfl rfl rfl (dK rfl rfl rfl rfl (dK rfl rfl rfl rfl (dK rfl rfl rfl rfl (dK rfl rfl rfl rfl (dK rfl rfl rfl rfl (dK rfl rfl rfl rfl (dK rfl rfl rfl rfl (dK rfl rfl rfl rfl (dK rfl rfl rfl rfl (dK rfl rfl rfl rfl (dK rfl rfl rfl rfl (dK rfl rfl rfl rfl (dK rfl rfl rfl rfl (dK rfl rfl rfl rfl (cO rfl (fun wq sq => aK rfl rfl ⟨rfl, Q7r _⟩) (dX (fun w11 sq => ?_))))))))))))))))))))
 have xq := sq
 replace hm := hm.ext xq
 replace b1 := b1.ext xq
 replace bY := bY.ext xq
 replace X := Q7x X xq; clear xq sq
 refine aB (aQ rfl (aF (aA rfl (aE rfl (aB (aW (bN (dL (bN (bN (dL (dL (bN (bN (dL (bN (aL rfl rfl ?_)))))))))))))))))
 · skip
   refine ⟨congrArg Value.bool ?_, X⟩
   first
   | (rw [hi2, dz, mE hxi.1.1 hxi.2.1 hi1, List.map_cons, List.cons_append, aCH (a := z.key) (b := ((k : Int), (i : Int) / x.m.slots, (i : Int) % x.m.slots)) (fun e => hc (xH.2 e))]; done)
   | (rw [hi2, mE hxi.1.1 hxi.2.1 hi1, show m.ss.drop j = [] from List.drop_eq_nil_of_le (by omega)]; simp; done)
   | (rw [hi, bL hk, Bool.eq_iff_iff]; simp [jM]; omega)
 obtain ⟨z, hz1, dz⟩ := eL (xs := m.ss) (k := j) (by omega)
 refine cO rfl (fun wq sq => aC rfl ⟨rfl, Q7r _⟩) (dQ rfl rfl rfl (fun wq sq => aG fI rfl rfl ⟨rfl, Q7r _⟩) (dQ rfl rfl rfl (fun wq sq => aJ (b1.ext sq) kY rfl rfl ⟨rfl, Q7r _⟩) (dQ rfl rfl rfl (fun wq sq => aC rfl ⟨rfl, Q7r _⟩) (dQ rfl rfl rfl (fun wq sq => aU ((hm.ext sq)).ss SlotI.len rfl gF rfl rfl rfl hz1 rfl ⟨rfl, Q7r _⟩) (dQ rfl rfl rfl (fun wq sq => eE ((hm.ext sq)).ss SlotI.len hz1 eQ rfl ⟨rfl, Q7r _⟩) (dQ rfl rfl rfl (fun wq sq => aC rfl ⟨rfl, Q7r _⟩) (dQ rfl rfl rfl (fun wq sq => aC rfl ⟨rfl, Q7r _⟩) (dQ rfl rfl rfl (fun wq sq => aG iP rfl rfl ⟨rfl, Q7r _⟩) (dQ rfl rfl rfl (fun wq sq => aJ (bY.ext sq) dB rfl rfl ⟨rfl, Q7r _⟩) ?_)))))))))
 refine dQ rfl rfl rfl (fun wq sq => gK rfl rfl (by omega) (vK (by omega)) ⟨rfl, Q7r _⟩) (dQ rfl rfl rfl (fun wq sq => aC rfl ⟨rfl, Q7r _⟩) (dQ rfl rfl rfl (fun wq sq => aG iP rfl rfl ⟨rfl, Q7r _⟩) (dQ rfl rfl rfl (fun wq sq => aJ (bY.ext sq) dB rfl rfl ⟨rfl, Q7r _⟩) (dQ rfl rfl rfl (fun wq sq => fK rfl rfl (by omega) (qZ (by omega)) ⟨rfl, Q7r _⟩) (dQ rfl rfl rfl (fun wq sq => dA qY eQ rfl rfl ⟨rfl, Q7r _⟩) (dQ rfl rfl rfl (fun wq sq => aT aHE rfl (sY z ⟨(k : Int), (i : Int) / x.m.slots, (i : Int) % x.m.slots, ⟨0, 0, 0, 0, false⟩⟩ _)) (qN rfl rfl rfl (fun wq sq => nE rfl rfl ⟨rfl, Q7r _⟩) (fun hc => ?_) (fun hc => ?_))))))))
 refine cO rfl (fun wq sq => aK rfl rfl ⟨rfl, Q7r _⟩) (dX (fun w12 sq => ?_))
 have xq := sq
 replace hm := hm.ext xq
 replace b1 := b1.ext xq
 replace bY := bY.ext xq
 replace X := Q7x X xq; clear xq sq
 refine aB (aQ rfl (aF (aA rfl (aE rfl (aB (aW (bN (dL (bN (bN (dL (dL (bN (bN (dL (bN (aL rfl rfl ?_)))))))))))))))))
 · skip
   refine ⟨congrArg Value.bool ?_, X⟩
   first
   | (rw [hi2, dz, mE hxi.1.1 hxi.2.1 hi1, List.map_cons, List.cons_append, aCH (a := z.key) (b := ((k : Int), (i : Int) / x.m.slots, (i : Int) % x.m.slots)) (fun e => hc (xH.2 e))]; done)
   | (rw [hi2, mE hxi.1.1 hxi.2.1 hi1, show m.ss.drop j = [] from List.drop_eq_nil_of_le (by omega)]; simp; done)
   | (rw [hi, bL hk, Bool.eq_iff_iff]; simp [jM]; omega)
 refine cO rfl (fun wq sq => aK rfl rfl ⟨rfl, Q7r _⟩) (dX (fun w13 sq => ?_))
 have xq := sq
 replace hm := hm.ext xq
 replace b1 := b1.ext xq
 replace bY := bY.ext xq
 replace X := Q7x X xq; clear xq sq
 refine aB (aM rfl (aV (aS (aN (aA rfl (aC rfl (aA rfl (aY rfl rfl (dM (by omega)) (aA rfl (aE rfl (aB (dO (aS (aN (aA rfl (aY rfl rfl (dM (by omega)) (aA rfl (aC rfl (aB (aS ⟨(i + 1, j + 1), (.cons rfl (.cons rfl (.cons rfl (.cons rfl (.cons rfl (.cons rfl (.cons rfl (.cons rfl (.cons rfl (.cons rfl (.nil _))))))))))), ?_, ?_⟩))))))))))))))))))))
 · exact ⟨by omega, by omega, (by rw [hi2, dz, mE hxi.1.1 hxi.2.1 hi1, List.map_cons, List.cons_append, aGh (a := z.key) (b := ((k : Int), (i : Int) / x.m.slots, (i : Int) % x.m.slots)) (xH.1 (Classical.not_not.1 hc))]), hm, b1, bY, X⟩
 · first | omega | (dsimp only; omega)
 refine aB (aR (aM rfl (dD (dC (dC (eG (dO (aS (aN (aA rfl (aY rfl rfl (dM (by omega)) (aA rfl (aC rfl (aB (aS ⟨(k + 1, j), (.cons rfl (.cons rfl (.cons rfl (.cons rfl (.cons rfl (.nil _)))))), ?_, ?_⟩)))))))))))))))
 · exact ⟨by omega, by omega, (by rw [hi2, aHS hxi.1.1 hxi.2.1 hi1]; rfl), hm, b1, X⟩
 · first | omega | (dsimp only; omega)
 refine aB (aR (aM rfl (dD (dC (dC (eG (aS (aF (aA rfl (aC rfl (aA rfl (aG fI rfl rfl (aA rfl (aJ b1 kY rfl rfl (aA rfl (bO Tryz.underlying26 rfl (aA rfl (jJ rfl rfl (aA rfl (aE rfl (aB (aW (aL rfl rfl ?_)))))))))))))))))))))))
 · skip
   refine ⟨congrArg Value.bool ?_, X⟩
   first
   | (rw [hi2, dz, mE hxi.1.1 hxi.2.1 hi1, List.map_cons, List.cons_append, aCH (a := z.key) (b := ((k : Int), (i : Int) / x.m.slots, (i : Int) % x.m.slots)) (fun e => hc (xH.2 e))]; done)
   | (rw [hi2, mE hxi.1.1 hxi.2.1 hi1, show m.ss.drop j = [] from List.drop_eq_nil_of_le (by omega)]; simp; done)
   | (rw [hi, bL hk, Bool.eq_iff_iff]; simp [jM]; omega)
theorem aDT (m : MedlI) (B : Nat) (w : World) (hm : Med B w m) (hz : m.small) (hT : jX (m.ms.map (·.m)) = true) (hS : iB m.ss = true) (hC : iW m.d = true) :
   Calls Tryz.prog 187 #[.agg m.cells.toArray] w (fF fun v w' => v = .bool (qH m.ss) ∧ Ext w w') := by
 have hls := hz.ls
 have hlm := hz.lm
 have hln := hz.ln
 have Bhm := hm.1
 have X := Q7r w
 refine bJ (args := [.agg m.cells.toArray]) Tryz.func187 Tryz.ntmps187 rfl rfl (aF (aA rfl (eX rfl rfl ?_)))
 intro g4 w3 eg4 b1 x2 zg4
 have lg4 : w.heap.size ≤ g4 := Q7l X.size (Q7e eg4.symm)
 have pg4hm := Q7l hm.1 (Q7e eg4.symm)
 replace hm := hm.ext x2
 replace X := Q7x X x2; clear x2
 refine aA rfl (aE rfl (aB (aR (aF (aA rfl (aG fI rfl rfl (aA rfl (aJ b1 kY rfl rfl (aA rfl (bO Tryz.underlying26 rfl (aA rfl (aC rfl (aB (aX (dG (G := Nat) (fun k => [(1, .pointer (some ⟨g4, 0, none⟩)), (7, .slice m.As m.ss.length m.cs), (8, .int .i64 (m.ss.length : Nat)), (9, .int .i64 (k : Nat))]) (fun k wr => k ≤ m.ss.length ∧ xJ m.ss = (m.ss.drop k).all (qI m.ss) ∧ Med B wr m ∧ Blk wr g4 28 m.cells ∧ Ext w wr) (fun k => m.ss.length - k) 0 (.cons rfl (.cons rfl (.cons rfl (.cons rfl (.nil _))))) ?_ ?_)))))))))))))))
 · exact ⟨by omega, rfl, hm, b1, X⟩
 clear hm b1
 clear X
 rintro k wr ⟨hk0, hi, hm, b1, X⟩
 refine aF (aA rfl (cU rfl rfl (fun hk => ?_) (fun hk => ?_)))
 obtain ⟨x, hx, dx⟩ := dR hk
 obtain ⟨j, y, hj, hy, hym, hys⟩ := xM (d := m.d) hT hC (List.mem_of_getElem? hx)
 have hy : m.ss[j]? = some y := hy
 have hj : iC (nA x.mode 0 x.slot) 0 m.ss = (j : Int) := hj
 refine aB (aR (aQ rfl (aV (aS (aR (aX (aF (aA rfl (aU hm.ss SlotI.len rfl gF rfl rfl rfl hx rfl (aA rfl (eE hm.ss SlotI.len hx eQ rfl (aA rfl (dT eQ ?_)))))))))))))
 intro gX w6 egX bX x5 zgX
 have lgX : w.heap.size ≤ gX := Q7l X.size (Q7e egX.symm)
 have pgXhm := Q7l hm.1 (Q7e egX.symm)
 have ngXb1 := Nat.lt_of_lt_of_eq b1.lt egX.symm
 replace hm := hm.ext x5
 replace b1 := b1.ext x5
 replace X := Q7x X x5; clear x5
 refine aA rfl (bK bX eQ rfl rfl rfl rfl rfl rfl ?_)
 intro w9 bY hg7 z10
 replace hm := hm.grown hg7 (by intro g hg; injection hg; omega)
 replace b1 := b1.grown hg7 (by intro h; injection h; omega)
 replace X := X.grown hg7 X.size (by intro g hg; injection hg; omega)
 clear hg7 bX
 refine aB ?_
 have Rhm := hm.1
 refine eK [false, false, false, false, false, false, false, false, false, false, false, true] mixed (by kernel_rfl) (cO rfl (fun wq sq => aG fI rfl rfl ⟨rfl, Q7r _⟩) (cO rfl (fun wq sq => aJ (b1.ext sq) kY rfl rfl ⟨rfl, Q7r _⟩) (cO rfl (fun wq sq => aG fI rfl rfl ⟨rfl, Q7r _⟩) (cO rfl (fun wq sq => aJ (b1.ext sq) kY rfl rfl ⟨rfl, Q7r _⟩) (cO rfl (fun wq sq => aG iA rfl rfl ⟨rfl, Q7r _⟩) (cO rfl (fun wq sq => aJ (bY.ext sq) dB rfl rfl ⟨rfl, Q7r _⟩) (cO rfl (fun wq sq => aG kB rfl rfl ⟨rfl, Q7r _⟩) (cO rfl (fun wq sq => aJ (bY.ext sq) dB rfl rfl ⟨rfl, Q7r _⟩) (cO rfl (fun wq sq => aT aJL rfl (aDS _ _ _ _ x.mode 0 x.slot _ (hm.ext sq).ss hls)) ?_)))))))))
 refine cO rfl (fun wq sq => aU ((hm.ext sq)).ss SlotI.len rfl gF rfl rfl rfl hy hj ⟨rfl, Q7r _⟩) (cO rfl (fun wq sq => eE ((hm.ext sq)).ss SlotI.len hy eQ rfl ⟨rfl, Q7r _⟩) (zL (fun gZ : Nat => Value.pointer (some ⟨gZ, 0, none⟩)) (fun gZ wz => Blk wz gZ 89 (⟨0, 0, 0, ⟨0, 0, 0, 0, false⟩⟩ : SlotI).cells ∧ w.heap.size ≤ gZ ∧ w9.heap.size ≤ gZ ∧ g4 < gZ ∧ gX < gZ) 0 rfl ⟨zX, fun _ _ _ h k => ⟨h.1.ext k, h.2⟩, fun wq sq => dT eQ (fun g w' hg hb hx hz => ⟨g, rfl, ⟨hb, Q7l (Q7l X.size (sq).size) (Q7e hg.symm), Q7l (sq).size (Q7e hg.symm), Nat.lt_of_lt_of_eq (b1.ext sq).lt hg.symm, Nat.lt_of_lt_of_eq (bY.ext sq).lt hg.symm⟩, hx⟩)⟩ ?_))
 intro gZ
 refine dX (fun w11 sq => ?_)
 have xq := sq.1
 have bZ := sq.2.1
 have lgZ := sq.2.2.1
 have rgZ := sq.2.2.2.1
 have ngZg4 := sq.2.2.2.2.1
 have ngZgX := sq.2.2.2.2.2
 replace hm := hm.ext xq
 replace b1 := b1.ext xq
 replace bY := bY.ext xq
 replace X := Q7x X xq; clear xq sq
 refine aA rfl (bK bZ eQ rfl rfl rfl rfl rfl rfl ?_)
 intro w13 bW hg12 z14
 replace hm := hm.grown hg12 (by intro g hg; injection hg; omega)
 replace b1 := b1.grown hg12 (by intro h; injection h; omega)
 replace bY := bY.grown hg12 (by intro h; injection h; omega)
 replace X := X.grown hg12 X.size (by intro g hg; injection hg; omega)
 clear hg12 bZ
 refine aB (aF (aA rfl (aG iN rfl rfl (aA rfl (aG fC rfl rfl (aA rfl (aJ bY dB rfl rfl (aA rfl (aG iN rfl rfl (aA rfl (aG fC rfl rfl (aA rfl (aJ bW dB rfl rfl (aA rfl (gH rfl rfl (fun hd => ?_) (fun hd => ?_))))))))))))))))
 refine aB (aQ rfl (aF (aA rfl (aE rfl (aB (aW (dL (bN (bN (dL (bN (aL rfl rfl ?_))))))))))))
 · skip
   refine ⟨congrArg Value.bool ?_, X⟩
   show _ = qH m.d.ss
   rw [← aBc (d := m.d) hT hC]
   show _ = xJ m.ss
   first
   | (rw [hi, bL hk]; rfl)
   | (have e : qI m.ss x = false := by simp only [qI, hj, Int.toNat_natCast, hy, decide_eq_false_iff_not]; omega
      rw [hi, dx, List.all_cons, e]; rfl)
 refine aB (aM rfl (aV (dO (aS (aN (aA rfl (aY rfl rfl (dM (by omega)) (aA rfl (aC rfl (aB (aS ⟨k + 1, (.cons rfl (.cons rfl (.cons rfl (.cons rfl (.nil _))))), ?_, ?_⟩)))))))))))
 · skip
   exact ⟨by omega, (by
     have e : qI m.ss x = true := by simp only [qI, hj, Int.toNat_natCast, hy, decide_eq_true_eq]; omega
     rw [hi, dx, List.all_cons, e]; rfl), hm, b1, X⟩
 · first | omega | (dsimp only; omega)
 refine aB (aR (aM rfl (dD (dC (dC (eG (aS (aF (aA rfl (aE rfl (aB (aW (aL rfl rfl ?_)))))))))))))
 · skip
   refine ⟨congrArg Value.bool ?_, X⟩
   show _ = qH m.d.ss
   rw [← aBc (d := m.d) hT hC]
   show _ = xJ m.ss
   first
   | (rw [hi, bL hk]; rfl)
   | (have e : qI m.ss x = false := by simp only [qI, hj, Int.toNat_natCast, hy, decide_eq_false_iff_not]; omega
      rw [hi, dx, List.all_cons, e]; rfl)
theorem aAz (m : MedlI) (B : Nat) (w : World) (hm : Med B w m) (hz : m.small) :
   Calls Tryz.prog 229 #[.agg m.cells.toArray] w (fF fun v w' => v = .bool (qH m.ss) ∧ Ext w w') := by
 have hls := hz.ls
 have hlm := hz.lm
 have hln := hz.ln
 have Bhm := hm.1
 have X := Q7r w
 refine bJ (args := [.agg m.cells.toArray]) Tryz.func229 Tryz.ntmps229 rfl rfl (aF (aA rfl (eX rfl rfl ?_)))
 intro gM w2 egM bM x1 zgM
 have lgM : w.heap.size ≤ gM := Q7l X.size (Q7e egM.symm)
 have pgMhm := Q7l hm.1 (Q7e egM.symm)
 replace hm := hm.ext x1
 replace X := Q7x X x1; clear x1
 refine aA rfl (aE rfl (aB (aR (aF (aA rfl (aE rfl (aB (aX (dG (G := Nat) (fun k => [(1, .pointer (some ⟨gM, 0, none⟩)), (3, .int .i64 (k : Nat))]) (fun k wr => k ≤ m.ss.length ∧ aBa [] m.ss = aBa (m.ss.take k) (m.ss.drop k) ∧ Med B wr m ∧ Blk wr gM 28 m.cells ∧ Ext w wr) (fun k => m.ss.length - k) 0 (.cons rfl (.cons rfl (.nil _))) ?_ ?_)))))))))
 · exact ⟨by omega, rfl, hm, bM, X⟩
 clear hm bM
 clear X
 rintro k wr ⟨hk0, hi, hm, bM, X⟩
 refine aR (aF (aA rfl (aC rfl (aA rfl (aG fI rfl rfl (aA rfl (aJ bM kY rfl rfl (aA rfl (bO Tryz.underlying26 rfl (aA rfl (cU rfl rfl (fun hk => ?_) (fun hk => ?_))))))))))))
 obtain ⟨x, hx, dx⟩ := dR hk
 refine aB (aQ rfl (aV (aS (aR (aX (aF (aA rfl (aE rfl (aB (aX (dG (G := Nat) (fun j => [(1, .pointer (some ⟨gM, 0, none⟩)), (3, .int .i64 (k : Nat)), (7, .int .i64 (k : Nat)), (9, .slice m.As m.ss.length m.cs), (10, .int .i64 (m.ss.length : Nat)), (4, .int .i64 (j : Nat))]) (fun j wr => j ≤ k ∧ (m.ss.take k).all (lQ x) = ((m.ss.take k).drop j).all (lQ x) ∧ Med B wr m ∧ Blk wr gM 28 m.cells ∧ Ext w wr) (fun j => k - j) 0 (.cons rfl (.cons rfl (.cons rfl (.cons rfl (.cons rfl (.cons rfl (.nil _))))))) ?_ ?_)))))))))))
 · exact ⟨by omega, rfl, hm, bM, X⟩
 clear hm bM
 clear X
 rintro j wr ⟨hj0, hj2, hm, bM, X⟩
 refine aR (aF (aA rfl (aC rfl (aA rfl (aC rfl (aA rfl (cU rfl rfl (fun hj => ?_) (fun hj => ?_))))))))
 have hq : (m.ss.take k).length = k := by simp; omega
 obtain ⟨z, hz1, dz⟩ := dR (xs := m.ss.take k) (k := j) (by omega)
 have hz2 : m.ss[j]? = some z := by
   rw [List.getElem?_take] at hz1
   split at hz1 <;> simp_all
 refine aB (aQ rfl (aV (aS (aR (aX (tT (fun wz => Med B wz m ∧ Blk wz gM 28 m.cells) mixed ?_))))))
 obtain ⟨w3, ew3⟩ : ∃ wy, wy = World.drew wr := ⟨_, rfl⟩
 rw [← ew3]
 have xd : Ext wr w3 := ew3 ▸ Ext.drew wr
 replace hm := hm.ext xd
 replace bM := bM.ext xd
 replace X := Q7x X xd; clear xd ew3
 refine dH 0 rfl (by kernel_rfl) rfl (by kernel_rfl) (listed' := #[true, false, false, false, false, false, false, false, false, false, false, false, false, false]) rfl (fun wq sq => aG fI rfl rfl ⟨rfl, rfl⟩) (dH 1 rfl (by kernel_rfl) rfl (by kernel_rfl) (listed' := #[true, true, false, false, false, false, false, false, false, false, false, false, false, false]) rfl (fun wq sq => aJ sq.2 kY rfl rfl ⟨rfl, rfl⟩) (dH 2 rfl (by kernel_rfl) rfl (by kernel_rfl) (listed' := #[true, true, true, false, false, false, false, false, false, false, false, false, false, false]) rfl (fun wq sq => aC rfl ⟨rfl, rfl⟩) ?_))
 refine dH 3 rfl (by kernel_rfl) rfl (by kernel_rfl) (listed' := #[true, true, true, true, false, false, false, false, false, false, false, false, false, false]) rfl (fun wq sq => aU (sq.1).ss SlotI.len rfl gF rfl rfl rfl hx rfl ⟨rfl, rfl⟩) (dH 4 rfl (by kernel_rfl) rfl (by kernel_rfl) (listed' := #[true, true, true, true, true, false, false, false, false, false, false, false, false, false]) rfl (fun wq sq => eE (sq.1).ss SlotI.len hx eQ rfl ⟨rfl, rfl⟩) (dH 5 rfl (by kernel_rfl) rfl (by kernel_rfl) (listed' := #[true, true, true, true, true, true, false, false, false, false, false, false, false, false]) rfl (fun wq sq => aG fI rfl rfl ⟨rfl, rfl⟩) ?_))
 refine dH 6 rfl (by kernel_rfl) rfl (by kernel_rfl) (listed' := #[true, true, true, true, true, true, true, false, false, false, false, false, false, false]) rfl (fun wq sq => aJ sq.2 kY rfl rfl ⟨rfl, rfl⟩) (dH 7 rfl (by kernel_rfl) rfl (by kernel_rfl) (listed' := #[true, true, true, true, true, true, true, true, false, false, false, false, false, false]) rfl (fun wq sq => aC rfl ⟨rfl, rfl⟩) (dH 8 rfl (by kernel_rfl) rfl (by kernel_rfl) (listed' := #[true, true, true, true, true, true, true, true, true, false, false, false, false, false]) rfl (fun wq sq => aU (sq.1).ss SlotI.len rfl gF rfl rfl rfl hz2 rfl ⟨rfl, rfl⟩) ?_))
 refine dH 9 rfl (by kernel_rfl) rfl (by kernel_rfl) (listed' := #[true, true, true, true, true, true, true, true, true, true, false, false, false, false]) rfl (fun wq sq => eE (sq.1).ss SlotI.len hz2 eQ rfl ⟨rfl, rfl⟩) (aG7 10 11 rfl rfl rfl rfl (by kernel_rfl) (listed' := #[true, true, true, true, true, true, true, true, true, true, true, false, false, false]) (listed'' := #[true, true, true, true, true, true, true, true, true, true, false, true, false, false]) rfl rfl ⟨hm, bM⟩ ?_ ?_)
 refine (dT eQ ?_)
 intro gA w5 egA bA x4 zgA
 have lgA : w.heap.size ≤ gA := Q7l X.size (Q7e egA.symm)
 have pgAhm := Q7l hm.1 (Q7e egA.symm)
 have ngAbM := Nat.lt_of_lt_of_eq bM.lt egA.symm
 replace hm := hm.ext x4
 replace bM := bM.ext x4
 replace X := Q7x X x4; clear x4
 refine hU 11 rfl rfl (by kernel_rfl) (listed' := #[true, true, true, true, true, true, true, true, true, true, true, true, false, false]) rfl ⟨hm, bM⟩ (dT eQ ?_)
 intro gC w7 egC bC x6 zgC
 have lgC : w.heap.size ≤ gC := Q7l X.size (Q7e egC.symm)
 have pgChm := Q7l hm.1 (Q7e egC.symm)
 have ngCbM := Nat.lt_of_lt_of_eq bM.lt egC.symm
 have ngCbA := Nat.lt_of_lt_of_eq bA.lt egC.symm
 replace hm := hm.ext x6
 replace bM := bM.ext x6
 replace bA := bA.ext x6
 replace X := Q7x X x6; clear x6
 refine hU 12 rfl rfl (by kernel_rfl) (listed' := #[true, true, true, true, true, true, true, true, true, true, true, true, true, false]) rfl ⟨hm, bM⟩ (bK bA eQ rfl rfl rfl rfl rfl rfl ?_)
 intro w9 bA2 hg8 z10
 replace hm := hm.grown hg8 (by intro g hg; injection hg; omega)
 replace bM := bM.grown hg8 (by intro h; injection h; omega)
 replace bC := bC.grown hg8 (by intro h; injection h; omega)
 replace X := X.grown hg8 X.size (by intro g hg; injection hg; omega)
 clear hg8 bA
 refine hU 13 rfl rfl (by kernel_rfl) (listed' := #[true, true, true, true, true, true, true, true, true, true, true, true, true, true]) rfl ⟨hm, bM⟩ (bK bC eQ rfl rfl rfl rfl rfl rfl ?_)
 intro w12 bC2 hg11 z13
 replace hm := hm.grown hg11 (by intro g hg; injection hg; omega)
 replace bM := bM.grown hg11 (by intro h; injection h; omega)
 replace bA2 := bA2.grown hg11 (by intro h; injection h; omega)
 replace X := X.grown hg11 X.size (by intro g hg; injection hg; omega)
 clear hg11 bC
 refine jE rfl ⟨hm, bM⟩ (fun aj fj => ⟨_, fj, aF (aA rfl (aG iA rfl rfl (aA rfl (aJ bA2 dB rfl rfl (aA rfl (aG iA rfl rfl (aA rfl (aJ bC2 dB rfl rfl (aA rfl (dP rfl rfl (fun e1 => ?_) (fun e1 => ?_)))))))))))⟩)
 refine aA rfl (aC rfl (aI rfl rfl rfl (aG kB rfl rfl (aI rfl rfl rfl (aJ bA2 dB rfl rfl (aI rfl rfl rfl (aG kB rfl rfl (aI rfl rfl rfl (aJ bC2 dB rfl rfl (aI rfl rfl rfl (dP rfl rfl (fun e2 => ?_) (fun e2 => ?_))))))))))))
 refine aA rfl (aK rfl rfl (aA rfl (aC rfl (aI rfl rfl rfl (aG iN rfl rfl (aI rfl rfl rfl (aG fC rfl rfl (aI rfl rfl rfl (aJ bA2 dB rfl rfl (aI rfl rfl rfl (aG iN rfl rfl (aI rfl rfl rfl (aG fC rfl rfl (aI rfl rfl rfl (aJ bC2 dB rfl rfl (aI rfl rfl rfl (gH rfl rfl (fun e3 => ?_) (fun e3 => ?_))))))))))))))))))
 refine aA rfl (aK rfl rfl (aB (aQ rfl (aF (aA rfl (aE rfl (aB (aW (dL (bN (bN (dL (dL (bN (bN (dL (bN (aL rfl rfl ?_))))))))))))))))))
 · skip
   refine ⟨congrArg Value.bool ?_, X⟩
   rw [← aCE]
   first
   | (have e := yQ (r := (m.ss.take k).drop (j + 1)) (l := []) hj2 dz (yP ⟨e1, e2, e3⟩)
      rw [hi, dx, aBa, e]; rfl)
   | (rw [hi, bL hk]; rfl)
 refine aA rfl (aK rfl rfl (aB (aM rfl (aV (dO (aS (aN (aA rfl (aC rfl (aA rfl (aY rfl rfl (dM (by omega)) (aA rfl (aE rfl (aB (aS ⟨j + 1, (.cons rfl (.cons rfl (.cons rfl (.cons rfl (.cons rfl (.cons rfl (.nil _))))))), ?_, ?_⟩)))))))))))))))
 · exact ⟨by omega, (by rw [hj2, dz, List.all_cons, rP (by omega)]; rfl), hm, bM, X⟩
 · first | omega | (dsimp only; omega)
 refine aA rfl (aK rfl rfl (aA rfl (aC rfl (aH rfl rfl rfl rfl (aH rfl rfl rfl rfl (aH rfl rfl rfl rfl (aH rfl rfl rfl rfl (aH rfl rfl rfl rfl (aH rfl rfl rfl rfl (aH rfl rfl rfl rfl (aA rfl (aK rfl rfl (aB (aM rfl (aV (dO (aS (aN (aA rfl (aC rfl (aA rfl (aY rfl rfl (dM (by omega)) (aA rfl (aE rfl (aB (aS ⟨j + 1, (.cons rfl (.cons rfl (.cons rfl (.cons rfl (.cons rfl (.cons rfl (.nil _))))))), ?_, ?_⟩))))))))))))))))))))))))))
 · exact ⟨by omega, (by rw [hj2, dz, List.all_cons, rP (by omega)]; rfl), hm, bM, X⟩
 · first | omega | (dsimp only; omega)
 refine aA rfl (aC rfl (aH rfl rfl rfl rfl (aH rfl rfl rfl rfl (aH rfl rfl rfl rfl (aH rfl rfl rfl rfl (aH rfl rfl rfl rfl (aA rfl (aK rfl rfl (aA rfl (aC rfl (aH rfl rfl rfl rfl (aH rfl rfl rfl rfl (aH rfl rfl rfl rfl (aH rfl rfl rfl rfl (aH rfl rfl rfl rfl (aH rfl rfl rfl rfl (aH rfl rfl rfl rfl (aA rfl (aK rfl rfl (aB (aM rfl (aV (dO (aS (aN (aA rfl (aC rfl (aA rfl (aY rfl rfl (dM (by omega)) (aA rfl (aE rfl (aB (aS ⟨j + 1, (.cons rfl (.cons rfl (.cons rfl (.cons rfl (.cons rfl (.cons rfl (.nil _))))))), ?_, ?_⟩)))))))))))))))))))))))))))))))))
 · exact ⟨by omega, (by rw [hj2, dz, List.all_cons, rP (by omega)]; rfl), hm, bM, X⟩
 · first | omega | (dsimp only; omega)
 refine (dT eQ ?_)
 intro gC w15 egC bC x14 zgC
 have lgC : w.heap.size ≤ gC := Q7l X.size (Q7e egC.symm)
 have pgChm := Q7l hm.1 (Q7e egC.symm)
 have ngCbM := Nat.lt_of_lt_of_eq bM.lt egC.symm
 replace hm := hm.ext x14
 replace bM := bM.ext x14
 replace X := Q7x X x14
 refine hU 10 rfl rfl (by kernel_rfl) (listed' := #[true, true, true, true, true, true, true, true, true, true, true, true, false, false]) rfl ⟨hm, bM⟩ (dT eQ ?_)
 intro gA w17 egA bA x16 zgA
 have lgA : w.heap.size ≤ gA := Q7l X.size (Q7e egA.symm)
 have pgAhm := Q7l hm.1 (Q7e egA.symm)
 have ngAbM := Nat.lt_of_lt_of_eq bM.lt egA.symm
 have ngAbC := Nat.lt_of_lt_of_eq bC.lt egA.symm
 replace hm := hm.ext x16
 replace bM := bM.ext x16
 replace bC := bC.ext x16
 replace X := Q7x X x16
 refine hU 12 rfl rfl (by kernel_rfl) (listed' := #[true, true, true, true, true, true, true, true, true, true, true, true, true, false]) rfl ⟨hm, bM⟩ (bK bA eQ rfl rfl rfl rfl rfl rfl ?_)
 intro w19 bA2 hg18 z20
 replace hm := hm.grown hg18 (by intro g hg; injection hg; omega)
 replace bM := bM.grown hg18 (by intro h; injection h; omega)
 replace bC := bC.grown hg18 (by intro h; injection h; omega)
 replace X := X.grown hg18 X.size (by intro g hg; injection hg; omega)
 clear hg18 bA
 refine hU 13 rfl rfl (by kernel_rfl) (listed' := #[true, true, true, true, true, true, true, true, true, true, true, true, true, true]) rfl ⟨hm, bM⟩ (bK bC eQ rfl rfl rfl rfl rfl rfl ?_)
 intro w22 bC2 hg21 z23
 replace hm := hm.grown hg21 (by intro g hg; injection hg; omega)
 replace bM := bM.grown hg21 (by intro h; injection h; omega)
 replace bA2 := bA2.grown hg21 (by intro h; injection h; omega)
 replace X := X.grown hg21 X.size (by intro g hg; injection hg; omega)
 clear hg21 bC
 refine jE rfl ⟨hm, bM⟩ (fun aj fj => ⟨_, fj, aF (aA rfl (aG iA rfl rfl (aA rfl (aJ bA2 dB rfl rfl (aA rfl (aG iA rfl rfl (aA rfl (aJ bC2 dB rfl rfl (aA rfl (dP rfl rfl (fun e1 => ?_) (fun e1 => ?_)))))))))))⟩)
 refine aA rfl (aC rfl (aI rfl rfl rfl (aG kB rfl rfl (aI rfl rfl rfl (aJ bA2 dB rfl rfl (aI rfl rfl rfl (aG kB rfl rfl (aI rfl rfl rfl (aJ bC2 dB rfl rfl (aI rfl rfl rfl (dP rfl rfl (fun e2 => ?_) (fun e2 => ?_))))))))))))
 refine aA rfl (aK rfl rfl (aA rfl (aC rfl (aI rfl rfl rfl (aG iN rfl rfl (aI rfl rfl rfl (aG fC rfl rfl (aI rfl rfl rfl (aJ bA2 dB rfl rfl (aI rfl rfl rfl (aG iN rfl rfl (aI rfl rfl rfl (aG fC rfl rfl (aI rfl rfl rfl (aJ bC2 dB rfl rfl (aI rfl rfl rfl (gH rfl rfl (fun e3 => ?_) (fun e3 => ?_))))))))))))))))))
 refine aA rfl (aK rfl rfl (aB (aQ rfl (aF (aA rfl (aE rfl (aB (aW (dL (bN (bN (dL (dL (bN (bN (dL (bN (aL rfl rfl ?_))))))))))))))))))
 · skip
   refine ⟨congrArg Value.bool ?_, X⟩
   rw [← aCE]
   first
   | (have e := yQ (r := (m.ss.take k).drop (j + 1)) (l := []) hj2 dz (yP ⟨e1, e2, e3⟩)
      rw [hi, dx, aBa, e]; rfl)
   | (rw [hi, bL hk]; rfl)
 refine aA rfl (aK rfl rfl (aB (aM rfl (aV (dO (aS (aN (aA rfl (aC rfl (aA rfl (aY rfl rfl (dM (by omega)) (aA rfl (aE rfl (aB (aS ⟨j + 1, (.cons rfl (.cons rfl (.cons rfl (.cons rfl (.cons rfl (.cons rfl (.nil _))))))), ?_, ?_⟩)))))))))))))))
 · exact ⟨by omega, (by rw [hj2, dz, List.all_cons, rP (by omega)]; rfl), hm, bM, X⟩
 · first | omega | (dsimp only; omega)
 refine aA rfl (aK rfl rfl (aA rfl (aC rfl (aH rfl rfl rfl rfl (aH rfl rfl rfl rfl (aH rfl rfl rfl rfl (aH rfl rfl rfl rfl (aH rfl rfl rfl rfl (aH rfl rfl rfl rfl (aH rfl rfl rfl rfl (aA rfl (aK rfl rfl (aB (aM rfl (aV (dO (aS (aN (aA rfl (aC rfl (aA rfl (aY rfl rfl (dM (by omega)) (aA rfl (aE rfl (aB (aS ⟨j + 1, (.cons rfl (.cons rfl (.cons rfl (.cons rfl (.cons rfl (.cons rfl (.nil _))))))), ?_, ?_⟩))))))))))))))))))))))))))
 · exact ⟨by omega, (by rw [hj2, dz, List.all_cons, rP (by omega)]; rfl), hm, bM, X⟩
 · first | omega | (dsimp only; omega)
 refine aA rfl (aC rfl (aH rfl rfl rfl rfl (aH rfl rfl rfl rfl (aH rfl rfl rfl rfl (aH rfl rfl rfl rfl (aH rfl rfl rfl rfl (aA rfl (aK rfl rfl (aA rfl (aC rfl (aH rfl rfl rfl rfl (aH rfl rfl rfl rfl (aH rfl rfl rfl rfl (aH rfl rfl rfl rfl (aH rfl rfl rfl rfl (aH rfl rfl rfl rfl (aH rfl rfl rfl rfl (aA rfl (aK rfl rfl (aB (aM rfl (aV (dO (aS (aN (aA rfl (aC rfl (aA rfl (aY rfl rfl (dM (by omega)) (aA rfl (aE rfl (aB (aS ⟨j + 1, (.cons rfl (.cons rfl (.cons rfl (.cons rfl (.cons rfl (.cons rfl (.nil _))))))), ?_, ?_⟩)))))))))))))))))))))))))))))))))
 · exact ⟨by omega, (by rw [hj2, dz, List.all_cons, rP (by omega)]; rfl), hm, bM, X⟩
 · first | omega | (dsimp only; omega)
 refine aB (aM rfl (dD (dC (dC (eG (dO (aS (aN (aA rfl (aC rfl (aA rfl (aY rfl rfl (dM (by omega)) (aA rfl (aE rfl (aB (aS ⟨k + 1, (.cons rfl (.cons rfl (.nil _))), ?_, ?_⟩))))))))))))))))
 · skip
   exact ⟨by omega, (by
     have htk : m.ss.take (k + 1) = m.ss.take k ++ [x] := by rw [List.take_add_one, hx]; rfl
     have e : (m.ss.take k).all (lQ x) = true := by rw [hj2, List.drop_eq_nil_of_le (by simp; omega)]; rfl
     rw [hi, dx, aBa, e, htk]; rfl), hm, bM, X⟩
 · first | omega | (dsimp only; omega)
 refine aB (aM rfl (dD (dC (dC (eG (aS (aF (aA rfl (aE rfl (aB (aW (aL rfl rfl ?_))))))))))))
 · skip
   refine ⟨congrArg Value.bool ?_, X⟩
   rw [← aCE]
   first
   | (have e := yQ (r := (m.ss.take k).drop (j + 1)) (l := []) hj2 dz (yP ⟨e1, e2, e3⟩)
      rw [hi, dx, aBa, e]; rfl)
   | (rw [hi, bL hk]; rfl)
end Go.Proofs.YtdoibplhbdkapaaGreatDoor
