/- Parts. No condition. -/
import Derived.Test.YtdoibplhbdkapaaGreatDoorDOP19
import Derived.Test.YtdoibplhbdkapaaGreatDoorDOP17
import Derived.Test.YtdoibplhbdkapaaGreatDoorDOP18
import Derived.Test.YtdoibplhbdkapaaGreatDoorDOP20
import Derived.Test.YtdoibplhbdkapaaGreatDoorDOP2
namespace Go.Proofs.YtdoibplhbdkapaaGreatDoor
open Go.RowKit
set_option linter.unusedVariables false
set_option linter.unusedSimpArgs false
set_option maxRecDepth 20000
theorem aE4 : ∀ (l : List NodeI), (∀ x ∈ l, aIc x) → (l.flatMap aBh).length ≤ 12 * l.length
 | [], _ => by simp
 | x :: r, h => by
   have h1 := (h x (by simp)).2.2
   have h2 := aE4 r fun y hy => h y (by simp [hy])
   rw [List.flatMap_cons, List.length_append, List.length_cons, aBh, List.length_append, jA]
   simp only [lB, List.length_cons, List.length_nil]; omega
theorem aIW {xs : List NodeI} (h : xs.length ≤ 32 ∧ ∀ x ∈ xs, aIc x) : (rA xs).length ≤ 400 := by
 have h2 := aE4 xs h.2
 unfold rA wN
 rw [List.take_length, List.length_cons]
 omega
theorem aIX {ms : List Mode} (h : ms.length ≤ 16 ∧ ∀ x ∈ ms, aJw x) : (qU ms ms.length).length ≤ 400 := by
 have hf := aCD (f := vO) (b := 8) ms fun x hx => by
   have h1 := (h.2 x hx).2.2.1
   simp [vO]; omega
 unfold qU
 rw [List.take_length, List.length_cons]; omega
theorem aIe {d : MedlD} (h : aE0 d) : byt (jV d) := by
 obtain ⟨h1, h2, h3, h4⟩ := h
 refine lU (lU (lU (aGH h1) ?_) ?_) ?_
 · unfold rA wN
   rw [List.take_length]
   refine eA (by omega) (rB fun x hx => ?_)
   have h5 := h2.2 x hx
   exact lU (eA (by omega) (eA (by omega) (eA (by omega) (eA (by split <;> omega) (eA (by omega) pH))))) (aCX x)
 · unfold qU
   rw [List.take_length]
   refine eA (by omega) (rB fun x hx => ?_)
   have h5 := h3.2 x hx
   exact lU (eA (by omega) (eA (by omega) (eA (by omega) pH))) h5.2.2.2
 · unfold stB stP
   rw [List.take_length]
   refine eA (by omega) (rB fun x hx => ?_)
   have h5 := h4.2 x hx
   have h6 := h5.2.2.2
   exact lU (eA (by omega) (eA (by omega) pH)) (eA (by omega) (eA (by omega) (eA (by omega) (eA (by omega) (eA (by split <;> omega) pH)))))
theorem aB9 {d : MedlD} (h : aE0 d) : (jV d).length ≤ 2000 := by
 have h1 := aIW h.2.1
 have h2 := aIX h.2.2.1
 have h3 : (stB d.ss).length = 1 + 7 * d.ss.length := aAl (Nat.le_refl _)
 have h4 := h.2.2.2.1
 unfold jV
 rw [List.length_append, List.length_append, List.length_append]
 simp only [idB, List.length_cons, List.length_nil]; omega
theorem aD0 (d : Desc) (w : World) (hd : wQ d) :
   Calls Tryz.prog 232 #[.agg d.cells.toArray] w (fF fun v w' => ∃ A' c', v = .slice A' 5 c' ∧ Own w' w.heap.size 2 1 A' 5 c' ((mL d).flatMap eI) ∧ Ext w w') := by
 have hr := hd
 have X := Q7r w
 refine bJ (args := [.agg d.cells.toArray]) Tryz.func232 Tryz.ntmps232 rfl rfl (aF (aA rfl (eX rfl rfl ?_)))
 intro g4 w3 eg4 b1 x2 zg4
 have lg4 : w.heap.size ≤ g4 := Q7l X.size (Q7e eg4.symm)
 replace X := Q7x X x2; clear x2
 refine aA rfl (aE rfl (aB (aF (aA rfl (aE rfl (aB (aR (aF (aA rfl (aG sQ rfl rfl (aA rfl (aJ b1 xO rfl rfl ?_))))))))))))
 cases hch : d.change
 refine aB (aM rfl (aV (aS (aF (aA rfl (aG kA rfl rfl (aA rfl (aJ b1 dB rfl rfl (aA rfl (aG fM rfl rfl (aA rfl (aJ b1 dB rfl rfl (aA rfl (fO rfl rfl (dM (by omega)) (aA rfl (aG jP rfl rfl (aA rfl (aJ b1 dB rfl rfl (aA rfl (aY rfl rfl (dM (by omega)) (aA rfl (aG fC rfl rfl (aA rfl (aJ b1 dB rfl rfl (aA rfl (gK rfl rfl (by omega) (vK (by omega)) (aA rfl (aG fC rfl rfl (aA rfl (aJ b1 dB rfl rfl (aA rfl (fK rfl rfl (by omega) (qZ (by omega)) (aA rfl (aC rfl (aA rfl (aO cQ dB rfl rfl rfl rfl rfl ?_))))))))))))))))))))))))))))))))))))
 intro g5 w7 eg5 oS bbg5 x6 zg5
 replace oS := Own.low oS X.size
 replace b1 := b1.ext x6
 replace X := Q7x X x6; clear x6
 exact aA rfl (aE rfl (aB (aW (aL rfl rfl ⟨_, _, rfl, oS.to (by simp [mL, hch, eI, tA]), X⟩))))
 refine aB (aQ rfl (aN (aA rfl (aE rfl (aB (aS (aF (aA rfl (aG kA rfl rfl (aA rfl (aJ b1 dB rfl rfl (aA rfl (aG fM rfl rfl (aA rfl (aJ b1 dB rfl rfl (aA rfl (fO rfl rfl (dM (by omega)) (aA rfl (aG jP rfl rfl (aA rfl (aJ b1 dB rfl rfl (aA rfl (aY rfl rfl (dM (by omega)) (aA rfl (aG fC rfl rfl (aA rfl (aJ b1 dB rfl rfl (aA rfl (gK rfl rfl (by omega) (vK (by omega)) (aA rfl (aG fC rfl rfl (aA rfl (aJ b1 dB rfl rfl (aA rfl (fK rfl rfl (by omega) (qZ (by omega)) (aA rfl (aC rfl (aA rfl (aO cQ dB rfl rfl rfl rfl rfl ?_)))))))))))))))))))))))))))))))))))))))
 intro g8 w10 eg8 oS bbg8 x9 zg8
 replace oS := Own.low oS X.size
 replace b1 := b1.ext x9
 replace X := Q7x X x9; clear x9
 exact aA rfl (aE rfl (aB (aW (aL rfl rfl ⟨_, _, rfl, oS.to (by simp [mL, hch, eI, tA]), X⟩))))
theorem aD1 (A : Option Addr) (B c : Nat) (xs : List SlotI) (w : World) (hs : Sl B w A (xs.flatMap SlotI.cells)) (hT : xs.length ≤ 140 ∧ ∀ x ∈ xs, aJv x) :
   Calls Tryz.prog 157 #[.slice A xs.length c] w (fF fun v w' => ∃ A' c', v = .slice A' (1 + 7 * xs.length) c' ∧ Own w' w.heap.size 2 1 A' (1 + 7 * xs.length) c' ((stB xs).flatMap eI) ∧ Ext w w') := by
 have Bhs := hs.1
 have X := Q7r w
 refine bJ (args := [.slice A xs.length c]) Tryz.func157 Tryz.ntmps157 rfl rfl (aF (aA rfl (aE rfl (aB (aF (aA rfl (aC rfl (aA rfl (bO Tryz.underlying26 rfl (aA rfl (aO cQ dB rfl rfl rfl rfl rfl ?_)))))))))))
 intro gO w2 egO oO bbgO x1 zgO
 replace oO := Own.low oO X.size
 replace hs := hs.ext x1
 replace X := Q7x X x1; clear x1
 replace oO := oO.to (cs' := (stP xs 0).flatMap eI) rfl
 refine aA rfl (aE rfl (aB (aR (aF (aA rfl (aE rfl (aB (aX (dG (G := Nat × Nat × Option Addr × Nat) (fun ⟨k, n1, A1, c1⟩ => [(0, .slice A xs.length c), (2, .slice none 0 0), (3, .slice A1 n1 c1), (4, .int .i64 (k : Nat))]) (fun ⟨k, n1, A1, c1⟩ wr => k ≤ xs.length ∧ n1 = 1 + 7 * k ∧ Own wr w.heap.size 2 1 A1 n1 c1 ((stP xs k).flatMap eI) ∧ Sl B wr A (xs.flatMap SlotI.cells) ∧ Ext w wr) (fun ⟨k, n1, A1, c1⟩ => xs.length - k) (0, 1, some ⟨gO, 0, none⟩, 1) (.cons rfl (.cons rfl (.cons rfl (.cons rfl (.nil _))))) ?_ ?_)))))))))
 · exact ⟨by omega, rfl, oO, hs, X⟩
 clear hs oO
 clear X
 rintro ⟨k, n1, A1, c1⟩ wr ⟨hk0, hn, oO, hs, X⟩
 refine aR (aF (aA rfl (aC rfl (aA rfl (aC rfl (aA rfl (bO Tryz.underlying26 rfl (aA rfl (cU rfl rfl (fun hk => ?_) (fun hk => ?_))))))))))
 obtain ⟨x, hx, dx⟩ := dR hk
 have hk1 := hT.2 x (List.mem_of_getElem? hx)
 have hd := hk1.2.2.2
 have hL := hT.1
 refine aB (aQ rfl (aV (aS (aR (aX (eK [false, false, false, false, false, false, false, false, false, false, false, false, false, false, false, false, false, false, true] mixed (by kernel_rfl) (cO rfl (fun wq sq => aC rfl ⟨rfl, Q7r _⟩) (cO rfl (fun wq sq => aC rfl ⟨rfl, Q7r _⟩) (cO rfl (fun wq sq => aC rfl ⟨rfl, Q7r _⟩) (cO rfl (fun wq sq => aU (hs.ext sq) SlotI.len rfl gF rfl rfl rfl hx rfl ⟨rfl, Q7r _⟩) (cO rfl (fun wq sq => dF iA rfl ⟨rfl, Q7r _⟩) (cO rfl (fun wq sq => eF (hs.ext sq) SlotI.len hx dB rfl rfl rfl ⟨rfl, Q7r _⟩) (cO rfl (fun wq sq => fO rfl rfl (dM (by omega)) ⟨rfl, Q7r _⟩) ?_)))))))))))))
 refine cO rfl (fun wq sq => aC rfl ⟨rfl, Q7r _⟩) (cO rfl (fun wq sq => aC rfl ⟨rfl, Q7r _⟩) (cO rfl (fun wq sq => aU (hs.ext sq) SlotI.len rfl gF rfl rfl rfl hx rfl ⟨rfl, Q7r _⟩) (cO rfl (fun wq sq => dF kP rfl ⟨rfl, Q7r _⟩) (cO rfl (fun wq sq => eF (hs.ext sq) SlotI.len hx dB rfl rfl rfl ⟨rfl, Q7r _⟩) (cO rfl (fun wq sq => aY rfl rfl (dM (by omega)) ⟨rfl, Q7r _⟩) (cO rfl (fun wq sq => aC rfl ⟨rfl, Q7r _⟩) (cO rfl (fun wq sq => aC rfl ⟨rfl, Q7r _⟩) (cO rfl (fun wq sq => aU (hs.ext sq) SlotI.len rfl gF rfl rfl rfl hx rfl ⟨rfl, Q7r _⟩) (cO rfl (fun wq sq => dF kB rfl ⟨rfl, Q7r _⟩) (cO rfl (fun wq sq => eF (hs.ext sq) SlotI.len hx dB rfl rfl rfl ⟨rfl, Q7r _⟩) ?_))))))))))
 refine zL (fun gS : Nat => Value.slice (some ⟨gS, 0, none⟩) 2 2) (fun gS wz => Own wz w.heap.size 2 1 (some ⟨gS, 0, none⟩) 2 2 (eI (x.mode * 16 + x.round) ++ eI x.slot)) 0 rfl ⟨lT, fun _ _ _ h k => h.ext k, fun wq sq => aO cQ dB rfl rfl rfl rfl rfl (fun g w' hg ho hb hx hz => ⟨g, rfl, Own.low ho (Q7l X.size (sq).size), hx⟩)⟩ ?_
 intro gS
 refine dX (fun w3 sq => ?_)
 have xq := sq.1
 have oS := sq.2
 replace oO := oO.ext xq
 replace hs := hs.ext xq
 replace X := Q7x X xq; clear xq sq
 refine aA rfl (cH (ts := #[]) oO X.size oS.sl (by first | rfl | simp) (by first | exact List.all_eq_true.1 rfl | simp [Value.oneCell']) cQ dB rfl rfl rfl rfl (by omega) (by omega) ?_)
 intro AoM coM w5 oM hg4
 replace hs := hs.grown hg4 (fun g hg => Q7l Bhs (Own.lt oO hg).1)
 replace X := X.grown hg4 X.size (fun g hg => (Own.lt oO hg).1)
 clear hg4
 refine aA rfl (aE rfl (aB (aN (aA rfl (aC rfl (aA rfl (aC rfl (aA rfl (aC rfl (aA rfl (aU hs SlotI.len rfl gF rfl rfl rfl hx rfl (aA rfl (dF iN rfl (aA rfl (aDZ hs SlotI.len hx fU rfl rfl (aA rfl (aT aHC rfl (aP (aD0 _ _ hd) ?_))))))))))))))))))
 rintro _ w7 ⟨A8, c9, rfl, oD, x6⟩
 replace oD := Own.low oD X.size
 replace hs := hs.ext x6
 replace oM := oM.ext x6
 replace X := Q7x X x6; clear x6
 refine aA rfl (cH (ts := #[]) oM X.size oD.sl (by simp [mL, eI]) (by simp [mL, eI, Value.oneCell']) cQ dB rfl rfl rfl rfl (by omega) (by omega) ?_)
 intro AoN coN w11 oN hg10
 replace hs := hs.grown hg10 (fun g hg => Q7l Bhs (Own.lt oM hg).1)
 replace X := X.grown hg10 X.size (fun g hg => (Own.lt oM hg).1)
 clear hg10
 refine aA rfl (aE rfl (aB (dO (aS (aN (aA rfl (aC rfl (aA rfl (aY rfl rfl (dM (by omega)) (aA rfl (aE rfl (aB (aS ⟨(k + 1, n1 + 2 + 5, AoN, coN), (.cons rfl (.cons rfl (.cons rfl (.cons rfl (.nil _))))), ?_, ?_⟩)))))))))))))
 · exact ⟨by omega, by omega, oN.to (aDB hx).symm, hs, X⟩
 · first | omega | (dsimp only; omega)
 refine aB (aM rfl (dD (dC (dC (eG (aS (aF (aA rfl (aC rfl (aA rfl (aE rfl (aB (aW (aL rfl rfl ?_))))))))))))))
 · skip
   rw [show k = xs.length by omega] at oO hn
   subst hn
   exact ⟨_, _, rfl, oO, X⟩
theorem aD2 (A : Option Addr) (B c : Nat) (xs : List NodeI) (w : World) (hs : Sl B w A (xs.flatMap NodeI.cells)) (hN : xs.length ≤ 32 ∧ ∀ x ∈ xs, aIc x) :
   Calls Tryz.prog 155 #[.slice A xs.length c] w (fF fun v w' => ∃ A' c', v = .slice A' (rA xs).length c' ∧ Own w' w.heap.size 2 1 A' (rA xs).length c' ((rA xs).flatMap eI) ∧ Ext w w') := by
 have hnl := hN.1
 have Bhs := hs.1
 have X := Q7r w
 refine bJ (args := [.slice A xs.length c]) Tryz.func155 Tryz.ntmps155 rfl rfl (aF (aA rfl (aE rfl (aB (aF (aA rfl (aC rfl (aA rfl (bO Tryz.underlying24 rfl (aA rfl (aO cQ dB rfl rfl rfl rfl rfl ?_)))))))))))
 intro gO w2 egO oO bbgO x1 zgO
 replace oO := Own.low oO X.size
 replace hs := hs.ext x1
 replace X := Q7x X x1; clear x1
 replace oO := oO.to (cs' := (wN xs 0).flatMap eI) rfl
 refine aA rfl (aE rfl (aB (aR (aF (aA rfl (aE rfl (aB (aX (dG (G := Nat × Nat × Option Addr × Nat) (fun ⟨k, n1, A1, c1⟩ => [(0, .slice A xs.length c), (2, .slice none 0 0), (3, .slice A1 n1 c1), (4, .int .i64 (k : Nat))]) (fun ⟨k, n1, A1, c1⟩ wr => k ≤ xs.length ∧ n1 = (wN xs k).length ∧ n1 ≤ 1 + 12 * k ∧ Own wr w.heap.size 2 1 A1 n1 c1 ((wN xs k).flatMap eI) ∧ Sl B wr A (xs.flatMap NodeI.cells) ∧ Ext w wr) (fun ⟨k, n1, A1, c1⟩ => xs.length - k) (0, 1, some ⟨gO, 0, none⟩, 1) (.cons rfl (.cons rfl (.cons rfl (.cons rfl (.nil _))))) ?_ ?_)))))))))
 · exact ⟨by omega, rfl, (Nat.le_refl _), oO, hs, X⟩
 clear hs oO
 clear X
 rintro ⟨k, n1, A1, c1⟩ wr ⟨hk0, hn, hn1, oO, hs, X⟩
 refine aR (aF (aA rfl (aC rfl (aA rfl (aC rfl (aA rfl (bO Tryz.underlying24 rfl (aA rfl (cU rfl rfl (fun hk => ?_) (fun hk => ?_))))))))))
 obtain ⟨x, hx, dx⟩ := dR hk
 have hok := hN.2 x (List.mem_of_getElem? hx)
 have hxi := hok
 have hxs := hok.2.2
 refine aB (aQ rfl (aV (aS (aR (aX (aF (aA rfl (aC rfl (aA rfl (aC rfl (aA rfl (aU hs NodeI.len rfl lO rfl rfl rfl hx rfl (aA rfl (eE hs NodeI.len hx kE rfl (aA rfl (dT kE ?_))))))))))))))))
 intro gX w4 egX bX x3 zgX
 have lgX : w.heap.size ≤ gX := Q7l X.size (Q7e egX.symm)
 have pgXhs := Q7l hs.1 (Q7e egX.symm)
 replace oO := oO.ext x3
 replace hs := hs.ext x3
 replace X := Q7x X x3; clear x3
 refine aA rfl (bK bX kE rfl rfl rfl rfl rfl rfl ?_)
 intro w6 bY hg5 z7
 replace oO := oO.grownBlk hg5 (Own.neT oO bX (by decide))
 replace hs := hs.grown hg5 (by intro g hg; injection hg; omega)
 replace X := X.grown hg5 X.size (by intro g hg; injection hg; omega)
 clear hg5 bX
 refine aB (aF (aA rfl (aE rfl (aB (aR (aF (aA rfl (aG sO rfl rfl (aA rfl (aJ bY xO rfl rfl ?_))))))))))
 cases hpa : x.passive
 refine aB (aM rfl (aV (aS (aF (aA rfl (aC rfl (aA rfl (aG lC rfl rfl (aA rfl (aJ bY dB rfl rfl (aA rfl (aG lD rfl rfl (aA rfl (aJ bY dB rfl rfl (aA rfl (gK rfl rfl (by omega) (vK (by omega)) (aA rfl (aG lD rfl rfl (aA rfl (aJ bY dB rfl rfl (aA rfl (fK rfl rfl (by omega) (qZ (by omega)) (aA rfl (aC rfl (aA rfl (aG gG rfl rfl (aA rfl (aJ bY yA rfl rfl (aA rfl (jY Tryz.underlying9 rfl (aA rfl (aO cQ dB rfl rfl rfl rfl rfl ?_))))))))))))))))))))))))))))))))
 intro g8 w10 eg8 oS bbg8 x9 zg8
 replace oS := Own.low oS X.size
 replace oO := oO.ext x9
 replace hs := hs.ext x9
 replace bY := bY.ext x9
 replace X := Q7x X x9; clear x9
 refine aA rfl (cH (ts := #[]) oO X.size oS.sl (by first | rfl | simp) (by first | exact List.all_eq_true.1 rfl | simp [Value.oneCell']) cQ dB rfl rfl rfl rfl (by omega) (by omega) ?_)
 intro AoM coM w12 oM hg11
 replace hs := hs.grown hg11 (fun g hg => Q7l Bhs (Own.lt oO hg).1)
 replace bY := bY.grown hg11 (fun h => Own.neT oO bY (by decide) h.symm)
 replace X := X.grown hg11 X.size (fun g hg => (Own.lt oO hg).1)
 clear hg11
 replace oM := oM.to (cs' := ((wN xs k).flatMap eI ++ (lB x).flatMap eI)) (by simp only [lB, hpa]; rfl)
 refine aA rfl (aE rfl (aB (aF (aA rfl (aE rfl (aB (aX (dG (G := Nat × Nat × Option Addr × Nat) (fun ⟨j, n2, A2, c2⟩ => [(0, .slice A xs.length c), (2, .slice none 0 0), (4, .int .i64 (k : Nat)), (5, .pointer (some ⟨gX, 0, none⟩)), (6, .int .i64 0), (11, .int .i64 (k : Nat)), (12, .slice A xs.length c), (13, .int .i64 (xs.length : Nat)), (17, .slice A xs.length c), (18, .int .i64 (k : Nat)), (23, .slice A1 n1 c1), (32, .int .i64 0), (3, .slice A2 n2 c2), (7, .int .i64 (j : Nat))]) (fun ⟨j, n2, A2, c2⟩ wr => j ≤ x.name.size ∧ n2 = ((wN xs k ++ lB x) ++ (nZ x).take j).length ∧ n2 ≤ 1 + 12 * k + 5 + j ∧ Own wr w.heap.size 2 1 A2 n2 c2 (((wN xs k ++ lB x) ++ (nZ x).take j).flatMap eI) ∧ Sl B wr A (xs.flatMap NodeI.cells) ∧ Blk wr gX 59 x.cells ∧ Ext w wr) (fun ⟨j, n2, A2, c2⟩ => x.name.size - j) (0, n1 + 5, AoM, coM) (.cons rfl (.cons rfl (.cons rfl (.cons rfl (.cons rfl (.cons rfl (.cons rfl (.cons rfl (.cons rfl (.cons rfl (.cons rfl (.cons rfl (.cons rfl (.cons rfl (.nil _))))))))))))))) ?_ ?_))))))))
 · exact ⟨by omega, (by rw [List.take_zero, List.append_nil, List.length_append, ← hn]; rfl), (by omega), oM.to (by rw [List.take_zero, List.append_nil, List.flatMap_append]; try rfl), hs, bY, X⟩
 clear hs bY oM
 clear X
 rintro ⟨j, n2, A2, c2⟩ wr ⟨hj0, hn2, hn3, oP, hs, bY, X⟩
 refine aR (aF (aA rfl (aC rfl (aA rfl (aG gG rfl rfl (aA rfl (aJ bY yA rfl rfl (aA rfl (jY Tryz.underlying9 rfl (aA rfl (cU rfl rfl (fun hj => ?_) (fun hj => ?_))))))))))))
 have hjl : j < x.name.size := by omega
 refine aB (aQ rfl (aV (aS (aR (aX (aN (aA rfl (aC rfl (aA rfl (aG gG rfl rfl (aA rfl (aJ bY yA rfl rfl (aA rfl (aC rfl (aA rfl (jQ Tryz.underlying9 rfl rfl (by omega) (by omega) (aA rfl (jC Tryz.underlying5 Tryz.underlying2 rfl (dM (by have := (x.name.data.toList.getD ((j : Int)).toNat 0).toNat_lt; omega)) (aA rfl (aO cQ dB rfl rfl rfl rfl rfl ?_))))))))))))))))))))
 intro g13 w15 eg13 oT bbg13 x14 zg13
 replace oT := Own.low oT X.size
 replace oP := oP.ext x14
 replace hs := hs.ext x14
 replace bY := bY.ext x14
 replace X := Q7x X x14
 refine aA rfl (cH (ts := #[]) oP X.size oT.sl (by first | rfl | simp) (by first | exact List.all_eq_true.1 rfl | simp [Value.oneCell']) cQ dB rfl rfl rfl rfl (by omega) (by omega) ?_)
 intro AoQ coQ w17 oQ hg16
 replace hs := hs.grown hg16 (fun g hg => Q7l Bhs (Own.lt oP hg).1)
 replace bY := bY.grown hg16 (fun h => Own.neT oP bY (by decide) h.symm)
 replace X := X.grown hg16 X.size (fun g hg => (Own.lt oP hg).1)
 clear hg16
 refine aA rfl (aE rfl (aB (dO (aS (aN (aA rfl (aC rfl (aA rfl (aY rfl rfl (dM (by omega)) (aA rfl (aE rfl (aB (aS ⟨(j + 1, n2 + 1, AoQ, coQ), (.cons rfl (.cons rfl (.cons rfl (.cons rfl (.cons rfl (.cons rfl (.cons rfl (.cons rfl (.cons rfl (.cons rfl (.cons rfl (.cons rfl (.cons rfl (.cons rfl (.nil _))))))))))))))), ?_, ?_⟩)))))))))))))
 · exact ⟨by omega, (by rw [hn2, kJ (lR hjl)]; simp only [List.length_append, List.length_cons, List.length_nil]; try omega), (by omega), oQ.to (by rw [kJ (lR hjl), ← List.append_assoc]; exact Eq.symm (by rw [List.flatMap_append]; rfl)), hs, bY, X⟩
 · first | omega | (dsimp only; omega)
 have hje : j = x.name.size := by omega
 refine aB (aM rfl (dD (dC (dC (eG (dO (aS (aN (aA rfl (aC rfl (aA rfl (aY rfl rfl (dM (by omega)) (aA rfl (aE rfl (aB (aS ⟨(k + 1, n2, A2, c2), (.cons rfl (.cons rfl (.cons rfl (.cons rfl (.nil _))))), ?_, ?_⟩))))))))))))))))
 · exact ⟨by omega, (by rw [lS hx, List.length_append, hn2, List.length_append, hje, ← jA, List.take_length]), (by omega), oP.to (by rw [lS hx, hje, ← jA, List.take_length]), hs, X⟩
 · first | omega | (dsimp only; omega)
 refine aB (aQ rfl (aN (aA rfl (aE rfl (aB (aS (aF (aA rfl (aC rfl (aA rfl (aG lC rfl rfl (aA rfl (aJ bY dB rfl rfl (aA rfl (aG lD rfl rfl (aA rfl (aJ bY dB rfl rfl (aA rfl (gK rfl rfl (by omega) (vK (by omega)) (aA rfl (aG lD rfl rfl (aA rfl (aJ bY dB rfl rfl (aA rfl (fK rfl rfl (by omega) (qZ (by omega)) (aA rfl (aC rfl (aA rfl (aG gG rfl rfl (aA rfl (aJ bY yA rfl rfl (aA rfl (jY Tryz.underlying9 rfl (aA rfl (aO cQ dB rfl rfl rfl rfl rfl ?_)))))))))))))))))))))))))))))))))))
 intro g18 w20 eg18 oS bbg18 x19 zg18
 replace oS := Own.low oS X.size
 replace oO := oO.ext x19
 replace hs := hs.ext x19
 replace bY := bY.ext x19
 replace X := Q7x X x19
 refine aA rfl (cH (ts := #[]) oO X.size oS.sl (by first | rfl | simp) (by first | exact List.all_eq_true.1 rfl | simp [Value.oneCell']) cQ dB rfl rfl rfl rfl (by omega) (by omega) ?_)
 intro AoM coM w22 oM hg21
 replace hs := hs.grown hg21 (fun g hg => Q7l Bhs (Own.lt oO hg).1)
 replace bY := bY.grown hg21 (fun h => Own.neT oO bY (by decide) h.symm)
 replace X := X.grown hg21 X.size (fun g hg => (Own.lt oO hg).1)
 clear hg21
 replace oM := oM.to (cs' := ((wN xs k).flatMap eI ++ (lB x).flatMap eI)) (by simp only [lB, hpa]; rfl)
 refine aA rfl (aE rfl (aB (aF (aA rfl (aE rfl (aB (aX (dG (G := Nat × Nat × Option Addr × Nat) (fun ⟨j, n2, A2, c2⟩ => [(0, .slice A xs.length c), (2, .slice none 0 0), (4, .int .i64 (k : Nat)), (5, .pointer (some ⟨gX, 0, none⟩)), (6, .int .i64 1), (11, .int .i64 (k : Nat)), (12, .slice A xs.length c), (13, .int .i64 (xs.length : Nat)), (17, .slice A xs.length c), (18, .int .i64 (k : Nat)), (23, .slice A1 n1 c1), (32, .int .i64 1), (3, .slice A2 n2 c2), (7, .int .i64 (j : Nat))]) (fun ⟨j, n2, A2, c2⟩ wr => j ≤ x.name.size ∧ n2 = ((wN xs k ++ lB x) ++ (nZ x).take j).length ∧ n2 ≤ 1 + 12 * k + 5 + j ∧ Own wr w.heap.size 2 1 A2 n2 c2 (((wN xs k ++ lB x) ++ (nZ x).take j).flatMap eI) ∧ Sl B wr A (xs.flatMap NodeI.cells) ∧ Blk wr gX 59 x.cells ∧ Ext w wr) (fun ⟨j, n2, A2, c2⟩ => x.name.size - j) (0, n1 + 5, AoM, coM) (.cons rfl (.cons rfl (.cons rfl (.cons rfl (.cons rfl (.cons rfl (.cons rfl (.cons rfl (.cons rfl (.cons rfl (.cons rfl (.cons rfl (.cons rfl (.cons rfl (.nil _))))))))))))))) ?_ ?_))))))))
 · exact ⟨by omega, (by rw [List.take_zero, List.append_nil, List.length_append, ← hn]; rfl), (by omega), oM.to (by rw [List.take_zero, List.append_nil, List.flatMap_append]; try rfl), hs, bY, X⟩
 clear hs bY oM
 clear X
 rintro ⟨j, n2, A2, c2⟩ wr ⟨hj0, hn2, hn3, oP, hs, bY, X⟩
 refine aR (aF (aA rfl (aC rfl (aA rfl (aG gG rfl rfl (aA rfl (aJ bY yA rfl rfl (aA rfl (jY Tryz.underlying9 rfl (aA rfl (cU rfl rfl (fun hj => ?_) (fun hj => ?_))))))))))))
 have hjl : j < x.name.size := by omega
 refine aB (aQ rfl (aV (aS (aR (aX (aN (aA rfl (aC rfl (aA rfl (aG gG rfl rfl (aA rfl (aJ bY yA rfl rfl (aA rfl (aC rfl (aA rfl (jQ Tryz.underlying9 rfl rfl (by omega) (by omega) (aA rfl (jC Tryz.underlying5 Tryz.underlying2 rfl (dM (by have := (x.name.data.toList.getD ((j : Int)).toNat 0).toNat_lt; omega)) (aA rfl (aO cQ dB rfl rfl rfl rfl rfl ?_))))))))))))))))))))
 intro g23 w25 eg23 oT bbg23 x24 zg23
 replace oT := Own.low oT X.size
 replace oP := oP.ext x24
 replace hs := hs.ext x24
 replace bY := bY.ext x24
 replace X := Q7x X x24
 refine aA rfl (cH (ts := #[]) oP X.size oT.sl (by first | rfl | simp) (by first | exact List.all_eq_true.1 rfl | simp [Value.oneCell']) cQ dB rfl rfl rfl rfl (by omega) (by omega) ?_)
 intro AoQ coQ w27 oQ hg26
 replace hs := hs.grown hg26 (fun g hg => Q7l Bhs (Own.lt oP hg).1)
 replace bY := bY.grown hg26 (fun h => Own.neT oP bY (by decide) h.symm)
 replace X := X.grown hg26 X.size (fun g hg => (Own.lt oP hg).1)
 clear hg26
 refine aA rfl (aE rfl (aB (dO (aS (aN (aA rfl (aC rfl (aA rfl (aY rfl rfl (dM (by omega)) (aA rfl (aE rfl (aB (aS ⟨(j + 1, n2 + 1, AoQ, coQ), (.cons rfl (.cons rfl (.cons rfl (.cons rfl (.cons rfl (.cons rfl (.cons rfl (.cons rfl (.cons rfl (.cons rfl (.cons rfl (.cons rfl (.cons rfl (.cons rfl (.nil _))))))))))))))), ?_, ?_⟩)))))))))))))
 · exact ⟨by omega, (by rw [hn2, kJ (lR hjl)]; simp only [List.length_append, List.length_cons, List.length_nil]; try omega), (by omega), oQ.to (by rw [kJ (lR hjl), ← List.append_assoc]; exact Eq.symm (by rw [List.flatMap_append]; rfl)), hs, bY, X⟩
 · first | omega | (dsimp only; omega)
 have hje : j = x.name.size := by omega
 refine aB (aM rfl (dD (dC (dC (eG (dO (aS (aN (aA rfl (aC rfl (aA rfl (aY rfl rfl (dM (by omega)) (aA rfl (aE rfl (aB (aS ⟨(k + 1, n2, A2, c2), (.cons rfl (.cons rfl (.cons rfl (.cons rfl (.nil _))))), ?_, ?_⟩))))))))))))))))
 · exact ⟨by omega, (by rw [lS hx, List.length_append, hn2, List.length_append, hje, ← jA, List.take_length]), (by omega), oP.to (by rw [lS hx, hje, ← jA, List.take_length]), hs, X⟩
 · first | omega | (dsimp only; omega)
 refine aB (aM rfl (dD (dC (dC (eG (aS (aF (aA rfl (aC rfl (aA rfl (aE rfl (aB (aW (aL rfl rfl ?_))))))))))))))
 · skip
   rw [show k = xs.length by omega] at oO hn
   unfold rA
   rw [← hn]
   exact ⟨_, _, rfl, oO, X⟩
theorem wC (m : MedlI) (B : Nat) (w : World) (hm : Med B w m) (hz : m.small) (hI : aE0 m.d) :
   Calls Tryz.prog 71 #[.agg m.cells.toArray] w (fF fun v w' => ∃ A' c', v = .slice A' (jV m.d).length c' ∧ Own w' w.heap.size 2 1 A' (jV m.d).length c' ((jV m.d).flatMap eI) ∧ Ext w w') := by
 have hls := hz.ls
 have hlm := hz.lm
 have hln := hz.ln
 have wf := hI
 have hid := hI.1
 have hid1 : 0 ≤ m.id ∧ m.id ≤ 16777215 := hid
 have hL1 : (rA m.ns).length ≤ 400 := aIW hI.2.1
 have hL2 : (qU (m.ms.map (·.m)) m.ms.length).length ≤ 400 := by have h := aIX hI.2.2.1; rwa [show m.d.ms.length = m.ms.length from List.length_map ..] at h
 have hL3 : (stB m.ss).length = 1 + 7 * m.ss.length := aAl (Nat.le_refl _)
 have hL4 : m.ss.length ≤ 140 := hI.2.2.2.1
 have hNt := hI.2.1
 have hSt := hI.2.2.2
 have eS : jV m.d = idB m.id ++ rA m.ns ++ (qU (m.ms.map (·.m)) m.ms.length) ++ stB m.ss := by unfold jV; rw [show m.d.ms.length = m.ms.length from List.length_map ..]; rfl
 have Bhm := hm.1
 have X := Q7r w
 refine bJ (args := [.agg m.cells.toArray]) Tryz.func71 Tryz.ntmps71 rfl rfl (aF (aA rfl (eX rfl rfl ?_)))
 intro g4 w3 eg4 b1 x2 zg4
 have lg4 : w.heap.size ≤ g4 := Q7l X.size (Q7e eg4.symm)
 have pg4hm := Q7l hm.1 (Q7e eg4.symm)
 replace hm := hm.ext x2
 replace X := Q7x X x2; clear x2
 refine aA rfl (aE rfl (aB (aF (aA rfl (aG pL rfl rfl (aA rfl (aJ b1 dB rfl rfl (aA rfl (gK rfl rfl (by omega) (vK (by omega)) (aA rfl (aG pL rfl rfl (aA rfl (aJ b1 dB rfl rfl (aA rfl (gK rfl rfl (by omega) (vK (by omega)) (aA rfl (fK rfl rfl (by omega) (qZ (by omega)) (aA rfl (aG pL rfl rfl (aA rfl (aJ b1 dB rfl rfl (aA rfl (fK rfl rfl (by omega) (qZ (by omega)) (aA rfl (aO cQ dB rfl rfl rfl rfl rfl ?_)))))))))))))))))))))))))
 intro g5 w7 eg5 o1 bbg5 x6 zg5
 replace o1 := Own.low o1 X.size
 replace hm := hm.ext x6
 replace b1 := b1.ext x6
 replace X := Q7x X x6; clear x6
 replace o1 := o1.to (cs' := (idB m.id).flatMap eI) rfl
 refine aA rfl (aE rfl (aB (aF (aA rfl (aC rfl (aA rfl (aG lY rfl rfl (aA rfl (aJ b1 zS rfl rfl (aA rfl (aT aHr rfl (aP (aD2 _ _ _ m.ns _ hm.sn hNt) ?_))))))))))))
 rintro _ w9 ⟨A10, c11, rfl, oA, x8⟩
 replace oA := Own.low oA X.size
 replace hm := hm.ext x8
 replace b1 := b1.ext x8
 replace o1 := o1.ext x8
 replace X := Q7x X x8; clear x8
 refine aA rfl (cH (ts := #[]) o1 X.size oA.sl (eW bI _) (dY _) cQ dB rfl rfl rfl rfl (by omega) (by omega) ?_)
 intro Ao2 co2 w13 o2 hg12
 replace hm := hm.grown hg12 (fun g hg => Q7l Bhm (Own.lt o1 hg).1)
 replace b1 := b1.grown hg12 (fun h => Own.neT o1 b1 (by decide) h.symm)
 replace X := X.grown hg12 X.size (fun g hg => (Own.lt o1 hg).1)
 clear hg12
 refine aA rfl (aE rfl (aB (aF (aA rfl (aC rfl (aA rfl (aG jF rfl rfl (aA rfl (aJ b1 tZ rfl rfl (aA rfl (aT aJT rfl (aP (aEH _ _ _ _ m.ms _ hm.sm hm.sx hlm hz.lx) ?_))))))))))))
 rintro _ w15 ⟨A16, c17, rfl, oB, x14⟩
 replace oB := Own.low oB X.size
 replace hm := hm.ext x14
 replace b1 := b1.ext x14
 replace o2 := o2.ext x14
 replace X := Q7x X x14
 refine aA rfl (cH (ts := #[]) o2 X.size oB.sl (eW bI _) (dY _) cQ dB rfl rfl rfl rfl (by omega) (by omega) ?_)
 intro Ao3 co3 w19 o3 hg18
 replace hm := hm.grown hg18 (fun g hg => Q7l Bhm (Own.lt o2 hg).1)
 replace b1 := b1.grown hg18 (fun h => Own.neT o2 b1 (by decide) h.symm)
 replace X := X.grown hg18 X.size (fun g hg => (Own.lt o2 hg).1)
 clear hg18
 refine aA rfl (aE rfl (aB (aF (aA rfl (aC rfl (aA rfl (aG fI rfl rfl (aA rfl (aJ b1 kY rfl rfl (aA rfl (aT aJU rfl (aP (aD1 _ _ _ m.ss _ hm.ss hSt) ?_))))))))))))
 rintro _ w21 ⟨A22, c23, rfl, oC, x20⟩
 replace oC := Own.low oC X.size
 replace hm := hm.ext x20
 replace b1 := b1.ext x20
 replace o3 := o3.ext x20
 replace X := Q7x X x20
 refine aA rfl (cH (ts := #[]) o3 X.size oC.sl (by rw [eW bI, hL3]) (dY _) cQ dB rfl rfl rfl rfl (by omega) (by omega) ?_)
 intro Ao4 co4 w25 o4 hg24
 replace hm := hm.grown hg24 (fun g hg => Q7l Bhm (Own.lt o3 hg).1)
 replace b1 := b1.grown hg24 (fun h => Own.neT o3 b1 (by decide) h.symm)
 replace X := X.grown hg24 X.size (fun g hg => (Own.lt o3 hg).1)
 clear hg24
 refine aA rfl (aE rfl (aB (aW (aL rfl rfl ?_))))
 · skip
   have e1 : (jV m.d).length = 3 + (rA m.ns).length + (qU (m.ms.map (·.m)) m.ms.length).length + (1 + 7 * m.ss.length) := by rw [eS, List.length_append, List.length_append, List.length_append, hL3]; rfl
   rw [e1]
   exact ⟨_, _, rfl, o4.to (by rw [eS, List.flatMap_append, List.flatMap_append, List.flatMap_append]), X⟩
theorem aIf {l : List Int} {i : Nat} {v : Int} (h : byt l) (hv : 0 ≤ v ∧ v ≤ 255) : byt (l.set i v) := fun x hx => by
 rcases List.mem_or_eq_of_mem_set hx with h2 | rfl
 · exact h x h2
 · exact hv
theorem aCa (d : MedlD) : 3 ≤ (jV d).length := by
 unfold jV
 rw [List.length_append, List.length_append, List.length_append]
 simp only [idB, List.length_cons, List.length_nil]; omega
set_option maxHeartbeats 2000000 in
theorem aFE (A : Option Addr) (B c : Nat) (bs : List UInt8) (gS a : Nat) (sd : Int) (w : World) (q : Blk w gS 148 (lH A c bs a sd)) (hs : Sl B w A (bs.flatMap eB)) (hB : B ≤ gS) (ok : a ≤ bs.length ∧ 0 ≤ sd ∧ sd < 2147483647) (hbl : bs.length ≤ 1048576) :
   Calls Tryz.prog 97 #[.pointer (some ⟨gS, 0, none⟩)] w (fF fun v w' => ∃ A' c' ys a' sd', v = .slice A' (List.length ys) c' ∧ (ys.length ≤ 3000 ∧ ys.length ≤ c') ∧ Sl w'.heap.size w' A' (ys.flatMap eI) ∧ (a' ≤ bs.length ∧ 0 ≤ sd' ∧ sd' < 2147483647) ∧ Blk w' gS 148 (lH A c bs a' sd') ∧ w.grownBy w' (some gS)) := by
 have Bhs := hs.1
 have X := pJ w (some gS)
 refine bJ (args := [.pointer (some ⟨gS, 0, none⟩)]) Tryz.func97 Tryz.ntmps97 rfl rfl (aF (aA rfl (aE rfl (aB (aF (aA rfl (aC rfl ?_)))))))
 have LoM := X.size
 refine aA rfl (aT aEn rfl (aP (xR _ _ _ _ _ _ _ _ q hs hB ok hbl) ?_))
 rintro _ w2 ⟨mm, a4, sd5, rfl, hdw, oM, ok, b3, x1⟩
 replace hs := hs.grown x1 (by intro g hg; injection hg; omega)
 replace X := dI X x1
 clear x1 q
 replace oM := MOwn.low oM LoM
 refine aA rfl (aT aHi rfl (aP (wC mm _ _ oM.med hdw.2.1 hdw.2.2.2.2.2.2.2) ?_))
 rintro _ w7 ⟨AB, cB, rfl, oB, x6⟩
 replace oB := Own.low oB X.size
 replace hs := hs.ext x6
 replace b3 := b3.ext x6
 replace oM := oM.ext x6
 replace X := dU X x6; clear x6
 have hzb := aIe hdw.2.2.2.2.2.2.2
 have hzl := aB9 hdw.2.2.2.2.2.2.2
 have hzp := aCa mm.d
 obtain ⟨zs, hzs⟩ : ∃ l, l = jV mm.d := ⟨_, rfl⟩
 rw [← hzs] at oB hzb hzl hzp ⊢
 clear oM
 refine aA rfl (aE rfl (aB (aR (aF (aA rfl (aC rfl (aA rfl (aT fS rfl (aP (dN _ _ _ _ _ _ _ _ _ b3 hs hB ok hbl (by omega)) ?_)))))))))
 rintro _ w9 ⟨r6, a11, sd12, rfl, hr13, ok, b10, x8⟩
 replace hs := hs.grown x8 (by intro g hg; injection hg; omega)
 replace oB := oB.grownBlk x8 (Own.neT oB b3 (by decide))
 replace X := dI X x8
 clear x8 b3
 refine aA rfl (dP rfl rfl (fun h6 => ?_) (fun h6 => ?_))
 refine aB (aQ rfl (aN (aA rfl (aC rfl (aA rfl (aC rfl (aA rfl (aC rfl (aA rfl (bO Tryz.underlying30 rfl (aA rfl (aT fS rfl (aP (dN _ _ _ _ _ _ _ _ _ b10 hs hB ok hbl (by omega)) ?_)))))))))))))
 rintro _ w15 ⟨ri, a17, sd18, rfl, hr19, ok, b16, x14⟩
 replace hs := hs.grown x14 (by intro g hg; injection hg; omega)
 replace oB := oB.grownBlk x14 (Own.neT oB b10 (by decide))
 replace X := dI X x14
 clear x14 b10
 refine aA rfl (aC rfl (aA rfl (aT fS rfl (aP (dN _ _ _ _ _ _ _ _ _ b16 hs hB ok hbl (by omega)) ?_))))
 rintro _ w21 ⟨rv, a23, sd24, rfl, hr25, ok, b22, x20⟩
 replace hs := hs.grown x20 (by intro g hg; injection hg; omega)
 replace oB := oB.grownBlk x20 (Own.neT oB b16 (by decide))
 replace X := dI X x20
 clear x20 b16
 obtain ⟨x, hx⟩ : ∃ x, zs[ri.toNat]? = some x := ⟨_, List.getElem?_eq_getElem (by omega)⟩
 refine aA rfl (aU (oB).sl bI rfl cQ rfl rfl rfl hx (by omega) (aA rfl (pO oB dB rfl rfl rfl rfl (by omega) (by omega) rfl ?_)))
 intro w27 oU hg26 z28
 replace hs := hs.grown hg26 (fun g hg => Q7l Bhs (Own.lt oB hg).1)
 replace b22 := b22.grown hg26 (fun h => Own.neT oB b22 (by decide) h.symm)
 replace X : w.grownBy w27 (some gS) := by first | exact dI X hg26 | exact dV X hg26 (fun g hg => (Own.lt oB hg).1)
 clear hg26 z28
 obtain ⟨z2, hl2, hb2, oB⟩ : ∃ l : List Int, l.length = zs.length ∧ byt l ∧ Own _ w.heap.size 2 1 AB l.length cB (l.flatMap eI) := ⟨zs.set ri.toNat rv, List.length_set .., aIf hzb (by omega), by rw [List.length_set]; exact oU.to (nH (x := x) (x' := rv) (vs := [.int .i64 rv]) bI (f := 0) rfl (by omega) zs ri.toNat hx)⟩
 rw [← hl2]
 clear oU
 refine aB (aS (aF (aA rfl (aC rfl (aA rfl (aT aFd rfl (aP (rX _ _ _ z2 _ oB.sl (by omega) hb2 oB.cap) ?_)))))))
 rintro _ w30 ⟨AI, cI, rfl, oI, x29⟩
 replace oI := Own.low oI X.size
 replace hs := hs.ext x29
 replace b22 := b22.ext x29
 replace oB := oB.ext x29
 replace X := dU X x29
 have hi1 := sM z2
 have hi2 := zE z2.length
 obtain ⟨im, him⟩ : ∃ l, l = vM z2 := ⟨_, rfl⟩
 rw [← him] at oI hi1 ⊢
 clear oB
 refine aA rfl (aE rfl (aB (aR (aF (aA rfl (aC rfl (aA rfl (aT fS rfl (aP (dN _ _ _ _ _ _ _ _ _ b22 hs hB ok hbl (by omega)) ?_)))))))))
 rintro _ w32 ⟨r8, a34, sd35, rfl, hr36, ok, b33, x31⟩
 replace hs := hs.grown x31 (by intro g hg; injection hg; omega)
 replace oI := oI.grownBlk x31 (Own.neT oI b22 (by decide))
 replace X := dI X x31
 clear x31 b22
 refine aB (aX (aF (aA rfl (dP rfl rfl (fun h37 => ?_) (fun h37 => ?_)))))
 refine aA rfl (aE rfl (aB (aQ rfl (aN (aA rfl (aC rfl (aA rfl (aC rfl (aA rfl (aC rfl (aA rfl (bO Tryz.underlying30 rfl (aA rfl (aT fS rfl (aP (dN _ _ _ _ _ _ _ _ _ b33 hs hB ok hbl (by omega)) ?_)))))))))))))))
 rintro _ w39 ⟨rj, a41, sd42, rfl, hr43, ok, b40, x38⟩
 replace hs := hs.grown x38 (by intro g hg; injection hg; omega)
 replace oI := oI.grownBlk x38 (Own.neT oI b33 (by decide))
 replace X := dI X x38
 clear x38 b33
 refine aA rfl (aC rfl (aA rfl (aT fS rfl (aP (dN _ _ _ _ _ _ _ _ _ b40 hs hB ok hbl (by omega)) ?_))))
 rintro _ w45 ⟨rw, a47, sd48, rfl, hr49, ok, b46, x44⟩
 replace hs := hs.grown x44 (by intro g hg; injection hg; omega)
 replace oI := oI.grownBlk x44 (Own.neT oI b40 (by decide))
 replace X := dI X x44
 clear x44 b40
 obtain ⟨x, hx⟩ : ∃ x, im[rj.toNat]? = some x := ⟨_, List.getElem?_eq_getElem (by omega)⟩
 refine aA rfl (aU (oI).sl bI rfl cQ rfl rfl rfl hx (by omega) (aA rfl (pO oI dB rfl rfl rfl rfl (by omega) (by omega) rfl ?_)))
 intro w51 oU hg50 z52
 replace hs := hs.grown hg50 (fun g hg => Q7l Bhs (Own.lt oI hg).1)
 replace b46 := b46.grown hg50 (fun h => Own.neT oI b46 (by decide) h.symm)
 replace X : w.grownBy w51 (some gS) := by first | exact dI X hg50 | exact dV X hg50 (fun g hg => (Own.lt oI hg).1)
 clear hg50 z52
 obtain ⟨im2, hlim2, oim2⟩ : ∃ l : List Int, l.length = im.length ∧ Own _ w.heap.size 2 1 AI im.length cI (l.flatMap eI) := ⟨im.set rj.toNat rw, List.length_set .., oU.to (nH (x := x) (x' := rw) (vs := [.int .i64 rw]) bI (f := 0) rfl (by omega) im rj.toNat hx)⟩
 exact aB (dO (aS (aF (aA rfl (aC rfl (aA rfl (aE rfl (aB (aW (aL rfl rfl (⟨AI, cI, im2, _, _, by rw [hlim2] <;> rfl, ⟨by omega, by rw [hlim2]; exact oim2.cap⟩, oim2.sl, ok, b46, X⟩)))))))))))
 refine aA rfl (aE rfl (aB (aM rfl (aF (aA rfl (dP rfl rfl (fun h53 => ?_) (fun h53 => ?_)))))))
 refine aA rfl (aE rfl (aB (aQ rfl (aF (aA rfl (aC rfl (aA rfl (aC rfl (aA rfl (aC rfl (aA rfl (bO Tryz.underlying30 rfl (aA rfl (aT fS rfl (aP (dN _ _ _ _ _ _ _ _ _ b33 hs hB ok hbl (by omega)) ?_)))))))))))))))
 rintro _ w55 ⟨rk, a57, sd58, rfl, hr59, ok, b56, x54⟩
 replace hs := hs.grown x54 (by intro g hg; injection hg; omega)
 replace oI := oI.grownBlk x54 (Own.neT oI b33 (by decide))
 replace X := dI X x54
 clear x54 b33
 refine aA rfl (iL cQ rfl rfl (show _ = ((rk.toNat : Nat) : Int) by omega) (Q7l (by omega) (Own.cap oI)) ?_)
 have oG := Own.pre oI (show rk.toNat ≤ im.length by omega)
 refine aA rfl (aE rfl (aB (aW (dL (bN (aL rfl rfl ?_))))))
 · skip
   have hlt : (im.take rk.toNat).length = rk.toNat := by rw [List.length_take]; omega
   exact ⟨AI, cI, im.take rk.toNat, _, _, (by rw [hlt] <;> rfl), ⟨by omega, by rw [hlt]; exact oG.cap⟩, (oG.to (mK (enc := eI) bI im rk.toNat)).sl, ok, b56, X⟩
 refine aA rfl (aE rfl (aB (aM rfl (aF (aA rfl (dP rfl rfl (fun h61 => ?_) (fun h61 => ?_)))))))
 refine aA rfl (aE rfl (aB (aQ rfl (aF (aA rfl (aC rfl (aA rfl (aT aHt rfl (aP (aCY A B c bs gS _ _ _ b33 hs hB ok hbl) ?_)))))))))
 rintro _ wD ⟨AD, cD, yD, aD, sdD, rfl, hyD, pD, ok, q9, xD⟩
 replace X := dI X xD
 exact aA rfl (aE rfl (aB (aW (dL (bN (aL rfl rfl ⟨AD, cD, yD, aD, sdD, rfl, hyD, pD, ok, q9, X⟩))))))
 exact aA rfl (aE rfl (aB (aM rfl (aV (dO (aS (aF (aA rfl (aC rfl (aA rfl (aE rfl (aB (aW (aL rfl rfl (⟨AI, cI, im, _, _, rfl, ⟨by omega, oI.cap⟩, oI.sl, ok, b33, X⟩)))))))))))))))
 refine aB (aM rfl (aV (aS (aF (aA rfl (aC rfl (aA rfl (aT aFd rfl (aP (rX _ _ _ zs _ oB.sl (by omega) hzb oB.cap) ?_)))))))))
 rintro _ w63 ⟨AI, cI, rfl, oI, x62⟩
 replace oI := Own.low oI X.size
 replace hs := hs.ext x62
 replace oB := oB.ext x62
 replace b10 := b10.ext x62
 replace X := dU X x62
 have hi1 := sM zs
 have hi2 := zE zs.length
 obtain ⟨im, him⟩ : ∃ l, l = vM zs := ⟨_, rfl⟩
 rw [← him] at oI hi1 ⊢
 clear oB
 refine aA rfl (aE rfl (aB (aR (aF (aA rfl (aC rfl (aA rfl (aT fS rfl (aP (dN _ _ _ _ _ _ _ _ _ b10 hs hB ok hbl (by omega)) ?_)))))))))
 rintro _ w65 ⟨r8, a67, sd68, rfl, hr69, ok, b66, x64⟩
 replace hs := hs.grown x64 (by intro g hg; injection hg; omega)
 replace oI := oI.grownBlk x64 (Own.neT oI b10 (by decide))
 replace X := dI X x64
 clear x64 b10
 refine aB (aX (aF (aA rfl (dP rfl rfl (fun h70 => ?_) (fun h70 => ?_)))))
 refine aA rfl (aE rfl (aB (aQ rfl (aN (aA rfl (aC rfl (aA rfl (aC rfl (aA rfl (aC rfl (aA rfl (bO Tryz.underlying30 rfl (aA rfl (aT fS rfl (aP (dN _ _ _ _ _ _ _ _ _ b66 hs hB ok hbl (by omega)) ?_)))))))))))))))
 rintro _ w72 ⟨rj, a74, sd75, rfl, hr76, ok, b73, x71⟩
 replace hs := hs.grown x71 (by intro g hg; injection hg; omega)
 replace oI := oI.grownBlk x71 (Own.neT oI b66 (by decide))
 replace X := dI X x71
 clear x71 b66
 refine aA rfl (aC rfl (aA rfl (aT fS rfl (aP (dN _ _ _ _ _ _ _ _ _ b73 hs hB ok hbl (by omega)) ?_))))
 rintro _ w78 ⟨rw, a80, sd81, rfl, hr82, ok, b79, x77⟩
 replace hs := hs.grown x77 (by intro g hg; injection hg; omega)
 replace oI := oI.grownBlk x77 (Own.neT oI b73 (by decide))
 replace X := dI X x77
 clear x77 b73
 obtain ⟨x, hx⟩ : ∃ x, im[rj.toNat]? = some x := ⟨_, List.getElem?_eq_getElem (by omega)⟩
 refine aA rfl (aU (oI).sl bI rfl cQ rfl rfl rfl hx (by omega) (aA rfl (pO oI dB rfl rfl rfl rfl (by omega) (by omega) rfl ?_)))
 intro w84 oU hg83 z85
 replace hs := hs.grown hg83 (fun g hg => Q7l Bhs (Own.lt oI hg).1)
 replace b79 := b79.grown hg83 (fun h => Own.neT oI b79 (by decide) h.symm)
 replace X : w.grownBy w84 (some gS) := by first | exact dI X hg83 | exact dV X hg83 (fun g hg => (Own.lt oI hg).1)
 clear hg83 z85
 obtain ⟨im2, hlim2, oim2⟩ : ∃ l : List Int, l.length = im.length ∧ Own _ w.heap.size 2 1 AI im.length cI (l.flatMap eI) := ⟨im.set rj.toNat rw, List.length_set .., oU.to (nH (x := x) (x' := rw) (vs := [.int .i64 rw]) bI (f := 0) rfl (by omega) im rj.toNat hx)⟩
 exact aB (dO (aS (aF (aA rfl (aC rfl (aA rfl (aE rfl (aB (aW (aL rfl rfl (⟨AI, cI, im2, _, _, by rw [hlim2] <;> rfl, ⟨by omega, by rw [hlim2]; exact oim2.cap⟩, oim2.sl, ok, b79, X⟩)))))))))))
 refine aA rfl (aE rfl (aB (aM rfl (aF (aA rfl (dP rfl rfl (fun h86 => ?_) (fun h86 => ?_)))))))
 refine aA rfl (aE rfl (aB (aQ rfl (aF (aA rfl (aC rfl (aA rfl (aC rfl (aA rfl (aC rfl (aA rfl (bO Tryz.underlying30 rfl (aA rfl (aT fS rfl (aP (dN _ _ _ _ _ _ _ _ _ b66 hs hB ok hbl (by omega)) ?_)))))))))))))))
 rintro _ w88 ⟨rk, a90, sd91, rfl, hr92, ok, b89, x87⟩
 replace hs := hs.grown x87 (by intro g hg; injection hg; omega)
 replace oI := oI.grownBlk x87 (Own.neT oI b66 (by decide))
 replace X := dI X x87
 clear x87 b66
 refine aA rfl (iL cQ rfl rfl (show _ = ((rk.toNat : Nat) : Int) by omega) (Q7l (by omega) (Own.cap oI)) ?_)
 have oG := Own.pre oI (show rk.toNat ≤ im.length by omega)
 refine aA rfl (aE rfl (aB (aW (dL (bN (aL rfl rfl ?_))))))
 · skip
   have hlt : (im.take rk.toNat).length = rk.toNat := by rw [List.length_take]; omega
   exact ⟨AI, cI, im.take rk.toNat, _, _, (by rw [hlt] <;> rfl), ⟨by omega, by rw [hlt]; exact oG.cap⟩, (oG.to (mK (enc := eI) bI im rk.toNat)).sl, ok, b89, X⟩
 refine aA rfl (aE rfl (aB (aM rfl (aF (aA rfl (dP rfl rfl (fun h94 => ?_) (fun h94 => ?_)))))))
 refine aA rfl (aE rfl (aB (aQ rfl (aF (aA rfl (aC rfl (aA rfl (aT aHt rfl (aP (aCY A B c bs gS _ _ _ b66 hs hB ok hbl) ?_)))))))))
 rintro _ wD ⟨AD, cD, yD, aD, sdD, rfl, hyD, pD, ok, q9, xD⟩
 replace X := dI X xD
 exact aA rfl (aE rfl (aB (aW (dL (bN (aL rfl rfl ⟨AD, cD, yD, aD, sdD, rfl, hyD, pD, ok, q9, X⟩))))))
 exact aA rfl (aE rfl (aB (aM rfl (aV (dO (aS (aF (aA rfl (aC rfl (aA rfl (aE rfl (aB (aW (aL rfl rfl (⟨AI, cI, im, _, _, rfl, ⟨by omega, oI.cap⟩, oI.sl, ok, b66, X⟩)))))))))))))))
section
variable {P : Program} {n : Nat} {fn : Func} {e : List (Nat × Value)} {w : World} {R : Value → World → Prop} {s b s' b' : Nat} {z z' cs vs cs' vs' : List Value} {g i g' i' : Nat} {T T' S S' : TypeId} {t u t' x y : Tmp} {v v1 v2 : Value}
end
theorem aGU (A : Option Addr) (B c : Nat) (bs : List UInt8) (w : World) (hs : Sl B w A (bs.flatMap eB)) (hbl : bs.length ≤ 1048576) :
   Calls Tryz.prog 29 #[.slice A bs.length c] w (fF fun v w' => ∃ A' c' ys, v = .slice A' (List.length ys) c' ∧ (ys.length ≤ 3000 ∧ ys.length ≤ c') ∧ Sl w'.heap.size w' A' (ys.flatMap eI) ∧ Ext w w') := by
 have Bhs := hs.1
 have X := Q7r w
 refine bJ (args := [.slice A bs.length c]) Tryz.func29 Tryz.ntmps29 rfl rfl (aF (aA rfl (aE rfl (aB (aF (aA rfl (aC rfl (aA rfl (aT aI3 rfl (aP (aBu _ _ _ _ _ hs hbl) ?_))))))))))
 rintro _ w2 ⟨gS, a5, sd6, rfl, lgS0, ok, q, x1⟩
 have lgS : w.heap.size ≤ gS := Q7l X.size lgS0
 replace hs := hs.ext x1
 replace X := Q7x X x1; clear x1
 have hB : B ≤ gS := by omega
 refine aA rfl (aT aLt rfl (aP (aFE A B c bs gS _ _ _ q hs hB ok hbl) ?_))
 rintro _ wD ⟨AD, cD, yD, aD, sdD, rfl, hyD, pD, ok9, q9, xD⟩
 replace X := X.grown xD X.size (by intro g hg; injection hg; omega)
 exact aA rfl (aE rfl (aB (aW (aL rfl rfl ⟨AD, cD, yD, rfl, hyD, pD, X⟩))))
theorem aJy (A : Option Addr) (B c : Nat) (xs : List Int) (w : World) (hs : Sl B w A (xs.flatMap eI)) (hl : xs.length ≤ 1048576) :
   Calls Tryz.prog 103 #[.slice A xs.length c, .slice none 0 0] w (fF fun v w' => ∃ A' c', v = .slice A' xs.length c' ∧ Own w' w.heap.size 2 1 A' xs.length c' (xs.flatMap eI) ∧ Ext w w') := by
 have Bhs := hs.1
 have X := Q7r w
 refine bJ (args := [.slice A xs.length c, .slice none 0 0]) Tryz.func103 Tryz.ntmps103 rfl rfl (aF (aA rfl (aE rfl (aB (aF (aA rfl (aO cQ dB rfl rfl rfl rfl rfl ?_)))))))
 intro gO w2 egO oO bbgO x1 zgO
 replace oO := Own.low oO X.size
 replace hs := hs.ext x1
 replace X := Q7x X x1; clear x1
 refine aA rfl (aC rfl (aA rfl (cH (ts := #[]) oO X.size hs (eW bI xs) (dY xs) cQ dB rfl rfl rfl rfl (by omega) (by omega) ?_)))
 intro AoN coN w4 oN hg3
 replace hs := hs.grown hg3 (fun g hg => Q7l Bhs (Own.lt oO hg).1)
 replace X := X.grown hg3 X.size (fun g hg => (Own.lt oO hg).1)
 clear hg3
 rw [Nat.zero_add] at oN ⊢
 refine aA rfl (aE rfl (aB (aR (aF (aA rfl (aE rfl (aB (aX (dG (G := Nat) (fun k => [(1, .slice none 0 0), (4, .slice none 0 0), (5, .slice AoN xs.length coN), (6, .int .i64 (k : Nat))]) (fun k wr => Own wr w.heap.size 2 1 AoN xs.length coN (xs.flatMap eI) ∧ Sl B wr A (xs.flatMap eI) ∧ Ext w wr) (fun k => 0) 0 (.cons rfl (.cons rfl (.cons rfl (.cons rfl (.nil _))))) ?_ ?_)))))))))
 · exact ⟨(oN.to (by rw [show tA 0 [Value.int IntKind.i64 0] = [] from rfl, List.nil_append])), hs, X⟩
 clear hs oN
 clear X
 rintro k wr ⟨oN, hs, X⟩
 exact aR (aF (aA rfl (aC rfl (aA rfl (aC rfl (aA rfl (bO Tryz.underlying30 rfl (aA rfl (cU rfl rfl (fun h5 => absurd h5 (by omega)) (fun h5 => aB (aM rfl (dD (dC (dC (eG (aS (aF (aA rfl (aC rfl (aA rfl (aE rfl (aB (aW (aL rfl rfl ⟨_, _, rfl, oN, X⟩))))))))))))))))))))))))
set_option maxHeartbeats 2000000 in
theorem aGV (A : Option Addr) (B c : Nat) (bs : List UInt8) (w : World) (hs : Sl B w A (bs.flatMap eB)) (hbl : bs.length ≤ 1048576) :
   Calls Tryz.prog 31 #[.slice A bs.length c] w (fF fun v w' => ∃ A' c' ys, v = .slice A' (List.length ys) c' ∧ (ys.length ≤ 3000 ∧ ys.length ≤ c') ∧ Sl w'.heap.size w' A' (ys.flatMap eI) ∧ Ext w w') := by
 have Bhs := hs.1
 have X := Q7r w
 refine bJ (args := [.slice A bs.length c]) Tryz.func31 Tryz.ntmps31 rfl rfl (aF (aA rfl (aE rfl (aB (aF (aA rfl (aC rfl (aA rfl (aT aI3 rfl (aP (aBu _ _ _ _ _ hs hbl) ?_))))))))))
 rintro _ w2 ⟨gS, a5, sd6, rfl, lgS0, ok, q, x1⟩
 have lgS : w.heap.size ≤ gS := Q7l X.size lgS0
 replace hs := hs.ext x1
 replace X := Q7x X x1; clear x1
 have hB : B ≤ gS := by omega
 refine aA rfl (aE rfl (aB (aF (aA rfl (aC rfl ?_)))))
 have LoM := X.size
 refine aA rfl (aT aEn rfl (aP (xR _ _ _ _ _ _ _ _ q hs hB ok hbl) ?_))
 rintro _ w9 ⟨mm, a11, sd12, rfl, hdw, oM, ok, b10, x7⟩
 replace hs := hs.grown x7 (by intro g hg; injection hg; omega)
 replace X := X.grown x7 X.size (by intro g hg; injection hg; omega)
 clear x7 q
 replace oM := MOwn.low oM LoM
 refine aA rfl (aT aHi rfl (aP (wC mm _ _ oM.med hdw.2.1 hdw.2.2.2.2.2.2.2) ?_))
 rintro _ w14 ⟨AB, cB, rfl, oB, x13⟩
 replace oB := Own.low oB X.size
 replace hs := hs.ext x13
 replace b10 := b10.ext x13
 replace oM := oM.ext x13
 replace X := Q7x X x13
 have lzs := aB9 hdw.2.2.2.2.2.2.2
 have pzs := aCa mm.d
 obtain ⟨zs, ezs⟩ : ∃ l, l = jV mm.d := ⟨_, rfl⟩
 rw [← ezs] at oB lzs pzs ⊢
 clear oM
 refine aA rfl (aE rfl (aB (aR (aF (aA rfl (aC rfl (aA rfl (aT fS rfl (aP (dN _ _ _ _ _ _ _ _ _ b10 hs hB ok hbl (by omega)) ?_)))))))))
 rintro _ w16 ⟨r10, a18, sd19, rfl, hr20, ok, b17, x15⟩
 replace hs := hs.grown x15 (by intro g hg; injection hg; omega)
 replace oB := oB.grownBlk x15 (Own.neT oB b10 (by decide))
 replace X := X.grown x15 X.size (by intro g hg; injection hg; omega)
 clear x15 b10
 refine aB (aX (aF (aA rfl (dP rfl rfl (fun h21 => ?_) (fun h21 => ?_)))))
 refine aA rfl (aE rfl (aB (aQ rfl (aN (aA rfl (aC rfl (aA rfl (aC rfl (aA rfl (aC rfl (aA rfl (bO Tryz.underlying30 rfl (aA rfl (aT fS rfl (aP (dN _ _ _ _ _ _ _ _ _ b17 hs hB ok hbl (by omega)) ?_)))))))))))))))
 rintro _ w23 ⟨ri, a25, sd26, rfl, hr27, ok, b24, x22⟩
 replace hs := hs.grown x22 (by intro g hg; injection hg; omega)
 replace oB := oB.grownBlk x22 (Own.neT oB b17 (by decide))
 replace X := X.grown x22 X.size (by intro g hg; injection hg; omega)
 clear x22 b17
 refine aA rfl (aC rfl (aA rfl (aT fS rfl (aP (dN _ _ _ _ _ _ _ _ _ b24 hs hB ok hbl (by omega)) ?_))))
 rintro _ w29 ⟨rv, a31, sd32, rfl, hr33, ok, b30, x28⟩
 replace hs := hs.grown x28 (by intro g hg; injection hg; omega)
 replace oB := oB.grownBlk x28 (Own.neT oB b24 (by decide))
 replace X := X.grown x28 X.size (by intro g hg; injection hg; omega)
 clear x28 b24
 obtain ⟨x, hx⟩ : ∃ x, zs[ri.toNat]? = some x := ⟨_, List.getElem?_eq_getElem (by omega)⟩
 refine aA rfl (aU (oB).sl bI rfl cQ rfl rfl rfl hx (by omega) (aA rfl (pO oB dB rfl rfl rfl rfl (by omega) (by omega) rfl ?_)))
 intro w35 oU hg34 z36
 replace hs := hs.grown hg34 (fun g hg => Q7l Bhs (Own.lt oB hg).1)
 replace b30 := b30.grown hg34 (fun h => Own.neT oB b30 (by decide) h.symm)
 replace X := X.grown hg34 X.size (fun g hg => (Own.lt oB hg).1)
 clear hg34 z36
 obtain ⟨z2, hlz2, oz2⟩ : ∃ l : List Int, l.length = zs.length ∧ Own _ w.heap.size 2 1 AB zs.length cB (l.flatMap eI) := ⟨zs.set ri.toNat rv, List.length_set .., oU.to (nH (x := x) (x' := rv) (vs := [.int .i64 rv]) bI (f := 0) rfl (by omega) zs ri.toNat hx)⟩
 exact aB (dO (aS (aF (aA rfl (aC rfl (aA rfl (aE rfl (aB (aW (aL rfl rfl (⟨AB, cB, z2, by rw [hlz2] <;> rfl, ⟨by omega, by rw [hlz2]; exact oz2.cap⟩, oz2.sl, X⟩)))))))))))
 refine aA rfl (aE rfl (aB (aM rfl (aF (aA rfl (dP rfl rfl (fun h37 => ?_) (fun h37 => ?_)))))))
 refine aA rfl (aE rfl (aB (aQ rfl (aF (aA rfl (aC rfl (aA rfl (aC rfl (aA rfl (aC rfl (aA rfl (bO Tryz.underlying30 rfl (aA rfl (aT fS rfl (aP (dN _ _ _ _ _ _ _ _ _ b17 hs hB ok hbl (by omega)) ?_)))))))))))))))
 rintro _ w39 ⟨rk, a41, sd42, rfl, hr43, ok, b40, x38⟩
 replace hs := hs.grown x38 (by intro g hg; injection hg; omega)
 replace oB := oB.grownBlk x38 (Own.neT oB b17 (by decide))
 replace X := X.grown x38 X.size (by intro g hg; injection hg; omega)
 clear x38 b17
 refine aA rfl (iL cQ rfl rfl (show _ = ((rk.toNat : Nat) : Int) by omega) (Q7l (by omega) (Own.cap oB)) ?_)
 have oG := Own.pre oB (show rk.toNat ≤ zs.length by omega)
 refine aA rfl (aE rfl (aB (aW (dL (bN (aL rfl rfl ?_))))))
 · skip
   have hlt : (zs.take rk.toNat).length = rk.toNat := by rw [List.length_take]; omega
   exact ⟨AB, cB, zs.take rk.toNat, (by rw [hlt] <;> rfl), ⟨by omega, by rw [hlt]; exact oG.cap⟩, (oG.to (mK (enc := eI) bI zs rk.toNat)).sl, X⟩
 refine aA rfl (aE rfl (aB (aM rfl (aF (aA rfl (dP rfl rfl (fun h45 => ?_) (fun h45 => ?_)))))))
 refine aA rfl (aE rfl (aB (aQ rfl (aF (aA rfl (aC rfl (aA rfl (aO cQ dB rfl rfl rfl rfl rfl ?_))))))))
 intro g46 w48 eg46 oV bbg46 x47 zg46
 replace oV := Own.low oV X.size
 replace hs := hs.ext x47
 replace oB := oB.ext x47
 replace b17 := b17.ext x47
 replace X := Q7x X x47
 refine aA rfl (cH (ts := #[]) oB X.size oV.sl rfl (dY [0]) cQ dB rfl rfl rfl rfl (by omega) (by omega) ?_)
 intro AoW coW w50 oW hg49
 replace hs := hs.grown hg49 (fun g hg => Q7l Bhs (Own.lt oB hg).1)
 replace b17 := b17.grown hg49 (fun h => Own.neT oB b17 (by decide) h.symm)
 replace X := X.grown hg49 X.size (fun g hg => (Own.lt oB hg).1)
 clear hg49
 refine aA rfl (aE rfl (aB (aW (dL (bN (aL rfl rfl ?_))))))
 · skip
   have hlt : (zs ++ [0]).length = zs.length + 1 := by simp
   exact ⟨_, _, zs ++ [0], by rw [hlt], ⟨by omega, by rw [hlt]; exact oW.cap⟩, (oW.to (by rw [List.flatMap_append]; rfl)).sl, X⟩
 refine aA rfl (aE rfl (aB (aM rfl (aF (aA rfl (dP rfl rfl (fun h51 => ?_) (fun h51 => ?_)))))))
 refine aA rfl (aE rfl (aB (aQ rfl (aF (aA rfl (aE2 cQ dB rfl rfl rfl rfl (show _ = ((3 : Nat) : Int) from rfl) (show _ = ((3 : Nat) : Int) from rfl) (by omega) (by omega) ?_))))))
 intro gZ w53 egZ oZ x52
 replace oZ := Own.low oZ X.size
 replace hs := hs.ext x52
 replace oB := oB.ext x52
 replace b17 := b17.ext x52
 replace X := Q7x X x52
 refine aA rfl (aT aJJ rfl (aP (aJy _ _ _ [0, 0, 0] _ (oZ.to (cs' := ([0, 0, 0] : List Int).flatMap eI) rfl).sl (by decide)) ?_))
 rintro _ w55 ⟨AF, cF, rfl, oF, x54⟩
 replace oF := Own.low oF X.size
 replace hs := hs.ext x54
 replace oB := oB.ext x54
 replace b17 := b17.ext x54
 replace oZ := oZ.ext x54
 replace X := Q7x X x54
 clear oZ oB
 have h3z : ([0, 0, 0] : List Int).length = 3 := rfl
 refine aA rfl (aE rfl (aB (aF (aA rfl (aC rfl (aA rfl (aC rfl ?_)))))))
 have LoM2 := X.size
 refine aA rfl (aT aEn rfl (aP (xR _ _ _ _ _ _ _ _ b17 hs hB ok hbl) ?_))
 rintro _ w57 ⟨m2, a59, sd60, rfl, hd2, oM2, ok, b58, x56⟩
 replace hs := hs.grown x56 (by intro g hg; injection hg; omega)
 replace oF := oF.grownBlk x56 (Own.neT oF b17 (by decide))
 replace X := X.grown x56 X.size (by intro g hg; injection hg; omega)
 clear x56 b17
 replace oM2 := MOwn.low oM2 LoM2
 refine aA rfl (aT aHi rfl (aP (wC m2 _ _ oM2.med hd2.2.1 hd2.2.2.2.2.2.2.2) ?_))
 rintro _ w62 ⟨AT, cT, rfl, oT, x61⟩
 replace oT := Own.low oT X.size
 replace hs := hs.ext x61
 replace oF := oF.ext x61
 replace b58 := b58.ext x61
 replace oM2 := oM2.ext x61
 replace X := Q7x X x61
 have lzt := aB9 hd2.2.2.2.2.2.2.2
 have pzt := aCa m2.d
 obtain ⟨zt, ezt⟩ : ∃ l, l = jV m2.d := ⟨_, rfl⟩
 rw [← ezt] at oT lzt pzt ⊢
 clear oM2
 refine aA rfl (kI cQ (oT).sl bI rfl rfl (show (3 : Int) = ((3 : Nat) : Int) from rfl) rfl (by omega) oT.cap ?_)
 intro Ap pT
 clear oT
 refine aA rfl (cH (ts := #[]) oF X.size pT (by rw [eW bI, List.length_drop]) (dY _) cQ dB rfl rfl rfl rfl (by omega) (by omega) ?_)
 intro AoW coW w65 oW hg63
 replace hs := hs.grown hg63 (fun g hg => Q7l Bhs (Own.lt oF hg).1)
 replace b58 := b58.grown hg63 (fun h => Own.neT oF b58 (by decide) h.symm)
 replace X := X.grown hg63 X.size (fun g hg => (Own.lt oF hg).1)
 clear hg63
 refine aA rfl (aE rfl (aB (aW (dL (bN (aL rfl rfl ?_))))))
 · skip
   have hlt : ([0, 0, 0] ++ zt.drop 3).length = 3 + (zt.length - 3) := by rw [List.length_append, List.length_drop]; rfl
   exact ⟨_, _, [0, 0, 0] ++ zt.drop 3, by rw [hlt] <;> rfl, ⟨by omega, by rw [hlt]; exact oW.cap⟩, (oW.to (by rw [List.flatMap_append])).sl, X⟩
 refine aA rfl (aE rfl (aB (aM rfl (aF (aA rfl (dP rfl rfl (fun h66 => ?_) (fun h66 => ?_)))))))
 refine aA rfl (aE rfl (aB (aQ rfl (aF (aA rfl (aC rfl ?_))))))
 have LoY := X.size
 refine aA rfl (aT aEo rfl (aP (pR _ _ _ _ _ _ _ _ _ b17 hs hB ok hbl (by omega)) ?_))
 rintro _ w68 ⟨AY, cY, ys2, a70, sd71, rfl, hyl2, oY, ok, b69, x67⟩
 replace hs := hs.grown x67 (by intro g hg; injection hg; omega)
 replace oB := oB.grownBlk x67 (Own.neT oB b17 (by decide))
 replace X := X.grown x67 X.size (by intro g hg; injection hg; omega)
 clear x67 b17
 replace oY := Own.low oY LoY
 exact aA rfl (aE rfl (aB (aW (dL (bN (aL rfl rfl (⟨_, _, ys2, rfl, ⟨by omega, oY.cap⟩, oY.sl, X⟩)))))))
 exact aA rfl (aE rfl (aB (aM rfl (aV (dO (aS (aF (aA rfl (aC rfl (aA rfl (aE rfl (aB (aW (aL rfl rfl (⟨AB, cB, zs, rfl, ⟨by omega, oB.cap⟩, oB.sl, X⟩)))))))))))))))
end Go.Proofs.YtdoibplhbdkapaaGreatDoor
