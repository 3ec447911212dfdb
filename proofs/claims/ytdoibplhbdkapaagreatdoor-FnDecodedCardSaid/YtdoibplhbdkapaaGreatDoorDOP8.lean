/- Parts. No condition. -/
import Derived.Test.YtdoibplhbdkapaaGreatDoorDOP7
import Derived.Test.YtdoibplhbdkapaaGreatDoorDOP4
import Derived.Test.YtdoibplhbdkapaaGreatDoorDOP6
namespace Go.Proofs.YtdoibplhbdkapaaGreatDoor
open Go.RowKit
set_option linter.unusedVariables false
set_option linter.unusedSimpArgs false
set_option maxRecDepth 20000
def mL (d : Desc) : List Int := [d.node, d.kind * 64 + d.size, d.duration / 256, d.duration % 256, if d.change = true then 1 else 0]
def zG (x : SlotI) : List Int := [x.mode * 16 + x.round, x.slot] ++ mL x.desc
def stP (xs : List SlotI) (k : Nat) : List Int := (xs.length : Int) :: (xs.take k).flatMap zG
def stB (xs : List SlotI) : List Int := stP xs xs.length
theorem aDB {xs : List SlotI} {k : Nat} {x : SlotI} (h : xs[k]? = some x) : (stP xs (k + 1)).flatMap eI = ((stP xs k).flatMap eI ++ (eI (x.mode * 16 + x.round) ++ eI x.slot)) ++ (mL x.desc).flatMap eI := by
 unfold stP
 rw [List.take_add_one, h]
 simp [List.flatMap_append, zG]
theorem aJg : ∀ l : List SlotI, (l.flatMap zG).length = 7 * l.length
 | [] => rfl
 | x :: l => by rw [List.flatMap_cons, List.length_append, aJg l]; simp [zG, mL]; omega
theorem aAl {xs : List SlotI} {k : Nat} (h : k ≤ xs.length) : (stP xs k).length = 1 + 7 * k := by
 unfold stP
 rw [List.length_cons, aJg, List.length_take]; omega
theorem yH {d : Desc} (h : fP d = true) : (0 ≤ d.node ∧ d.node ≤ 31) ∧ (0 ≤ d.kind ∧ d.kind ≤ 3) ∧ (0 ≤ d.size ∧ d.size ≤ 32) ∧ (0 ≤ d.duration ∧ d.duration ≤ 1000) := by
 simp only [fP, Bool.and_eq_true] at h
 have h1 := eO.1 h.1.1.1.1; have h2 := eO.1 h.1.1.1.2; have h3 := rK h.1.1.2; have h4 := eO.1 h.2
 have h5 := iS d.kind h3
 exact ⟨h1, h2, h3, by omega⟩
theorem aBN {x : SlotI} (h : hP x = true) : (0 ≤ x.mode ∧ x.mode ≤ 15) ∧ (0 ≤ x.round ∧ x.round ≤ 7) ∧ (0 ≤ x.slot ∧ x.slot ≤ 15) ∧ fP x.desc = true := by
 simp only [hP, Bool.and_eq_true] at h
 exact ⟨eO.1 h.1.1.1, eO.1 h.1.1.2, eO.1 h.1.2, h.2⟩
theorem aFi (b : Bool) (w : World)  :
   Calls Tryz.prog 217 #[.bool b] w (fF fun v w' => v = .int .i64 (if b = true then 1 else 0) ∧ Ext w w') := by
 have X := Q7r w
 refine bJ (args := [.bool b]) Tryz.func217 Tryz.ntmps217 rfl rfl (aF (aA rfl (aE rfl (aB (aR (aF (aA rfl (aC rfl (aB (rU rfl (fun h1 => ?_) (fun h1 => ?_)))))))))))
 exact aF (aA rfl (aE rfl (aB (aW (bN (aL rfl rfl ⟨by simp [*], X⟩))))))
 exact aV (aS (aF (aA rfl (aE rfl (aB (aW (aL rfl rfl ⟨by simp [*], X⟩)))))))
theorem aEG (d : Desc) (w : World) (hd : fP d = true) :
   Calls Tryz.prog 232 #[.agg d.cells.toArray] w (fF fun v w' => ∃ A' c', v = .slice A' 5 c' ∧ Own w' w.heap.size 2 1 A' 5 c' ((mL d).flatMap eI) ∧ Ext w w') := by
 have hr := yH hd
 have X := Q7r w
 refine bJ (args := [.agg d.cells.toArray]) Tryz.func232 Tryz.ntmps232 rfl rfl (aF (aA rfl (eX rfl rfl ?_)))
 intro g4 w3 eg4 b1 x2 zg4
 have lg4 : w.heap.size ≤ g4 := Q7l X.size (Q7e eg4.symm)
 replace X := Q7x X x2; clear x2
 refine aA rfl (aE rfl (aB (aF (aA rfl (aE rfl (aB (aR (aF (aA rfl (aG sQ rfl rfl (aA rfl (aJ b1 xO rfl rfl ?_))))))))))))
 cases hch : d.change
 refine aB (aM rfl (aV (aS (aF (aA rfl (aG kA rfl rfl (aA rfl (aJ b1 dB rfl rfl (aA rfl (aG fM rfl rfl (aA rfl (aJ b1 dB rfl rfl (aA rfl (fO rfl rfl (dM (by omega)) (aA rfl (aG jP rfl rfl (aA rfl (aJ b1 dB rfl rfl (aA rfl (aY rfl rfl (dM (by omega)) (aA rfl (aG fC rfl rfl (aA rfl (aJ b1 dB rfl rfl (aA rfl (gK rfl rfl (by omega) (vK (by omega)) (aA rfl (aG fC rfl rfl (aA rfl (aJ b1 dB rfl rfl (aA rfl (fK rfl rfl (by omega) (qZ (by omega)) (aA rfl (aC rfl (aA rfl (aO cQ dB rfl rfl rfl rfl rfl ?_))))))))))))))))))))))))))))))))))))
 intro g5 w7 eg5 oS bbg5 x6 zg5
 replace oS := Own.low oS X.size
 replace b1 := b1.ext x6
 replace X := Q7x X x6; clear x6
 exact aA rfl (aE rfl (aB (aW (aL rfl rfl ⟨_, _, rfl, oS.to (by simp [mL, hch, eI, tA]), X⟩))))
 refine aB (aQ rfl (aN (aA rfl (aE rfl (aB (aS (aF (aA rfl (aG kA rfl rfl (aA rfl (aJ b1 dB rfl rfl (aA rfl (aG fM rfl rfl (aA rfl (aJ b1 dB rfl rfl (aA rfl (fO rfl rfl (dM (by omega)) (aA rfl (aG jP rfl rfl (aA rfl (aJ b1 dB rfl rfl (aA rfl (aY rfl rfl (dM (by omega)) (aA rfl (aG fC rfl rfl (aA rfl (aJ b1 dB rfl rfl (aA rfl (gK rfl rfl (by omega) (vK (by omega)) (aA rfl (aG fC rfl rfl (aA rfl (aJ b1 dB rfl rfl (aA rfl (fK rfl rfl (by omega) (qZ (by omega)) (aA rfl (aC rfl (aA rfl (aO cQ dB rfl rfl rfl rfl rfl ?_)))))))))))))))))))))))))))))))))))))))
 intro g8 w10 eg8 oS bbg8 x9 zg8
 replace oS := Own.low oS X.size
 replace b1 := b1.ext x9
 replace X := Q7x X x9; clear x9
 exact aA rfl (aE rfl (aB (aW (aL rfl rfl ⟨_, _, rfl, oS.to (by simp [mL, hch, eI, tA]), X⟩))))
theorem aDC (d : Desc) (w : World) (hd : fP d = true) :
   Calls Tryz.prog 218 #[.agg d.cells.toArray] w (fF fun v w' => ∃ A' c', v = .slice A' 5 c' ∧ Own w' w.heap.size 2 1 A' 5 c' ((mL d).flatMap eI) ∧ Ext w w') := by
 have hr := yH hd
 have X := Q7r w
 refine bJ (args := [.agg d.cells.toArray]) Tryz.func218 Tryz.ntmps218 rfl rfl (aF (aA rfl (eX rfl rfl ?_)))
 intro g4 w3 eg4 b1 x2 zg4
 have lg4 : w.heap.size ≤ g4 := Q7l X.size (Q7e eg4.symm)
 replace X := Q7x X x2; clear x2
 refine aA rfl (aE rfl (aB (eK [false, false, false, false, false, false, false, false, false, false, false, false, false, false, false, false, false, true, false] mixed (by kernel_rfl) (cO rfl (fun wq sq => aG kA rfl rfl ⟨rfl, Q7r _⟩) (cO rfl (fun wq sq => aJ (b1.ext sq) dB rfl rfl ⟨rfl, Q7r _⟩) (cO rfl (fun wq sq => aG fM rfl rfl ⟨rfl, Q7r _⟩) (cO rfl (fun wq sq => aJ (b1.ext sq) dB rfl rfl ⟨rfl, Q7r _⟩) (cO rfl (fun wq sq => fO rfl rfl (dM (by omega)) ⟨rfl, Q7r _⟩) (cO rfl (fun wq sq => aG jP rfl rfl ⟨rfl, Q7r _⟩) (cO rfl (fun wq sq => aJ (b1.ext sq) dB rfl rfl ⟨rfl, Q7r _⟩) (cO rfl (fun wq sq => aY rfl rfl (dM (by omega)) ⟨rfl, Q7r _⟩) ?_)))))))))))
 refine cO rfl (fun wq sq => aG fC rfl rfl ⟨rfl, Q7r _⟩) (cO rfl (fun wq sq => aJ (b1.ext sq) dB rfl rfl ⟨rfl, Q7r _⟩) (cO rfl (fun wq sq => gK rfl rfl (by omega) (vK (by omega)) ⟨rfl, Q7r _⟩) (cO rfl (fun wq sq => aG fC rfl rfl ⟨rfl, Q7r _⟩) (cO rfl (fun wq sq => aJ (b1.ext sq) dB rfl rfl ⟨rfl, Q7r _⟩) (cO rfl (fun wq sq => fK rfl rfl (by omega) (qZ (by omega)) ⟨rfl, Q7r _⟩) (cO rfl (fun wq sq => aG sQ rfl rfl ⟨rfl, Q7r _⟩) (cO rfl (fun wq sq => aJ (b1.ext sq) xO rfl rfl ⟨rfl, Q7r _⟩) (cO rfl (fun wq sq => aT aHy rfl (aFi _ _)) (zL (fun gS : Nat => Value.slice (some ⟨gS, 0, none⟩) 5 5) (fun gS wz => Own wz w.heap.size 2 1 (some ⟨gS, 0, none⟩) 5 5 ((mL d).flatMap eI)) 0 rfl ⟨lT, fun _ _ _ h k => h.ext k, fun wq sq => aO cQ dB rfl rfl rfl rfl rfl (fun g w' hg ho hb hx hz => ⟨g, rfl, Own.low ho (Q7l X.size (sq).size), hx⟩)⟩ ?_)))))))))
 intro gS
 refine cO rfl (fun wq sq => aE rfl ⟨rfl, Q7r _⟩) (dX (fun w5 sq => ?_))
 have xq := sq.1
 have oS := sq.2
 replace b1 := b1.ext xq
 replace X := Q7x X xq; clear xq sq
 exact aB (aW (aL rfl rfl ⟨_, _, rfl, oS, X⟩))
theorem yI (A : Option Addr) (B c : Nat) (xs : List SlotI) (w : World) (hs : Sl B w A (xs.flatMap SlotI.cells)) (hT : iB xs = true) :
   Calls Tryz.prog 150 #[.slice A xs.length c] w (fF fun v w' => ∃ A' c', v = .slice A' (1 + 7 * xs.length) c' ∧ Own w' w.heap.size 2 1 A' (1 + 7 * xs.length) c' ((stB xs).flatMap eI) ∧ Ext w w') := by
 have Bhs := hs.1
 have X := Q7r w
 refine bJ (args := [.slice A xs.length c]) Tryz.func150 Tryz.ntmps150 rfl rfl (aF (aA rfl (aE rfl (aB (aF (aA rfl (aC rfl (aA rfl (bO Tryz.underlying26 rfl (aA rfl (aO cQ dB rfl rfl rfl rfl rfl ?_)))))))))))
 intro gO w2 egO oO bbgO x1 zgO
 replace oO := Own.low oO X.size
 replace hs := hs.ext x1
 replace X := Q7x X x1; clear x1
 replace oO := oO.to (cs' := (stP xs 0).flatMap eI) rfl
 refine aA rfl (aE rfl (aB (aR (aF (aA rfl (aC rfl (aA rfl (bO Tryz.underlying26 rfl (aA rfl (aC rfl (aB (aX (dG (G := Nat × Nat × Option Addr × Nat) (fun ⟨k, n1, A1, c1⟩ => [(2, .slice none 0 0), (9, .slice A xs.length c), (10, .int .i64 (xs.length : Nat)), (3, .slice A1 n1 c1), (11, .int .i64 (k : Nat))]) (fun ⟨k, n1, A1, c1⟩ wr => k ≤ xs.length ∧ n1 = 1 + 7 * k ∧ Own wr w.heap.size 2 1 A1 n1 c1 ((stP xs k).flatMap eI) ∧ Sl B wr A (xs.flatMap SlotI.cells) ∧ Ext w wr) (fun ⟨k, n1, A1, c1⟩ => xs.length - k) (0, 1, some ⟨gO, 0, none⟩, 1) (.cons rfl (.cons rfl (.cons rfl (.cons rfl (.cons rfl (.nil _)))))) ?_ ?_)))))))))))))
 · exact ⟨by omega, rfl, oO, hs, X⟩
 clear hs oO
 clear X
 rintro ⟨k, n1, A1, c1⟩ wr ⟨hk0, hn, oO, hs, X⟩
 refine aF (aA rfl (cU rfl rfl (fun hk => ?_) (fun hk => ?_)))
 obtain ⟨x, hx, dx⟩ := dR hk
 have hk1 := aBN (aIu hT hx)
 have hd := hk1.2.2.2
 have hL := tR hT
 refine aB (aR (aQ rfl (aV (aS (aR (aX (aF (aA rfl (aU hs SlotI.len rfl gF rfl rfl rfl hx rfl (aA rfl (eE hs SlotI.len hx eQ rfl (aA rfl (dT eQ ?_)))))))))))))
 intro gX w4 egX bX x3 zgX
 have lgX : w.heap.size ≤ gX := Q7l X.size (Q7e egX.symm)
 have pgXhs := Q7l hs.1 (Q7e egX.symm)
 replace oO := oO.ext x3
 replace hs := hs.ext x3
 replace X := Q7x X x3; clear x3
 refine aA rfl (bK bX eQ rfl rfl rfl rfl rfl rfl ?_)
 intro w6 bY hg5 z7
 replace oO := oO.grownBlk hg5 (Own.neT oO bX (by decide))
 replace hs := hs.grown hg5 (by intro g hg; injection hg; omega)
 replace X := X.grown hg5 X.size (by intro g hg; injection hg; omega)
 clear hg5 bX
 refine aB (aG8 (fun wz => Blk wz gX 89 x.cells) mixed ?_)
 obtain ⟨w9, ew9⟩ : ∃ wy, wy = World.drew w6 := ⟨_, rfl⟩
 rw [← ew9]
 have xd : Ext w6 w9 := ew9 ▸ Ext.drew w6
 replace oO := oO.ext xd
 replace hs := hs.ext xd
 replace bY := bY.ext xd
 replace X := Q7x X xd; clear xd ew9
 refine dH 0 rfl (by kernel_rfl) rfl (by kernel_rfl) (listed' := #[true, false, false, false, false, false, false, false, false, false, false, false, false, false, false, false]) rfl (fun wq sq => aC rfl ⟨rfl, rfl⟩) (dH 1 rfl (by kernel_rfl) rfl (by kernel_rfl) (listed' := #[true, true, false, false, false, false, false, false, false, false, false, false, false, false, false, false]) rfl (fun wq sq => aG iA rfl rfl ⟨rfl, rfl⟩) (dH 2 rfl (by kernel_rfl) rfl (by kernel_rfl) (listed' := #[true, true, true, false, false, false, false, false, false, false, false, false, false, false, false, false]) rfl (fun wq sq => aJ sq dB rfl rfl ⟨rfl, rfl⟩) ?_))
 refine dH 3 rfl (by kernel_rfl) rfl (by kernel_rfl) (listed' := #[true, true, true, true, false, false, false, false, false, false, false, false, false, false, false, false]) rfl (fun wq sq => fO rfl rfl (dM (by omega)) ⟨rfl, rfl⟩) (dH 4 rfl (by kernel_rfl) rfl (by kernel_rfl) (listed' := #[true, true, true, true, true, false, false, false, false, false, false, false, false, false, false, false]) rfl (fun wq sq => aG kP rfl rfl ⟨rfl, rfl⟩) (dH 5 rfl (by kernel_rfl) rfl (by kernel_rfl) (listed' := #[true, true, true, true, true, true, false, false, false, false, false, false, false, false, false, false]) rfl (fun wq sq => aJ sq dB rfl rfl ⟨rfl, rfl⟩) ?_))
 refine dH 6 rfl (by kernel_rfl) rfl (by kernel_rfl) (listed' := #[true, true, true, true, true, true, true, false, false, false, false, false, false, false, false, false]) rfl (fun wq sq => aY rfl rfl (dM (by omega)) ⟨rfl, rfl⟩) (dH 7 rfl (by kernel_rfl) rfl (by kernel_rfl) (listed' := #[true, true, true, true, true, true, true, true, false, false, false, false, false, false, false, false]) rfl (fun wq sq => aG kB rfl rfl ⟨rfl, rfl⟩) (dH 8 rfl (by kernel_rfl) rfl (by kernel_rfl) (listed' := #[true, true, true, true, true, true, true, true, true, false, false, false, false, false, false, false]) rfl (fun wq sq => aJ sq dB rfl rfl ⟨rfl, rfl⟩) ?_))
 refine dH 11 rfl (by kernel_rfl) rfl (by kernel_rfl) (listed' := #[true, true, true, true, true, true, true, true, true, false, false, true, false, false, false, false]) rfl (fun wq sq => aG iN rfl rfl ⟨rfl, rfl⟩) (dH 12 rfl (by kernel_rfl) rfl (by kernel_rfl) (listed' := #[true, true, true, true, true, true, true, true, true, false, false, true, true, false, false, false]) rfl (fun wq sq => dE sq fU rfl rfl ⟨rfl, rfl⟩) (hU 9 rfl rfl (by kernel_rfl) (listed' := #[true, true, true, true, true, true, true, true, true, true, false, true, true, false, false, false]) rfl bY (aO cQ dB rfl rfl rfl rfl rfl ?_)))
 intro gS w11 egS oS bbgS x10 zgS
 replace oS := Own.low oS X.size
 replace oO := oO.ext x10
 replace hs := hs.ext x10
 replace bY := bY.ext x10
 replace X := Q7x X x10
 refine hU 10 rfl rfl (by kernel_rfl) (listed' := #[true, true, true, true, true, true, true, true, true, true, true, true, true, false, false, false]) rfl bY (cH (ts := #[]) oO X.size oS.sl (by first | rfl | simp) (by first | exact List.all_eq_true.1 rfl | simp [Value.oneCell']) cQ dB rfl rfl rfl rfl (by omega) (by omega) ?_)
 intro AoM coM w13 oM hg12
 replace hs := hs.grown hg12 (fun g hg => Q7l Bhs (Own.lt oO hg).1)
 replace bY := bY.grown hg12 (fun h => Own.neT oO bY (by decide) h.symm)
 replace X := X.grown hg12 X.size (fun g hg => (Own.lt oO hg).1)
 clear hg12
 refine hU 13 rfl rfl (by kernel_rfl) (listed' := #[true, true, true, true, true, true, true, true, true, true, true, true, true, true, false, false]) rfl bY (aT aKh rfl (aP (aDC _ _ hd) ?_))
 rintro _ w15 ⟨A16, c17, rfl, oD, x14⟩
 replace oD := Own.low oD X.size
 replace hs := hs.ext x14
 replace bY := bY.ext x14
 replace oM := oM.ext x14
 replace X := Q7x X x14
 refine hU 14 rfl rfl (by kernel_rfl) (listed' := #[true, true, true, true, true, true, true, true, true, true, true, true, true, true, true, false]) rfl bY (cH (ts := #[]) oM X.size oD.sl (by simp [mL, eI]) (by simp [mL, eI, Value.oneCell']) cQ dB rfl rfl rfl rfl (by omega) (by omega) ?_)
 intro AoN coN w19 oN hg18
 replace hs := hs.grown hg18 (fun g hg => Q7l Bhs (Own.lt oM hg).1)
 replace bY := bY.grown hg18 (fun h => Own.neT oM bY (by decide) h.symm)
 replace X := X.grown hg18 X.size (fun g hg => (Own.lt oM hg).1)
 clear hg18
 refine dH 15 rfl (by kernel_rfl) rfl (by kernel_rfl) (listed' := #[true, true, true, true, true, true, true, true, true, true, true, true, true, true, true, true]) rfl (fun wq sq => aE rfl ⟨rfl, rfl⟩) (jE rfl bY (fun aj fj => ⟨_, fj, dO (aS (aN (aA rfl (aY rfl rfl (dM (by omega)) (aA rfl (aC rfl (aB (aS ⟨(k + 1, n1 + 2 + 5, AoN, coN), (.cons rfl (.cons rfl (.cons rfl (.cons rfl (.cons rfl (.nil _)))))), ?_, ?_⟩))))))))⟩))
 · exact ⟨by omega, by omega, oN.to (aDB hx).symm, hs, X⟩
 · first | omega | (dsimp only; omega)
 refine aB (aR (aM rfl (dD (dC (dC (eG (aS (aF (aA rfl (aC rfl (aA rfl (aE rfl (aB (aW (aL rfl rfl ?_)))))))))))))))
 · skip
   rw [show k = xs.length by omega] at oO hn
   subst hn
   exact ⟨_, _, rfl, oO, X⟩
theorem aFj (A : Option Addr) (B B2 c : Nat) (xs : List ModeI) (w : World) (hs : Sl B w A (xs.flatMap ModeI.cells)) (hn : Nexts B2 w xs) (hl : xs.length ≤ 1048576) (hz : ∀ x ∈ xs, x.m.next.length ≤ 1048576) :
   Calls Tryz.prog 225 #[.slice A xs.length c] w (fF fun v w' => v = .bool (jX (xs.map (·.m))) ∧ Ext w w') := by
 have Bhs := hs.1
 have Bhn := hn.1
 have X := Q7r w
 refine bJ (args := [.slice A xs.length c]) Tryz.func225 Tryz.ntmps225 rfl rfl (aF (aA rfl (aE rfl (aB (aR (aF (aA rfl (aC rfl (aA rfl (bO Tryz.underlying25 rfl (aA rfl (cV kC rfl (iQ _ _ _ _) (fun w2 hB x1 => ?_) (fun w2 hB x1 => ?_)))))))))))))
 replace hs := hs.ext x1
 replace hn := hn.ext x1
 replace X := Q7x X x1; clear x1
 refine aA rfl (bP rfl (aB (aM rfl (aV (aS (aR (aF (aA rfl (aE rfl (aB (aX (dG (G := Nat) (fun k => [(0, .slice A xs.length c), (3, .int .i64 (k : Nat))]) (fun k wr => k ≤ xs.length ∧ dS (xs.length : Int) 0 (xs.map (·.m)) = dS (xs.length : Int) k ((xs.drop k).map (·.m)) ∧ Sl B wr A (xs.flatMap ModeI.cells) ∧ Nexts B2 wr xs ∧ Ext w wr) (fun k => xs.length - k) 0 (.cons rfl (.cons rfl (.nil _))) ?_ ?_))))))))))))
 · exact ⟨by omega, rfl, hs, hn, X⟩
 clear hs hn
 clear X
 rintro k wr ⟨hk0, hi, hs, hn, X⟩
 refine aR (aF (aA rfl (aC rfl (aA rfl (aC rfl (aA rfl (bO Tryz.underlying25 rfl (aA rfl (cU rfl rfl (fun hk => ?_) (fun hk => ?_))))))))))
 obtain ⟨x, hx, dx⟩ := dR hk
 refine aB (aQ rfl (aV (aS (aR (aX (aF (aA rfl (aC rfl (aA rfl (aC rfl (aA rfl (aU hs ModeI.len rfl kX rfl rfl rfl hx rfl ?_))))))))))))
 have hnx := hn.at_ hx
 have hlx := hz x (List.mem_of_getElem? hx)
 refine aA rfl (eE hs ModeI.len hx iO rfl (aA rfl (dT iO ?_)))
 intro g6 w5 eg6 b3 x4 zg6
 have lg6 : w.heap.size ≤ g6 := Q7l X.size (Q7e eg6.symm)
 have pg6hs := Q7l hs.1 (Q7e eg6.symm)
 have pg6hn := Q7l hn.1 (Q7e eg6.symm)
 have pg6hnx := Q7l hnx.1 (Q7e eg6.symm)
 replace hs := hs.ext x4
 replace hn := hn.ext x4
 replace hnx := hnx.ext x4
 replace X := Q7x X x4; clear x4
 refine aA rfl (bK b3 iO rfl rfl rfl rfl rfl rfl ?_)
 intro w9 b11 hg7 z10
 replace hs := hs.grown hg7 (by intro g hg; injection hg; omega)
 replace hn := hn.grown hg7 (by intro g hg; injection hg; omega)
 replace hnx := hnx.grown hg7 (by intro g hg; injection hg; omega)
 replace X := X.grown hg7 X.size (by intro g hg; injection hg; omega)
 clear hg7 b3
 refine aB (aF (aA rfl (aG kQ rfl rfl (aA rfl (aJ b11 dB rfl rfl (aA rfl (cV kC rfl (iQ _ _ _ _) (fun w14 h12 x13 => ?_) (fun w14 h12 x13 => ?_))))))))
 replace hs := hs.ext x13
 replace hn := hn.ext x13
 replace hnx := hnx.ext x13
 replace b11 := b11.ext x13
 replace X := Q7x X x13
 refine aA rfl (bP rfl (aA rfl (aC rfl (aI rfl rfl rfl (aG iP rfl rfl (aI rfl rfl rfl (aJ b11 dB rfl rfl (aI rfl rfl rfl (cV kC rfl (iQ _ _ _ _) (fun w17 h15 x16 => ?_) (fun w17 h15 x16 => ?_))))))))))
 replace hs := hs.ext x16
 replace hn := hn.ext x16
 replace hnx := hnx.ext x16
 replace b11 := b11.ext x16
 replace X := Q7x X x16
 refine aI rfl rfl rfl (bP rfl (aA rfl (aK rfl rfl (aA rfl (aC rfl (aI rfl rfl rfl (aG lE rfl rfl (aI rfl rfl rfl (aJ b11 mD rfl rfl (aI rfl rfl rfl (aC rfl (aI rfl rfl rfl (bO Tryz.underlying25 rfl (aI rfl rfl rfl (cV aKF rfl (aEB _ _ _ _ _ _ hnx hlx (by omega)) (fun w20 h18 x19 => ?_) (fun w20 h18 x19 => ?_))))))))))))))))
 replace hs := hs.ext x19
 replace hn := hn.ext x19
 replace hnx := hnx.ext x19
 replace b11 := b11.ext x19
 replace X := Q7x X x19
 refine aI rfl rfl rfl (bP rfl (aA rfl (aK rfl rfl (aA rfl (aC rfl (aI rfl rfl rfl (aG lE rfl rfl (aI rfl rfl rfl (aJ b11 mD rfl rfl (aI rfl rfl rfl (aC rfl (aI rfl rfl rfl (cV aJd rfl (aDx _ _ _ _ _ _ hnx hlx) (fun w23 h21 x22 => ?_) (fun w23 h21 x22 => ?_))))))))))))))
 replace hs := hs.ext x22
 replace hn := hn.ext x22
 replace hnx := hnx.ext x22
 replace b11 := b11.ext x22
 replace X := Q7x X x22
 refine aA rfl (aK rfl rfl (aB (aQ rfl (aF (aA rfl (aE rfl (aB (aW (dL (bN (bN (dL (bN (aL rfl rfl ?_))))))))))))))
 · skip
   refine ⟨congrArg Value.bool ?_, X⟩
   rw [jX, List.length_map]
   first
   | (rw [hB]; rfl)
   | (rw [hB, hi, bL hk]; rfl)
   | (rw [hi, bL hk]; simp [dS, iF, *]; done)
   | (rw [hi, bL hk]; simp [dS, iF]; omega)
   | (rw [hi, dx, List.map_cons, dS]; simp [jZ, *])
 replace hs := hs.ext x22
 replace hn := hn.ext x22
 replace hnx := hnx.ext x22
 replace b11 := b11.ext x22
 replace X := Q7x X x22
 refine aA rfl (aK rfl rfl (aB (aM rfl (aV (dO (aS (aN (aA rfl (aC rfl (aA rfl (aY rfl rfl (dM (by omega)) (aA rfl (aE rfl (aB (aS ⟨k + 1, (.cons rfl (.cons rfl (.nil _))), ?_, ?_⟩)))))))))))))))
 · exact ⟨by omega, (by rw [hi, dx, List.map_cons, dS]; simp [jZ, *]), hs, hn, X⟩
 · first | omega | (dsimp only; omega)
 replace hs := hs.ext x19
 replace hn := hn.ext x19
 replace hnx := hnx.ext x19
 replace b11 := b11.ext x19
 replace X := Q7x X x19
 refine aI rfl rfl rfl (bP rfl (aA rfl (aK rfl rfl (aA rfl (aC rfl (aH rfl rfl rfl rfl (aH rfl rfl rfl rfl (aH rfl rfl rfl rfl (aH rfl rfl rfl rfl (aA rfl (aK rfl rfl (aB (aQ rfl (aF (aA rfl (aE rfl (aB (aW (dL (bN (bN (dL (bN (aL rfl rfl ?_))))))))))))))))))))))))
 · skip
   refine ⟨congrArg Value.bool ?_, X⟩
   rw [jX, List.length_map]
   first
   | (rw [hB]; rfl)
   | (rw [hB, hi, bL hk]; rfl)
   | (rw [hi, bL hk]; simp [dS, iF, *]; done)
   | (rw [hi, bL hk]; simp [dS, iF]; omega)
   | (rw [hi, dx, List.map_cons, dS]; simp [jZ, *])
 replace hs := hs.ext x16
 replace hn := hn.ext x16
 replace hnx := hnx.ext x16
 replace b11 := b11.ext x16
 replace X := Q7x X x16
 refine aI rfl rfl rfl (bP rfl (aA rfl (aK rfl rfl (aA rfl (aC rfl (aH rfl rfl rfl rfl (aH rfl rfl rfl rfl (aH rfl rfl rfl rfl (aH rfl rfl rfl rfl (aH rfl rfl rfl rfl (aH rfl rfl rfl rfl (aA rfl (aK rfl rfl (aA rfl (aC rfl (aH rfl rfl rfl rfl (aH rfl rfl rfl rfl (aH rfl rfl rfl rfl (aH rfl rfl rfl rfl (aA rfl (aK rfl rfl (aB (aQ rfl (aF (aA rfl (aE rfl (aB (aW (dL (bN (bN (dL (bN (aL rfl rfl ?_))))))))))))))))))))))))))))))))))
 · skip
   refine ⟨congrArg Value.bool ?_, X⟩
   rw [jX, List.length_map]
   first
   | (rw [hB]; rfl)
   | (rw [hB, hi, bL hk]; rfl)
   | (rw [hi, bL hk]; simp [dS, iF, *]; done)
   | (rw [hi, bL hk]; simp [dS, iF]; omega)
   | (rw [hi, dx, List.map_cons, dS]; simp [jZ, *])
 replace hs := hs.ext x13
 replace hn := hn.ext x13
 replace hnx := hnx.ext x13
 replace b11 := b11.ext x13
 replace X := Q7x X x13
 refine aA rfl (bP rfl (aA rfl (aC rfl (aH rfl rfl rfl rfl (aH rfl rfl rfl rfl (aH rfl rfl rfl rfl (aH rfl rfl rfl rfl (aA rfl (aK rfl rfl (aA rfl (aC rfl (aH rfl rfl rfl rfl (aH rfl rfl rfl rfl (aH rfl rfl rfl rfl (aH rfl rfl rfl rfl (aH rfl rfl rfl rfl (aH rfl rfl rfl rfl (aA rfl (aK rfl rfl (aA rfl (aC rfl (aH rfl rfl rfl rfl (aH rfl rfl rfl rfl (aH rfl rfl rfl rfl (aH rfl rfl rfl rfl (aA rfl (aK rfl rfl (aB (aQ rfl (aF (aA rfl (aE rfl (aB (aW (dL (bN (bN (dL (bN (aL rfl rfl ?_))))))))))))))))))))))))))))))))))))))))
 · skip
   refine ⟨congrArg Value.bool ?_, X⟩
   rw [jX, List.length_map]
   first
   | (rw [hB]; rfl)
   | (rw [hB, hi, bL hk]; rfl)
   | (rw [hi, bL hk]; simp [dS, iF, *]; done)
   | (rw [hi, bL hk]; simp [dS, iF]; omega)
   | (rw [hi, dx, List.map_cons, dS]; simp [jZ, *])
 refine aB (aM rfl (dD (dC (dC (eG (aS (aF (aA rfl (aE rfl (aB (aW (aL rfl rfl ?_))))))))))))
 · skip
   refine ⟨congrArg Value.bool ?_, X⟩
   rw [jX, List.length_map]
   first
   | (rw [hB]; rfl)
   | (rw [hB, hi, bL hk]; rfl)
   | (rw [hi, bL hk]; simp [dS, iF, *]; done)
   | (rw [hi, bL hk]; simp [dS, iF]; omega)
   | (rw [hi, dx, List.map_cons, dS]; simp [jZ, *])
 replace hs := hs.ext x1
 replace hn := hn.ext x1
 replace X := Q7x X x1; clear x1
 refine aA rfl (bP rfl (aB (aQ rfl (aF (aA rfl (aE rfl (aB (aW (bN (aL rfl rfl ?_))))))))))
 · skip
   refine ⟨congrArg Value.bool ?_, X⟩
   rw [jX, List.length_map]
   first
   | (rw [hB]; rfl)
   | (rw [hB, hi, bL hk]; rfl)
   | (rw [hi, bL hk]; simp [dS, iF, *]; done)
   | (rw [hi, bL hk]; simp [dS, iF]; omega)
   | (rw [hi, dx, List.map_cons, dS]; simp [jZ, *])
theorem aCC (A : Option Addr) (B B2 c : Nat) (xs : List ModeI) (w : World) (hs : Sl B w A (xs.flatMap ModeI.cells)) (hn : Nexts B2 w xs) (hl : xs.length ≤ 1048576) (hz : ∀ x ∈ xs, x.m.next.length ≤ 1048576) :
   Calls Tryz.prog 163 #[.slice A xs.length c] w (fF fun v w' => v = .bool (jX (xs.map (·.m))) ∧ Ext w w') := by
 have Bhs := hs.1
 have Bhn := hn.1
 have X := Q7r w
 refine bJ (args := [.slice A xs.length c]) Tryz.func163 Tryz.ntmps163 rfl rfl (aF (aA rfl (aE rfl (aB (aR (aF (aA rfl (aC rfl (aA rfl (bO Tryz.underlying25 rfl (aA rfl (aC rfl (aB (aX (dG (G := Nat) (fun k => [(0, .slice A xs.length c), (5, .slice A xs.length c), (6, .int .i64 (xs.length : Nat)), (7, .int .i64 (k : Nat))]) (fun k wr => k ≤ xs.length ∧ dS (xs.length : Int) 0 (xs.map (·.m)) = dS (xs.length : Int) k ((xs.drop k).map (·.m)) ∧ Sl B wr A (xs.flatMap ModeI.cells) ∧ Nexts B2 wr xs ∧ Ext w wr) (fun k => xs.length - k) 0 (.cons rfl (.cons rfl (.cons rfl (.cons rfl (.nil _))))) ?_ ?_)))))))))))))))
 · exact ⟨by omega, rfl, hs, hn, X⟩
 clear hs hn
 clear X
 rintro k wr ⟨hk0, hi, hs, hn, X⟩
 refine aF (aA rfl (cU rfl rfl (fun hk => ?_) (fun hk => ?_)))
 obtain ⟨x, hx, dx⟩ := dR hk
 refine aB (aR (aQ rfl (aV (aS (aR (aX (aF (aA rfl (aC rfl (aA rfl (aU hs ModeI.len rfl kX rfl rfl rfl hx rfl ?_)))))))))))
 have hnx := hn.at_ hx
 have hlx := hz x (List.mem_of_getElem? hx)
 refine aA rfl (eE hs ModeI.len hx iO rfl (aA rfl (dT iO ?_)))
 intro g4 w3 eg4 b1 x2 zg4
 have lg4 : w.heap.size ≤ g4 := Q7l X.size (Q7e eg4.symm)
 have pg4hs := Q7l hs.1 (Q7e eg4.symm)
 have pg4hn := Q7l hn.1 (Q7e eg4.symm)
 have pg4hnx := Q7l hnx.1 (Q7e eg4.symm)
 replace hs := hs.ext x2
 replace hn := hn.ext x2
 replace hnx := hnx.ext x2
 replace X := Q7x X x2; clear x2
 refine aA rfl (aE rfl (aA rfl (bK b1 iO rfl rfl rfl rfl rfl rfl ?_)))
 intro w6 b8 hg5 z7
 replace hs := hs.grown hg5 (by intro g hg; injection hg; omega)
 replace hn := hn.grown hg5 (by intro g hg; injection hg; omega)
 replace hnx := hnx.grown hg5 (by intro g hg; injection hg; omega)
 replace X := X.grown hg5 X.size (by intro g hg; injection hg; omega)
 clear hg5 b1
 refine aB (aF (aA rfl (aG kQ rfl rfl (aA rfl (aJ b8 dB rfl rfl (aA rfl (cV nK rfl (jU _ _ _ _) (fun w11 h9 x10 => ?_) (fun w11 h9 x10 => ?_))))))))
 replace hs := hs.ext x10
 replace hn := hn.ext x10
 replace hnx := hnx.ext x10
 replace b8 := b8.ext x10
 replace X := Q7x X x10
 refine aA rfl (bP rfl (aA rfl (aC rfl (aI rfl rfl rfl (aG iP rfl rfl (aI rfl rfl rfl (aJ b8 dB rfl rfl (aI rfl rfl rfl (cV nK rfl (jU _ _ _ _) (fun w14 h12 x13 => ?_) (fun w14 h12 x13 => ?_))))))))))
 replace hs := hs.ext x13
 replace hn := hn.ext x13
 replace hnx := hnx.ext x13
 replace b8 := b8.ext x13
 replace X := Q7x X x13
 refine aI rfl rfl rfl (bP rfl (aA rfl (aK rfl rfl (aA rfl (aC rfl (aI rfl rfl rfl (aG lE rfl rfl (aI rfl rfl rfl (aJ b8 mD rfl rfl (aI rfl rfl rfl (aC rfl (aI rfl rfl rfl (bO Tryz.underlying25 rfl (aI rfl rfl rfl (cV aKv rfl (aEC _ _ _ _ _ _ hnx hlx (by omega)) (fun w17 h15 x16 => ?_) (fun w17 h15 x16 => ?_))))))))))))))))
 replace hs := hs.ext x16
 replace hn := hn.ext x16
 replace hnx := hnx.ext x16
 replace b8 := b8.ext x16
 replace X := Q7x X x16
 refine aI rfl rfl rfl (bP rfl (aA rfl (aK rfl rfl (aA rfl (aC rfl (aI rfl rfl rfl (aG lE rfl rfl (aI rfl rfl rfl (aJ b8 mD rfl rfl (aI rfl rfl rfl (aC rfl (aI rfl rfl rfl (cV aJa rfl (aA4 _ _ _ _ _ _ hnx hlx) (fun w20 h18 x19 => ?_) (fun w20 h18 x19 => ?_))))))))))))))
 replace hs := hs.ext x19
 replace hn := hn.ext x19
 replace hnx := hnx.ext x19
 replace b8 := b8.ext x19
 replace X := Q7x X x19
 refine aA rfl (aK rfl rfl (aB (aQ rfl (aF (aA rfl (aE rfl (aB (aW (dL (bN (bN (dL (bN (aL rfl rfl ?_))))))))))))))
 · skip
   refine ⟨congrArg Value.bool ?_, X⟩
   rw [jX, List.length_map]
   first
   | (rw [hB]; rfl)
   | (rw [hB, hi, bL hk]; rfl)
   | (rw [hi, bL hk]; simp [dS, iF, *]; done)
   | (rw [hi, bL hk]; simp [dS, iF]; omega)
   | (rw [hi, dx, List.map_cons, dS]; simp [jZ, *])
 replace hs := hs.ext x19
 replace hn := hn.ext x19
 replace hnx := hnx.ext x19
 replace b8 := b8.ext x19
 replace X := Q7x X x19
 refine aA rfl (aK rfl rfl (aB (aM rfl (aV (dO (aS (aN (aA rfl (aY rfl rfl (dM (by omega)) (aA rfl (aC rfl (aB (aS ⟨k + 1, (.cons rfl (.cons rfl (.cons rfl (.cons rfl (.nil _))))), ?_, ?_⟩)))))))))))))
 · exact ⟨by omega, (by rw [hi, dx, List.map_cons, dS]; simp [jZ, *]), hs, hn, X⟩
 · first | omega | (dsimp only; omega)
 replace hs := hs.ext x16
 replace hn := hn.ext x16
 replace hnx := hnx.ext x16
 replace b8 := b8.ext x16
 replace X := Q7x X x16
 refine aI rfl rfl rfl (bP rfl (aA rfl (aK rfl rfl (aA rfl (aC rfl (aH rfl rfl rfl rfl (aH rfl rfl rfl rfl (aH rfl rfl rfl rfl (aH rfl rfl rfl rfl (aA rfl (aK rfl rfl (aB (aQ rfl (aF (aA rfl (aE rfl (aB (aW (dL (bN (bN (dL (bN (aL rfl rfl ?_))))))))))))))))))))))))
 · skip
   refine ⟨congrArg Value.bool ?_, X⟩
   rw [jX, List.length_map]
   first
   | (rw [hB]; rfl)
   | (rw [hB, hi, bL hk]; rfl)
   | (rw [hi, bL hk]; simp [dS, iF, *]; done)
   | (rw [hi, bL hk]; simp [dS, iF]; omega)
   | (rw [hi, dx, List.map_cons, dS]; simp [jZ, *])
 replace hs := hs.ext x13
 replace hn := hn.ext x13
 replace hnx := hnx.ext x13
 replace b8 := b8.ext x13
 replace X := Q7x X x13
 refine aI rfl rfl rfl (bP rfl (aA rfl (aK rfl rfl (aA rfl (aC rfl (aH rfl rfl rfl rfl (aH rfl rfl rfl rfl (aH rfl rfl rfl rfl (aH rfl rfl rfl rfl (aH rfl rfl rfl rfl (aH rfl rfl rfl rfl (aA rfl (aK rfl rfl (aA rfl (aC rfl (aH rfl rfl rfl rfl (aH rfl rfl rfl rfl (aH rfl rfl rfl rfl (aH rfl rfl rfl rfl (aA rfl (aK rfl rfl (aB (aQ rfl (aF (aA rfl (aE rfl (aB (aW (dL (bN (bN (dL (bN (aL rfl rfl ?_))))))))))))))))))))))))))))))))))
 · skip
   refine ⟨congrArg Value.bool ?_, X⟩
   rw [jX, List.length_map]
   first
   | (rw [hB]; rfl)
   | (rw [hB, hi, bL hk]; rfl)
   | (rw [hi, bL hk]; simp [dS, iF, *]; done)
   | (rw [hi, bL hk]; simp [dS, iF]; omega)
   | (rw [hi, dx, List.map_cons, dS]; simp [jZ, *])
 replace hs := hs.ext x10
 replace hn := hn.ext x10
 replace hnx := hnx.ext x10
 replace b8 := b8.ext x10
 replace X := Q7x X x10
 refine aA rfl (bP rfl (aA rfl (aC rfl (aH rfl rfl rfl rfl (aH rfl rfl rfl rfl (aH rfl rfl rfl rfl (aH rfl rfl rfl rfl (aA rfl (aK rfl rfl (aA rfl (aC rfl (aH rfl rfl rfl rfl (aH rfl rfl rfl rfl (aH rfl rfl rfl rfl (aH rfl rfl rfl rfl (aH rfl rfl rfl rfl (aH rfl rfl rfl rfl (aA rfl (aK rfl rfl (aA rfl (aC rfl (aH rfl rfl rfl rfl (aH rfl rfl rfl rfl (aH rfl rfl rfl rfl (aH rfl rfl rfl rfl (aA rfl (aK rfl rfl (aB (aQ rfl (aF (aA rfl (aE rfl (aB (aW (dL (bN (bN (dL (bN (aL rfl rfl ?_))))))))))))))))))))))))))))))))))))))))
 · skip
   refine ⟨congrArg Value.bool ?_, X⟩
   rw [jX, List.length_map]
   first
   | (rw [hB]; rfl)
   | (rw [hB, hi, bL hk]; rfl)
   | (rw [hi, bL hk]; simp [dS, iF, *]; done)
   | (rw [hi, bL hk]; simp [dS, iF]; omega)
   | (rw [hi, dx, List.map_cons, dS]; simp [jZ, *])
 refine aB (aR (aM rfl (dD (dC (dC (eG (aS (aF (aA rfl (aC rfl (aA rfl (bO Tryz.underlying25 rfl (aA rfl (lV rfl rfl (fun h21 => ?_) (fun h21 => ?_)))))))))))))))
 refine aA rfl (aC rfl (aI rfl rfl rfl (aC rfl (aI rfl rfl rfl (bO Tryz.underlying25 rfl (aI rfl rfl rfl (qW rfl rfl (aA rfl (aK rfl rfl (aA rfl (aE rfl (aB (aW (aL rfl rfl ?_))))))))))))))
 · skip
   refine ⟨congrArg Value.bool ?_, X⟩
   rw [jX, List.length_map]
   first
   | (rw [hB]; rfl)
   | (rw [hB, hi, bL hk]; rfl)
   | (rw [hi, bL hk]; simp [dS, iF, *]; done)
   | (rw [hi, bL hk]; simp [dS, iF]; omega)
   | (rw [hi, dx, List.map_cons, dS]; simp [jZ, *])
 refine aA rfl (aC rfl (aH rfl rfl rfl rfl (aH rfl rfl rfl rfl (aH rfl rfl rfl rfl (aA rfl (aK rfl rfl (aA rfl (aE rfl (aB (aW (aL rfl rfl ?_)))))))))))
 · skip
   refine ⟨congrArg Value.bool ?_, X⟩
   rw [jX, List.length_map]
   first
   | (rw [hB]; rfl)
   | (rw [hB, hi, bL hk]; rfl)
   | (rw [hi, bL hk]; simp [dS, iF, *]; done)
   | (rw [hi, bL hk]; simp [dS, iF]; omega)
   | (rw [hi, dx, List.map_cons, dS]; simp [jZ, *])
def vO (x : Mode) : List Int := [x.rounds, x.slots, (x.next.length : Int)] ++ x.next
def qU (ms : List Mode) (k : Nat) : List Int := (ms.length : Int) :: (ms.take k).flatMap vO
theorem aHP : ∀ (xs : List Int), ∀ u ∈ xs.flatMap eI, u.oneCell' = true := fun xs u hu => by
 obtain ⟨x, _, h⟩ := List.mem_flatMap.1 hu
 have : u = .int .i64 x := by simpa [eI] using h
 subst this; rfl
theorem aDD {xs : List ModeI} {k : Nat} {x : ModeI} (h : xs[k]? = some x) : (qU (xs.map (·.m)) (k + 1)).flatMap eI = ((qU (xs.map (·.m)) k).flatMap eI ++ (eI x.m.rounds ++ eI x.m.slots ++ eI (x.m.next.length : Nat))) ++ x.m.next.flatMap eI := by
 unfold qU
 rw [List.take_add_one, aCl (f := (·.m)) h]
 simp [List.flatMap_append, vO]
theorem aFk {xs : List ModeI} {k : Nat} {x : ModeI} (h : xs[k]? = some x) : (qU (xs.map (·.m)) (k + 1)).length = (qU (xs.map (·.m)) k).length + 3 + x.m.next.length := by
 unfold qU
 rw [List.take_add_one, aCl (f := (·.m)) h]
 simp [List.flatMap_append, vO]; omega
theorem aBO {n : Int} : ∀ (l : List Int) (y : Int), fJ n (some y) l = true → (l.length : Int) ≤ max 0 (n - 1 - y)
 | [], y, _ => by simp; omega
 | x :: r, y, h => by
   simp only [fJ, Bool.and_eq_true, decide_eq_true_eq] at h
   have h1 := eO.1 h.1.1
   have h2 := aBO r x h.2
   simp only [List.length_cons]; omega
theorem wJ {n : Int} {l : List Int} (h : gE l n = true) : (l.length : Int) ≤ max 0 n := by
 unfold gE at h
 cases l with
 | nil => simp; omega
 | cons x r =>
   simp only [fJ, Bool.and_eq_true] at h
   have h1 := eO.1 h.1
   have h2 := aBO r x h.2
   simp only [List.length_cons]; omega
theorem aCD {f : Mode → List Int} {b : Nat} : ∀ (l : List Mode), (∀ x ∈ l, (f x).length ≤ b) → (l.flatMap f).length ≤ b * l.length
 | [], _ => by simp
 | x :: r, h => by
   have h1 := h x (by simp)
   have h2 := aCD r (fun y hy => h y (by simp [hy]))
   rw [List.flatMap_cons, List.length_append, List.length_cons, Nat.mul_succ]; omega
theorem aEH (A : Option Addr) (B B2 c : Nat) (xs : List ModeI) (w : World) (hs : Sl B w A (xs.flatMap ModeI.cells)) (hn : Nexts B2 w xs) (hl : xs.length ≤ 1048576) (hz : ∀ x ∈ xs, x.m.next.length ≤ 1048576) :
   Calls Tryz.prog 156 #[.slice A xs.length c] w (fF fun v w' => ∃ A' c', v = .slice A' (qU (xs.map (·.m)) xs.length).length c' ∧ Own w' w.heap.size 2 1 A' (qU (xs.map (·.m)) xs.length).length c' ((qU (xs.map (·.m)) xs.length).flatMap eI) ∧ Ext w w') := by
 have Bhs := hs.1
 have Bhn := hn.1
 have X := Q7r w
 refine bJ (args := [.slice A xs.length c]) Tryz.func156 Tryz.ntmps156 rfl rfl (aF (aA rfl (aE rfl (aB (aF (aA rfl (aC rfl (aA rfl (bO Tryz.underlying25 rfl (aA rfl (aO cQ dB rfl rfl rfl rfl rfl ?_)))))))))))
 intro gO w2 egO oO bbgO x1 zgO
 replace oO := Own.low oO X.size
 replace hs := hs.ext x1
 replace hn := hn.ext x1
 replace X := Q7x X x1; clear x1
 replace oO := oO.to (cs' := (qU (xs.map (·.m)) 0).flatMap eI) (by simp [qU, eI, tA])
 refine aA rfl (aE rfl (aB (aR (aF (aA rfl (aE rfl (aB (aX (dG (G := Nat × Nat × Option Addr × Nat) (fun ⟨k, n1, A1, c1⟩ => [(0, .slice A xs.length c), (2, .slice none 0 0), (3, .slice A1 n1 c1), (4, .int .i64 (k : Nat))]) (fun ⟨k, n1, A1, c1⟩ wr => k ≤ xs.length ∧ n1 = (qU (xs.map (·.m)) k).length ∧ n1 ≤ 1 + 1048579 * k ∧ Own wr w.heap.size 2 1 A1 n1 c1 ((qU (xs.map (·.m)) k).flatMap eI) ∧ Sl B wr A (xs.flatMap ModeI.cells) ∧ Nexts B2 wr xs ∧ Ext w wr) (fun ⟨k, n1, A1, c1⟩ => xs.length - k) (0, 1, some ⟨gO, 0, none⟩, 1) (.cons rfl (.cons rfl (.cons rfl (.cons rfl (.nil _))))) ?_ ?_)))))))))
 · exact ⟨by omega, rfl, by omega, oO, hs, hn, X⟩
 clear hs hn oO
 clear X
 rintro ⟨k, n1, A1, c1⟩ wr ⟨hk0, hn1, hb, oO, hs, hn, X⟩
 refine aR (aF (aA rfl (aC rfl (aA rfl (aC rfl (aA rfl (bO Tryz.underlying25 rfl (aA rfl (cU rfl rfl (fun hk => ?_) (fun hk => ?_))))))))))
 obtain ⟨x, hx, dx⟩ := dR hk
 refine aB (aQ rfl (aV (aS (aR (aX (eK [false, false, false, false, false, false, false, false, false, false, false, false, false, false, false, false, false, true] mixed (by kernel_rfl) (cO rfl (fun wq sq => aC rfl ⟨rfl, Q7r _⟩) (cO rfl (fun wq sq => aC rfl ⟨rfl, Q7r _⟩) (cO rfl (fun wq sq => aC rfl ⟨rfl, Q7r _⟩) (cO rfl (fun wq sq => aU (hs.ext sq) ModeI.len rfl kX rfl rfl rfl hx rfl ⟨rfl, Q7r _⟩) ?_))))))))))
 have hnx := hn.at_ hx
 have hlx := hz x (List.mem_of_getElem? hx)
 refine cO rfl (fun wq sq => dF kQ rfl ⟨rfl, Q7r _⟩) (cO rfl (fun wq sq => eF (hs.ext sq) ModeI.len hx dB rfl rfl rfl ⟨rfl, Q7r _⟩) (cO rfl (fun wq sq => aC rfl ⟨rfl, Q7r _⟩) (cO rfl (fun wq sq => aC rfl ⟨rfl, Q7r _⟩) (cO rfl (fun wq sq => aU (hs.ext sq) ModeI.len rfl kX rfl rfl rfl hx rfl ⟨rfl, Q7r _⟩) (cO rfl (fun wq sq => dF iP rfl ⟨rfl, Q7r _⟩) (cO rfl (fun wq sq => eF (hs.ext sq) ModeI.len hx dB rfl rfl rfl ⟨rfl, Q7r _⟩) (cO rfl (fun wq sq => aC rfl ⟨rfl, Q7r _⟩) (cO rfl (fun wq sq => aC rfl ⟨rfl, Q7r _⟩) (cO rfl (fun wq sq => aU (hs.ext sq) ModeI.len rfl kX rfl rfl rfl hx rfl ⟨rfl, Q7r _⟩) ?_)))))))))
 refine cO rfl (fun wq sq => dF lE rfl ⟨rfl, Q7r _⟩) (cO rfl (fun wq sq => eF (hs.ext sq) ModeI.len hx mD rfl rfl rfl ⟨rfl, Q7r _⟩) (cO rfl (fun wq sq => bO Tryz.underlying30 rfl ⟨rfl, Q7r _⟩) (zL (fun gS : Nat => Value.slice (some ⟨gS, 0, none⟩) 3 3) (fun gS wz => Own wz w.heap.size 2 1 (some ⟨gS, 0, none⟩) 3 3 (eI x.m.rounds ++ eI x.m.slots ++ eI (x.m.next.length : Nat))) 0 rfl ⟨lT, fun _ _ _ h k => h.ext k, fun wq sq => aO cQ dB rfl rfl rfl rfl rfl (fun g w' hg ho hb hx hz => ⟨g, rfl, Own.low ho (Q7l X.size (sq).size), hx⟩)⟩ ?_)))
 intro gS
 refine dX (fun w3 sq => ?_)
 have xq := sq.1
 have oS := sq.2
 replace oO := oO.ext xq
 replace hs := hs.ext xq
 replace hn := hn.ext xq
 replace hnx := hnx.ext xq
 replace X := Q7x X xq; clear xq sq
 refine aA rfl (cH (ts := #[]) oO X.size oS.sl (by first | rfl | simp) (by first | exact List.all_eq_true.1 rfl | simp [Value.oneCell']) cQ dB rfl rfl rfl rfl (by omega) (by omega) ?_)
 intro AoM coM w5 oM hg4
 replace hs := hs.grown hg4 (fun g hg => Q7l Bhs (Own.lt oO hg).1)
 replace hn := hn.grown hg4 (fun g hg => Q7l Bhn (Own.lt oO hg).1)
 replace hnx := hnx.grown hg4 (fun g hg => Q7l Bhn (Own.lt oO hg).1)
 replace X := X.grown hg4 X.size (fun g hg => (Own.lt oO hg).1)
 clear hg4
 refine aA rfl (aE rfl (aB (aN (aA rfl (aC rfl (aA rfl (aC rfl (aA rfl (aC rfl (aA rfl (aU hs ModeI.len rfl kX rfl rfl rfl hx rfl (aA rfl (dF lE rfl (aA rfl (eF hs ModeI.len hx mD rfl rfl rfl (aA rfl (cH (ts := #[]) oM X.size hnx (eW bI _) (aHP _) cQ dB rfl rfl rfl rfl (by omega) (by omega) ?_)))))))))))))))))
 intro AoN coN w7 oN hg6
 replace hs := hs.grown hg6 (fun g hg => Q7l Bhs (Own.lt oM hg).1)
 replace hn := hn.grown hg6 (fun g hg => Q7l Bhn (Own.lt oM hg).1)
 replace hnx := hnx.grown hg6 (fun g hg => Q7l Bhn (Own.lt oM hg).1)
 replace X := X.grown hg6 X.size (fun g hg => (Own.lt oM hg).1)
 clear hg6
 refine aA rfl (aE rfl (aB (dO (aS (aN (aA rfl (aC rfl (aA rfl (aY rfl rfl (dM (by omega)) (aA rfl (aE rfl (aB (aS ⟨(k + 1, n1 + 3 + x.m.next.length, AoN, coN), (.cons rfl (.cons rfl (.cons rfl (.cons rfl (.nil _))))), ?_, ?_⟩)))))))))))))
 · exact ⟨by omega, (by rw [aFk hx]; omega), by omega, oN.to (aDD hx).symm, hs, hn, X⟩
 · first | omega | (dsimp only; omega)
 refine aB (aM rfl (dD (dC (dC (eG (aS (aF (aA rfl (aC rfl (aA rfl (aE rfl (aB (aW (aL rfl rfl ?_))))))))))))))
 · skip
   rw [show k = xs.length by omega] at oO hn1
   rw [← hn1]
   exact ⟨_, _, rfl, oO, X⟩
theorem yJ (A : Option Addr) (B B2 c : Nat) (xs : List ModeI) (w : World) (hs : Sl B w A (xs.flatMap ModeI.cells)) (hn : Nexts B2 w xs) (hl : xs.length ≤ 1048576) (hz : ∀ x ∈ xs, x.m.next.length ≤ 1048576) :
   Calls Tryz.prog 149 #[.slice A xs.length c] w (fF fun v w' => ∃ A' c', v = .slice A' (qU (xs.map (·.m)) xs.length).length c' ∧ Own w' w.heap.size 2 1 A' (qU (xs.map (·.m)) xs.length).length c' ((qU (xs.map (·.m)) xs.length).flatMap eI) ∧ Ext w w') := by
 have Bhs := hs.1
 have Bhn := hn.1
 have X := Q7r w
 refine bJ (args := [.slice A xs.length c]) Tryz.func149 Tryz.ntmps149 rfl rfl (aF (aA rfl (aE rfl (aB (aF (aA rfl (aC rfl (aA rfl (bO Tryz.underlying25 rfl (aA rfl (aO cQ dB rfl rfl rfl rfl rfl ?_)))))))))))
 intro gO w2 egO oO bbgO x1 zgO
 replace oO := Own.low oO X.size
 replace hs := hs.ext x1
 replace hn := hn.ext x1
 replace X := Q7x X x1; clear x1
 replace oO := oO.to (cs' := (qU (xs.map (·.m)) 0).flatMap eI) (by simp [qU, eI, tA])
 refine aA rfl (aE rfl (aB (aR (aF (aA rfl (aC rfl (aA rfl (bO Tryz.underlying25 rfl (aA rfl (aC rfl (aB (aX (dG (G := Nat × Nat × Option Addr × Nat) (fun ⟨k, n1, A1, c1⟩ => [(2, .slice none 0 0), (9, .slice A xs.length c), (10, .int .i64 (xs.length : Nat)), (3, .slice A1 n1 c1), (11, .int .i64 (k : Nat))]) (fun ⟨k, n1, A1, c1⟩ wr => k ≤ xs.length ∧ n1 = (qU (xs.map (·.m)) k).length ∧ n1 ≤ 1 + 1048579 * k ∧ Own wr w.heap.size 2 1 A1 n1 c1 ((qU (xs.map (·.m)) k).flatMap eI) ∧ Sl B wr A (xs.flatMap ModeI.cells) ∧ Nexts B2 wr xs ∧ Ext w wr) (fun ⟨k, n1, A1, c1⟩ => xs.length - k) (0, 1, some ⟨gO, 0, none⟩, 1) (.cons rfl (.cons rfl (.cons rfl (.cons rfl (.cons rfl (.nil _)))))) ?_ ?_)))))))))))))
 · exact ⟨by omega, rfl, by omega, oO, hs, hn, X⟩
 clear hs hn oO
 clear X
 rintro ⟨k, n1, A1, c1⟩ wr ⟨hk0, hn1, hb, oO, hs, hn, X⟩
 refine aF (aA rfl (cU rfl rfl (fun hk => ?_) (fun hk => ?_)))
 obtain ⟨x, hx, dx⟩ := dR hk
 refine aB (aR (aQ rfl (aV (aS (aR (aX (aF (aA rfl (aU hs ModeI.len rfl kX rfl rfl rfl hx rfl ?_)))))))))
 have hnx := hn.at_ hx
 have hlx := hz x (List.mem_of_getElem? hx)
 refine aA rfl (eE hs ModeI.len hx iO rfl (aA rfl (dT iO ?_)))
 intro gX w4 egX bX x3 zgX
 have lgX : w.heap.size ≤ gX := Q7l X.size (Q7e egX.symm)
 have pgXhs := Q7l hs.1 (Q7e egX.symm)
 have pgXhn := Q7l hn.1 (Q7e egX.symm)
 have pgXhnx := Q7l hnx.1 (Q7e egX.symm)
 replace oO := oO.ext x3
 replace hs := hs.ext x3
 replace hn := hn.ext x3
 replace hnx := hnx.ext x3
 replace X := Q7x X x3; clear x3
 refine aA rfl (bK bX iO rfl rfl rfl rfl rfl rfl ?_)
 intro w6 bY hg5 z7
 replace oO := oO.grownBlk hg5 (Own.neT oO bX (by decide))
 replace hs := hs.grown hg5 (by intro g hg; injection hg; omega)
 replace hn := hn.grown hg5 (by intro g hg; injection hg; omega)
 replace hnx := hnx.grown hg5 (by intro g hg; injection hg; omega)
 replace X := X.grown hg5 X.size (by intro g hg; injection hg; omega)
 clear hg5 bX
 refine aB (aG8 (fun wz => Blk wz gX 92 x.cells) mixed ?_)
 obtain ⟨w9, ew9⟩ : ∃ wy, wy = World.drew w6 := ⟨_, rfl⟩
 rw [← ew9]
 have xd : Ext w6 w9 := ew9 ▸ Ext.drew w6
 replace oO := oO.ext xd
 replace hs := hs.ext xd
 replace hn := hn.ext xd
 replace hnx := hnx.ext xd
 replace bY := bY.ext xd
 replace X := Q7x X xd; clear xd ew9
 refine dH 0 rfl (by kernel_rfl) rfl (by kernel_rfl) (listed' := #[true, false, false, false, false, false, false, false, false, false, false, false, false, false]) rfl (fun wq sq => aC rfl ⟨rfl, rfl⟩) (dH 1 rfl (by kernel_rfl) rfl (by kernel_rfl) (listed' := #[true, true, false, false, false, false, false, false, false, false, false, false, false, false]) rfl (fun wq sq => aG kQ rfl rfl ⟨rfl, rfl⟩) (dH 2 rfl (by kernel_rfl) rfl (by kernel_rfl) (listed' := #[true, true, true, false, false, false, false, false, false, false, false, false, false, false]) rfl (fun wq sq => aJ sq dB rfl rfl ⟨rfl, rfl⟩) ?_))
 refine dH 3 rfl (by kernel_rfl) rfl (by kernel_rfl) (listed' := #[true, true, true, true, false, false, false, false, false, false, false, false, false, false]) rfl (fun wq sq => aG iP rfl rfl ⟨rfl, rfl⟩) (dH 4 rfl (by kernel_rfl) rfl (by kernel_rfl) (listed' := #[true, true, true, true, true, false, false, false, false, false, false, false, false, false]) rfl (fun wq sq => aJ sq dB rfl rfl ⟨rfl, rfl⟩) (dH 5 rfl (by kernel_rfl) rfl (by kernel_rfl) (listed' := #[true, true, true, true, true, true, false, false, false, false, false, false, false, false]) rfl (fun wq sq => aG lE rfl rfl ⟨rfl, rfl⟩) ?_))
 refine dH 6 rfl (by kernel_rfl) rfl (by kernel_rfl) (listed' := #[true, true, true, true, true, true, true, false, false, false, false, false, false, false]) rfl (fun wq sq => aJ sq mD rfl rfl ⟨rfl, rfl⟩) (dH 7 rfl (by kernel_rfl) rfl (by kernel_rfl) (listed' := #[true, true, true, true, true, true, true, true, false, false, false, false, false, false]) rfl (fun wq sq => bO Tryz.underlying30 rfl ⟨rfl, rfl⟩) (dH 10 rfl (by kernel_rfl) rfl (by kernel_rfl) (listed' := #[true, true, true, true, true, true, true, true, false, false, true, false, false, false]) rfl (fun wq sq => aG lE rfl rfl ⟨rfl, rfl⟩) ?_))
 refine dH 11 rfl (by kernel_rfl) rfl (by kernel_rfl) (listed' := #[true, true, true, true, true, true, true, true, false, false, true, true, false, false]) rfl (fun wq sq => aJ sq mD rfl rfl ⟨rfl, rfl⟩) (hU 8 rfl rfl (by kernel_rfl) (listed' := #[true, true, true, true, true, true, true, true, true, false, true, true, false, false]) rfl bY (aO cQ dB rfl rfl rfl rfl rfl ?_))
 intro gS w11 egS oS bbgS x10 zgS
 replace oS := Own.low oS X.size
 replace oO := oO.ext x10
 replace hs := hs.ext x10
 replace hn := hn.ext x10
 replace hnx := hnx.ext x10
 replace bY := bY.ext x10
 replace X := Q7x X x10
 refine hU 9 rfl rfl (by kernel_rfl) (listed' := #[true, true, true, true, true, true, true, true, true, true, true, true, false, false]) rfl bY (cH (ts := #[]) oO X.size oS.sl (by first | rfl | simp) (by first | exact List.all_eq_true.1 rfl | simp [Value.oneCell']) cQ dB rfl rfl rfl rfl (by omega) (by omega) ?_)
 intro AoM coM w13 oM hg12
 replace hs := hs.grown hg12 (fun g hg => Q7l Bhs (Own.lt oO hg).1)
 replace hn := hn.grown hg12 (fun g hg => Q7l Bhn (Own.lt oO hg).1)
 replace hnx := hnx.grown hg12 (fun g hg => Q7l Bhn (Own.lt oO hg).1)
 replace bY := bY.grown hg12 (fun h => Own.neT oO bY (by decide) h.symm)
 replace X := X.grown hg12 X.size (fun g hg => (Own.lt oO hg).1)
 clear hg12
 refine hU 12 rfl rfl (by kernel_rfl) (listed' := #[true, true, true, true, true, true, true, true, true, true, true, true, true, false]) rfl bY (cH (ts := #[]) oM X.size hnx (eW bI _) (aHP _) cQ dB rfl rfl rfl rfl (by omega) (by omega) ?_)
 intro AoN coN w15 oN hg14
 replace hs := hs.grown hg14 (fun g hg => Q7l Bhs (Own.lt oM hg).1)
 replace hn := hn.grown hg14 (fun g hg => Q7l Bhn (Own.lt oM hg).1)
 replace hnx := hnx.grown hg14 (fun g hg => Q7l Bhn (Own.lt oM hg).1)
 replace bY := bY.grown hg14 (fun h => Own.neT oM bY (by decide) h.symm)
 replace X := X.grown hg14 X.size (fun g hg => (Own.lt oM hg).1)
 clear hg14
 refine dH 13 rfl (by kernel_rfl) rfl (by kernel_rfl) (listed' := #[true, true, true, true, true, true, true, true, true, true, true, true, true, true]) rfl (fun wq sq => aE rfl ⟨rfl, rfl⟩) (jE rfl bY (fun aj fj => ⟨_, fj, dO (aS (aN (aA rfl (aY rfl rfl (dM (by omega)) (aA rfl (aC rfl (aB (aS ⟨(k + 1, n1 + 3 + x.m.next.length, AoN, coN), (.cons rfl (.cons rfl (.cons rfl (.cons rfl (.cons rfl (.nil _)))))), ?_, ?_⟩))))))))⟩))
 · exact ⟨by omega, (by rw [aFk hx]; omega), by omega, oN.to (aDD hx).symm, hs, hn, X⟩
 · first | omega | (dsimp only; omega)
 refine aB (aR (aM rfl (dD (dC (dC (eG (aS (aF (aA rfl (aC rfl (aA rfl (aE rfl (aB (aW (aL rfl rfl ?_)))))))))))))))
 · skip
   rw [show k = xs.length by omega] at oO hn1
   rw [← hn1]
   exact ⟨_, _, rfl, oO, X⟩
end Go.Proofs.YtdoibplhbdkapaaGreatDoor
