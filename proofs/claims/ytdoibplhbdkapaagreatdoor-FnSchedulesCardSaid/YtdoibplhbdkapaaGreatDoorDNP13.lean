/- Parts. No condition. -/
import Derived.Test.YtdoibplhbdkapaaGreatDoorDNP12
import Derived.Test.YtdoibplhbdkapaaGreatDoorDNP4
import Derived.Test.YtdoibplhbdkapaaGreatDoorDNP6
import Derived.Test.YtdoibplhbdkapaaGreatDoorDNP3
namespace Go.Proofs.YtdoibplhbdkapaaGreatDoor
open Go.RowKit
set_option linter.unusedVariables false
set_option linter.unusedSimpArgs false
set_option maxRecDepth 20000
def pI (d : Desc) : List Int := [d.node, d.kind * 64 + d.size, d.duration / 256, d.duration % 256, if d.change = true then 1 else 0]
def jK (x : SlotI) : List Int := [x.mode * 16 + x.round, x.slot] ++ pI x.desc
def stP (xs : List SlotI) (k : Nat) : List Int := (xs.length : Int) :: (xs.take k).flatMap jK
def vI (xs : List SlotI) : List Int := stP xs xs.length
theorem aBZ {xs : List SlotI} {k : Nat} {x : SlotI} (h : xs[k]? = some x) : (stP xs (k + 1)).flatMap eI = ((stP xs k).flatMap eI ++ (eI (x.mode * 16 + x.round) ++ eI x.slot)) ++ (pI x.desc).flatMap eI := by
 unfold stP
 rw [List.take_add_one, h]
 simp [List.flatMap_append, jK]
theorem aHS : ∀ l : List SlotI, (l.flatMap jK).length = 7 * l.length
 | [] => rfl
 | x :: l => by rw [List.flatMap_cons, List.length_append, aHS l]; simp [jK, pI]; omega
theorem uS {xs : List SlotI} {k : Nat} (h : k ≤ xs.length) : (stP xs k).length = 1 + 7 * k := by
 unfold stP
 rw [List.length_cons, aHS, List.length_take]; omega
theorem sP {d : Desc} (h : fI d = true) : (0 ≤ d.node ∧ d.node ≤ 31) ∧ (0 ≤ d.kind ∧ d.kind ≤ 3) ∧ (0 ≤ d.size ∧ d.size ≤ 32) ∧ (0 ≤ d.duration ∧ d.duration ≤ 1000) := by
 simp only [fI, Bool.and_eq_true] at h
 have h1 := eD.1 h.1.1.1.1; have h2 := eD.1 h.1.1.1.2; have h3 := qG h.1.1.2; have h4 := eD.1 h.2
 have h5 := iC d.kind h3
 exact ⟨h1, h2, h3, by omega⟩
theorem sQ {x : SlotI} (h : fT x = true) : (0 ≤ x.mode ∧ x.mode ≤ 15) ∧ (0 ≤ x.round ∧ x.round ≤ 7) ∧ (0 ≤ x.slot ∧ x.slot ≤ 15) ∧ fI x.desc = true := by
 simp only [fT, Bool.and_eq_true] at h
 exact ⟨eD.1 h.1.1.1, eD.1 h.1.1.2, eD.1 h.1.2, h.2⟩
theorem aD4 (b : Bool) (w : World)  :
   Calls Tryz.prog 217 #[.bool b] w (fD fun v w' => v = .int .i64 (if b = true then 1 else 0) ∧ Ext w w') := by
 have X := Q7r w
 refine bI (args := [.bool b]) Tryz.func217 Tryz.ntmps217 rfl rfl ?_
 refine aE ?_
 refine aA rfl (aD rfl ?_)
 refine aB ?_
 refine aQ ?_
 refine aE ?_
 refine aA rfl (aC rfl ?_)
 refine aB ?_
 refine lB rfl (fun h1 => ?_) (fun h1 => ?_)
 refine aE ?_
 refine aA rfl (aD rfl ?_)
 refine aB ?_
 refine aV ?_
 refine bU ?_
 refine aK rfl rfl ?_
 exact ⟨by simp [*], X⟩
 refine aU ?_
 refine aP ?_
 refine aE ?_
 refine aA rfl (aD rfl ?_)
 refine aB ?_
 refine aV ?_
 refine aK rfl rfl ?_
 exact ⟨by simp [*], X⟩
theorem aC2 (d : Desc) (w : World) (hd : fI d = true) :
   Calls Tryz.prog 232 #[.agg d.cells.toArray] w (fD fun v w' => ∃ A' c', v = .slice A' 5 c' ∧ Own w' w.heap.size 2 1 A' 5 c' ((pI d).flatMap eI) ∧ Ext w w') := by
 have hr := sP hd
 have X := Q7r w
 refine bI (args := [.agg d.cells.toArray]) Tryz.func232 Tryz.ntmps232 rfl rfl ?_
 refine aE ?_
 refine aA rfl (eE rfl rfl ?_)
 intro g4 w3 eg4 b1 x2 zg4
 have lg4 : w.heap.size ≤ g4 := Q7l X.size (Q7e eg4.symm)
 replace X := Q7x X x2
 refine aA rfl (aD rfl ?_)
 refine aB ?_
 refine aE ?_
 refine aA rfl (aD rfl ?_)
 refine aB ?_
 refine aQ ?_
 refine aE ?_
 refine aA rfl (aF nK rfl rfl ?_)
 refine aA rfl (aI b1 uX rfl rfl ?_)
 cases hch : d.change
 refine aB ?_
 refine aL rfl ?_
 refine aU ?_
 refine aP ?_
 refine aE ?_
 refine aA rfl (aF jN rfl rfl ?_)
 refine aA rfl (aI b1 cY rfl rfl ?_)
 refine aA rfl (aF fA rfl rfl ?_)
 refine aA rfl (aI b1 cY rfl rfl ?_)
 refine aA rfl (iN rfl rfl (dR (by omega)) ?_)
 refine aA rfl (aF iR rfl rfl ?_)
 refine aA rfl (aI b1 cY rfl rfl ?_)
 refine aA rfl (aZ rfl rfl (dR (by omega)) ?_)
 refine aA rfl (aF eK rfl rfl ?_)
 refine aA rfl (aI b1 cY rfl rfl ?_)
 refine aA rfl (iE rfl rfl (by omega) (xW (by omega)) ?_)
 refine aA rfl (aF eK rfl rfl ?_)
 refine aA rfl (aI b1 cY rfl rfl ?_)
 refine aA rfl (fN rfl rfl (by omega) (sV (by omega)) ?_)
 refine aA rfl (aC rfl ?_)
 refine aA rfl (aN dA cY rfl rfl rfl rfl rfl ?_)
 intro g5 w7 eg5 oS bbg5 x6 zg5
 replace oS := Own.low oS X.size
 replace b1 := b1.ext x6
 replace X := Q7x X x6
 refine aA rfl (aD rfl ?_)
 refine aB ?_
 refine aV ?_
 refine aK rfl rfl ?_
 exact ⟨_, _, rfl, oS.to (by simp [pI, hch, eI, uV]), X⟩
 refine aB ?_
 refine aR rfl ?_
 refine aM ?_
 refine aA rfl (aD rfl ?_)
 refine aB ?_
 refine aP ?_
 refine aE ?_
 refine aA rfl (aF jN rfl rfl ?_)
 refine aA rfl (aI b1 cY rfl rfl ?_)
 refine aA rfl (aF fA rfl rfl ?_)
 refine aA rfl (aI b1 cY rfl rfl ?_)
 refine aA rfl (iN rfl rfl (dR (by omega)) ?_)
 refine aA rfl (aF iR rfl rfl ?_)
 refine aA rfl (aI b1 cY rfl rfl ?_)
 refine aA rfl (aZ rfl rfl (dR (by omega)) ?_)
 refine aA rfl (aF eK rfl rfl ?_)
 refine aA rfl (aI b1 cY rfl rfl ?_)
 refine aA rfl (iE rfl rfl (by omega) (xW (by omega)) ?_)
 refine aA rfl (aF eK rfl rfl ?_)
 refine aA rfl (aI b1 cY rfl rfl ?_)
 refine aA rfl (fN rfl rfl (by omega) (sV (by omega)) ?_)
 refine aA rfl (aC rfl ?_)
 refine aA rfl (aN dA cY rfl rfl rfl rfl rfl ?_)
 intro g8 w10 eg8 oS bbg8 x9 zg8
 replace oS := Own.low oS X.size
 replace b1 := b1.ext x9
 replace X := Q7x X x9
 refine aA rfl (aD rfl ?_)
 refine aB ?_
 refine aV ?_
 refine aK rfl rfl ?_
 exact ⟨_, _, rfl, oS.to (by simp [pI, hch, eI, uV]), X⟩
theorem aB0 (d : Desc) (w : World) (hd : fI d = true) :
   Calls Tryz.prog 218 #[.agg d.cells.toArray] w (fD fun v w' => ∃ A' c', v = .slice A' 5 c' ∧ Own w' w.heap.size 2 1 A' 5 c' ((pI d).flatMap eI) ∧ Ext w w') := by
 have hr := sP hd
 have X := Q7r w
 refine bI (args := [.agg d.cells.toArray]) Tryz.func218 Tryz.ntmps218 rfl rfl ?_
 refine aE ?_
 refine aA rfl (eE rfl rfl ?_)
 intro g4 w3 eg4 b1 x2 zg4
 have lg4 : w.heap.size ≤ g4 := Q7l X.size (Q7e eg4.symm)
 replace X := Q7x X x2
 refine aA rfl (aD rfl ?_)
 refine aB ?_
 refine eO [false, false, false, false, false, false, false, false, false, false, false, false, false, false, false, false, false, true, false] mixed (by kernel_rfl) ?_
 refine cE rfl (fun wq sq => aF jN rfl rfl ⟨rfl, Q7r _⟩) ?_
 refine cE rfl (fun wq sq => aI (b1.ext sq) cY rfl rfl ⟨rfl, Q7r _⟩) ?_
 refine cE rfl (fun wq sq => aF fA rfl rfl ⟨rfl, Q7r _⟩) ?_
 refine cE rfl (fun wq sq => aI (b1.ext sq) cY rfl rfl ⟨rfl, Q7r _⟩) ?_
 refine cE rfl (fun wq sq => iN rfl rfl (dR (by omega)) ⟨rfl, Q7r _⟩) ?_
 refine cE rfl (fun wq sq => aF iR rfl rfl ⟨rfl, Q7r _⟩) ?_
 refine cE rfl (fun wq sq => aI (b1.ext sq) cY rfl rfl ⟨rfl, Q7r _⟩) ?_
 refine cE rfl (fun wq sq => aZ rfl rfl (dR (by omega)) ⟨rfl, Q7r _⟩) ?_
 refine cE rfl (fun wq sq => aF eK rfl rfl ⟨rfl, Q7r _⟩) ?_
 refine cE rfl (fun wq sq => aI (b1.ext sq) cY rfl rfl ⟨rfl, Q7r _⟩) ?_
 refine cE rfl (fun wq sq => iE rfl rfl (by omega) (xW (by omega)) ⟨rfl, Q7r _⟩) ?_
 refine cE rfl (fun wq sq => aF eK rfl rfl ⟨rfl, Q7r _⟩) ?_
 refine cE rfl (fun wq sq => aI (b1.ext sq) cY rfl rfl ⟨rfl, Q7r _⟩) ?_
 refine cE rfl (fun wq sq => fN rfl rfl (by omega) (sV (by omega)) ⟨rfl, Q7r _⟩) ?_
 refine cE rfl (fun wq sq => aF nK rfl rfl ⟨rfl, Q7r _⟩) ?_
 refine cE rfl (fun wq sq => aI (b1.ext sq) uX rfl rfl ⟨rfl, Q7r _⟩) ?_
 refine cE rfl (fun wq sq => aS aGG rfl (aD4 _ _)) ?_
 refine aBe (fun gS : Nat => Value.slice (some ⟨gS, 0, none⟩) 5 5) (fun gS wz => Own wz w.heap.size 2 1 (some ⟨gS, 0, none⟩) 5 5 ((pI d).flatMap eI)) 0 rfl ⟨lT, fun _ _ _ h k => h.ext k, fun wq sq => aN dA cY rfl rfl rfl rfl rfl (fun g w' hg ho hb hx hz => ⟨g, rfl, Own.low ho (Q7l X.size (sq).size), hx⟩)⟩ ?_
 intro gS
 refine cE rfl (fun wq sq => aD rfl ⟨rfl, Q7r _⟩) ?_
 refine dW (fun w5 sq => ?_)
 have xq := sq.1
 have oS := sq.2
 replace b1 := b1.ext xq
 replace X := Q7x X xq; clear xq sq
 refine aB ?_
 refine aV ?_
 refine aK rfl rfl ?_
 exact ⟨_, _, rfl, oS, X⟩
theorem aC3 (A : Option Addr) (B c : Nat) (xs : List SlotI) (w : World) (hs : Sl B w A (xs.flatMap SlotI.cells)) (hT : gR xs = true) :
   Calls Tryz.prog 157 #[.slice A xs.length c] w (fD fun v w' => ∃ A' c', v = .slice A' (1 + 7 * xs.length) c' ∧ Own w' w.heap.size 2 1 A' (1 + 7 * xs.length) c' ((vI xs).flatMap eI) ∧ Ext w w') := by
 have Bhs := hs.1
 have X := Q7r w
 refine bI (args := [.slice A xs.length c]) Tryz.func157 Tryz.ntmps157 rfl rfl ?_
 refine aE ?_
 refine aA rfl (aD rfl ?_)
 refine aB ?_
 refine aE ?_
 refine aA rfl (aC rfl ?_)
 refine aA rfl (cQ Tryz.underlying26 rfl ?_)
 refine aA rfl (aN dA cY rfl rfl rfl rfl rfl ?_)
 intro gO w2 egO oO bbgO x1 zgO
 replace oO := Own.low oO X.size
 replace hs := hs.ext x1
 replace X := Q7x X x1
 replace oO := oO.to (cs' := (stP xs 0).flatMap eI) rfl
 refine aA rfl (aD rfl ?_)
 refine aB ?_
 refine aQ ?_
 refine aE ?_
 refine aA rfl (aD rfl ?_)
 refine aB ?_
 refine aW ?_
 refine dD (G := Nat × Nat × Option Addr × Nat) (fun ⟨k, n1, A1, c1⟩ => [(0, .slice A xs.length c), (2, .slice none 0 0), (3, .slice A1 n1 c1), (4, .int .i64 (k : Nat))]) (fun ⟨k, n1, A1, c1⟩ wr => k ≤ xs.length ∧ n1 = 1 + 7 * k ∧ Own wr w.heap.size 2 1 A1 n1 c1 ((stP xs k).flatMap eI) ∧ Sl B wr A (xs.flatMap SlotI.cells) ∧ Ext w wr) (fun ⟨k, n1, A1, c1⟩ => xs.length - k) (0, 1, some ⟨gO, 0, none⟩, 1) (.cons rfl (.cons rfl (.cons rfl (.cons rfl (.nil _))))) ?_ ?_
 · exact ⟨by omega, rfl, oO, hs, X⟩
 clear hs oO
 clear X
 rintro ⟨k, n1, A1, c1⟩ wr ⟨hk0, hn, oO, hs, X⟩
 refine aQ ?_
 refine aE ?_
 refine aA rfl (aC rfl ?_)
 refine aA rfl (aC rfl ?_)
 refine aA rfl (cQ Tryz.underlying26 rfl ?_)
 refine aA rfl (cH rfl rfl (fun hk => ?_) (fun hk => ?_))
 obtain ⟨x, hx, dx⟩ := dM hk
 have hk1 := sQ (aBG hT hx)
 have hd := hk1.2.2.2
 have hL := mT hT
 refine aB ?_
 refine aR rfl ?_
 refine aU ?_
 refine aP ?_
 refine aQ ?_
 refine aW ?_
 refine eO [false, false, false, false, false, false, false, false, false, false, false, false, false, false, false, false, false, false, true] mixed (by kernel_rfl) ?_
 refine cE rfl (fun wq sq => aC rfl ⟨rfl, Q7r _⟩) ?_
 refine cE rfl (fun wq sq => aC rfl ⟨rfl, Q7r _⟩) ?_
 refine cE rfl (fun wq sq => aC rfl ⟨rfl, Q7r _⟩) ?_
 refine cE rfl (fun wq sq => aT (hs.ext sq) SlotI.len rfl eW rfl rfl rfl hx rfl ⟨rfl, Q7r _⟩) ?_
 refine cE rfl (fun wq sq => bK gF rfl ⟨rfl, Q7r _⟩) ?_
 refine cE rfl (fun wq sq => dQ (hs.ext sq) SlotI.len hx cY rfl rfl rfl ⟨rfl, Q7r _⟩) ?_
 refine cE rfl (fun wq sq => iN rfl rfl (dR (by omega)) ⟨rfl, Q7r _⟩) ?_
 refine cE rfl (fun wq sq => aC rfl ⟨rfl, Q7r _⟩) ?_
 refine cE rfl (fun wq sq => aC rfl ⟨rfl, Q7r _⟩) ?_
 refine cE rfl (fun wq sq => aT (hs.ext sq) SlotI.len rfl eW rfl rfl rfl hx rfl ⟨rfl, Q7r _⟩) ?_
 refine cE rfl (fun wq sq => bK jY rfl ⟨rfl, Q7r _⟩) ?_
 refine cE rfl (fun wq sq => dQ (hs.ext sq) SlotI.len hx cY rfl rfl rfl ⟨rfl, Q7r _⟩) ?_
 refine cE rfl (fun wq sq => aZ rfl rfl (dR (by omega)) ⟨rfl, Q7r _⟩) ?_
 refine cE rfl (fun wq sq => aC rfl ⟨rfl, Q7r _⟩) ?_
 refine cE rfl (fun wq sq => aC rfl ⟨rfl, Q7r _⟩) ?_
 refine cE rfl (fun wq sq => aT (hs.ext sq) SlotI.len rfl eW rfl rfl rfl hx rfl ⟨rfl, Q7r _⟩) ?_
 refine cE rfl (fun wq sq => bK jO rfl ⟨rfl, Q7r _⟩) ?_
 refine cE rfl (fun wq sq => dQ (hs.ext sq) SlotI.len hx cY rfl rfl rfl ⟨rfl, Q7r _⟩) ?_
 refine aBe (fun gS : Nat => Value.slice (some ⟨gS, 0, none⟩) 2 2) (fun gS wz => Own wz w.heap.size 2 1 (some ⟨gS, 0, none⟩) 2 2 (eI (x.mode * 16 + x.round) ++ eI x.slot)) 0 rfl ⟨lT, fun _ _ _ h k => h.ext k, fun wq sq => aN dA cY rfl rfl rfl rfl rfl (fun g w' hg ho hb hx hz => ⟨g, rfl, Own.low ho (Q7l X.size (sq).size), hx⟩)⟩ ?_
 intro gS
 refine dW (fun w3 sq => ?_)
 have xq := sq.1
 have oS := sq.2
 replace oO := oO.ext xq
 replace hs := hs.ext xq
 replace X := Q7x X xq; clear xq sq
 refine aA rfl (cF (ts := #[]) oO X.size oS.sl (by first | rfl | simp) (by first | exact List.all_eq_true.1 rfl | simp [Value.oneCell']) dA cY rfl rfl rfl rfl (by omega) (by omega) ?_)
 intro AoM coM w5 oM hg4
 replace hs := hs.grown hg4 (fun g hg => Q7l Bhs (Own.lt oO hg).1)
 replace X := X.grown hg4 X.size (fun g hg => (Own.lt oO hg).1)
 clear hg4
 refine aA rfl (aD rfl ?_)
 refine aB ?_
 refine aM ?_
 refine aA rfl (aC rfl ?_)
 refine aA rfl (aC rfl ?_)
 refine aA rfl (aC rfl ?_)
 refine aA rfl (aT hs SlotI.len rfl eW rfl rfl rfl hx rfl ?_)
 refine aA rfl (bK fP rfl ?_)
 refine aA rfl (aDx hs SlotI.len hx eV rfl rfl ?_)
 refine aA rfl (aS aJt rfl (aO (aC2 _ _ hd) ?_))
 rintro _ w7 ⟨A8, c9, rfl, oD, x6⟩
 replace oD := Own.low oD X.size
 replace hs := hs.ext x6
 replace oM := oM.ext x6
 replace X := Q7x X x6
 refine aA rfl (cF (ts := #[]) oM X.size oD.sl (by simp [pI, eI]) (by simp [pI, eI, Value.oneCell']) dA cY rfl rfl rfl rfl (by omega) (by omega) ?_)
 intro AoN coN w11 oN hg10
 replace hs := hs.grown hg10 (fun g hg => Q7l Bhs (Own.lt oM hg).1)
 replace X := X.grown hg10 X.size (fun g hg => (Own.lt oM hg).1)
 clear hg10
 refine aA rfl (aD rfl ?_)
 refine aB ?_
 refine dJ ?_
 refine aP ?_
 refine aM ?_
 refine aA rfl (aC rfl ?_)
 refine aA rfl (aZ rfl rfl (dR (by omega)) ?_)
 refine aA rfl (aD rfl ?_)
 refine aB ?_
 refine aP ⟨(k + 1, n1 + 2 + 5, AoN, coN), (.cons rfl (.cons rfl (.cons rfl (.cons rfl (.nil _))))), ?_, ?_⟩
 · exact ⟨by omega, by omega, oN.to (aBZ hx).symm, hs, X⟩
 · first | omega | (dsimp only; omega)
 refine aB ?_
 refine aL rfl ?_
 refine dC ?_
 refine dB ?_
 refine dB ?_
 refine eA ?_
 refine aP ?_
 refine aE ?_
 refine aA rfl (aC rfl ?_)
 refine aA rfl (aD rfl ?_)
 refine aB ?_
 refine aV ?_
 refine aK rfl rfl ?_
 · skip
   rw [show k = xs.length by omega] at oO hn
   subst hn
   exact ⟨_, _, rfl, oO, X⟩
theorem vJ (A : Option Addr) (B c : Nat) (xs : List SlotI) (w : World) (hs : Sl B w A (xs.flatMap SlotI.cells)) (hT : gR xs = true) :
   Calls Tryz.prog 150 #[.slice A xs.length c] w (fD fun v w' => ∃ A' c', v = .slice A' (1 + 7 * xs.length) c' ∧ Own w' w.heap.size 2 1 A' (1 + 7 * xs.length) c' ((vI xs).flatMap eI) ∧ Ext w w') := by
 have Bhs := hs.1
 have X := Q7r w
 refine bI (args := [.slice A xs.length c]) Tryz.func150 Tryz.ntmps150 rfl rfl ?_
 refine aE ?_
 refine aA rfl (aD rfl ?_)
 refine aB ?_
 refine aE ?_
 refine aA rfl (aC rfl ?_)
 refine aA rfl (cQ Tryz.underlying26 rfl ?_)
 refine aA rfl (aN dA cY rfl rfl rfl rfl rfl ?_)
 intro gO w2 egO oO bbgO x1 zgO
 replace oO := Own.low oO X.size
 replace hs := hs.ext x1
 replace X := Q7x X x1
 replace oO := oO.to (cs' := (stP xs 0).flatMap eI) rfl
 refine aA rfl (aD rfl ?_)
 refine aB ?_
 refine aQ ?_
 refine aE ?_
 refine aA rfl (aC rfl ?_)
 refine aA rfl (cQ Tryz.underlying26 rfl ?_)
 refine aA rfl (aC rfl ?_)
 refine aB ?_
 refine aW ?_
 refine dD (G := Nat × Nat × Option Addr × Nat) (fun ⟨k, n1, A1, c1⟩ => [(2, .slice none 0 0), (9, .slice A xs.length c), (10, .int .i64 (xs.length : Nat)), (3, .slice A1 n1 c1), (11, .int .i64 (k : Nat))]) (fun ⟨k, n1, A1, c1⟩ wr => k ≤ xs.length ∧ n1 = 1 + 7 * k ∧ Own wr w.heap.size 2 1 A1 n1 c1 ((stP xs k).flatMap eI) ∧ Sl B wr A (xs.flatMap SlotI.cells) ∧ Ext w wr) (fun ⟨k, n1, A1, c1⟩ => xs.length - k) (0, 1, some ⟨gO, 0, none⟩, 1) (.cons rfl (.cons rfl (.cons rfl (.cons rfl (.cons rfl (.nil _)))))) ?_ ?_
 · exact ⟨by omega, rfl, oO, hs, X⟩
 clear hs oO
 clear X
 rintro ⟨k, n1, A1, c1⟩ wr ⟨hk0, hn, oO, hs, X⟩
 refine aE ?_
 refine aA rfl (cH rfl rfl (fun hk => ?_) (fun hk => ?_))
 obtain ⟨x, hx, dx⟩ := dM hk
 have hk1 := sQ (aBG hT hx)
 have hd := hk1.2.2.2
 have hL := mT hT
 refine aB ?_
 refine aQ ?_
 refine aR rfl ?_
 refine aU ?_
 refine aP ?_
 refine aQ ?_
 refine aW ?_
 refine aE ?_
 refine aA rfl (aT hs SlotI.len rfl eW rfl rfl rfl hx rfl ?_)
 refine aA rfl (dY hs SlotI.len hx dZ rfl ?_)
 refine aA rfl (dO dZ ?_)
 intro gX w4 egX bX x3 zgX
 have lgX : w.heap.size ≤ gX := Q7l X.size (Q7e egX.symm)
 have pgXhs := Q7l hs.1 (Q7e egX.symm)
 replace oO := oO.ext x3
 replace hs := hs.ext x3
 replace X := Q7x X x3
 refine aA rfl (aX bX dZ rfl rfl rfl rfl rfl rfl ?_)
 intro w6 bY hg5 z7
 replace oO := oO.grownBlk hg5 (Own.neT oO bX (by decide))
 replace hs := hs.grown hg5 (by intro g hg; injection hg; omega)
 replace X := X.grown hg5 X.size (by intro g hg; injection hg; omega)
 clear hg5 bX
 refine aB ?_
 refine aBH (fun wz => Blk wz gX 89 x.cells) mixed ?_
 obtain ⟨w9, ew9⟩ : ∃ wy, wy = World.drew w6 := ⟨_, rfl⟩
 rw [← ew9]
 have xd : Ext w6 w9 := ew9 ▸ Ext.drew w6
 replace oO := oO.ext xd
 replace hs := hs.ext xd
 replace bY := bY.ext xd
 replace X := Q7x X xd; clear xd ew9
 refine dI 0 rfl (by kernel_rfl) rfl (by kernel_rfl) (listed' := #[true, false, false, false, false, false, false, false, false, false, false, false, false, false, false, false]) rfl (fun wq sq => aC rfl ⟨rfl, rfl⟩) ?_
 refine dI 1 rfl (by kernel_rfl) rfl (by kernel_rfl) (listed' := #[true, true, false, false, false, false, false, false, false, false, false, false, false, false, false, false]) rfl (fun wq sq => aF gF rfl rfl ⟨rfl, rfl⟩) ?_
 refine dI 2 rfl (by kernel_rfl) rfl (by kernel_rfl) (listed' := #[true, true, true, false, false, false, false, false, false, false, false, false, false, false, false, false]) rfl (fun wq sq => aI sq cY rfl rfl ⟨rfl, rfl⟩) ?_
 refine dI 3 rfl (by kernel_rfl) rfl (by kernel_rfl) (listed' := #[true, true, true, true, false, false, false, false, false, false, false, false, false, false, false, false]) rfl (fun wq sq => iN rfl rfl (dR (by omega)) ⟨rfl, rfl⟩) ?_
 refine dI 4 rfl (by kernel_rfl) rfl (by kernel_rfl) (listed' := #[true, true, true, true, true, false, false, false, false, false, false, false, false, false, false, false]) rfl (fun wq sq => aF jY rfl rfl ⟨rfl, rfl⟩) ?_
 refine dI 5 rfl (by kernel_rfl) rfl (by kernel_rfl) (listed' := #[true, true, true, true, true, true, false, false, false, false, false, false, false, false, false, false]) rfl (fun wq sq => aI sq cY rfl rfl ⟨rfl, rfl⟩) ?_
 refine dI 6 rfl (by kernel_rfl) rfl (by kernel_rfl) (listed' := #[true, true, true, true, true, true, true, false, false, false, false, false, false, false, false, false]) rfl (fun wq sq => aZ rfl rfl (dR (by omega)) ⟨rfl, rfl⟩) ?_
 refine dI 7 rfl (by kernel_rfl) rfl (by kernel_rfl) (listed' := #[true, true, true, true, true, true, true, true, false, false, false, false, false, false, false, false]) rfl (fun wq sq => aF jO rfl rfl ⟨rfl, rfl⟩) ?_
 refine dI 8 rfl (by kernel_rfl) rfl (by kernel_rfl) (listed' := #[true, true, true, true, true, true, true, true, true, false, false, false, false, false, false, false]) rfl (fun wq sq => aI sq cY rfl rfl ⟨rfl, rfl⟩) ?_
 refine dI 11 rfl (by kernel_rfl) rfl (by kernel_rfl) (listed' := #[true, true, true, true, true, true, true, true, true, false, false, true, false, false, false, false]) rfl (fun wq sq => aF fP rfl rfl ⟨rfl, rfl⟩) ?_
 refine dI 12 rfl (by kernel_rfl) rfl (by kernel_rfl) (listed' := #[true, true, true, true, true, true, true, true, true, false, false, true, true, false, false, false]) rfl (fun wq sq => bO sq eV rfl rfl ⟨rfl, rfl⟩) ?_
 refine fM 9 rfl rfl (by kernel_rfl) (listed' := #[true, true, true, true, true, true, true, true, true, true, false, true, true, false, false, false]) rfl bY (aN dA cY rfl rfl rfl rfl rfl ?_)
 intro gS w11 egS oS bbgS x10 zgS
 replace oS := Own.low oS X.size
 replace oO := oO.ext x10
 replace hs := hs.ext x10
 replace bY := bY.ext x10
 replace X := Q7x X x10
 refine fM 10 rfl rfl (by kernel_rfl) (listed' := #[true, true, true, true, true, true, true, true, true, true, true, true, true, false, false, false]) rfl bY (cF (ts := #[]) oO X.size oS.sl (by first | rfl | simp) (by first | exact List.all_eq_true.1 rfl | simp [Value.oneCell']) dA cY rfl rfl rfl rfl (by omega) (by omega) ?_)
 intro AoM coM w13 oM hg12
 replace hs := hs.grown hg12 (fun g hg => Q7l Bhs (Own.lt oO hg).1)
 replace bY := bY.grown hg12 (fun h => Own.neT oO bY (by decide) h.symm)
 replace X := X.grown hg12 X.size (fun g hg => (Own.lt oO hg).1)
 clear hg12
 refine fM 13 rfl rfl (by kernel_rfl) (listed' := #[true, true, true, true, true, true, true, true, true, true, true, true, true, true, false, false]) rfl bY (aS aJf rfl (aO (aB0 _ _ hd) ?_))
 rintro _ w15 ⟨A16, c17, rfl, oD, x14⟩
 replace oD := Own.low oD X.size
 replace hs := hs.ext x14
 replace bY := bY.ext x14
 replace oM := oM.ext x14
 replace X := Q7x X x14
 refine fM 14 rfl rfl (by kernel_rfl) (listed' := #[true, true, true, true, true, true, true, true, true, true, true, true, true, true, true, false]) rfl bY (cF (ts := #[]) oM X.size oD.sl (by simp [pI, eI]) (by simp [pI, eI, Value.oneCell']) dA cY rfl rfl rfl rfl (by omega) (by omega) ?_)
 intro AoN coN w19 oN hg18
 replace hs := hs.grown hg18 (fun g hg => Q7l Bhs (Own.lt oM hg).1)
 replace bY := bY.grown hg18 (fun h => Own.neT oM bY (by decide) h.symm)
 replace X := X.grown hg18 X.size (fun g hg => (Own.lt oM hg).1)
 clear hg18
 refine dI 15 rfl (by kernel_rfl) rfl (by kernel_rfl) (listed' := #[true, true, true, true, true, true, true, true, true, true, true, true, true, true, true, true]) rfl (fun wq sq => aD rfl ⟨rfl, rfl⟩) ?_
 refine kA rfl bY (fun aj fj => ⟨_, fj, ?_⟩)
 refine dJ ?_
 refine aP ?_
 refine aM ?_
 refine aA rfl (aZ rfl rfl (dR (by omega)) ?_)
 refine aA rfl (aC rfl ?_)
 refine aB ?_
 refine aP ⟨(k + 1, n1 + 2 + 5, AoN, coN), (.cons rfl (.cons rfl (.cons rfl (.cons rfl (.cons rfl (.nil _)))))), ?_, ?_⟩
 · exact ⟨by omega, by omega, oN.to (aBZ hx).symm, hs, X⟩
 · first | omega | (dsimp only; omega)
 refine aB ?_
 refine aQ ?_
 refine aL rfl ?_
 refine dC ?_
 refine dB ?_
 refine dB ?_
 refine eA ?_
 refine aP ?_
 refine aE ?_
 refine aA rfl (aC rfl ?_)
 refine aA rfl (aD rfl ?_)
 refine aB ?_
 refine aV ?_
 refine aK rfl rfl ?_
 · skip
   rw [show k = xs.length by omega] at oO hn
   subst hn
   exact ⟨_, _, rfl, oO, X⟩
theorem aC4 (A : Option Addr) (B c : Nat) (xs : List Int) (n : Int) (w : World) (hs : Sl B w A (xs.flatMap eI)) (hl : xs.length ≤ 1048576) (hn : 0 ≤ n ∧ n ≤ 1048576) :
   Calls Tryz.prog 259 #[.slice A xs.length c, .int .i64 n] w (fD fun v w' => v = .bool (fQ xs n) ∧ Ext w w') := by
 have Bhs := hs.1
 have X := Q7r w
 refine bI (args := [.slice A xs.length c, .int .i64 n]) Tryz.func259 Tryz.ntmps259 rfl rfl ?_
 refine aE ?_
 refine aA rfl (aD rfl ?_)
 refine aB ?_
 refine aQ ?_
 refine aE ?_
 refine aA rfl (aD rfl ?_)
 refine aB ?_
 refine aW ?_
 refine dD (G := Nat) (fun k => [(0, .slice A xs.length c), (1, .int .i64 n), (5, .int .i64 (k : Nat))]) (fun k wr => k ≤ xs.length ∧ eT n none xs = eT n (pK xs k) (xs.drop k) ∧ Sl B wr A (xs.flatMap eI) ∧ Ext w wr) (fun k => xs.length - k) 0 (.cons rfl (.cons rfl (.cons rfl (.nil _)))) ?_ ?_
 · exact ⟨by omega, rfl, hs, X⟩
 clear hs
 clear X
 rintro k wr ⟨hk0, hi, hs, X⟩
 refine aQ ?_
 refine aE ?_
 refine aA rfl (aC rfl ?_)
 refine aA rfl (aC rfl ?_)
 refine aA rfl (cQ Tryz.underlying30 rfl ?_)
 refine aA rfl (cH rfl rfl (fun hk => ?_) (fun hk => ?_))
 obtain ⟨x, hx, dx⟩ := dM hk
 refine aB ?_
 refine aR rfl ?_
 refine aU ?_
 refine aP ?_
 refine aQ ?_
 refine aW ?_
 refine eO [false, false, false, false, false, false, false, false, false, false, false, false, false, false, false, false, false, false, false, false, false, false, false, false] mixed (by kernel_rfl) ?_
 refine cE rfl (fun wq sq => aC rfl ⟨rfl, Q7r _⟩) ?_
 refine cE rfl (fun wq sq => aC rfl ⟨rfl, Q7r _⟩) ?_
 refine cE rfl (fun wq sq => aT (hs.ext sq) bL rfl dA rfl rfl rfl hx rfl ⟨rfl, Q7r _⟩) ?_
 refine cE rfl (fun wq sq => cX (hs.ext sq) bL hx cY rfl rfl rfl ⟨rfl, Q7r _⟩) ?_
 refine cE rfl (fun wq sq => aC rfl ⟨rfl, Q7r _⟩) ?_
 refine cE rfl (fun wq sq => fZ rfl rfl (dR (by omega)) ⟨rfl, Q7r _⟩) ?_
 refine aGN rfl (fun wq sq => aS jW rfl (iM _ _ _ _)) (fun h1 => ?_) (fun h1 => ?_)
 refine cE rfl (fun wq sq => cD rfl ⟨rfl, Q7r _⟩) ?_
 refine cE rfl (fun wq sq => aC rfl ⟨rfl, Q7r _⟩) ?_
 refine dT rfl rfl rfl (fun wq sq => aC rfl ⟨rfl, Q7r _⟩) ?_
 refine rG rfl rfl rfl (fun wq sq => qR rfl rfl ⟨rfl, Q7r _⟩) (fun hp => ?_) (fun hp => ?_)
 obtain ⟨y, hy⟩ : ∃ y, xs[k - 1]? = some y := ⟨_, List.getElem?_eq_getElem (by omega)⟩
 refine dT rfl rfl rfl (fun wq sq => aC rfl ⟨rfl, Q7r _⟩) ?_
 refine dT rfl rfl rfl (fun wq sq => aC rfl ⟨rfl, Q7r _⟩) ?_
 refine dT rfl rfl rfl (fun wq sq => aC rfl ⟨rfl, Q7r _⟩) ?_
 refine dT rfl rfl rfl (fun wq sq => aT (hs.ext sq) bL rfl dA rfl rfl rfl hx rfl ⟨rfl, Q7r _⟩) ?_
 refine dT rfl rfl rfl (fun wq sq => cX (hs.ext sq) bL hx cY rfl rfl rfl ⟨rfl, Q7r _⟩) ?_
 refine dT rfl rfl rfl (fun wq sq => aC rfl ⟨rfl, Q7r _⟩) ?_
 refine dT rfl rfl rfl (fun wq sq => aC rfl ⟨rfl, Q7r _⟩) ?_
 refine dT rfl rfl rfl (fun wq sq => fZ rfl rfl (dR (by omega)) ⟨rfl, Q7r _⟩) ?_
 refine dT rfl rfl rfl (fun wq sq => aT (hs.ext sq) bL rfl dA rfl rfl rfl hy (by omega) ⟨rfl, Q7r _⟩) ?_
 refine dT rfl rfl rfl (fun wq sq => cX (hs.ext sq) bL hy cY rfl rfl rfl ⟨rfl, Q7r _⟩) ?_
 refine rG rfl rfl rfl (fun wq sq => pM rfl rfl ⟨rfl, Q7r _⟩) (fun h4 => ?_) (fun h4 => ?_)
 refine dT rfl rfl rfl (fun wq sq => aJ rfl rfl ⟨rfl, Q7r _⟩) ?_
 refine cE rfl (fun wq sq => aJ rfl rfl ⟨rfl, Q7r _⟩) ?_
 refine dW (fun w5 sq => ?_)
 have xq := sq
 replace hs := hs.ext xq
 replace X := Q7x X xq; clear xq sq
 refine aB ?_
 refine aR rfl ?_
 refine aE ?_
 refine aA rfl (aD rfl ?_)
 refine aB ?_
 refine aV ?_
 refine dN ?_
 refine bU ?_
 refine bU ?_
 refine dN ?_
 refine bU ?_
 refine aK rfl rfl ?_
 · skip
   refine ⟨congrArg Value.bool ?_, X⟩
   first
   | (rw [fQ, hi, bJ hk, mM])
   | (rw [fQ, hi, dx, gG (by assumption)])
   | (rw [fQ, hi, dx, gG (by simp [hZ]; omega)])
   | (rw [fQ, hi, dx, eH ‹_› hy, lI (by omega)])
 refine dT rfl rfl rfl (fun wq sq => aJ rfl rfl ⟨rfl, Q7r _⟩) ?_
 refine cE rfl (fun wq sq => aJ rfl rfl ⟨rfl, Q7r _⟩) ?_
 refine dW (fun w6 sq => ?_)
 have xq := sq
 replace hs := hs.ext xq
 replace X := Q7x X xq; clear xq sq
 refine aB ?_
 refine aL rfl ?_
 refine aU ?_
 refine dJ ?_
 refine aP ?_
 refine aM ?_
 refine aA rfl (aC rfl ?_)
 refine aA rfl (aZ rfl rfl (dR (by omega)) ?_)
 refine aA rfl (aD rfl ?_)
 refine aB ?_
 refine aP ⟨k + 1, (.cons rfl (.cons rfl (.cons rfl (.nil _)))), ?_, ?_⟩
 · skip
   exact ⟨by omega, (by
     rw [hi, dx, kH hx]
     have hB : hZ x 0 (n - 1) = true := by first | assumption | (rw [eD]; omega)
     first | rw [kI ‹_›, tC hB] | rw [eH ‹_› hy, tD hB (by omega)]), hs, X⟩
 · first | omega | (dsimp only; omega)
 refine dT rfl rfl rfl (fun wq sq => aC rfl ⟨rfl, Q7r _⟩) ?_
 refine dS rfl rfl rfl rfl ?_
 refine dS rfl rfl rfl rfl ?_
 refine dS rfl rfl rfl rfl ?_
 refine dS rfl rfl rfl rfl ?_
 refine dS rfl rfl rfl rfl ?_
 refine dS rfl rfl rfl rfl ?_
 refine dS rfl rfl rfl rfl ?_
 refine dS rfl rfl rfl rfl ?_
 refine dS rfl rfl rfl rfl ?_
 refine dS rfl rfl rfl rfl ?_
 refine dT rfl rfl rfl (fun wq sq => aJ rfl rfl ⟨rfl, Q7r _⟩) ?_
 refine cE rfl (fun wq sq => aJ rfl rfl ⟨rfl, Q7r _⟩) ?_
 refine dW (fun w7 sq => ?_)
 have xq := sq
 replace hs := hs.ext xq
 replace X := Q7x X xq; clear xq sq
 refine aB ?_
 refine aL rfl ?_
 refine aU ?_
 refine dJ ?_
 refine aP ?_
 refine aM ?_
 refine aA rfl (aC rfl ?_)
 refine aA rfl (aZ rfl rfl (dR (by omega)) ?_)
 refine aA rfl (aD rfl ?_)
 refine aB ?_
 refine aP ⟨k + 1, (.cons rfl (.cons rfl (.cons rfl (.nil _)))), ?_, ?_⟩
 · skip
   exact ⟨by omega, (by
     rw [hi, dx, kH hx]
     have hB : hZ x 0 (n - 1) = true := by first | assumption | (rw [eD]; omega)
     first | rw [kI ‹_›, tC hB] | rw [eH ‹_› hy, tD hB (by omega)]), hs, X⟩
 · first | omega | (dsimp only; omega)
 refine cE rfl (fun wq sq => cD rfl ⟨rfl, Q7r _⟩) ?_
 refine cE rfl (fun wq sq => aC rfl ⟨rfl, Q7r _⟩) ?_
 refine dS rfl rfl rfl rfl ?_
 refine dS rfl rfl rfl rfl ?_
 refine dS rfl rfl rfl rfl ?_
 refine dS rfl rfl rfl rfl ?_
 refine dS rfl rfl rfl rfl ?_
 refine dS rfl rfl rfl rfl ?_
 refine dS rfl rfl rfl rfl ?_
 refine dS rfl rfl rfl rfl ?_
 refine dS rfl rfl rfl rfl ?_
 refine dS rfl rfl rfl rfl ?_
 refine dS rfl rfl rfl rfl ?_
 refine dS rfl rfl rfl rfl ?_
 refine dS rfl rfl rfl rfl ?_
 refine dS rfl rfl rfl rfl ?_
 refine cE rfl (fun wq sq => aJ rfl rfl ⟨rfl, Q7r _⟩) ?_
 refine dW (fun w9 sq => ?_)
 have xq := sq
 replace hs := hs.ext xq
 replace X := Q7x X xq; clear xq sq
 refine aB ?_
 refine aR rfl ?_
 refine aE ?_
 refine aA rfl (aD rfl ?_)
 refine aB ?_
 refine aV ?_
 refine dN ?_
 refine bU ?_
 refine bU ?_
 refine dN ?_
 refine bU ?_
 refine aK rfl rfl ?_
 · skip
   refine ⟨congrArg Value.bool ?_, X⟩
   first
   | (rw [fQ, hi, bJ hk, mM])
   | (rw [fQ, hi, dx, gG (by assumption)])
   | (rw [fQ, hi, dx, gG (by simp [hZ]; omega)])
   | (rw [fQ, hi, dx, eH ‹_› hy, lI (by omega)])
 refine aB ?_
 refine aL rfl ?_
 refine dC ?_
 refine dB ?_
 refine dB ?_
 refine eA ?_
 refine aP ?_
 refine aE ?_
 refine aA rfl (aD rfl ?_)
 refine aB ?_
 refine aV ?_
 refine aK rfl rfl ?_
 · skip
   refine ⟨congrArg Value.bool ?_, X⟩
   first
   | (rw [fQ, hi, bJ hk, mM])
   | (rw [fQ, hi, dx, gG (by assumption)])
   | (rw [fQ, hi, dx, gG (by simp [hZ]; omega)])
   | (rw [fQ, hi, dx, eH ‹_› hy, lI (by omega)])
theorem aC5 (A : Option Addr) (B c : Nat) (xs : List Int) (n : Int) (w : World) (hs : Sl B w A (xs.flatMap eI)) (hl : xs.length ≤ 1048576) (hn : 0 ≤ n ∧ n ≤ 1048576) :
   Calls Tryz.prog 236 #[.slice A xs.length c, .int .i64 n] w (fD fun v w' => v = .bool (fQ xs n) ∧ Ext w w') := by
 have Bhs := hs.1
 have X := Q7r w
 refine bI (args := [.slice A xs.length c, .int .i64 n]) Tryz.func236 Tryz.ntmps236 rfl rfl ?_
 refine aE ?_
 refine aA rfl (aD rfl ?_)
 refine aB ?_
 refine aQ ?_
 refine aE ?_
 refine aA rfl (aC rfl ?_)
 refine aA rfl (cQ Tryz.underlying30 rfl ?_)
 refine aA rfl (aC rfl ?_)
 refine aB ?_
 refine aW ?_
 refine dD (G := Nat) (fun k => [(0, .slice A xs.length c), (1, .int .i64 n), (7, .slice A xs.length c), (8, .int .i64 (xs.length : Nat)), (9, .int .i64 (k : Nat))]) (fun k wr => k ≤ xs.length ∧ eT n none xs = eT n (pK xs k) (xs.drop k) ∧ Sl B wr A (xs.flatMap eI) ∧ Ext w wr) (fun k => xs.length - k) 0 (.cons rfl (.cons rfl (.cons rfl (.cons rfl (.cons rfl (.nil _)))))) ?_ ?_
 · exact ⟨by omega, rfl, hs, X⟩
 clear hs
 clear X
 rintro k wr ⟨hk0, hi, hs, X⟩
 refine aE ?_
 refine aA rfl (cH rfl rfl (fun hk => ?_) (fun hk => ?_))
 obtain ⟨x, hx, dx⟩ := dM hk
 refine aB ?_
 refine aQ ?_
 refine aR rfl ?_
 refine aU ?_
 refine aP ?_
 refine aQ ?_
 refine aW ?_
 refine aE ?_
 refine aA rfl (aC rfl ?_)
 refine aA rfl (aT hs bL rfl dA rfl rfl rfl hx rfl ?_)
 refine aA rfl (cX hs bL hx cY rfl rfl rfl ?_)
 refine aA rfl (aD rfl ?_)
 refine aA rfl (aD rfl ?_)
 refine aB ?_
 refine aE ?_
 refine aA rfl (aC rfl ?_)
 refine aA rfl (cH rfl rfl (fun h1 => ?_) (fun h1 => ?_))
 refine aA rfl (aC rfl ?_)
 refine aG rfl rfl rfl rfl ?_
 refine aG rfl rfl rfl rfl ?_
 refine aG rfl rfl rfl rfl ?_
 refine aA rfl (aJ rfl rfl ?_)
 refine aA rfl (aC rfl ?_)
 refine aG rfl rfl rfl rfl ?_
 refine aG rfl rfl rfl rfl ?_
 refine aG rfl rfl rfl rfl ?_
 refine dX rfl rfl rfl ?_
 refine dX rfl rfl rfl ?_
 refine dX rfl rfl rfl ?_
 refine dX rfl rfl rfl ?_
 refine dX rfl rfl rfl ?_
 refine dX rfl rfl rfl ?_
 refine dX rfl rfl rfl ?_
 refine aG rfl rfl rfl rfl ?_
 refine aA rfl (aJ rfl rfl ?_)
 refine aB ?_
 refine aR rfl ?_
 refine aE ?_
 refine aA rfl (aD rfl ?_)
 refine aB ?_
 refine aV ?_
 refine dN ?_
 refine bU ?_
 refine bU ?_
 refine dN ?_
 refine bU ?_
 refine aK rfl rfl ?_
 · skip
   refine ⟨congrArg Value.bool ?_, X⟩
   first
   | (rw [fQ, hi, bJ hk, mM])
   | (rw [fQ, hi, dx, gG (by assumption)])
   | (rw [fQ, hi, dx, gG (by simp [hZ]; omega)])
   | (rw [fQ, hi, dx, eH ‹_› hy, lI (by omega)])
 refine aA rfl (aC rfl ?_)
 refine aH rfl rfl rfl (aC rfl ?_)
 refine aH rfl rfl rfl (aC rfl ?_)
 refine aH rfl rfl rfl (lC rfl rfl (fun h2 => ?_) (fun h2 => ?_))
 refine aA rfl (aJ rfl rfl ?_)
 refine aA rfl (aC rfl ?_)
 refine aG rfl rfl rfl rfl ?_
 refine aG rfl rfl rfl rfl ?_
 refine aG rfl rfl rfl rfl ?_
 refine dX rfl rfl rfl ?_
 refine dX rfl rfl rfl ?_
 refine dX rfl rfl rfl ?_
 refine dX rfl rfl rfl ?_
 refine dX rfl rfl rfl ?_
 refine dX rfl rfl rfl ?_
 refine dX rfl rfl rfl ?_
 refine aG rfl rfl rfl rfl ?_
 refine aA rfl (aJ rfl rfl ?_)
 refine aB ?_
 refine aR rfl ?_
 refine aE ?_
 refine aA rfl (aD rfl ?_)
 refine aB ?_
 refine aV ?_
 refine dN ?_
 refine bU ?_
 refine bU ?_
 refine dN ?_
 refine bU ?_
 refine aK rfl rfl ?_
 · skip
   refine ⟨congrArg Value.bool ?_, X⟩
   first
   | (rw [fQ, hi, bJ hk, mM])
   | (rw [fQ, hi, dx, gG (by assumption)])
   | (rw [fQ, hi, dx, gG (by simp [hZ]; omega)])
   | (rw [fQ, hi, dx, eH ‹_› hy, lI (by omega)])
 refine aA rfl (aJ rfl rfl ?_)
 refine aA rfl (aC rfl ?_)
 refine aH rfl rfl rfl (aC rfl ?_)
 refine aH rfl rfl rfl (fX rfl rfl (fun hp => ?_) (fun hp => ?_))
 obtain ⟨y, hy⟩ : ∃ y, xs[k - 1]? = some y := ⟨_, List.getElem?_eq_getElem (by omega)⟩
 refine aH rfl rfl rfl (aC rfl ?_)
 refine aH rfl rfl rfl (aC rfl ?_)
 refine aH rfl rfl rfl (aC rfl ?_)
 refine aH rfl rfl rfl (fZ rfl rfl (dR (by omega)) ?_)
 refine aH rfl rfl rfl (aT hs bL rfl dA rfl rfl rfl hy (by omega) ?_)
 refine aH rfl rfl rfl (cX hs bL hy cY rfl rfl rfl ?_)
 refine aH rfl rfl rfl (aC rfl ?_)
 refine aH rfl rfl rfl (lC rfl rfl (fun h3 => ?_) (fun h3 => ?_))
 refine aH rfl rfl rfl (aJ rfl rfl ?_)
 refine aA rfl (aJ rfl rfl ?_)
 refine aB ?_
 refine aR rfl ?_
 refine aE ?_
 refine aA rfl (aD rfl ?_)
 refine aB ?_
 refine aV ?_
 refine dN ?_
 refine bU ?_
 refine bU ?_
 refine dN ?_
 refine bU ?_
 refine aK rfl rfl ?_
 · skip
   refine ⟨congrArg Value.bool ?_, X⟩
   first
   | (rw [fQ, hi, bJ hk, mM])
   | (rw [fQ, hi, dx, gG (by assumption)])
   | (rw [fQ, hi, dx, gG (by simp [hZ]; omega)])
   | (rw [fQ, hi, dx, eH ‹_› hy, lI (by omega)])
 refine aH rfl rfl rfl (aJ rfl rfl ?_)
 refine aA rfl (aJ rfl rfl ?_)
 refine aB ?_
 refine aL rfl ?_
 refine aU ?_
 refine dJ ?_
 refine aP ?_
 refine aM ?_
 refine aA rfl (aZ rfl rfl (dR (by omega)) ?_)
 refine aA rfl (aC rfl ?_)
 refine aB ?_
 refine aP ⟨k + 1, (.cons rfl (.cons rfl (.cons rfl (.cons rfl (.cons rfl (.nil _)))))), ?_, ?_⟩
 · skip
   exact ⟨by omega, (by
     rw [hi, dx, kH hx]
     have hB : hZ x 0 (n - 1) = true := by first | assumption | (rw [eD]; omega)
     first | rw [kI ‹_›, tC hB] | rw [eH ‹_› hy, tD hB (by omega)]), hs, X⟩
 · first | omega | (dsimp only; omega)
 refine aH rfl rfl rfl (aC rfl ?_)
 refine aG rfl rfl rfl rfl ?_
 refine aG rfl rfl rfl rfl ?_
 refine aG rfl rfl rfl rfl ?_
 refine aG rfl rfl rfl rfl ?_
 refine aG rfl rfl rfl rfl ?_
 refine aG rfl rfl rfl rfl ?_
 refine aG rfl rfl rfl rfl ?_
 refine aH rfl rfl rfl (aJ rfl rfl ?_)
 refine aA rfl (aJ rfl rfl ?_)
 refine aB ?_
 refine aL rfl ?_
 refine aU ?_
 refine dJ ?_
 refine aP ?_
 refine aM ?_
 refine aA rfl (aZ rfl rfl (dR (by omega)) ?_)
 refine aA rfl (aC rfl ?_)
 refine aB ?_
 refine aP ⟨k + 1, (.cons rfl (.cons rfl (.cons rfl (.cons rfl (.cons rfl (.nil _)))))), ?_, ?_⟩
 · skip
   exact ⟨by omega, (by
     rw [hi, dx, kH hx]
     have hB : hZ x 0 (n - 1) = true := by first | assumption | (rw [eD]; omega)
     first | rw [kI ‹_›, tC hB] | rw [eH ‹_› hy, tD hB (by omega)]), hs, X⟩
 · first | omega | (dsimp only; omega)
 refine aB ?_
 refine aQ ?_
 refine aL rfl ?_
 refine dC ?_
 refine dB ?_
 refine dB ?_
 refine eA ?_
 refine aP ?_
 refine aE ?_
 refine aA rfl (aD rfl ?_)
 refine aB ?_
 refine aV ?_
 refine aK rfl rfl ?_
 · skip
   refine ⟨congrArg Value.bool ?_, X⟩
   first
   | (rw [fQ, hi, bJ hk, mM])
   | (rw [fQ, hi, dx, gG (by assumption)])
   | (rw [fQ, hi, dx, gG (by simp [hZ]; omega)])
   | (rw [fQ, hi, dx, eH ‹_› hy, lI (by omega)])
theorem aFz (A : Option Addr) (B c : Nat) (xs : List Int) (n : Int) (w : World) (hs : Sl B w A (xs.flatMap eI)) (hl : xs.length ≤ 1048576) :
   Calls Tryz.prog 99 #[.slice A xs.length c, .int .i64 n] w (fD fun v w' => v = .bool (tQ xs n) ∧ Ext w w') := by
 have Bhs := hs.1
 have X := Q7r w
 refine bI (args := [.slice A xs.length c, .int .i64 n]) Tryz.func99 Tryz.ntmps99 rfl rfl ?_
 refine aE ?_
 refine aA rfl (aD rfl ?_)
 refine aB ?_
 refine aQ ?_
 refine aE ?_
 refine aA rfl (aD rfl ?_)
 refine aB ?_
 refine aW ?_
 refine dD (G := Nat) (fun k => [(0, .slice A xs.length c), (1, .int .i64 n), (5, .int .i64 (k : Nat))]) (fun k wr => k ≤ xs.length ∧ tQ xs n = tQ (xs.drop k) n ∧ Sl B wr A (xs.flatMap eI) ∧ Ext w wr) (fun k => xs.length - k) 0 (.cons rfl (.cons rfl (.cons rfl (.nil _)))) ?_ ?_
 · exact ⟨by omega, rfl, hs, X⟩
 clear hs
 clear X
 rintro k wr ⟨hk0, hi, hs, X⟩
 refine aQ ?_
 refine aE ?_
 refine aA rfl (aC rfl ?_)
 refine aA rfl (aC rfl ?_)
 refine aA rfl (cQ Tryz.underlying30 rfl ?_)
 refine aA rfl (cH rfl rfl (fun hk => ?_) (fun hk => ?_))
 obtain ⟨x, hx, dx⟩ := dM hk
 refine aB ?_
 refine aR rfl ?_
 refine aU ?_
 refine aP ?_
 refine aQ ?_
 refine aW ?_
 refine aE ?_
 refine aA rfl (aC rfl ?_)
 refine aA rfl (aC rfl ?_)
 refine aA rfl (aT hs bL rfl dA rfl rfl rfl hx rfl ?_)
 refine aA rfl (cX hs bL hx cY rfl rfl rfl ?_)
 refine aA rfl (aC rfl ?_)
 refine aA rfl (dK rfl rfl (fun h1 => ?_) (fun h1 => ?_))
 refine aB ?_
 refine aR rfl ?_
 refine aE ?_
 refine aA rfl (aD rfl ?_)
 refine aB ?_
 refine aV ?_
 refine dN ?_
 refine bU ?_
 refine bU ?_
 refine dN ?_
 refine bU ?_
 refine aK rfl rfl ?_
 · skip
   refine ⟨congrArg Value.bool ?_, X⟩
   first | (rw [hi, bJ hk]; rfl) | (rw [hi, dx]; simp [tQ, *])
 refine aB ?_
 refine aL rfl ?_
 refine aU ?_
 refine dJ ?_
 refine aP ?_
 refine aM ?_
 refine aA rfl (aC rfl ?_)
 refine aA rfl (aZ rfl rfl (dR (by omega)) ?_)
 refine aA rfl (aD rfl ?_)
 refine aB ?_
 refine aP ⟨k + 1, (.cons rfl (.cons rfl (.cons rfl (.nil _)))), ?_, ?_⟩
 · exact ⟨by omega, (by rw [hi, dx]; simp [tQ, *]), hs, X⟩
 · first | omega | (dsimp only; omega)
 refine aB ?_
 refine aL rfl ?_
 refine dC ?_
 refine dB ?_
 refine dB ?_
 refine eA ?_
 refine aP ?_
 refine aE ?_
 refine aA rfl (aD rfl ?_)
 refine aB ?_
 refine aV ?_
 refine aK rfl rfl ?_
 · skip
   refine ⟨congrArg Value.bool ?_, X⟩
   first | (rw [hi, bJ hk]; rfl) | (rw [hi, dx]; simp [tQ, *])
theorem aHb (A : Option Addr) (B c : Nat) (xs : List Int) (n : Int) (w : World) (hs : Sl B w A (xs.flatMap eI)) (hl : xs.length ≤ 1048576) :
   Calls Tryz.prog 167 #[.slice A xs.length c, .int .i64 n] w (fD fun v w' => v = .int .i64 (aAx n 0 xs) ∧ Ext w w') := by
 have Bhs := hs.1
 have X := Q7r w
 refine bI (args := [.slice A xs.length c, .int .i64 n]) Tryz.func167 Tryz.ntmps167 rfl rfl ?_
 refine aE ?_
 refine aA rfl (aD rfl ?_)
 refine aB ?_
 refine aQ ?_
 refine aE ?_
 refine aA rfl (aC rfl ?_)
 refine aA rfl (cQ Tryz.underlying30 rfl ?_)
 refine aA rfl (aC rfl ?_)
 refine aB ?_
 refine aW ?_
 refine dD (G := Nat) (fun k => [(0, .slice A xs.length c), (1, .int .i64 n), (7, .int .i64 (xs.length : Nat)), (8, .int .i64 (k : Nat))]) (fun k wr => k ≤ xs.length ∧ aAx n 0 xs = aAx n k (xs.drop k) ∧ Sl B wr A (xs.flatMap eI) ∧ Ext w wr) (fun k => xs.length - k) 0 (.cons rfl (.cons rfl (.cons rfl (.cons rfl (.nil _))))) ?_ ?_
 · exact ⟨by omega, rfl, hs, X⟩
 clear hs
 clear X
 rintro k wr ⟨hk0, hi, hs, X⟩
 refine aE ?_
 refine aA rfl (cH rfl rfl (fun hk => ?_) (fun hk => ?_))
 obtain ⟨x, hx, dx⟩ := dM hk
 refine aB ?_
 refine aQ ?_
 refine aR rfl ?_
 refine aU ?_
 refine aP ?_
 refine aQ ?_
 refine aW ?_
 refine aE ?_
 refine aA rfl (aC rfl ?_)
 refine aA rfl (aD rfl ?_)
 refine aB ?_
 refine aE ?_
 refine aA rfl (aC rfl ?_)
 refine aA rfl (aC rfl ?_)
 refine aA rfl (aC rfl ?_)
 refine aA rfl (aT hs bL rfl dA rfl rfl rfl hx rfl ?_)
 refine aA rfl (cX hs bL hx cY rfl rfl rfl ?_)
 refine aA rfl (dK rfl rfl (fun h1 => ?_) (fun h1 => ?_))
 refine aB ?_
 refine aR rfl ?_
 refine aE ?_
 refine aA rfl (aC rfl ?_)
 refine aA rfl (aD rfl ?_)
 refine aB ?_
 refine aV ?_
 refine dN ?_
 refine bU ?_
 refine bU ?_
 refine dN ?_
 refine bU ?_
 refine aK rfl rfl ?_
 · skip
   refine ⟨congrArg (Value.int .i64) ?_, X⟩
   first | (rw [hi, bJ hk]; rfl) | (rw [hi, dx, aAx, if_pos (by omega)])
 refine aB ?_
 refine aL rfl ?_
 refine aU ?_
 refine dJ ?_
 refine aP ?_
 refine aM ?_
 refine aA rfl (aZ rfl rfl (dR (by omega)) ?_)
 refine aA rfl (aC rfl ?_)
 refine aB ?_
 refine aP ⟨k + 1, (.cons rfl (.cons rfl (.cons rfl (.cons rfl (.nil _))))), ?_, ?_⟩
 · exact ⟨by omega, (by rw [hi, dx, aAx, if_neg (by omega)]; rfl), hs, X⟩
 · first | omega | (dsimp only; omega)
 refine aB ?_
 refine aQ ?_
 refine aL rfl ?_
 refine dC ?_
 refine dB ?_
 refine dB ?_
 refine eA ?_
 refine aP ?_
 refine aE ?_
 refine aA rfl (aD rfl ?_)
 refine aB ?_
 refine aV ?_
 refine aK rfl rfl ?_
 · skip
   refine ⟨congrArg (Value.int .i64) ?_, X⟩
   first | (rw [hi, bJ hk]; rfl) | (rw [hi, dx, aAx, if_pos (by omega)])
theorem yL (A : Option Addr) (B c : Nat) (xs : List Int) (n : Int) (w : World) (hs : Sl B w A (xs.flatMap eI)) (hl : xs.length ≤ 1048576) :
   Calls Tryz.prog 83 #[.slice A xs.length c, .int .i64 n] w (fD fun v w' => v = .bool (tQ xs n) ∧ Ext w w') := by
 have Bhs := hs.1
 have X := Q7r w
 refine bI (args := [.slice A xs.length c, .int .i64 n]) Tryz.func83 Tryz.ntmps83 rfl rfl ?_
 refine aE ?_
 refine aA rfl (aD rfl ?_)
 refine aB ?_
 refine aE ?_
 refine aA rfl (aC rfl ?_)
 refine aA rfl (aC rfl ?_)
 refine aA rfl (aS aI2 rfl (aO (aHb _ _ _ _ _ _ hs hl) ?_))
 rintro _ w2 ⟨rfl, x1⟩
 replace hs := hs.ext x1
 replace X := Q7x X x1
 refine aA rfl (uJ rfl rfl ?_)
 refine aA rfl (aD rfl ?_)
 refine aB ?_
 refine aV ?_
 refine aK rfl rfl ?_
 exact ⟨congrArg Value.bool (aCI n xs 0 (by omega)), X⟩
theorem aB1 (A : Option Addr) (B c : Nat) (xs : List Int) (lo hi0 : Int) (w : World) (hs : Sl B w A (xs.flatMap eI)) (hl : xs.length ≤ 1048576) :
   Calls Tryz.prog 159 #[.slice A xs.length c, .int .i64 lo, .int .i64 hi0] w (fD fun v w' => v = .bool (xs.all fun x => hZ x lo hi0) ∧ Ext w w') := by
 have Bhs := hs.1
 have X := Q7r w
 refine bI (args := [.slice A xs.length c, .int .i64 lo, .int .i64 hi0]) Tryz.func159 Tryz.ntmps159 rfl rfl ?_
 refine aE ?_
 refine aA rfl (aD rfl ?_)
 refine aB ?_
 refine aQ ?_
 refine aE ?_
 refine aA rfl (aC rfl ?_)
 refine aA rfl (cQ Tryz.underlying30 rfl ?_)
 refine aA rfl (aC rfl ?_)
 refine aB ?_
 refine aW ?_
 refine dD (G := Nat) (fun k => [(1, .int .i64 lo), (2, .int .i64 hi0), (9, .slice A xs.length c), (10, .int .i64 (xs.length : Nat)), (11, .int .i64 (k : Nat))]) (fun k wr => k ≤ xs.length ∧ (xs.all fun x => hZ x lo hi0) = ((xs.drop k).all fun x => hZ x lo hi0) ∧ Sl B wr A (xs.flatMap eI) ∧ Ext w wr) (fun k => xs.length - k) 0 (.cons rfl (.cons rfl (.cons rfl (.cons rfl (.cons rfl (.nil _)))))) ?_ ?_
 · exact ⟨by omega, rfl, hs, X⟩
 clear hs
 clear X
 rintro k wr ⟨hk0, hi, hs, X⟩
 refine aE ?_
 refine aA rfl (cH rfl rfl (fun hk => ?_) (fun hk => ?_))
 obtain ⟨x, hx, dx⟩ := dM hk
 refine aB ?_
 refine aQ ?_
 refine aR rfl ?_
 refine aU ?_
 refine aP ?_
 refine aQ ?_
 refine aW ?_
 refine aE ?_
 refine aA rfl (aT hs bL rfl dA rfl rfl rfl hx rfl ?_)
 refine aA rfl (cX hs bL hx cY rfl rfl rfl ?_)
 refine aA rfl (aD rfl ?_)
 refine aB ?_
 refine aE ?_
 refine aA rfl (aC rfl ?_)
 refine aA rfl (aC rfl ?_)
 refine aA rfl (cH rfl rfl (fun h1 => ?_) (fun h1 => ?_))
 refine aA rfl (aC rfl ?_)
 refine aG rfl rfl rfl rfl ?_
 refine aG rfl rfl rfl rfl ?_
 refine aG rfl rfl rfl rfl ?_
 refine aA rfl (aJ rfl rfl ?_)
 refine aB ?_
 refine aR rfl ?_
 refine aE ?_
 refine aA rfl (aD rfl ?_)
 refine aB ?_
 refine aV ?_
 refine dN ?_
 refine bU ?_
 refine bU ?_
 refine dN ?_
 refine bU ?_
 refine aK rfl rfl ?_
 · skip
   refine ⟨congrArg Value.bool ?_, X⟩
   first | (rw [hi, bJ hk]; rfl) | (rw [hi, dx, List.all_cons, hZ, decide_eq_false (by omega)]; rfl) | (rw [hi, dx, List.all_cons, hZ, decide_eq_true (by omega), decide_eq_false (by omega)]; rfl)
 refine aA rfl (aC rfl ?_)
 refine aH rfl rfl rfl (aC rfl ?_)
 refine aH rfl rfl rfl (aC rfl ?_)
 refine aH rfl rfl rfl (fX rfl rfl (fun h2 => ?_) (fun h2 => ?_))
 refine aA rfl (aJ rfl rfl ?_)
 refine aB ?_
 refine aR rfl ?_
 refine aE ?_
 refine aA rfl (aD rfl ?_)
 refine aB ?_
 refine aV ?_
 refine dN ?_
 refine bU ?_
 refine bU ?_
 refine dN ?_
 refine bU ?_
 refine aK rfl rfl ?_
 · skip
   refine ⟨congrArg Value.bool ?_, X⟩
   first | (rw [hi, bJ hk]; rfl) | (rw [hi, dx, List.all_cons, hZ, decide_eq_false (by omega)]; rfl) | (rw [hi, dx, List.all_cons, hZ, decide_eq_true (by omega), decide_eq_false (by omega)]; rfl)
 refine aA rfl (aJ rfl rfl ?_)
 refine aB ?_
 refine aL rfl ?_
 refine aU ?_
 refine dJ ?_
 refine aP ?_
 refine aM ?_
 refine aA rfl (aZ rfl rfl (dR (by omega)) ?_)
 refine aA rfl (aC rfl ?_)
 refine aB ?_
 refine aP ⟨k + 1, (.cons rfl (.cons rfl (.cons rfl (.cons rfl (.cons rfl (.nil _)))))), ?_, ?_⟩
 · exact ⟨by omega, (by rw [hi, dx, List.all_cons, hZ, decide_eq_true (by omega), decide_eq_true (by omega)]; rfl), hs, X⟩
 · first | omega | (dsimp only; omega)
 refine aB ?_
 refine aQ ?_
 refine aL rfl ?_
 refine dC ?_
 refine dB ?_
 refine dB ?_
 refine eA ?_
 refine aP ?_
 refine aE ?_
 refine aA rfl (aD rfl ?_)
 refine aB ?_
 refine aV ?_
 refine aK rfl rfl ?_
 · skip
   refine ⟨congrArg Value.bool ?_, X⟩
   first | (rw [hi, bJ hk]; rfl) | (rw [hi, dx, List.all_cons, hZ, decide_eq_false (by omega)]; rfl) | (rw [hi, dx, List.all_cons, hZ, decide_eq_true (by omega), decide_eq_false (by omega)]; rfl)
end Go.Proofs.YtdoibplhbdkapaaGreatDoor
