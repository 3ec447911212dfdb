/- Parts. No condition. -/
import Derived.Test.YtdoibplhbdkapaaGreatDoorDOP22
import Derived.Test.YtdoibplhbdkapaaGreatDoorDOP11
import Derived.Test.YtdoibplhbdkapaaGreatDoorDOP8
import Derived.Test.YtdoibplhbdkapaaGreatDoorDOP7
namespace Go.Proofs.YtdoibplhbdkapaaGreatDoor
open Go.RowKit
set_option linter.unusedVariables false
set_option linter.unusedSimpArgs false
set_option maxRecDepth 20000
theorem wE {p0 p1 p2 p3 p4 : Int} (hd : fP (qA p0 p1 p2 p3 p4) = true) (b0 : 0 ≤ p0 ∧ p0 ≤ 255) (b1 : 0 ≤ p1 ∧ p1 ≤ 255) (b2 : 0 ≤ p2 ∧ p2 ≤ 255) (b3 : 0 ≤ p3 ∧ p3 ≤ 255) (b4 : 0 ≤ p4 ∧ p4 ≤ 255) :
   pF p0 p1 p2 p3 p4 = decide (mL (qA p0 p1 p2 p3 p4) = [p0, p1, p2, p3, p4]) := by
 rw [pF, hd, Bool.true_and, Bool.eq_iff_iff, decide_eq_true_eq, decide_eq_true_eq]
 simp only [mL, qA, List.cons.injEq, and_true, decide_eq_true_eq]
 refine ⟨fun h => ⟨trivial, by omega, by omega, by omega, by split <;> omega⟩, fun h => ?_⟩
 have h5 := h.2.2.2.2
 split at h5 <;> omega
theorem aD9 (A : Option Addr) (B c : Nat) (p0 p1 p2 p3 p4 : Int) (w : World) (hs : Sl B w A ([p0, p1, p2, p3, p4].flatMap eI)) (b0 : 0 ≤ p0 ∧ p0 ≤ 255) (b1 : 0 ≤ p1 ∧ p1 ≤ 255) (b2 : 0 ≤ p2 ∧ p2 ≤ 255) (b3 : 0 ≤ p3 ∧ p3 ≤ 255) (b4 : 0 ≤ p4 ∧ p4 ≤ 255) :
   Calls Tryz.prog 164 #[.slice A 5 c] w (fF fun v w' => v = .tuple #[.agg (qA p0 p1 p2 p3 p4).cells.toArray, .bool (pF p0 p1 p2 p3 p4)] ∧ Ext w w') := by
 have Bhs := hs.1
 have X := Q7r w
 refine bJ (args := [.slice A 5 c]) Tryz.func164 Tryz.ntmps164 rfl rfl (aF (aA rfl (dT fU ?_)))
 intro g0 w2 eg0 b0 x1 zg0
 have lg0 : w.heap.size ≤ g0 := Q7l X.size (Q7e eg0.symm)
 have pg0hs := Q7l hs.1 (Q7e eg0.symm)
 replace hs := hs.ext x1
 replace X := Q7x X x1; clear x1
 refine aA rfl (aE rfl (aB ?_))
 have Rhs := hs.1
 refine eK [false, false, false, false, false, false, false, false, false, false, false, false, false, false, false, false, false, false, false, false, false, false, false, false, true] mixed (by kernel_rfl) (cO rfl (fun wq sq => aC rfl ⟨rfl, Q7r _⟩) (cO rfl (fun wq sq => aU (hs.ext sq) bI rfl cQ rfl rfl rfl (show [p0, p1, p2, p3, p4][0]? = some p0 from rfl) rfl ⟨rfl, Q7r _⟩) (cO rfl (fun wq sq => bS (hs.ext sq) bI (show [p0, p1, p2, p3, p4][0]? = some p0 from rfl) dB rfl rfl rfl ⟨rfl, Q7r _⟩) (cO rfl (fun wq sq => aC rfl ⟨rfl, Q7r _⟩) (cO rfl (fun wq sq => aU (hs.ext sq) bI rfl cQ rfl rfl rfl (show [p0, p1, p2, p3, p4][1]? = some p1 from rfl) rfl ⟨rfl, Q7r _⟩) ?_)))))
 refine cO rfl (fun wq sq => bS (hs.ext sq) bI (show [p0, p1, p2, p3, p4][1]? = some p1 from rfl) dB rfl rfl rfl ⟨rfl, Q7r _⟩) (cO rfl (fun wq sq => gK rfl rfl (by omega) (vK (by omega)) ⟨rfl, Q7r _⟩) (cO rfl (fun wq sq => aC rfl ⟨rfl, Q7r _⟩) (cO rfl (fun wq sq => aU (hs.ext sq) bI rfl cQ rfl rfl rfl (show [p0, p1, p2, p3, p4][1]? = some p1 from rfl) rfl ⟨rfl, Q7r _⟩) (cO rfl (fun wq sq => bS (hs.ext sq) bI (show [p0, p1, p2, p3, p4][1]? = some p1 from rfl) dB rfl rfl rfl ⟨rfl, Q7r _⟩) (cO rfl (fun wq sq => fK rfl rfl (by omega) (qZ (by omega)) ⟨rfl, Q7r _⟩) (cO rfl (fun wq sq => aC rfl ⟨rfl, Q7r _⟩) ?_))))))
 refine cO rfl (fun wq sq => aU (hs.ext sq) bI rfl cQ rfl rfl rfl (show [p0, p1, p2, p3, p4][2]? = some p2 from rfl) rfl ⟨rfl, Q7r _⟩) (cO rfl (fun wq sq => bS (hs.ext sq) bI (show [p0, p1, p2, p3, p4][2]? = some p2 from rfl) dB rfl rfl rfl ⟨rfl, Q7r _⟩) (cO rfl (fun wq sq => fO rfl rfl ((dM (by omega)).trans (Int.mul_comm _ _)) ⟨rfl, Q7r _⟩) (cO rfl (fun wq sq => aC rfl ⟨rfl, Q7r _⟩) (cO rfl (fun wq sq => aU (hs.ext sq) bI rfl cQ rfl rfl rfl (show [p0, p1, p2, p3, p4][3]? = some p3 from rfl) rfl ⟨rfl, Q7r _⟩) (cO rfl (fun wq sq => bS (hs.ext sq) bI (show [p0, p1, p2, p3, p4][3]? = some p3 from rfl) dB rfl rfl rfl ⟨rfl, Q7r _⟩) ?_)))))
 refine cO rfl (fun wq sq => aY rfl rfl (dM (by omega)) ⟨rfl, Q7r _⟩) (cO rfl (fun wq sq => aC rfl ⟨rfl, Q7r _⟩) (cO rfl (fun wq sq => aU (hs.ext sq) bI rfl cQ rfl rfl rfl (show [p0, p1, p2, p3, p4][4]? = some p4 from rfl) rfl ⟨rfl, Q7r _⟩) (cO rfl (fun wq sq => bS (hs.ext sq) bI (show [p0, p1, p2, p3, p4][4]? = some p4 from rfl) dB rfl rfl rfl ⟨rfl, Q7r _⟩) (cO rfl (fun wq sq => jJ rfl rfl ⟨rfl, Q7r _⟩) (cO rfl (fun wq sq => dA aCt fU rfl rfl ⟨rfl, Q7r _⟩) (zL (fun gD : Nat => Value.pointer (some ⟨gD, 0, none⟩)) (fun gD wz => Blk wz gD 67 (⟨0, 0, 0, 0, false⟩ : Desc).cells ∧ w.heap.size ≤ gD ∧ w2.heap.size ≤ gD ∧ g0 < gD) 0 rfl ⟨zX, fun _ _ _ h k => ⟨h.1.ext k, h.2⟩, fun wq sq => dT fU (fun g w' hg hb hx hz => ⟨g, rfl, ⟨hb, Q7l (Q7l X.size (sq).size) (Q7e hg.symm), Q7l (sq).size (Q7e hg.symm), Nat.lt_of_lt_of_eq (b0.ext sq).lt hg.symm⟩, hx⟩)⟩ ?_))))))
 intro gD
 refine dX (fun w3 sq => ?_)
 have xq := sq.1
 have bD := sq.2.1
 have lgD := sq.2.2.1
 have rgD := sq.2.2.2.1
 have ngDg0 := sq.2.2.2.2
 replace hs := hs.ext xq
 replace b0 := b0.ext xq
 replace X := Q7x X xq; clear xq sq
 refine aA rfl (bK bD fU rfl rfl rfl rfl rfl rfl ?_)
 intro w5 bE hg4 z6
 replace hs := hs.grown hg4 (by intro g hg; injection hg; omega)
 replace b0 := b0.grown hg4 (by intro h; injection h; omega)
 replace X := X.grown hg4 X.size (by intro g hg; injection hg; omega)
 clear hg4 bD
 have bE : Blk _ gD 67 (qA p0 p1 p2 p3 p4).cells := bE
 refine aB (tT (fun wz => Sl B wz A ([p0, p1, p2, p3, p4].flatMap eI) ∧ Blk wz gD 67 (qA p0 p1 p2 p3 p4).cells) mixed ?_)
 obtain ⟨w7, ew7⟩ : ∃ wy, wy = World.drew w5 := ⟨_, rfl⟩
 rw [← ew7]
 have xd : Ext w5 w7 := ew7 ▸ Ext.drew w5
 replace hs := hs.ext xd
 replace b0 := b0.ext xd
 replace bE := bE.ext xd
 replace X := Q7x X xd; clear xd ew7
 refine dH 0 rfl (by kernel_rfl) rfl (by kernel_rfl) (listed' := #[true, false, false, false, false, false, false, false, false, false, false]) rfl (fun wq sq => dE sq.2 fU rfl rfl ⟨rfl, rfl⟩) (dH 1 rfl (by kernel_rfl) rfl (by kernel_rfl) (listed' := #[true, true, false, false, false, false, false, false, false, false, false]) rfl (fun wq sq => dE sq.2 fU rfl rfl ⟨rfl, rfl⟩) (hU 2 rfl rfl (by kernel_rfl) (listed' := #[true, true, true, false, false, false, false, false, false, false, false]) rfl ⟨hs, bE⟩ (cV aHD rfl (aBL _ _) (fun w9 hd x8 => ?_) (fun w9 hd x8 => ?_))))
 replace hs := hs.ext x8
 replace b0 := b0.ext x8
 replace bE := bE.ext x8
 replace X := Q7x X x8; clear x8
 refine dH 3 rfl (by kernel_rfl) rfl (by kernel_rfl) (listed' := #[true, true, true, true, false, false, false, false, false, false, false]) rfl (fun wq sq => aC rfl ⟨rfl, rfl⟩) (gW 4 rfl (by kernel_rfl) rfl (by kernel_rfl) (listed' := #[true, true, true, true, true, false, false, false, false, false, false]) rfl rfl rfl (fun wq sq => aC rfl ⟨rfl, rfl⟩) (gW 5 rfl (by kernel_rfl) rfl (by kernel_rfl) (listed' := #[true, true, true, true, true, true, false, false, false, false, false]) rfl rfl rfl (fun wq sq => aU sq.1 bI rfl cQ rfl rfl rfl (show [p0, p1, p2, p3, p4][4]? = some p4 from rfl) rfl ⟨rfl, rfl⟩) ?_))
 refine gW 6 rfl (by kernel_rfl) rfl (by kernel_rfl) (listed' := #[true, true, true, true, true, true, true, false, false, false, false]) rfl rfl rfl (fun wq sq => bS sq.1 bI (show [p0, p1, p2, p3, p4][4]? = some p4 from rfl) dB rfl rfl rfl ⟨rfl, rfl⟩) (gW 7 rfl (by kernel_rfl) rfl (by kernel_rfl) (listed' := #[true, true, true, true, true, true, true, true, false, false, false]) rfl rfl rfl (fun wq sq => qW rfl rfl ⟨rfl, rfl⟩) (dH 8 rfl (by kernel_rfl) rfl (by kernel_rfl) (listed' := #[true, true, true, true, true, true, true, true, true, false, false]) rfl (fun wq sq => aK rfl rfl ⟨rfl, rfl⟩) (hU 9 rfl rfl (by kernel_rfl) (listed' := #[true, true, true, true, true, true, true, true, true, true, false]) rfl ⟨hs, bE⟩ (bK b0 fU rfl rfl rfl rfl rfl rfl ?_))))
 intro w11 b9 hg10 z12
 replace hs := hs.grown hg10 (by intro g hg; injection hg; omega)
 replace bE := bE.grown hg10 (by intro h; injection h; omega)
 replace X := X.grown hg10 X.size (by intro g hg; injection hg; omega)
 clear hg10 b0
 refine dH 10 rfl (by kernel_rfl) rfl (by kernel_rfl) (listed' := #[true, true, true, true, true, true, true, true, true, true, true]) rfl (fun wq sq => aE rfl ⟨rfl, rfl⟩) (jE rfl ⟨hs, bE⟩ (fun aj fj => ⟨_, fj, aW (eJ rfl rfl b9 fU rfl rfl ?_)⟩))
 · skip
   first
   | (rw [pF, hd, Bool.true_and]; exact ⟨rfl, X⟩)
   | (rw [pF, hd, Bool.false_and]; exact ⟨rfl, X⟩)
 replace hs := hs.ext x8
 replace b0 := b0.ext x8
 replace bE := bE.ext x8
 replace X := Q7x X x8; clear x8
 refine dH 3 rfl (by kernel_rfl) rfl (by kernel_rfl) (listed' := #[true, true, true, true, false, false, false, false, false, false, false]) rfl (fun wq sq => aC rfl ⟨rfl, rfl⟩) (fQ 4 rfl (by kernel_rfl) rfl (by kernel_rfl) (listed' := #[true, true, true, true, true, false, false, false, false, false, false]) rfl rfl rfl rfl (fQ 5 rfl (by kernel_rfl) rfl (by kernel_rfl) (listed' := #[true, true, true, true, true, true, false, false, false, false, false]) rfl rfl rfl rfl (fQ 6 rfl (by kernel_rfl) rfl (by kernel_rfl) (listed' := #[true, true, true, true, true, true, true, false, false, false, false]) rfl rfl rfl rfl ?_)))
 refine fQ 7 rfl (by kernel_rfl) rfl (by kernel_rfl) (listed' := #[true, true, true, true, true, true, true, true, false, false, false]) rfl rfl rfl rfl (dH 8 rfl (by kernel_rfl) rfl (by kernel_rfl) (listed' := #[true, true, true, true, true, true, true, true, true, false, false]) rfl (fun wq sq => aK rfl rfl ⟨rfl, rfl⟩) (hU 9 rfl rfl (by kernel_rfl) (listed' := #[true, true, true, true, true, true, true, true, true, true, false]) rfl ⟨hs, bE⟩ (bK b0 fU rfl rfl rfl rfl rfl rfl ?_)))
 intro w14 b9 hg13 z15
 replace hs := hs.grown hg13 (by intro g hg; injection hg; omega)
 replace bE := bE.grown hg13 (by intro h; injection h; omega)
 replace X := X.grown hg13 X.size (by intro g hg; injection hg; omega)
 clear hg13 b0
 refine dH 10 rfl (by kernel_rfl) rfl (by kernel_rfl) (listed' := #[true, true, true, true, true, true, true, true, true, true, true]) rfl (fun wq sq => aE rfl ⟨rfl, rfl⟩) (jE rfl ⟨hs, bE⟩ (fun aj fj => ⟨_, fj, aW (eJ rfl rfl b9 fU rfl rfl ?_)⟩))
 · skip
   first
   | (rw [pF, hd, Bool.true_and]; exact ⟨rfl, X⟩)
   | (rw [pF, hd, Bool.false_and]; exact ⟨rfl, X⟩)
theorem aFQ (A A' : Option Addr) (B B' c c' : Nat) (xs ys : List Int) (w : World) (hs : Sl B w A (xs.flatMap eI)) (ht : Sl B' w A' (ys.flatMap eI)) (hl : xs.length ≤ 1048576) (hl2 : ys.length ≤ 1048576) :
   Calls Tryz.prog 240 #[.slice A xs.length c, .slice A' ys.length c'] w (fF fun v w' => v = .bool (decide (xs = ys)) ∧ Ext w w') := by
 have Bhs := hs.1
 have Bht := ht.1
 have X := Q7r w
 refine bJ (args := [.slice A xs.length c, .slice A' ys.length c']) Tryz.func240 Tryz.ntmps240 rfl rfl (aF (aA rfl (aE rfl (aB (aR (aF (aA rfl (aC rfl (aA rfl (bO Tryz.underlying30 rfl (aA rfl (aC rfl (aA rfl (bO Tryz.underlying30 rfl (aA rfl (gH rfl rfl (fun hn => ?_) (fun hn => ?_)))))))))))))))))
 refine aB (aQ rfl (aF (aA rfl (aE rfl (aB (aW (bN (aL rfl rfl ?_))))))))
 · skip
   refine ⟨congrArg Value.bool ?_, X⟩
   first
   | (rw [decide_eq_false (fun e => hn (congrArg (fun l : List Int => (l.length : Int)) e))]; done)
   | (rw [hi, dx, dy, Bool.eq_iff_iff]; simp; exact fun e => absurd e he)
   | (rw [hi, bL hk, List.drop_eq_nil_of_le (by omega)]; rfl)
 refine aB (aM rfl (aV (aS (aR (aF (aA rfl (aE rfl (aB (aX ?_)))))))))
 refine dG (G := Nat) (fun k => [(0, .slice A xs.length c), (1, .slice A' ys.length c'), (5, .int .i64 (k : Nat))]) (fun k wr => k ≤ xs.length ∧ decide (xs = ys) = decide (xs.drop k = ys.drop k) ∧ Sl B wr A (xs.flatMap eI) ∧ Sl B' wr A' (ys.flatMap eI) ∧ Ext w wr) (fun k => xs.length - k) 0 (.cons rfl (.cons rfl (.cons rfl (.nil _)))) ?_ ?_
 · exact ⟨by omega, rfl, hs, ht, X⟩
 clear hs ht
 clear X
 rintro k wr ⟨hk0, hi, hs, ht, X⟩
 refine aR (aF (aA rfl (aC rfl (aA rfl (aC rfl (aA rfl (bO Tryz.underlying30 rfl (aA rfl (cU rfl rfl (fun hk => ?_) (fun hk => ?_))))))))))
 obtain ⟨x, hx, dx⟩ := dR hk
 obtain ⟨y, hy, dy⟩ := eL (xs := ys) (k := k) (by omega)
 refine aB (aQ rfl (aV (aS (aR (aX (eK [false, false, false, false, false, false, false, false, false] mixed (by kernel_rfl) (cO rfl (fun wq sq => aC rfl ⟨rfl, Q7r _⟩) (cO rfl (fun wq sq => aC rfl ⟨rfl, Q7r _⟩) (cO rfl (fun wq sq => aU (hs.ext sq) bI rfl cQ rfl rfl rfl hx rfl ⟨rfl, Q7r _⟩) (cO rfl (fun wq sq => bS (hs.ext sq) bI hx dB rfl rfl rfl ⟨rfl, Q7r _⟩) (cO rfl (fun wq sq => aC rfl ⟨rfl, Q7r _⟩) (cO rfl (fun wq sq => aC rfl ⟨rfl, Q7r _⟩) (cO rfl (fun wq sq => aU (ht.ext sq) bI rfl cQ rfl rfl rfl hy rfl ⟨rfl, Q7r _⟩) (cO rfl (fun wq sq => bS (ht.ext sq) bI hy dB rfl rfl rfl ⟨rfl, Q7r _⟩) ?_))))))))))))))
 refine uZ rfl (fun wq sq => nE rfl rfl ⟨rfl, Q7r _⟩) (fun he => ?_) (fun he => ?_)
 refine dX (fun w1 sq => ?_)
 have xq := sq
 replace hs := hs.ext xq
 replace ht := ht.ext xq
 replace X := Q7x X xq; clear xq sq
 refine aB (aQ rfl (aF (aA rfl (aE rfl (aB (aW (dL (bN (bN (dL (bN (aL rfl rfl ?_))))))))))))
 · skip
   refine ⟨congrArg Value.bool ?_, X⟩
   first
   | (rw [decide_eq_false (fun e => hn (congrArg (fun l : List Int => (l.length : Int)) e))]; done)
   | (rw [hi, dx, dy, Bool.eq_iff_iff]; simp; exact fun e => absurd e he)
   | (rw [hi, bL hk, List.drop_eq_nil_of_le (by omega)]; rfl)
 refine dX (fun w2 sq => ?_)
 have xq := sq
 replace hs := hs.ext xq
 replace ht := ht.ext xq
 replace X := Q7x X xq; clear xq sq
 refine aB (aM rfl (aV (dO (aS (aN (aA rfl (aC rfl (aA rfl (aY rfl rfl (dM (by omega)) (aA rfl (aE rfl (aB (aS ⟨k + 1, (.cons rfl (.cons rfl (.cons rfl (.nil _)))), ?_, ?_⟩)))))))))))))
 · exact ⟨by omega, (by rw [hi, dx, dy, Classical.not_not.1 he, Bool.eq_iff_iff]; simp), hs, ht, X⟩
 · first | omega | (dsimp only; omega)
 refine aB (aM rfl (dD (dC (dC (eG (aS (aF (aA rfl (aE rfl (aB (aW (aL rfl rfl ?_))))))))))))
 · skip
   refine ⟨congrArg Value.bool ?_, X⟩
   first
   | (rw [decide_eq_false (fun e => hn (congrArg (fun l : List Int => (l.length : Int)) e))]; done)
   | (rw [hi, dx, dy, Bool.eq_iff_iff]; simp; exact fun e => absurd e he)
   | (rw [hi, bL hk, List.drop_eq_nil_of_le (by omega)]; rfl)
theorem aFR (A : Option Addr) (B c : Nat) (p0 p1 p2 p3 p4 : Int) (w : World) (hs : Sl B w A ([p0, p1, p2, p3, p4].flatMap eI)) (b0 : 0 ≤ p0 ∧ p0 ≤ 255) (b1 : 0 ≤ p1 ∧ p1 ≤ 255) (b2 : 0 ≤ p2 ∧ p2 ≤ 255) (b3 : 0 ≤ p3 ∧ p3 ≤ 255) (b4 : 0 ≤ p4 ∧ p4 ≤ 255) :
   Calls Tryz.prog 241 #[.slice A 5 c] w (fF fun v w' => v = .tuple #[.agg (qA p0 p1 p2 p3 p4).cells.toArray, .bool (pF p0 p1 p2 p3 p4)] ∧ Ext w w') := by
 have Bhs := hs.1
 have X := Q7r w
 refine bJ (args := [.slice A 5 c]) Tryz.func241 Tryz.ntmps241 rfl rfl (aF (aA rfl (dT fU ?_)))
 intro g0 w2 eg0 b0 x1 zg0
 have lg0 : w.heap.size ≤ g0 := Q7l X.size (Q7e eg0.symm)
 have pg0hs := Q7l hs.1 (Q7e eg0.symm)
 replace hs := hs.ext x1
 replace X := Q7x X x1; clear x1
 refine aA rfl (aE rfl (aB ?_))
 have Rhs := hs.1
 refine eK [false, false, false, false, false, false, false, false, false, false, false, false, false, false, false, false, false, false, false, false, false, false, false, false, true] mixed (by kernel_rfl) (cO rfl (fun wq sq => aC rfl ⟨rfl, Q7r _⟩) (cO rfl (fun wq sq => aU (hs.ext sq) bI rfl cQ rfl rfl rfl (show [p0, p1, p2, p3, p4][0]? = some p0 from rfl) rfl ⟨rfl, Q7r _⟩) (cO rfl (fun wq sq => bS (hs.ext sq) bI (show [p0, p1, p2, p3, p4][0]? = some p0 from rfl) dB rfl rfl rfl ⟨rfl, Q7r _⟩) (cO rfl (fun wq sq => aC rfl ⟨rfl, Q7r _⟩) (cO rfl (fun wq sq => aU (hs.ext sq) bI rfl cQ rfl rfl rfl (show [p0, p1, p2, p3, p4][1]? = some p1 from rfl) rfl ⟨rfl, Q7r _⟩) ?_)))))
 refine cO rfl (fun wq sq => bS (hs.ext sq) bI (show [p0, p1, p2, p3, p4][1]? = some p1 from rfl) dB rfl rfl rfl ⟨rfl, Q7r _⟩) (cO rfl (fun wq sq => gK rfl rfl (by omega) (vK (by omega)) ⟨rfl, Q7r _⟩) (cO rfl (fun wq sq => aC rfl ⟨rfl, Q7r _⟩) (cO rfl (fun wq sq => aU (hs.ext sq) bI rfl cQ rfl rfl rfl (show [p0, p1, p2, p3, p4][1]? = some p1 from rfl) rfl ⟨rfl, Q7r _⟩) (cO rfl (fun wq sq => bS (hs.ext sq) bI (show [p0, p1, p2, p3, p4][1]? = some p1 from rfl) dB rfl rfl rfl ⟨rfl, Q7r _⟩) (cO rfl (fun wq sq => fK rfl rfl (by omega) (qZ (by omega)) ⟨rfl, Q7r _⟩) (cO rfl (fun wq sq => aC rfl ⟨rfl, Q7r _⟩) ?_))))))
 refine cO rfl (fun wq sq => aU (hs.ext sq) bI rfl cQ rfl rfl rfl (show [p0, p1, p2, p3, p4][2]? = some p2 from rfl) rfl ⟨rfl, Q7r _⟩) (cO rfl (fun wq sq => bS (hs.ext sq) bI (show [p0, p1, p2, p3, p4][2]? = some p2 from rfl) dB rfl rfl rfl ⟨rfl, Q7r _⟩) (cO rfl (fun wq sq => fO rfl rfl (dM (by omega)) ⟨rfl, Q7r _⟩) (cO rfl (fun wq sq => aC rfl ⟨rfl, Q7r _⟩) (cO rfl (fun wq sq => aU (hs.ext sq) bI rfl cQ rfl rfl rfl (show [p0, p1, p2, p3, p4][3]? = some p3 from rfl) rfl ⟨rfl, Q7r _⟩) (cO rfl (fun wq sq => bS (hs.ext sq) bI (show [p0, p1, p2, p3, p4][3]? = some p3 from rfl) dB rfl rfl rfl ⟨rfl, Q7r _⟩) ?_)))))
 refine cO rfl (fun wq sq => aY rfl rfl (dM (by omega)) ⟨rfl, Q7r _⟩) (cO rfl (fun wq sq => aC rfl ⟨rfl, Q7r _⟩) (cO rfl (fun wq sq => aU (hs.ext sq) bI rfl cQ rfl rfl rfl (show [p0, p1, p2, p3, p4][4]? = some p4 from rfl) rfl ⟨rfl, Q7r _⟩) (cO rfl (fun wq sq => bS (hs.ext sq) bI (show [p0, p1, p2, p3, p4][4]? = some p4 from rfl) dB rfl rfl rfl ⟨rfl, Q7r _⟩) (cO rfl (fun wq sq => jJ rfl rfl ⟨rfl, Q7r _⟩) (cO rfl (fun wq sq => dA aCt fU rfl rfl ⟨rfl, Q7r _⟩) (zL (fun gD : Nat => Value.pointer (some ⟨gD, 0, none⟩)) (fun gD wz => Blk wz gD 67 (⟨0, 0, 0, 0, false⟩ : Desc).cells ∧ w.heap.size ≤ gD ∧ w2.heap.size ≤ gD ∧ g0 < gD) 0 rfl ⟨zX, fun _ _ _ h k => ⟨h.1.ext k, h.2⟩, fun wq sq => dT fU (fun g w' hg hb hx hz => ⟨g, rfl, ⟨hb, Q7l (Q7l X.size (sq).size) (Q7e hg.symm), Q7l (sq).size (Q7e hg.symm), Nat.lt_of_lt_of_eq (b0.ext sq).lt hg.symm⟩, hx⟩)⟩ ?_))))))
 intro gD
 refine dX (fun w3 sq => ?_)
 have xq := sq.1
 have bD := sq.2.1
 have lgD := sq.2.2.1
 have rgD := sq.2.2.2.1
 have ngDg0 := sq.2.2.2.2
 replace hs := hs.ext xq
 replace b0 := b0.ext xq
 replace X := Q7x X xq; clear xq sq
 refine aA rfl (bK bD fU rfl rfl rfl rfl rfl rfl ?_)
 intro w5 bE hg4 z6
 replace hs := hs.grown hg4 (by intro g hg; injection hg; omega)
 replace b0 := b0.grown hg4 (by intro h; injection h; omega)
 replace X := X.grown hg4 X.size (by intro g hg; injection hg; omega)
 clear hg4 bD
 have bE : Blk _ gD 67 (qA p0 p1 p2 p3 p4).cells := bE
 refine aB (tT (fun wz => Blk wz gD 67 (qA p0 p1 p2 p3 p4).cells) mixed ?_)
 obtain ⟨w7, ew7⟩ : ∃ wy, wy = World.drew w5 := ⟨_, rfl⟩
 rw [← ew7]
 have xd : Ext w5 w7 := ew7 ▸ Ext.drew w5
 replace hs := hs.ext xd
 replace b0 := b0.ext xd
 replace bE := bE.ext xd
 replace X := Q7x X xd; clear xd ew7
 refine dH 0 rfl (by kernel_rfl) rfl (by kernel_rfl) (listed' := #[true, false, false, false, false, false, false, false, false, false, false]) rfl (fun wq sq => dE sq fU rfl rfl ⟨rfl, rfl⟩) (dH 1 rfl (by kernel_rfl) rfl (by kernel_rfl) (listed' := #[true, true, false, false, false, false, false, false, false, false, false]) rfl (fun wq sq => dE sq fU rfl rfl ⟨rfl, rfl⟩) (hU 2 rfl rfl (by kernel_rfl) (listed' := #[true, true, true, false, false, false, false, false, false, false, false]) rfl bE (cV aHH rfl (aBK _ _) (fun w9 hd x8 => ?_) (fun w9 hd x8 => ?_))))
 replace hs := hs.ext x8
 replace b0 := b0.ext x8
 replace bE := bE.ext x8
 replace X := Q7x X x8; clear x8
 refine dH 3 rfl (by kernel_rfl) rfl (by kernel_rfl) (listed' := #[true, true, true, true, false, false, false, false, false, false, false]) rfl (fun wq sq => aC rfl ⟨rfl, rfl⟩) (gW 4 rfl (by kernel_rfl) rfl (by kernel_rfl) (listed' := #[true, true, true, true, true, false, false, false, false, false, false]) rfl rfl rfl (fun wq sq => dE sq fU rfl rfl ⟨rfl, rfl⟩) (gW 6 rfl (by kernel_rfl) rfl (by kernel_rfl) (listed' := #[true, true, true, true, true, false, true, false, false, false, false]) rfl rfl rfl (fun wq sq => aC rfl ⟨rfl, rfl⟩) (uY 5 rfl rfl (by kernel_rfl) (listed' := #[true, true, true, true, true, true, true, false, false, false, false]) rfl rfl rfl bE (aT aHC rfl (aP (aEG _ _ hd) ?_)))))
 rintro _ w11 ⟨AS, cS, rfl, oS, x10⟩
 replace oS := Own.low oS X.size
 replace hs := hs.ext x10
 replace b0 := b0.ext x10
 replace bE := bE.ext x10
 replace X := Q7x X x10
 refine uY 7 rfl rfl (by kernel_rfl) (listed' := #[true, true, true, true, true, true, true, true, false, false, false]) rfl rfl rfl bE (aT aEu rfl (aP (aFQ _ _ _ _ _ _ (mL (qA p0 p1 p2 p3 p4)) [p0, p1, p2, p3, p4] _ oS.sl hs (by simp [mL]) (by simp)) ?_))
 rintro _ w13 ⟨rfl, x12⟩
 replace hs := hs.ext x12
 replace b0 := b0.ext x12
 replace bE := bE.ext x12
 replace oS := oS.ext x12
 replace X := Q7x X x12
 refine dH 8 rfl (by kernel_rfl) rfl (by kernel_rfl) (listed' := #[true, true, true, true, true, true, true, true, true, false, false]) rfl (fun wq sq => aK rfl rfl ⟨rfl, rfl⟩) (hU 9 rfl rfl (by kernel_rfl) (listed' := #[true, true, true, true, true, true, true, true, true, true, false]) rfl bE (bK b0 fU rfl rfl rfl rfl rfl rfl ?_))
 intro w15 b9 hg14 z16
 replace hs := hs.grown hg14 (by intro g hg; injection hg; omega)
 replace bE := bE.grown hg14 (by intro h; injection h; omega)
 replace oS := oS.grownBlk hg14 (Own.neT oS b0 (by decide))
 replace X := X.grown hg14 X.size (by intro g hg; injection hg; omega)
 clear hg14 b0
 refine dH 10 rfl (by kernel_rfl) rfl (by kernel_rfl) (listed' := #[true, true, true, true, true, true, true, true, true, true, true]) rfl (fun wq sq => aE rfl ⟨rfl, rfl⟩) (jE rfl bE (fun aj fj => ⟨_, fj, aW (eJ rfl rfl b9 fU rfl rfl ?_)⟩))
 · skip
   first
   | (rw [wE hd b0 b1 b2 b3 b4]; exact ⟨rfl, X⟩)
   | (rw [pF, hd, Bool.false_and]; exact ⟨rfl, X⟩)
 replace hs := hs.ext x8
 replace b0 := b0.ext x8
 replace bE := bE.ext x8
 replace X := Q7x X x8; clear x8
 refine dH 3 rfl (by kernel_rfl) rfl (by kernel_rfl) (listed' := #[true, true, true, true, false, false, false, false, false, false, false]) rfl (fun wq sq => aC rfl ⟨rfl, rfl⟩) (fQ 4 rfl (by kernel_rfl) rfl (by kernel_rfl) (listed' := #[true, true, true, true, true, false, false, false, false, false, false]) rfl rfl rfl rfl (fQ 5 rfl (by kernel_rfl) rfl (by kernel_rfl) (listed' := #[true, true, true, true, true, true, false, false, false, false, false]) rfl rfl rfl rfl (fQ 6 rfl (by kernel_rfl) rfl (by kernel_rfl) (listed' := #[true, true, true, true, true, true, true, false, false, false, false]) rfl rfl rfl rfl ?_)))
 refine fQ 7 rfl (by kernel_rfl) rfl (by kernel_rfl) (listed' := #[true, true, true, true, true, true, true, true, false, false, false]) rfl rfl rfl rfl (dH 8 rfl (by kernel_rfl) rfl (by kernel_rfl) (listed' := #[true, true, true, true, true, true, true, true, true, false, false]) rfl (fun wq sq => aK rfl rfl ⟨rfl, rfl⟩) (hU 9 rfl rfl (by kernel_rfl) (listed' := #[true, true, true, true, true, true, true, true, true, true, false]) rfl bE (bK b0 fU rfl rfl rfl rfl rfl rfl ?_)))
 intro w18 b9 hg17 z19
 replace hs := hs.grown hg17 (by intro g hg; injection hg; omega)
 replace bE := bE.grown hg17 (by intro h; injection h; omega)
 replace X := X.grown hg17 X.size (by intro g hg; injection hg; omega)
 clear hg17 b0
 refine dH 10 rfl (by kernel_rfl) rfl (by kernel_rfl) (listed' := #[true, true, true, true, true, true, true, true, true, true, true]) rfl (fun wq sq => aE rfl ⟨rfl, rfl⟩) (jE rfl bE (fun aj fj => ⟨_, fj, aW (eJ rfl rfl b9 fU rfl rfl ?_)⟩))
 · skip
   first
   | (rw [wE hd b0 b1 b2 b3 b4]; exact ⟨rfl, X⟩)
   | (rw [pF, hd, Bool.false_and]; exact ⟨rfl, X⟩)
theorem aEa (A : Option Addr) (B c n : Nat) (p0 p1 p2 p3 p4 : Int) (w : World) (hs : Sl B w A ([p0, p1, p2, p3, p4].flatMap eI)) (b0 : 0 ≤ p0 ∧ p0 ≤ 255) (b1 : 0 ≤ p1 ∧ p1 ≤ 255) (b2 : 0 ≤ p2 ∧ p2 ≤ 255) (b3 : 0 ≤ p3 ∧ p3 ≤ 255) (b4 : 0 ≤ p4 ∧ p4 ≤ 255) (en : n = 5) :
   Calls Tryz.prog 164 #[.slice A n c] w (fF fun v w' => v = .tuple #[.agg (qA p0 p1 p2 p3 p4).cells.toArray, .bool (pF p0 p1 p2 p3 p4)] ∧ Ext w w') := by
 subst en
 exact aD9 A B c p0 p1 p2 p3 p4 w hs b0 b1 b2 b3 b4
theorem aFS (A : Option Addr) (B c n : Nat) (p0 p1 p2 p3 p4 : Int) (w : World) (hs : Sl B w A ([p0, p1, p2, p3, p4].flatMap eI)) (b0 : 0 ≤ p0 ∧ p0 ≤ 255) (b1 : 0 ≤ p1 ∧ p1 ≤ 255) (b2 : 0 ≤ p2 ∧ p2 ≤ 255) (b3 : 0 ≤ p3 ∧ p3 ≤ 255) (b4 : 0 ≤ p4 ∧ p4 ≤ 255) (en : n = 5) :
   Calls Tryz.prog 241 #[.slice A n c] w (fF fun v w' => v = .tuple #[.agg (qA p0 p1 p2 p3 p4).cells.toArray, .bool (pF p0 p1 p2 p3 p4)] ∧ Ext w w') := by
 subst en
 exact aFR A B c p0 p1 p2 p3 p4 w hs b0 b1 b2 b3 b4
theorem aDc (A : Option Addr) (B c : Nat) (xs : List Int) (w : World) (hs : Sl B w A (xs.flatMap eI)) (hl : xs.length ≤ 1048576) (hB : nU xs = true) :
   Calls Tryz.prog 78 #[.slice A xs.length c] w (fF fun v w' => ∃ A' c' ys sz ok, v = .tuple #[.slice A' (List.length ys) c', .int .i64 sz, .bool ok] ∧ RdS (jI xs) ys sz ok ∧ Own w' w.heap.size 89 8 A' ys.length c' (ys.flatMap SlotI.cells) ∧ Ext w w') := by
 have Bhs := hs.1
 have X := Q7r w
 refine bJ (args := [.slice A xs.length c]) Tryz.func78 Tryz.ntmps78 rfl rfl (aF (aA rfl (aE rfl (aA rfl (aE rfl (aA rfl (aE rfl (aB (aF (aA rfl (aC rfl (aA rfl (dA aHh aHg rfl rfl (aA rfl (eX rfl rfl ?_)))))))))))))))
 intro gC w2 egC q x1 zgC
 have lgC : w.heap.size ≤ gC := Q7l X.size (Q7e egC.symm)
 have pgChs := Q7l hs.1 (Q7e egC.symm)
 replace hs := hs.ext x1
 replace X := Q7x X x1; clear x1
 have q : Blk _ gC 166 (wT A c xs 0 false) := q
 refine aA rfl (aO gF eQ rfl rfl rfl rfl rfl ?_)
 intro gO w4 egO oT bbgO x3 zgO
 replace oT := Own.low oT X.size
 replace hs := hs.ext x3
 replace q := q.ext x3
 replace X := Q7x X x3; clear x3
 refine aA rfl (aE rfl (aA rfl (aE rfl (aB (aR (aF (aA rfl (aC rfl (aA rfl (aT mW rfl (aP (mT A B c xs gC 0 false _ q hs hl (Nat.zero_le _) (by omega)) ?_)))))))))))
 rintro _ w6 ⟨rfl, q1, x5⟩
 replace hs := hs.grown x5 (by intro g hg; injection hg; omega)
 replace oT := oT.grownBlk x5 (Own.neT oT q (by decide))
 replace X := X.grown x5 X.size (by intro g hg; injection hg; omega)
 clear x5 q
 refine aA rfl (aE rfl (aB (aX (dG (G := Nat × Nat × Bool × List SlotI × Nat × Option Addr × Nat × Int) (fun ⟨rem, a, b, ys, n1, A1, c1, tm⟩ => [(5, .pointer (some ⟨gC, 0, none⟩)), (7, .int .i64 tm), (6, .slice A1 n1 c1)]) (fun ⟨rem, a, b, ys, n1, A1, c1, tm⟩ wr => a ≤ xs.length ∧ n1 = ys.length ∧ tm = (rem : Int) ∧ n1 + rem ≤ 255 ∧ (b = false → a = 1 + 7 * n1) ∧ HgS xs rem a b ys ∧ Blk wr gC 166 (wT A c xs a b) ∧ Own wr w.heap.size 89 8 A1 n1 c1 (ys.flatMap SlotI.cells) ∧ Sl B wr A (xs.flatMap eI) ∧ Ext w wr) (fun ⟨rem, a, b, ys, n1, A1, c1, tm⟩ => rem) ((nV xs 0).toNat, iD xs 0, fL xs 0 false, [], 0, some ⟨gO, 0, none⟩, 0, nV xs 0) (.cons rfl (.cons rfl (.cons rfl (.nil _)))) ?_ ?_))))
 · exact ⟨(fT (Nat.zero_le _)), rfl, (by have := pY hB 0; omega), (by have := pY hB 0; show 0 + _ ≤ _; omega), (fun h => (aFH h)), (HgS.start xs), q1, oT, hs, X⟩
 clear hs oT q1
 clear X
 rintro ⟨rem, a, b, ys, n1, A1, c1, tm⟩ wr ⟨ha1, hn, htm, hrm, hai, hg, q, oT, hs, X⟩
 refine aR (aF (aA rfl (aC rfl (aA rfl (fG rfl rfl (fun h7 => ?_) (fun h7 => ?_))))))
 refine aA rfl (aC rfl (aI rfl rfl rfl (aC rfl (aI rfl rfl rfl (dJ rfl (aI rfl rfl rfl (aG jG rfl rfl (aI rfl rfl rfl (aJ q xO rfl rfl (aI rfl rfl rfl (bP rfl (aA rfl (aK rfl rfl (aB (rU rfl (fun h8 => ?_) (fun h8 => ?_))))))))))))))))
 refine aV (aS (aR (aX (aF (aA rfl (aC rfl ?_))))))
 have hb0 : b = false := by simpa using ‹(!b) = true›
 subst hb0
 have hv0 := pY hB a
 refine aA rfl (aT mW rfl (aP (mT A B c xs gC a false _ q hs hl ha1 (by omega)) ?_))
 rintro _ w10 ⟨rfl, q2, x9⟩
 replace oT := oT.grownBlk x9 (Own.neT oT q (by decide))
 replace hs := hs.grown x9 (by intro g hg; injection hg; omega)
 replace X := X.grown x9 X.size (by intro g hg; injection hg; omega)
 clear x9 q
 refine aA rfl (aE rfl (aB (aF (aA rfl (aC rfl (aA rfl (gK rfl rfl (by omega) (vK (by omega)) (aA rfl (aC rfl (aA rfl (fK rfl rfl (by omega) (qZ (by omega)) (aA rfl (aC rfl (aA rfl (aT mW rfl (aP (mT A B c xs gC _ _ _ q2 hs hl (fT ha1) (by omega)) ?_))))))))))))))))
 rintro _ w12 ⟨rfl, q3, x11⟩
 replace oT := oT.grownBlk x11 (Own.neT oT q2 (by decide))
 replace hs := hs.grown x11 (by intro g hg; injection hg; omega)
 replace X := X.grown x11 X.size (by intro g hg; injection hg; omega)
 clear x11 q2
 refine aA rfl (dA qY eQ rfl rfl ?_)
 have UT := fun g hg => (Own.lt oT (g := g) hg).2
 refine aA rfl (dT eQ ?_)
 intro gX w14 egX bX x13 zgX
 have lgX : w.heap.size ≤ gX := Q7l X.size (Q7e egX.symm)
 have pgXhs := Q7l hs.1 (Q7e egX.symm)
 have ngXq3 := Nat.lt_of_lt_of_eq q3.lt egX.symm
 replace oT := oT.ext x13
 replace hs := hs.ext x13
 replace q3 := q3.ext x13
 replace X := Q7x X x13
 refine aA rfl (bK bX eQ rfl rfl rfl rfl rfl rfl ?_)
 intro w16 bY hg15 z17
 replace oT := oT.grownBlk hg15 (fun h => by have := UT _ h; omega)
 replace hs := hs.grown hg15 (by intro g hg; injection hg; omega)
 replace q3 := q3.grown hg15 (by intro h; injection h; omega)
 replace X := X.grown hg15 X.size (by intro g hg; injection hg; omega)
 clear hg15 bX
 refine aB (aF (aA rfl (aC rfl (aA rfl (aT aEr rfl (aP (aD8 A B c xs gC _ _ 5 _ q3 hs hl (fT (fT ha1)) (by omega) (by omega)) ?_))))))
 rintro _ w19 ⟨AP, cP, rfl, oP, q5, x18⟩
 replace oT := oT.grownBlk x18 (Own.neT oT q3 (by decide))
 replace hs := hs.grown x18 (by intro g hg; injection hg; omega)
 replace bY := bY.grown x18 (by intro h; injection h; omega)
 replace X := X.grown x18 X.size (by intro g hg; injection hg; omega)
 clear x18 q3
 have oP : Own _ _ 2 1 AP (tP xs a).1.length cP ((tP xs a).1.flatMap eI) := oP
 have q5 : Blk _ gC 166 (wT A c xs (tP xs a).2.1 (tP xs a).2.2) := q5
 refine aA rfl (aE rfl (aB (aR (aF (aA rfl (aC rfl (aA rfl (dJ rfl (aA rfl (aG jG rfl rfl (aA rfl (aJ q5 xO rfl rfl ?_))))))))))))
 cases hb3 : (tP xs a).2.2
 obtain ⟨_, ha7, hv1, hv2, hp5, ha8⟩ := (aAL ha1).resolve_left (fun h => by rw [hb3] at h; cases h.1)
 refine aB (aM rfl (aV (aS (aF (aA rfl (aC rfl (aA rfl (aT aJW rfl (aP (aEa AP _ _ _ (xs.getD (a + 2) 0) (xs.getD (a + 2 + 1) 0) (xs.getD (a + 2 + 2) 0) (xs.getD (a + 2 + 3) 0) (xs.getD (a + 2 + 4) 0) _ (by have h := oP.sl; rw [hp5] at h; exact h) (gB hB _) (gB hB _) (gB hB _) (gB hB _) (gB hB _) (by show (tP xs a).1.length = 5; rw [hp5]; rfl)) ?_)))))))))
 rintro _ w21 ⟨rfl, x20⟩
 replace oT := oT.ext x20
 replace hs := hs.ext x20
 replace bY := bY.ext x20
 replace q5 := q5.ext x20
 replace oP := oP.ext x20
 replace X := Q7x X x20
 refine aA rfl (aC rfl (aA rfl (cX rfl rfl (aA rfl (cX rfl rfl (aA rfl (dT fU ?_)))))))
 intro gD w23 egD bD x22 zgD
 have lgD : w.heap.size ≤ gD := Q7l X.size (Q7e egD.symm)
 have pgDhs := Q7l hs.1 (Q7e egD.symm)
 have ngDbY := Nat.lt_of_lt_of_eq bY.lt egD.symm
 have ngDq5 := Nat.lt_of_lt_of_eq q5.lt egD.symm
 replace oT := oT.ext x22
 replace hs := hs.ext x22
 replace bY := bY.ext x22
 replace q5 := q5.ext x22
 replace oP := oP.ext x22
 replace X := Q7x X x22
 refine aA rfl (bK bD fU rfl rfl rfl rfl rfl rfl ?_)
 intro w25 bE hg24 z26
 replace oT := oT.grownBlk hg24 (Own.neT oT bD (by decide))
 replace hs := hs.grown hg24 (by intro g hg; injection hg; omega)
 replace bY := bY.grown hg24 (by intro h; injection h; omega)
 replace q5 := q5.grown hg24 (by intro h; injection h; omega)
 replace oP := oP.grownBlk hg24 (Own.neT oP bD (by decide))
 replace X := X.grown hg24 X.size (by intro g hg; injection hg; omega)
 clear hg24 bD
 refine aA rfl (aE rfl ?_)
 cases hv : (pF (xs.getD (a + 2) 0) (xs.getD (a + 2 + 1) 0) (xs.getD (a + 2 + 2) 0) (xs.getD (a + 2 + 3) 0) (xs.getD (a + 2 + 4) 0))
 refine aB (aR (aF (aA rfl (aC rfl (aA rfl (bP rfl (aB (aQ rfl (aF (aA rfl (aE rfl (aA rfl (aE rfl (aA rfl (aE rfl (aB (aW (bN (dL (bN (bN (dL (bN (dZ rfl rfl rfl rfl ?_))))))))))))))))))))))))
 · skip
   first
   | (exact absurd (hb3.symm.trans hb1) (by decide))
   | (subst hb1; exact absurd ‹(!false) = false› (by decide))
   | (have HN : jI xs = none := hg.inval (by omega) hv
      exact ⟨none, 0, [], 0, false, rfl, (by rw [HN]; rfl), Own.nil_ _ _ _ _, X⟩)
   | (have HN : jI xs = none := hg.bad (by omega) ha1 hb3
      exact ⟨none, 0, [], 0, false, rfl, (by rw [HN]; rfl), Own.nil_ _ _ _ _, X⟩)
   | (subst hb1
      have HN : jI xs = none := hg.2 rfl
      exact ⟨none, 0, [], 0, false, rfl, (by rw [HN]; rfl), Own.nil_ _ _ _ _, X⟩)
   | (subst hb1
      have hr0 : rem = 0 := by omega
      subst hr0
      have HN : jI xs = none := hg.stop.2 hIT
      exact ⟨none, 0, [], 0, false, rfl, (by rw [HN]; rfl), Own.nil_ _ _ _ _, X⟩)
   | (subst hb1
      have hr0 : rem = 0 := by omega
      subst hr0
      have HS : jI xs = some ys := hg.stop.1 hIT
      exact ⟨_, _, ys, _, true, rfl, (by rw [HS]; exact ⟨rfl, by have := hai rfl; omega, rfl⟩), oT, X⟩)
 refine aB (aR (aF (aA rfl (aC rfl (aA rfl (bP rfl (aB (aM rfl (aV (aS (aF (aA rfl (dE bE fU rfl rfl (aA rfl (aG iN rfl rfl (aA rfl (bK bY fU rfl rfl rfl rfl rfl rfl ?_)))))))))))))))))
 intro w28 bW hg27 z29
 replace oT := oT.grownBlk hg27 (fun h => by have := UT _ h; omega)
 replace hs := hs.grown hg27 (by intro g hg; injection hg; omega)
 replace q5 := q5.grown hg27 (by intro h; injection h; omega)
 replace oP := oP.grownBlk hg27 (Own.neT oP bY (by decide))
 replace bE := bE.grown hg27 (by intro h; injection h; omega)
 replace X := X.grown hg27 X.size (by intro g hg; injection hg; omega)
 clear hg27 bY
 refine aB (aN (aA rfl (aC rfl (aA rfl (dE bW eQ rfl rfl (aA rfl (aO gF eQ rfl rfl rfl rfl rfl ?_)))))))
 intro g30 w32 eg30 oV bbg30 x31 zg30
 replace oV := Own.low oV X.size
 replace oT := oT.ext x31
 replace hs := hs.ext x31
 replace q5 := q5.ext x31
 replace oP := oP.ext x31
 replace bE := bE.ext x31
 replace bW := bW.ext x31
 replace X := Q7x X x31
 have eY : ((⟨nV xs a / 16, nV xs a % 16, nV xs (iD xs a), dAt xs (a + 2)⟩) : SlotI) = wU xs a := by rw [wU, hv1, hv2]
 refine aA rfl (cH (ts := #[]) oT X.size oV.sl (by first | rfl | simp) (by first | exact List.all_eq_true.1 rfl | simp [Value.oneCell']) gF eQ rfl rfl rfl rfl (by omega) (by omega) ?_)
 intro AoU coU w34 oU hg33
 replace hs := hs.grown hg33 (fun g hg => Q7l Bhs (Own.lt oT hg).1)
 replace q5 := q5.grown hg33 (fun h => Own.neT oT q5 (by decide) h.symm)
 replace oP := oP.grown hg33 (Own.neO oP oT (by decide))
 replace bE := bE.grown hg33 (fun h => Own.neT oT bE (by decide) h.symm)
 replace bW := bW.grown hg33 (fun h => by have := UT _ h.symm; omega)
 replace X := X.grown hg33 X.size (fun g hg => (Own.lt oT hg).1)
 clear hg33
 refine aA rfl (aE rfl (aB (dO (aS (aN (aA rfl (aC rfl (aA rfl (fZ rfl rfl (dM (by omega)) (aA rfl (aE rfl (aB (aS ⟨(rem - 1, (tP xs a).2.1, (tP xs a).2.2, ys ++ [⟨nV xs a / 16, nV xs a % 16, nV xs (iD xs a), dAt xs (a + 2)⟩], n1 + 1, AoU, coU, tm - 1), (.cons rfl (.cons rfl (.cons rfl (.nil _)))), ?_, ?_⟩)))))))))))))
 · exact ⟨(by omega), (by simp [hn]), (by omega), (by omega), (fun _ => by have := hai rfl; omega), (by rw [hb3, ha8, eY]; exact hg.step (by omega) ha7 hv), q5, oU.to (lI SlotI.cells ys ⟨nV xs a / 16, nV xs a % 16, nV xs (iD xs a), dAt xs (a + 2)⟩).symm, hs, X⟩
 · first | omega | (dsimp only; omega)
 refine aB (aQ rfl (dD (dC (aLA rfl (dC (dC (eG (aS (aR (aF (aA rfl (aC rfl ?_))))))))))))
 subst hn
 refine aA rfl (dJ rfl (aA rfl (aG jG rfl rfl (aA rfl (aJ q5 xO rfl rfl ?_)))))
 cases hb1 : (tP xs a).2.2
 refine aA rfl (aC rfl (aI rfl rfl rfl (aC rfl (aI rfl rfl rfl (cV aCv rfl (aAj _ _ _ ys _ oT.sl (by omega)) (fun w36 hIT x35 => ?_) (fun w36 hIT x35 => ?_))))))
 replace oT := oT.ext x35
 replace hs := hs.ext x35
 replace bY := bY.ext x35
 replace q5 := q5.ext x35
 replace oP := oP.ext x35
 replace X := Q7x X x35
 refine aI rfl rfl rfl (bP rfl (aA rfl (aK rfl rfl (aB (aM rfl (aV (aS (eK [false, false, false, false, false, false, false, false] mixed (by kernel_rfl) (cO rfl (fun wq sq => aC rfl ⟨rfl, Q7r _⟩) (cO rfl (fun wq sq => aC rfl ⟨rfl, Q7r _⟩) (cO rfl (fun wq sq => dJ rfl ⟨rfl, Q7r _⟩) (cO rfl (fun wq sq => aG kF rfl rfl ⟨rfl, Q7r _⟩) (cO rfl (fun wq sq => aJ (q5.ext sq) ti3 rfl rfl ⟨rfl, Q7r _⟩) (cO rfl (fun wq sq => aE rfl ⟨rfl, Q7r _⟩) (cO rfl (fun wq sq => aE rfl ⟨rfl, Q7r _⟩) (cO rfl (fun wq sq => aE rfl ⟨rfl, Q7r _⟩) (dX (fun w37 sq => ?_))))))))))))))))))
 have xq := sq
 replace oT := oT.ext xq
 replace hs := hs.ext xq
 replace bY := bY.ext xq
 replace q5 := q5.ext xq
 replace oP := oP.ext xq
 replace X := Q7x X xq; clear xq sq
 refine aB (aW (dZ rfl rfl rfl rfl ?_))
 · skip
   first
   | (exact absurd (hb3.symm.trans hb1) (by decide))
   | (subst hb1; exact absurd ‹(!false) = false› (by decide))
   | (have HN : jI xs = none := hg.inval (by omega) hv
      exact ⟨none, 0, [], 0, false, rfl, (by rw [HN]; rfl), Own.nil_ _ _ _ _, X⟩)
   | (have HN : jI xs = none := hg.bad (by omega) ha1 hb3
      exact ⟨none, 0, [], 0, false, rfl, (by rw [HN]; rfl), Own.nil_ _ _ _ _, X⟩)
   | (subst hb1
      have HN : jI xs = none := hg.2 rfl
      exact ⟨none, 0, [], 0, false, rfl, (by rw [HN]; rfl), Own.nil_ _ _ _ _, X⟩)
   | (subst hb1
      have hr0 : rem = 0 := by omega
      subst hr0
      have HN : jI xs = none := hg.stop.2 hIT
      exact ⟨none, 0, [], 0, false, rfl, (by rw [HN]; rfl), Own.nil_ _ _ _ _, X⟩)
   | (subst hb1
      have hr0 : rem = 0 := by omega
      subst hr0
      have HS : jI xs = some ys := hg.stop.1 hIT
      exact ⟨_, _, ys, _, true, rfl, (by rw [HS]; exact ⟨rfl, by have := hai rfl; omega, rfl⟩), oT, X⟩)
 replace oT := oT.ext x35
 replace hs := hs.ext x35
 replace bY := bY.ext x35
 replace q5 := q5.ext x35
 replace oP := oP.ext x35
 replace X := Q7x X x35
 refine aI rfl rfl rfl (bP rfl (aA rfl (aK rfl rfl (aB (aQ rfl (aF (aA rfl (aE rfl (aA rfl (aE rfl (aA rfl (aE rfl (aB (aW (bN (dZ rfl rfl rfl rfl ?_))))))))))))))))
 · skip
   first
   | (exact absurd (hb3.symm.trans hb1) (by decide))
   | (subst hb1; exact absurd ‹(!false) = false› (by decide))
   | (have HN : jI xs = none := hg.inval (by omega) hv
      exact ⟨none, 0, [], 0, false, rfl, (by rw [HN]; rfl), Own.nil_ _ _ _ _, X⟩)
   | (have HN : jI xs = none := hg.bad (by omega) ha1 hb3
      exact ⟨none, 0, [], 0, false, rfl, (by rw [HN]; rfl), Own.nil_ _ _ _ _, X⟩)
   | (subst hb1
      have HN : jI xs = none := hg.2 rfl
      exact ⟨none, 0, [], 0, false, rfl, (by rw [HN]; rfl), Own.nil_ _ _ _ _, X⟩)
   | (subst hb1
      have hr0 : rem = 0 := by omega
      subst hr0
      have HN : jI xs = none := hg.stop.2 hIT
      exact ⟨none, 0, [], 0, false, rfl, (by rw [HN]; rfl), Own.nil_ _ _ _ _, X⟩)
   | (subst hb1
      have hr0 : rem = 0 := by omega
      subst hr0
      have HS : jI xs = some ys := hg.stop.1 hIT
      exact ⟨_, _, ys, _, true, rfl, (by rw [HS]; exact ⟨rfl, by have := hai rfl; omega, rfl⟩), oT, X⟩)
 refine aA rfl (aC rfl (aH rfl rfl rfl rfl (aH rfl rfl rfl rfl (aH rfl rfl rfl rfl (aA rfl (aK rfl rfl (aB (aQ rfl (aF (aA rfl (aE rfl (aA rfl (aE rfl (aA rfl (aE rfl (aB (aW (bN (dZ rfl rfl rfl rfl ?_)))))))))))))))))))
 · skip
   first
   | (exact absurd (hb3.symm.trans hb1) (by decide))
   | (subst hb1; exact absurd ‹(!false) = false› (by decide))
   | (have HN : jI xs = none := hg.inval (by omega) hv
      exact ⟨none, 0, [], 0, false, rfl, (by rw [HN]; rfl), Own.nil_ _ _ _ _, X⟩)
   | (have HN : jI xs = none := hg.bad (by omega) ha1 hb3
      exact ⟨none, 0, [], 0, false, rfl, (by rw [HN]; rfl), Own.nil_ _ _ _ _, X⟩)
   | (subst hb1
      have HN : jI xs = none := hg.2 rfl
      exact ⟨none, 0, [], 0, false, rfl, (by rw [HN]; rfl), Own.nil_ _ _ _ _, X⟩)
   | (subst hb1
      have hr0 : rem = 0 := by omega
      subst hr0
      have HN : jI xs = none := hg.stop.2 hIT
      exact ⟨none, 0, [], 0, false, rfl, (by rw [HN]; rfl), Own.nil_ _ _ _ _, X⟩)
   | (subst hb1
      have hr0 : rem = 0 := by omega
      subst hr0
      have HS : jI xs = some ys := hg.stop.1 hIT
      exact ⟨_, _, ys, _, true, rfl, (by rw [HS]; exact ⟨rfl, by have := hai rfl; omega, rfl⟩), oT, X⟩)
 refine dD (dC (dC (eG (aS (aR (aF (aA rfl (aC rfl ?_))))))))
 subst hn
 refine aA rfl (dJ rfl (aA rfl (aG jG rfl rfl (aA rfl (aJ q xO rfl rfl ?_)))))
 cases hb1 : b
 refine aA rfl (aC rfl (aI rfl rfl rfl (aC rfl (aI rfl rfl rfl (cV aCv rfl (aAj _ _ _ ys _ oT.sl (by omega)) (fun w39 hIT x38 => ?_) (fun w39 hIT x38 => ?_))))))
 replace q := q.ext x38
 replace oT := oT.ext x38
 replace hs := hs.ext x38
 replace X := Q7x X x38
 refine aI rfl rfl rfl (bP rfl (aA rfl (aK rfl rfl (aB (aM rfl (aV (aS (eK [false, false, false, false, false, false, false, false] mixed (by kernel_rfl) (cO rfl (fun wq sq => aC rfl ⟨rfl, Q7r _⟩) (cO rfl (fun wq sq => aC rfl ⟨rfl, Q7r _⟩) (cO rfl (fun wq sq => dJ rfl ⟨rfl, Q7r _⟩) (cO rfl (fun wq sq => aG kF rfl rfl ⟨rfl, Q7r _⟩) (cO rfl (fun wq sq => aJ (q.ext sq) ti3 rfl rfl ⟨rfl, Q7r _⟩) (cO rfl (fun wq sq => aE rfl ⟨rfl, Q7r _⟩) (cO rfl (fun wq sq => aE rfl ⟨rfl, Q7r _⟩) (cO rfl (fun wq sq => aE rfl ⟨rfl, Q7r _⟩) (dX (fun w40 sq => ?_))))))))))))))))))
 have xq := sq
 replace q := q.ext xq
 replace oT := oT.ext xq
 replace hs := hs.ext xq
 replace X := Q7x X xq; clear xq sq
 refine aB (aW (dZ rfl rfl rfl rfl ?_))
 · skip
   first
   | (exact absurd (hb3.symm.trans hb1) (by decide))
   | (subst hb1; exact absurd ‹(!false) = false› (by decide))
   | (have HN : jI xs = none := hg.inval (by omega) hv
      exact ⟨none, 0, [], 0, false, rfl, (by rw [HN]; rfl), Own.nil_ _ _ _ _, X⟩)
   | (have HN : jI xs = none := hg.bad (by omega) ha1 hb3
      exact ⟨none, 0, [], 0, false, rfl, (by rw [HN]; rfl), Own.nil_ _ _ _ _, X⟩)
   | (subst hb1
      have HN : jI xs = none := hg.2 rfl
      exact ⟨none, 0, [], 0, false, rfl, (by rw [HN]; rfl), Own.nil_ _ _ _ _, X⟩)
   | (subst hb1
      have hr0 : rem = 0 := by omega
      subst hr0
      have HN : jI xs = none := hg.stop.2 hIT
      exact ⟨none, 0, [], 0, false, rfl, (by rw [HN]; rfl), Own.nil_ _ _ _ _, X⟩)
   | (subst hb1
      have hr0 : rem = 0 := by omega
      subst hr0
      have HS : jI xs = some ys := hg.stop.1 hIT
      exact ⟨_, _, ys, _, true, rfl, (by rw [HS]; exact ⟨rfl, by have := hai rfl; omega, rfl⟩), oT, X⟩)
 replace q := q.ext x38
 replace oT := oT.ext x38
 replace hs := hs.ext x38
 replace X := Q7x X x38
 refine aI rfl rfl rfl (bP rfl (aA rfl (aK rfl rfl (aB (aQ rfl (aF (aA rfl (aE rfl (aA rfl (aE rfl (aA rfl (aE rfl (aB (aW (bN (dZ rfl rfl rfl rfl ?_))))))))))))))))
 · skip
   first
   | (exact absurd (hb3.symm.trans hb1) (by decide))
   | (subst hb1; exact absurd ‹(!false) = false› (by decide))
   | (have HN : jI xs = none := hg.inval (by omega) hv
      exact ⟨none, 0, [], 0, false, rfl, (by rw [HN]; rfl), Own.nil_ _ _ _ _, X⟩)
   | (have HN : jI xs = none := hg.bad (by omega) ha1 hb3
      exact ⟨none, 0, [], 0, false, rfl, (by rw [HN]; rfl), Own.nil_ _ _ _ _, X⟩)
   | (subst hb1
      have HN : jI xs = none := hg.2 rfl
      exact ⟨none, 0, [], 0, false, rfl, (by rw [HN]; rfl), Own.nil_ _ _ _ _, X⟩)
   | (subst hb1
      have hr0 : rem = 0 := by omega
      subst hr0
      have HN : jI xs = none := hg.stop.2 hIT
      exact ⟨none, 0, [], 0, false, rfl, (by rw [HN]; rfl), Own.nil_ _ _ _ _, X⟩)
   | (subst hb1
      have hr0 : rem = 0 := by omega
      subst hr0
      have HS : jI xs = some ys := hg.stop.1 hIT
      exact ⟨_, _, ys, _, true, rfl, (by rw [HS]; exact ⟨rfl, by have := hai rfl; omega, rfl⟩), oT, X⟩)
 refine aA rfl (aC rfl (aH rfl rfl rfl rfl (aH rfl rfl rfl rfl (aH rfl rfl rfl rfl (aA rfl (aK rfl rfl (aB (aQ rfl (aF (aA rfl (aE rfl (aA rfl (aE rfl (aA rfl (aE rfl (aB (aW (bN (dZ rfl rfl rfl rfl ?_)))))))))))))))))))
 · skip
   first
   | (exact absurd (hb3.symm.trans hb1) (by decide))
   | (subst hb1; exact absurd ‹(!false) = false› (by decide))
   | (have HN : jI xs = none := hg.inval (by omega) hv
      exact ⟨none, 0, [], 0, false, rfl, (by rw [HN]; rfl), Own.nil_ _ _ _ _, X⟩)
   | (have HN : jI xs = none := hg.bad (by omega) ha1 hb3
      exact ⟨none, 0, [], 0, false, rfl, (by rw [HN]; rfl), Own.nil_ _ _ _ _, X⟩)
   | (subst hb1
      have HN : jI xs = none := hg.2 rfl
      exact ⟨none, 0, [], 0, false, rfl, (by rw [HN]; rfl), Own.nil_ _ _ _ _, X⟩)
   | (subst hb1
      have hr0 : rem = 0 := by omega
      subst hr0
      have HN : jI xs = none := hg.stop.2 hIT
      exact ⟨none, 0, [], 0, false, rfl, (by rw [HN]; rfl), Own.nil_ _ _ _ _, X⟩)
   | (subst hb1
      have hr0 : rem = 0 := by omega
      subst hr0
      have HS : jI xs = some ys := hg.stop.1 hIT
      exact ⟨_, _, ys, _, true, rfl, (by rw [HS]; exact ⟨rfl, by have := hai rfl; omega, rfl⟩), oT, X⟩)
 refine aA rfl (aC rfl (aH rfl rfl rfl rfl (aH rfl rfl rfl rfl (aH rfl rfl rfl rfl (aH rfl rfl rfl rfl (aH rfl rfl rfl rfl (aA rfl (aK rfl rfl (aB (aM rfl (dD (dC (dC (eG (aS (aR (aF (aA rfl (aC rfl ?_)))))))))))))))))))
 subst hn
 refine aA rfl (dJ rfl (aA rfl (aG jG rfl rfl (aA rfl (aJ q xO rfl rfl ?_)))))
 cases hb1 : b
 refine aA rfl (aC rfl (aI rfl rfl rfl (aC rfl (aI rfl rfl rfl (cV aCv rfl (aAj _ _ _ ys _ oT.sl (by omega)) (fun w42 hIT x41 => ?_) (fun w42 hIT x41 => ?_))))))
 replace q := q.ext x41
 replace oT := oT.ext x41
 replace hs := hs.ext x41
 replace X := Q7x X x41
 refine aI rfl rfl rfl (bP rfl (aA rfl (aK rfl rfl (aB (aM rfl (aV (aS (eK [false, false, false, false, false, false, false, false] mixed (by kernel_rfl) (cO rfl (fun wq sq => aC rfl ⟨rfl, Q7r _⟩) (cO rfl (fun wq sq => aC rfl ⟨rfl, Q7r _⟩) (cO rfl (fun wq sq => dJ rfl ⟨rfl, Q7r _⟩) (cO rfl (fun wq sq => aG kF rfl rfl ⟨rfl, Q7r _⟩) (cO rfl (fun wq sq => aJ (q.ext sq) ti3 rfl rfl ⟨rfl, Q7r _⟩) (cO rfl (fun wq sq => aE rfl ⟨rfl, Q7r _⟩) (cO rfl (fun wq sq => aE rfl ⟨rfl, Q7r _⟩) (cO rfl (fun wq sq => aE rfl ⟨rfl, Q7r _⟩) (dX (fun w43 sq => ?_))))))))))))))))))
 have xq := sq
 replace q := q.ext xq
 replace oT := oT.ext xq
 replace hs := hs.ext xq
 replace X := Q7x X xq; clear xq sq
 refine aB (aW (dZ rfl rfl rfl rfl ?_))
 · skip
   first
   | (exact absurd (hb3.symm.trans hb1) (by decide))
   | (subst hb1; exact absurd ‹(!false) = false› (by decide))
   | (have HN : jI xs = none := hg.inval (by omega) hv
      exact ⟨none, 0, [], 0, false, rfl, (by rw [HN]; rfl), Own.nil_ _ _ _ _, X⟩)
   | (have HN : jI xs = none := hg.bad (by omega) ha1 hb3
      exact ⟨none, 0, [], 0, false, rfl, (by rw [HN]; rfl), Own.nil_ _ _ _ _, X⟩)
   | (subst hb1
      have HN : jI xs = none := hg.2 rfl
      exact ⟨none, 0, [], 0, false, rfl, (by rw [HN]; rfl), Own.nil_ _ _ _ _, X⟩)
   | (subst hb1
      have hr0 : rem = 0 := by omega
      subst hr0
      have HN : jI xs = none := hg.stop.2 hIT
      exact ⟨none, 0, [], 0, false, rfl, (by rw [HN]; rfl), Own.nil_ _ _ _ _, X⟩)
   | (subst hb1
      have hr0 : rem = 0 := by omega
      subst hr0
      have HS : jI xs = some ys := hg.stop.1 hIT
      exact ⟨_, _, ys, _, true, rfl, (by rw [HS]; exact ⟨rfl, by have := hai rfl; omega, rfl⟩), oT, X⟩)
 replace q := q.ext x41
 replace oT := oT.ext x41
 replace hs := hs.ext x41
 replace X := Q7x X x41
 refine aI rfl rfl rfl (bP rfl (aA rfl (aK rfl rfl (aB (aQ rfl (aF (aA rfl (aE rfl (aA rfl (aE rfl (aA rfl (aE rfl (aB (aW (bN (dZ rfl rfl rfl rfl ?_))))))))))))))))
 · skip
   first
   | (exact absurd (hb3.symm.trans hb1) (by decide))
   | (subst hb1; exact absurd ‹(!false) = false› (by decide))
   | (have HN : jI xs = none := hg.inval (by omega) hv
      exact ⟨none, 0, [], 0, false, rfl, (by rw [HN]; rfl), Own.nil_ _ _ _ _, X⟩)
   | (have HN : jI xs = none := hg.bad (by omega) ha1 hb3
      exact ⟨none, 0, [], 0, false, rfl, (by rw [HN]; rfl), Own.nil_ _ _ _ _, X⟩)
   | (subst hb1
      have HN : jI xs = none := hg.2 rfl
      exact ⟨none, 0, [], 0, false, rfl, (by rw [HN]; rfl), Own.nil_ _ _ _ _, X⟩)
   | (subst hb1
      have hr0 : rem = 0 := by omega
      subst hr0
      have HN : jI xs = none := hg.stop.2 hIT
      exact ⟨none, 0, [], 0, false, rfl, (by rw [HN]; rfl), Own.nil_ _ _ _ _, X⟩)
   | (subst hb1
      have hr0 : rem = 0 := by omega
      subst hr0
      have HS : jI xs = some ys := hg.stop.1 hIT
      exact ⟨_, _, ys, _, true, rfl, (by rw [HS]; exact ⟨rfl, by have := hai rfl; omega, rfl⟩), oT, X⟩)
 refine aA rfl (aC rfl (aH rfl rfl rfl rfl (aH rfl rfl rfl rfl (aH rfl rfl rfl rfl (aA rfl (aK rfl rfl (aB (aQ rfl (aF (aA rfl (aE rfl (aA rfl (aE rfl (aA rfl (aE rfl (aB (aW (bN (dZ rfl rfl rfl rfl ?_)))))))))))))))))))
 · skip
   first
   | (exact absurd (hb3.symm.trans hb1) (by decide))
   | (subst hb1; exact absurd ‹(!false) = false› (by decide))
   | (have HN : jI xs = none := hg.inval (by omega) hv
      exact ⟨none, 0, [], 0, false, rfl, (by rw [HN]; rfl), Own.nil_ _ _ _ _, X⟩)
   | (have HN : jI xs = none := hg.bad (by omega) ha1 hb3
      exact ⟨none, 0, [], 0, false, rfl, (by rw [HN]; rfl), Own.nil_ _ _ _ _, X⟩)
   | (subst hb1
      have HN : jI xs = none := hg.2 rfl
      exact ⟨none, 0, [], 0, false, rfl, (by rw [HN]; rfl), Own.nil_ _ _ _ _, X⟩)
   | (subst hb1
      have hr0 : rem = 0 := by omega
      subst hr0
      have HN : jI xs = none := hg.stop.2 hIT
      exact ⟨none, 0, [], 0, false, rfl, (by rw [HN]; rfl), Own.nil_ _ _ _ _, X⟩)
   | (subst hb1
      have hr0 : rem = 0 := by omega
      subst hr0
      have HS : jI xs = some ys := hg.stop.1 hIT
      exact ⟨_, _, ys, _, true, rfl, (by rw [HS]; exact ⟨rfl, by have := hai rfl; omega, rfl⟩), oT, X⟩)
theorem aFT (A : Option Addr) (B c : Nat) (xs : List Int) (w : World) (hs : Sl B w A (xs.flatMap eI)) (hl : xs.length ≤ 1048576) (hB : nU xs = true) (hcap : xs.length ≤ c) :
   Calls Tryz.prog 172 #[.slice A xs.length c] w (fF fun v w' => ∃ A' c' ys sz ok, v = .tuple #[.slice A' (List.length ys) c', .int .i64 sz, .bool ok] ∧ RdS (jI xs) ys sz ok ∧ Own w' w.heap.size 89 8 A' ys.length c' (ys.flatMap SlotI.cells) ∧ Ext w w') := by
 have Bhs := hs.1
 have X := Q7r w
 refine bJ (args := [.slice A xs.length c]) Tryz.func172 Tryz.ntmps172 rfl rfl (aF (aA rfl (aE rfl (aA rfl (aE rfl (aA rfl (aE rfl (aB (aR (aF (aA rfl (aC rfl (aA rfl (bO Tryz.underlying30 rfl (aA rfl (dP rfl rfl (fun h0 => ?_) (fun h0 => ?_)))))))))))))))))
 refine aA rfl (aC rfl (aH rfl rfl rfl rfl (aH rfl rfl rfl rfl (aH rfl rfl rfl rfl (aH rfl rfl rfl rfl (aH rfl rfl rfl rfl (aH rfl rfl rfl rfl (aH rfl rfl rfl rfl (aH rfl rfl rfl rfl (aA rfl (aK rfl rfl (aB (aQ rfl (aF (aA rfl (aE rfl (aA rfl (aE rfl (aA rfl (aE rfl (aB (aW (bN (dZ rfl rfl rfl rfl ?_))))))))))))))))))))))))
 · skip
   first
   | (have HN : jI xs = none := rF (by omega)
      exact ⟨none, 0, [], 0, false, rfl, (by rw [HN]; rfl), Own.nil_ _ _ _ _, X⟩)
   | (have HN : jI xs = none := uO hne (by rw [hg0]; omega)
      exact ⟨none, 0, [], 0, false, rfl, (by rw [HN]; rfl), Own.nil_ _ _ _ _, X⟩)
   | (have HN : jI xs = none := qB hne (by rw [hg, wW (by omega) hv]; rfl)
      exact ⟨none, 0, [], 0, false, rfl, (by rw [HN]; rfl), Own.nil_ _ _ _ _, X⟩)
   | (have hp : jR xs (xs.getD 0 0).toNat 1 = some ys := by rw [hg, show z0.toNat - k = 0 by omega]; simp [jR]
      refine ⟨_, _, ys, _, _, rfl, ?_, oT, X⟩
      cases hT : iB ys
      · rw [wV hne hp hT]; rfl
      · rw [tO hne hp hT]; exact ⟨rfl, by omega, rfl⟩)
 obtain ⟨z0, h00, _⟩ := eL (xs := xs) (k := 0) (by omega)
 have hz0 := iE hB h00
 have hne : xs.length ≠ 0 := by omega
 have hg0 := tL h00
 refine aA rfl (aC rfl (aI rfl rfl rfl (aC rfl (aI rfl rfl rfl (aU hs bI rfl cQ rfl rfl rfl h00 rfl (aI rfl rfl rfl (bS hs bI h00 dB rfl rfl rfl (aI rfl rfl rfl (fO rfl rfl (dM (by omega)) (aI rfl rfl rfl (aY rfl rfl (dM (by omega)) (aI rfl rfl rfl (aC rfl (aI rfl rfl rfl (bO Tryz.underlying30 rfl (aI rfl rfl rfl (fG rfl rfl (fun hsh => ?_) (fun hsh => ?_))))))))))))))))))
 refine aA rfl (aK rfl rfl (aB (aQ rfl (aF (aA rfl (aE rfl (aA rfl (aE rfl (aA rfl (aE rfl (aB (aW (bN (dZ rfl rfl rfl rfl ?_))))))))))))))
 · skip
   first
   | (have HN : jI xs = none := rF (by omega)
      exact ⟨none, 0, [], 0, false, rfl, (by rw [HN]; rfl), Own.nil_ _ _ _ _, X⟩)
   | (have HN : jI xs = none := uO hne (by rw [hg0]; omega)
      exact ⟨none, 0, [], 0, false, rfl, (by rw [HN]; rfl), Own.nil_ _ _ _ _, X⟩)
   | (have HN : jI xs = none := qB hne (by rw [hg, wW (by omega) hv]; rfl)
      exact ⟨none, 0, [], 0, false, rfl, (by rw [HN]; rfl), Own.nil_ _ _ _ _, X⟩)
   | (have hp : jR xs (xs.getD 0 0).toNat 1 = some ys := by rw [hg, show z0.toNat - k = 0 by omega]; simp [jR]
      refine ⟨_, _, ys, _, _, rfl, ?_, oT, X⟩
      cases hT : iB ys
      · rw [wV hne hp hT]; rfl
      · rw [tO hne hp hT]; exact ⟨rfl, by omega, rfl⟩)
 refine aA rfl (aK rfl rfl (aB (aM rfl (aV (aS (aF (aA rfl (aO gF eQ rfl rfl rfl rfl rfl ?_))))))))
 intro gO w2 egO oT bbgO x1 zgO
 replace oT := Own.low oT X.size
 replace hs := hs.ext x1
 replace X := Q7x X x1; clear x1
 refine aA rfl (aE rfl (aB (aR (aF (aA rfl (aE rfl (aB (aX (dG (G := Nat × List SlotI × Nat × Option Addr × Nat) (fun ⟨k, ys, n1, A1, c1⟩ => [(0, .slice A xs.length c), (6, .int .i64 ((1 + 7 * k : Nat) : Int)), (5, .slice A1 n1 c1)]) (fun ⟨k, ys, n1, A1, c1⟩ wr => (k : Int) ≤ z0 ∧ n1 = ys.length ∧ n1 = k ∧ jR xs (xs.getD 0 0).toNat 1 = (jR xs (z0.toNat - k) (1 + 7 * k)).map (fun r => ys ++ r) ∧ Own wr w.heap.size 89 8 A1 n1 c1 (ys.flatMap SlotI.cells) ∧ Sl B wr A (xs.flatMap eI) ∧ Ext w wr) (fun ⟨k, ys, n1, A1, c1⟩ => z0.toNat - k) (0, [], 0, some ⟨gO, 0, none⟩, 0) (.cons rfl (.cons rfl (.cons rfl (.nil _)))) ?_ ?_)))))))))
 · exact ⟨by omega, rfl, rfl, (by rw [hg0]; cases jR xs z0.toNat 1 <;> simp), oT, hs, X⟩
 clear hs oT
 clear X
 rintro ⟨k, ys, n1, A1, c1⟩ wr ⟨hk0, hn, hnk, hg, oT, hs, X⟩
 refine aR (aF (aA rfl (aC rfl (aA rfl (aC rfl (aA rfl (aU hs bI rfl cQ rfl rfl rfl h00 rfl (aA rfl (bS hs bI h00 dB rfl rfl rfl (aA rfl (fO rfl rfl (dM (by omega)) (aA rfl (aY rfl rfl (dM (by omega)) (aA rfl (cU rfl rfl (fun hk => ?_) (fun hk => ?_))))))))))))))))
 refine aB (aQ rfl (aV (aS (aR (aX (aF (aA rfl (aC rfl (aA rfl (aC rfl (aA rfl (aY rfl rfl (dM (by omega)) (aA rfl (aC rfl (aA rfl (aY rfl rfl (dM (by omega)) (aA rfl (kZ cQ hs bI rfl rfl rfl (show _ = ((1 + 7 * k + 2 : Nat) : Int) by omega) (show _ = ((1 + 7 * k + 7 : Nat) : Int) by omega) (by omega) (by omega) ?_))))))))))))))))))
 intro Ap pS
 refine aA rfl (aT aKx rfl (aP (aFS Ap B _ _ (xs.getD ((1 + 7 * k) + 2) 0) (xs.getD ((1 + 7 * k) + 2 + 1) 0) (xs.getD ((1 + 7 * k) + 2 + 2) 0) (xs.getD ((1 + 7 * k) + 2 + 3) 0) (xs.getD ((1 + 7 * k) + 2 + 4) 0) _ (by have h := pS; rw [show 1 + 7 * k + 7 - (1 + 7 * k + 2) = 5 by omega, aCe (by omega)] at h; exact h) (gB hB _) (gB hB _) (gB hB _) (gB hB _) (gB hB _) (by omega)) ?_))
 rintro _ w4 ⟨rfl, x3⟩
 replace oT := oT.ext x3
 replace hs := hs.ext x3
 replace pS := pS.ext x3
 replace X := Q7x X x3; clear x3
 clear pS
 refine aA rfl (aC rfl (aA rfl (cX rfl rfl (aA rfl (cX rfl rfl (aA rfl (dT fU ?_)))))))
 intro gD w6 egD bD x5 zgD
 have lgD : w.heap.size ≤ gD := Q7l X.size (Q7e egD.symm)
 have pgDhs := Q7l hs.1 (Q7e egD.symm)
 replace oT := oT.ext x5
 replace hs := hs.ext x5
 replace X := Q7x X x5; clear x5
 refine aA rfl (bK bD fU rfl rfl rfl rfl rfl rfl ?_)
 intro w9 bE hg7 z10
 replace oT := oT.grownBlk hg7 (Own.neT oT bD (by decide))
 replace hs := hs.grown hg7 (by intro g hg; injection hg; omega)
 replace X := X.grown hg7 X.size (by intro g hg; injection hg; omega)
 clear hg7 bD
 refine aA rfl (aE rfl ?_)
 cases hv : (pF (xs.getD ((1 + 7 * k) + 2) 0) (xs.getD ((1 + 7 * k) + 2 + 1) 0) (xs.getD ((1 + 7 * k) + 2 + 2) 0) (xs.getD ((1 + 7 * k) + 2 + 3) 0) (xs.getD ((1 + 7 * k) + 2 + 4) 0))
 refine aB (aR (aF (aA rfl (aC rfl (aA rfl (bP rfl (aB (aQ rfl (aF (aA rfl (aE rfl (aA rfl (aE rfl (aA rfl (aE rfl (aB (aW (bN (dL (bN (bN (dL (bN (dZ rfl rfl rfl rfl ?_))))))))))))))))))))))))
 · skip
   first
   | (have HN : jI xs = none := rF (by omega)
      exact ⟨none, 0, [], 0, false, rfl, (by rw [HN]; rfl), Own.nil_ _ _ _ _, X⟩)
   | (have HN : jI xs = none := uO hne (by rw [hg0]; omega)
      exact ⟨none, 0, [], 0, false, rfl, (by rw [HN]; rfl), Own.nil_ _ _ _ _, X⟩)
   | (have HN : jI xs = none := qB hne (by rw [hg, wW (by omega) hv]; rfl)
      exact ⟨none, 0, [], 0, false, rfl, (by rw [HN]; rfl), Own.nil_ _ _ _ _, X⟩)
   | (have hp : jR xs (xs.getD 0 0).toNat 1 = some ys := by rw [hg, show z0.toNat - k = 0 by omega]; simp [jR]
      refine ⟨_, _, ys, _, _, rfl, ?_, oT, X⟩
      cases hT : iB ys
      · rw [wV hne hp hT]; rfl
      · rw [tO hne hp hT]; exact ⟨rfl, by omega, rfl⟩)
 refine aB (aR (aF (aA rfl (aC rfl (aA rfl (bP rfl (aB (aM rfl (aV (aS (aBX [false, false, false, false, false, false, false, false, false, false, false, false, false, false, false, false, false, false, true] mixed (by kernel_rfl) ?_)))))))))))
 obtain ⟨xa, hxa, _⟩ := eL (xs := xs) (k := 1 + 7 * k) (by omega)
 obtain ⟨xb, hxb, _⟩ := eL (xs := xs) (k := 1 + 7 * k + 1) (by omega)
 have hxab := iE hB hxa
 refine cO rfl (fun wq sq => aC rfl ⟨rfl, Q7r _⟩) (cO rfl (fun wq sq => aC rfl ⟨rfl, Q7r _⟩) (cO rfl (fun wq sq => aC rfl ⟨rfl, Q7r _⟩) (cO rfl (fun wq sq => aU (hs.ext sq) bI rfl cQ rfl rfl rfl hxa rfl ⟨rfl, Q7r _⟩) (cO rfl (fun wq sq => bS (hs.ext sq) bI hxa dB rfl rfl rfl ⟨rfl, Q7r _⟩) (cO rfl (fun wq sq => gK rfl rfl (by omega) (vK (by omega)) ⟨rfl, Q7r _⟩) (cO rfl (fun wq sq => aC rfl ⟨rfl, Q7r _⟩) (cO rfl (fun wq sq => aC rfl ⟨rfl, Q7r _⟩) (cO rfl (fun wq sq => aU (hs.ext sq) bI rfl cQ rfl rfl rfl hxa rfl ⟨rfl, Q7r _⟩) (cO rfl (fun wq sq => bS (hs.ext sq) bI hxa dB rfl rfl rfl ⟨rfl, Q7r _⟩) ?_)))))))))
 refine cO rfl (fun wq sq => fK rfl rfl (by omega) (qZ (by omega)) ⟨rfl, Q7r _⟩) (cO rfl (fun wq sq => aC rfl ⟨rfl, Q7r _⟩) (cO rfl (fun wq sq => aC rfl ⟨rfl, Q7r _⟩) (cO rfl (fun wq sq => aY rfl rfl (dM (by omega)) ⟨rfl, Q7r _⟩) (cO rfl (fun wq sq => aU (hs.ext sq) bI rfl cQ rfl rfl rfl hxb (by omega) ⟨rfl, Q7r _⟩) (cO rfl (fun wq sq => bS (hs.ext sq) bI hxb dB rfl rfl rfl ⟨rfl, Q7r _⟩) (cO rfl (fun wq sq => dE (bE.ext sq) fU rfl rfl ⟨rfl, Q7r _⟩) (cO rfl (fun wq sq => dA qY eQ rfl rfl ⟨rfl, Q7r _⟩) (zL (fun g11 : Nat => Value.slice (some ⟨g11, 0, none⟩) 1 1) (fun g11 wz => Own wz w.heap.size 89 8 (some ⟨g11, 0, none⟩) 1 1 (SlotI.cells ⟨xa / 16, xa % 16, xb, dAt xs (1 + 7 * k + 2)⟩)) 0 rfl ⟨lT, fun _ _ _ h k => h.ext k, fun wq sq => aO gF eQ rfl rfl rfl rfl rfl (fun g w' hg ho hb hx hz => ⟨g, rfl, Own.low ho (Q7l X.size (sq).size), hx⟩)⟩ ?_))))))))
 intro g11
 refine dX (fun w12 sq => ?_)
 have xq := sq.1
 have oV := sq.2
 replace oT := oT.ext xq
 replace hs := hs.ext xq
 replace bE := bE.ext xq
 replace X := Q7x X xq; clear xq sq
 have eY : ((⟨xa / 16, xa % 16, xb, dAt xs (1 + 7 * k + 2)⟩) : SlotI) = wU xs (1 + 7 * k) := by rw [wU, tL hxa, tL hxb]
 refine aA rfl (cH (ts := #[]) oT X.size oV.sl (by first | rfl | simp) (by first | exact List.all_eq_true.1 rfl | simp [Value.oneCell']) gF eQ rfl rfl rfl rfl (by omega) (by omega) ?_)
 intro AoU coU w14 oU hg13
 replace hs := hs.grown hg13 (fun g hg => Q7l Bhs (Own.lt oT hg).1)
 replace bE := bE.grown hg13 (fun h => Own.neT oT bE (by decide) h.symm)
 replace X := X.grown hg13 X.size (fun g hg => (Own.lt oT hg).1)
 clear hg13
 refine aA rfl (aE rfl (aB (dO (aS (aN (aA rfl (aC rfl (aA rfl (aY rfl rfl (dM (by omega)) (aA rfl (aE rfl (aB (aS ⟨(k + 1, ys ++ [⟨xa / 16, xa % 16, xb, dAt xs (1 + 7 * k + 2)⟩], n1 + 1, AoU, coU), (.cons rfl (.cons rfl (.cons rfl (.nil _)))), ?_, ?_⟩)))))))))))))
 · exact ⟨by omega, (by simp [hn]), (by omega), (by rw [hg, aFG (by omega) (by omega) hv, eY, show z0.toNat - k - 1 = z0.toNat - (k + 1) by omega, show 1 + 7 * k + 7 = 1 + 7 * (k + 1) by omega]; cases jR xs (z0.toNat - (k + 1)) (1 + 7 * (k + 1)) <;> simp), oU.to (lI SlotI.cells ys ⟨xa / 16, xa % 16, xb, dAt xs (1 + 7 * k + 2)⟩).symm, hs, X⟩
 · first | omega | (dsimp only; omega)
 refine aB (aM rfl (dD (dC (dC (eG (aS (eK [false, false, false, false, false, false, false, false, false, false, false] mixed (by kernel_rfl) ?_)))))))
 subst hn
 refine cO rfl (fun wq sq => aC rfl ⟨rfl, Q7r _⟩) (cO rfl (fun wq sq => aC rfl ⟨rfl, Q7r _⟩) (cO rfl (fun wq sq => aU (hs.ext sq) bI rfl cQ rfl rfl rfl h00 rfl ⟨rfl, Q7r _⟩) (cO rfl (fun wq sq => bS (hs.ext sq) bI h00 dB rfl rfl rfl ⟨rfl, Q7r _⟩) (cO rfl (fun wq sq => fO rfl rfl (dM (by omega)) ⟨rfl, Q7r _⟩) (cO rfl (fun wq sq => aY rfl rfl (dM (by omega)) ⟨rfl, Q7r _⟩) (cO rfl (fun wq sq => aC rfl ⟨rfl, Q7r _⟩) (cO rfl (fun wq sq => aT aHB rfl (aFh _ _ _ ys _ (oT.ext sq).sl (by omega))) (cO rfl (fun wq sq => aE rfl ⟨rfl, Q7r _⟩) (cO rfl (fun wq sq => aE rfl ⟨rfl, Q7r _⟩) (cO rfl (fun wq sq => aE rfl ⟨rfl, Q7r _⟩) ?_))))))))))
 refine dX (fun w15 sq => ?_)
 have xq := sq
 replace oT := oT.ext xq
 replace hs := hs.ext xq
 replace X := Q7x X xq; clear xq sq
 refine aB (aW (dZ rfl rfl rfl rfl ?_))
 · skip
   first
   | (have HN : jI xs = none := rF (by omega)
      exact ⟨none, 0, [], 0, false, rfl, (by rw [HN]; rfl), Own.nil_ _ _ _ _, X⟩)
   | (have HN : jI xs = none := uO hne (by rw [hg0]; omega)
      exact ⟨none, 0, [], 0, false, rfl, (by rw [HN]; rfl), Own.nil_ _ _ _ _, X⟩)
   | (have HN : jI xs = none := qB hne (by rw [hg, wW (by omega) hv]; rfl)
      exact ⟨none, 0, [], 0, false, rfl, (by rw [HN]; rfl), Own.nil_ _ _ _ _, X⟩)
   | (have hp : jR xs (xs.getD 0 0).toNat 1 = some ys := by rw [hg, show z0.toNat - k = 0 by omega]; simp [jR]
      refine ⟨_, _, ys, _, _, rfl, ?_, oT, X⟩
      cases hT : iB ys
      · rw [wV hne hp hT]; rfl
      · rw [tO hne hp hT]; exact ⟨rfl, by omega, rfl⟩)
end Go.Proofs.YtdoibplhbdkapaaGreatDoor
