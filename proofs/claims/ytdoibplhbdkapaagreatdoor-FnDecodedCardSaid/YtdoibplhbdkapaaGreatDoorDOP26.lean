/- Parts. No condition. -/
import Derived.Test.YtdoibplhbdkapaaGreatDoorDOP17
import Derived.Test.YtdoibplhbdkapaaGreatDoorDOP9
import Derived.Test.YtdoibplhbdkapaaGreatDoorDOP3
import Derived.Test.YtdoibplhbdkapaaGreatDoorDOP18
import Derived.Test.YtdoibplhbdkapaaGreatDoorDOP10
import Derived.Test.YtdoibplhbdkapaaGreatDoorDOP11
import Derived.Test.YtdoibplhbdkapaaGreatDoorDOP19
namespace Go.Proofs.YtdoibplhbdkapaaGreatDoor
open Go.RowKit
set_option linter.unusedVariables false
set_option linter.unusedSimpArgs false
set_option maxRecDepth 20000
theorem fR (w : World) (lo : Nat) (a b c d : TypeId) : MOwn w lo a b c d zeroM := ⟨Own.nil_ _ _ _ _, Own.nil_ _ _ _ _, NOwn.nil_, Disj.nil_, Own.nil_ _ _ _ _⟩
theorem tQ : zeroM.small := ⟨by decide, by decide, fun x hx => by simp [zeroM] at hx, by decide, fun x hx => by simp [zeroM] at hx⟩
theorem aCg (A : Option Addr) (B c n : Nat) (xs : List Int) (x y z : Int) (w : World) (hs : Sl B w A (xs.flatMap eI)) (en : xs.length = n) (hx : xs[0]? = some x) (hy : xs[1]? = some y) (hz : xs[2]? = some z) (rx : 0 ≤ x ∧ x ≤ 255) (ry : 0 ≤ y ∧ y ≤ 255) (rz : 0 ≤ z ∧ z ≤ 255) :
   Calls Tryz.prog 75 #[.slice A n c] w (fF fun v w' => v = .int .i64 (x * 65536 + y * 256 + z) ∧ Ext w w') := by
 have Bhs := hs.1
 have X := Q7r w
 refine bJ (args := [.slice A n c]) Tryz.func75 Tryz.ntmps75 rfl rfl (aF (aA rfl (aE rfl (aB (eK [false, false, false, false, false, false, false, false, false, false, false, false, false, false] mixed (by kernel_rfl) (cO rfl (fun wq sq => aC rfl ⟨rfl, Q7r _⟩) (cO rfl (fun wq sq => aU (hs.ext sq) bI rfl cQ rfl en.symm rfl hx rfl ⟨rfl, Q7r _⟩) (cO rfl (fun wq sq => bS (hs.ext sq) bI hx dB rfl rfl rfl ⟨rfl, Q7r _⟩) (cO rfl (fun wq sq => tG rfl rfl (by omega) (show IntKind.i64.wrap (x * 2 ^ (min ((16 : Int).toNat) IntKind.i64.bits)) = x * 65536 by rw [show (2 : Int) ^ (min ((16 : Int).toNat) IntKind.i64.bits) = 65536 from rfl]; exact dM (by omega)) ⟨rfl, Q7r _⟩) ?_)))))))))
 refine cO rfl (fun wq sq => aC rfl ⟨rfl, Q7r _⟩) (cO rfl (fun wq sq => aU (hs.ext sq) bI rfl cQ rfl en.symm rfl hy rfl ⟨rfl, Q7r _⟩) (cO rfl (fun wq sq => bS (hs.ext sq) bI hy dB rfl rfl rfl ⟨rfl, Q7r _⟩) (cO rfl (fun wq sq => tG rfl rfl (by omega) (show IntKind.i64.wrap (y * 2 ^ (min ((8 : Int).toNat) IntKind.i64.bits)) = y * 256 by rw [show (2 : Int) ^ (min ((8 : Int).toNat) IntKind.i64.bits) = 256 from rfl]; exact dM (by omega)) ⟨rfl, Q7r _⟩) (cO rfl (fun wq sq => aY rfl rfl (dM (by omega)) ⟨rfl, Q7r _⟩) (cO rfl (fun wq sq => aC rfl ⟨rfl, Q7r _⟩) (cO rfl (fun wq sq => aU (hs.ext sq) bI rfl cQ rfl en.symm rfl hz rfl ⟨rfl, Q7r _⟩) ?_))))))
 refine cO rfl (fun wq sq => bS (hs.ext sq) bI hz dB rfl rfl rfl ⟨rfl, Q7r _⟩) (cO rfl (fun wq sq => aY rfl rfl (dM (by omega)) ⟨rfl, Q7r _⟩) (cO rfl (fun wq sq => aE rfl ⟨rfl, Q7r _⟩) (dX (fun w1 sq => ?_))))
 have xq := sq
 replace hs := hs.ext xq
 replace X := Q7x X xq; clear xq sq
 exact aB (aW (aL rfl rfl ⟨by rfl, X⟩))
theorem aIj (A : Option Addr) (B c : Nat) (xs : List Int) (w : World) (hs : Sl B w A (xs.flatMap eI)) (hl : xs.length ≤ 1048576) (hcap : xs.length ≤ c) :
   Calls Tryz.prog 21 #[.slice A xs.length c] w (fF fun v w' => v = .tuple #[.int .i64 (iU xs).1, .int .i64 (iU xs).2] ∧ Ext w w') := by
 have hn := aAv hs hl
 have Bhs := hs.1
 have X := Q7r w
 refine bJ (args := [.slice A xs.length c]) Tryz.func21 Tryz.ntmps21 rfl rfl (aF (aA rfl (aE rfl (aA rfl (aE rfl (aB (aR (aF (aA rfl (aC rfl (aA rfl (cV aHj rfl (vV _ _ _ _ _ hs hl) (fun w2 hI x1 => ?_) (fun w2 hI x1 => ?_)))))))))))))
 replace hs := hs.ext x1
 replace hn := hn.ext x1
 replace X := Q7x X x1; clear x1
 have hbm := qO hI
 have hbl := qR hI
 refine aA rfl (bP rfl (aB (aM rfl (aV (aS (aR (aF (aA rfl (aC rfl (aA rfl (aT aJb rfl (aP (aBs _ _ c xs _ hs hbl hbm hcap hn) ?_))))))))))))
 rintro _ w4 ⟨A5, c6, rfl, oD, x3⟩
 replace oD := Own.low oD X.size
 replace hs := hs.ext x3
 replace hn := hn.ext x3
 replace X := Q7x X x3; clear x3
 refine aA rfl (cV aJa rfl (aA4 _ _ _ (zR xs) 0 _ oD.sl (aEW hl)) (fun w9 hD x7 => ?_) (fun w9 hD x7 => ?_))
 replace hs := hs.ext x7
 replace hn := hn.ext x7
 replace oD := oD.ext x7
 replace X := Q7x X x7; clear x7
 refine aB (aQ rfl (aF (aA rfl (aE rfl (aA rfl (aE rfl (aB (aW (bN (fD rfl rfl rfl ?_))))))))))
 · skip
   have e : iU xs = (0, 7) := by rw [iU, if_pos hI, if_pos hD]
   rw [e]; exact ⟨rfl, X⟩
 replace hs := hs.ext x7
 replace hn := hn.ext x7
 replace oD := oD.ext x7
 replace X := Q7x X x7; clear x7
 have hk0 := sN (aGu hD)
 refine aB (aM rfl (aV (aS (aF (aA rfl (aC rfl ?_))))))
 obtain ⟨pA, pc, hx, hpc⟩ := aAu A xs (k := 0) (aEl _)
 have hrl : (lL pA pc (eH xs 0)).m.next.length = (eH xs 0).length := rfl
 have hrc : (lL pA pc (eH xs 0)).c = pc := rfl
 have hpl := jT xs 0
 refine aA rfl (aT aHk rfl (aP (vU A c xs _ hl hcap) ?_))
 rintro _ w11 ⟨AR, cR, rfl, oR, x10⟩
 replace oR := Own.low oR X.size
 replace hs := hs.ext x10
 replace hn := hn.ext x10
 replace oD := oD.ext x10
 replace X := Q7x X x10
 refine aA rfl (aU (oR).sl jH rfl sX rfl (aAt A xs).symm rfl hx rfl (aA rfl (bS (oR).sl jH hx mD rfl rfl rfl ?_)))
 have hp : Sl B _ pA ((eH xs 0).flatMap eI) := hn.at_ hx
 refine aA rfl (aE rfl (aB (aF (aA rfl (aC rfl (aA rfl (aC rfl (aA rfl (bO Tryz.underlying30 rfl (aA rfl (fZ rfl rfl (dM (by omega)) (aA rfl (kZ cQ hp bI rfl rfl rfl (show (2 : Int) = ((2 : Nat) : Int) from rfl) (show _ = (((eH xs 0).length - 3 : Nat) : Int) by omega) (by omega) (by omega) ?_)))))))))))))
 intro Ap pS
 refine aA rfl (aE rfl (aB (aR (aF (aA rfl (aC rfl (aA rfl (bO Tryz.underlying30 rfl (aA rfl (cU rfl rfl (fun h8 => ?_) (fun h8 => ?_)))))))))))
 refine aA rfl (aC rfl (aH rfl rfl rfl rfl (aH rfl rfl rfl rfl (aH rfl rfl rfl rfl (aH rfl rfl rfl rfl (aA rfl (aK rfl rfl (aA rfl (aC rfl (aH rfl rfl rfl rfl (aH rfl rfl rfl rfl (aH rfl rfl rfl rfl (aA rfl (aK rfl rfl (aB (aQ rfl (aF (aA rfl (aE rfl (aA rfl (aE rfl (aB (aW (bN (fD rfl rfl rfl ?_)))))))))))))))))))))))))
 · skip
   have e : iU xs = (0, 6) := by rw [iU, if_pos hI, if_neg (by rw [hD]; decide), if_pos (.inl (by omega))]
   rw [e]; exact ⟨rfl, X⟩
 obtain ⟨p0, hp0, _⟩ := eL (xs := (eH xs 0)) (k := 0) (by omega)
 have hr0 := kL hbm 0 p0 (List.mem_of_getElem? hp0)
 obtain ⟨p2, hp2, _⟩ := eL (xs := (eH xs 0)) (k := 2) (by omega)
 have hr2 := kL hbm 0 p2 (List.mem_of_getElem? hp2)
 obtain ⟨p3, hp3, _⟩ := eL (xs := (eH xs 0)) (k := 3) (by omega)
 have hr3 := kL hbm 0 p3 (List.mem_of_getElem? hp3)
 obtain ⟨p4, hp4, _⟩ := eL (xs := (eH xs 0)) (k := 4) (by omega)
 have hr4 := kL hbm 0 p4 (List.mem_of_getElem? hp4)
 have hv : idV (eH xs 0) = p2 * 65536 + p3 * 256 + p4 := by rw [idV, iH hp2, iH hp3, iH hp4]
 have e0 : (eH xs 0).getD 0 0 = p0 := iH hp0
 refine aA rfl (aC rfl (aI rfl rfl rfl (aC rfl (aI rfl rfl rfl (aU hp bI rfl cQ rfl rfl rfl hp0 rfl (aI rfl rfl rfl (bS hp bI hp0 dB rfl rfl rfl (aI rfl rfl rfl (gH rfl rfl (fun hz0 => ?_) (fun hz0 => ?_))))))))))
 refine aA rfl (aK rfl rfl (aA rfl (aC rfl (aH rfl rfl rfl rfl (aH rfl rfl rfl rfl (aH rfl rfl rfl rfl (aA rfl (aK rfl rfl (aB (aQ rfl (aF (aA rfl (aE rfl (aA rfl (aE rfl (aB (aW (bN (fD rfl rfl rfl ?_)))))))))))))))))))
 · skip
   have e : iU xs = (0, 6) := by rw [iU, if_pos hI, if_neg (by rw [hD]; decide), if_pos (.inr (by rw [e0]; exact hz0))]
   rw [e]; exact ⟨rfl, X⟩
 refine aA rfl (aK rfl rfl (aA rfl (aC rfl (aI rfl rfl rfl (aC rfl (aI rfl rfl rfl (aT aFe rfl (aP (aCg _ _ _ _ (((eH xs 0).drop 2).take ((eH xs 0).length - 3 - 2)) p2 p3 p4 _ pS (by rw [List.length_take, List.length_drop]; omega) (uG (by omega) (by omega) hp2) (uG (by omega) (by omega) hp3) (uG (by omega) (by omega) hp4) hr2 hr3 hr4) ?_))))))))
 rintro _ w13 ⟨rfl, x12⟩
 replace hs := hs.ext x12
 replace hn := hn.ext x12
 replace oD := oD.ext x12
 replace oR := oR.ext x12
 replace hp := hp.ext x12
 replace pS := pS.ext x12
 replace X := Q7x X x12
 refine aI rfl rfl rfl (dP rfl rfl (fun hid => ?_) (fun hid => ?_))
 refine aA rfl (aK rfl rfl (aB (aQ rfl (aF (aA rfl (aE rfl (aA rfl (aE rfl (aB (aW (bN (fD rfl rfl rfl ?_))))))))))))
 · skip
   have e : iU xs = (0, 6) := by rw [iU, if_pos hI, if_neg (by rw [hD]; decide), if_neg (by rw [e0]; omega), if_pos (by rw [hv]; exact hid)]
   rw [e]; exact ⟨rfl, X⟩
 refine aA rfl (aK rfl rfl (aB (aM rfl (aV (aS (aF (aA rfl (aC rfl (aA rfl (aT aFe rfl (aP (aCg _ _ _ _ (((eH xs 0).drop 2).take ((eH xs 0).length - 3 - 2)) p2 p3 p4 _ pS (by rw [List.length_take, List.length_drop]; omega) (uG (by omega) (by omega) hp2) (uG (by omega) (by omega) hp3) (uG (by omega) (by omega) hp4) hr2 hr3 hr4) ?_)))))))))))
 rintro _ w15 ⟨rfl, x14⟩
 replace hs := hs.ext x14
 replace hn := hn.ext x14
 replace oD := oD.ext x14
 replace oR := oR.ext x14
 replace hp := hp.ext x14
 replace pS := pS.ext x14
 replace X := Q7x X x14
 refine aA rfl (aE rfl (aA rfl (aE rfl (aB (aW (fD rfl rfl rfl ?_))))))
 · skip
   have e : iU xs = (p2 * 65536 + p3 * 256 + p4, 0) := by rw [iU, if_pos hI, if_neg (by rw [hD]; decide), if_neg (by rw [e0]; omega), hv, if_neg (by omega)]
   rw [e]; exact ⟨rfl, X⟩
 replace hs := hs.ext x1
 replace hn := hn.ext x1
 replace X := Q7x X x1; clear x1
 refine aA rfl (bP rfl (aB (aQ rfl (aF (aA rfl (aE rfl (aA rfl (aE rfl (aB (aW (bN (fD rfl rfl rfl ?_))))))))))))
 · skip
   have e : iU xs = (0, 2) := by rw [iU, if_neg (by rw [hI]; decide)]
   rw [e]; exact ⟨rfl, X⟩
theorem aIk (A : Option Addr) (B c : Nat) (xs : List Int) (w : World) (hs : Sl B w A (xs.flatMap eI)) (hl : xs.length ≤ 1048576) (hcap : xs.length ≤ c) :
   Calls Tryz.prog 30 #[.slice A xs.length c] w (fF fun v w' => v = .tuple #[.int .i64 (iU xs).1, .int .i64 (iU xs).2] ∧ Ext w w') := by
 have Bhs := hs.1
 have X := Q7r w
 refine bJ (args := [.slice A xs.length c]) Tryz.func30 Tryz.ntmps30 rfl rfl (aF (aA rfl (aE rfl (aA rfl (aE rfl (aB (aR (aF (aA rfl (aC rfl (aA rfl (cV aFf rfl (rY _ _ _ _ _ hs hl) (fun w2 hI x1 => ?_) (fun w2 hI x1 => ?_)))))))))))))
 replace hs := hs.ext x1
 replace X := Q7x X x1; clear x1
 have hbm := qO hI
 have hbl := qR hI
 refine aA rfl (bP rfl (aB (aM rfl (aV (aS (aR (aF (aA rfl (aC rfl (aA rfl (aT aHl rfl (aP (wO _ _ c xs _ hs hbl hbm hcap) ?_))))))))))))
 rintro _ w4 ⟨A5, c6, rfl, oD, x3⟩
 replace oD := Own.low oD X.size
 replace hs := hs.ext x3
 replace X := Q7x X x3; clear x3
 refine aA rfl (cV aJd rfl (aDx _ _ _ (zR xs) 0 _ oD.sl (aEW hl)) (fun w9 hD x7 => ?_) (fun w9 hD x7 => ?_))
 replace hs := hs.ext x7
 replace oD := oD.ext x7
 replace X := Q7x X x7; clear x7
 clear oD
 refine aB (aQ rfl (aF (aA rfl (aE rfl (aA rfl (aE rfl (aB (aW (bN (fD rfl rfl rfl ?_))))))))))
 · skip
   have e : iU xs = (0, 7) := by rw [iU, if_pos hI, if_pos hD]
   rw [e]; exact ⟨rfl, X⟩
 replace hs := hs.ext x7
 replace oD := oD.ext x7
 replace X := Q7x X x7; clear x7
 clear oD
 refine aB (aM rfl (aV (aS (aF (aA rfl (aC rfl (aA rfl (aT aCu rfl (aP (rW A B c xs 0 _ hs hl hcap (by omega)) ?_)))))))))
 rintro _ wS ⟨pA, pc, rfl, hpc, hp, xS⟩
 replace hs := hs.ext xS
 replace X := Q7x X xS; clear xS
 have hpl := jT xs 0
 refine aA rfl (aE rfl (aB (aR (aF (aA rfl (aC rfl (aA rfl (bO Tryz.underlying30 rfl (aA rfl (cU rfl rfl (fun h8 => ?_) (fun h8 => ?_)))))))))))
 refine aA rfl (aC rfl (aH rfl rfl rfl rfl (aH rfl rfl rfl rfl (aH rfl rfl rfl rfl (aH rfl rfl rfl rfl (aA rfl (aK rfl rfl (aB (aQ rfl (aF (aA rfl (aE rfl (aA rfl (aE rfl (aB (aW (bN (fD rfl rfl rfl ?_))))))))))))))))))
 · skip
   have e : iU xs = (0, 6) := by rw [iU, if_pos hI, if_neg (by rw [hD]; decide), if_pos (.inl (by omega))]
   rw [e]; exact ⟨rfl, X⟩
 obtain ⟨p0, hp0, _⟩ := eL (xs := (eH xs 0)) (k := 0) (by omega)
 have hr0 := kL hbm 0 p0 (List.mem_of_getElem? hp0)
 obtain ⟨p2, hp2, _⟩ := eL (xs := (eH xs 0)) (k := 2) (by omega)
 have hr2 := kL hbm 0 p2 (List.mem_of_getElem? hp2)
 obtain ⟨p3, hp3, _⟩ := eL (xs := (eH xs 0)) (k := 3) (by omega)
 have hr3 := kL hbm 0 p3 (List.mem_of_getElem? hp3)
 obtain ⟨p4, hp4, _⟩ := eL (xs := (eH xs 0)) (k := 4) (by omega)
 have hr4 := kL hbm 0 p4 (List.mem_of_getElem? hp4)
 have hv : idV (eH xs 0) = p2 * 65536 + p3 * 256 + p4 := by rw [idV, iH hp2, iH hp3, iH hp4]
 have e0 : (eH xs 0).getD 0 0 = p0 := iH hp0
 refine aA rfl (aC rfl (aI rfl rfl rfl (aC rfl (aI rfl rfl rfl (aU hp bI rfl cQ rfl rfl rfl hp0 rfl (aI rfl rfl rfl (bS hp bI hp0 dB rfl rfl rfl (aI rfl rfl rfl (gH rfl rfl (fun hz0 => ?_) (fun hz0 => ?_))))))))))
 refine aA rfl (aK rfl rfl (aB (aQ rfl (aF (aA rfl (aE rfl (aA rfl (aE rfl (aB (aW (bN (fD rfl rfl rfl ?_))))))))))))
 · skip
   have e : iU xs = (0, 6) := by rw [iU, if_pos hI, if_neg (by rw [hD]; decide), if_pos (.inr (by rw [e0]; exact hz0))]
   rw [e]; exact ⟨rfl, X⟩
 refine aA rfl (aK rfl rfl (aB (aM rfl (aV (aS (eK [false, false, false, false, false, false, false, false, false, false, false, false, false, false] mixed (by kernel_rfl) (cO rfl (fun wq sq => aC rfl ⟨rfl, Q7r _⟩) (cO rfl (fun wq sq => aU (hp.ext sq) bI rfl cQ rfl rfl rfl hp2 rfl ⟨rfl, Q7r _⟩) (cO rfl (fun wq sq => bS (hp.ext sq) bI hp2 dB rfl rfl rfl ⟨rfl, Q7r _⟩) (cO rfl (fun wq sq => fO rfl rfl (dM (by omega)) ⟨rfl, Q7r _⟩) (cO rfl (fun wq sq => aC rfl ⟨rfl, Q7r _⟩) (cO rfl (fun wq sq => aU (hp.ext sq) bI rfl cQ rfl rfl rfl hp3 rfl ⟨rfl, Q7r _⟩) (cO rfl (fun wq sq => bS (hp.ext sq) bI hp3 dB rfl rfl rfl ⟨rfl, Q7r _⟩) ?_)))))))))))))
 refine cO rfl (fun wq sq => fO rfl rfl (dM (by omega)) ⟨rfl, Q7r _⟩) (cO rfl (fun wq sq => aY rfl rfl (dM (by omega)) ⟨rfl, Q7r _⟩) (cO rfl (fun wq sq => aC rfl ⟨rfl, Q7r _⟩) (cO rfl (fun wq sq => aU (hp.ext sq) bI rfl cQ rfl rfl rfl hp4 rfl ⟨rfl, Q7r _⟩) (cO rfl (fun wq sq => bS (hp.ext sq) bI hp4 dB rfl rfl rfl ⟨rfl, Q7r _⟩) (cO rfl (fun wq sq => aY rfl rfl (dM (by omega)) ⟨rfl, Q7r _⟩) (cO rfl (fun wq sq => aE rfl ⟨rfl, Q7r _⟩) (dX (fun w10 sq => ?_))))))))
 have xq := sq
 replace hs := hs.ext xq
 replace hp := hp.ext xq
 replace X := Q7x X xq; clear xq sq
 refine aB (aR (aF (aA rfl (aC rfl (aA rfl (dP rfl rfl (fun hid => ?_) (fun hid => ?_)))))))
 refine aB (aQ rfl (aF (aA rfl (aE rfl (aA rfl (aE rfl (aB (aW (bN (fD rfl rfl rfl ?_))))))))))
 · skip
   have e : iU xs = (0, 6) := by rw [iU, if_pos hI, if_neg (by rw [hD]; decide), if_neg (by rw [e0]; omega), if_pos (by rw [hv]; exact hid)]
   rw [e]; exact ⟨rfl, X⟩
 refine aB (aM rfl (aV (aS (aF (aA rfl (aC rfl (aA rfl (aE rfl (aA rfl (aE rfl (aB (aW (fD rfl rfl rfl ?_)))))))))))))
 · skip
   have e : iU xs = (p2 * 65536 + p3 * 256 + p4, 0) := by rw [iU, if_pos hI, if_neg (by rw [hD]; decide), if_neg (by rw [e0]; omega), hv, if_neg (by omega)]
   rw [e]; exact ⟨rfl, X⟩
 replace hs := hs.ext x1
 replace X := Q7x X x1; clear x1
 refine aA rfl (bP rfl (aB (aQ rfl (aF (aA rfl (aE rfl (aA rfl (aE rfl (aB (aW (bN (fD rfl rfl rfl ?_))))))))))))
 · skip
   have e : iU xs = (0, 2) := by rw [iU, if_neg (by rw [hI]; decide)]
   rw [e]; exact ⟨rfl, X⟩
end Go.Proofs.YtdoibplhbdkapaaGreatDoor
