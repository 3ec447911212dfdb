/- Parts. No condition. -/
import Derived.Test.YtdoibplhbdkapaaGreatDoorDOP27
import Derived.Test.YtdoibplhbdkapaaGreatDoorDOP12
import Derived.Test.YtdoibplhbdkapaaGreatDoorDOP9
import Derived.Test.YtdoibplhbdkapaaGreatDoorDOP17
import Derived.Test.YtdoibplhbdkapaaGreatDoorDOP14
import Derived.Test.YtdoibplhbdkapaaGreatDoorDOP4
import Derived.Test.YtdoibplhbdkapaaGreatDoorDOP10
import Derived.Test.YtdoibplhbdkapaaGreatDoorDOP18
import Derived.Test.YtdoibplhbdkapaaGreatDoorDOP13
import Derived.Test.YtdoibplhbdkapaaGreatDoorDOP5
import Derived.Test.YtdoibplhbdkapaaGreatDoorDOP2
import Derived.ProofKit
import Derived.OpenShut
import Derived.Test.YtdoibplhbdkapaaGreatDoorCards
namespace Go.Proofs.YtdoibplhbdkapaaGreatDoor
open Go.RowKit
set_option linter.unusedVariables false
set_option linter.unusedSimpArgs false
set_option maxRecDepth 20000
def tB (xs : List Int) : MedlD × Int := if (fY xs).2 ≠ 0 then (zeroM.d, (fY xs).2) else iI (fY xs).1
theorem uQ {xs : List Int} (h : (fY xs).2 = 0) : nU (fY xs).1 = true := by
 unfold fY at h ⊢
 split at h
 · rename_i hI
   rw [if_pos hI]
   unfold iG at h ⊢
   split at h
   · exact absurd h (by decide)
   · rename_i h1
     rw [if_neg h1]
     split at h
     · rename_i h2
       rw [if_pos h2]
       have h3 := aDP (qO hI)
       simp only [nU, Bool.and_eq_true, decide_eq_true_eq]
       exact ⟨by have := h2.1; omega, List.all_eq_true.2 fun x hx => eO.2 (h3 x hx)⟩
     · exact absurd h (by decide)
 · exact absurd h (by decide)
theorem aEh {m : MedlI} (h : lK m.d = true) : m.small := by
 have wf := qK.1 h
 exact uP wf.nt wf.mt wf.st
theorem aAN {m : MedlI} {xs : List Int} (e : m.d = (iI xs).1) : m.small := by
 have hz : m.d = zeroM.d → m.small := fun e => MedlI.small_of (m := zeroM) e tQ
 unfold iI at e
 split at e
 · exact hz e
 · split at e
   · exact hz e
   · split at e
     · rename_i d hd hI
       exact aEh (by rw [e]; exact hI)
     · exact hz e
theorem aAO {m : MedlI} {xs : List Int} (e : m.d = (jW xs).1) : m.small := by
 unfold jW at e
 split at e
 · exact aAN e
 · exact MedlI.small_of (m := zeroM) e tQ
theorem aAP {m : MedlI} {xs : List Int} (e : m.d = (tB xs).1) : m.small := by
 unfold tB at e
 split at e
 · exact MedlI.small_of (m := zeroM) e tQ
 · exact aAN e
theorem MOwn.grownX {w w' : World} {lo : Nat} {tN tM tI tS : TypeId} {m : MedlI} {row : Option Nat} (h : MOwn w lo tN tM tI tS m) (hg : w.grownBy w' row) (hr : ∀ g, row = some g → g < lo) : MOwn w' lo tN tM tI tS m :=
 ⟨h.on.grown hg (fun g hg2 e => absurd (hr g hg2) (Nat.not_lt.2 (Own.lt h.on e).1)), h.om.grown hg (fun g hg2 e => absurd (hr g hg2) (Nat.not_lt.2 (Own.lt h.om e).1)),
  h.ox.grownX hg (fun x hx g hg2 e => absurd (hr g hg2) (Nat.not_lt.2 (Own.lt (h.ox x hx).1 e).1)), h.od, h.os.grown hg (fun g hg2 e => absurd (hr g hg2) (Nat.not_lt.2 (Own.lt h.os e).1))⟩
theorem aJB (A : Option Addr) (B c : Nat) (xs : List Int) (w : World) (hs : Sl B w A (xs.flatMap eI)) (hl : xs.length ≤ 1048576) (hcap : xs.length ≤ c) :
   Calls Tryz.prog 22 #[.slice A xs.length c] w (fF fun v w' => ∃ m', v = .tuple #[.agg m'.cells.toArray, .int .i64 (tB xs).2] ∧ m'.d = (tB xs).1 ∧ MOwn w' w.heap.size 59 92 2 89 m' ∧ Ext w w') := by
 have Bhs := hs.1
 have X := Q7r w
 refine bJ (args := [.slice A xs.length c]) Tryz.func22 Tryz.ntmps22 rfl rfl (aF (aA rfl (dT dW ?_)))
 intro g2 w2 eg2 b2 x1 zg2
 have lg2 : w.heap.size ≤ g2 := Q7l X.size (Q7e eg2.symm)
 have pg2hs := Q7l hs.1 (Q7e eg2.symm)
 replace hs := hs.ext x1
 replace X := Q7x X x1; clear x1
 refine aA rfl (aE rfl (aB (aF (aA rfl (aC rfl (aA rfl (aT aLs rfl (aP (aIa _ _ _ _ _ hs hl hcap) ?_))))))))
 rintro _ w4 ⟨A5, c6, rfl, oD, x3⟩
 replace oD := Own.low oD X.size
 replace hs := hs.ext x3
 replace b2 := b2.ext x3
 replace X := Q7x X x3; clear x3
 refine aA rfl (aC rfl (aA rfl (cX rfl rfl (aA rfl (cX rfl rfl (aA rfl (aE rfl (aA rfl (aE rfl (aB (aR (aF (aA rfl (aC rfl (aA rfl (gH rfl rfl (fun hD => ?_) (fun hD => ?_)))))))))))))))))
 refine aB (aQ rfl (aF (aA rfl (dA nJ dW rfl rfl (aA rfl (aC rfl (aA rfl (bK b2 dW rfl rfl rfl rfl rfl rfl ?_))))))))
 intro w9 b5 hg7 z10
 replace hs := hs.grown hg7 (by intro g hg; injection hg; omega)
 replace oD := oD.grownBlk hg7 (Own.neT oD b2 (by decide))
 replace X := X.grown hg7 X.size (by intro g hg; injection hg; omega)
 clear hg7 b2
 refine aA rfl (aE rfl (aB (aW (bN (eJ rfl rfl b5 dW rfl rfl ?_)))))
 · skip
   have e : tB xs = (zeroM.d, (fY xs).2) := by rw [tB, if_pos hD]
   rw [e]; exact ⟨zeroM, rfl, rfl, fR _ _ _ _ _ _, X⟩
 refine aB (aM rfl (aV (aS (aF (aA rfl (aC rfl (aA rfl (aT aJc rfl (aP (aBC _ _ _ (fY xs).1 _ oD.sl (qR (uQ (by simpa using hD))) (uQ (by simpa using hD)) oD.cap) ?_)))))))))
 rintro _ w12 ⟨mR, rfl, eR, oR, x11⟩
 replace oR := MOwn.low oR X.size
 replace hs := hs.ext x11
 replace b2 := b2.ext x11
 replace oD := oD.ext x11
 replace X := Q7x X x11
 refine aA rfl (cX rfl rfl (aA rfl (cX rfl rfl (aA rfl (bK b2 dW rfl rfl rfl rfl rfl rfl ?_)))))
 intro w16 b5 hg15 z17
 replace hs := hs.grown hg15 (by intro g hg; injection hg; omega)
 replace oD := oD.grownBlk hg15 (Own.neT oD b2 (by decide))
 replace oR := oR.grownB b2 hg15 ⟨by decide, by decide, by decide, by decide⟩
 replace X := X.grown hg15 X.size (by intro g hg; injection hg; omega)
 clear hg15 b2
 refine aA rfl (aE rfl (aB (aW (eJ rfl rfl b5 dW rfl rfl ?_))))
 · skip
   have hD0 : (fY xs).2 = 0 := by simpa using hD
   have e : tB xs = iI (fY xs).1 := by rw [tB, if_neg (by simpa using hD)]
   rw [e]; exact ⟨mR, rfl, eR, oR, X⟩
theorem aJC (A : Option Addr) (B c : Nat) (xs : List Int) (w : World) (hs : Sl B w A (xs.flatMap eI)) (hl : xs.length ≤ 1048576) (hcap : xs.length ≤ c) :
   Calls Tryz.prog 20 #[.slice A xs.length c] w (fF fun v w' => ∃ m', v = .tuple #[.agg m'.cells.toArray, .int .i64 (tB xs).2] ∧ m'.d = (tB xs).1 ∧ MOwn w' w.heap.size 59 92 2 89 m' ∧ Ext w w') := by
 have Bhs := hs.1
 have X := Q7r w
 refine bJ (args := [.slice A xs.length c]) Tryz.func20 Tryz.ntmps20 rfl rfl (aF (aA rfl (dT dW ?_)))
 intro g2 w2 eg2 b2 x1 zg2
 have lg2 : w.heap.size ≤ g2 := Q7l X.size (Q7e eg2.symm)
 have pg2hs := Q7l hs.1 (Q7e eg2.symm)
 replace hs := hs.ext x1
 replace X := Q7x X x1; clear x1
 refine aA rfl (aE rfl (aB (aF (aA rfl (aC rfl (aA rfl (aT aLr rfl (aP (aH9 _ _ _ _ _ hs hl hcap) ?_))))))))
 rintro _ w4 ⟨A5, c6, rfl, oD, x3⟩
 replace oD := Own.low oD X.size
 replace hs := hs.ext x3
 replace b2 := b2.ext x3
 replace X := Q7x X x3; clear x3
 refine aA rfl (aC rfl (aA rfl (cX rfl rfl (aA rfl (cX rfl rfl (aA rfl (aE rfl (aA rfl (aE rfl (aB (aR (aF (aA rfl (aC rfl (aA rfl (gH rfl rfl (fun hD => ?_) (fun hD => ?_)))))))))))))))))
 refine aB (aQ rfl (aF (aA rfl (dA nJ dW rfl rfl (aA rfl (aC rfl (aA rfl (bK b2 dW rfl rfl rfl rfl rfl rfl ?_))))))))
 intro w9 b5 hg7 z10
 replace hs := hs.grown hg7 (by intro g hg; injection hg; omega)
 replace oD := oD.grownBlk hg7 (Own.neT oD b2 (by decide))
 replace X := X.grown hg7 X.size (by intro g hg; injection hg; omega)
 clear hg7 b2
 refine aA rfl (aE rfl (aB (aW (bN (eJ rfl rfl b5 dW rfl rfl ?_)))))
 · skip
   have e : tB xs = (zeroM.d, (fY xs).2) := by rw [tB, if_pos hD]
   rw [e]; exact ⟨zeroM, rfl, rfl, fR _ _ _ _ _ _, X⟩
 refine aB (aM rfl (aV (aS (aF (aA rfl (aC rfl (aA rfl (aT aI1 rfl (aP (aE7 _ _ _ (fY xs).1 _ oD.sl (aGA xs) oD.cap) ?_)))))))))
 rintro _ w12 ⟨mR, rfl, eR, oR, x11⟩
 replace oR := MOwn.low oR X.size
 replace hs := hs.ext x11
 replace b2 := b2.ext x11
 replace oD := oD.ext x11
 replace X := Q7x X x11
 refine aA rfl (cX rfl rfl (aA rfl (cX rfl rfl (aA rfl (bK b2 dW rfl rfl rfl rfl rfl rfl ?_)))))
 intro w16 b5 hg15 z17
 replace hs := hs.grown hg15 (by intro g hg; injection hg; omega)
 replace oD := oD.grownBlk hg15 (Own.neT oD b2 (by decide))
 replace oR := oR.grownB b2 hg15 ⟨by decide, by decide, by decide, by decide⟩
 replace X := X.grown hg15 X.size (by intro g hg; injection hg; omega)
 clear hg15 b2
 refine aA rfl (aE rfl (aB (aW (eJ rfl rfl b5 dW rfl rfl ?_))))
 · skip
   have hD0 : (fY xs).2 = 0 := by simpa using hD
   have e : tB xs = iI (fY xs).1 := by rw [tB, if_neg (by simpa using hD)]
   have e9 : jW (fY xs).1 = iI (fY xs).1 := by rw [jW, if_pos (uQ hD0)]
   rw [e9] at eR ⊢
   rw [e]; exact ⟨mR, rfl, eR, oR, X⟩
theorem aJD (xs : List SlotI) : stB xs = (xs.length : Int) :: xs.flatMap zG := by unfold stB stP; rw [List.take_length]
theorem aDe {xs : List Int} (hB : nU xs = true) {a : Nat} (ha : a + 7 ≤ xs.length) (hv : vAt xs (a + 2) = true) : zG (wU xs a) = (xs.drop a).take 7 := by
 have g0 := gB hB a
 have g1 := gB hB (a + 1)
 have g2 := gB hB (a + 2)
 have g3 := gB hB (a + 2 + 1)
 have g4 := gB hB (a + 2 + 2)
 have g5 := gB hB (a + 2 + 3)
 have g6 := gB hB (a + 2 + 4)
 have hd : fP (dAt xs (a + 2)) = true := by
   have : vAt xs (a + 2) = (fP (dAt xs (a + 2)) && decide (xs.getD (a + 2 + 4) 0 ≤ 1)) := rfl
   rw [this] at hv; simp only [Bool.and_eq_true] at hv; exact hv.1
 have h5 := wE hd g2 g3 g4 g5 g6
 have hv' : pF (xs.getD (a + 2) 0) (xs.getD (a + 2 + 1) 0) (xs.getD (a + 2 + 2) 0) (xs.getD (a + 2 + 3) 0) (xs.getD (a + 2 + 4) 0) = true := hv
 rw [hv'] at h5
 have h6 := of_decide_eq_true h5.symm
 have e : zG (wU xs a) = [xs.getD a 0 / 16 * 16 + xs.getD a 0 % 16, xs.getD (a + 1) 0] ++ mL (qA (xs.getD (a + 2) 0) (xs.getD (a + 2 + 1) 0) (xs.getD (a + 2 + 2) 0) (xs.getD (a + 2 + 3) 0) (xs.getD (a + 2 + 4) 0)) := rfl
 rw [e, h6, show xs.getD a 0 / 16 * 16 + xs.getD a 0 % 16 = xs.getD a 0 by omega]
 rw [mG (show a < xs.length by omega), mG (show a + 1 < xs.length by omega), List.take_succ_cons, List.take_succ_cons, show a + 1 + 1 = a + 2 from rfl, aCe (show a + 2 + 5 ≤ xs.length by omega)]
 rfl
theorem aAQ {xs : List Int} (hB : nU xs = true) : ∀ (n a : Nat) (l : List SlotI), jR xs n a = some l → l.flatMap zG = (xs.drop a).take (7 * n)
 | 0, a, l, h => by simp [jR] at h; subst h; simp
 | n + 1, a, l, h => by
   rw [jR] at h
   split at h
   · rename_i h1
     cases h2 : jR xs n (a + 7) with
     | none => rw [h2] at h; simp at h
     | some q =>
       rw [h2] at h
       simp only [Option.map_some, Option.some.injEq] at h
       have ih := aAQ hB n _ q h2
       rw [← h, List.flatMap_cons, aDe hB h1.1 h1.2, ih, show 7 * (n + 1) = 7 + 7 * n by omega, List.take_add, List.drop_drop]
   · cases h
theorem aG1 {xs : List Int} (hB : nU xs = true) {l : List SlotI} (h : jI xs = some l) : stB l = xs.take (1 + 7 * l.length) := by
 obtain ⟨h1, h2, h3⟩ := aAe h
 have hne : xs.length ≠ 0 := by omega
 have hg := gB hB 0
 have hp : jR xs (xs.getD 0 0).toNat 1 = some l := by
   unfold jI at h
   rw [if_neg hne] at h
   split at h
   · rename_i q hq
     split at h
     · injection h with h; rw [hq, h]
     · cases h
   · cases h
 have h4 := aAQ hB _ _ _ hp
 rw [aJD, h4, h1]
 have e : xs = xs.getD 0 0 :: xs.drop 1 := by
   have := mG (xs := xs) (a := 0) (by omega)
   simpa using this
 have e2 : xs.take (1 + 7 * (xs.getD 0 0).toNat) = xs.getD 0 0 :: (xs.drop 1).take (7 * (xs.getD 0 0).toNat) := by
   conv => lhs; rw [e]
   rw [Nat.add_comm 1, List.take_succ_cons]
   rw [← e]
 rw [e2, Int.toNat_of_nonneg hg.1]
theorem aJE (ms : List Mode) : qU ms ms.length = (ms.length : Int) :: ms.flatMap vO := by unfold qU; rw [List.take_length]
theorem aAR {xs : List Int} (hB : nU xs = true) : ∀ (n a : Nat) (r : List Mode × Nat), iY xs n a = some r → a ≤ r.2 ∧ r.1.flatMap vO = (xs.drop a).take (r.2 - a)
 | 0, a, r, h => by simp [iY] at h; subst h; simp
 | n + 1, a, r, h => by
   rw [iY] at h
   split at h
   · rename_i h1
     have g2 : 0 ≤ xs.getD (a + 2) 0 := by
       have := iE (k := a + 2) (x := xs.getD (a + 2) 0) hB (by rw [List.getD_eq_getElem?_getD, List.getElem?_eq_getElem (by omega)]; rfl)
       exact this.1
     obtain ⟨m, hm⟩ : ∃ m : Nat, xs.getD (a + 2) 0 = (m : Int) := ⟨_, (Int.toNat_of_nonneg g2).symm⟩
     rw [hm, Int.toNat_natCast] at h h1
     cases h2 : iY xs n (a + 3 + m) with
     | none => rw [h2] at h; simp at h
     | some q =>
       rw [h2] at h
       simp only [Option.map_some, Option.some.injEq] at h
       obtain ⟨h3, h4⟩ := aAR hB n _ q h2
       subst h
       refine ⟨by simp only; omega, ?_⟩
       have hnl : ((xs.drop (a + 3)).take m).length = m := by simp; omega
       simp only [List.flatMap_cons, h4, vO, hnl]
       have gd : ∀ k, k < xs.length → xs.drop k = xs.getD k 0 :: xs.drop (k + 1) := fun k hk => by
         rw [List.drop_eq_getElem_cons hk, List.getD_eq_getElem?_getD, List.getElem?_eq_getElem hk]; rfl
       rw [gd a (by omega), gd (a + 1) (by omega), gd (a + 1 + 1) (by omega), show a + 1 + 1 = a + 2 from rfl, hm, show q.2 - a = (m + (q.2 - (a + 3 + m))) + 1 + 1 + 1 by omega]
       simp only [List.take_succ_cons, List.cons_append, List.nil_append, show a + 2 + 1 = a + 3 from rfl]
       rw [List.take_add, List.drop_drop]
   · cases h
theorem aG2 {xs : List Int} (hB : nU xs = true) {r : List Mode × Nat} (h : lF xs = some r) : qU r.1 r.1.length = xs.take r.2 := by
 have hne : xs.length ≠ 0 := fun e => by rw [nF e] at h; cases h
 have hp : iY xs (xs.getD 0 0).toNat 1 = some r := by
   unfold lF at h
   rw [if_neg hne] at h
   split at h
   · rename_i q hq
     split at h
     · injection h with h; rw [hq, h]
     · cases h
   · cases h
 obtain ⟨h3, h4⟩ := aAR hB _ _ _ hp
 have h5 := (aCb xs _ _ _ hp (by omega)).2
 have g0 : 0 ≤ xs.getD 0 0 := (iE (k := 0) (x := xs.getD 0 0) hB (by rw [List.getD_eq_getElem?_getD, List.getElem?_eq_getElem (by omega)]; rfl)).1
 have e : xs = xs.getD 0 0 :: xs.drop 1 := by
   have hk : 0 < xs.length := by omega
   have := List.drop_eq_getElem_cons hk
   rw [List.drop_zero] at this
   rw [List.getD_eq_getElem?_getD, List.getElem?_eq_getElem hk]; exact this
 rw [aJE, h4, h5, Int.toNat_of_nonneg g0]
 have e2 : xs.take r.2 = xs.getD 0 0 :: (xs.drop 1).take (r.2 - 1) := by
   conv => lhs; rw [e]
   rw [show r.2 = (r.2 - 1) + 1 by omega, List.take_succ_cons]
   simp only [Nat.add_sub_cancel]
 rw [e2]
theorem aIm {d : MedlD} (h : lK d = true) (hl : (jV d).length ≤ 868) : nU (vM (jV d)) = true := by
 have hb := aID (aEY h) hl
 have h1 := sM (jV d)
 have h2 : nB (jV d).length ≤ 31 := by unfold nB; split <;> omega
 simp only [nU, Bool.and_eq_true, decide_eq_true_eq]
 exact ⟨by omega, List.all_eq_true.2 fun x hx => eO.2 (hb x hx)⟩
theorem aIn {d : MedlD} (h : lK d = true) (hl : (jV d).length ≤ 868) : iU (vM (jV d)) = (d.id, 0) := by
 have hid := eO.1 (qK.1 h).id
 have hlen := rI (jV d) 0
 have e : ∃ R, jV d = d.id / 65536 :: d.id / 256 % 256 :: d.id % 256 :: R := ⟨rA d.ns ++ (qU d.ms d.ms.length ++ stB d.ss), by unfold jV; simp [List.append_assoc, idB]⟩
 obtain ⟨R, eR⟩ := e
 have hL : 3 ≤ (jV d).length := by rw [eR]; simp
 have e2 : ∃ y T, jN (jV d) 0 = 0 :: y :: d.id / 65536 :: d.id / 256 % 256 :: d.id % 256 :: T := by
   unfold jN jK iJ
   rw [eR]
   exact ⟨_, _, rfl⟩
 obtain ⟨y, T, e3⟩ := e2
 rw [iU, if_pos (aIm h hl), aIC, if_neg (by decide), aHc _ (aEk _)]
 rw [e3] at hlen ⊢
 rw [if_neg (by rw [hlen]; simp only [List.getD_cons_zero]; omega)]
 have hv : idV (0 :: y :: d.id / 65536 :: d.id / 256 % 256 :: d.id % 256 :: T) = d.id := by
   show d.id / 65536 * 65536 + d.id / 256 % 256 * 256 + d.id % 256 = d.id
   omega
 rw [hv, if_neg (by omega)]
theorem aG3 : ∀ {xs : List Int}, nU xs = true → ¬ xs.length < 3 → idB (aDd xs) = xs.take 3
 | [], _, h => absurd (by decide : ([] : List Int).length < 3) h
 | [a], _, h => absurd (by show 1 < 3; decide) h
 | [a, b], _, h => absurd (by show 2 < 3; decide) h
 | a :: b :: c :: t, hB, _ => by
   have h := qO hB
   have ha := h a (by simp)
   have hb := h b (by simp)
   have hc := h c (by simp)
   show [(a * 65536 + b * 256 + c) / 65536, (a * 65536 + b * 256 + c) / 256 % 256, (a * 65536 + b * 256 + c) % 256] = [a, b, c]
   simp only [List.cons.injEq, and_true]
   omega
theorem aIo     {xs : List Int} {d : MedlD} (hB : nU xs = true) (h : iI xs = (d, 0)) : lK d = true ∧ jV d = xs := by
 unfold iI at h
 split at h
 · exact absurd (congrArg Prod.snd h) (show ¬ (6 : Int) = 0 by decide)
 · rename_i h3
   split at h
   · exact absurd (congrArg Prod.snd h) (show ¬ (6 : Int) = 0 by decide)
   · rename_i d' hd
     split at h
     · rename_i hI
       obtain rfl : d' = d := congrArg Prod.fst h
       refine ⟨hI, ?_⟩
       unfold qX at hd
       split at hd
       · cases hd
       · rename_i n hn
         split at hd
         · cases hd
         · rename_i r hr
           split at hd
           · cases hd
           · rename_i l hl
             split at hd
             · rename_i hle
               injection hd with hd
               subst hd
               have b1 := gR hB 3
               have b2 := gR b1 n.2
               have b3 := gR b2 r.2
               have e1 := (aAM hn).2.1
               have e2 := aG2 b2 hr
               have e3 := aG1 b3 hl
               rw [hle, List.take_length] at e3
               show idB (aDd xs) ++ rA n.1 ++ qU r.1 r.1.length ++ stB l = xs
               rw [e1, e2, e3, List.append_assoc, List.append_assoc, List.take_append_drop, List.take_append_drop, aG3 hB h3, List.take_append_drop]
             · cases hd
     · exact absurd (congrArg Prod.snd h) (show ¬ (1 : Int) = 0 by decide)
theorem aIp {xs : List Int} {d : MedlD} (h : tB xs = (d, 0)) : lK d = true ∧ zO d = (xs, 0) ∧ iU xs = (d.id, 0) := by
 unfold tB at h
 split at h
 · rename_i h0; exact absurd (congrArg Prod.snd h) h0
 · rename_i h0
   have h0' : (fY xs).2 = 0 := by simpa using h0
   obtain ⟨hI, hs⟩ := aIo (uQ h0') h
   have hX : nU xs = true := by
     cases hc : nU xs with
     | true => rfl
     | false => rw [fY, if_neg (by rw [hc]; decide)] at h0'; exact absurd h0' (by decide)
   have hF : iG xs = ((fY xs).1, 0) := by
     have e : fY xs = iG xs := by rw [fY, if_pos hX]
     rw [← e]
     exact Prod.ext rfl h0'
   obtain ⟨hl, him⟩ := aEm hF
   rw [← hs] at hl him
   refine ⟨hI, by rw [zO, if_pos hI, if_pos hl, him], ?_⟩
   have h5 := aIn hI hl
   rw [him] at h5; exact h5
theorem aK6 (A : Option Addr) (c : Nat) (bs : List UInt8) (w : World)  :
   Calls Tryz.prog 11 #[.slice A bs.length c] w (fF fun v w' => v = .bool (decide ((4096 : Int) < bs.length)) ∧ Ext w w') := by
 have X := Q7r w
 exact bJ (args := [.slice A bs.length c]) Tryz.func11 Tryz.ntmps11 rfl rfl (aF (aA rfl (aE rfl (aB (aF (aA rfl (aC rfl (aA rfl (bO Tryz.underlying22 rfl (aA rfl (rZ rfl rfl (aA rfl (aE rfl (aB (aW (aL rfl rfl ⟨by rfl, X⟩))))))))))))))))
theorem aAS (A A' : Option Addr) (B B' c c' : Nat) (xs : List Int) (w : World) (hs : Sl B w A (xs.flatMap eI)) (ht : Sl B' w A' (xs.flatMap eI)) (hl : xs.length ≤ 1048576) :
   Calls Tryz.prog 17 #[.slice A xs.length c, .slice A' xs.length c'] w (fF fun v w' => v = .bool true ∧ Ext w w') := by
 have Bhs := hs.1
 have Bht := ht.1
 have X := Q7r w
 refine bJ (args := [.slice A xs.length c, .slice A' xs.length c']) Tryz.func17 Tryz.ntmps17 rfl rfl (aF (aA rfl (aE rfl (aB (aR (aF (aA rfl (aC rfl (aA rfl (bO Tryz.underlying30 rfl (aA rfl (aC rfl (aA rfl (bO Tryz.underlying30 rfl (aA rfl (gH rfl rfl (fun h1 => absurd h1 (by simp)) (fun h1 => aB (aM rfl (aV (aS (aR (aF (aA rfl (aE rfl (aB (aX (dG (G := Nat) (fun k => [(0, .slice A xs.length c), (1, .slice A' xs.length c'), (5, .int .i64 (k : Nat))]) (fun k wr => k ≤ xs.length ∧ Sl B wr A (xs.flatMap eI) ∧ Sl B' wr A' (xs.flatMap eI) ∧ Ext w wr) (fun k => xs.length - k) 0 (.cons rfl (.cons rfl (.cons rfl (.nil _)))) ?_ ?_)))))))))))))))))))))))))))
 · exact ⟨by omega, hs, ht, X⟩
 clear hs ht
 clear X
 rintro k wr ⟨hk0, hs, ht, X⟩
 refine aR (aF (aA rfl (aC rfl (aA rfl (aC rfl (aA rfl (bO Tryz.underlying30 rfl (aA rfl (cU rfl rfl (fun hk => ?_) (fun hk => ?_))))))))))
 obtain ⟨x, hx, dx⟩ := dR hk
 refine aB (aQ rfl (aV (aS (aR (aX (eK [false, false, false, false, false, false, false, false, false] mixed (by kernel_rfl) (cO rfl (fun wq sq => aC rfl ⟨rfl, Q7r _⟩) (cO rfl (fun wq sq => aC rfl ⟨rfl, Q7r _⟩) (cO rfl (fun wq sq => aU (hs.ext sq) bI rfl cQ rfl rfl rfl hx rfl ⟨rfl, Q7r _⟩) (cO rfl (fun wq sq => bS (hs.ext sq) bI hx dB rfl rfl rfl ⟨rfl, Q7r _⟩) (cO rfl (fun wq sq => aC rfl ⟨rfl, Q7r _⟩) (cO rfl (fun wq sq => aC rfl ⟨rfl, Q7r _⟩) (cO rfl (fun wq sq => aU (ht.ext sq) bI rfl cQ rfl rfl rfl hx rfl ⟨rfl, Q7r _⟩) (cO rfl (fun wq sq => bS (ht.ext sq) bI hx dB rfl rfl rfl ⟨rfl, Q7r _⟩) ?_))))))))))))))
 refine uZ rfl (fun wq sq => nE rfl rfl ⟨rfl, Q7r _⟩) (fun h2 => absurd h2 (by simp)) (fun h2 => dX (fun w3 sq => ?_))
 have xq := sq
 replace hs := hs.ext xq
 replace ht := ht.ext xq
 replace X := Q7x X xq; clear xq sq
 refine aB (aM rfl (aV (dO (aS (aN (aA rfl (aC rfl (aA rfl (aY rfl rfl (dM (by omega)) (aA rfl (aE rfl (aB (aS ⟨k + 1, (.cons rfl (.cons rfl (.cons rfl (.nil _)))), ?_, ?_⟩)))))))))))))
 · exact ⟨by omega, hs, ht, X⟩
 · omega
 exact aB (aM rfl (dD (dC (dC (eG (aS (aF (aA rfl (aE rfl (aB (aW (aL rfl rfl ⟨by rfl, X⟩))))))))))))
theorem aCh (d : NodeI) (w : World) (k : Nat) : (Op.equalIn (k + 2) 59 (.agg d.cells.toArray) (.agg d.cells.toArray)).run Tryz.prog w = .ok true w := by
 rw [run_equalIn_agg w (k + 1) 59 _ _ (by kernel_rfl) (by kernel_rfl)]
 simp only [Program.fieldsOf, Tryz.underlying59, NodeI.cells]
 simp [Op.eqFields, part, run_equalIn_int w k 2 _ _ _ _ Tryz.underlying2, run_equalIn_bool' w k 4 _ _ Tryz.underlying4, run_equalIn_string w k 9 _ _ Tryz.underlying9]
theorem aDf (d : Desc) (w : World) (k : Nat) : (Op.equalIn (k + 2) 67 (.agg d.cells.toArray) (.agg d.cells.toArray)).run Tryz.prog w = .ok true w := by
 rw [run_equalIn_agg w (k + 1) 67 _ _ (by kernel_rfl) (by kernel_rfl)]
 simp only [Program.fieldsOf, Tryz.underlying67, Desc.cells]
 simp [Op.eqFields, part, run_equalIn_int w k 2 _ _ _ _ Tryz.underlying2, run_equalIn_bool' w k 4 _ _ Tryz.underlying4]
theorem aCi (d : SlotI) (w : World) (k : Nat) : (Op.equalIn (k + 3) 89 (.agg d.cells.toArray) (.agg d.cells.toArray)).run Tryz.prog w = .ok true w := by
 have h := aDf d.desc w k
 rw [run_equalIn_agg w (k + 2) 89 _ _ (by kernel_rfl) (by kernel_rfl)]
 simp only [Program.fieldsOf, Tryz.underlying89, SlotI.cells]
 simp only [Desc.cells] at h ⊢
 simp [Op.eqFields, part, run_equalIn_int w (k + 1) 2 _ _ _ _ Tryz.underlying2, h]
theorem aDg (A A' : Option Addr) (B B' c c' : Nat) (xs : List NodeI) (w : World) (hs : Sl B w A (xs.flatMap NodeI.cells)) (ht : Sl B' w A' (xs.flatMap NodeI.cells)) (hl : xs.length ≤ 1048576) :
   Calls Tryz.prog 79 #[.slice A xs.length c, .slice A' xs.length c'] w (fF fun v w' => v = .bool true ∧ Ext w w') := by
 have Bhs := hs.1
 have Bht := ht.1
 have X := Q7r w
 refine bJ (args := [.slice A xs.length c, .slice A' xs.length c']) Tryz.func79 Tryz.ntmps79 rfl rfl (aF (aA rfl (aE rfl (aB (aR (aF (aA rfl (aC rfl (aA rfl (bO Tryz.underlying24 rfl (aA rfl (aC rfl (aA rfl (bO Tryz.underlying24 rfl (aA rfl (gH rfl rfl (fun h1 => absurd h1 (by simp)) (fun h1 => aB (aM rfl (aV (aS (aR (aF (aA rfl (aE rfl (aB (aX (dG (G := Nat) (fun k => [(0, .slice A xs.length c), (1, .slice A' xs.length c'), (5, .int .i64 (k : Nat))]) (fun k wr => k ≤ xs.length ∧ Sl B wr A (xs.flatMap NodeI.cells) ∧ Sl B' wr A' (xs.flatMap NodeI.cells) ∧ Ext w wr) (fun k => xs.length - k) 0 (.cons rfl (.cons rfl (.cons rfl (.nil _)))) ?_ ?_)))))))))))))))))))))))))))
 · exact ⟨by omega, hs, ht, X⟩
 clear hs ht
 clear X
 rintro k wr ⟨hk0, hs, ht, X⟩
 refine aR (aF (aA rfl (aC rfl (aA rfl (aC rfl (aA rfl (bO Tryz.underlying24 rfl (aA rfl (cU rfl rfl (fun hk => ?_) (fun hk => ?_))))))))))
 obtain ⟨x, hx, dx⟩ := dR hk
 refine aB (aQ rfl (aV (aS (aR (aX (eK [false, false, false, false, false, false, false, false, false] mixed (by kernel_rfl) (cO rfl (fun wq sq => aC rfl ⟨rfl, Q7r _⟩) (cO rfl (fun wq sq => aC rfl ⟨rfl, Q7r _⟩) (cO rfl (fun wq sq => aU (hs.ext sq) NodeI.len rfl lO rfl rfl rfl hx rfl ⟨rfl, Q7r _⟩) (cO rfl (fun wq sq => eE (hs.ext sq) NodeI.len hx kE rfl ⟨rfl, Q7r _⟩) (cO rfl (fun wq sq => aC rfl ⟨rfl, Q7r _⟩) (cO rfl (fun wq sq => aC rfl ⟨rfl, Q7r _⟩) (cO rfl (fun wq sq => aU (ht.ext sq) NodeI.len rfl lO rfl rfl rfl hx rfl ⟨rfl, Q7r _⟩) (cO rfl (fun wq sq => eE (ht.ext sq) NodeI.len hx kE rfl ⟨rfl, Q7r _⟩) ?_))))))))))))))
 refine cO rfl (fun wq sq => aEV rfl rfl (by kernel_rfl) (fun w => aCh _ w 9998) ⟨rfl, Q7r _⟩) (dX (fun w2 sq => ?_))
 have xq := sq
 replace hs := hs.ext xq
 replace ht := ht.ext xq
 replace X := Q7x X xq; clear xq sq
 refine aB (aM rfl (aV (dO (aS (aN (aA rfl (aC rfl (aA rfl (aY rfl rfl (dM (by omega)) (aA rfl (aE rfl (aB (aS ⟨k + 1, (.cons rfl (.cons rfl (.cons rfl (.nil _)))), ?_, ?_⟩)))))))))))))
 · exact ⟨by omega, hs, ht, X⟩
 · omega
 exact aB (aM rfl (dD (dC (dC (eG (aS (aF (aA rfl (aE rfl (aB (aW (aL rfl rfl ⟨by rfl, X⟩))))))))))))
theorem aDh (A A' : Option Addr) (B B' c c' : Nat) (xs : List SlotI) (w : World) (hs : Sl B w A (xs.flatMap SlotI.cells)) (ht : Sl B' w A' (xs.flatMap SlotI.cells)) (hl : xs.length ≤ 1048576) :
   Calls Tryz.prog 81 #[.slice A xs.length c, .slice A' xs.length c'] w (fF fun v w' => v = .bool true ∧ Ext w w') := by
 have Bhs := hs.1
 have Bht := ht.1
 have X := Q7r w
 refine bJ (args := [.slice A xs.length c, .slice A' xs.length c']) Tryz.func81 Tryz.ntmps81 rfl rfl (aF (aA rfl (aE rfl (aB (aR (aF (aA rfl (aC rfl (aA rfl (bO Tryz.underlying26 rfl (aA rfl (aC rfl (aA rfl (bO Tryz.underlying26 rfl (aA rfl (gH rfl rfl (fun h1 => absurd h1 (by simp)) (fun h1 => aB (aM rfl (aV (aS (aR (aF (aA rfl (aE rfl (aB (aX (dG (G := Nat) (fun k => [(0, .slice A xs.length c), (1, .slice A' xs.length c'), (5, .int .i64 (k : Nat))]) (fun k wr => k ≤ xs.length ∧ Sl B wr A (xs.flatMap SlotI.cells) ∧ Sl B' wr A' (xs.flatMap SlotI.cells) ∧ Ext w wr) (fun k => xs.length - k) 0 (.cons rfl (.cons rfl (.cons rfl (.nil _)))) ?_ ?_)))))))))))))))))))))))))))
 · exact ⟨by omega, hs, ht, X⟩
 clear hs ht
 clear X
 rintro k wr ⟨hk0, hs, ht, X⟩
 refine aR (aF (aA rfl (aC rfl (aA rfl (aC rfl (aA rfl (bO Tryz.underlying26 rfl (aA rfl (cU rfl rfl (fun hk => ?_) (fun hk => ?_))))))))))
 obtain ⟨x, hx, dx⟩ := dR hk
 refine aB (aQ rfl (aV (aS (aR (aX (eK [false, false, false, false, false, false, false, false, false] mixed (by kernel_rfl) (cO rfl (fun wq sq => aC rfl ⟨rfl, Q7r _⟩) (cO rfl (fun wq sq => aC rfl ⟨rfl, Q7r _⟩) (cO rfl (fun wq sq => aU (hs.ext sq) SlotI.len rfl gF rfl rfl rfl hx rfl ⟨rfl, Q7r _⟩) (cO rfl (fun wq sq => eE (hs.ext sq) SlotI.len hx eQ rfl ⟨rfl, Q7r _⟩) (cO rfl (fun wq sq => aC rfl ⟨rfl, Q7r _⟩) (cO rfl (fun wq sq => aC rfl ⟨rfl, Q7r _⟩) (cO rfl (fun wq sq => aU (ht.ext sq) SlotI.len rfl gF rfl rfl rfl hx rfl ⟨rfl, Q7r _⟩) (cO rfl (fun wq sq => eE (ht.ext sq) SlotI.len hx eQ rfl ⟨rfl, Q7r _⟩) ?_))))))))))))))
 refine cO rfl (fun wq sq => aEV rfl rfl (by kernel_rfl) (fun w => aCi _ w 9997) ⟨rfl, Q7r _⟩) (dX (fun w2 sq => ?_))
 have xq := sq
 replace hs := hs.ext xq
 replace ht := ht.ext xq
 replace X := Q7x X xq; clear xq sq
 refine aB (aM rfl (aV (dO (aS (aN (aA rfl (aC rfl (aA rfl (aY rfl rfl (dM (by omega)) (aA rfl (aE rfl (aB (aS ⟨k + 1, (.cons rfl (.cons rfl (.cons rfl (.nil _)))), ?_, ?_⟩)))))))))))))
 · exact ⟨by omega, hs, ht, X⟩
 · omega
 exact aB (aM rfl (dD (dC (dC (eG (aS (aF (aA rfl (aE rfl (aB (aW (aL rfl rfl ⟨by rfl, X⟩))))))))))))
theorem aDi (A A' : Option Addr) (B B' B2 B3 c c' : Nat) (xs ys : List ModeI) (w : World) (hs : Sl B w A (xs.flatMap ModeI.cells)) (hn : Nexts B2 w xs) (ht : Sl B' w A' (ys.flatMap ModeI.cells)) (hn2 : Nexts B3 w ys) (em : xs.map (·.m) = ys.map (·.m)) (hl : xs.length ≤ 1048576) (hz : ∀ x ∈ xs, x.m.next.length ≤ 1048576) :
   Calls Tryz.prog 80 #[.slice A xs.length c, .slice A' ys.length c'] w (fF fun v w' => v = .bool true ∧ Ext w w') := by
 have el : xs.length = ys.length := by have := congrArg List.length em; simpa using this
 have Bhs := hs.1
 have Bhn := hn.1
 have Bht := ht.1
 have Bhn2 := hn2.1
 have X := Q7r w
 refine bJ (args := [.slice A xs.length c, .slice A' ys.length c']) Tryz.func80 Tryz.ntmps80 rfl rfl (aF (aA rfl (aE rfl (aB (aR (aF (aA rfl (aC rfl (aA rfl (bO Tryz.underlying25 rfl (aA rfl (aC rfl (aA rfl (bO Tryz.underlying25 rfl (aA rfl (gH rfl rfl (fun h1 => absurd h1 (by rw [el]; simp)) (fun h1 => aB (aM rfl (aV (aS (aR (aF (aA rfl (aE rfl (aB (aX (dG (G := Nat) (fun k => [(0, .slice A xs.length c), (1, .slice A' ys.length c'), (5, .int .i64 (k : Nat))]) (fun k wr => k ≤ xs.length ∧ Sl B wr A (xs.flatMap ModeI.cells) ∧ Nexts B2 wr xs ∧ Sl B' wr A' (ys.flatMap ModeI.cells) ∧ Nexts B3 wr ys ∧ Ext w wr) (fun k => xs.length - k) 0 (.cons rfl (.cons rfl (.cons rfl (.nil _)))) ?_ ?_)))))))))))))))))))))))))))
 · exact ⟨by omega, hs, hn, ht, hn2, X⟩
 clear hs hn ht hn2
 clear X
 rintro k wr ⟨hk0, hs, hn, ht, hn2, X⟩
 refine aR (aF (aA rfl (aC rfl (aA rfl (aC rfl (aA rfl (bO Tryz.underlying25 rfl (aA rfl (cU rfl rfl (fun hk => ?_) (fun hk => ?_))))))))))
 obtain ⟨x, hx, dx⟩ := dR hk
 obtain ⟨y, hy, _⟩ := eL (xs := ys) (k := k) (by omega)
 have exy : x.m = y.m := by have h1 := aCl (f := (·.m)) hx; rw [em, aCl hy] at h1; injection h1 with h1; exact h1.symm
 obtain ⟨my, Ay, cy⟩ := y
 simp only at exy
 subst exy
 have hlx := hz x (List.mem_of_getElem? hx)
 refine aB (aQ rfl (aV (aS (aR (aX (eK [false, false, false, false, false, false, false, false, false, false, false, false, false, false, false, false, false, false, false, false, false, false, false, false, false, false, false, false, false, false, false, false, false, false, false, false, false, false] mixed (by kernel_rfl) (cO rfl (fun wq sq => aC rfl ⟨rfl, Q7r _⟩) (cO rfl (fun wq sq => aC rfl ⟨rfl, Q7r _⟩) (cO rfl (fun wq sq => aU (hs.ext sq) ModeI.len rfl kX rfl rfl rfl hx rfl ⟨rfl, Q7r _⟩) (cO rfl (fun wq sq => dF kQ rfl ⟨rfl, Q7r _⟩) (cO rfl (fun wq sq => eF (hs.ext sq) ModeI.len hx dB rfl rfl rfl ⟨rfl, Q7r _⟩) ?_)))))))))))
 refine cO rfl (fun wq sq => aC rfl ⟨rfl, Q7r _⟩) (cO rfl (fun wq sq => aC rfl ⟨rfl, Q7r _⟩) (cO rfl (fun wq sq => aU (ht.ext sq) ModeI.len rfl kX rfl rfl rfl hy rfl ⟨rfl, Q7r _⟩) (cO rfl (fun wq sq => dF kQ rfl ⟨rfl, Q7r _⟩) (cO rfl (fun wq sq => eF (ht.ext sq) ModeI.len hy dB rfl rfl rfl ⟨rfl, Q7r _⟩) (uZ rfl (fun wq sq => nE rfl rfl ⟨rfl, Q7r _⟩) (fun h2 => absurd h2 (by simp)) (fun h2 => cO rfl (fun wq sq => aC rfl ⟨rfl, Q7r _⟩) (dQ rfl rfl rfl (fun wq sq => aC rfl ⟨rfl, Q7r _⟩) (dQ rfl rfl rfl (fun wq sq => aC rfl ⟨rfl, Q7r _⟩) (dQ rfl rfl rfl (fun wq sq => aU (hs.ext sq) ModeI.len rfl kX rfl rfl rfl hx rfl ⟨rfl, Q7r _⟩) ?_)))))))))
 refine dQ rfl rfl rfl (fun wq sq => dF iP rfl ⟨rfl, Q7r _⟩) (dQ rfl rfl rfl (fun wq sq => eF (hs.ext sq) ModeI.len hx dB rfl rfl rfl ⟨rfl, Q7r _⟩) (dQ rfl rfl rfl (fun wq sq => aC rfl ⟨rfl, Q7r _⟩) (dQ rfl rfl rfl (fun wq sq => aC rfl ⟨rfl, Q7r _⟩) (dQ rfl rfl rfl (fun wq sq => aU (ht.ext sq) ModeI.len rfl kX rfl rfl rfl hy rfl ⟨rfl, Q7r _⟩) (dQ rfl rfl rfl (fun wq sq => dF iP rfl ⟨rfl, Q7r _⟩) (dQ rfl rfl rfl (fun wq sq => eF (ht.ext sq) ModeI.len hy dB rfl rfl rfl ⟨rfl, Q7r _⟩) (qN rfl rfl rfl (fun wq sq => nE rfl rfl ⟨rfl, Q7r _⟩) (fun h3 => absurd h3 (by simp)) (fun h3 => cO rfl (fun wq sq => aK rfl rfl ⟨rfl, Q7r _⟩) ?_))))))))
 refine cO rfl (fun wq sq => aC rfl ⟨rfl, Q7r _⟩) (dQ rfl rfl rfl (fun wq sq => aC rfl ⟨rfl, Q7r _⟩) (dQ rfl rfl rfl (fun wq sq => aC rfl ⟨rfl, Q7r _⟩) (dQ rfl rfl rfl (fun wq sq => aU (hs.ext sq) ModeI.len rfl kX rfl rfl rfl hx rfl ⟨rfl, Q7r _⟩) (dQ rfl rfl rfl (fun wq sq => dF lE rfl ⟨rfl, Q7r _⟩) (dQ rfl rfl rfl (fun wq sq => eF (hs.ext sq) ModeI.len hx mD rfl rfl rfl ⟨rfl, Q7r _⟩) (dQ rfl rfl rfl (fun wq sq => aC rfl ⟨rfl, Q7r _⟩) (dQ rfl rfl rfl (fun wq sq => aC rfl ⟨rfl, Q7r _⟩) (dQ rfl rfl rfl (fun wq sq => aU (ht.ext sq) ModeI.len rfl kX rfl rfl rfl hy rfl ⟨rfl, Q7r _⟩) (dQ rfl rfl rfl (fun wq sq => dF lE rfl ⟨rfl, Q7r _⟩) ?_)))))))))
 refine dQ rfl rfl rfl (fun wq sq => eF (ht.ext sq) ModeI.len hy mD rfl rfl rfl ⟨rfl, Q7r _⟩) (dQ rfl rfl rfl (fun wq sq => aT aI0 rfl (aAS _ _ _ _ _ _ x.m.next _ ((hn.at_ hx).ext sq) ((hn2.at_ hy).ext sq) hlx)) (dQ rfl rfl rfl (fun wq sq => bP rfl ⟨rfl, Q7r _⟩) (cO rfl (fun wq sq => aK rfl rfl ⟨rfl, Q7r _⟩) (dX (fun w4 sq => ?_)))))
 have xq := sq
 replace hs := hs.ext xq
 replace hn := hn.ext xq
 replace ht := ht.ext xq
 replace hn2 := hn2.ext xq
 replace X := Q7x X xq; clear xq sq
 refine aB (aM rfl (aV (dO (aS (aN (aA rfl (aC rfl (aA rfl (aY rfl rfl (dM (by omega)) (aA rfl (aE rfl (aB (aS ⟨k + 1, (.cons rfl (.cons rfl (.cons rfl (.nil _)))), ?_, ?_⟩)))))))))))))
 · exact ⟨by omega, hs, hn, ht, hn2, X⟩
 · first | omega | (dsimp only; omega)
 exact aB (aM rfl (dD (dC (dC (eG (aS (aF (aA rfl (aE rfl (aB (aW (aL rfl rfl ⟨by rfl, X⟩))))))))))))
theorem aCj (m : MedlI) (B B2 : Nat) (A2 : Option Addr) (c2 : Nat) (A3 : Option Addr) (ms2 : List ModeI) (c3 : Nat) (A4 : Option Addr) (c4 : Nat) (w : World) (hm : Med B w m) (h2 : Med B2 w (⟨m.id, A2, m.ns, c2, A3, ms2, c3, A4, m.ss, c4⟩ : MedlI)) (em : ms2.map (·.m) = m.ms.map (·.m)) (hz : m.small) :
   Calls Tryz.prog 19 #[.agg m.cells.toArray, .agg (⟨m.id, A2, m.ns, c2, A3, ms2, c3, A4, m.ss, c4⟩ : MedlI).cells.toArray] w (fF fun v w' => v = .bool true ∧ Ext w w') := by
 have hls := hz.ls
 have hlm := hz.lm
 have hln := hz.ln
 have Bhm := hm.1
 have Bh2 := h2.1
 have X := Q7r w
 refine bJ (args := [.agg m.cells.toArray, .agg (⟨m.id, A2, m.ns, c2, A3, ms2, c3, A4, m.ss, c4⟩ : MedlI).cells.toArray]) Tryz.func19 Tryz.ntmps19 rfl rfl (aF (aA rfl (eX rfl rfl ?_)))
 intro gM w2 egM b0 x1 zgM
 have lgM : w.heap.size ≤ gM := Q7l X.size (Q7e egM.symm)
 have pgMhm := Q7l hm.1 (Q7e egM.symm)
 have pgMh2 := Q7l h2.1 (Q7e egM.symm)
 replace hm := hm.ext x1
 replace h2 := h2.ext x1
 replace X := Q7x X x1; clear x1
 refine aA rfl (eX rfl rfl ?_)
 intro g2 w4 eg2 b1 x3 zg2
 have lg2 : w.heap.size ≤ g2 := Q7l X.size (Q7e eg2.symm)
 have pg2hm := Q7l hm.1 (Q7e eg2.symm)
 have pg2h2 := Q7l h2.1 (Q7e eg2.symm)
 have ng2b0 := Nat.lt_of_lt_of_eq b0.lt eg2.symm
 replace hm := hm.ext x3
 replace h2 := h2.ext x3
 replace b0 := b0.ext x3
 replace X := Q7x X x3; clear x3
 refine aA rfl (aE rfl (aB (aF (aA rfl (aG pL rfl rfl (aA rfl (aJ b0 dB rfl rfl (aA rfl (aG pL rfl rfl (aA rfl (aJ b1 dB rfl rfl (aA rfl (dP rfl rfl (fun h5 => aA rfl (aC rfl (aI rfl rfl rfl (aG lY rfl rfl (aI rfl rfl rfl (aJ b0 zS rfl rfl (aI rfl rfl rfl (aG lY rfl rfl (aI rfl rfl rfl (aJ b1 zS rfl rfl (aI rfl rfl rfl (aT aLo rfl (aP (aDg _ _ _ _ _ _ m.ns _ hm.sn h2.sn hln) ?_))))))))))))) (fun h5 => absurd h5 (by simp)))))))))))))))
 rintro _ w7 ⟨rfl, x6⟩
 replace hm := hm.ext x6
 replace h2 := h2.ext x6
 replace b0 := b0.ext x6
 replace b1 := b1.ext x6
 replace X := Q7x X x6; clear x6
 refine aA rfl (aK rfl rfl (aA rfl (aC rfl (aI rfl rfl rfl (aG jF rfl rfl (aI rfl rfl rfl (aJ b0 tZ rfl rfl (aI rfl rfl rfl (aG jF rfl rfl (aI rfl rfl rfl (aJ b1 tZ rfl rfl (aI rfl rfl rfl (aT aLp rfl (aP (aDi _ _ _ _ _ _ _ _ m.ms ms2 _ hm.sm hm.sx h2.sm h2.sx em.symm hlm hz.lx) ?_))))))))))))))
 rintro _ w9 ⟨rfl, x8⟩
 replace hm := hm.ext x8
 replace h2 := h2.ext x8
 replace b0 := b0.ext x8
 replace b1 := b1.ext x8
 replace X := Q7x X x8; clear x8
 refine aA rfl (aK rfl rfl (aA rfl (aC rfl (aI rfl rfl rfl (aG fI rfl rfl (aI rfl rfl rfl (aJ b0 kY rfl rfl (aI rfl rfl rfl (aG fI rfl rfl (aI rfl rfl rfl (aJ b1 kY rfl rfl (aI rfl rfl rfl (aT aLq rfl (aP (aDh _ _ _ _ _ _ m.ss _ hm.ss h2.ss hls) ?_))))))))))))))
 rintro _ w11 ⟨rfl, x10⟩
 replace hm := hm.ext x10
 replace h2 := h2.ext x10
 replace b0 := b0.ext x10
 replace b1 := b1.ext x10
 replace X := Q7x X x10
 exact aA rfl (aK rfl rfl (aA rfl (aE rfl (aB (aW (aL rfl rfl ⟨by rfl, X⟩))))))
theorem zB (m m2 : MedlI) (B B2 : Nat) (w : World) (hm : Med B w m) (h2 : Med B2 w m2) (e : m2.d = m.d) (hz : m.small) :
   Calls Tryz.prog 19 #[.agg m.cells.toArray, .agg m2.cells.toArray] w (fF fun v w' => v = .bool true ∧ Ext w w') := by
 obtain ⟨id2, An2, ns2, cn2, Am2, ms2, cm2, As2, ss2, cs2⟩ := m2
 simp only [MedlI.d, MedlD.mk.injEq] at e
 obtain ⟨rfl, rfl, e3, rfl⟩ := e
 exact aCj m B B2 An2 cn2 Am2 ms2 cm2 As2 cs2 w hm h2 e3 hz
end Go.Proofs.YtdoibplhbdkapaaGreatDoor
namespace Go.Proofs.YtdoibplhbdkapaaGreatDoor
open Go.RowKit
open Go.ChangeShapes Go.WideShapes Go.ChangeAt Go.RowKit
set_option linter.unusedVariables false
set_option linter.unusedSimpArgs false
theorem vL {H : Type} {enc : TypeId × Value → H} {P : Program} (hl : laidOutB P = true) {W W' : World} (hb : Ext W W') : ∀ (ts : List TypeId) (vs : List Value) (ds : List (DataW H)) (ps : List MemPlace),
   ts.all (fun t => P.readableRec t && decide (t < P.types.size)) = true → DataW.TrodAll enc P W 0 (fun _ => true) true ts vs ds ps → (∀ x ∈ ps, x.block < W.heap.size) →
   DataW.TrodAll enc P W' 0 (fun b => decide (b < W.heap.size)) true ts vs ds ps
 | [], vs, ds, ps, _, h, _ => by
   obtain ⟨rfl, rfl, rfl⟩ := trodAll_nil h
   exact trodAll_mk0
 | t :: ts, vs, ds, ps, ht, h, hlt => by
   obtain ⟨v, vs', d, ds', p, q, rfl, rfl, rfl, h1, h2⟩ := trodAll_cons h
   simp only [List.all_cons, Bool.and_eq_true, decide_eq_true_eq] at ht
   exact trodAll_cons_mk (Below.trod hl ht.1.1 ht.1.2 h1 hb (fun x hx => hlt x (by simp [hx]))) (vL hl hb ts vs' ds' q ht.2 h2 (fun x hx => hlt x (by simp [hx])))
theorem law_post {H : Type} {enc : TypeId × Value → H} {P : Program} {f : Func} {s : ChangeSpec} {W W' : World} {args : Array Value} {ds gs : List (DataW H)} {before : List MemPlace} {tb : TypeId}
   (hl : laidOutB P = true) (hpar : f.params.toList.all (fun t => P.readableRec t && decide (t < P.types.size)) = true) (hvars : s.vars = []) (hres : f.resultTypes = #[tb]) (htb : P.underlying tb = some .bool)
   (hW : DataW.Whole enc P f.params.toList s.vars false W args.toList ds gs before) (hspec : s.fn H (ds ++ gs) = { results := [.lit (.bool true)], args := ds }) (hb : Ext W W') :
   s.post enc P f false true false false W args (.bool true) W' := by
 have hlt : ∀ x ∈ before, x.block < W.heap.size := fun x hx => hW.lt x hx
 have hW' := hW
 obtain ⟨p, q, hA, hV, rfl, hfz, hnd⟩ := hW
 refine ⟨ds, gs, p ++ q, [], p, [], hW', ?_, ?_, ?_, Below.frame hb _, fun h => by cases h⟩
 · rw [hspec, hres]
   exact trodAll_cons_mk (shut_bool htb true) trodAll_mk0
 · rw [hspec]
   exact vL hl hb _ _ _ _ hpar hA (fun x hx => hlt x (by simp [hx]))
 · rw [hspec, hvars]
   rfl
section
variable {H : Type} {enc : TypeId × Value → H} {P : Program} {W : World} {sp : Nat → Bool}
theorem zC {α : Type} {Q : Nat → α → Prop} : ∀ n, (∀ i, i < n → ∃ y, Q i y) → ∃ xs : List α, xs.length = n ∧ ∀ (i : Nat) (y : α), xs[i]? = some y → Q i y
 | 0, _ => ⟨[], rfl, by simp⟩
 | n + 1, h => by
   obtain ⟨xs, hl, hq⟩ := zC n (fun i hi => h i (by omega))
   obtain ⟨y, hy⟩ := h n (by omega)
   refine ⟨xs ++ [y], by simp [hl], fun i z hz => ?_⟩
   by_cases hi : i < n
   · rw [List.getElem?_append_left (by omega)] at hz
     exact hq i z hz
   · have hin : i = n := by
       have := (List.getElem?_eq_some_iff.1 hz).1
       simp [hl] at this; omega
     subst hin
     rw [List.getElem?_append_right (by omega)] at hz
     simp [hl] at hz
     subst hz
     exact hy
theorem aIq {t e : TypeId} {s : Nat} {α : Type} {en : α → List Value} {ok : α → Prop} {fuel : Nat} {v : Value} {x : DataW H × List MemPlace} (ht : P.underlying t = some (.slice e)) (hs : P.cellsOf e = s) (he : ∀ y, (en y).length = s) (h0 : 0 < s)
   (ho : ∀ n cs x, DataW.trod enc P W 0 sp true n e cs = some x → ∃ y, cs = en y ∧ ok y) (h : DataW.trod enc P W 0 sp true fuel t [v] = some x) :
   ∃ (A : Option Addr) (xs : List α) (c : Nat), v = .slice A xs.length c ∧ Sl W.heap.size W A (xs.flatMap en) ∧ (∀ y ∈ xs, ok y) ∧ xs.length ≤ 9223372036854775807 := by
 rcases DataW.trod_slice ht h with ⟨hv, _⟩ | ⟨a, len, cap, elems, rest, n, _, hv, _, _, hlc, hcm, hel, hg, _⟩
 · have hv : v = .slice none 0 0 := by simpa using hv
   exact ⟨none, [], 0, hv, Sl.nil_ (Nat.le_refl _) _, by simp, by simp⟩
 · have hv : v = .slice (some a) len cap := by simpa using hv
   obtain ⟨xs, hl, hq⟩ := zC (Q := fun i y => ok y ∧ ∀ (j : Nat) (u : Value), (en y)[j]? = some u → W.cell? (a.add (i * s + j)) = some u) len (fun i hi => by
     have h1 := hg i hi
     have hil : i < elems.length := by omega
     rw [List.getElem?_eq_getElem hil, Option.bind_eq_some_iff] at h1
     obtain ⟨cs, hc, htr⟩ := h1
     obtain ⟨y, rfl, hy⟩ := ho _ _ _ htr
     rw [hs] at hc
     obtain ⟨_, hcl, hat⟩ := World.cells?_some hc
     refine ⟨y, hy, fun j u hj => ?_⟩
     have hjl : j < s := by rw [← he y]; exact (List.getElem?_eq_some_iff.1 hj).1
     rw [← mQ, hat j hjl, hj])
   refine ⟨some a, xs, cap, by rw [hl]; exact hv, ⟨Nat.le_refl _, fun m u hm => ?_⟩, fun y hy => ?_, ?_⟩
   · obtain ⟨j, y, i, rfl, hi, hj, hu⟩ := aFD he xs m u hm h0
     have hc := (hq j y hj).2 i u hu
     exact ⟨rfl, by have := World.block_lt_of_cell? W _ hc; rwa [mO] at this, hc⟩
   · obtain ⟨i, hi, rfl⟩ := List.mem_iff_getElem.1 hy
     exact (hq i _ (List.getElem?_eq_getElem hi)).1
   · have : cap ≤ maxLen := hcm
     unfold maxLen at this
     omega
def aCk (z : Int) : Prop := -9223372036854775808 ≤ z ∧ z ≤ 9223372036854775807
theorem aIr {t : TypeId} {fuel : Nat} {cs : List Value} {x : DataW H × List MemPlace} (ht : P.underlying t = some (.int .u8)) (h : DataW.trod enc P W 0 sp true fuel t cs = some x) : ∃ b : UInt8, cs = eB b ∧ True := by
 obtain ⟨z, hz, _, hw⟩ := DataW.trod_int ht h
 have : 0 ≤ z ∧ z ≤ 255 := by simpa [Lit.wf, IntKind.min, IntKind.max, IntKind.signed, IntKind.bits] using hw
 refine ⟨UInt8.ofNat z.toNat, ?_, trivial⟩
 rw [hz, eB]
 congr 2
 simp
 omega
theorem aIs {t : TypeId} {v : Value} {d : DataW H} {p : List MemPlace} (hc : v.cells = #[v]) (h : DataW.Trod enc P W 0 sp true t v d p) : ∃ n x, DataW.trod enc P W 0 sp true n t [v] = some x := by
 obtain ⟨n, hn⟩ := h
 exact ⟨n, _, by simpa [hc] using hn⟩
end
end Go.Proofs.YtdoibplhbdkapaaGreatDoor
namespace Go.Proofs.YtdoibplhbdkapaaGreatDoor
open Go.ChangeShapes Go.WideShapes Go.ChangeAt Go.RowKit
set_option linter.unusedVariables false
set_option linter.unusedSimpArgs false
set_option maxRecDepth 100000
def Desc.ok (d : Desc) : Prop := aCk d.node ∧ aCk d.kind ∧ aCk d.size ∧ aCk d.duration
def SlotI.ok (d : SlotI) : Prop := aCk d.mode ∧ aCk d.round ∧ aCk d.slot ∧ Desc.ok d.desc
def NodeI.ok (d : NodeI) : Prop := aCk d.id ∧ d.name.size ≤ 9223372036854775807 ∧ aCk d.drift
theorem law_own : ownKnob Tryz.prog.godebug = none := by kernel_rfl
theorem law_laid : laidOutB Tryz.prog = true := by kernel_rfl
theorem law_main : Tryz.pinned.checked.prog.mainIs = some (true, "9d3b8bcd3f057db7ce87d49064bbf274986517e6a2e4614acdb81aa3eaa2e189".toList) := by kernel_rfl
theorem law_looks : false = Tryz.prog.looks [] := by kernel_rfl
end Go.Proofs.YtdoibplhbdkapaaGreatDoor
