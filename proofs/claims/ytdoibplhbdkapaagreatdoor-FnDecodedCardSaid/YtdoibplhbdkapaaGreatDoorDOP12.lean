/- Parts. No condition. -/
import Derived.Test.YtdoibplhbdkapaaGreatDoorDOP11
import Derived.Test.YtdoibplhbdkapaaGreatDoorDOP4
import Derived.Test.YtdoibplhbdkapaaGreatDoorDOP3
import Derived.Shelf.Strings.SlTrimAscii
import Derived.Test.YtdoibplhbdkapaaGreatDoorDOP5
namespace Go.Proofs.YtdoibplhbdkapaaGreatDoor
open Go.RowKit
set_option linter.unusedVariables false
set_option linter.unusedSimpArgs false
set_option maxRecDepth 20000
theorem aAa (xs : List Int) (k : Nat) : aJG xs k = ((eH xs k).drop 2).take ((eH xs k).length - 3 - 2) := List.drop_take ..
theorem aDP {xs : List Int} (hb : ∀ x ∈ xs, 0 ≤ x ∧ x ≤ 255) : ∀ x ∈ qM xs, 0 ≤ x ∧ x ≤ 255 := fun x hx => by
 obtain ⟨k, _, h⟩ := List.mem_flatMap.1 hx
 exact kL hb k x (List.mem_of_mem_take (List.mem_of_mem_drop h))
theorem aFn {xs : List Int} (h : zR xs = []) : xs.length ≠ 0 := fun e => by
 have h1 := (sN (aCr h (aEl _))).1
 rw [jT] at h1; omega
def fY (xs : List Int) : List Int × Int := if nU xs = true then iG xs else ([], 2)
theorem aGz (xs : List Int) : (iG xs).1.length ≤ 868 := by
 unfold iG; split
 · exact Nat.zero_le _
 · split
   · rename_i h; exact h.1
   · exact Nat.zero_le _
theorem aGA (xs : List Int) : (fY xs).1.length ≤ 1048576 := by
 unfold fY; split
 · have := aGz xs; omega
 · exact Nat.zero_le _
theorem aGB {xs : List Int} (h : ¬ ((xs.length : Nat) : Int) > 0) : xs = [] := List.eq_nil_of_length_eq_zero (by omega)
theorem aIQ {xs : List Int} (h : ((xs.length : Nat) : Int) > 0) : xs ≠ [] := fun e => by rw [e] at h; exact absurd h (by decide)
theorem aGC (A : Option Addr) (B c : Nat) (xs : List Int) (w : World) (hs : Sl B w A (xs.flatMap eI)) (hl : xs.length ≤ 1024) (hb : ∀ x ∈ xs, 0 ≤ x ∧ x ≤ 255) (hc : xs.length ≤ c) (hn : Nexts B w (vA A xs)) :
   Calls Tryz.prog 166 #[.slice A xs.length c] w (fF fun v w' => ∃ A' c', v = .tuple #[.slice A' (iG xs).1.length c', .int .i64 (iG xs).2] ∧ Own w' w.heap.size 2 1 A' (iG xs).1.length c' ((iG xs).1.flatMap eI) ∧ Ext w w') := by
 have hnS := aDu xs.length
 have Bhs := hs.1
 have Bhn := hn.1
 have X := Q7r w
 refine bJ (args := [.slice A xs.length c]) Tryz.func166 Tryz.ntmps166 rfl rfl (aF (aA rfl (aE rfl (aA rfl (aE rfl (aB (aR (aF (aA rfl (aC rfl (aA rfl (aT aJb rfl (aP (aBs _ _ c xs _ hs hl hb hc hn) ?_)))))))))))))
 rintro _ w2 ⟨A3, c4, rfl, oD, x1⟩
 replace oD := Own.low oD X.size
 replace hs := hs.ext x1
 replace hn := hn.ext x1
 replace X := Q7x X x1; clear x1
 refine aA rfl (bO Tryz.underlying30 rfl (aA rfl (fG rfl rfl (fun hD => ?_) (fun hD => ?_))))
 refine aB (aQ rfl (aF (aA rfl (aE rfl (aA rfl (aE rfl (aB (aW (bN (fD rfl rfl rfl ?_))))))))))
 · skip
   have e : iG xs = ([], 7) := by rw [iG, if_pos (aIQ hD)]
   rw [e]; exact ⟨none, 0, rfl, Own.nil_ _ _ _ _, X⟩
 have hD0 : zR xs = [] := aGB hD
 refine aB (aM rfl (aV (aS (aF (aA rfl (aO cQ dB rfl rfl rfl rfl rfl ?_))))))
 intro gO w6 egO oO bbgO x5 zgO
 replace oO := Own.low oO X.size
 replace hs := hs.ext x5
 replace hn := hn.ext x5
 replace oD := oD.ext x5
 replace X := Q7x X x5; clear x5
 refine aA rfl (aE rfl (aB (aR (aF (aA rfl (aC rfl (aA rfl (aT aHk rfl (aP (vU A c xs _ (by omega) hc) ?_)))))))))
 rintro _ w9 ⟨AR, cR, rfl, oR, x7⟩
 replace oR := Own.low oR X.size
 replace hs := hs.ext x7
 replace hn := hn.ext x7
 replace oD := oD.ext x7
 replace oO := oO.ext x7
 replace X := Q7x X x7; clear x7
 refine aA rfl (bO Tryz.underlying107 rfl (aA rfl (aC rfl (aB (aX (dG (G := Nat × Nat × Option Addr × Nat) (fun ⟨k, n1, A1, c1⟩ => [(0, .slice A xs.length c), (2, .slice none 0 0), (3, .int .i64 0), (13, .slice AR (nS xs.length) cR), (14, .int .i64 ((nS xs.length) : Nat)), (4, .slice A1 n1 c1), (15, .int .i64 (k : Nat))]) (fun ⟨k, n1, A1, c1⟩ wr => k ≤ nS xs.length ∧ n1 ≤ 28 * k ∧ n1 = (aDs xs k).length ∧ Own wr w.heap.size 2 1 A1 n1 c1 ((aDs xs k).flatMap eI) ∧ Sl B wr A (xs.flatMap eI) ∧ Nexts B wr (vA A xs) ∧ Own wr w.heap.size 30 1 AR (nS xs.length) cR ((vA A xs).flatMap rQ) ∧ Ext w wr) (fun ⟨k, n1, A1, c1⟩ => nS xs.length - k) (0, 0, some ⟨gO, 0, none⟩, 0) (.cons rfl (.cons rfl (.cons rfl (.cons rfl (.cons rfl (.cons rfl (.cons rfl (.nil _)))))))) ?_ ?_))))))
 · exact ⟨(Nat.zero_le _), (Nat.le_refl _), rfl, oO, hs, hn, oR, X⟩
 clear hs hn oD oO oR
 clear X
 rintro ⟨k, n1, A1, c1⟩ wr ⟨hk0, hnk, hn1, oO, hs, hn, oR, X⟩
 refine aF (aA rfl (cU rfl rfl (fun hk => ?_) (fun hk => ?_)))
 obtain ⟨pA, pc, hx, hpc⟩ := aAu A xs (k := k) (by omega)
 have hbk := (sN (aCr hD0 (k := k) (by omega))).1
 have hpl := jT xs k
 have hrl : (lL pA pc (eH xs k)).m.next.length = (eH xs k).length := rfl
 have hrc : (lL pA pc (eH xs k)).c = pc := rfl
 refine aB (aR (aQ rfl (aV (aS (aR (aX (aF (aA rfl (aU (oR).sl jH rfl sX rfl (aAt A xs).symm rfl hx rfl (aA rfl (bS (oR).sl jH hx mD rfl rfl rfl ?_)))))))))))
 have hp : Sl B _ pA ((eH xs k).flatMap eI) := hn.at_ hx
 refine aA rfl (aE rfl (aB (aN (aA rfl (aC rfl (aA rfl (aC rfl (aA rfl (aC rfl (aA rfl (bO Tryz.underlying30 rfl (aA rfl (fZ rfl rfl (dM (by omega)) (aA rfl (kZ cQ hp bI rfl rfl rfl (show (2 : Int) = ((2 : Nat) : Int) from rfl) (show _ = (((eH xs k).length - 3 : Nat) : Int) by omega) (by omega) (by omega) ?_)))))))))))))))
 intro Ap pS
 refine aA rfl (cH (ts := #[]) oO X.size pS (by rw [eW bI, List.length_take, List.length_drop]; omega) (dY _) cQ dB rfl rfl rfl rfl (by omega) (by omega) ?_)
 intro AoN coN w11 oN hg10
 replace hs := hs.grown hg10 (fun g hg => Q7l Bhs (Own.lt oO hg).1)
 replace hn := hn.grown hg10 (fun g hg => Q7l Bhn (Own.lt oO hg).1)
 replace oR := oR.grown hg10 (Own.neO oR oO (by decide))
 replace hp := hp.grown hg10 (fun g hg => Q7l Bhs (Own.lt oO hg).1)
 replace pS := pS.grown hg10 (fun g hg => Q7l Bhs (Own.lt oO hg).1)
 replace X := X.grown hg10 X.size (fun g hg => (Own.lt oO hg).1)
 clear hg10
 refine aA rfl (aE rfl (aB (dO (aS (aN (aA rfl (aY rfl rfl (dM (by omega)) (aA rfl (aC rfl (aB (aS ⟨(k + 1, n1 + ((eH xs k).length - 3 - 2), AoN, coN), (.cons rfl (.cons rfl (.cons rfl (.cons rfl (.cons rfl (.cons rfl (.cons rfl (.nil _)))))))), ?_, ?_⟩)))))))))))
 · exact ⟨(by omega), (by omega), (by rw [uW, List.length_append, aAa, List.length_take, List.length_drop]; omega), (oN.to (by rw [uW, List.flatMap_append, aAa])), hs, hn, oR, X⟩
 · first | omega | (dsimp only; omega)
 refine aB (aR (aM rfl (dD (dC (dC (eG (aS (aR (aF ?_)))))))))
 obtain rfl : k = nS xs.length := by omega
 subst hn1
 refine aA rfl (aC rfl (aA rfl (bO Tryz.underlying30 rfl (aA rfl (fG rfl rfl (fun hG => ?_) (fun hG => ?_))))))
 have hGn : ¬ (qM xs).length ≤ 868 := by unfold qM; omega
 refine aA rfl (aC rfl (aH rfl rfl rfl rfl (aH rfl rfl rfl rfl (aH rfl rfl rfl rfl (aH rfl rfl rfl rfl (aH rfl rfl rfl rfl (aA rfl (aK rfl rfl (aB (aQ rfl (aF (aA rfl (aE rfl (aA rfl (aE rfl (aB (aW (bN (fD rfl rfl rfl ?_)))))))))))))))))))
 · skip
   have e : iG xs = ([], 6) := by rw [iG, if_neg (fun h => h hD0), if_neg (fun h => hGn h.1)]
   rw [e]; exact ⟨none, 0, rfl, Own.nil_ _ _ _ _, X⟩
 have hGp : (qM xs).length ≤ 868 := by unfold qM; omega
 refine aA rfl (aC rfl (aI rfl rfl rfl (aC rfl (aI rfl rfl rfl (aT aI5 rfl (aP (aBt A1 _ c1 (qM xs) _ oO.sl (by omega) (aDP hb) oO.cap (aAw oO.sl (by omega))) ?_))))))
 rintro _ w13 ⟨AI, cI, rfl, oI, x12⟩
 replace oI := Own.low oI X.size
 replace oO := oO.ext x12
 replace hs := hs.ext x12
 replace hn := hn.ext x12
 replace oR := oR.ext x12
 replace X := Q7x X x12
 refine aI rfl rfl rfl (aC rfl (aI rfl rfl rfl (cV aEt rfl (aDz _ _ _ (vM (qM xs)) _ _ _ xs _ oI.sl hs (by have h1 := sM (qM xs); have h2 := zE (qM xs).length; omega)) (fun w15 hE x14 => ?_) (fun w15 hE x14 => ?_))))
 replace oO := oO.ext x14
 replace hs := hs.ext x14
 replace hn := hn.ext x14
 replace oR := oR.ext x14
 replace oI := oI.ext x14
 replace X := Q7x X x14
 refine aI rfl rfl rfl (bP rfl (aA rfl (aK rfl rfl (aB (aM rfl (aV (aS (aF (aA rfl (aC rfl (aA rfl (aE rfl (aA rfl (aE rfl (aB (aW (fD rfl rfl rfl ?_)))))))))))))))))
 · skip
   have e : iG xs = (qM xs, 0) := by rw [iG, if_neg (fun h => h hD0), if_pos ⟨hGp, of_decide_eq_true hE⟩]
   rw [e]; exact ⟨A1, c1, rfl, oO, X⟩
 replace oO := oO.ext x14
 replace hs := hs.ext x14
 replace hn := hn.ext x14
 replace oR := oR.ext x14
 replace oI := oI.ext x14
 replace X := Q7x X x14
 refine aI rfl rfl rfl (bP rfl (aA rfl (aK rfl rfl (aB (aQ rfl (aF (aA rfl (aE rfl (aA rfl (aE rfl (aB (aW (bN (fD rfl rfl rfl ?_))))))))))))))
 · skip
   have e : iG xs = ([], 6) := by rw [iG, if_neg (fun h => h hD0), if_neg (fun h => of_decide_eq_false hE h.2)]
   rw [e]; exact ⟨none, 0, rfl, Own.nil_ _ _ _ _, X⟩
theorem aGD (n : Int) (w : World)  :
   Calls Tryz.prog 72 #[.int .i64 n] w (fF fun v w' => v = .bool (iF n 0 868) ∧ Ext w w') := by
 have X := Q7r w
 refine bJ (args := [.int .i64 n]) Tryz.func72 Tryz.ntmps72 rfl rfl (aF (aA rfl (aE rfl (aB (aF (aA rfl (aC rfl (aA rfl (aT kC rfl (aP (iQ _ _ _ _) ?_))))))))))
 rintro _ w2 ⟨rfl, x1⟩
 replace X := Q7x X x1; clear x1
 exact aA rfl (aE rfl (aB (aW (aL rfl rfl ⟨by rfl, X⟩))))
theorem aFo (A : Option Addr) (B c : Nat) (xs : List Int) (w : World) (hs : Sl B w A (xs.flatMap eI)) (hl : xs.length ≤ 1024) (hb : ∀ x ∈ xs, 0 ≤ x ∧ x ≤ 255) (hc : xs.length ≤ c) :
   Calls Tryz.prog 169 #[.slice A xs.length c] w (fF fun v w' => ∃ A' c', v = .tuple #[.slice A' (iG xs).1.length c', .int .i64 (iG xs).2] ∧ Own w' w.heap.size 2 1 A' (iG xs).1.length c' ((iG xs).1.flatMap eI) ∧ Ext w w') := by
 have hnS := aDu xs.length
 have Bhs := hs.1
 have X := Q7r w
 refine bJ (args := [.slice A xs.length c]) Tryz.func169 Tryz.ntmps169 rfl rfl (aF (aA rfl (aE rfl (aA rfl (aE rfl (aB (aR (aF (aA rfl (aC rfl (aA rfl (aT aHl rfl (aP (wO _ _ c xs _ hs hl hb hc) ?_)))))))))))))
 rintro _ w2 ⟨A3, c4, rfl, oD, x1⟩
 replace oD := Own.low oD X.size
 replace hs := hs.ext x1
 replace X := Q7x X x1; clear x1
 refine aA rfl (bO Tryz.underlying30 rfl (aA rfl (fG rfl rfl (fun hD => ?_) (fun hD => ?_))))
 refine aB (aQ rfl (aF (aA rfl (aE rfl (aA rfl (aE rfl (aB (aW (bN (fD rfl rfl rfl ?_))))))))))
 · skip
   have e : iG xs = ([], 7) := by rw [iG, if_pos (aIQ hD)]
   rw [e]; exact ⟨none, 0, rfl, Own.nil_ _ _ _ _, X⟩
 have hD0 : zR xs = [] := aGB hD
 have hx0 := aFn hD0
 refine aB (aM rfl (aV (aS (aF (aA rfl (aO cQ dB rfl rfl rfl rfl rfl ?_))))))
 intro gO w6 egO oO bbgO x5 zgO
 replace oO := Own.low oO X.size
 replace hs := hs.ext x5
 replace oD := oD.ext x5
 replace X := Q7x X x5; clear x5
 refine aA rfl (aE rfl (aB (aR (aF (aA rfl (aE rfl (aB (aX (dG (G := Nat × Nat × Option Addr × Nat) (fun ⟨k, n1, A1, c1⟩ => [(0, .slice A xs.length c), (2, .slice none 0 0), (3, .int .i64 0), (4, .slice A1 n1 c1), (5, .int .i64 (k : Nat))]) (fun ⟨k, n1, A1, c1⟩ wr => k ≤ nS xs.length ∧ n1 ≤ 28 * k ∧ n1 = (aDs xs k).length ∧ Own wr w.heap.size 2 1 A1 n1 c1 ((aDs xs k).flatMap eI) ∧ Sl B wr A (xs.flatMap eI) ∧ Ext w wr) (fun ⟨k, n1, A1, c1⟩ => nS xs.length - k) (0, 0, some ⟨gO, 0, none⟩, 0) (.cons rfl (.cons rfl (.cons rfl (.cons rfl (.cons rfl (.nil _)))))) ?_ ?_)))))))))
 · exact ⟨(Nat.zero_le _), (Nat.le_refl _), rfl, oO, hs, X⟩
 clear hs oD oO
 clear X
 rintro ⟨k, n1, A1, c1⟩ wr ⟨hk0, hnk, hn1, oO, hs, X⟩
 refine aR (aF (aA rfl (aC rfl (aA rfl (fO rfl rfl (show IntKind.i64.wrap _ = ((33 * k : Nat) : Int) from (dM (by omega)).trans (by omega)) (aA rfl (aC rfl (aA rfl (bO Tryz.underlying30 rfl (aA rfl (cU rfl rfl (fun hk => ?_) (fun hk => ?_))))))))))))
 have hkS := (aDt (n := xs.length) (k := k)).2 (.inr (by omega))
 have hbk := (sN (aCr hD0 (k := k) (by omega))).1
 have hpl := jT xs k
 refine aB (aQ rfl (aV (aS (aR (aX (aF (aA rfl (aC rfl (aA rfl (aC rfl (aA rfl (aT aCu rfl (aP (rW A B c xs k _ hs (by omega) hc (by omega)) ?_)))))))))))))
 rintro _ wS ⟨pA, pc, rfl, hpc, hp, xS⟩
 replace hs := hs.ext xS
 replace oO := oO.ext xS
 replace X := Q7x X xS; clear xS
 refine aA rfl (aE rfl (aB (aN (aA rfl (aC rfl (aA rfl (aC rfl (aA rfl (aC rfl (aA rfl (bO Tryz.underlying30 rfl (aA rfl (fZ rfl rfl (dM (by omega)) (aA rfl (kZ cQ hp bI rfl rfl rfl (show (2 : Int) = ((2 : Nat) : Int) from rfl) (show _ = (((eH xs k).length - 3 : Nat) : Int) by omega) (by omega) (by omega) ?_)))))))))))))))
 intro Ap pS
 refine aA rfl (cH (ts := #[]) oO X.size pS (by rw [eW bI, List.length_take, List.length_drop]; omega) (dY _) cQ dB rfl rfl rfl rfl (by omega) (by omega) ?_)
 intro AoN coN w9 oN hg7
 replace hs := hs.grown hg7 (fun g hg => Q7l Bhs (Own.lt oO hg).1)
 replace hp := hp.grown hg7 (fun g hg => Q7l Bhs (Own.lt oO hg).1)
 replace pS := pS.grown hg7 (fun g hg => Q7l Bhs (Own.lt oO hg).1)
 replace X := X.grown hg7 X.size (fun g hg => (Own.lt oO hg).1)
 clear hg7
 refine aA rfl (aE rfl (aB (dO (aS (aN (aA rfl (aC rfl (aA rfl (aY rfl rfl (dM (by omega)) (aA rfl (aE rfl (aB (aS ⟨(k + 1, n1 + ((eH xs k).length - 3 - 2), AoN, coN), (.cons rfl (.cons rfl (.cons rfl (.cons rfl (.cons rfl (.nil _)))))), ?_, ?_⟩)))))))))))))
 · exact ⟨(by omega), (by omega), (by rw [uW, List.length_append, aAa, List.length_take, List.length_drop]; omega), (oN.to (by rw [uW, List.flatMap_append, aAa])), hs, X⟩
 · first | omega | (dsimp only; omega)
 have hkN : ¬ k < nS xs.length := fun h => by have := (aDt (n := xs.length)).1 h; omega
 refine aB (aM rfl (dD (dC (dC (eG (aS (aR (aF ?_))))))))
 obtain rfl : k = nS xs.length := by omega
 subst hn1
 refine aA rfl (aC rfl (aA rfl (bO Tryz.underlying30 rfl (aA rfl (cV aI6 rfl (aGD _ _) (fun w11 hG x10 => ?_) (fun w11 hG x10 => ?_))))))
 replace oO := oO.ext x10
 replace hs := hs.ext x10
 replace X := Q7x X x10
 have hGp : (qM xs).length ≤ 868 := by have := eO.1 hG; unfold qM; omega
 refine aA rfl (bP rfl (aA rfl (aC rfl (aI rfl rfl rfl (aC rfl (aI rfl rfl rfl (aT aFd rfl (aP (rX A1 _ c1 (qM xs) _ oO.sl (by omega) (aDP hb) oO.cap) ?_))))))))
 rintro _ w13 ⟨AI, cI, rfl, oI, x12⟩
 replace oI := Own.low oI X.size
 replace oO := oO.ext x12
 replace hs := hs.ext x12
 replace X := Q7x X x12
 refine aI rfl rfl rfl (aC rfl (aI rfl rfl rfl (cV aEu rfl (aFg _ _ _ (vM (qM xs)) _ _ _ xs _ oI.sl hs (by have h1 := sM (qM xs); have h2 := zE (qM xs).length; omega)) (fun w15 hE x14 => ?_) (fun w15 hE x14 => ?_))))
 replace oO := oO.ext x14
 replace hs := hs.ext x14
 replace oI := oI.ext x14
 replace X := Q7x X x14
 refine aI rfl rfl rfl (bP rfl (aA rfl (aK rfl rfl (aB (aM rfl (aV (aS (aF (aA rfl (aC rfl (aA rfl (aE rfl (aA rfl (aE rfl (aB (aW (fD rfl rfl rfl ?_)))))))))))))))))
 · skip
   have e : iG xs = (qM xs, 0) := by rw [iG, if_neg (fun h => h hD0), if_pos ⟨hGp, of_decide_eq_true hE⟩]
   rw [e]; exact ⟨A1, c1, rfl, oO, X⟩
 replace oO := oO.ext x14
 replace hs := hs.ext x14
 replace oI := oI.ext x14
 replace X := Q7x X x14
 refine aI rfl rfl rfl (bP rfl (aA rfl (aK rfl rfl (aB (aQ rfl (aF (aA rfl (aE rfl (aA rfl (aE rfl (aB (aW (bN (fD rfl rfl rfl ?_))))))))))))))
 · skip
   have e : iG xs = ([], 6) := by rw [iG, if_neg (fun h => h hD0), if_neg (fun h => of_decide_eq_false hE h.2)]
   rw [e]; exact ⟨none, 0, rfl, Own.nil_ _ _ _ _, X⟩
 replace oO := oO.ext x10
 replace hs := hs.ext x10
 replace X := Q7x X x10
 have hGn : ¬ (qM xs).length ≤ 868 := fun h => by rw [eO.2 ⟨by omega, by unfold qM at h; omega⟩] at hG; cases hG
 refine aA rfl (bP rfl (aA rfl (aC rfl (aH rfl rfl rfl rfl (aH rfl rfl rfl rfl (aH rfl rfl rfl rfl (aH rfl rfl rfl rfl (aH rfl rfl rfl rfl (aA rfl (aK rfl rfl (aB (aQ rfl (aF (aA rfl (aE rfl (aA rfl (aE rfl (aB (aW (bN (fD rfl rfl rfl ?_)))))))))))))))))))))
 · skip
   have e : iG xs = ([], 6) := by rw [iG, if_neg (fun h => h hD0), if_neg (fun h => hGn h.1)]
   rw [e]; exact ⟨none, 0, rfl, Own.nil_ _ _ _ _, X⟩
theorem aH9 (A : Option Addr) (B c : Nat) (xs : List Int) (w : World) (hs : Sl B w A (xs.flatMap eI)) (hl : xs.length ≤ 1048576) (hcap : xs.length ≤ c) :
   Calls Tryz.prog 82 #[.slice A xs.length c] w (fF fun v w' => ∃ A' c', v = .tuple #[.slice A' (fY xs).1.length c', .int .i64 (fY xs).2] ∧ Own w' w.heap.size 2 1 A' (fY xs).1.length c' ((fY xs).1.flatMap eI) ∧ Ext w w') := by
 have Bhs := hs.1
 have X := Q7r w
 refine bJ (args := [.slice A xs.length c]) Tryz.func82 Tryz.ntmps82 rfl rfl (aF (aA rfl (aE rfl (aA rfl (aE rfl (aB (aR (aF (aA rfl (aC rfl (aA rfl (cV aHj rfl (vV _ _ _ _ _ hs hl) (fun w2 hI x1 => ?_) (fun w2 hI x1 => ?_)))))))))))))
 replace hs := hs.ext x1
 replace X := Q7x X x1; clear x1
 have hbm := qO hI
 have hbl := qR hI
 refine aA rfl (bP rfl (aB (aM rfl (aV (aS (aF (aA rfl (aC rfl (aA rfl (aT aJX rfl (aP (aGC _ _ c xs _ hs hbl hbm hcap (aAv hs hl)) ?_)))))))))))
 rintro _ w4 ⟨A5, c6, rfl, oR, x3⟩
 replace oR := Own.low oR X.size
 replace hs := hs.ext x3
 replace X := Q7x X x3; clear x3
 refine aA rfl (cX rfl rfl (aA rfl (cX rfl rfl (aA rfl (aE rfl (aA rfl (aE rfl (aB (aW (fD rfl rfl rfl ?_))))))))))
 · skip
   first
   | (have e : fY xs = ([], 2) := by rw [fY, if_neg (by rw [hI]; decide)]
      rw [e]; exact ⟨none, 0, rfl, Own.nil_ _ _ _ _, X⟩)
   | (have e : fY xs = iG xs := by rw [fY, if_pos hI]
      rw [e]; exact ⟨_, _, rfl, oR, X⟩)
 replace hs := hs.ext x1
 replace X := Q7x X x1; clear x1
 refine aA rfl (bP rfl (aB (aQ rfl (aF (aA rfl (aE rfl (aA rfl (aE rfl (aB (aW (bN (fD rfl rfl rfl ?_))))))))))))
 · skip
   first
   | (have e : fY xs = ([], 2) := by rw [fY, if_neg (by rw [hI]; decide)]
      rw [e]; exact ⟨none, 0, rfl, Own.nil_ _ _ _ _, X⟩)
   | (have e : fY xs = iG xs := by rw [fY, if_pos hI]
      rw [e]; exact ⟨_, _, rfl, oR, X⟩)
theorem aIa (A : Option Addr) (B c : Nat) (xs : List Int) (w : World) (hs : Sl B w A (xs.flatMap eI)) (hl : xs.length ≤ 1048576) (hcap : xs.length ≤ c) :
   Calls Tryz.prog 86 #[.slice A xs.length c] w (fF fun v w' => ∃ A' c', v = .tuple #[.slice A' (fY xs).1.length c', .int .i64 (fY xs).2] ∧ Own w' w.heap.size 2 1 A' (fY xs).1.length c' ((fY xs).1.flatMap eI) ∧ Ext w w') := by
 have Bhs := hs.1
 have X := Q7r w
 refine bJ (args := [.slice A xs.length c]) Tryz.func86 Tryz.ntmps86 rfl rfl (aF (aA rfl (aE rfl (aA rfl (aE rfl (aB (aR (aF (aA rfl (aC rfl (aA rfl (cV aFf rfl (rY _ _ _ _ _ hs hl) (fun w2 hI x1 => ?_) (fun w2 hI x1 => ?_)))))))))))))
 replace hs := hs.ext x1
 replace X := Q7x X x1; clear x1
 have hbm := qO hI
 have hbl := qR hI
 refine aA rfl (bP rfl (aB (aM rfl (aV (aS (aF (aA rfl (aC rfl (aA rfl (aT aJZ rfl (aP (aFo _ _ c xs _ hs hbl hbm hcap) ?_)))))))))))
 rintro _ w4 ⟨A5, c6, rfl, oR, x3⟩
 replace oR := Own.low oR X.size
 replace hs := hs.ext x3
 replace X := Q7x X x3; clear x3
 refine aA rfl (cX rfl rfl (aA rfl (cX rfl rfl (aA rfl (aE rfl (aA rfl (aE rfl (aB (aW (fD rfl rfl rfl ?_))))))))))
 · skip
   first
   | (have e : fY xs = ([], 2) := by rw [fY, if_neg (by rw [hI]; decide)]
      rw [e]; exact ⟨none, 0, rfl, Own.nil_ _ _ _ _, X⟩)
   | (have e : fY xs = iG xs := by rw [fY, if_pos hI]
      rw [e]; exact ⟨_, _, rfl, oR, X⟩)
 replace hs := hs.ext x1
 replace X := Q7x X x1; clear x1
 refine aA rfl (bP rfl (aB (aQ rfl (aF (aA rfl (aE rfl (aA rfl (aE rfl (aB (aW (bN (fD rfl rfl rfl ?_))))))))))))
 · skip
   first
   | (have e : fY xs = ([], 2) := by rw [fY, if_neg (by rw [hI]; decide)]
      rw [e]; exact ⟨none, 0, rfl, Own.nil_ _ _ _ _, X⟩)
   | (have e : fY xs = iG xs := by rw [fY, if_pos hI]
      rw [e]; exact ⟨_, _, rfl, oR, X⟩)
end Go.Proofs.YtdoibplhbdkapaaGreatDoor
namespace Go.Proofs.YtdoibplhbdkapaaGreatDoor
open Go.RowKit Go.Shelf Go.Lib
set_option linter.unusedVariables false
def aCQ : Go.Shelf.Ren := ⟨fun x => match x with | 160 => 248 | 232 => 268 | 231 => 267 | 227 => 269 | 234 => 271 | 233 => 270 | 236 => 273 | 235 => 272 | 228 => 280 | 271 => 283 | 151 => 282 | 197 => 281 | 120 => 288 | 152 => 287 | 260 => 286 | 137 => 289 | 119 => 290 | 224 => 291 | 225 => 292 | 217 => 293 | 266 => 294 | n => n, fun x => match x with | 9 => 9 | 4 => 4 | 3 => 3 | 5 => 5 | 117 => 234 | 116 => 233 | 0 => 0 | 124 => 237 | 21 => 21 | 105 => 240 | 46 => 140 | 119 => 244 | 139 => 247 | 138 => 246 | n => n, fun x => match x with | 3 => 0 | 4 => 1 | n => n⟩
set_option maxRecDepth 100000
theorem aIb : Lays.n160 Tryz.prog aCQ where
 mixed := by kernel_rfl
 f119 := Tryz.func290.trans (congrArg some (by kernel_rfl))
 f120 := Tryz.func288.trans (congrArg some (by kernel_rfl))
 f137 := Tryz.func289.trans (congrArg some (by kernel_rfl))
 f151 := Tryz.func282.trans (congrArg some (by kernel_rfl))
 f152 := Tryz.func287.trans (congrArg some (by kernel_rfl))
 f160 := Tryz.func248.trans (congrArg some (by kernel_rfl))
 f197 := Tryz.func281.trans (congrArg some (by kernel_rfl))
 f217 := Tryz.func293.trans (congrArg some (by kernel_rfl))
 f224 := Tryz.func291.trans (congrArg some (by kernel_rfl))
 f225 := Tryz.func292.trans (congrArg some (by kernel_rfl))
 f227 := Tryz.func269.trans (congrArg some (by kernel_rfl))
 f228 := Tryz.func280.trans (congrArg some (by kernel_rfl))
 f231 := Tryz.func267.trans (congrArg some (by kernel_rfl))
 f232 := Tryz.func268.trans (congrArg some (by kernel_rfl))
 f233 := Tryz.func270.trans (congrArg some (by kernel_rfl))
 f234 := Tryz.func271.trans (congrArg some (by kernel_rfl))
 f235 := Tryz.func272.trans (congrArg some (by kernel_rfl))
 f236 := Tryz.func273.trans (congrArg some (by kernel_rfl))
 f260 := Tryz.func286.trans (congrArg some (by kernel_rfl))
 f266 := Tryz.func294.trans (congrArg some (by kernel_rfl))
 f271 := Tryz.func283.trans (congrArg some (by kernel_rfl))
 t0 := Tryz.underlying0
 a0 := Tryz.isAgg0
 z0 := Tryz.sizeOf0
 v0 := Tryz.zeroValue0
 t3 := Tryz.underlying3
 a3 := Tryz.isAgg3
 z3 := Tryz.sizeOf3
 v3 := Tryz.zeroValue3
 t4 := Tryz.underlying4
 a4 := Tryz.isAgg4
 z4 := Tryz.sizeOf4
 v4 := Tryz.zeroValue4
 t5 := Tryz.underlying5
 a5 := Tryz.isAgg5
 z5 := Tryz.sizeOf5
 v5 := Tryz.zeroValue5
 t9 := Tryz.underlying9
 a9 := Tryz.isAgg9
 z9 := Tryz.sizeOf9
 v9 := Tryz.zeroValue9
 t21 := Tryz.underlying21
 a21 := Tryz.isAgg21
 z21 := Tryz.sizeOf21
 v21 := Tryz.zeroValue21
 t46 := Tryz.underlying140
 a46 := Tryz.isAgg140
 z46 := Tryz.sizeOf140
 v46 := Tryz.zeroValue140
 t105 := Tryz.underlying240
 a105 := Tryz.isAgg240
 z105 := Tryz.sizeOf240
 v105 := Tryz.zeroValue240
 t116 := Tryz.underlying233
 a116 := Tryz.isAgg233
 z116 := Tryz.sizeOf233
 t117 := Tryz.underlying234
 a117 := Tryz.isAgg234
 z117 := Tryz.sizeOf234
 v117 := Tryz.zeroValue234
 t119 := Tryz.underlying244
 a119 := Tryz.isAgg244
 z119 := Tryz.sizeOf244
 t124 := Tryz.underlying237
 a124 := Tryz.isAgg237
 z124 := Tryz.sizeOf237
 v124 := Tryz.zeroValue237
 t138 := Tryz.underlying246
 a138 := Tryz.isAgg246
 z138 := Tryz.sizeOf246
 v138 := Tryz.zeroValue246
 t139 := Tryz.underlying247
 a139 := Tryz.isAgg247
 z139 := Tryz.sizeOf247
 v139 := Tryz.zeroValue247
 g3 := by kernel_rfl
 g4 := by kernel_rfl
theorem aJk (s : ByteArray) (w : World) (hs : s.size ≤ 9223372036854775807) :
   Calls Tryz.prog 248 #[.string s, .string ⟨#[97, 98, 99, 100, 101, 102, 103, 104, 105, 106, 107, 108, 109, 110, 111, 112, 113, 114, 115, 116, 117, 118, 119, 120, 121, 122, 48, 49, 50, 51, 52, 53, 54, 55, 56, 57]⟩] w (fF fun v w' => v = .string (aHb s) ∧ Ext w w') := by
 have hcon := Any.strings_Trim_laid aIb (by kernel_rfl) s ⟨#[97, 98, 99, 100, 101, 102, 103, 104, 105, 106, 107, 108, 109, 110, 111, 112, 113, 114, 115, 116, 117, 118, 119, 120, 121, 122, 48, 49, 50, 51, 52, 53, 54, 55, 56, 57]⟩ w hs (by decide) (ascii_of_all (by decide))
 refine Calls.mono hcon fun e w' h => ?_
 obtain ⟨rfl, hb⟩ := h
 exact ⟨rfl, hb⟩
set_option linter.unusedSimpArgs false
set_option maxRecDepth 20000
theorem aAy (a : Nat) (n : Int) (w : World) (ha : a < 4294967296) (hn : 0 ≤ n ∧ n ≤ 31) :
   Calls Tryz.prog 245 #[.int .i64 (a : Nat), .int .i64 n] w (fF fun v w' => v = .bool (pE a n) ∧ Ext w w') := by
 have X := Q7r w
 exact bJ (args := [.int .i64 (a : Nat), .int .i64 n]) Tryz.func245 Tryz.ntmps245 rfl rfl (aF (aA rfl (aE rfl (aB (aF (aA rfl (aC rfl (aA rfl (aC rfl (aA rfl (jC Tryz.underlying2 Tryz.underlying140 rfl (aK8 (by omega)) (aA rfl (sB rfl rfl (by omega) rfl (aA rfl (sA rfl rfl rfl (aA rfl (jJ rfl rfl (aA rfl (aE rfl (aB (aW (aL rfl rfl ⟨congrArg Value.bool (aE9 (by omega) hn), X⟩))))))))))))))))))))))
theorem aCR (a : Nat) (n : Int) (w : World) (ha : a < 4294967296) (hn : 0 ≤ n ∧ n ≤ 31) :
   Calls Tryz.prog 246 #[.int .i64 (a : Nat), .int .i64 n, .bool true] w (fF fun v w' => v = .int .i64 (sW a n : Nat) ∧ Ext w w') := by
 have X := Q7r w
 refine bJ (args := [.int .i64 (a : Nat), .int .i64 n, .bool true]) Tryz.func246 Tryz.ntmps246 rfl rfl (aF (aA rfl (aE rfl (aB (aR (aF (aA rfl (aC rfl (aA rfl (aC rfl (aA rfl (aT aEv rfl (aP (aAy _ _ _ ha hn) ?_)))))))))))))
 rintro _ w2 ⟨rfl, x1⟩
 replace X := Q7x X x1; clear x1
 refine aA rfl (aC rfl (aA rfl (aFX Tryz.underlying4 rfl rfl (fun h3 => ?_) (fun h3 => ?_))))
 refine aB (aQ rfl (aF (aA rfl (aC rfl (aA rfl (aE rfl (aB (aW (bN (aL rfl rfl ?_))))))))))
 · skip
   refine ⟨congrArg (Value.int .i64) ?_, X⟩
   first
   | (rw [aDm ‹pE a n = true›]; done)
   | (have hh : pE a n = false := by cases h : pE a n <;> simp_all
      have hp := aCn hn
      exact (congrArg (lN .xor .i64 (a : Int)) (aCm hn)).trans ((xC (by omega) (by omega)).trans (congrArg Int.ofNat (aDn hh))))
 refine aB (aM rfl (aV (aS (aF (aA rfl (aC rfl (aA rfl (aC rfl (aA rfl (jC Tryz.underlying2 Tryz.underlying140 rfl (aK8 (by omega)) (aA rfl (tG rfl rfl (by omega) rfl (aA rfl (aAB rfl rfl rfl (aA rfl (aE rfl (aB (aW (aL rfl rfl ?_)))))))))))))))))))
 · skip
   refine ⟨congrArg (Value.int .i64) ?_, X⟩
   first
   | (rw [aDm ‹pE a n = true›]; done)
   | (have hh : pE a n = false := by cases h : pE a n <;> simp_all
      have hp := aCn hn
      exact (congrArg (lN .xor .i64 (a : Int)) (aCm hn)).trans ((xC (by omega) (by omega)).trans (congrArg Int.ofNat (aDn hh))))
theorem aKZ (a : Nat) (n : Int) (w : World) (ha : a < 4294967296) (hn : 0 ≤ n ∧ n ≤ 31) :
   Calls Tryz.prog 117 #[.int .i64 (a : Nat), .int .i64 n] w (fF fun v w' => v = .bool (pE a n) ∧ Ext w w') := by
 have X := Q7r w
 exact bJ (args := [.int .i64 (a : Nat), .int .i64 n]) Tryz.func117 Tryz.ntmps117 rfl rfl (aF (aA rfl (aE rfl (aB (aF (aA rfl (aC rfl (aA rfl (aC rfl (aA rfl (sB rfl rfl (by omega) rfl (aA rfl (sA rfl rfl rfl (aA rfl (jJ rfl rfl (aA rfl (aE rfl (aB (aW (aL rfl rfl ⟨congrArg Value.bool (aE9 (by omega) hn), X⟩))))))))))))))))))))
theorem tD (A : Option Addr) (B c : Nat) (xs : List NodeI) (w : World) (hs : Sl B w A (xs.flatMap NodeI.cells)) (hl : xs.length ≤ 1048576) (hid : ∀ x ∈ xs, 0 ≤ x.id ∧ x.id ≤ 31) :
   Calls Tryz.prog 181 #[.slice A xs.length c] w (fF fun v w' => v = .int .i64 (iM xs : Nat) ∧ Ext w w') := by
 have Bhs := hs.1
 have X := Q7r w
 refine bJ (args := [.slice A xs.length c]) Tryz.func181 Tryz.ntmps181 rfl rfl (aF (aA rfl (aE rfl (aB (aF (aA rfl (aE rfl (aB (aR (aF (aA rfl (aE rfl (aB (aX (dG (G := Nat × Nat) (fun ⟨k, a⟩ => [(0, .slice A xs.length c), (2, .int .i64 0), (3, .int .i64 (a : Nat)), (4, .int .i64 (k : Nat))]) (fun ⟨k, a⟩ wr => k ≤ xs.length ∧ a < 4294967296 ∧ iM xs = qG (fun x : NodeI => !x.passive) (·.id) a (xs.drop k) ∧ Sl B wr A (xs.flatMap NodeI.cells) ∧ Ext w wr) (fun ⟨k, a⟩ => xs.length - k) (0, 0) (.cons rfl (.cons rfl (.cons rfl (.cons rfl (.nil _))))) ?_ ?_)))))))))))))))
 · exact ⟨by omega, (by omega), rfl, hs, X⟩
 clear hs
 clear X
 rintro ⟨k, a⟩ wr ⟨hk0, ha, hi, hs, X⟩
 refine aR (aF (aA rfl (aC rfl (aA rfl (aC rfl (aA rfl (bO Tryz.underlying24 rfl (aA rfl (cU rfl rfl (fun hk => ?_) (fun hk => ?_))))))))))
 obtain ⟨x, hx, dx⟩ := dR hk
 have hx2 := hid x (List.mem_of_getElem? hx)
 refine aB (aQ rfl (aV (aS (aR (aX (aF (aA rfl (aC rfl (aA rfl (aC rfl (aA rfl (aU hs NodeI.len rfl lO rfl rfl rfl hx rfl (aA rfl (dF sO rfl (aA rfl (eF hs NodeI.len hx xO rfl rfl rfl (aA rfl (bP rfl (aB (rU rfl (fun h1 => ?_) (fun h1 => ?_)))))))))))))))))))))
 refine aN (aA rfl (aC rfl (aA rfl (aC rfl (aA rfl (aC rfl (aA rfl (aU hs NodeI.len rfl lO rfl rfl rfl hx rfl (aA rfl (dF lC rfl (aA rfl (eF hs NodeI.len hx dB rfl rfl rfl (aA rfl (aT aHF rfl (aP (aCR _ _ _ ha hx2) ?_)))))))))))))))
 rintro _ w3 ⟨rfl, x2⟩
 replace hs := hs.ext x2
 replace X := Q7x X x2; clear x2
 refine aA rfl (aE rfl (aB (dO (aS (aN (aA rfl (aC rfl (aA rfl (aY rfl rfl (dM (by omega)) (aA rfl (aE rfl (aB (aS ⟨(k + 1, sW a x.id), (.cons rfl (.cons rfl (.cons rfl (.cons rfl (.nil _))))), ?_, ?_⟩)))))))))))))
 · exact ⟨by omega, (tX ha hx2), (by rw [hi, dx, qG]; simp [*]), hs, X⟩
 · first | omega | (dsimp only; omega)
 refine aV (dO (aS (aN (aA rfl (aC rfl (aA rfl (aY rfl rfl (dM (by omega)) (aA rfl (aE rfl (aB (aS ⟨(k + 1, a), (.cons rfl (.cons rfl (.cons rfl (.cons rfl (.nil _))))), ?_, ?_⟩)))))))))))
 · exact ⟨by omega, ha, (by rw [hi, dx, qG]; simp [*]), hs, X⟩
 · first | omega | (dsimp only; omega)
 exact aB (aM rfl (dD (dC (dC (eG (aS (aF (aA rfl (aC rfl (aA rfl (aE rfl (aB (aW (aL rfl rfl ⟨by rw [hi, bL hk]; rfl, X⟩))))))))))))))
theorem tE (A : Option Addr) (B c : Nat) (xs : List NodeI) (w : World) (hs : Sl B w A (xs.flatMap NodeI.cells)) (hl : xs.length ≤ 1048576) (hid : ∀ x ∈ xs, 0 ≤ x.id ∧ x.id ≤ 31) :
   Calls Tryz.prog 114 #[.slice A xs.length c] w (fF fun v w' => v = .int .i64 (iM xs : Nat) ∧ Ext w w') := by
 have Bhs := hs.1
 have X := Q7r w
 refine bJ (args := [.slice A xs.length c]) Tryz.func114 Tryz.ntmps114 rfl rfl (aF (aA rfl (aE rfl (aB (aF (aA rfl (aE rfl (aB (aR (aF (aA rfl (aC rfl (aA rfl (bO Tryz.underlying24 rfl (aA rfl (aC rfl (aB (aX (dG (G := Nat × Nat) (fun ⟨k, a⟩ => [(2, .int .i64 0), (6, .slice A xs.length c), (7, .int .i64 (xs.length : Nat)), (3, .int .i64 (a : Nat)), (8, .int .i64 (k : Nat))]) (fun ⟨k, a⟩ wr => k ≤ xs.length ∧ a < 4294967296 ∧ iM xs = qG (fun x : NodeI => !x.passive) (·.id) a (xs.drop k) ∧ Sl B wr A (xs.flatMap NodeI.cells) ∧ Ext w wr) (fun ⟨k, a⟩ => xs.length - k) (0, 0) (.cons rfl (.cons rfl (.cons rfl (.cons rfl (.cons rfl (.nil _)))))) ?_ ?_)))))))))))))))))))
 · exact ⟨by omega, (by omega), rfl, hs, X⟩
 clear hs
 clear X
 rintro ⟨k, a⟩ wr ⟨hk0, ha, hi, hs, X⟩
 refine aF (aA rfl (cU rfl rfl (fun hk => ?_) (fun hk => ?_)))
 obtain ⟨x, hx, dx⟩ := dR hk
 have hx2 := hid x (List.mem_of_getElem? hx)
 refine aB (aR (aQ rfl (aV (aS (aR (aX (aF (aA rfl (aU hs NodeI.len rfl lO rfl rfl rfl hx rfl (aA rfl (eE hs NodeI.len hx kE rfl (aA rfl (dT kE ?_)))))))))))))
 intro g4 w3 eg4 b1 x2 zg4
 have lg4 : w.heap.size ≤ g4 := Q7l X.size (Q7e eg4.symm)
 have pg4hs := Q7l hs.1 (Q7e eg4.symm)
 replace hs := hs.ext x2
 replace X := Q7x X x2; clear x2
 refine aA rfl (bK b1 kE rfl rfl rfl rfl rfl rfl ?_)
 intro w6 b8 hg5 z7
 replace hs := hs.grown hg5 (by intro g hg; injection hg; omega)
 replace X := X.grown hg5 X.size (by intro g hg; injection hg; omega)
 clear hg5 b1
 refine aB (aF (aA rfl (aG sO rfl rfl (aA rfl (aJ b8 xO rfl rfl (aA rfl (bP rfl (aB (rU rfl (fun h9 => ?_) (fun h9 => ?_))))))))))
 refine aN (aA rfl (aC rfl (aA rfl (aG lC rfl rfl (aA rfl (aJ b8 dB rfl rfl (aA rfl (tG rfl rfl hx2.1 rfl (aA rfl (aIU rfl rfl (aBF ha hx2) (aA rfl (aE rfl (aB (dO (aS (aN (aA rfl (aY rfl rfl (dM (by omega)) (aA rfl (aC rfl (aB (aS ⟨(k + 1, sW a x.id), (.cons rfl (.cons rfl (.cons rfl (.cons rfl (.cons rfl (.nil _)))))), ?_, ?_⟩))))))))))))))))))))))
 · exact ⟨by omega, (tX ha hx2), (by rw [hi, dx, qG]; simp [*]), hs, X⟩
 · first | omega | (dsimp only; omega)
 refine aV (dO (aS (aN (aA rfl (aY rfl rfl (dM (by omega)) (aA rfl (aC rfl (aB (aS ⟨(k + 1, a), (.cons rfl (.cons rfl (.cons rfl (.cons rfl (.cons rfl (.nil _)))))), ?_, ?_⟩)))))))))
 · exact ⟨by omega, ha, (by rw [hi, dx, qG]; simp [*]), hs, X⟩
 · first | omega | (dsimp only; omega)
 exact aB (aR (aM rfl (dD (dC (dC (eG (aS (aF (aA rfl (aC rfl (aA rfl (aE rfl (aB (aW (aL rfl rfl ⟨by rw [hi, bL hk]; rfl, X⟩)))))))))))))))
theorem aFp (s : ByteArray) (w : World) (hm : s.size ≤ 9223372036854775807) :
   Calls Tryz.prog 276 #[.string s] w (fF fun v w' => v = .bool (fB s) ∧ Ext w w') := by
 have hsz : s.data.toList.length = s.size := by simp
 have X := Q7r w
 refine bJ (args := [.string s]) Tryz.func276 Tryz.ntmps276 rfl rfl (aF (aA rfl (aE rfl (aB (aR (aF (aA rfl (aE rfl (aB (aX (dG (G := Nat) (fun k => [(0, .string s), (3, .int .i64 (k : Nat))]) (fun k wr => k ≤ s.size ∧ s.data.toList.all hH = (s.data.toList.drop k).all hH ∧ Ext w wr) (fun k => s.size - k) 0 (.cons rfl (.cons rfl (.nil _))) ?_ ?_)))))))))))
 · exact ⟨by omega, rfl, X⟩
 clear X
 rintro k wr ⟨hk0, hi, X⟩
 refine aR (aF (aA rfl (aC rfl (aA rfl (aC rfl (aA rfl (jY Tryz.underlying9 rfl (aA rfl (cU rfl rfl (fun hk => ?_) (fun hk => ?_))))))))))
 obtain ⟨x, hx, dx⟩ := dR (xs := s.data.toList) (k := k) (by omega)
 have hg : s.data.toList.getD ((k : Int)).toNat 0 = x := by rw [List.getD_eq_getElem?_getD, Int.toNat_natCast, hx]; rfl
 refine aB (aQ rfl (aV (aS (aR (aX (aF (aA rfl (aC rfl (aA rfl (aC rfl (aA rfl (jQ Tryz.underlying9 rfl rfl (by omega) (by omega) (aA rfl (cU rfl rfl (fun c1 => ?_) (fun c1 => ?_)))))))))))))))
 refine aA rfl (aC rfl (aH rfl rfl rfl rfl (aH rfl rfl rfl rfl (aH rfl rfl rfl rfl (aH rfl rfl rfl rfl (aA rfl (aK rfl rfl (aA rfl (aC rfl (aI rfl rfl rfl (aC rfl (aI rfl rfl rfl (aC rfl (aI rfl rfl rfl (jQ Tryz.underlying9 rfl rfl (by omega) (by omega) (aI rfl rfl rfl (cU rfl rfl (fun c3 => ?_) (fun c3 => ?_))))))))))))))))))
 refine aI rfl rfl rfl (aC rfl (aH rfl rfl rfl rfl (aH rfl rfl rfl rfl (aH rfl rfl rfl rfl (aH rfl rfl rfl rfl (aI rfl rfl rfl (aK rfl rfl (aA rfl (aK rfl rfl (aB (aQ rfl (aF (aA rfl (aE rfl (aB (aW (dL (bN (bN (dL (bN (aL rfl rfl ?_))))))))))))))))))))))
 · skip
   refine ⟨congrArg Value.bool ?_, X⟩
   first
   | (have hd : s.data.toList.drop k = [] := bL (by omega)
      rw [fB, hi, hd]; simp [*]; done)
   | (have hd : s.data.toList.drop k = [] := bL (by omega)
      rw [fB, hi, hd, Bool.eq_iff_iff]; simp; omega)
   | (simp only [hg] at *
      have hb : hH x = false := by
        cases e : hH x
        · rfl
        · simp only [hH, Bool.or_eq_true, Bool.and_eq_true, decide_eq_true_eq] at e; omega
      rw [fB, hi, dx, List.all_cons, hb]; rfl)
 refine aI rfl rfl rfl (aC rfl (aI rfl rfl rfl (aC rfl (aI rfl rfl rfl (aC rfl (aI rfl rfl rfl (jQ Tryz.underlying9 rfl rfl (by omega) (by omega) (aI rfl rfl rfl (fG rfl rfl (fun c4 => ?_) (fun c4 => ?_))))))))))
 refine aI rfl rfl rfl (aK rfl rfl (aA rfl (aK rfl rfl (aB (aQ rfl (aF (aA rfl (aE rfl (aB (aW (dL (bN (bN (dL (bN (aL rfl rfl ?_))))))))))))))))
 · skip
   refine ⟨congrArg Value.bool ?_, X⟩
   first
   | (have hd : s.data.toList.drop k = [] := bL (by omega)
      rw [fB, hi, hd]; simp [*]; done)
   | (have hd : s.data.toList.drop k = [] := bL (by omega)
      rw [fB, hi, hd, Bool.eq_iff_iff]; simp; omega)
   | (simp only [hg] at *
      have hb : hH x = false := by
        cases e : hH x
        · rfl
        · simp only [hH, Bool.or_eq_true, Bool.and_eq_true, decide_eq_true_eq] at e; omega
      rw [fB, hi, dx, List.all_cons, hb]; rfl)
 refine aI rfl rfl rfl (aK rfl rfl (aA rfl (aK rfl rfl (aB (aM rfl (aV (dO (aS (aN (aA rfl (aC rfl (aA rfl (aY rfl rfl (dM (by omega)) (aA rfl (aE rfl (aB (aS ⟨k + 1, (.cons rfl (.cons rfl (.nil _))), ?_, ?_⟩)))))))))))))))))
 · skip
   exact ⟨by omega, (by
     simp only [hg] at *
     rw [hi, dx, List.all_cons]
     have hb : hH x = true := by simp only [hH, Bool.or_eq_true, Bool.and_eq_true, decide_eq_true_eq]; omega
     rw [hb]; rfl), X⟩
 · first | omega | (dsimp only; omega)
 refine aA rfl (aC rfl (aI rfl rfl rfl (aC rfl (aI rfl rfl rfl (aC rfl (aI rfl rfl rfl (jQ Tryz.underlying9 rfl rfl (by omega) (by omega) (aI rfl rfl rfl (fG rfl rfl (fun c2 => ?_) (fun c2 => ?_))))))))))
 refine aA rfl (aK rfl rfl (aA rfl (aC rfl (aI rfl rfl rfl (aC rfl (aI rfl rfl rfl (aC rfl (aI rfl rfl rfl (jQ Tryz.underlying9 rfl rfl (by omega) (by omega) (aI rfl rfl rfl (cU rfl rfl (fun c3 => ?_) (fun c3 => ?_))))))))))))
 refine aI rfl rfl rfl (aC rfl (aH rfl rfl rfl rfl (aH rfl rfl rfl rfl (aH rfl rfl rfl rfl (aH rfl rfl rfl rfl (aI rfl rfl rfl (aK rfl rfl (aA rfl (aK rfl rfl (aB (aQ rfl (aF (aA rfl (aE rfl (aB (aW (dL (bN (bN (dL (bN (aL rfl rfl ?_))))))))))))))))))))))
 · skip
   refine ⟨congrArg Value.bool ?_, X⟩
   first
   | (have hd : s.data.toList.drop k = [] := bL (by omega)
      rw [fB, hi, hd]; simp [*]; done)
   | (have hd : s.data.toList.drop k = [] := bL (by omega)
      rw [fB, hi, hd, Bool.eq_iff_iff]; simp; omega)
   | (simp only [hg] at *
      have hb : hH x = false := by
        cases e : hH x
        · rfl
        · simp only [hH, Bool.or_eq_true, Bool.and_eq_true, decide_eq_true_eq] at e; omega
      rw [fB, hi, dx, List.all_cons, hb]; rfl)
 refine aI rfl rfl rfl (aC rfl (aI rfl rfl rfl (aC rfl (aI rfl rfl rfl (aC rfl (aI rfl rfl rfl (jQ Tryz.underlying9 rfl rfl (by omega) (by omega) (aI rfl rfl rfl (fG rfl rfl (fun c4 => ?_) (fun c4 => ?_))))))))))
 refine aI rfl rfl rfl (aK rfl rfl (aA rfl (aK rfl rfl (aB (aQ rfl (aF (aA rfl (aE rfl (aB (aW (dL (bN (bN (dL (bN (aL rfl rfl ?_))))))))))))))))
 · skip
   refine ⟨congrArg Value.bool ?_, X⟩
   first
   | (have hd : s.data.toList.drop k = [] := bL (by omega)
      rw [fB, hi, hd]; simp [*]; done)
   | (have hd : s.data.toList.drop k = [] := bL (by omega)
      rw [fB, hi, hd, Bool.eq_iff_iff]; simp; omega)
   | (simp only [hg] at *
      have hb : hH x = false := by
        cases e : hH x
        · rfl
        · simp only [hH, Bool.or_eq_true, Bool.and_eq_true, decide_eq_true_eq] at e; omega
      rw [fB, hi, dx, List.all_cons, hb]; rfl)
 refine aI rfl rfl rfl (aK rfl rfl (aA rfl (aK rfl rfl (aB (aM rfl (aV (dO (aS (aN (aA rfl (aC rfl (aA rfl (aY rfl rfl (dM (by omega)) (aA rfl (aE rfl (aB (aS ⟨k + 1, (.cons rfl (.cons rfl (.nil _))), ?_, ?_⟩)))))))))))))))))
 · skip
   exact ⟨by omega, (by
     simp only [hg] at *
     rw [hi, dx, List.all_cons]
     have hb : hH x = true := by simp only [hH, Bool.or_eq_true, Bool.and_eq_true, decide_eq_true_eq]; omega
     rw [hb]; rfl), X⟩
 · first | omega | (dsimp only; omega)
 refine aA rfl (aK rfl rfl (aA rfl (aC rfl (aH rfl rfl rfl rfl (aH rfl rfl rfl rfl (aH rfl rfl rfl rfl (aH rfl rfl rfl rfl (aH rfl rfl rfl rfl (eD rfl rfl rfl (eD rfl rfl rfl (eD rfl rfl rfl (eD rfl rfl rfl (aH rfl rfl rfl rfl (aA rfl (aK rfl rfl (aB (aM rfl (aV (dO (aS (aN (aA rfl (aC rfl (aA rfl (aY rfl rfl (dM (by omega)) (aA rfl (aE rfl (aB (aS ⟨k + 1, (.cons rfl (.cons rfl (.nil _))), ?_, ?_⟩)))))))))))))))))))))))))))))
 · skip
   exact ⟨by omega, (by
     simp only [hg] at *
     rw [hi, dx, List.all_cons]
     have hb : hH x = true := by simp only [hH, Bool.or_eq_true, Bool.and_eq_true, decide_eq_true_eq]; omega
     rw [hb]; rfl), X⟩
 · first | omega | (dsimp only; omega)
 refine aB (aM rfl (dD (dC (dC (eG (aS (aF (aA rfl (aC rfl (aA rfl (jY Tryz.underlying9 rfl (aA rfl (lV rfl rfl (fun h1 => ?_) (fun h1 => ?_))))))))))))))
 refine aA rfl (aC rfl (aI rfl rfl rfl (aC rfl (aI rfl rfl rfl (jY Tryz.underlying9 rfl (aI rfl rfl rfl (qW rfl rfl (aA rfl (aK rfl rfl (aA rfl (aE rfl (aB (aW (aL rfl rfl ?_))))))))))))))
 · skip
   refine ⟨congrArg Value.bool ?_, X⟩
   first
   | (have hd : s.data.toList.drop k = [] := bL (by omega)
      rw [fB, hi, hd]; simp [*]; done)
   | (have hd : s.data.toList.drop k = [] := bL (by omega)
      rw [fB, hi, hd, Bool.eq_iff_iff]; simp; omega)
   | (simp only [hg] at *
      have hb : hH x = false := by
        cases e : hH x
        · rfl
        · simp only [hH, Bool.or_eq_true, Bool.and_eq_true, decide_eq_true_eq] at e; omega
      rw [fB, hi, dx, List.all_cons, hb]; rfl)
 refine aA rfl (aC rfl (aH rfl rfl rfl rfl (aH rfl rfl rfl rfl (aH rfl rfl rfl rfl (aA rfl (aK rfl rfl (aA rfl (aE rfl (aB (aW (aL rfl rfl ?_)))))))))))
 · skip
   refine ⟨congrArg Value.bool ?_, X⟩
   first
   | (have hd : s.data.toList.drop k = [] := bL (by omega)
      rw [fB, hi, hd]; simp [*]; done)
   | (have hd : s.data.toList.drop k = [] := bL (by omega)
      rw [fB, hi, hd, Bool.eq_iff_iff]; simp; omega)
   | (simp only [hg] at *
      have hb : hH x = false := by
        cases e : hH x
        · rfl
        · simp only [hH, Bool.or_eq_true, Bool.and_eq_true, decide_eq_true_eq] at e; omega
      rw [fB, hi, dx, List.all_cons, hb]; rfl)
theorem aFq (x : NodeI) (w : World) (hm : x.name.size ≤ 9223372036854775807) :
   Calls Tryz.prog 258 #[.agg x.cells.toArray] w (fF fun v w' => v = .bool (fE x) ∧ Ext w w') := by
 have X := Q7r w
 refine bJ (args := [.agg x.cells.toArray]) Tryz.func258 Tryz.ntmps258 rfl rfl (aF (aA rfl (eX rfl rfl ?_)))
 intro g4 w3 eg4 b1 x2 zg4
 have lg4 : w.heap.size ≤ g4 := Q7l X.size (Q7e eg4.symm)
 replace X := Q7x X x2; clear x2
 refine aA rfl (aE rfl (aB (aF (aA rfl (aG lC rfl rfl (aA rfl (aJ b1 dB rfl rfl (aA rfl (cV aHI rfl (aBI _ _) (fun w7 h5 x6 => ?_) (fun w7 h5 x6 => ?_))))))))))
 replace b1 := b1.ext x6
 replace X := Q7x X x6; clear x6
 refine aA rfl (aC rfl (aI rfl rfl rfl (aG gG rfl rfl (aI rfl rfl rfl (aJ b1 yA rfl rfl (aI rfl rfl rfl (cV aKL rfl (aFp _ _ hm) (fun w10 h8 x9 => ?_) (fun w10 h8 x9 => ?_))))))))
 replace b1 := b1.ext x9
 replace X := Q7x X x9; clear x9
 refine aA rfl (aK rfl rfl (aA rfl (aC rfl (aI rfl rfl rfl (aG lD rfl rfl (aI rfl rfl rfl (aJ b1 dB rfl rfl (aI rfl rfl rfl (aT kC rfl (aP (iQ _ _ _ _) ?_))))))))))
 rintro _ w12 ⟨rfl, x11⟩
 replace b1 := b1.ext x11
 replace X := Q7x X x11
 refine aA rfl (aK rfl rfl (aA rfl (aE rfl (aB (aW (aL rfl rfl ?_))))))
 · skip
   refine ⟨congrArg Value.bool ?_, X⟩
   simp [fE, *]
 replace b1 := b1.ext x9
 replace X := Q7x X x9; clear x9
 refine aA rfl (aK rfl rfl (aA rfl (aC rfl (aH rfl rfl rfl rfl (aH rfl rfl rfl rfl (aH rfl rfl rfl rfl (aA rfl (aK rfl rfl (aA rfl (aE rfl (aB (aW (aL rfl rfl ?_)))))))))))))
 · skip
   refine ⟨congrArg Value.bool ?_, X⟩
   simp [fE, *]
 replace b1 := b1.ext x6
 replace X := Q7x X x6; clear x6
 refine aA rfl (aC rfl (aH rfl rfl rfl rfl (aH rfl rfl rfl rfl (aH rfl rfl rfl rfl (aA rfl (aK rfl rfl (aA rfl (aC rfl (aH rfl rfl rfl rfl (aH rfl rfl rfl rfl (aH rfl rfl rfl rfl (aA rfl (aK rfl rfl (aA rfl (aE rfl (aB (aW (aL rfl rfl ?_))))))))))))))))))
 · skip
   refine ⟨congrArg Value.bool ?_, X⟩
   simp [fE, *]
theorem aFr (x : NodeI) (w : World) (hm : x.name.size ≤ 9223372036854775807) :
   Calls Tryz.prog 197 #[.agg x.cells.toArray] w (fF fun v w' => v = .bool (fE x) ∧ Ext w w') := by
 have X := Q7r w
 refine bJ (args := [.agg x.cells.toArray]) Tryz.func197 Tryz.ntmps197 rfl rfl (aF (aA rfl (eX rfl rfl ?_)))
 intro g4 w3 eg4 b1 x2 zg4
 have lg4 : w.heap.size ≤ g4 := Q7l X.size (Q7e eg4.symm)
 replace X := Q7x X x2; clear x2
 refine aA rfl (aE rfl (aB (aF (aA rfl (aG gG rfl rfl (aA rfl (aJ b1 yA rfl rfl (aA rfl (jY Tryz.underlying9 rfl (aA rfl (lV rfl rfl (fun n1 => ?_) (fun n1 => ?_))))))))))))
 refine aA rfl (aC rfl (aI rfl rfl rfl (aG gG rfl rfl (aI rfl rfl rfl (aJ b1 yA rfl rfl (aI rfl rfl rfl (jY Tryz.underlying9 rfl (aI rfl rfl rfl (aAc rfl rfl (fun n2 => ?_) (fun n2 => ?_))))))))))
 refine aA rfl (aK rfl rfl (aA rfl (aC rfl (aI rfl rfl rfl (aG gG rfl rfl (aI rfl rfl rfl (aJ b1 yA rfl rfl (aI rfl rfl rfl (aT aKA rfl (aP (aJk _ _ hm) ?_))))))))))
 rintro _ w6 ⟨rfl, x5⟩
 replace b1 := b1.ext x5
 replace X := Q7x X x5; clear x5
 refine aI rfl rfl rfl (aGP rfl rfl (fun n3 => ?_) (fun n3 => ?_))
 refine aA rfl (aK rfl rfl (aA rfl (aE rfl (aB (aF (aA rfl (aC rfl (aA rfl (aC rfl (aI rfl rfl rfl (aG lC rfl rfl (aI rfl rfl rfl (aJ b1 dB rfl rfl (aI rfl rfl rfl (cV aHn rfl (aDw _ _) (fun w9 h7 x8 => ?_) (fun w9 h7 x8 => ?_))))))))))))))))
 replace b1 := b1.ext x8
 replace X := Q7x X x8; clear x8
 refine aA rfl (aK rfl rfl (aA rfl (aC rfl (aI rfl rfl rfl (aG lD rfl rfl (aI rfl rfl rfl (aJ b1 dB rfl rfl (aI rfl rfl rfl (aT nK rfl (aP (jU _ _ _ _) ?_))))))))))
 rintro _ w11 ⟨rfl, x10⟩
 replace b1 := b1.ext x10
 replace X := Q7x X x10
 refine aA rfl (aK rfl rfl (aA rfl (aE rfl (aB (aW (aL rfl rfl ?_))))))
 · skip
   refine ⟨congrArg Value.bool ?_, X⟩
   first
   | (rw [kH] at n3; simp only [fE, fB, n3, decide_eq_true (show 1 ≤ x.name.size by omega), decide_eq_true (show x.name.size ≤ 6 by omega)]; simp [*]; done)
   | (rw [kH] at n3; simp only [fE, fB, n3]; simp; done)
   | (simp only [fE, fB, decide_eq_false (show ¬ x.name.size ≤ 6 by omega)]; simp; done)
   | (simp only [fE, fB, decide_eq_false (show ¬ 1 ≤ x.name.size by omega)]; simp; done)
 replace b1 := b1.ext x8
 replace X := Q7x X x8; clear x8
 refine aA rfl (aK rfl rfl (aA rfl (aC rfl (aH rfl rfl rfl rfl (aH rfl rfl rfl rfl (aH rfl rfl rfl rfl (aA rfl (aK rfl rfl (aA rfl (aE rfl (aB (aW (aL rfl rfl ?_)))))))))))))
 · skip
   refine ⟨congrArg Value.bool ?_, X⟩
   first
   | (rw [kH] at n3; simp only [fE, fB, n3, decide_eq_true (show 1 ≤ x.name.size by omega), decide_eq_true (show x.name.size ≤ 6 by omega)]; simp [*]; done)
   | (rw [kH] at n3; simp only [fE, fB, n3]; simp; done)
   | (simp only [fE, fB, decide_eq_false (show ¬ x.name.size ≤ 6 by omega)]; simp; done)
   | (simp only [fE, fB, decide_eq_false (show ¬ 1 ≤ x.name.size by omega)]; simp; done)
 refine aA rfl (aK rfl rfl (aA rfl (aE rfl (aB (aF (aA rfl (aC rfl (aA rfl (aC rfl (aH rfl rfl rfl rfl (aH rfl rfl rfl rfl (aH rfl rfl rfl rfl (aA rfl (aK rfl rfl (aA rfl (aC rfl (aH rfl rfl rfl rfl (aH rfl rfl rfl rfl (aH rfl rfl rfl rfl (aA rfl (aK rfl rfl (aA rfl (aE rfl (aB (aW (aL rfl rfl ?_))))))))))))))))))))))))))
 · skip
   refine ⟨congrArg Value.bool ?_, X⟩
   first
   | (rw [kH] at n3; simp only [fE, fB, n3, decide_eq_true (show 1 ≤ x.name.size by omega), decide_eq_true (show x.name.size ≤ 6 by omega)]; simp [*]; done)
   | (rw [kH] at n3; simp only [fE, fB, n3]; simp; done)
   | (simp only [fE, fB, decide_eq_false (show ¬ x.name.size ≤ 6 by omega)]; simp; done)
   | (simp only [fE, fB, decide_eq_false (show ¬ 1 ≤ x.name.size by omega)]; simp; done)
 refine aA rfl (aK rfl rfl (aA rfl (aC rfl (aH rfl rfl rfl rfl (aH rfl rfl rfl rfl (aH rfl rfl rfl rfl (aH rfl rfl rfl rfl (aA rfl (aK rfl rfl (aA rfl (aE rfl (aB (aF (aA rfl (aC rfl (aA rfl (aC rfl (aH rfl rfl rfl rfl (aH rfl rfl rfl rfl (aH rfl rfl rfl rfl (aA rfl (aK rfl rfl (aA rfl (aC rfl (aH rfl rfl rfl rfl (aH rfl rfl rfl rfl (aH rfl rfl rfl rfl (aA rfl (aK rfl rfl (aA rfl (aE rfl (aB (aW (aL rfl rfl ?_))))))))))))))))))))))))))))))))))
 · skip
   refine ⟨congrArg Value.bool ?_, X⟩
   first
   | (rw [kH] at n3; simp only [fE, fB, n3, decide_eq_true (show 1 ≤ x.name.size by omega), decide_eq_true (show x.name.size ≤ 6 by omega)]; simp [*]; done)
   | (rw [kH] at n3; simp only [fE, fB, n3]; simp; done)
   | (simp only [fE, fB, decide_eq_false (show ¬ x.name.size ≤ 6 by omega)]; simp; done)
   | (simp only [fE, fB, decide_eq_false (show ¬ 1 ≤ x.name.size by omega)]; simp; done)
 refine aA rfl (aC rfl (aH rfl rfl rfl rfl (aH rfl rfl rfl rfl (aH rfl rfl rfl rfl (aH rfl rfl rfl rfl (aA rfl (aK rfl rfl (aA rfl (aC rfl (aH rfl rfl rfl rfl (aH rfl rfl rfl rfl (aH rfl rfl rfl rfl (aH rfl rfl rfl rfl (aA rfl (aK rfl rfl (aA rfl (aE rfl (aB (aF (aA rfl (aC rfl (aA rfl (aC rfl (aH rfl rfl rfl rfl (aH rfl rfl rfl rfl (aH rfl rfl rfl rfl (aA rfl (aK rfl rfl (aA rfl (aC rfl (aH rfl rfl rfl rfl (aH rfl rfl rfl rfl (aH rfl rfl rfl rfl (aA rfl (aK rfl rfl (aA rfl (aE rfl (aB (aW (aL rfl rfl ?_))))))))))))))))))))))))))))))))))))))))
 · skip
   refine ⟨congrArg Value.bool ?_, X⟩
   first
   | (rw [kH] at n3; simp only [fE, fB, n3, decide_eq_true (show 1 ≤ x.name.size by omega), decide_eq_true (show x.name.size ≤ 6 by omega)]; simp [*]; done)
   | (rw [kH] at n3; simp only [fE, fB, n3]; simp; done)
   | (simp only [fE, fB, decide_eq_false (show ¬ x.name.size ≤ 6 by omega)]; simp; done)
   | (simp only [fE, fB, decide_eq_false (show ¬ 1 ≤ x.name.size by omega)]; simp; done)
end Go.Proofs.YtdoibplhbdkapaaGreatDoor
