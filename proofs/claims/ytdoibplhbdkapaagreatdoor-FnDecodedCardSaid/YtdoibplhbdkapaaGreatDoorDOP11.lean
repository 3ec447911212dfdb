/- Parts. No condition. -/
import Derived.Test.YtdoibplhbdkapaaGreatDoorDOP10
import Derived.Test.YtdoibplhbdkapaaGreatDoorDOP6
import Derived.Test.YtdoibplhbdkapaaGreatDoorDOP4
namespace Go.Proofs.YtdoibplhbdkapaaGreatDoor
open Go.RowKit
set_option linter.unusedVariables false
set_option linter.unusedSimpArgs false
set_option maxRecDepth 20000
def vB (A : Option Addr) (xs : List Int) : List ModeI := if xs.length = 0 then [lL none 0 []] else chs A 28 xs (cN 28 xs.length)
theorem aGv {n : Nat} (h : n ≠ 0) : cN 28 n = nB n := by
 unfold cN nB; rw [if_neg h, show n + 28 - 1 = n + 27 by omega]
theorem aCO (A : Option Addr) (xs : List Int) : (vB A xs).length = nB xs.length := by
 unfold vB
 split
 · rename_i h; rw [h]; rfl
 · rename_i h; rw [aAm, aGv h]
theorem aCP (A : Option Addr) (xs : List Int) {k : Nat} (h : k < nB xs.length) : ∃ pA pc, (vB A xs)[k]? = some (lL pA pc (iJ xs k)) ∧ (iJ xs k).length ≤ pc := by
 unfold vB
 split
 · rename_i h0
   rw [h0] at h
   have hk : k = 0 := by have h2 : k < 1 := h; omega
   subst hk
   have e : xs = [] := List.eq_nil_of_length_eq_zero h0
   subst e
   exact ⟨none, 0, rfl, Nat.le_refl _⟩
 · rename_i h0
   rw [aGr (by rw [aGv h0]; exact h)]
   refine ⟨_, _, rfl, ?_⟩
   rw [jL]; exact Nat.le_refl _
theorem aAw {B : Nat} {w : World} {A : Option Addr} {xs : List Int} (hs : Sl B w A (xs.flatMap eI)) (hl : xs.length ≤ 1048576) : Nexts B w (vB A xs) := by
 unfold vB
 split
 · refine ⟨hs.1, fun x hx => ?_⟩
   obtain rfl : x = lL none 0 [] := by simpa using hx
   exact ⟨Sl.nil_ hs.1 _, Nat.zero_le _⟩
 · exact aBp hs hl _
theorem aGw {xs : List Int} (h : xs.length = 0) (A : Option Addr) : (vB A xs).flatMap rQ = [.slice none 0 0] := by unfold vB; rw [if_pos h]; rfl
theorem aBZ {xs : List Int} {k : Nat} (h : xs.length ≤ 28 * (k + 1)) : jK xs k = [(k : Int), ((iJ xs k).length : Int) + 128] ++ iJ xs k := by unfold jK aDr; rw [if_pos h]; rfl
theorem aB0 {xs : List Int} {k : Nat} (h : ¬ xs.length ≤ 28 * (k + 1)) : jK xs k = [(k : Int), ((iJ xs k).length : Int)] ++ iJ xs k := by unfold jK aDr; rw [if_neg h, Int.add_zero]; rfl
theorem eT (xs : List Int) (k : Nat) : (jK xs k).length = 2 + (iJ xs k).length := by unfold jK; rw [List.length_cons, List.length_cons]; omega
theorem tC {xs : List Int} (hb : ∀ x ∈ xs, 0 ≤ x ∧ x ≤ 255) {k : Nat} (hk : k ≤ 255) : ∀ x ∈ jK xs k, 0 ≤ x ∧ x ≤ 255 := fun x hx => by
 have hpl := jL xs k
 rcases List.mem_cons.1 hx with rfl | h4
 · omega
 · rcases List.mem_cons.1 h4 with rfl | h5
   · unfold aDr; split <;> omega
   · exact hb x (List.mem_of_mem_drop (List.mem_of_mem_take h5))
theorem aAx {xs : List Int} {k : Nat} (h : 28 * k ≤ xs.length) : (xs.drop (28 * k)).take (min xs.length (28 * (k + 1)) - 28 * k) = iJ xs k := by
 unfold iJ
 by_cases h2 : 28 * (k + 1) ≤ xs.length
 · rw [Nat.min_eq_right h2, show 28 * (k + 1) - 28 * k = 28 by omega]
 · rw [Nat.min_eq_left (by omega), List.take_of_length_le (by simp), List.take_of_length_le (by simp; omega)]
theorem aKY {n k : Nat} (h : k < nB n) : 28 * k ≤ n := by have := aBH.1 h; omega
theorem aBt (A : Option Addr) (B c : Nat) (xs : List Int) (w : World) (hs : Sl B w A (xs.flatMap eI)) (hl : xs.length ≤ 2000) (hb : ∀ x ∈ xs, 0 ≤ x ∧ x ≤ 255) (hc : xs.length ≤ c) (hn : Nexts B w (vB A xs)) :
   Calls Tryz.prog 69 #[.slice A xs.length c] w (fF fun v w' => ∃ A' c', v = .slice A' (vM xs).length c' ∧ Own w' w.heap.size 2 1 A' (vM xs).length c' ((vM xs).flatMap eI) ∧ Ext w w') := by
 have hnB := zE xs.length
 have Bhs := hs.1
 have Bhn := hn.1
 have X := Q7r w
 refine bJ (args := [.slice A xs.length c]) Tryz.func69 Tryz.ntmps69 rfl rfl (aF (aA rfl (aE rfl (aB (aF (aA rfl (aO cQ dB rfl rfl rfl rfl rfl ?_)))))))
 intro gO w2 egO oO bbgO x1 zgO
 replace oO := Own.low oO X.size
 replace hs := hs.ext x1
 replace hn := hn.ext x1
 replace X := Q7x X x1; clear x1
 refine aA rfl (aC rfl (aA rfl (aT aHq rfl (aP (aEU A xs.length c 28 _ (by omega)) ?_))))
 rintro _ wK ⟨gs, gn, rfl, q1, q2, xK⟩
 replace hs := hs.ext xK
 replace hn := hn.ext xK
 replace oO := oO.ext xK
 replace X := Q7x X xK; clear xK
 refine aA rfl (aT aHp rfl (aP (aBr gs gn 28 c A xs _ q1 q2 (by omega) (by omega) hc) ?_))
 rintro _ wL ⟨AL, cL, rfl, oL, xL⟩
 replace oL := Own.low oL X.size
 replace hs := hs.ext xL
 replace hn := hn.ext xL
 replace oO := oO.ext xL
 replace X := Q7x X xL; clear xL q1 q2
 refine aA rfl (aE rfl (aA rfl (aE rfl (aB (aR (aF (aA rfl (aC rfl (aA rfl (bO Tryz.underlying30 rfl (aA rfl (dP rfl rfl (fun h0 => ?_) (fun h0 => ?_)))))))))))))
 refine aB (aQ rfl (aN (aA rfl (aO sX mD rfl rfl rfl rfl rfl ?_))))
 intro gP w4 egP oP bbgP x3 zgP
 replace oP := Own.low oP X.size
 replace hs := hs.ext x3
 replace hn := hn.ext x3
 replace oO := oO.ext x3
 replace oL := oL.ext x3
 replace X := Q7x X x3; clear x3
 refine aA rfl (aE rfl (aB (aS (aR (aF ?_)))))
 have h00 : xs.length = 0 := by omega
 have e1 : nB xs.length = 1 := by rw [h00]; rfl
 have oR : Own _ w.heap.size 30 1 (some ⟨gP, 0, none⟩) 1 1 ((vB A xs).flatMap rQ) := oP.to (by rw [aGw h00]; rfl)
 clear oP oL
 refine aA rfl (aC rfl (aA rfl (bO Tryz.underlying107 rfl (aA rfl (aC rfl (aB (aX (dG (G := Nat × Nat × Option Addr × Nat) (fun ⟨k, n1, A1, c1⟩ => [(2, .slice none 0 0), (4, .slice (some ⟨gP, 0, none⟩) 1 1), (17, .slice (some ⟨gP, 0, none⟩) 1 1), (18, .int .i64 (1 : Nat)), (3, .slice A1 n1 c1), (19, .int .i64 (k : Nat))]) (fun ⟨k, n1, A1, c1⟩ wr => k ≤ nB xs.length ∧ n1 ≤ 33 * k ∧ n1 = (wH xs k).length ∧ Own wr w.heap.size 2 1 A1 n1 c1 ((wH xs k).flatMap eI) ∧ Sl B wr A (xs.flatMap eI) ∧ Nexts B wr (vB A xs) ∧ Own wr w.heap.size 30 1 (some ⟨gP, 0, none⟩) 1 1 ((vB A xs).flatMap rQ) ∧ Ext w wr) (fun ⟨k, n1, A1, c1⟩ => nB xs.length - k) (0, 0, some ⟨gO, 0, none⟩, 0) (.cons rfl (.cons rfl (.cons rfl (.cons rfl (.cons rfl (.cons rfl (.nil _))))))) ?_ ?_))))))))
 · exact ⟨(Nat.zero_le _), (Nat.le_refl _), rfl, oO, hs, hn, oR, X⟩
 clear hs hn oO oR
 clear X
 rintro ⟨k, n1, A1, c1⟩ wr ⟨hk0, hnk, hn1, oO, hs, hn, oR, X⟩
 refine aF (aA rfl (cU rfl rfl (fun hk => ?_) (fun hk => ?_)))
 have LX := X.size
 have UO := fun g hg => (Own.lt oO (g := g) hg).2
 obtain ⟨pA, pc, hx, hpc⟩ := aCP A xs (k := k) (by omega)
 have hpl := jL xs k
 have hrl : (lL pA pc (iJ xs k)).m.next.length = (iJ xs k).length := rfl
 refine aB (aR (aQ rfl (aV (aS (aR (aX (aF (aA rfl (aC rfl (aA rfl (aU (oR).sl jH rfl sX rfl (e1.symm.trans (aCO A xs).symm) rfl hx rfl (aA rfl (bS (oR).sl jH hx mD rfl rfl rfl ?_)))))))))))))
 have hp : Sl B _ pA ((iJ xs k).flatMap eI) := hn.at_ hx
 refine aA rfl (aE rfl (aA rfl (aE rfl (aB (aF (aA rfl (aC rfl (aA rfl (bO Tryz.underlying30 rfl (aA rfl (aE rfl (aB (aR (aF (aA rfl (aC rfl (aA rfl (aC rfl (aA rfl (bO Tryz.underlying107 rfl (aA rfl (fZ rfl rfl (dM (by omega)) (aA rfl (dP rfl rfl (fun hlast => ?_) (fun hlast => ?_)))))))))))))))))))))))))
 refine aB (aQ rfl (aN (aA rfl (aC rfl (aA rfl (aY rfl rfl (dM (by omega)) (aA rfl (aE rfl (aB (aS (aF ?_)))))))))))
 have hL := (xF (n := xs.length) (k := k) (by omega)).2 (by omega)
 refine aA rfl (aC rfl (aA rfl (aC rfl (aA rfl (aO cQ dB rfl rfl rfl rfl rfl ?_)))))
 intro gS w6 egS oS bbgS x5 zgS
 replace oS := Own.low oS (Nat.le_refl _)
 replace oO := oO.ext x5
 replace hs := hs.ext x5
 replace hn := hn.ext x5
 replace oR := oR.ext x5
 replace hp := hp.ext x5
 replace X := Q7x X x5; clear x5
 refine aA rfl (aC rfl (aA rfl (cH (ts := #[]) oS (by omega) hp (eW bI _) (dY _) cQ dB rfl rfl rfl rfl (by omega) (by omega) ?_)))
 intro AoB coB w9 oB hg7
 replace oO := oO.grown hg7 (fun g hg e => absurd (UO g e) (Nat.not_lt.2 (Own.lt oS hg).1))
 replace hs := hs.grown hg7 (fun g hg => Q7l (Q7l Bhs LX) (Own.lt oS hg).1)
 replace hn := hn.grown hg7 (fun g hg => Q7l (Q7l Bhs LX) (Own.lt oS hg).1)
 replace oR := oR.grown hg7 (Own.neO oR oS (by decide))
 replace hp := hp.grown hg7 (fun g hg => Q7l (Q7l Bhs LX) (Own.lt oS hg).1)
 replace X := X.grown hg7 X.size (fun g hg => (Q7l LX (Own.lt oS hg).1))
 clear hg7
 replace oB := oB.to (cs' := (jK xs k).flatMap eI) (by rw [aBZ hL, List.flatMap_append]; rfl)
 refine aA rfl (aE rfl (aB (aN (aA rfl (aC rfl (aA rfl (aC rfl (aA rfl (cH (ts := #[]) oO X.size oB.sl (by rw [eW bI, eT]) (dY _) cQ dB rfl rfl rfl rfl (by omega) (by omega) ?_)))))))))
 intro AoM coM w11 oM hg10
 replace hs := hs.grown hg10 (fun g hg => Q7l Bhs (Own.lt oO hg).1)
 replace hn := hn.grown hg10 (fun g hg => Q7l Bhn (Own.lt oO hg).1)
 replace oR := oR.grown hg10 (Own.neO oR oO (by decide))
 replace hp := hp.grown hg10 (fun g hg => Q7l Bhs (Own.lt oO hg).1)
 replace oB := oB.grown hg10 (fun g hg e => absurd (UO g hg) (Nat.not_lt.2 (Own.lt oB e).1))
 replace X := X.grown hg10 X.size (fun g hg => (Own.lt oO hg).1)
 clear hg10
 refine aA rfl (aC rfl (aA rfl (aC rfl (aA rfl (aT aA1 rfl (aP (mN k _ _ _ _ (jK xs k) _ oB.sl (eT xs k) (by rw [eT]; omega) (tC hb (by omega)) (by omega)) ?_))))))
 rintro _ w13 ⟨AC, cC, rfl, oC, x12⟩
 replace oC := Own.low oC X.size
 replace hs := hs.ext x12
 replace hn := hn.ext x12
 replace oR := oR.ext x12
 replace hp := hp.ext x12
 replace oB := oB.ext x12
 replace oM := oM.ext x12
 replace X := Q7x X x12
 refine aA rfl (cH (ts := #[]) oM X.size oC.sl rfl (dY (nX k (jK xs k))) cQ dB rfl rfl rfl rfl (by omega) (by omega) ?_)
 intro AoN coN w15 oN hg14
 replace hs := hs.grown hg14 (fun g hg => Q7l Bhs (Own.lt oM hg).1)
 replace hn := hn.grown hg14 (fun g hg => Q7l Bhn (Own.lt oM hg).1)
 replace oR := oR.grown hg14 (Own.neO oR oM (by decide))
 replace hp := hp.grown hg14 (fun g hg => Q7l Bhs (Own.lt oM hg).1)
 replace X := X.grown hg14 X.size (fun g hg => (Own.lt oM hg).1)
 clear hg14
 refine aA rfl (aE rfl (aB (dO (aS (aN (aA rfl (aY rfl rfl (dM (by omega)) (aA rfl (aC rfl (aB (aS ⟨(k + 1, n1 + (2 + (iJ xs k).length) + 3, AoN, coN), (.cons rfl (.cons rfl (.cons rfl (.cons rfl (.cons rfl (.cons rfl (.nil _))))))), ?_, ?_⟩)))))))))))
 · exact ⟨(by omega), (by omega), (by rw [fX, List.length_append, jN, List.length_append, eT, ← hn1, jB]; omega), (oN.to (by rw [fX, jN, List.flatMap_append, List.flatMap_append, List.append_assoc])), hs, hn, oR, X⟩
 · first | omega | (dsimp only; omega)
 refine aB (aM rfl (aV (aS (aF ?_))))
 have hL := (not_congr (xF (n := xs.length) (k := k) (by omega))).2 (by omega)
 refine aA rfl (aC rfl (aA rfl (aC rfl (aA rfl (aO cQ dB rfl rfl rfl rfl rfl ?_)))))
 intro gS w17 egS oS bbgS x16 zgS
 replace oS := Own.low oS (Nat.le_refl _)
 replace oO := oO.ext x16
 replace hs := hs.ext x16
 replace hn := hn.ext x16
 replace oR := oR.ext x16
 replace hp := hp.ext x16
 replace X := Q7x X x16
 refine aA rfl (aC rfl (aA rfl (cH (ts := #[]) oS (by omega) hp (eW bI _) (dY _) cQ dB rfl rfl rfl rfl (by omega) (by omega) ?_)))
 intro AoB coB w19 oB hg18
 replace oO := oO.grown hg18 (fun g hg e => absurd (UO g e) (Nat.not_lt.2 (Own.lt oS hg).1))
 replace hs := hs.grown hg18 (fun g hg => Q7l (Q7l Bhs LX) (Own.lt oS hg).1)
 replace hn := hn.grown hg18 (fun g hg => Q7l (Q7l Bhs LX) (Own.lt oS hg).1)
 replace oR := oR.grown hg18 (Own.neO oR oS (by decide))
 replace hp := hp.grown hg18 (fun g hg => Q7l (Q7l Bhs LX) (Own.lt oS hg).1)
 replace X := X.grown hg18 X.size (fun g hg => (Q7l LX (Own.lt oS hg).1))
 clear hg18
 replace oB := oB.to (cs' := (jK xs k).flatMap eI) (by rw [aB0 hL, List.flatMap_append]; rfl)
 refine aA rfl (aE rfl (aB (aN (aA rfl (aC rfl (aA rfl (aC rfl (aA rfl (cH (ts := #[]) oO X.size oB.sl (by rw [eW bI, eT]) (dY _) cQ dB rfl rfl rfl rfl (by omega) (by omega) ?_)))))))))
 intro AoM coM w21 oM hg20
 replace hs := hs.grown hg20 (fun g hg => Q7l Bhs (Own.lt oO hg).1)
 replace hn := hn.grown hg20 (fun g hg => Q7l Bhn (Own.lt oO hg).1)
 replace oR := oR.grown hg20 (Own.neO oR oO (by decide))
 replace hp := hp.grown hg20 (fun g hg => Q7l Bhs (Own.lt oO hg).1)
 replace oB := oB.grown hg20 (fun g hg e => absurd (UO g hg) (Nat.not_lt.2 (Own.lt oB e).1))
 replace X := X.grown hg20 X.size (fun g hg => (Own.lt oO hg).1)
 clear hg20
 refine aA rfl (aC rfl (aA rfl (aC rfl (aA rfl (aT aA1 rfl (aP (mN k _ _ _ _ (jK xs k) _ oB.sl (eT xs k) (by rw [eT]; omega) (tC hb (by omega)) (by omega)) ?_))))))
 rintro _ w23 ⟨AC, cC, rfl, oC, x22⟩
 replace oC := Own.low oC X.size
 replace hs := hs.ext x22
 replace hn := hn.ext x22
 replace oR := oR.ext x22
 replace hp := hp.ext x22
 replace oB := oB.ext x22
 replace oM := oM.ext x22
 replace X := Q7x X x22
 refine aA rfl (cH (ts := #[]) oM X.size oC.sl rfl (dY (nX k (jK xs k))) cQ dB rfl rfl rfl rfl (by omega) (by omega) ?_)
 intro AoN coN w25 oN hg24
 replace hs := hs.grown hg24 (fun g hg => Q7l Bhs (Own.lt oM hg).1)
 replace hn := hn.grown hg24 (fun g hg => Q7l Bhn (Own.lt oM hg).1)
 replace oR := oR.grown hg24 (Own.neO oR oM (by decide))
 replace hp := hp.grown hg24 (fun g hg => Q7l Bhs (Own.lt oM hg).1)
 replace X := X.grown hg24 X.size (fun g hg => (Own.lt oM hg).1)
 clear hg24
 refine aA rfl (aE rfl (aB (dO (aS (aN (aA rfl (aY rfl rfl (dM (by omega)) (aA rfl (aC rfl (aB (aS ⟨(k + 1, n1 + (2 + (iJ xs k).length) + 3, AoN, coN), (.cons rfl (.cons rfl (.cons rfl (.cons rfl (.cons rfl (.cons rfl (.nil _))))))), ?_, ?_⟩)))))))))))
 · exact ⟨(by omega), (by omega), (by rw [fX, List.length_append, jN, List.length_append, eT, ← hn1, jB]; omega), (oN.to (by rw [fX, jN, List.flatMap_append, List.flatMap_append, List.append_assoc])), hs, hn, oR, X⟩
 · first | omega | (dsimp only; omega)
 refine aB (aR (aM rfl (dD (dC (dC (eG (aS (aF (aA rfl (aC rfl (aA rfl (aE rfl (aB (aW (aL rfl rfl ?_)))))))))))))))
 · skip
   have hkE : k = nB xs.length := by omega
   rw [hkE] at oO hn1
   unfold vM
   rw [← hn1]; exact ⟨A1, c1, rfl, oO, X⟩
 refine aB (aM rfl (aV (aS (aR (aF ?_)))))
 have h00 : xs.length ≠ 0 := by omega
 have e1 : nB xs.length = cN 28 xs.length := (aGv h00).symm
 have oR : Own _ w.heap.size 30 1 AL (cN 28 xs.length) cL ((vB A xs).flatMap rQ) := oL.to (by unfold vB; rw [if_neg h00])
 clear oL
 refine aA rfl (aC rfl (aA rfl (bO Tryz.underlying107 rfl (aA rfl (aC rfl (aB (aX (dG (G := Nat × Nat × Option Addr × Nat) (fun ⟨k, n1, A1, c1⟩ => [(2, .slice none 0 0), (4, .slice AL (cN 28 xs.length) cL), (17, .slice AL (cN 28 xs.length) cL), (18, .int .i64 ((cN 28 xs.length) : Nat)), (3, .slice A1 n1 c1), (19, .int .i64 (k : Nat))]) (fun ⟨k, n1, A1, c1⟩ wr => k ≤ nB xs.length ∧ n1 ≤ 33 * k ∧ n1 = (wH xs k).length ∧ Own wr w.heap.size 2 1 A1 n1 c1 ((wH xs k).flatMap eI) ∧ Sl B wr A (xs.flatMap eI) ∧ Nexts B wr (vB A xs) ∧ Own wr w.heap.size 30 1 AL (cN 28 xs.length) cL ((vB A xs).flatMap rQ) ∧ Ext w wr) (fun ⟨k, n1, A1, c1⟩ => nB xs.length - k) (0, 0, some ⟨gO, 0, none⟩, 0) (.cons rfl (.cons rfl (.cons rfl (.cons rfl (.cons rfl (.cons rfl (.nil _))))))) ?_ ?_))))))))
 · exact ⟨(Nat.zero_le _), (Nat.le_refl _), rfl, oO, hs, hn, oR, X⟩
 clear hs hn oO oR
 clear X
 rintro ⟨k, n1, A1, c1⟩ wr ⟨hk0, hnk, hn1, oO, hs, hn, oR, X⟩
 refine aF (aA rfl (cU rfl rfl (fun hk => ?_) (fun hk => ?_)))
 have LX := X.size
 have UO := fun g hg => (Own.lt oO (g := g) hg).2
 obtain ⟨pA, pc, hx, hpc⟩ := aCP A xs (k := k) (by omega)
 have hpl := jL xs k
 have hrl : (lL pA pc (iJ xs k)).m.next.length = (iJ xs k).length := rfl
 refine aB (aR (aQ rfl (aV (aS (aR (aX (aF (aA rfl (aC rfl (aA rfl (aU (oR).sl jH rfl sX rfl (e1.symm.trans (aCO A xs).symm) rfl hx rfl (aA rfl (bS (oR).sl jH hx mD rfl rfl rfl ?_)))))))))))))
 have hp : Sl B _ pA ((iJ xs k).flatMap eI) := hn.at_ hx
 refine aA rfl (aE rfl (aA rfl (aE rfl (aB (aF (aA rfl (aC rfl (aA rfl (bO Tryz.underlying30 rfl (aA rfl (aE rfl (aB (aR (aF (aA rfl (aC rfl (aA rfl (aC rfl (aA rfl (bO Tryz.underlying107 rfl (aA rfl (fZ rfl rfl (dM (by omega)) (aA rfl (dP rfl rfl (fun hlast => ?_) (fun hlast => ?_)))))))))))))))))))))))))
 refine aB (aQ rfl (aN (aA rfl (aC rfl (aA rfl (aY rfl rfl (dM (by omega)) (aA rfl (aE rfl (aB (aS (aF ?_)))))))))))
 have hL := (xF (n := xs.length) (k := k) (by omega)).2 (by omega)
 refine aA rfl (aC rfl (aA rfl (aC rfl (aA rfl (aO cQ dB rfl rfl rfl rfl rfl ?_)))))
 intro gS w27 egS oS bbgS x26 zgS
 replace oS := Own.low oS (Nat.le_refl _)
 replace oO := oO.ext x26
 replace hs := hs.ext x26
 replace hn := hn.ext x26
 replace oR := oR.ext x26
 replace hp := hp.ext x26
 replace X := Q7x X x26
 refine aA rfl (aC rfl (aA rfl (cH (ts := #[]) oS (by omega) hp (eW bI _) (dY _) cQ dB rfl rfl rfl rfl (by omega) (by omega) ?_)))
 intro AoB coB w29 oB hg28
 replace oO := oO.grown hg28 (fun g hg e => absurd (UO g e) (Nat.not_lt.2 (Own.lt oS hg).1))
 replace hs := hs.grown hg28 (fun g hg => Q7l (Q7l Bhs LX) (Own.lt oS hg).1)
 replace hn := hn.grown hg28 (fun g hg => Q7l (Q7l Bhs LX) (Own.lt oS hg).1)
 replace oR := oR.grown hg28 (Own.neO oR oS (by decide))
 replace hp := hp.grown hg28 (fun g hg => Q7l (Q7l Bhs LX) (Own.lt oS hg).1)
 replace X := X.grown hg28 X.size (fun g hg => (Q7l LX (Own.lt oS hg).1))
 clear hg28
 replace oB := oB.to (cs' := (jK xs k).flatMap eI) (by rw [aBZ hL, List.flatMap_append]; rfl)
 refine aA rfl (aE rfl (aB (aN (aA rfl (aC rfl (aA rfl (aC rfl (aA rfl (cH (ts := #[]) oO X.size oB.sl (by rw [eW bI, eT]) (dY _) cQ dB rfl rfl rfl rfl (by omega) (by omega) ?_)))))))))
 intro AoM coM w31 oM hg30
 replace hs := hs.grown hg30 (fun g hg => Q7l Bhs (Own.lt oO hg).1)
 replace hn := hn.grown hg30 (fun g hg => Q7l Bhn (Own.lt oO hg).1)
 replace oR := oR.grown hg30 (Own.neO oR oO (by decide))
 replace hp := hp.grown hg30 (fun g hg => Q7l Bhs (Own.lt oO hg).1)
 replace oB := oB.grown hg30 (fun g hg e => absurd (UO g hg) (Nat.not_lt.2 (Own.lt oB e).1))
 replace X := X.grown hg30 X.size (fun g hg => (Own.lt oO hg).1)
 clear hg30
 refine aA rfl (aC rfl (aA rfl (aC rfl (aA rfl (aT aA1 rfl (aP (mN k _ _ _ _ (jK xs k) _ oB.sl (eT xs k) (by rw [eT]; omega) (tC hb (by omega)) (by omega)) ?_))))))
 rintro _ w33 ⟨AC, cC, rfl, oC, x32⟩
 replace oC := Own.low oC X.size
 replace hs := hs.ext x32
 replace hn := hn.ext x32
 replace oR := oR.ext x32
 replace hp := hp.ext x32
 replace oB := oB.ext x32
 replace oM := oM.ext x32
 replace X := Q7x X x32
 refine aA rfl (cH (ts := #[]) oM X.size oC.sl rfl (dY (nX k (jK xs k))) cQ dB rfl rfl rfl rfl (by omega) (by omega) ?_)
 intro AoN coN w35 oN hg34
 replace hs := hs.grown hg34 (fun g hg => Q7l Bhs (Own.lt oM hg).1)
 replace hn := hn.grown hg34 (fun g hg => Q7l Bhn (Own.lt oM hg).1)
 replace oR := oR.grown hg34 (Own.neO oR oM (by decide))
 replace hp := hp.grown hg34 (fun g hg => Q7l Bhs (Own.lt oM hg).1)
 replace X := X.grown hg34 X.size (fun g hg => (Own.lt oM hg).1)
 clear hg34
 refine aA rfl (aE rfl (aB (dO (aS (aN (aA rfl (aY rfl rfl (dM (by omega)) (aA rfl (aC rfl (aB (aS ⟨(k + 1, n1 + (2 + (iJ xs k).length) + 3, AoN, coN), (.cons rfl (.cons rfl (.cons rfl (.cons rfl (.cons rfl (.cons rfl (.nil _))))))), ?_, ?_⟩)))))))))))
 · exact ⟨(by omega), (by omega), (by rw [fX, List.length_append, jN, List.length_append, eT, ← hn1, jB]; omega), (oN.to (by rw [fX, jN, List.flatMap_append, List.flatMap_append, List.append_assoc])), hs, hn, oR, X⟩
 · first | omega | (dsimp only; omega)
 refine aB (aM rfl (aV (aS (aF ?_))))
 have hL := (not_congr (xF (n := xs.length) (k := k) (by omega))).2 (by omega)
 refine aA rfl (aC rfl (aA rfl (aC rfl (aA rfl (aO cQ dB rfl rfl rfl rfl rfl ?_)))))
 intro gS w37 egS oS bbgS x36 zgS
 replace oS := Own.low oS (Nat.le_refl _)
 replace oO := oO.ext x36
 replace hs := hs.ext x36
 replace hn := hn.ext x36
 replace oR := oR.ext x36
 replace hp := hp.ext x36
 replace X := Q7x X x36
 refine aA rfl (aC rfl (aA rfl (cH (ts := #[]) oS (by omega) hp (eW bI _) (dY _) cQ dB rfl rfl rfl rfl (by omega) (by omega) ?_)))
 intro AoB coB w39 oB hg38
 replace oO := oO.grown hg38 (fun g hg e => absurd (UO g e) (Nat.not_lt.2 (Own.lt oS hg).1))
 replace hs := hs.grown hg38 (fun g hg => Q7l (Q7l Bhs LX) (Own.lt oS hg).1)
 replace hn := hn.grown hg38 (fun g hg => Q7l (Q7l Bhs LX) (Own.lt oS hg).1)
 replace oR := oR.grown hg38 (Own.neO oR oS (by decide))
 replace hp := hp.grown hg38 (fun g hg => Q7l (Q7l Bhs LX) (Own.lt oS hg).1)
 replace X := X.grown hg38 X.size (fun g hg => (Q7l LX (Own.lt oS hg).1))
 clear hg38
 replace oB := oB.to (cs' := (jK xs k).flatMap eI) (by rw [aB0 hL, List.flatMap_append]; rfl)
 refine aA rfl (aE rfl (aB (aN (aA rfl (aC rfl (aA rfl (aC rfl (aA rfl (cH (ts := #[]) oO X.size oB.sl (by rw [eW bI, eT]) (dY _) cQ dB rfl rfl rfl rfl (by omega) (by omega) ?_)))))))))
 intro AoM coM w41 oM hg40
 replace hs := hs.grown hg40 (fun g hg => Q7l Bhs (Own.lt oO hg).1)
 replace hn := hn.grown hg40 (fun g hg => Q7l Bhn (Own.lt oO hg).1)
 replace oR := oR.grown hg40 (Own.neO oR oO (by decide))
 replace hp := hp.grown hg40 (fun g hg => Q7l Bhs (Own.lt oO hg).1)
 replace oB := oB.grown hg40 (fun g hg e => absurd (UO g hg) (Nat.not_lt.2 (Own.lt oB e).1))
 replace X := X.grown hg40 X.size (fun g hg => (Own.lt oO hg).1)
 clear hg40
 refine aA rfl (aC rfl (aA rfl (aC rfl (aA rfl (aT aA1 rfl (aP (mN k _ _ _ _ (jK xs k) _ oB.sl (eT xs k) (by rw [eT]; omega) (tC hb (by omega)) (by omega)) ?_))))))
 rintro _ w43 ⟨AC, cC, rfl, oC, x42⟩
 replace oC := Own.low oC X.size
 replace hs := hs.ext x42
 replace hn := hn.ext x42
 replace oR := oR.ext x42
 replace hp := hp.ext x42
 replace oB := oB.ext x42
 replace oM := oM.ext x42
 replace X := Q7x X x42
 refine aA rfl (cH (ts := #[]) oM X.size oC.sl rfl (dY (nX k (jK xs k))) cQ dB rfl rfl rfl rfl (by omega) (by omega) ?_)
 intro AoN coN w45 oN hg44
 replace hs := hs.grown hg44 (fun g hg => Q7l Bhs (Own.lt oM hg).1)
 replace hn := hn.grown hg44 (fun g hg => Q7l Bhn (Own.lt oM hg).1)
 replace oR := oR.grown hg44 (Own.neO oR oM (by decide))
 replace hp := hp.grown hg44 (fun g hg => Q7l Bhs (Own.lt oM hg).1)
 replace X := X.grown hg44 X.size (fun g hg => (Own.lt oM hg).1)
 clear hg44
 refine aA rfl (aE rfl (aB (dO (aS (aN (aA rfl (aY rfl rfl (dM (by omega)) (aA rfl (aC rfl (aB (aS ⟨(k + 1, n1 + (2 + (iJ xs k).length) + 3, AoN, coN), (.cons rfl (.cons rfl (.cons rfl (.cons rfl (.cons rfl (.cons rfl (.nil _))))))), ?_, ?_⟩)))))))))))
 · exact ⟨(by omega), (by omega), (by rw [fX, List.length_append, jN, List.length_append, eT, ← hn1, jB]; omega), (oN.to (by rw [fX, jN, List.flatMap_append, List.flatMap_append, List.append_assoc])), hs, hn, oR, X⟩
 · first | omega | (dsimp only; omega)
 refine aB (aR (aM rfl (dD (dC (dC (eG (aS (aF (aA rfl (aC rfl (aA rfl (aE rfl (aB (aW (aL rfl rfl ?_)))))))))))))))
 · skip
   have hkE : k = nB xs.length := by omega
   rw [hkE] at oO hn1
   unfold vM
   rw [← hn1]; exact ⟨A1, c1, rfl, oO, X⟩
theorem rX (A : Option Addr) (B c : Nat) (xs : List Int) (w : World) (hs : Sl B w A (xs.flatMap eI)) (hl : xs.length ≤ 2000) (hb : ∀ x ∈ xs, 0 ≤ x ∧ x ≤ 255) (hc : xs.length ≤ c) :
   Calls Tryz.prog 73 #[.slice A xs.length c] w (fF fun v w' => ∃ A' c', v = .slice A' (vM xs).length c' ∧ Own w' w.heap.size 2 1 A' (vM xs).length c' ((vM xs).flatMap eI) ∧ Ext w w') := by
 have hnB := zE xs.length
 have Bhs := hs.1
 have X := Q7r w
 refine bJ (args := [.slice A xs.length c]) Tryz.func73 Tryz.ntmps73 rfl rfl (aF (aA rfl (aE rfl (aB (aF (aA rfl (aO cQ dB rfl rfl rfl rfl rfl ?_)))))))
 intro gO w2 egO oO bbgO x1 zgO
 replace oO := Own.low oO X.size
 replace hs := hs.ext x1
 replace X := Q7x X x1; clear x1
 refine aA rfl (aE rfl (aB (aR (aF (aA rfl (aE rfl (aB (aX (dG (G := Nat × Nat × Option Addr × Nat) (fun ⟨k, n1, A1, c1⟩ => [(0, .slice A xs.length c), (2, .slice none 0 0), (3, .slice A1 n1 c1), (4, .int .i64 (k : Nat))]) (fun ⟨k, n1, A1, c1⟩ wr => k ≤ nB xs.length ∧ n1 ≤ 33 * k ∧ n1 = (wH xs k).length ∧ Own wr w.heap.size 2 1 A1 n1 c1 ((wH xs k).flatMap eI) ∧ Sl B wr A (xs.flatMap eI) ∧ Ext w wr) (fun ⟨k, n1, A1, c1⟩ => nB xs.length - k) (0, 0, some ⟨gO, 0, none⟩, 0) (.cons rfl (.cons rfl (.cons rfl (.cons rfl (.nil _))))) ?_ ?_)))))))))
 · exact ⟨(Nat.zero_le _), (Nat.le_refl _), rfl, oO, hs, X⟩
 clear hs oO
 clear X
 rintro ⟨k, n1, A1, c1⟩ wr ⟨hk0, hnk, hn1, oO, hs, X⟩
 refine aR (aF (aA rfl (aC rfl (aA rfl (dP rfl rfl (fun h0 => ?_) (fun h0 => ?_))))))
 have hkS := (aBH (n := xs.length) (k := k)).2 (.inl (by omega))
 have LX := X.size
 have UO := fun g hg => (Own.lt oO (g := g) hg).2
 have hpl := jL xs k
 have hk28 := aKY hkS
 refine aA rfl (aC rfl (aH rfl rfl rfl rfl (aH rfl rfl rfl rfl (aH rfl rfl rfl rfl (aH rfl rfl rfl rfl (aH rfl rfl rfl rfl (aA rfl (aK rfl rfl (aB (aQ rfl (aV (aS (aR (aX (aF (aA rfl (aC rfl (aA rfl (aC rfl (aA rfl (fO rfl rfl (show IntKind.i64.wrap _ = ((28 * k : Nat) : Int) from (dM (by omega)).trans (by omega)) (aA rfl (aC rfl (aA rfl (bO Tryz.underlying30 rfl (aA rfl (aC rfl (aA rfl (aY rfl rfl (dM (by omega)) (aA rfl (fO rfl rfl (show IntKind.i64.wrap _ = ((28 * (k + 1) : Nat) : Int) from (dM (by omega)).trans (by omega)) (aA rfl (aAC rfl rfl (aA rfl (kZ cQ hs bI rfl rfl rfl rfl (show _ = ((min xs.length (28 * (k + 1)) : Nat) : Int) by omega) (by omega) (by omega) ?_)))))))))))))))))))))))))))))))))))
 intro Ap pS
 rw [aAx hk28] at pS
 have hcl : min xs.length (28 * (k + 1)) - 28 * k = (iJ xs k).length := by rw [jL]; omega
 refine aA rfl (aE rfl (aB (aF (aA rfl (aC rfl (aA rfl (bO Tryz.underlying30 rfl (aA rfl (aE rfl (aB (aR (aF (aA rfl (aC rfl (aA rfl (aY rfl rfl (dM (by omega)) (aA rfl (fO rfl rfl (show IntKind.i64.wrap _ = ((28 * (k + 1) : Nat) : Int) from (dM (by omega)).trans (by omega)) (aA rfl (aC rfl (aA rfl (bO Tryz.underlying30 rfl (aA rfl (lV rfl rfl (fun hlast => ?_) (fun hlast => ?_)))))))))))))))))))))))))
 refine aB (aQ rfl (aN (aA rfl (aC rfl (aA rfl (aY rfl rfl (dM (by omega)) (aA rfl (aE rfl (aB (aS (aF (aA rfl (aC rfl (aA rfl (aC rfl (aA rfl (aO cQ dB rfl rfl rfl rfl rfl ?_)))))))))))))))))
 intro gS w4 egS oS bbgS x3 zgS
 replace oS := Own.low oS (Nat.le_refl _)
 replace oO := oO.ext x3
 replace hs := hs.ext x3
 replace pS := pS.ext x3
 replace X := Q7x X x3; clear x3
 refine aA rfl (aC rfl (aA rfl (cH (ts := #[]) oS (by omega) pS (by rw [eW bI, hcl]) (dY _) cQ dB rfl rfl rfl rfl (by omega) (by omega) ?_)))
 intro AoB coB w6 oB hg5
 replace oO := oO.grown hg5 (fun g hg e => absurd (UO g e) (Nat.not_lt.2 (Own.lt oS hg).1))
 replace hs := hs.grown hg5 (fun g hg => Q7l (Q7l Bhs LX) (Own.lt oS hg).1)
 replace pS := pS.grown hg5 (fun g hg => Q7l (Q7l Bhs LX) (Own.lt oS hg).1)
 replace X := X.grown hg5 X.size (fun g hg => (Q7l LX (Own.lt oS hg).1))
 clear hg5
 replace oB := oB.to (cs' := (jK xs k).flatMap eI) (by rw [aBZ (by omega), ← hcl, List.flatMap_append]; rfl)
 refine aA rfl (aE rfl (aB (aF (aA rfl (aC rfl (aA rfl (aC rfl (aA rfl (aT uB rfl (aP (kR k _ _ _ _ (jK xs k) _ oB.sl (by rw [eT, ← hcl]) (by rw [eT]; omega) (tC hb (by omega)) (by omega)) ?_))))))))))
 rintro _ w9 ⟨rfl, x7⟩
 replace oO := oO.ext x7
 replace hs := hs.ext x7
 replace pS := pS.ext x7
 replace oB := oB.ext x7
 replace X := Q7x X x7; clear x7
 have hck := nP (k := k) (jK xs k) (by omega)
 refine aA rfl (aE rfl (aB (aN (aA rfl (aC rfl (aA rfl (aC rfl (aA rfl (aC rfl (aA rfl (gK rfl rfl (by omega) (vK (by omega)) (aA rfl (aC rfl (aA rfl (gK rfl rfl (by omega) (vK (by omega)) (aA rfl (fK rfl rfl (by omega) (qZ (by omega)) (aA rfl (aC rfl (aA rfl (fK rfl rfl (by omega) (qZ (by omega)) (aA rfl (aO cQ dB rfl rfl rfl rfl rfl ?_)))))))))))))))))))))))
 intro g10 w12 eg10 oT bbg10 x11 zg10
 replace oT := Own.low oT X.size
 replace oO := oO.ext x11
 replace hs := hs.ext x11
 replace pS := pS.ext x11
 replace oB := oB.ext x11
 replace X := Q7x X x11
 refine aA rfl (cH (ts := #[]) oB (by obtain ⟨gq, _, _, h1, h2, _⟩ := oB.form (by omega); have h3 := (Array.getElem?_eq_some_iff.1 h2).1; omega) oT.sl rfl (dY (nX k (jK xs k))) cQ dB rfl rfl rfl rfl (by omega) (by omega) ?_)
 intro AoE coE w14 oE hg13
 replace oO := oO.grown hg13 (fun g hg e => absurd (UO g e) (Nat.not_lt.2 (Own.lt oB hg).1))
 replace hs := hs.grown hg13 (fun g hg => Q7l (Q7l Bhs LX) (Own.lt oB hg).1)
 replace pS := pS.grown hg13 (fun g hg => Q7l (Q7l Bhs LX) (Own.lt oB hg).1)
 replace X := X.grown hg13 X.size (fun g hg => (Q7l LX (Own.lt oB hg).1))
 clear hg13
 replace oE := oE.to (cs' := (jN xs k).flatMap eI) (by rw [jN, List.flatMap_append]; rfl)
 refine aA rfl (cH (ts := #[]) oO X.size oE.sl (by rw [eW bI, jN, List.length_append, eT, jB, ← hcl]) (dY _) cQ dB rfl rfl rfl rfl (by omega) (by omega) ?_)
 intro AoN coN w16 oN hg15
 replace hs := hs.grown hg15 (fun g hg => Q7l Bhs (Own.lt oO hg).1)
 replace pS := pS.grown hg15 (fun g hg => Q7l Bhs (Own.lt oO hg).1)
 replace X := X.grown hg15 X.size (fun g hg => (Own.lt oO hg).1)
 clear hg15
 refine aA rfl (aE rfl (aB (dO (aS (aN (aA rfl (aC rfl (aA rfl (aY rfl rfl (dM (by omega)) (aA rfl (aE rfl (aB (aS ⟨(k + 1, n1 + (2 + (min xs.length (28 * (k + 1)) - 28 * k) + 3), AoN, coN), (.cons rfl (.cons rfl (.cons rfl (.cons rfl (.nil _))))), ?_, ?_⟩)))))))))))))
 · exact ⟨(by omega), (by omega), (by rw [fX, List.length_append, jN, List.length_append, eT, ← hn1, jB]; omega), (oN.to (by rw [fX, List.flatMap_append])), hs, X⟩
 · first | omega | (dsimp only; omega)
 refine aB (aM rfl (aV (aS (aF (aA rfl (aC rfl (aA rfl (aC rfl (aA rfl (aO cQ dB rfl rfl rfl rfl rfl ?_))))))))))
 intro gS w18 egS oS bbgS x17 zgS
 replace oS := Own.low oS (Nat.le_refl _)
 replace oO := oO.ext x17
 replace hs := hs.ext x17
 replace pS := pS.ext x17
 replace X := Q7x X x17
 refine aA rfl (aC rfl (aA rfl (cH (ts := #[]) oS (by omega) pS (by rw [eW bI, hcl]) (dY _) cQ dB rfl rfl rfl rfl (by omega) (by omega) ?_)))
 intro AoB coB w20 oB hg19
 replace oO := oO.grown hg19 (fun g hg e => absurd (UO g e) (Nat.not_lt.2 (Own.lt oS hg).1))
 replace hs := hs.grown hg19 (fun g hg => Q7l (Q7l Bhs LX) (Own.lt oS hg).1)
 replace pS := pS.grown hg19 (fun g hg => Q7l (Q7l Bhs LX) (Own.lt oS hg).1)
 replace X := X.grown hg19 X.size (fun g hg => (Q7l LX (Own.lt oS hg).1))
 clear hg19
 replace oB := oB.to (cs' := (jK xs k).flatMap eI) (by rw [aB0 (by omega), ← hcl, List.flatMap_append]; rfl)
 refine aA rfl (aE rfl (aB (aF (aA rfl (aC rfl (aA rfl (aC rfl (aA rfl (aT uB rfl (aP (kR k _ _ _ _ (jK xs k) _ oB.sl (by rw [eT, ← hcl]) (by rw [eT]; omega) (tC hb (by omega)) (by omega)) ?_))))))))))
 rintro _ w22 ⟨rfl, x21⟩
 replace oO := oO.ext x21
 replace hs := hs.ext x21
 replace pS := pS.ext x21
 replace oB := oB.ext x21
 replace X := Q7x X x21
 have hck := nP (k := k) (jK xs k) (by omega)
 refine aA rfl (aE rfl (aB (aN (aA rfl (aC rfl (aA rfl (aC rfl (aA rfl (aC rfl (aA rfl (gK rfl rfl (by omega) (vK (by omega)) (aA rfl (aC rfl (aA rfl (gK rfl rfl (by omega) (vK (by omega)) (aA rfl (fK rfl rfl (by omega) (qZ (by omega)) (aA rfl (aC rfl (aA rfl (fK rfl rfl (by omega) (qZ (by omega)) (aA rfl (aO cQ dB rfl rfl rfl rfl rfl ?_)))))))))))))))))))))))
 intro g23 w25 eg23 oT bbg23 x24 zg23
 replace oT := Own.low oT X.size
 replace oO := oO.ext x24
 replace hs := hs.ext x24
 replace pS := pS.ext x24
 replace oB := oB.ext x24
 replace X := Q7x X x24
 refine aA rfl (cH (ts := #[]) oB (by obtain ⟨gq, _, _, h1, h2, _⟩ := oB.form (by omega); have h3 := (Array.getElem?_eq_some_iff.1 h2).1; omega) oT.sl rfl (dY (nX k (jK xs k))) cQ dB rfl rfl rfl rfl (by omega) (by omega) ?_)
 intro AoE coE w27 oE hg26
 replace oO := oO.grown hg26 (fun g hg e => absurd (UO g e) (Nat.not_lt.2 (Own.lt oB hg).1))
 replace hs := hs.grown hg26 (fun g hg => Q7l (Q7l Bhs LX) (Own.lt oB hg).1)
 replace pS := pS.grown hg26 (fun g hg => Q7l (Q7l Bhs LX) (Own.lt oB hg).1)
 replace X := X.grown hg26 X.size (fun g hg => (Q7l LX (Own.lt oB hg).1))
 clear hg26
 replace oE := oE.to (cs' := (jN xs k).flatMap eI) (by rw [jN, List.flatMap_append]; rfl)
 refine aA rfl (cH (ts := #[]) oO X.size oE.sl (by rw [eW bI, jN, List.length_append, eT, jB, ← hcl]) (dY _) cQ dB rfl rfl rfl rfl (by omega) (by omega) ?_)
 intro AoN coN w29 oN hg28
 replace hs := hs.grown hg28 (fun g hg => Q7l Bhs (Own.lt oO hg).1)
 replace pS := pS.grown hg28 (fun g hg => Q7l Bhs (Own.lt oO hg).1)
 replace X := X.grown hg28 X.size (fun g hg => (Own.lt oO hg).1)
 clear hg28
 refine aA rfl (aE rfl (aB (dO (aS (aN (aA rfl (aC rfl (aA rfl (aY rfl rfl (dM (by omega)) (aA rfl (aE rfl (aB (aS ⟨(k + 1, n1 + (2 + (min xs.length (28 * (k + 1)) - 28 * k) + 3), AoN, coN), (.cons rfl (.cons rfl (.cons rfl (.cons rfl (.nil _))))), ?_, ?_⟩)))))))))))))
 · exact ⟨(by omega), (by omega), (by rw [fX, List.length_append, jN, List.length_append, eT, ← hn1, jB]; omega), (oN.to (by rw [fX, List.flatMap_append])), hs, X⟩
 · first | omega | (dsimp only; omega)
 refine aA rfl (aC rfl (aI rfl rfl rfl (aC rfl (aI rfl rfl rfl (fO rfl rfl (show IntKind.i64.wrap _ = ((28 * k : Nat) : Int) from (dM (by omega)).trans (by omega)) (aI rfl rfl rfl (aC rfl (aI rfl rfl rfl (bO Tryz.underlying30 rfl (aI rfl rfl rfl (cU rfl rfl (fun hk => ?_) (fun hk => ?_))))))))))))
 have hkS := (aBH (n := xs.length) (k := k)).2 (.inr (by omega))
 have LX := X.size
 have UO := fun g hg => (Own.lt oO (g := g) hg).2
 have hpl := jL xs k
 have hk28 := aKY hkS
 refine aA rfl (aK rfl rfl (aB (aQ rfl (aV (aS (aR (aX (aF (aA rfl (aC rfl (aA rfl (aC rfl (aA rfl (fO rfl rfl (show IntKind.i64.wrap _ = ((28 * k : Nat) : Int) from (dM (by omega)).trans (by omega)) (aA rfl (aC rfl (aA rfl (bO Tryz.underlying30 rfl (aA rfl (aC rfl (aA rfl (aY rfl rfl (dM (by omega)) (aA rfl (fO rfl rfl (show IntKind.i64.wrap _ = ((28 * (k + 1) : Nat) : Int) from (dM (by omega)).trans (by omega)) (aA rfl (aAC rfl rfl (aA rfl (kZ cQ hs bI rfl rfl rfl rfl (show _ = ((min xs.length (28 * (k + 1)) : Nat) : Int) by omega) (by omega) (by omega) ?_))))))))))))))))))))))))))))
 intro Ap pS
 rw [aAx hk28] at pS
 have hcl : min xs.length (28 * (k + 1)) - 28 * k = (iJ xs k).length := by rw [jL]; omega
 refine aA rfl (aE rfl (aB (aF (aA rfl (aC rfl (aA rfl (bO Tryz.underlying30 rfl (aA rfl (aE rfl (aB (aR (aF (aA rfl (aC rfl (aA rfl (aY rfl rfl (dM (by omega)) (aA rfl (fO rfl rfl (show IntKind.i64.wrap _ = ((28 * (k + 1) : Nat) : Int) from (dM (by omega)).trans (by omega)) (aA rfl (aC rfl (aA rfl (bO Tryz.underlying30 rfl (aA rfl (lV rfl rfl (fun hlast => ?_) (fun hlast => ?_)))))))))))))))))))))))))
 refine aB (aQ rfl (aN (aA rfl (aC rfl (aA rfl (aY rfl rfl (dM (by omega)) (aA rfl (aE rfl (aB (aS (aF (aA rfl (aC rfl (aA rfl (aC rfl (aA rfl (aO cQ dB rfl rfl rfl rfl rfl ?_)))))))))))))))))
 intro gS w31 egS oS bbgS x30 zgS
 replace oS := Own.low oS (Nat.le_refl _)
 replace oO := oO.ext x30
 replace hs := hs.ext x30
 replace pS := pS.ext x30
 replace X := Q7x X x30
 refine aA rfl (aC rfl (aA rfl (cH (ts := #[]) oS (by omega) pS (by rw [eW bI, hcl]) (dY _) cQ dB rfl rfl rfl rfl (by omega) (by omega) ?_)))
 intro AoB coB w33 oB hg32
 replace oO := oO.grown hg32 (fun g hg e => absurd (UO g e) (Nat.not_lt.2 (Own.lt oS hg).1))
 replace hs := hs.grown hg32 (fun g hg => Q7l (Q7l Bhs LX) (Own.lt oS hg).1)
 replace pS := pS.grown hg32 (fun g hg => Q7l (Q7l Bhs LX) (Own.lt oS hg).1)
 replace X := X.grown hg32 X.size (fun g hg => (Q7l LX (Own.lt oS hg).1))
 clear hg32
 replace oB := oB.to (cs' := (jK xs k).flatMap eI) (by rw [aBZ (by omega), ← hcl, List.flatMap_append]; rfl)
 refine aA rfl (aE rfl (aB (aF (aA rfl (aC rfl (aA rfl (aC rfl (aA rfl (aT uB rfl (aP (kR k _ _ _ _ (jK xs k) _ oB.sl (by rw [eT, ← hcl]) (by rw [eT]; omega) (tC hb (by omega)) (by omega)) ?_))))))))))
 rintro _ w35 ⟨rfl, x34⟩
 replace oO := oO.ext x34
 replace hs := hs.ext x34
 replace pS := pS.ext x34
 replace oB := oB.ext x34
 replace X := Q7x X x34
 have hck := nP (k := k) (jK xs k) (by omega)
 refine aA rfl (aE rfl (aB (aN (aA rfl (aC rfl (aA rfl (aC rfl (aA rfl (aC rfl (aA rfl (gK rfl rfl (by omega) (vK (by omega)) (aA rfl (aC rfl (aA rfl (gK rfl rfl (by omega) (vK (by omega)) (aA rfl (fK rfl rfl (by omega) (qZ (by omega)) (aA rfl (aC rfl (aA rfl (fK rfl rfl (by omega) (qZ (by omega)) (aA rfl (aO cQ dB rfl rfl rfl rfl rfl ?_)))))))))))))))))))))))
 intro g36 w38 eg36 oT bbg36 x37 zg36
 replace oT := Own.low oT X.size
 replace oO := oO.ext x37
 replace hs := hs.ext x37
 replace pS := pS.ext x37
 replace oB := oB.ext x37
 replace X := Q7x X x37
 refine aA rfl (cH (ts := #[]) oB (by obtain ⟨gq, _, _, h1, h2, _⟩ := oB.form (by omega); have h3 := (Array.getElem?_eq_some_iff.1 h2).1; omega) oT.sl rfl (dY (nX k (jK xs k))) cQ dB rfl rfl rfl rfl (by omega) (by omega) ?_)
 intro AoE coE w40 oE hg39
 replace oO := oO.grown hg39 (fun g hg e => absurd (UO g e) (Nat.not_lt.2 (Own.lt oB hg).1))
 replace hs := hs.grown hg39 (fun g hg => Q7l (Q7l Bhs LX) (Own.lt oB hg).1)
 replace pS := pS.grown hg39 (fun g hg => Q7l (Q7l Bhs LX) (Own.lt oB hg).1)
 replace X := X.grown hg39 X.size (fun g hg => (Q7l LX (Own.lt oB hg).1))
 clear hg39
 replace oE := oE.to (cs' := (jN xs k).flatMap eI) (by rw [jN, List.flatMap_append]; rfl)
 refine aA rfl (cH (ts := #[]) oO X.size oE.sl (by rw [eW bI, jN, List.length_append, eT, jB, ← hcl]) (dY _) cQ dB rfl rfl rfl rfl (by omega) (by omega) ?_)
 intro AoN coN w42 oN hg41
 replace hs := hs.grown hg41 (fun g hg => Q7l Bhs (Own.lt oO hg).1)
 replace pS := pS.grown hg41 (fun g hg => Q7l Bhs (Own.lt oO hg).1)
 replace X := X.grown hg41 X.size (fun g hg => (Own.lt oO hg).1)
 clear hg41
 refine aA rfl (aE rfl (aB (dO (aS (aN (aA rfl (aC rfl (aA rfl (aY rfl rfl (dM (by omega)) (aA rfl (aE rfl (aB (aS ⟨(k + 1, n1 + (2 + (min xs.length (28 * (k + 1)) - 28 * k) + 3), AoN, coN), (.cons rfl (.cons rfl (.cons rfl (.cons rfl (.nil _))))), ?_, ?_⟩)))))))))))))
 · exact ⟨(by omega), (by omega), (by rw [fX, List.length_append, jN, List.length_append, eT, ← hn1, jB]; omega), (oN.to (by rw [fX, List.flatMap_append])), hs, X⟩
 · first | omega | (dsimp only; omega)
 refine aB (aM rfl (aV (aS (aF (aA rfl (aC rfl (aA rfl (aC rfl (aA rfl (aO cQ dB rfl rfl rfl rfl rfl ?_))))))))))
 intro gS w44 egS oS bbgS x43 zgS
 replace oS := Own.low oS (Nat.le_refl _)
 replace oO := oO.ext x43
 replace hs := hs.ext x43
 replace pS := pS.ext x43
 replace X := Q7x X x43
 refine aA rfl (aC rfl (aA rfl (cH (ts := #[]) oS (by omega) pS (by rw [eW bI, hcl]) (dY _) cQ dB rfl rfl rfl rfl (by omega) (by omega) ?_)))
 intro AoB coB w46 oB hg45
 replace oO := oO.grown hg45 (fun g hg e => absurd (UO g e) (Nat.not_lt.2 (Own.lt oS hg).1))
 replace hs := hs.grown hg45 (fun g hg => Q7l (Q7l Bhs LX) (Own.lt oS hg).1)
 replace pS := pS.grown hg45 (fun g hg => Q7l (Q7l Bhs LX) (Own.lt oS hg).1)
 replace X := X.grown hg45 X.size (fun g hg => (Q7l LX (Own.lt oS hg).1))
 clear hg45
 replace oB := oB.to (cs' := (jK xs k).flatMap eI) (by rw [aB0 (by omega), ← hcl, List.flatMap_append]; rfl)
 refine aA rfl (aE rfl (aB (aF (aA rfl (aC rfl (aA rfl (aC rfl (aA rfl (aT uB rfl (aP (kR k _ _ _ _ (jK xs k) _ oB.sl (by rw [eT, ← hcl]) (by rw [eT]; omega) (tC hb (by omega)) (by omega)) ?_))))))))))
 rintro _ w48 ⟨rfl, x47⟩
 replace oO := oO.ext x47
 replace hs := hs.ext x47
 replace pS := pS.ext x47
 replace oB := oB.ext x47
 replace X := Q7x X x47
 have hck := nP (k := k) (jK xs k) (by omega)
 refine aA rfl (aE rfl (aB (aN (aA rfl (aC rfl (aA rfl (aC rfl (aA rfl (aC rfl (aA rfl (gK rfl rfl (by omega) (vK (by omega)) (aA rfl (aC rfl (aA rfl (gK rfl rfl (by omega) (vK (by omega)) (aA rfl (fK rfl rfl (by omega) (qZ (by omega)) (aA rfl (aC rfl (aA rfl (fK rfl rfl (by omega) (qZ (by omega)) (aA rfl (aO cQ dB rfl rfl rfl rfl rfl ?_)))))))))))))))))))))))
 intro g49 w51 eg49 oT bbg49 x50 zg49
 replace oT := Own.low oT X.size
 replace oO := oO.ext x50
 replace hs := hs.ext x50
 replace pS := pS.ext x50
 replace oB := oB.ext x50
 replace X := Q7x X x50
 refine aA rfl (cH (ts := #[]) oB (by obtain ⟨gq, _, _, h1, h2, _⟩ := oB.form (by omega); have h3 := (Array.getElem?_eq_some_iff.1 h2).1; omega) oT.sl rfl (dY (nX k (jK xs k))) cQ dB rfl rfl rfl rfl (by omega) (by omega) ?_)
 intro AoE coE w53 oE hg52
 replace oO := oO.grown hg52 (fun g hg e => absurd (UO g e) (Nat.not_lt.2 (Own.lt oB hg).1))
 replace hs := hs.grown hg52 (fun g hg => Q7l (Q7l Bhs LX) (Own.lt oB hg).1)
 replace pS := pS.grown hg52 (fun g hg => Q7l (Q7l Bhs LX) (Own.lt oB hg).1)
 replace X := X.grown hg52 X.size (fun g hg => (Q7l LX (Own.lt oB hg).1))
 clear hg52
 replace oE := oE.to (cs' := (jN xs k).flatMap eI) (by rw [jN, List.flatMap_append]; rfl)
 refine aA rfl (cH (ts := #[]) oO X.size oE.sl (by rw [eW bI, jN, List.length_append, eT, jB, ← hcl]) (dY _) cQ dB rfl rfl rfl rfl (by omega) (by omega) ?_)
 intro AoN coN w55 oN hg54
 replace hs := hs.grown hg54 (fun g hg => Q7l Bhs (Own.lt oO hg).1)
 replace pS := pS.grown hg54 (fun g hg => Q7l Bhs (Own.lt oO hg).1)
 replace X := X.grown hg54 X.size (fun g hg => (Own.lt oO hg).1)
 clear hg54
 refine aA rfl (aE rfl (aB (dO (aS (aN (aA rfl (aC rfl (aA rfl (aY rfl rfl (dM (by omega)) (aA rfl (aE rfl (aB (aS ⟨(k + 1, n1 + (2 + (min xs.length (28 * (k + 1)) - 28 * k) + 3), AoN, coN), (.cons rfl (.cons rfl (.cons rfl (.cons rfl (.nil _))))), ?_, ?_⟩)))))))))))))
 · exact ⟨(by omega), (by omega), (by rw [fX, List.length_append, jN, List.length_append, eT, ← hn1, jB]; omega), (oN.to (by rw [fX, List.flatMap_append])), hs, X⟩
 · first | omega | (dsimp only; omega)
 have hkN : ¬ k < nB xs.length := fun h => by have := (aBH (n := xs.length)).1 h; omega
 refine aA rfl (aK rfl rfl (aB (aM rfl (dD (dC (dC (eG (aS (aF (aA rfl (aC rfl (aA rfl (aE rfl (aB (aW (aL rfl rfl ?_))))))))))))))))
 · skip
   have hkE : k = nB xs.length := by omega
   rw [hkE] at oO hn1
   unfold vM
   rw [← hn1]; exact ⟨A1, c1, rfl, oO, X⟩
theorem aGx (A : Option Addr) (B c : Nat) (xs : List Int) (m hi0 : Int) (w : World) (hs : Sl B w A (xs.flatMap eI)) (hl : xs.length ≤ 1048576) :
   Calls Tryz.prog 178 #[.slice A xs.length c, .int .i64 m, .int .i64 hi0] w (fF fun v w' => v = .bool (decide ((xs.length : Int) ≤ m) && xs.all fun x => iF x 0 hi0) ∧ Ext w w') := by
 have Bhs := hs.1
 have X := Q7r w
 refine bJ (args := [.slice A xs.length c, .int .i64 m, .int .i64 hi0]) Tryz.func178 Tryz.ntmps178 rfl rfl (aF (aA rfl (aE rfl (aB (aR (aF (aA rfl (aC rfl (aA rfl (bO Tryz.underlying30 rfl (aA rfl (aC rfl (aA rfl (fG rfl rfl (fun hm => ?_) (fun hm => ?_)))))))))))))))
 refine aB (aQ rfl (aF (aA rfl (aE rfl (aB (aW (bN (aL rfl rfl ?_))))))))
 · skip
   refine ⟨congrArg Value.bool ?_, X⟩
   first | (rw [decide_eq_false (by omega)]; rfl) | (rw [decide_eq_true (by omega), hi, bL hk]; rfl) | (rw [hi, dx]; simp [*])
 refine aB (aM rfl (aV (aS (aR (aF (aA rfl (aE rfl (aB (aX (dG (G := Nat) (fun k => [(0, .slice A xs.length c), (2, .int .i64 hi0), (7, .int .i64 (k : Nat))]) (fun k wr => k ≤ xs.length ∧ xs.all (fun x => iF x 0 hi0) = (xs.drop k).all (fun x => iF x 0 hi0) ∧ Sl B wr A (xs.flatMap eI) ∧ Ext w wr) (fun k => xs.length - k) 0 (.cons rfl (.cons rfl (.cons rfl (.nil _)))) ?_ ?_))))))))))
 · exact ⟨by omega, rfl, hs, X⟩
 clear hs
 clear X
 rintro k wr ⟨hk0, hi, hs, X⟩
 refine aR (aF (aA rfl (aC rfl (aA rfl (aC rfl (aA rfl (bO Tryz.underlying30 rfl (aA rfl (cU rfl rfl (fun hk => ?_) (fun hk => ?_))))))))))
 obtain ⟨x, hx, dx⟩ := dR hk
 refine aB (aQ rfl (aV (aS (aR (aX (aF (aA rfl (aC rfl (aA rfl (aC rfl (aA rfl (aU hs bI rfl cQ rfl rfl rfl hx rfl (aA rfl (bS hs bI hx dB rfl rfl rfl (aA rfl (aC rfl (aA rfl (cV kC rfl (iQ _ _ _ _) (fun w3 h1 x2 => ?_) (fun w3 h1 x2 => ?_)))))))))))))))))))
 replace hs := hs.ext x2
 replace X := Q7x X x2; clear x2
 refine aA rfl (bP rfl (aB (aM rfl (aV (dO (aS (aN (aA rfl (aC rfl (aA rfl (aY rfl rfl (dM (by omega)) (aA rfl (aE rfl (aB (aS ⟨k + 1, (.cons rfl (.cons rfl (.cons rfl (.nil _)))), ?_, ?_⟩)))))))))))))))
 · exact ⟨by omega, (by rw [hi, dx]; simp [*]), hs, X⟩
 · first | omega | (dsimp only; omega)
 replace hs := hs.ext x2
 replace X := Q7x X x2; clear x2
 refine aA rfl (bP rfl (aB (aQ rfl (aF (aA rfl (aE rfl (aB (aW (dL (bN (bN (dL (bN (aL rfl rfl ?_))))))))))))))
 · skip
   refine ⟨congrArg Value.bool ?_, X⟩
   first | (rw [decide_eq_false (by omega)]; rfl) | (rw [decide_eq_true (by omega), hi, bL hk]; rfl) | (rw [hi, dx]; simp [*])
 refine aB (aM rfl (dD (dC (dC (eG (aS (aF (aA rfl (aE rfl (aB (aW (aL rfl rfl ?_))))))))))))
 · skip
   refine ⟨congrArg Value.bool ?_, X⟩
   first | (rw [decide_eq_false (by omega)]; rfl) | (rw [decide_eq_true (by omega), hi, bL hk]; rfl) | (rw [hi, dx]; simp [*])
theorem rY (A : Option Addr) (B c : Nat) (xs : List Int) (w : World) (hs : Sl B w A (xs.flatMap eI)) (hl : xs.length ≤ 1048576) :
   Calls Tryz.prog 98 #[.slice A xs.length c] w (fF fun v w' => v = .bool (nU xs) ∧ Ext w w') := by
 have Bhs := hs.1
 have X := Q7r w
 refine bJ (args := [.slice A xs.length c]) Tryz.func98 Tryz.ntmps98 rfl rfl (aF (aA rfl (aE rfl (aB (aF (aA rfl (aC rfl (aA rfl (aT aJ3 rfl (aP (aGx _ _ _ _ _ _ _ hs hl) ?_))))))))))
 rintro _ w2 ⟨rfl, x1⟩
 replace hs := hs.ext x1
 replace X := Q7x X x1; clear x1
 exact aA rfl (aE rfl (aB (aW (aL rfl rfl ⟨by rfl, X⟩))))
theorem vV (A : Option Addr) (B c : Nat) (xs : List Int) (w : World) (hs : Sl B w A (xs.flatMap eI)) (hl : xs.length ≤ 1048576) :
   Calls Tryz.prog 74 #[.slice A xs.length c] w (fF fun v w' => v = .bool (nU xs) ∧ Ext w w') := by
 have Bhs := hs.1
 have X := Q7r w
 refine bJ (args := [.slice A xs.length c]) Tryz.func74 Tryz.ntmps74 rfl rfl (aF (aA rfl (aE rfl (aB (aF (aA rfl (aC rfl (aA rfl (bO Tryz.underlying30 rfl (aA rfl (aAc rfl rfl (fun hm => ?_) (fun hm => ?_))))))))))))
 refine aA rfl (aC rfl (aI rfl rfl rfl (aC rfl (aI rfl rfl rfl (aT aJV rfl (aP (aDy _ _ _ _ _ _ _ hs hl) ?_))))))
 rintro _ w2 ⟨rfl, x1⟩
 replace hs := hs.ext x1
 replace X := Q7x X x1; clear x1
 refine aA rfl (aK rfl rfl (aA rfl (aE rfl (aB (aW (aL rfl rfl ?_))))))
 · skip
   refine ⟨congrArg Value.bool ?_, X⟩
   first | (rw [nU, decide_eq_false (by omega)]; rfl) | (rw [nU, decide_eq_true (by omega)]; simp [*])
 refine aA rfl (aC rfl (aH rfl rfl rfl rfl (aH rfl rfl rfl rfl (aA rfl (aK rfl rfl (aA rfl (aE rfl (aB (aW (aL rfl rfl ?_))))))))))
 · skip
   refine ⟨congrArg Value.bool ?_, X⟩
   first | (rw [nU, decide_eq_false (by omega)]; rfl) | (rw [nU, decide_eq_true (by omega)]; simp [*])
theorem aGy (A : Option Addr) (B c n : Nat) (xs : List Int) (w : World) (hs : Sl B w A (xs.flatMap eI)) (en : n = xs.length) (hl : xs.length ≤ 1048576) :
   Calls Tryz.prog 196 #[.slice A n c] w (fF fun v w' => ∃ A' c', v = .slice A' xs.length c' ∧ Own w' w.heap.size 2 1 A' xs.length c' (xs.flatMap eI) ∧ Ext w w') := by
 have Bhs := hs.1
 have X := Q7r w
 refine bJ (args := [.slice A n c]) Tryz.func196 Tryz.ntmps196 rfl rfl (aF (aA rfl (aE rfl (aB (aF (aA rfl (aO cQ dB rfl rfl rfl rfl rfl ?_)))))))
 intro gO w2 egO oO bbgO x1 zgO
 replace oO := Own.low oO X.size
 replace hs := hs.ext x1
 replace X := Q7x X x1; clear x1
 refine aA rfl (aC rfl (aA rfl (cH (ts := #[]) oO X.size hs (by rw [eW bI xs, en]) (dY _) cQ dB rfl rfl rfl rfl (by omega) (by omega) ?_)))
 intro AoN coN w4 oN hg3
 replace hs := hs.grown hg3 (fun g hg => Q7l Bhs (Own.lt oO hg).1)
 replace X := X.grown hg3 X.size (fun g hg => (Own.lt oO hg).1)
 clear hg3
 refine aA rfl (aE rfl (aB (aW (aL rfl rfl ?_))))
 · skip
   rw [Nat.zero_add, en] at oN
   exact ⟨_, _, by rw [Nat.zero_add, en], oN, X⟩
end Go.Proofs.YtdoibplhbdkapaaGreatDoor
