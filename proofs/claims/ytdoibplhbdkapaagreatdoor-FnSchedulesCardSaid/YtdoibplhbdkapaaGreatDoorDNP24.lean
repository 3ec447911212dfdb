/- Parts. No condition. -/
import Derived.Test.YtdoibplhbdkapaaGreatDoorDNP16
import Derived.Test.YtdoibplhbdkapaaGreatDoorDNP17
namespace Go.Proofs.YtdoibplhbdkapaaGreatDoor
open Go.RowKit
set_option linter.unusedVariables false
set_option linter.unusedSimpArgs false
set_option maxRecDepth 20000
def tO (A : Option Addr) (xs : List Int) : List ModeI := if xs.length = 0 then [kS none 0 []] else chs A 28 xs (cN 28 xs.length)
theorem aF9 {n : Nat} (h : n ≠ 0) : cN 28 n = nB n := by
 unfold cN nB; rw [if_neg h, show n + 28 - 1 = n + 27 by omega]
theorem aCx (A : Option Addr) (xs : List Int) : (tO A xs).length = nB xs.length := by
 unfold tO
 split
 · rename_i h; rw [h]; rfl
 · rename_i h; rw [xQ, aF9 h]
theorem aCy (A : Option Addr) (xs : List Int) {k : Nat} (h : k < nB xs.length) : ∃ pA pc, (tO A xs)[k]? = some (kS pA pc (gK xs k)) ∧ (gK xs k).length ≤ pc := by
 unfold tO
 split
 · rename_i h0
   rw [h0] at h
   have hk : k = 0 := by have h2 : k < 1 := h; omega
   subst hk
   have e : xs = [] := List.eq_nil_of_length_eq_zero h0
   subst e
   exact ⟨none, 0, rfl, Nat.le_refl _⟩
 · rename_i h0
   rw [aFQ (by rw [aF9 h0]; exact h)]
   refine ⟨_, _, rfl, ?_⟩
   rw [iX]; exact Nat.le_refl _
theorem zJ {B : Nat} {w : World} {A : Option Addr} {xs : List Int} (hs : Sl B w A (xs.flatMap eI)) (hl : xs.length ≤ 1048576) : Nexts B w (tO A xs) := by
 unfold tO
 split
 · refine ⟨hs.1, fun x hx => ?_⟩
   obtain rfl : x = kS none 0 [] := by simpa using hx
   exact ⟨Sl.nil_ hs.1 _, Nat.zero_le _⟩
 · exact aAI hs hl _
theorem aGa {xs : List Int} (h : xs.length = 0) (A : Option Addr) : (tO A xs).flatMap pP = [.slice none 0 0] := by unfold tO; rw [if_pos h]; rfl
theorem aBv {xs : List Int} {k : Nat} (h : xs.length ≤ 28 * (k + 1)) : iW xs k = [(k : Int), ((gK xs k).length : Int) + 128] ++ gK xs k := by unfold iW aCc; rw [if_pos h]; rfl
theorem aBw {xs : List Int} {k : Nat} (h : ¬ xs.length ≤ 28 * (k + 1)) : iW xs k = [(k : Int), ((gK xs k).length : Int)] ++ gK xs k := by unfold iW aCc; rw [if_neg h, Int.add_zero]; rfl
theorem eG (xs : List Int) (k : Nat) : (iW xs k).length = 2 + (gK xs k).length := by unfold iW; rw [List.length_cons, List.length_cons]; omega
theorem sC {xs : List Int} (hb : ∀ x ∈ xs, 0 ≤ x ∧ x ≤ 255) {k : Nat} (hk : k ≤ 255) : ∀ x ∈ iW xs k, 0 ≤ x ∧ x ≤ 255 := fun x hx => by
 have hpl := iX xs k
 rcases List.mem_cons.1 hx with rfl | h4
 · omega
 · rcases List.mem_cons.1 h4 with rfl | h5
   · unfold aCc; split <;> omega
   · exact hb x (List.mem_of_mem_drop (List.mem_of_mem_take h5))
theorem zK {xs : List Int} {k : Nat} (h : 28 * k ≤ xs.length) : (xs.drop (28 * k)).take (min xs.length (28 * (k + 1)) - 28 * k) = gK xs k := by
 unfold gK
 by_cases h2 : 28 * (k + 1) ≤ xs.length
 · rw [Nat.min_eq_right h2, show 28 * (k + 1) - 28 * k = 28 by omega]
 · rw [Nat.min_eq_left (by omega), List.take_of_length_le (by simp), List.take_of_length_le (by simp; omega)]
theorem aJ9 {n k : Nat} (h : k < nB n) : 28 * k ≤ n := by have := aAF.1 h; omega
theorem aAS (A : Option Addr) (B c : Nat) (xs : List Int) (w : World) (hs : Sl B w A (xs.flatMap eI)) (hl : xs.length ≤ 2000) (hb : ∀ x ∈ xs, 0 ≤ x ∧ x ≤ 255) (hc : xs.length ≤ c) (hn : Nexts B w (tO A xs)) :
   Calls Tryz.prog 69 #[.slice A xs.length c] w (fD fun v w' => ∃ A' c', v = .slice A' (uE xs).length c' ∧ Own w' w.heap.size 2 1 A' (uE xs).length c' ((uE xs).flatMap eI) ∧ Ext w w') := by
 have hnB := aAE xs.length
 have Bhs := hs.1
 have Bhn := hn.1
 have X := Q7r w
 refine bI (args := [.slice A xs.length c]) Tryz.func69 Tryz.ntmps69 rfl rfl ?_
 refine aE ?_
 refine aA rfl (aD rfl ?_)
 refine aB ?_
 refine aE ?_
 refine aA rfl (aN dA cY rfl rfl rfl rfl rfl ?_)
 intro gO w2 egO oO bbgO x1 zgO
 replace oO := Own.low oO X.size
 replace hs := hs.ext x1
 replace hn := hn.ext x1
 replace X := Q7x X x1
 refine aA rfl (aC rfl ?_)
 refine aA rfl (aS aGz rfl (aO (aEd A xs.length c 28 _ (by omega)) ?_))
 rintro _ wK ⟨gs, gn, rfl, q1, q2, xK⟩
 replace hs := hs.ext xK
 replace hn := hn.ext xK
 replace oO := oO.ext xK
 replace X := Q7x X xK; clear xK
 refine aA rfl (aS aGy rfl (aO (aAK gs gn 28 c A xs _ q1 q2 (by omega) (by omega) hc) ?_))
 rintro _ wL ⟨AL, cL, rfl, oL, xL⟩
 replace oL := Own.low oL X.size
 replace hs := hs.ext xL
 replace hn := hn.ext xL
 replace oO := oO.ext xL
 replace X := Q7x X xL; clear xL q1 q2
 refine aA rfl (aD rfl ?_)
 refine aA rfl (aD rfl ?_)
 refine aB ?_
 refine aQ ?_
 refine aE ?_
 refine aA rfl (aC rfl ?_)
 refine aA rfl (cQ Tryz.underlying30 rfl ?_)
 refine aA rfl (dK rfl rfl (fun h0 => ?_) (fun h0 => ?_))
 refine aB ?_
 refine aR rfl ?_
 refine aM ?_
 refine aA rfl (aN rJ kQ rfl rfl rfl rfl rfl ?_)
 intro gP w4 egP oP bbgP x3 zgP
 replace oP := Own.low oP X.size
 replace hs := hs.ext x3
 replace hn := hn.ext x3
 replace oO := oO.ext x3
 replace oL := oL.ext x3
 replace X := Q7x X x3
 refine aA rfl (aD rfl ?_)
 refine aB ?_
 refine aP ?_
 refine aQ ?_
 refine aE ?_
 have h00 : xs.length = 0 := by omega
 have e1 : nB xs.length = 1 := by rw [h00]; rfl
 have oR : Own _ w.heap.size 30 1 (some ⟨gP, 0, none⟩) 1 1 ((tO A xs).flatMap pP) := oP.to (by rw [aGa h00]; rfl)
 clear oP oL
 refine aA rfl (aC rfl ?_)
 refine aA rfl (cQ Tryz.underlying107 rfl ?_)
 refine aA rfl (aC rfl ?_)
 refine aB ?_
 refine aW ?_
 refine dD (G := Nat × Nat × Option Addr × Nat) (fun ⟨k, n1, A1, c1⟩ => [(2, .slice none 0 0), (4, .slice (some ⟨gP, 0, none⟩) 1 1), (17, .slice (some ⟨gP, 0, none⟩) 1 1), (18, .int .i64 (1 : Nat)), (3, .slice A1 n1 c1), (19, .int .i64 (k : Nat))]) (fun ⟨k, n1, A1, c1⟩ wr => k ≤ nB xs.length ∧ n1 ≤ 33 * k ∧ n1 = (uD xs k).length ∧ Own wr w.heap.size 2 1 A1 n1 c1 ((uD xs k).flatMap eI) ∧ Sl B wr A (xs.flatMap eI) ∧ Nexts B wr (tO A xs) ∧ Own wr w.heap.size 30 1 (some ⟨gP, 0, none⟩) 1 1 ((tO A xs).flatMap pP) ∧ Ext w wr) (fun ⟨k, n1, A1, c1⟩ => nB xs.length - k) (0, 0, some ⟨gO, 0, none⟩, 0) (.cons rfl (.cons rfl (.cons rfl (.cons rfl (.cons rfl (.cons rfl (.nil _))))))) ?_ ?_
 · exact ⟨(Nat.zero_le _), (Nat.le_refl _), rfl, oO, hs, hn, oR, X⟩
 clear hs hn oO oR
 clear X
 rintro ⟨k, n1, A1, c1⟩ wr ⟨hk0, hnk, hn1, oO, hs, hn, oR, X⟩
 refine aE ?_
 refine aA rfl (cH rfl rfl (fun hk => ?_) (fun hk => ?_))
 have LX := X.size
 have UO := fun g hg => (Own.lt oO (g := g) hg).2
 obtain ⟨pA, pc, hx, hpc⟩ := aCy A xs (k := k) (by omega)
 have hpl := iX xs k
 have hrl : (kS pA pc (gK xs k)).m.next.length = (gK xs k).length := rfl
 refine aB ?_
 refine aQ ?_
 refine aR rfl ?_
 refine aU ?_
 refine aP ?_
 refine aQ ?_
 refine aW ?_
 refine aE ?_
 refine aA rfl (aC rfl ?_)
 refine aA rfl (aT (oR).sl iP rfl rJ rfl (e1.symm.trans (aCx A xs).symm) rfl hx rfl ?_)
 refine aA rfl (cX (oR).sl iP hx kQ rfl rfl rfl ?_)
 have hp : Sl B _ pA ((gK xs k).flatMap eI) := hn.at_ hx
 refine aA rfl (aD rfl ?_)
 refine aA rfl (aD rfl ?_)
 refine aB ?_
 refine aE ?_
 refine aA rfl (aC rfl ?_)
 refine aA rfl (cQ Tryz.underlying30 rfl ?_)
 refine aA rfl (aD rfl ?_)
 refine aB ?_
 refine aQ ?_
 refine aE ?_
 refine aA rfl (aC rfl ?_)
 refine aA rfl (aC rfl ?_)
 refine aA rfl (cQ Tryz.underlying107 rfl ?_)
 refine aA rfl (fZ rfl rfl (dR (by omega)) ?_)
 refine aA rfl (dK rfl rfl (fun hlast => ?_) (fun hlast => ?_))
 refine aB ?_
 refine aR rfl ?_
 refine aM ?_
 refine aA rfl (aC rfl ?_)
 refine aA rfl (aZ rfl rfl (dR (by omega)) ?_)
 refine aA rfl (aD rfl ?_)
 refine aB ?_
 refine aP ?_
 refine aE ?_
 have hL := (sT (n := xs.length) (k := k) (by omega)).2 (by omega)
 refine aA rfl (aC rfl ?_)
 refine aA rfl (aC rfl ?_)
 refine aA rfl (aN dA cY rfl rfl rfl rfl rfl ?_)
 intro gS w6 egS oS bbgS x5 zgS
 replace oS := Own.low oS (Nat.le_refl _)
 replace oO := oO.ext x5
 replace hs := hs.ext x5
 replace hn := hn.ext x5
 replace oR := oR.ext x5
 replace hp := hp.ext x5
 replace X := Q7x X x5
 refine aA rfl (aC rfl ?_)
 refine aA rfl (cF (ts := #[]) oS (by omega) hp (fB bL _) (eF _) dA cY rfl rfl rfl rfl (by omega) (by omega) ?_)
 intro AoB coB w9 oB hg7
 replace oO := oO.grown hg7 (fun g hg e => absurd (UO g e) (Nat.not_lt.2 (Own.lt oS hg).1))
 replace hs := hs.grown hg7 (fun g hg => Q7l (Q7l Bhs LX) (Own.lt oS hg).1)
 replace hn := hn.grown hg7 (fun g hg => Q7l (Q7l Bhs LX) (Own.lt oS hg).1)
 replace oR := oR.grown hg7 (Own.neO oR oS (by decide))
 replace hp := hp.grown hg7 (fun g hg => Q7l (Q7l Bhs LX) (Own.lt oS hg).1)
 replace X := X.grown hg7 X.size (fun g hg => (Q7l LX (Own.lt oS hg).1))
 clear hg7
 replace oB := oB.to (cs' := (iW xs k).flatMap eI) (by rw [aBv hL, List.flatMap_append]; rfl)
 refine aA rfl (aD rfl ?_)
 refine aB ?_
 refine aM ?_
 refine aA rfl (aC rfl ?_)
 refine aA rfl (aC rfl ?_)
 refine aA rfl (cF (ts := #[]) oO X.size oB.sl (by rw [fB bL, eG]) (eF _) dA cY rfl rfl rfl rfl (by omega) (by omega) ?_)
 intro AoM coM w11 oM hg10
 replace hs := hs.grown hg10 (fun g hg => Q7l Bhs (Own.lt oO hg).1)
 replace hn := hn.grown hg10 (fun g hg => Q7l Bhn (Own.lt oO hg).1)
 replace oR := oR.grown hg10 (Own.neO oR oO (by decide))
 replace hp := hp.grown hg10 (fun g hg => Q7l Bhs (Own.lt oO hg).1)
 replace oB := oB.grown hg10 (fun g hg e => absurd (UO g hg) (Nat.not_lt.2 (Own.lt oB e).1))
 replace X := X.grown hg10 X.size (fun g hg => (Own.lt oO hg).1)
 clear hg10
 refine aA rfl (aC rfl ?_)
 refine aA rfl (aC rfl ?_)
 refine aA rfl (aS zU rfl (aO (lV k _ _ _ _ (iW xs k) _ oB.sl (eG xs k) (by rw [eG]; omega) (sC hb (by omega)) (by omega)) ?_))
 rintro _ w13 ⟨AC, cC, rfl, oC, x12⟩
 replace oC := Own.low oC X.size
 replace hs := hs.ext x12
 replace hn := hn.ext x12
 replace oR := oR.ext x12
 replace hp := hp.ext x12
 replace oB := oB.ext x12
 replace oM := oM.ext x12
 replace X := Q7x X x12
 refine aA rfl (cF (ts := #[]) oM X.size oC.sl rfl (eF (qO k (iW xs k))) dA cY rfl rfl rfl rfl (by omega) (by omega) ?_)
 intro AoN coN w15 oN hg14
 replace hs := hs.grown hg14 (fun g hg => Q7l Bhs (Own.lt oM hg).1)
 replace hn := hn.grown hg14 (fun g hg => Q7l Bhn (Own.lt oM hg).1)
 replace oR := oR.grown hg14 (Own.neO oR oM (by decide))
 replace hp := hp.grown hg14 (fun g hg => Q7l Bhs (Own.lt oM hg).1)
 replace X := X.grown hg14 X.size (fun g hg => (Own.lt oM hg).1)
 clear hg14
 refine aA rfl (aD rfl ?_)
 refine aB ?_
 refine dJ ?_
 refine aP ?_
 refine aM ?_
 refine aA rfl (aZ rfl rfl (dR (by omega)) ?_)
 refine aA rfl (aC rfl ?_)
 refine aB ?_
 refine aP ⟨(k + 1, n1 + (2 + (gK xs k).length) + 3, AoN, coN), (.cons rfl (.cons rfl (.cons rfl (.cons rfl (.cons rfl (.cons rfl (.nil _))))))), ?_, ?_⟩
 · exact ⟨(by omega), (by omega), (by rw [fK, List.length_append, jB, List.length_append, eG, ← hn1, iQ]; omega), (oN.to (by rw [fK, jB, List.flatMap_append, List.flatMap_append, List.append_assoc])), hs, hn, oR, X⟩
 · first | omega | (dsimp only; omega)
 refine aB ?_
 refine aL rfl ?_
 refine aU ?_
 refine aP ?_
 refine aE ?_
 have hL := (not_congr (sT (n := xs.length) (k := k) (by omega))).2 (by omega)
 refine aA rfl (aC rfl ?_)
 refine aA rfl (aC rfl ?_)
 refine aA rfl (aN dA cY rfl rfl rfl rfl rfl ?_)
 intro gS w17 egS oS bbgS x16 zgS
 replace oS := Own.low oS (Nat.le_refl _)
 replace oO := oO.ext x16
 replace hs := hs.ext x16
 replace hn := hn.ext x16
 replace oR := oR.ext x16
 replace hp := hp.ext x16
 replace X := Q7x X x16
 refine aA rfl (aC rfl ?_)
 refine aA rfl (cF (ts := #[]) oS (by omega) hp (fB bL _) (eF _) dA cY rfl rfl rfl rfl (by omega) (by omega) ?_)
 intro AoB coB w19 oB hg18
 replace oO := oO.grown hg18 (fun g hg e => absurd (UO g e) (Nat.not_lt.2 (Own.lt oS hg).1))
 replace hs := hs.grown hg18 (fun g hg => Q7l (Q7l Bhs LX) (Own.lt oS hg).1)
 replace hn := hn.grown hg18 (fun g hg => Q7l (Q7l Bhs LX) (Own.lt oS hg).1)
 replace oR := oR.grown hg18 (Own.neO oR oS (by decide))
 replace hp := hp.grown hg18 (fun g hg => Q7l (Q7l Bhs LX) (Own.lt oS hg).1)
 replace X := X.grown hg18 X.size (fun g hg => (Q7l LX (Own.lt oS hg).1))
 clear hg18
 replace oB := oB.to (cs' := (iW xs k).flatMap eI) (by rw [aBw hL, List.flatMap_append]; rfl)
 refine aA rfl (aD rfl ?_)
 refine aB ?_
 refine aM ?_
 refine aA rfl (aC rfl ?_)
 refine aA rfl (aC rfl ?_)
 refine aA rfl (cF (ts := #[]) oO X.size oB.sl (by rw [fB bL, eG]) (eF _) dA cY rfl rfl rfl rfl (by omega) (by omega) ?_)
 intro AoM coM w21 oM hg20
 replace hs := hs.grown hg20 (fun g hg => Q7l Bhs (Own.lt oO hg).1)
 replace hn := hn.grown hg20 (fun g hg => Q7l Bhn (Own.lt oO hg).1)
 replace oR := oR.grown hg20 (Own.neO oR oO (by decide))
 replace hp := hp.grown hg20 (fun g hg => Q7l Bhs (Own.lt oO hg).1)
 replace oB := oB.grown hg20 (fun g hg e => absurd (UO g hg) (Nat.not_lt.2 (Own.lt oB e).1))
 replace X := X.grown hg20 X.size (fun g hg => (Own.lt oO hg).1)
 clear hg20
 refine aA rfl (aC rfl ?_)
 refine aA rfl (aC rfl ?_)
 refine aA rfl (aS zU rfl (aO (lV k _ _ _ _ (iW xs k) _ oB.sl (eG xs k) (by rw [eG]; omega) (sC hb (by omega)) (by omega)) ?_))
 rintro _ w23 ⟨AC, cC, rfl, oC, x22⟩
 replace oC := Own.low oC X.size
 replace hs := hs.ext x22
 replace hn := hn.ext x22
 replace oR := oR.ext x22
 replace hp := hp.ext x22
 replace oB := oB.ext x22
 replace oM := oM.ext x22
 replace X := Q7x X x22
 refine aA rfl (cF (ts := #[]) oM X.size oC.sl rfl (eF (qO k (iW xs k))) dA cY rfl rfl rfl rfl (by omega) (by omega) ?_)
 intro AoN coN w25 oN hg24
 replace hs := hs.grown hg24 (fun g hg => Q7l Bhs (Own.lt oM hg).1)
 replace hn := hn.grown hg24 (fun g hg => Q7l Bhn (Own.lt oM hg).1)
 replace oR := oR.grown hg24 (Own.neO oR oM (by decide))
 replace hp := hp.grown hg24 (fun g hg => Q7l Bhs (Own.lt oM hg).1)
 replace X := X.grown hg24 X.size (fun g hg => (Own.lt oM hg).1)
 clear hg24
 refine aA rfl (aD rfl ?_)
 refine aB ?_
 refine dJ ?_
 refine aP ?_
 refine aM ?_
 refine aA rfl (aZ rfl rfl (dR (by omega)) ?_)
 refine aA rfl (aC rfl ?_)
 refine aB ?_
 refine aP ⟨(k + 1, n1 + (2 + (gK xs k).length) + 3, AoN, coN), (.cons rfl (.cons rfl (.cons rfl (.cons rfl (.cons rfl (.cons rfl (.nil _))))))), ?_, ?_⟩
 · exact ⟨(by omega), (by omega), (by rw [fK, List.length_append, jB, List.length_append, eG, ← hn1, iQ]; omega), (oN.to (by rw [fK, jB, List.flatMap_append, List.flatMap_append, List.append_assoc])), hs, hn, oR, X⟩
 · first | omega | (dsimp only; omega)
 refine aB ?_
 refine aQ ?_
 refine aL rfl ?_
 refine dC ?_
 refine dB ?_
 refine dB ?_
 refine eA ?_
 refine aP ?_
 refine aE ?_
 refine aA rfl (aC rfl ?_)
 refine aA rfl (aD rfl ?_)
 refine aB ?_
 refine aV ?_
 refine aK rfl rfl ?_
 · skip
   have hkE : k = nB xs.length := by omega
   rw [hkE] at oO hn1
   unfold uE
   rw [← hn1]; exact ⟨A1, c1, rfl, oO, X⟩
 refine aB ?_
 refine aL rfl ?_
 refine aU ?_
 refine aP ?_
 refine aQ ?_
 refine aE ?_
 have h00 : xs.length ≠ 0 := by omega
 have e1 : nB xs.length = cN 28 xs.length := (aF9 h00).symm
 have oR : Own _ w.heap.size 30 1 AL (cN 28 xs.length) cL ((tO A xs).flatMap pP) := oL.to (by unfold tO; rw [if_neg h00])
 clear oL
 refine aA rfl (aC rfl ?_)
 refine aA rfl (cQ Tryz.underlying107 rfl ?_)
 refine aA rfl (aC rfl ?_)
 refine aB ?_
 refine aW ?_
 refine dD (G := Nat × Nat × Option Addr × Nat) (fun ⟨k, n1, A1, c1⟩ => [(2, .slice none 0 0), (4, .slice AL (cN 28 xs.length) cL), (17, .slice AL (cN 28 xs.length) cL), (18, .int .i64 ((cN 28 xs.length) : Nat)), (3, .slice A1 n1 c1), (19, .int .i64 (k : Nat))]) (fun ⟨k, n1, A1, c1⟩ wr => k ≤ nB xs.length ∧ n1 ≤ 33 * k ∧ n1 = (uD xs k).length ∧ Own wr w.heap.size 2 1 A1 n1 c1 ((uD xs k).flatMap eI) ∧ Sl B wr A (xs.flatMap eI) ∧ Nexts B wr (tO A xs) ∧ Own wr w.heap.size 30 1 AL (cN 28 xs.length) cL ((tO A xs).flatMap pP) ∧ Ext w wr) (fun ⟨k, n1, A1, c1⟩ => nB xs.length - k) (0, 0, some ⟨gO, 0, none⟩, 0) (.cons rfl (.cons rfl (.cons rfl (.cons rfl (.cons rfl (.cons rfl (.nil _))))))) ?_ ?_
 · exact ⟨(Nat.zero_le _), (Nat.le_refl _), rfl, oO, hs, hn, oR, X⟩
 clear hs hn oO oR
 clear X
 rintro ⟨k, n1, A1, c1⟩ wr ⟨hk0, hnk, hn1, oO, hs, hn, oR, X⟩
 refine aE ?_
 refine aA rfl (cH rfl rfl (fun hk => ?_) (fun hk => ?_))
 have LX := X.size
 have UO := fun g hg => (Own.lt oO (g := g) hg).2
 obtain ⟨pA, pc, hx, hpc⟩ := aCy A xs (k := k) (by omega)
 have hpl := iX xs k
 have hrl : (kS pA pc (gK xs k)).m.next.length = (gK xs k).length := rfl
 refine aB ?_
 refine aQ ?_
 refine aR rfl ?_
 refine aU ?_
 refine aP ?_
 refine aQ ?_
 refine aW ?_
 refine aE ?_
 refine aA rfl (aC rfl ?_)
 refine aA rfl (aT (oR).sl iP rfl rJ rfl (e1.symm.trans (aCx A xs).symm) rfl hx rfl ?_)
 refine aA rfl (cX (oR).sl iP hx kQ rfl rfl rfl ?_)
 have hp : Sl B _ pA ((gK xs k).flatMap eI) := hn.at_ hx
 refine aA rfl (aD rfl ?_)
 refine aA rfl (aD rfl ?_)
 refine aB ?_
 refine aE ?_
 refine aA rfl (aC rfl ?_)
 refine aA rfl (cQ Tryz.underlying30 rfl ?_)
 refine aA rfl (aD rfl ?_)
 refine aB ?_
 refine aQ ?_
 refine aE ?_
 refine aA rfl (aC rfl ?_)
 refine aA rfl (aC rfl ?_)
 refine aA rfl (cQ Tryz.underlying107 rfl ?_)
 refine aA rfl (fZ rfl rfl (dR (by omega)) ?_)
 refine aA rfl (dK rfl rfl (fun hlast => ?_) (fun hlast => ?_))
 refine aB ?_
 refine aR rfl ?_
 refine aM ?_
 refine aA rfl (aC rfl ?_)
 refine aA rfl (aZ rfl rfl (dR (by omega)) ?_)
 refine aA rfl (aD rfl ?_)
 refine aB ?_
 refine aP ?_
 refine aE ?_
 have hL := (sT (n := xs.length) (k := k) (by omega)).2 (by omega)
 refine aA rfl (aC rfl ?_)
 refine aA rfl (aC rfl ?_)
 refine aA rfl (aN dA cY rfl rfl rfl rfl rfl ?_)
 intro gS w27 egS oS bbgS x26 zgS
 replace oS := Own.low oS (Nat.le_refl _)
 replace oO := oO.ext x26
 replace hs := hs.ext x26
 replace hn := hn.ext x26
 replace oR := oR.ext x26
 replace hp := hp.ext x26
 replace X := Q7x X x26
 refine aA rfl (aC rfl ?_)
 refine aA rfl (cF (ts := #[]) oS (by omega) hp (fB bL _) (eF _) dA cY rfl rfl rfl rfl (by omega) (by omega) ?_)
 intro AoB coB w29 oB hg28
 replace oO := oO.grown hg28 (fun g hg e => absurd (UO g e) (Nat.not_lt.2 (Own.lt oS hg).1))
 replace hs := hs.grown hg28 (fun g hg => Q7l (Q7l Bhs LX) (Own.lt oS hg).1)
 replace hn := hn.grown hg28 (fun g hg => Q7l (Q7l Bhs LX) (Own.lt oS hg).1)
 replace oR := oR.grown hg28 (Own.neO oR oS (by decide))
 replace hp := hp.grown hg28 (fun g hg => Q7l (Q7l Bhs LX) (Own.lt oS hg).1)
 replace X := X.grown hg28 X.size (fun g hg => (Q7l LX (Own.lt oS hg).1))
 clear hg28
 replace oB := oB.to (cs' := (iW xs k).flatMap eI) (by rw [aBv hL, List.flatMap_append]; rfl)
 refine aA rfl (aD rfl ?_)
 refine aB ?_
 refine aM ?_
 refine aA rfl (aC rfl ?_)
 refine aA rfl (aC rfl ?_)
 refine aA rfl (cF (ts := #[]) oO X.size oB.sl (by rw [fB bL, eG]) (eF _) dA cY rfl rfl rfl rfl (by omega) (by omega) ?_)
 intro AoM coM w31 oM hg30
 replace hs := hs.grown hg30 (fun g hg => Q7l Bhs (Own.lt oO hg).1)
 replace hn := hn.grown hg30 (fun g hg => Q7l Bhn (Own.lt oO hg).1)
 replace oR := oR.grown hg30 (Own.neO oR oO (by decide))
 replace hp := hp.grown hg30 (fun g hg => Q7l Bhs (Own.lt oO hg).1)
 replace oB := oB.grown hg30 (fun g hg e => absurd (UO g hg) (Nat.not_lt.2 (Own.lt oB e).1))
 replace X := X.grown hg30 X.size (fun g hg => (Own.lt oO hg).1)
 clear hg30
 refine aA rfl (aC rfl ?_)
 refine aA rfl (aC rfl ?_)
 refine aA rfl (aS zU rfl (aO (lV k _ _ _ _ (iW xs k) _ oB.sl (eG xs k) (by rw [eG]; omega) (sC hb (by omega)) (by omega)) ?_))
 rintro _ w33 ⟨AC, cC, rfl, oC, x32⟩
 replace oC := Own.low oC X.size
 replace hs := hs.ext x32
 replace hn := hn.ext x32
 replace oR := oR.ext x32
 replace hp := hp.ext x32
 replace oB := oB.ext x32
 replace oM := oM.ext x32
 replace X := Q7x X x32
 refine aA rfl (cF (ts := #[]) oM X.size oC.sl rfl (eF (qO k (iW xs k))) dA cY rfl rfl rfl rfl (by omega) (by omega) ?_)
 intro AoN coN w35 oN hg34
 replace hs := hs.grown hg34 (fun g hg => Q7l Bhs (Own.lt oM hg).1)
 replace hn := hn.grown hg34 (fun g hg => Q7l Bhn (Own.lt oM hg).1)
 replace oR := oR.grown hg34 (Own.neO oR oM (by decide))
 replace hp := hp.grown hg34 (fun g hg => Q7l Bhs (Own.lt oM hg).1)
 replace X := X.grown hg34 X.size (fun g hg => (Own.lt oM hg).1)
 clear hg34
 refine aA rfl (aD rfl ?_)
 refine aB ?_
 refine dJ ?_
 refine aP ?_
 refine aM ?_
 refine aA rfl (aZ rfl rfl (dR (by omega)) ?_)
 refine aA rfl (aC rfl ?_)
 refine aB ?_
 refine aP ⟨(k + 1, n1 + (2 + (gK xs k).length) + 3, AoN, coN), (.cons rfl (.cons rfl (.cons rfl (.cons rfl (.cons rfl (.cons rfl (.nil _))))))), ?_, ?_⟩
 · exact ⟨(by omega), (by omega), (by rw [fK, List.length_append, jB, List.length_append, eG, ← hn1, iQ]; omega), (oN.to (by rw [fK, jB, List.flatMap_append, List.flatMap_append, List.append_assoc])), hs, hn, oR, X⟩
 · first | omega | (dsimp only; omega)
 refine aB ?_
 refine aL rfl ?_
 refine aU ?_
 refine aP ?_
 refine aE ?_
 have hL := (not_congr (sT (n := xs.length) (k := k) (by omega))).2 (by omega)
 refine aA rfl (aC rfl ?_)
 refine aA rfl (aC rfl ?_)
 refine aA rfl (aN dA cY rfl rfl rfl rfl rfl ?_)
 intro gS w37 egS oS bbgS x36 zgS
 replace oS := Own.low oS (Nat.le_refl _)
 replace oO := oO.ext x36
 replace hs := hs.ext x36
 replace hn := hn.ext x36
 replace oR := oR.ext x36
 replace hp := hp.ext x36
 replace X := Q7x X x36
 refine aA rfl (aC rfl ?_)
 refine aA rfl (cF (ts := #[]) oS (by omega) hp (fB bL _) (eF _) dA cY rfl rfl rfl rfl (by omega) (by omega) ?_)
 intro AoB coB w39 oB hg38
 replace oO := oO.grown hg38 (fun g hg e => absurd (UO g e) (Nat.not_lt.2 (Own.lt oS hg).1))
 replace hs := hs.grown hg38 (fun g hg => Q7l (Q7l Bhs LX) (Own.lt oS hg).1)
 replace hn := hn.grown hg38 (fun g hg => Q7l (Q7l Bhs LX) (Own.lt oS hg).1)
 replace oR := oR.grown hg38 (Own.neO oR oS (by decide))
 replace hp := hp.grown hg38 (fun g hg => Q7l (Q7l Bhs LX) (Own.lt oS hg).1)
 replace X := X.grown hg38 X.size (fun g hg => (Q7l LX (Own.lt oS hg).1))
 clear hg38
 replace oB := oB.to (cs' := (iW xs k).flatMap eI) (by rw [aBw hL, List.flatMap_append]; rfl)
 refine aA rfl (aD rfl ?_)
 refine aB ?_
 refine aM ?_
 refine aA rfl (aC rfl ?_)
 refine aA rfl (aC rfl ?_)
 refine aA rfl (cF (ts := #[]) oO X.size oB.sl (by rw [fB bL, eG]) (eF _) dA cY rfl rfl rfl rfl (by omega) (by omega) ?_)
 intro AoM coM w41 oM hg40
 replace hs := hs.grown hg40 (fun g hg => Q7l Bhs (Own.lt oO hg).1)
 replace hn := hn.grown hg40 (fun g hg => Q7l Bhn (Own.lt oO hg).1)
 replace oR := oR.grown hg40 (Own.neO oR oO (by decide))
 replace hp := hp.grown hg40 (fun g hg => Q7l Bhs (Own.lt oO hg).1)
 replace oB := oB.grown hg40 (fun g hg e => absurd (UO g hg) (Nat.not_lt.2 (Own.lt oB e).1))
 replace X := X.grown hg40 X.size (fun g hg => (Own.lt oO hg).1)
 clear hg40
 refine aA rfl (aC rfl ?_)
 refine aA rfl (aC rfl ?_)
 refine aA rfl (aS zU rfl (aO (lV k _ _ _ _ (iW xs k) _ oB.sl (eG xs k) (by rw [eG]; omega) (sC hb (by omega)) (by omega)) ?_))
 rintro _ w43 ⟨AC, cC, rfl, oC, x42⟩
 replace oC := Own.low oC X.size
 replace hs := hs.ext x42
 replace hn := hn.ext x42
 replace oR := oR.ext x42
 replace hp := hp.ext x42
 replace oB := oB.ext x42
 replace oM := oM.ext x42
 replace X := Q7x X x42
 refine aA rfl (cF (ts := #[]) oM X.size oC.sl rfl (eF (qO k (iW xs k))) dA cY rfl rfl rfl rfl (by omega) (by omega) ?_)
 intro AoN coN w45 oN hg44
 replace hs := hs.grown hg44 (fun g hg => Q7l Bhs (Own.lt oM hg).1)
 replace hn := hn.grown hg44 (fun g hg => Q7l Bhn (Own.lt oM hg).1)
 replace oR := oR.grown hg44 (Own.neO oR oM (by decide))
 replace hp := hp.grown hg44 (fun g hg => Q7l Bhs (Own.lt oM hg).1)
 replace X := X.grown hg44 X.size (fun g hg => (Own.lt oM hg).1)
 clear hg44
 refine aA rfl (aD rfl ?_)
 refine aB ?_
 refine dJ ?_
 refine aP ?_
 refine aM ?_
 refine aA rfl (aZ rfl rfl (dR (by omega)) ?_)
 refine aA rfl (aC rfl ?_)
 refine aB ?_
 refine aP ⟨(k + 1, n1 + (2 + (gK xs k).length) + 3, AoN, coN), (.cons rfl (.cons rfl (.cons rfl (.cons rfl (.cons rfl (.cons rfl (.nil _))))))), ?_, ?_⟩
 · exact ⟨(by omega), (by omega), (by rw [fK, List.length_append, jB, List.length_append, eG, ← hn1, iQ]; omega), (oN.to (by rw [fK, jB, List.flatMap_append, List.flatMap_append, List.append_assoc])), hs, hn, oR, X⟩
 · first | omega | (dsimp only; omega)
 refine aB ?_
 refine aQ ?_
 refine aL rfl ?_
 refine dC ?_
 refine dB ?_
 refine dB ?_
 refine eA ?_
 refine aP ?_
 refine aE ?_
 refine aA rfl (aC rfl ?_)
 refine aA rfl (aD rfl ?_)
 refine aB ?_
 refine aV ?_
 refine aK rfl rfl ?_
 · skip
   have hkE : k = nB xs.length := by omega
   rw [hkE] at oO hn1
   unfold uE
   rw [← hn1]; exact ⟨A1, c1, rfl, oO, X⟩
theorem aDD (A : Option Addr) (B c : Nat) (xs : List Int) (w : World) (hs : Sl B w A (xs.flatMap eI)) (hl : xs.length ≤ 2000) (hb : ∀ x ∈ xs, 0 ≤ x ∧ x ≤ 255) (hc : xs.length ≤ c) :
   Calls Tryz.prog 73 #[.slice A xs.length c] w (fD fun v w' => ∃ A' c', v = .slice A' (uE xs).length c' ∧ Own w' w.heap.size 2 1 A' (uE xs).length c' ((uE xs).flatMap eI) ∧ Ext w w') := by
 have hnB := aAE xs.length
 have Bhs := hs.1
 have X := Q7r w
 refine bI (args := [.slice A xs.length c]) Tryz.func73 Tryz.ntmps73 rfl rfl ?_
 refine aE ?_
 refine aA rfl (aD rfl ?_)
 refine aB ?_
 refine aE ?_
 refine aA rfl (aN dA cY rfl rfl rfl rfl rfl ?_)
 intro gO w2 egO oO bbgO x1 zgO
 replace oO := Own.low oO X.size
 replace hs := hs.ext x1
 replace X := Q7x X x1
 refine aA rfl (aD rfl ?_)
 refine aB ?_
 refine aQ ?_
 refine aE ?_
 refine aA rfl (aD rfl ?_)
 refine aB ?_
 refine aW ?_
 refine dD (G := Nat × Nat × Option Addr × Nat) (fun ⟨k, n1, A1, c1⟩ => [(0, .slice A xs.length c), (2, .slice none 0 0), (3, .slice A1 n1 c1), (4, .int .i64 (k : Nat))]) (fun ⟨k, n1, A1, c1⟩ wr => k ≤ nB xs.length ∧ n1 ≤ 33 * k ∧ n1 = (uD xs k).length ∧ Own wr w.heap.size 2 1 A1 n1 c1 ((uD xs k).flatMap eI) ∧ Sl B wr A (xs.flatMap eI) ∧ Ext w wr) (fun ⟨k, n1, A1, c1⟩ => nB xs.length - k) (0, 0, some ⟨gO, 0, none⟩, 0) (.cons rfl (.cons rfl (.cons rfl (.cons rfl (.nil _))))) ?_ ?_
 · exact ⟨(Nat.zero_le _), (Nat.le_refl _), rfl, oO, hs, X⟩
 clear hs oO
 clear X
 rintro ⟨k, n1, A1, c1⟩ wr ⟨hk0, hnk, hn1, oO, hs, X⟩
 refine aQ ?_
 refine aE ?_
 refine aA rfl (aC rfl ?_)
 refine aA rfl (dK rfl rfl (fun h0 => ?_) (fun h0 => ?_))
 have hkS := (aAF (n := xs.length) (k := k)).2 (.inl (by omega))
 have LX := X.size
 have UO := fun g hg => (Own.lt oO (g := g) hg).2
 have hpl := iX xs k
 have hk28 := aJ9 hkS
 refine aA rfl (aC rfl ?_)
 refine aG rfl rfl rfl rfl ?_
 refine aG rfl rfl rfl rfl ?_
 refine aG rfl rfl rfl rfl ?_
 refine aG rfl rfl rfl rfl ?_
 refine aG rfl rfl rfl rfl ?_
 refine aA rfl (aJ rfl rfl ?_)
 refine aB ?_
 refine aR rfl ?_
 refine aU ?_
 refine aP ?_
 refine aQ ?_
 refine aW ?_
 refine aE ?_
 refine aA rfl (aC rfl ?_)
 refine aA rfl (aC rfl ?_)
 refine aA rfl (iN rfl rfl (show IntKind.i64.wrap _ = ((28 * k : Nat) : Int) from (dR (by omega)).trans (by omega)) ?_)
 refine aA rfl (aC rfl ?_)
 refine aA rfl (cQ Tryz.underlying30 rfl ?_)
 refine aA rfl (aC rfl ?_)
 refine aA rfl (aZ rfl rfl (dR (by omega)) ?_)
 refine aA rfl (iN rfl rfl (show IntKind.i64.wrap _ = ((28 * (k + 1) : Nat) : Int) from (dR (by omega)).trans (by omega)) ?_)
 refine aA rfl (aDu rfl rfl ?_)
 refine aA rfl (rB dA hs bL rfl rfl rfl rfl (show _ = ((min xs.length (28 * (k + 1)) : Nat) : Int) by omega) (by omega) (by omega) ?_)
 intro Ap pS
 rw [zK hk28] at pS
 have hcl : min xs.length (28 * (k + 1)) - 28 * k = (gK xs k).length := by rw [iX]; omega
 refine aA rfl (aD rfl ?_)
 refine aB ?_
 refine aE ?_
 refine aA rfl (aC rfl ?_)
 refine aA rfl (cQ Tryz.underlying30 rfl ?_)
 refine aA rfl (aD rfl ?_)
 refine aB ?_
 refine aQ ?_
 refine aE ?_
 refine aA rfl (aC rfl ?_)
 refine aA rfl (aZ rfl rfl (dR (by omega)) ?_)
 refine aA rfl (iN rfl rfl (show IntKind.i64.wrap _ = ((28 * (k + 1) : Nat) : Int) from (dR (by omega)).trans (by omega)) ?_)
 refine aA rfl (aC rfl ?_)
 refine aA rfl (cQ Tryz.underlying30 rfl ?_)
 refine aA rfl (lC rfl rfl (fun hlast => ?_) (fun hlast => ?_))
 refine aB ?_
 refine aR rfl ?_
 refine aM ?_
 refine aA rfl (aC rfl ?_)
 refine aA rfl (aZ rfl rfl (dR (by omega)) ?_)
 refine aA rfl (aD rfl ?_)
 refine aB ?_
 refine aP ?_
 refine aE ?_
 refine aA rfl (aC rfl ?_)
 refine aA rfl (aC rfl ?_)
 refine aA rfl (aN dA cY rfl rfl rfl rfl rfl ?_)
 intro gS w4 egS oS bbgS x3 zgS
 replace oS := Own.low oS (Nat.le_refl _)
 replace oO := oO.ext x3
 replace hs := hs.ext x3
 replace pS := pS.ext x3
 replace X := Q7x X x3
 refine aA rfl (aC rfl ?_)
 refine aA rfl (cF (ts := #[]) oS (by omega) pS (by rw [fB bL, hcl]) (eF _) dA cY rfl rfl rfl rfl (by omega) (by omega) ?_)
 intro AoB coB w6 oB hg5
 replace oO := oO.grown hg5 (fun g hg e => absurd (UO g e) (Nat.not_lt.2 (Own.lt oS hg).1))
 replace hs := hs.grown hg5 (fun g hg => Q7l (Q7l Bhs LX) (Own.lt oS hg).1)
 replace pS := pS.grown hg5 (fun g hg => Q7l (Q7l Bhs LX) (Own.lt oS hg).1)
 replace X := X.grown hg5 X.size (fun g hg => (Q7l LX (Own.lt oS hg).1))
 clear hg5
 replace oB := oB.to (cs' := (iW xs k).flatMap eI) (by rw [aBv (by omega), ← hcl, List.flatMap_append]; rfl)
 refine aA rfl (aD rfl ?_)
 refine aB ?_
 refine aE ?_
 refine aA rfl (aC rfl ?_)
 refine aA rfl (aC rfl ?_)
 refine aA rfl (aS aBD rfl (aO (qP k _ _ _ _ (iW xs k) _ oB.sl (by rw [eG, ← hcl]) (by rw [eG]; omega) (sC hb (by omega)) (by omega)) ?_))
 rintro _ w9 ⟨rfl, x7⟩
 replace oO := oO.ext x7
 replace hs := hs.ext x7
 replace pS := pS.ext x7
 replace oB := oB.ext x7
 replace X := Q7x X x7
 have hck := sS (k := k) (iW xs k) (by omega)
 refine aA rfl (aD rfl ?_)
 refine aB ?_
 refine aM ?_
 refine aA rfl (aC rfl ?_)
 refine aA rfl (aC rfl ?_)
 refine aA rfl (aC rfl ?_)
 refine aA rfl (iE rfl rfl (by omega) (xW (by omega)) ?_)
 refine aA rfl (aC rfl ?_)
 refine aA rfl (iE rfl rfl (by omega) (xW (by omega)) ?_)
 refine aA rfl (fN rfl rfl (by omega) (sV (by omega)) ?_)
 refine aA rfl (aC rfl ?_)
 refine aA rfl (fN rfl rfl (by omega) (sV (by omega)) ?_)
 refine aA rfl (aN dA cY rfl rfl rfl rfl rfl ?_)
 intro g10 w12 eg10 oT bbg10 x11 zg10
 replace oT := Own.low oT X.size
 replace oO := oO.ext x11
 replace hs := hs.ext x11
 replace pS := pS.ext x11
 replace oB := oB.ext x11
 replace X := Q7x X x11
 refine aA rfl (cF (ts := #[]) oB (by obtain ⟨gq, _, _, h1, h2, _⟩ := oB.form (by omega); have h3 := (Array.getElem?_eq_some_iff.1 h2).1; omega) oT.sl rfl (eF (qO k (iW xs k))) dA cY rfl rfl rfl rfl (by omega) (by omega) ?_)
 intro AoE coE w14 oE hg13
 replace oO := oO.grown hg13 (fun g hg e => absurd (UO g e) (Nat.not_lt.2 (Own.lt oB hg).1))
 replace hs := hs.grown hg13 (fun g hg => Q7l (Q7l Bhs LX) (Own.lt oB hg).1)
 replace pS := pS.grown hg13 (fun g hg => Q7l (Q7l Bhs LX) (Own.lt oB hg).1)
 replace X := X.grown hg13 X.size (fun g hg => (Q7l LX (Own.lt oB hg).1))
 clear hg13
 replace oE := oE.to (cs' := (jB xs k).flatMap eI) (by rw [jB, List.flatMap_append]; rfl)
 refine aA rfl (cF (ts := #[]) oO X.size oE.sl (by rw [fB bL, jB, List.length_append, eG, iQ, ← hcl]) (eF _) dA cY rfl rfl rfl rfl (by omega) (by omega) ?_)
 intro AoN coN w16 oN hg15
 replace hs := hs.grown hg15 (fun g hg => Q7l Bhs (Own.lt oO hg).1)
 replace pS := pS.grown hg15 (fun g hg => Q7l Bhs (Own.lt oO hg).1)
 replace X := X.grown hg15 X.size (fun g hg => (Own.lt oO hg).1)
 clear hg15
 refine aA rfl (aD rfl ?_)
 refine aB ?_
 refine dJ ?_
 refine aP ?_
 refine aM ?_
 refine aA rfl (aC rfl ?_)
 refine aA rfl (aZ rfl rfl (dR (by omega)) ?_)
 refine aA rfl (aD rfl ?_)
 refine aB ?_
 refine aP ⟨(k + 1, n1 + (2 + (min xs.length (28 * (k + 1)) - 28 * k) + 3), AoN, coN), (.cons rfl (.cons rfl (.cons rfl (.cons rfl (.nil _))))), ?_, ?_⟩
 · exact ⟨(by omega), (by omega), (by rw [fK, List.length_append, jB, List.length_append, eG, ← hn1, iQ]; omega), (oN.to (by rw [fK, List.flatMap_append])), hs, X⟩
 · first | omega | (dsimp only; omega)
 refine aB ?_
 refine aL rfl ?_
 refine aU ?_
 refine aP ?_
 refine aE ?_
 refine aA rfl (aC rfl ?_)
 refine aA rfl (aC rfl ?_)
 refine aA rfl (aN dA cY rfl rfl rfl rfl rfl ?_)
 intro gS w18 egS oS bbgS x17 zgS
 replace oS := Own.low oS (Nat.le_refl _)
 replace oO := oO.ext x17
 replace hs := hs.ext x17
 replace pS := pS.ext x17
 replace X := Q7x X x17
 refine aA rfl (aC rfl ?_)
 refine aA rfl (cF (ts := #[]) oS (by omega) pS (by rw [fB bL, hcl]) (eF _) dA cY rfl rfl rfl rfl (by omega) (by omega) ?_)
 intro AoB coB w20 oB hg19
 replace oO := oO.grown hg19 (fun g hg e => absurd (UO g e) (Nat.not_lt.2 (Own.lt oS hg).1))
 replace hs := hs.grown hg19 (fun g hg => Q7l (Q7l Bhs LX) (Own.lt oS hg).1)
 replace pS := pS.grown hg19 (fun g hg => Q7l (Q7l Bhs LX) (Own.lt oS hg).1)
 replace X := X.grown hg19 X.size (fun g hg => (Q7l LX (Own.lt oS hg).1))
 clear hg19
 replace oB := oB.to (cs' := (iW xs k).flatMap eI) (by rw [aBw (by omega), ← hcl, List.flatMap_append]; rfl)
 refine aA rfl (aD rfl ?_)
 refine aB ?_
 refine aE ?_
 refine aA rfl (aC rfl ?_)
 refine aA rfl (aC rfl ?_)
 refine aA rfl (aS aBD rfl (aO (qP k _ _ _ _ (iW xs k) _ oB.sl (by rw [eG, ← hcl]) (by rw [eG]; omega) (sC hb (by omega)) (by omega)) ?_))
 rintro _ w22 ⟨rfl, x21⟩
 replace oO := oO.ext x21
 replace hs := hs.ext x21
 replace pS := pS.ext x21
 replace oB := oB.ext x21
 replace X := Q7x X x21
 have hck := sS (k := k) (iW xs k) (by omega)
 refine aA rfl (aD rfl ?_)
 refine aB ?_
 refine aM ?_
 refine aA rfl (aC rfl ?_)
 refine aA rfl (aC rfl ?_)
 refine aA rfl (aC rfl ?_)
 refine aA rfl (iE rfl rfl (by omega) (xW (by omega)) ?_)
 refine aA rfl (aC rfl ?_)
 refine aA rfl (iE rfl rfl (by omega) (xW (by omega)) ?_)
 refine aA rfl (fN rfl rfl (by omega) (sV (by omega)) ?_)
 refine aA rfl (aC rfl ?_)
 refine aA rfl (fN rfl rfl (by omega) (sV (by omega)) ?_)
 refine aA rfl (aN dA cY rfl rfl rfl rfl rfl ?_)
 intro g23 w25 eg23 oT bbg23 x24 zg23
 replace oT := Own.low oT X.size
 replace oO := oO.ext x24
 replace hs := hs.ext x24
 replace pS := pS.ext x24
 replace oB := oB.ext x24
 replace X := Q7x X x24
 refine aA rfl (cF (ts := #[]) oB (by obtain ⟨gq, _, _, h1, h2, _⟩ := oB.form (by omega); have h3 := (Array.getElem?_eq_some_iff.1 h2).1; omega) oT.sl rfl (eF (qO k (iW xs k))) dA cY rfl rfl rfl rfl (by omega) (by omega) ?_)
 intro AoE coE w27 oE hg26
 replace oO := oO.grown hg26 (fun g hg e => absurd (UO g e) (Nat.not_lt.2 (Own.lt oB hg).1))
 replace hs := hs.grown hg26 (fun g hg => Q7l (Q7l Bhs LX) (Own.lt oB hg).1)
 replace pS := pS.grown hg26 (fun g hg => Q7l (Q7l Bhs LX) (Own.lt oB hg).1)
 replace X := X.grown hg26 X.size (fun g hg => (Q7l LX (Own.lt oB hg).1))
 clear hg26
 replace oE := oE.to (cs' := (jB xs k).flatMap eI) (by rw [jB, List.flatMap_append]; rfl)
 refine aA rfl (cF (ts := #[]) oO X.size oE.sl (by rw [fB bL, jB, List.length_append, eG, iQ, ← hcl]) (eF _) dA cY rfl rfl rfl rfl (by omega) (by omega) ?_)
 intro AoN coN w29 oN hg28
 replace hs := hs.grown hg28 (fun g hg => Q7l Bhs (Own.lt oO hg).1)
 replace pS := pS.grown hg28 (fun g hg => Q7l Bhs (Own.lt oO hg).1)
 replace X := X.grown hg28 X.size (fun g hg => (Own.lt oO hg).1)
 clear hg28
 refine aA rfl (aD rfl ?_)
 refine aB ?_
 refine dJ ?_
 refine aP ?_
 refine aM ?_
 refine aA rfl (aC rfl ?_)
 refine aA rfl (aZ rfl rfl (dR (by omega)) ?_)
 refine aA rfl (aD rfl ?_)
 refine aB ?_
 refine aP ⟨(k + 1, n1 + (2 + (min xs.length (28 * (k + 1)) - 28 * k) + 3), AoN, coN), (.cons rfl (.cons rfl (.cons rfl (.cons rfl (.nil _))))), ?_, ?_⟩
 · exact ⟨(by omega), (by omega), (by rw [fK, List.length_append, jB, List.length_append, eG, ← hn1, iQ]; omega), (oN.to (by rw [fK, List.flatMap_append])), hs, X⟩
 · first | omega | (dsimp only; omega)
 refine aA rfl (aC rfl ?_)
 refine aH rfl rfl rfl (aC rfl ?_)
 refine aH rfl rfl rfl (iN rfl rfl (show IntKind.i64.wrap _ = ((28 * k : Nat) : Int) from (dR (by omega)).trans (by omega)) ?_)
 refine aH rfl rfl rfl (aC rfl ?_)
 refine aH rfl rfl rfl (cQ Tryz.underlying30 rfl ?_)
 refine aH rfl rfl rfl (cH rfl rfl (fun hk => ?_) (fun hk => ?_))
 have hkS := (aAF (n := xs.length) (k := k)).2 (.inr (by omega))
 have LX := X.size
 have UO := fun g hg => (Own.lt oO (g := g) hg).2
 have hpl := iX xs k
 have hk28 := aJ9 hkS
 refine aA rfl (aJ rfl rfl ?_)
 refine aB ?_
 refine aR rfl ?_
 refine aU ?_
 refine aP ?_
 refine aQ ?_
 refine aW ?_
 refine aE ?_
 refine aA rfl (aC rfl ?_)
 refine aA rfl (aC rfl ?_)
 refine aA rfl (iN rfl rfl (show IntKind.i64.wrap _ = ((28 * k : Nat) : Int) from (dR (by omega)).trans (by omega)) ?_)
 refine aA rfl (aC rfl ?_)
 refine aA rfl (cQ Tryz.underlying30 rfl ?_)
 refine aA rfl (aC rfl ?_)
 refine aA rfl (aZ rfl rfl (dR (by omega)) ?_)
 refine aA rfl (iN rfl rfl (show IntKind.i64.wrap _ = ((28 * (k + 1) : Nat) : Int) from (dR (by omega)).trans (by omega)) ?_)
 refine aA rfl (aDu rfl rfl ?_)
 refine aA rfl (rB dA hs bL rfl rfl rfl rfl (show _ = ((min xs.length (28 * (k + 1)) : Nat) : Int) by omega) (by omega) (by omega) ?_)
 intro Ap pS
 rw [zK hk28] at pS
 have hcl : min xs.length (28 * (k + 1)) - 28 * k = (gK xs k).length := by rw [iX]; omega
 refine aA rfl (aD rfl ?_)
 refine aB ?_
 refine aE ?_
 refine aA rfl (aC rfl ?_)
 refine aA rfl (cQ Tryz.underlying30 rfl ?_)
 refine aA rfl (aD rfl ?_)
 refine aB ?_
 refine aQ ?_
 refine aE ?_
 refine aA rfl (aC rfl ?_)
 refine aA rfl (aZ rfl rfl (dR (by omega)) ?_)
 refine aA rfl (iN rfl rfl (show IntKind.i64.wrap _ = ((28 * (k + 1) : Nat) : Int) from (dR (by omega)).trans (by omega)) ?_)
 refine aA rfl (aC rfl ?_)
 refine aA rfl (cQ Tryz.underlying30 rfl ?_)
 refine aA rfl (lC rfl rfl (fun hlast => ?_) (fun hlast => ?_))
 refine aB ?_
 refine aR rfl ?_
 refine aM ?_
 refine aA rfl (aC rfl ?_)
 refine aA rfl (aZ rfl rfl (dR (by omega)) ?_)
 refine aA rfl (aD rfl ?_)
 refine aB ?_
 refine aP ?_
 refine aE ?_
 refine aA rfl (aC rfl ?_)
 refine aA rfl (aC rfl ?_)
 refine aA rfl (aN dA cY rfl rfl rfl rfl rfl ?_)
 intro gS w31 egS oS bbgS x30 zgS
 replace oS := Own.low oS (Nat.le_refl _)
 replace oO := oO.ext x30
 replace hs := hs.ext x30
 replace pS := pS.ext x30
 replace X := Q7x X x30
 refine aA rfl (aC rfl ?_)
 refine aA rfl (cF (ts := #[]) oS (by omega) pS (by rw [fB bL, hcl]) (eF _) dA cY rfl rfl rfl rfl (by omega) (by omega) ?_)
 intro AoB coB w33 oB hg32
 replace oO := oO.grown hg32 (fun g hg e => absurd (UO g e) (Nat.not_lt.2 (Own.lt oS hg).1))
 replace hs := hs.grown hg32 (fun g hg => Q7l (Q7l Bhs LX) (Own.lt oS hg).1)
 replace pS := pS.grown hg32 (fun g hg => Q7l (Q7l Bhs LX) (Own.lt oS hg).1)
 replace X := X.grown hg32 X.size (fun g hg => (Q7l LX (Own.lt oS hg).1))
 clear hg32
 replace oB := oB.to (cs' := (iW xs k).flatMap eI) (by rw [aBv (by omega), ← hcl, List.flatMap_append]; rfl)
 refine aA rfl (aD rfl ?_)
 refine aB ?_
 refine aE ?_
 refine aA rfl (aC rfl ?_)
 refine aA rfl (aC rfl ?_)
 refine aA rfl (aS aBD rfl (aO (qP k _ _ _ _ (iW xs k) _ oB.sl (by rw [eG, ← hcl]) (by rw [eG]; omega) (sC hb (by omega)) (by omega)) ?_))
 rintro _ w35 ⟨rfl, x34⟩
 replace oO := oO.ext x34
 replace hs := hs.ext x34
 replace pS := pS.ext x34
 replace oB := oB.ext x34
 replace X := Q7x X x34
 have hck := sS (k := k) (iW xs k) (by omega)
 refine aA rfl (aD rfl ?_)
 refine aB ?_
 refine aM ?_
 refine aA rfl (aC rfl ?_)
 refine aA rfl (aC rfl ?_)
 refine aA rfl (aC rfl ?_)
 refine aA rfl (iE rfl rfl (by omega) (xW (by omega)) ?_)
 refine aA rfl (aC rfl ?_)
 refine aA rfl (iE rfl rfl (by omega) (xW (by omega)) ?_)
 refine aA rfl (fN rfl rfl (by omega) (sV (by omega)) ?_)
 refine aA rfl (aC rfl ?_)
 refine aA rfl (fN rfl rfl (by omega) (sV (by omega)) ?_)
 refine aA rfl (aN dA cY rfl rfl rfl rfl rfl ?_)
 intro g36 w38 eg36 oT bbg36 x37 zg36
 replace oT := Own.low oT X.size
 replace oO := oO.ext x37
 replace hs := hs.ext x37
 replace pS := pS.ext x37
 replace oB := oB.ext x37
 replace X := Q7x X x37
 refine aA rfl (cF (ts := #[]) oB (by obtain ⟨gq, _, _, h1, h2, _⟩ := oB.form (by omega); have h3 := (Array.getElem?_eq_some_iff.1 h2).1; omega) oT.sl rfl (eF (qO k (iW xs k))) dA cY rfl rfl rfl rfl (by omega) (by omega) ?_)
 intro AoE coE w40 oE hg39
 replace oO := oO.grown hg39 (fun g hg e => absurd (UO g e) (Nat.not_lt.2 (Own.lt oB hg).1))
 replace hs := hs.grown hg39 (fun g hg => Q7l (Q7l Bhs LX) (Own.lt oB hg).1)
 replace pS := pS.grown hg39 (fun g hg => Q7l (Q7l Bhs LX) (Own.lt oB hg).1)
 replace X := X.grown hg39 X.size (fun g hg => (Q7l LX (Own.lt oB hg).1))
 clear hg39
 replace oE := oE.to (cs' := (jB xs k).flatMap eI) (by rw [jB, List.flatMap_append]; rfl)
 refine aA rfl (cF (ts := #[]) oO X.size oE.sl (by rw [fB bL, jB, List.length_append, eG, iQ, ← hcl]) (eF _) dA cY rfl rfl rfl rfl (by omega) (by omega) ?_)
 intro AoN coN w42 oN hg41
 replace hs := hs.grown hg41 (fun g hg => Q7l Bhs (Own.lt oO hg).1)
 replace pS := pS.grown hg41 (fun g hg => Q7l Bhs (Own.lt oO hg).1)
 replace X := X.grown hg41 X.size (fun g hg => (Own.lt oO hg).1)
 clear hg41
 refine aA rfl (aD rfl ?_)
 refine aB ?_
 refine dJ ?_
 refine aP ?_
 refine aM ?_
 refine aA rfl (aC rfl ?_)
 refine aA rfl (aZ rfl rfl (dR (by omega)) ?_)
 refine aA rfl (aD rfl ?_)
 refine aB ?_
 refine aP ⟨(k + 1, n1 + (2 + (min xs.length (28 * (k + 1)) - 28 * k) + 3), AoN, coN), (.cons rfl (.cons rfl (.cons rfl (.cons rfl (.nil _))))), ?_, ?_⟩
 · exact ⟨(by omega), (by omega), (by rw [fK, List.length_append, jB, List.length_append, eG, ← hn1, iQ]; omega), (oN.to (by rw [fK, List.flatMap_append])), hs, X⟩
 · first | omega | (dsimp only; omega)
 refine aB ?_
 refine aL rfl ?_
 refine aU ?_
 refine aP ?_
 refine aE ?_
 refine aA rfl (aC rfl ?_)
 refine aA rfl (aC rfl ?_)
 refine aA rfl (aN dA cY rfl rfl rfl rfl rfl ?_)
 intro gS w44 egS oS bbgS x43 zgS
 replace oS := Own.low oS (Nat.le_refl _)
 replace oO := oO.ext x43
 replace hs := hs.ext x43
 replace pS := pS.ext x43
 replace X := Q7x X x43
 refine aA rfl (aC rfl ?_)
 refine aA rfl (cF (ts := #[]) oS (by omega) pS (by rw [fB bL, hcl]) (eF _) dA cY rfl rfl rfl rfl (by omega) (by omega) ?_)
 intro AoB coB w46 oB hg45
 replace oO := oO.grown hg45 (fun g hg e => absurd (UO g e) (Nat.not_lt.2 (Own.lt oS hg).1))
 replace hs := hs.grown hg45 (fun g hg => Q7l (Q7l Bhs LX) (Own.lt oS hg).1)
 replace pS := pS.grown hg45 (fun g hg => Q7l (Q7l Bhs LX) (Own.lt oS hg).1)
 replace X := X.grown hg45 X.size (fun g hg => (Q7l LX (Own.lt oS hg).1))
 clear hg45
 replace oB := oB.to (cs' := (iW xs k).flatMap eI) (by rw [aBw (by omega), ← hcl, List.flatMap_append]; rfl)
 refine aA rfl (aD rfl ?_)
 refine aB ?_
 refine aE ?_
 refine aA rfl (aC rfl ?_)
 refine aA rfl (aC rfl ?_)
 refine aA rfl (aS aBD rfl (aO (qP k _ _ _ _ (iW xs k) _ oB.sl (by rw [eG, ← hcl]) (by rw [eG]; omega) (sC hb (by omega)) (by omega)) ?_))
 rintro _ w48 ⟨rfl, x47⟩
 replace oO := oO.ext x47
 replace hs := hs.ext x47
 replace pS := pS.ext x47
 replace oB := oB.ext x47
 replace X := Q7x X x47
 have hck := sS (k := k) (iW xs k) (by omega)
 refine aA rfl (aD rfl ?_)
 refine aB ?_
 refine aM ?_
 refine aA rfl (aC rfl ?_)
 refine aA rfl (aC rfl ?_)
 refine aA rfl (aC rfl ?_)
 refine aA rfl (iE rfl rfl (by omega) (xW (by omega)) ?_)
 refine aA rfl (aC rfl ?_)
 refine aA rfl (iE rfl rfl (by omega) (xW (by omega)) ?_)
 refine aA rfl (fN rfl rfl (by omega) (sV (by omega)) ?_)
 refine aA rfl (aC rfl ?_)
 refine aA rfl (fN rfl rfl (by omega) (sV (by omega)) ?_)
 refine aA rfl (aN dA cY rfl rfl rfl rfl rfl ?_)
 intro g49 w51 eg49 oT bbg49 x50 zg49
 replace oT := Own.low oT X.size
 replace oO := oO.ext x50
 replace hs := hs.ext x50
 replace pS := pS.ext x50
 replace oB := oB.ext x50
 replace X := Q7x X x50
 refine aA rfl (cF (ts := #[]) oB (by obtain ⟨gq, _, _, h1, h2, _⟩ := oB.form (by omega); have h3 := (Array.getElem?_eq_some_iff.1 h2).1; omega) oT.sl rfl (eF (qO k (iW xs k))) dA cY rfl rfl rfl rfl (by omega) (by omega) ?_)
 intro AoE coE w53 oE hg52
 replace oO := oO.grown hg52 (fun g hg e => absurd (UO g e) (Nat.not_lt.2 (Own.lt oB hg).1))
 replace hs := hs.grown hg52 (fun g hg => Q7l (Q7l Bhs LX) (Own.lt oB hg).1)
 replace pS := pS.grown hg52 (fun g hg => Q7l (Q7l Bhs LX) (Own.lt oB hg).1)
 replace X := X.grown hg52 X.size (fun g hg => (Q7l LX (Own.lt oB hg).1))
 clear hg52
 replace oE := oE.to (cs' := (jB xs k).flatMap eI) (by rw [jB, List.flatMap_append]; rfl)
 refine aA rfl (cF (ts := #[]) oO X.size oE.sl (by rw [fB bL, jB, List.length_append, eG, iQ, ← hcl]) (eF _) dA cY rfl rfl rfl rfl (by omega) (by omega) ?_)
 intro AoN coN w55 oN hg54
 replace hs := hs.grown hg54 (fun g hg => Q7l Bhs (Own.lt oO hg).1)
 replace pS := pS.grown hg54 (fun g hg => Q7l Bhs (Own.lt oO hg).1)
 replace X := X.grown hg54 X.size (fun g hg => (Own.lt oO hg).1)
 clear hg54
 refine aA rfl (aD rfl ?_)
 refine aB ?_
 refine dJ ?_
 refine aP ?_
 refine aM ?_
 refine aA rfl (aC rfl ?_)
 refine aA rfl (aZ rfl rfl (dR (by omega)) ?_)
 refine aA rfl (aD rfl ?_)
 refine aB ?_
 refine aP ⟨(k + 1, n1 + (2 + (min xs.length (28 * (k + 1)) - 28 * k) + 3), AoN, coN), (.cons rfl (.cons rfl (.cons rfl (.cons rfl (.nil _))))), ?_, ?_⟩
 · exact ⟨(by omega), (by omega), (by rw [fK, List.length_append, jB, List.length_append, eG, ← hn1, iQ]; omega), (oN.to (by rw [fK, List.flatMap_append])), hs, X⟩
 · first | omega | (dsimp only; omega)
 have hkN : ¬ k < nB xs.length := fun h => by have := (aAF (n := xs.length)).1 h; omega
 refine aA rfl (aJ rfl rfl ?_)
 refine aB ?_
 refine aL rfl ?_
 refine dC ?_
 refine dB ?_
 refine dB ?_
 refine eA ?_
 refine aP ?_
 refine aE ?_
 refine aA rfl (aC rfl ?_)
 refine aA rfl (aD rfl ?_)
 refine aB ?_
 refine aV ?_
 refine aK rfl rfl ?_
 · skip
   have hkE : k = nB xs.length := by omega
   rw [hkE] at oO hn1
   unfold uE
   rw [← hn1]; exact ⟨A1, c1, rfl, oO, X⟩
theorem aEl (xs : List Int) (k : Nat) : aHl xs k = ((fS xs k).drop 2).take ((fS xs k).length - 3 - 2) := List.drop_take ..
theorem aGb {xs : List Int} (hb : ∀ x ∈ xs, 0 ≤ x ∧ x ≤ 255) : ∀ x ∈ uF xs, 0 ≤ x ∧ x ≤ 255 := fun x hx => by
 obtain ⟨k, _, h⟩ := List.mem_flatMap.1 hx
 exact vO hb k x (List.mem_of_mem_take (List.mem_of_mem_drop h))
def iZ (xs : List Int) : List Int × Int := if rL xs = true then lN xs else ([], 2)
theorem aGc (xs : List Int) : (lN xs).1.length ≤ 868 := by
 unfold lN; split
 · exact Nat.zero_le _
 · split
   · rename_i h; exact h.1
   · exact Nat.zero_le _
theorem aGd (xs : List Int) : (iZ xs).1.length ≤ 1048576 := by
 unfold iZ; split
 · have := aGc xs; omega
 · exact Nat.zero_le _
theorem aIz {xs : List Int} (h : ¬ ((xs.length : Nat) : Int) > 0) : xs = [] := List.eq_nil_of_length_eq_zero (by omega)
theorem aKa {xs : List Int} (h : ((xs.length : Nat) : Int) > 0) : xs ≠ [] := fun e => by rw [e] at h; exact absurd h (by decide)
theorem aGe (A : Option Addr) (B c : Nat) (xs : List Int) (w : World) (hs : Sl B w A (xs.flatMap eI)) (hl : xs.length ≤ 1024) (hb : ∀ x ∈ xs, 0 ≤ x ∧ x ≤ 255) (hc : xs.length ≤ c) (hn : Nexts B w (tK A xs)) :
   Calls Tryz.prog 166 #[.slice A xs.length c] w (fD fun v w' => ∃ A' c', v = .tuple #[.slice A' (lN xs).1.length c', .int .i64 (lN xs).2] ∧ Own w' w.heap.size 2 1 A' (lN xs).1.length c' ((lN xs).1.flatMap eI) ∧ Ext w w') := by
 have hnS := aFE xs.length
 have Bhs := hs.1
 have Bhn := hn.1
 have X := Q7r w
 refine bI (args := [.slice A xs.length c]) Tryz.func166 Tryz.ntmps166 rfl rfl ?_
 refine aE ?_
 refine aA rfl (aD rfl ?_)
 refine aA rfl (aD rfl ?_)
 refine aB ?_
 refine aQ ?_
 refine aE ?_
 refine aA rfl (aC rfl ?_)
 refine aA rfl (aS aId rfl (aO (aAL _ _ c xs _ hs hl hb hc hn) ?_))
 rintro _ w2 ⟨A3, c4, rfl, oD, x1⟩
 replace oD := Own.low oD X.size
 replace hs := hs.ext x1
 replace hn := hn.ext x1
 replace X := Q7x X x1
 refine aA rfl (cQ Tryz.underlying30 rfl ?_)
 refine aA rfl (fX rfl rfl (fun hD => ?_) (fun hD => ?_))
 refine aB ?_
 refine aR rfl ?_
 refine aE ?_
 refine aA rfl (aD rfl ?_)
 refine aA rfl (aD rfl ?_)
 refine aB ?_
 refine aV ?_
 refine bU ?_
 refine fL rfl rfl rfl ?_
 · skip
   have e : lN xs = ([], 7) := by rw [lN, if_pos (aKa hD)]
   rw [e]; exact ⟨none, 0, rfl, Own.nil_ _ _ _ _, X⟩
 have hD0 : dmg xs = [] := aIz hD
 refine aB ?_
 refine aL rfl ?_
 refine aU ?_
 refine aP ?_
 refine aE ?_
 refine aA rfl (aN dA cY rfl rfl rfl rfl rfl ?_)
 intro gO w6 egO oO bbgO x5 zgO
 replace oO := Own.low oO X.size
 replace hs := hs.ext x5
 replace hn := hn.ext x5
 replace oD := oD.ext x5
 replace X := Q7x X x5
 refine aA rfl (aD rfl ?_)
 refine aB ?_
 refine aQ ?_
 refine aE ?_
 refine aA rfl (aC rfl ?_)
 refine aA rfl (aS aGu rfl (aO (uH A c xs _ (by omega) hc) ?_))
 rintro _ w9 ⟨AR, cR, rfl, oR, x7⟩
 replace oR := Own.low oR X.size
 replace hs := hs.ext x7
 replace hn := hn.ext x7
 replace oD := oD.ext x7
 replace oO := oO.ext x7
 replace X := Q7x X x7
 refine aA rfl (cQ Tryz.underlying107 rfl ?_)
 refine aA rfl (aC rfl ?_)
 refine aB ?_
 refine aW ?_
 refine dD (G := Nat × Nat × Option Addr × Nat) (fun ⟨k, n1, A1, c1⟩ => [(0, .slice A xs.length c), (2, .slice none 0 0), (3, .int .i64 0), (13, .slice AR (nS xs.length) cR), (14, .int .i64 ((nS xs.length) : Nat)), (4, .slice A1 n1 c1), (15, .int .i64 (k : Nat))]) (fun ⟨k, n1, A1, c1⟩ wr => k ≤ nS xs.length ∧ n1 ≤ 28 * k ∧ n1 = (aDe xs k).length ∧ Own wr w.heap.size 2 1 A1 n1 c1 ((aDe xs k).flatMap eI) ∧ Sl B wr A (xs.flatMap eI) ∧ Nexts B wr (tK A xs) ∧ Own wr w.heap.size 30 1 AR (nS xs.length) cR ((tK A xs).flatMap pP) ∧ Ext w wr) (fun ⟨k, n1, A1, c1⟩ => nS xs.length - k) (0, 0, some ⟨gO, 0, none⟩, 0) (.cons rfl (.cons rfl (.cons rfl (.cons rfl (.cons rfl (.cons rfl (.cons rfl (.nil _)))))))) ?_ ?_
 · exact ⟨(Nat.zero_le _), (Nat.le_refl _), rfl, oO, hs, hn, oR, X⟩
 clear hs hn oD oO oR
 clear X
 rintro ⟨k, n1, A1, c1⟩ wr ⟨hk0, hnk, hn1, oO, hs, hn, oR, X⟩
 refine aE ?_
 refine aA rfl (cH rfl rfl (fun hk => ?_) (fun hk => ?_))
 obtain ⟨pA, pc, hx, hpc⟩ := zA A xs (k := k) (by omega)
 have hbk := (yW (aHn hD0 (k := k) (by omega))).1
 have hpl := rU xs k
 have hrl : (kS pA pc (fS xs k)).m.next.length = (fS xs k).length := rfl
 have hrc : (kS pA pc (fS xs k)).c = pc := rfl
 refine aB ?_
 refine aQ ?_
 refine aR rfl ?_
 refine aU ?_
 refine aP ?_
 refine aQ ?_
 refine aW ?_
 refine aE ?_
 refine aA rfl (aT (oR).sl iP rfl rJ rfl (yZ A xs).symm rfl hx rfl ?_)
 refine aA rfl (cX (oR).sl iP hx kQ rfl rfl rfl ?_)
 have hp : Sl B _ pA ((fS xs k).flatMap eI) := hn.at_ hx
 refine aA rfl (aD rfl ?_)
 refine aB ?_
 refine aM ?_
 refine aA rfl (aC rfl ?_)
 refine aA rfl (aC rfl ?_)
 refine aA rfl (aC rfl ?_)
 refine aA rfl (cQ Tryz.underlying30 rfl ?_)
 refine aA rfl (fZ rfl rfl (dR (by omega)) ?_)
 refine aA rfl (rB dA hp bL rfl rfl rfl (show (2 : Int) = ((2 : Nat) : Int) from rfl) (show _ = (((fS xs k).length - 3 : Nat) : Int) by omega) (by omega) (by omega) ?_)
 intro Ap pS
 refine aA rfl (cF (ts := #[]) oO X.size pS (by rw [fB bL, List.length_take, List.length_drop]; omega) (eF _) dA cY rfl rfl rfl rfl (by omega) (by omega) ?_)
 intro AoN coN w11 oN hg10
 replace hs := hs.grown hg10 (fun g hg => Q7l Bhs (Own.lt oO hg).1)
 replace hn := hn.grown hg10 (fun g hg => Q7l Bhn (Own.lt oO hg).1)
 replace oR := oR.grown hg10 (Own.neO oR oO (by decide))
 replace hp := hp.grown hg10 (fun g hg => Q7l Bhs (Own.lt oO hg).1)
 replace pS := pS.grown hg10 (fun g hg => Q7l Bhs (Own.lt oO hg).1)
 replace X := X.grown hg10 X.size (fun g hg => (Own.lt oO hg).1)
 clear hg10
 refine aA rfl (aD rfl ?_)
 refine aB ?_
 refine dJ ?_
 refine aP ?_
 refine aM ?_
 refine aA rfl (aZ rfl rfl (dR (by omega)) ?_)
 refine aA rfl (aC rfl ?_)
 refine aB ?_
 refine aP ⟨(k + 1, n1 + ((fS xs k).length - 3 - 2), AoN, coN), (.cons rfl (.cons rfl (.cons rfl (.cons rfl (.cons rfl (.cons rfl (.cons rfl (.nil _)))))))), ?_, ?_⟩
 · exact ⟨(by omega), (by omega), (by rw [vN, List.length_append, aEl, List.length_take, List.length_drop]; omega), (oN.to (by rw [vN, List.flatMap_append, aEl])), hs, hn, oR, X⟩
 · first | omega | (dsimp only; omega)
 refine aB ?_
 refine aQ ?_
 refine aL rfl ?_
 refine dC ?_
 refine dB ?_
 refine dB ?_
 refine eA ?_
 refine aP ?_
 refine aQ ?_
 refine aE ?_
 obtain rfl : k = nS xs.length := by omega
 subst hn1
 refine aA rfl (aC rfl ?_)
 refine aA rfl (cQ Tryz.underlying30 rfl ?_)
 refine aA rfl (fX rfl rfl (fun hG => ?_) (fun hG => ?_))
 have hGn : ¬ (uF xs).length ≤ 868 := by unfold uF; omega
 refine aA rfl (aC rfl ?_)
 refine aG rfl rfl rfl rfl ?_
 refine aG rfl rfl rfl rfl ?_
 refine aG rfl rfl rfl rfl ?_
 refine aG rfl rfl rfl rfl ?_
 refine aG rfl rfl rfl rfl ?_
 refine aA rfl (aJ rfl rfl ?_)
 refine aB ?_
 refine aR rfl ?_
 refine aE ?_
 refine aA rfl (aD rfl ?_)
 refine aA rfl (aD rfl ?_)
 refine aB ?_
 refine aV ?_
 refine bU ?_
 refine fL rfl rfl rfl ?_
 · skip
   have e : lN xs = ([], 6) := by rw [lN, if_neg (fun h => h hD0), if_neg (fun h => hGn h.1)]
   rw [e]; exact ⟨none, 0, rfl, Own.nil_ _ _ _ _, X⟩
 have hGp : (uF xs).length ≤ 868 := by unfold uF; omega
 refine aA rfl (aC rfl ?_)
 refine aH rfl rfl rfl (aC rfl ?_)
 refine aH rfl rfl rfl (aS aH6 rfl (aO (aAS A1 _ c1 (uF xs) _ oO.sl (by omega) (aGb hb) oO.cap (zJ oO.sl (by omega))) ?_))
 rintro _ w13 ⟨AI, cI, rfl, oI, x12⟩
 replace oI := Own.low oI X.size
 replace oO := oO.ext x12
 replace hs := hs.ext x12
 replace hn := hn.ext x12
 replace oR := oR.ext x12
 replace X := Q7x X x12
 refine aH rfl rfl rfl (aC rfl ?_)
 refine aH rfl rfl rfl (cW aDN rfl (aCe _ _ _ (uE (uF xs)) _ _ _ xs _ oI.sl hs (by have h1 := xP (uF xs); have h2 := aAE (uF xs).length; omega)) (fun w15 hE x14 => ?_) (fun w15 hE x14 => ?_))
 replace oO := oO.ext x14
 replace hs := hs.ext x14
 replace hn := hn.ext x14
 replace oR := oR.ext x14
 replace oI := oI.ext x14
 replace X := Q7x X x14
 refine aH rfl rfl rfl (cD rfl ?_)
 refine aA rfl (aJ rfl rfl ?_)
 refine aB ?_
 refine aL rfl ?_
 refine aU ?_
 refine aP ?_
 refine aE ?_
 refine aA rfl (aC rfl ?_)
 refine aA rfl (aD rfl ?_)
 refine aA rfl (aD rfl ?_)
 refine aB ?_
 refine aV ?_
 refine fL rfl rfl rfl ?_
 · skip
   have e : lN xs = (uF xs, 0) := by rw [lN, if_neg (fun h => h hD0), if_pos ⟨hGp, of_decide_eq_true hE⟩]
   rw [e]; exact ⟨A1, c1, rfl, oO, X⟩
 replace oO := oO.ext x14
 replace hs := hs.ext x14
 replace hn := hn.ext x14
 replace oR := oR.ext x14
 replace oI := oI.ext x14
 replace X := Q7x X x14
 refine aH rfl rfl rfl (cD rfl ?_)
 refine aA rfl (aJ rfl rfl ?_)
 refine aB ?_
 refine aR rfl ?_
 refine aE ?_
 refine aA rfl (aD rfl ?_)
 refine aA rfl (aD rfl ?_)
 refine aB ?_
 refine aV ?_
 refine bU ?_
 refine fL rfl rfl rfl ?_
 · skip
   have e : lN xs = ([], 6) := by rw [lN, if_neg (fun h => h hD0), if_neg (fun h => of_decide_eq_false hE h.2)]
   rw [e]; exact ⟨none, 0, rfl, Own.nil_ _ _ _ _, X⟩
theorem aIA (n : Int) (w : World)  :
   Calls Tryz.prog 72 #[.int .i64 n] w (fD fun v w' => v = .bool (hZ n 0 868) ∧ Ext w w') := by
 have X := Q7r w
 refine bI (args := [.int .i64 n]) Tryz.func72 Tryz.ntmps72 rfl rfl ?_
 refine aE ?_
 refine aA rfl (aD rfl ?_)
 refine aB ?_
 refine aE ?_
 refine aA rfl (aC rfl ?_)
 refine aA rfl (aS jW rfl (aO (iM _ _ _ _) ?_))
 rintro _ w2 ⟨rfl, x1⟩
 replace X := Q7x X x1
 refine aA rfl (aD rfl ?_)
 refine aB ?_
 refine aV ?_
 refine aK rfl rfl ?_
 exact ⟨by rfl, X⟩
theorem aHC (A : Option Addr) (B c : Nat) (xs : List Int) (w : World) (hs : Sl B w A (xs.flatMap eI)) (hl : xs.length ≤ 1048576) (hcap : xs.length ≤ c) :
   Calls Tryz.prog 82 #[.slice A xs.length c] w (fD fun v w' => ∃ A' c', v = .tuple #[.slice A' (iZ xs).1.length c', .int .i64 (iZ xs).2] ∧ Own w' w.heap.size 2 1 A' (iZ xs).1.length c' ((iZ xs).1.flatMap eI) ∧ Ext w w') := by
 have Bhs := hs.1
 have X := Q7r w
 refine bI (args := [.slice A xs.length c]) Tryz.func82 Tryz.ntmps82 rfl rfl ?_
 refine aE ?_
 refine aA rfl (aD rfl ?_)
 refine aA rfl (aD rfl ?_)
 refine aB ?_
 refine aQ ?_
 refine aE ?_
 refine aA rfl (aC rfl ?_)
 refine aA rfl (cW aGt rfl (uI _ _ _ _ _ hs hl) (fun w2 hI x1 => ?_) (fun w2 hI x1 => ?_))
 replace hs := hs.ext x1
 replace X := Q7x X x1
 have hbm := xR hI
 have hbl := yB hI
 refine aA rfl (cD rfl ?_)
 refine aB ?_
 refine aL rfl ?_
 refine aU ?_
 refine aP ?_
 refine aE ?_
 refine aA rfl (aC rfl ?_)
 refine aA rfl (aS aI1 rfl (aO (aGe _ _ c xs _ hs hbl hbm hcap (zB hs hl)) ?_))
 rintro _ w4 ⟨A5, c6, rfl, oR, x3⟩
 replace oR := Own.low oR X.size
 replace hs := hs.ext x3
 replace X := Q7x X x3
 refine aA rfl (dG rfl rfl ?_)
 refine aA rfl (dG rfl rfl ?_)
 refine aA rfl (aD rfl ?_)
 refine aA rfl (aD rfl ?_)
 refine aB ?_
 refine aV ?_
 refine fL rfl rfl rfl ?_
 · skip
   first
   | (have e : iZ xs = ([], 2) := by rw [iZ, if_neg (by rw [hI]; decide)]
      rw [e]; exact ⟨none, 0, rfl, Own.nil_ _ _ _ _, X⟩)
   | (have e : iZ xs = lN xs := by rw [iZ, if_pos hI]
      rw [e]; exact ⟨_, _, rfl, oR, X⟩)
 replace hs := hs.ext x1
 replace X := Q7x X x1
 refine aA rfl (cD rfl ?_)
 refine aB ?_
 refine aR rfl ?_
 refine aE ?_
 refine aA rfl (aD rfl ?_)
 refine aA rfl (aD rfl ?_)
 refine aB ?_
 refine aV ?_
 refine bU ?_
 refine fL rfl rfl rfl ?_
 · skip
   first
   | (have e : iZ xs = ([], 2) := by rw [iZ, if_neg (by rw [hI]; decide)]
      rw [e]; exact ⟨none, 0, rfl, Own.nil_ _ _ _ _, X⟩)
   | (have e : iZ xs = lN xs := by rw [iZ, if_pos hI]
      rw [e]; exact ⟨_, _, rfl, oR, X⟩)
end Go.Proofs.YtdoibplhbdkapaaGreatDoor
