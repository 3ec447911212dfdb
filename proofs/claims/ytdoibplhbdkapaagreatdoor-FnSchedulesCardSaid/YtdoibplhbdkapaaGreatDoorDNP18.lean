/- Parts. No condition. -/
import Derived.Test.YtdoibplhbdkapaaGreatDoorDNP14
import Derived.Test.YtdoibplhbdkapaaGreatDoorDNP17
import Derived.Test.YtdoibplhbdkapaaGreatDoorDNP4
import Derived.Test.YtdoibplhbdkapaaGreatDoorDNP16
namespace Go.Proofs.YtdoibplhbdkapaaGreatDoor
open Go.RowKit
set_option linter.unusedVariables false
set_option linter.unusedSimpArgs false
set_option maxRecDepth 20000
theorem aDq (A : Option Addr) (B c : Nat) (xs : List NodeI) (w : World) (hs : Sl B w A (xs.flatMap NodeI.cells)) (hN : dV xs = true) :
   Calls Tryz.prog 155 #[.slice A xs.length c] w (fD fun v w' => ∃ A' c', v = .slice A' (mW xs).length c' ∧ Own w' w.heap.size 2 1 A' (mW xs).length c' ((mW xs).flatMap eI) ∧ Ext w w') := by
 have hnl := sJ hN
 have Bhs := hs.1
 have X := Q7r w
 refine bI (args := [.slice A xs.length c]) Tryz.func155 Tryz.ntmps155 rfl rfl ?_
 refine aE ?_
 refine aA rfl (aD rfl ?_)
 refine aB ?_
 refine aE ?_
 refine aA rfl (aC rfl ?_)
 refine aA rfl (cQ Tryz.underlying24 rfl ?_)
 refine aA rfl (aN dA cY rfl rfl rfl rfl rfl ?_)
 intro gO w2 egO oO bbgO x1 zgO
 replace oO := Own.low oO X.size
 replace hs := hs.ext x1
 replace X := Q7x X x1
 replace oO := oO.to (cs' := (ntP xs 0).flatMap eI) rfl
 refine aA rfl (aD rfl ?_)
 refine aB ?_
 refine aQ ?_
 refine aE ?_
 refine aA rfl (aD rfl ?_)
 refine aB ?_
 refine aW ?_
 refine dD (G := Nat × Nat × Option Addr × Nat) (fun ⟨k, n1, A1, c1⟩ => [(0, .slice A xs.length c), (2, .slice none 0 0), (3, .slice A1 n1 c1), (4, .int .i64 (k : Nat))]) (fun ⟨k, n1, A1, c1⟩ wr => k ≤ xs.length ∧ n1 = (ntP xs k).length ∧ n1 ≤ 1 + 11 * k ∧ Own wr w.heap.size 2 1 A1 n1 c1 ((ntP xs k).flatMap eI) ∧ Sl B wr A (xs.flatMap NodeI.cells) ∧ Ext w wr) (fun ⟨k, n1, A1, c1⟩ => xs.length - k) (0, 1, some ⟨gO, 0, none⟩, 1) (.cons rfl (.cons rfl (.cons rfl (.cons rfl (.nil _))))) ?_ ?_
 · exact ⟨by omega, rfl, (Nat.le_refl _), oO, hs, X⟩
 clear hs oO
 clear X
 rintro ⟨k, n1, A1, c1⟩ wr ⟨hk0, hn, hn1, oO, hs, X⟩
 refine aQ ?_
 refine aE ?_
 refine aA rfl (aC rfl ?_)
 refine aA rfl (aC rfl ?_)
 refine aA rfl (cQ Tryz.underlying24 rfl ?_)
 refine aA rfl (cH rfl rfl (fun hk => ?_) (fun hk => ?_))
 obtain ⟨x, hx, dx⟩ := dM hk
 have hok := kX hN x (List.mem_of_getElem? hx)
 have hxi := mN hok
 have hxs := lL hok
 refine aB ?_
 refine aR rfl ?_
 refine aU ?_
 refine aP ?_
 refine aQ ?_
 refine aW ?_
 refine aE ?_
 refine aA rfl (aC rfl ?_)
 refine aA rfl (aC rfl ?_)
 refine aA rfl (aT hs NodeI.len rfl jT rfl rfl rfl hx rfl ?_)
 refine aA rfl (dY hs NodeI.len hx jF rfl ?_)
 refine aA rfl (dO jF ?_)
 intro gX w4 egX bX x3 zgX
 have lgX : w.heap.size ≤ gX := Q7l X.size (Q7e egX.symm)
 have pgXhs := Q7l hs.1 (Q7e egX.symm)
 replace oO := oO.ext x3
 replace hs := hs.ext x3
 replace X := Q7x X x3
 refine aA rfl (aX bX jF rfl rfl rfl rfl rfl rfl ?_)
 intro w6 bY hg5 z7
 replace oO := oO.grownBlk hg5 (Own.neT oO bX (by decide))
 replace hs := hs.grown hg5 (by intro g hg; injection hg; omega)
 replace X := X.grown hg5 X.size (by intro g hg; injection hg; omega)
 clear hg5 bX
 refine aB ?_
 refine aE ?_
 refine aA rfl (aD rfl ?_)
 refine aB ?_
 refine aQ ?_
 refine aE ?_
 refine aA rfl (aF sY rfl rfl ?_)
 refine aA rfl (aI bY uX rfl rfl ?_)
 cases hpa : x.passive
 refine aB ?_
 refine aL rfl ?_
 refine aU ?_
 refine aP ?_
 refine aE ?_
 refine aA rfl (aC rfl ?_)
 refine aA rfl (aF lD rfl rfl ?_)
 refine aA rfl (aI bY cY rfl rfl ?_)
 refine aA rfl (aF mP rfl rfl ?_)
 refine aA rfl (aI bY cY rfl rfl ?_)
 refine aA rfl (iE rfl rfl (by omega) (xW (by omega)) ?_)
 refine aA rfl (aF mP rfl rfl ?_)
 refine aA rfl (aI bY cY rfl rfl ?_)
 refine aA rfl (fN rfl rfl (by omega) (sV (by omega)) ?_)
 refine aA rfl (aC rfl ?_)
 refine aA rfl (aF gV rfl rfl ?_)
 refine aA rfl (aI bY yA rfl rfl ?_)
 refine aA rfl (lY Tryz.underlying9 rfl ?_)
 refine aA rfl (aN dA cY rfl rfl rfl rfl rfl ?_)
 intro g8 w10 eg8 oS bbg8 x9 zg8
 replace oS := Own.low oS X.size
 replace oO := oO.ext x9
 replace hs := hs.ext x9
 replace bY := bY.ext x9
 replace X := Q7x X x9
 refine aA rfl (cF (ts := #[]) oO X.size oS.sl (by first | rfl | simp) (by first | exact List.all_eq_true.1 rfl | simp [Value.oneCell']) dA cY rfl rfl rfl rfl (by omega) (by omega) ?_)
 intro AoM coM w12 oM hg11
 replace hs := hs.grown hg11 (fun g hg => Q7l Bhs (Own.lt oO hg).1)
 replace bY := bY.grown hg11 (fun h => Own.neT oO bY (by decide) h.symm)
 replace X := X.grown hg11 X.size (fun g hg => (Own.lt oO hg).1)
 clear hg11
 replace oM := oM.to (cs' := ((ntP xs k).flatMap eI ++ (nF x).flatMap eI)) (by simp only [nF, hpa]; rfl)
 refine aA rfl (aD rfl ?_)
 refine aB ?_
 refine aE ?_
 refine aA rfl (aD rfl ?_)
 refine aB ?_
 refine aW ?_
 refine dD (G := Nat × Nat × Option Addr × Nat) (fun ⟨j, n2, A2, c2⟩ => [(0, .slice A xs.length c), (2, .slice none 0 0), (4, .int .i64 (k : Nat)), (5, .pointer (some ⟨gX, 0, none⟩)), (6, .int .i64 0), (11, .int .i64 (k : Nat)), (12, .slice A xs.length c), (13, .int .i64 (xs.length : Nat)), (17, .slice A xs.length c), (18, .int .i64 (k : Nat)), (23, .slice A1 n1 c1), (32, .int .i64 0), (3, .slice A2 n2 c2), (7, .int .i64 (j : Nat))]) (fun ⟨j, n2, A2, c2⟩ wr => j ≤ x.name.size ∧ n2 = ((ntP xs k ++ nF x) ++ (nE x).take j).length ∧ n2 ≤ 1 + 11 * k + 5 + j ∧ Own wr w.heap.size 2 1 A2 n2 c2 (((ntP xs k ++ nF x) ++ (nE x).take j).flatMap eI) ∧ Sl B wr A (xs.flatMap NodeI.cells) ∧ Blk wr gX 59 x.cells ∧ Ext w wr) (fun ⟨j, n2, A2, c2⟩ => x.name.size - j) (0, n1 + 5, AoM, coM) (.cons rfl (.cons rfl (.cons rfl (.cons rfl (.cons rfl (.cons rfl (.cons rfl (.cons rfl (.cons rfl (.cons rfl (.cons rfl (.cons rfl (.cons rfl (.cons rfl (.nil _))))))))))))))) ?_ ?_
 · exact ⟨by omega, (by rw [List.take_zero, List.append_nil, List.length_append, ← hn]; rfl), (by omega), oM.to (by rw [List.take_zero, List.append_nil, List.flatMap_append]; try rfl), hs, bY, X⟩
 clear hs bY oM
 clear X
 rintro ⟨j, n2, A2, c2⟩ wr ⟨hj0, hn2, hn3, oP, hs, bY, X⟩
 refine aQ ?_
 refine aE ?_
 refine aA rfl (aC rfl ?_)
 refine aA rfl (aF gV rfl rfl ?_)
 refine aA rfl (aI bY yA rfl rfl ?_)
 refine aA rfl (lY Tryz.underlying9 rfl ?_)
 refine aA rfl (cH rfl rfl (fun hj => ?_) (fun hj => ?_))
 have hjl : j < x.name.size := by omega
 refine aB ?_
 refine aR rfl ?_
 refine aU ?_
 refine aP ?_
 refine aQ ?_
 refine aW ?_
 refine aM ?_
 refine aA rfl (aC rfl ?_)
 refine aA rfl (aF gV rfl rfl ?_)
 refine aA rfl (aI bY yA rfl rfl ?_)
 refine aA rfl (aC rfl ?_)
 refine aA rfl (kO Tryz.underlying9 rfl rfl (by omega) (by omega) ?_)
 refine aA rfl (jX Tryz.underlying5 Tryz.underlying2 rfl (dR (by have := (x.name.data.toList.getD ((j : Int)).toNat 0).toNat_lt; omega)) ?_)
 refine aA rfl (aN dA cY rfl rfl rfl rfl rfl ?_)
 intro g13 w15 eg13 oT bbg13 x14 zg13
 replace oT := Own.low oT X.size
 replace oP := oP.ext x14
 replace hs := hs.ext x14
 replace bY := bY.ext x14
 replace X := Q7x X x14
 refine aA rfl (cF (ts := #[]) oP X.size oT.sl (by first | rfl | simp) (by first | exact List.all_eq_true.1 rfl | simp [Value.oneCell']) dA cY rfl rfl rfl rfl (by omega) (by omega) ?_)
 intro AoQ coQ w17 oQ hg16
 replace hs := hs.grown hg16 (fun g hg => Q7l Bhs (Own.lt oP hg).1)
 replace bY := bY.grown hg16 (fun h => Own.neT oP bY (by decide) h.symm)
 replace X := X.grown hg16 X.size (fun g hg => (Own.lt oP hg).1)
 clear hg16
 refine aA rfl (aD rfl ?_)
 refine aB ?_
 refine dJ ?_
 refine aP ?_
 refine aM ?_
 refine aA rfl (aC rfl ?_)
 refine aA rfl (aZ rfl rfl (dR (by omega)) ?_)
 refine aA rfl (aD rfl ?_)
 refine aB ?_
 refine aP ⟨(j + 1, n2 + 1, AoQ, coQ), (.cons rfl (.cons rfl (.cons rfl (.cons rfl (.cons rfl (.cons rfl (.cons rfl (.cons rfl (.cons rfl (.cons rfl (.cons rfl (.cons rfl (.cons rfl (.cons rfl (.nil _))))))))))))))), ?_, ?_⟩
 · exact ⟨by omega, (by rw [hn2, nO (pN hjl)]; simp only [List.length_append, List.length_cons, List.length_nil]; try omega), (by omega), oQ.to (by rw [nO (pN hjl), ← List.append_assoc]; exact Eq.symm (by rw [List.flatMap_append]; rfl)), hs, bY, X⟩
 · first | omega | (dsimp only; omega)
 have hje : j = x.name.size := by omega
 refine aB ?_
 refine aL rfl ?_
 refine dC ?_
 refine dB ?_
 refine dB ?_
 refine eA ?_
 refine dJ ?_
 refine aP ?_
 refine aM ?_
 refine aA rfl (aC rfl ?_)
 refine aA rfl (aZ rfl rfl (dR (by omega)) ?_)
 refine aA rfl (aD rfl ?_)
 refine aB ?_
 refine aP ⟨(k + 1, n2, A2, c2), (.cons rfl (.cons rfl (.cons rfl (.cons rfl (.nil _))))), ?_, ?_⟩
 · exact ⟨by omega, (by rw [pO hx, List.length_append, hn2, List.length_append, hje, ← kL, List.take_length]), (by omega), oP.to (by rw [pO hx, hje, ← kL, List.take_length]), hs, X⟩
 · first | omega | (dsimp only; omega)
 refine aB ?_
 refine aR rfl ?_
 refine aM ?_
 refine aA rfl (aD rfl ?_)
 refine aB ?_
 refine aP ?_
 refine aE ?_
 refine aA rfl (aC rfl ?_)
 refine aA rfl (aF lD rfl rfl ?_)
 refine aA rfl (aI bY cY rfl rfl ?_)
 refine aA rfl (aF mP rfl rfl ?_)
 refine aA rfl (aI bY cY rfl rfl ?_)
 refine aA rfl (iE rfl rfl (by omega) (xW (by omega)) ?_)
 refine aA rfl (aF mP rfl rfl ?_)
 refine aA rfl (aI bY cY rfl rfl ?_)
 refine aA rfl (fN rfl rfl (by omega) (sV (by omega)) ?_)
 refine aA rfl (aC rfl ?_)
 refine aA rfl (aF gV rfl rfl ?_)
 refine aA rfl (aI bY yA rfl rfl ?_)
 refine aA rfl (lY Tryz.underlying9 rfl ?_)
 refine aA rfl (aN dA cY rfl rfl rfl rfl rfl ?_)
 intro g18 w20 eg18 oS bbg18 x19 zg18
 replace oS := Own.low oS X.size
 replace oO := oO.ext x19
 replace hs := hs.ext x19
 replace bY := bY.ext x19
 replace X := Q7x X x19
 refine aA rfl (cF (ts := #[]) oO X.size oS.sl (by first | rfl | simp) (by first | exact List.all_eq_true.1 rfl | simp [Value.oneCell']) dA cY rfl rfl rfl rfl (by omega) (by omega) ?_)
 intro AoM coM w22 oM hg21
 replace hs := hs.grown hg21 (fun g hg => Q7l Bhs (Own.lt oO hg).1)
 replace bY := bY.grown hg21 (fun h => Own.neT oO bY (by decide) h.symm)
 replace X := X.grown hg21 X.size (fun g hg => (Own.lt oO hg).1)
 clear hg21
 replace oM := oM.to (cs' := ((ntP xs k).flatMap eI ++ (nF x).flatMap eI)) (by simp only [nF, hpa]; rfl)
 refine aA rfl (aD rfl ?_)
 refine aB ?_
 refine aE ?_
 refine aA rfl (aD rfl ?_)
 refine aB ?_
 refine aW ?_
 refine dD (G := Nat × Nat × Option Addr × Nat) (fun ⟨j, n2, A2, c2⟩ => [(0, .slice A xs.length c), (2, .slice none 0 0), (4, .int .i64 (k : Nat)), (5, .pointer (some ⟨gX, 0, none⟩)), (6, .int .i64 1), (11, .int .i64 (k : Nat)), (12, .slice A xs.length c), (13, .int .i64 (xs.length : Nat)), (17, .slice A xs.length c), (18, .int .i64 (k : Nat)), (23, .slice A1 n1 c1), (32, .int .i64 1), (3, .slice A2 n2 c2), (7, .int .i64 (j : Nat))]) (fun ⟨j, n2, A2, c2⟩ wr => j ≤ x.name.size ∧ n2 = ((ntP xs k ++ nF x) ++ (nE x).take j).length ∧ n2 ≤ 1 + 11 * k + 5 + j ∧ Own wr w.heap.size 2 1 A2 n2 c2 (((ntP xs k ++ nF x) ++ (nE x).take j).flatMap eI) ∧ Sl B wr A (xs.flatMap NodeI.cells) ∧ Blk wr gX 59 x.cells ∧ Ext w wr) (fun ⟨j, n2, A2, c2⟩ => x.name.size - j) (0, n1 + 5, AoM, coM) (.cons rfl (.cons rfl (.cons rfl (.cons rfl (.cons rfl (.cons rfl (.cons rfl (.cons rfl (.cons rfl (.cons rfl (.cons rfl (.cons rfl (.cons rfl (.cons rfl (.nil _))))))))))))))) ?_ ?_
 · exact ⟨by omega, (by rw [List.take_zero, List.append_nil, List.length_append, ← hn]; rfl), (by omega), oM.to (by rw [List.take_zero, List.append_nil, List.flatMap_append]; try rfl), hs, bY, X⟩
 clear hs bY oM
 clear X
 rintro ⟨j, n2, A2, c2⟩ wr ⟨hj0, hn2, hn3, oP, hs, bY, X⟩
 refine aQ ?_
 refine aE ?_
 refine aA rfl (aC rfl ?_)
 refine aA rfl (aF gV rfl rfl ?_)
 refine aA rfl (aI bY yA rfl rfl ?_)
 refine aA rfl (lY Tryz.underlying9 rfl ?_)
 refine aA rfl (cH rfl rfl (fun hj => ?_) (fun hj => ?_))
 have hjl : j < x.name.size := by omega
 refine aB ?_
 refine aR rfl ?_
 refine aU ?_
 refine aP ?_
 refine aQ ?_
 refine aW ?_
 refine aM ?_
 refine aA rfl (aC rfl ?_)
 refine aA rfl (aF gV rfl rfl ?_)
 refine aA rfl (aI bY yA rfl rfl ?_)
 refine aA rfl (aC rfl ?_)
 refine aA rfl (kO Tryz.underlying9 rfl rfl (by omega) (by omega) ?_)
 refine aA rfl (jX Tryz.underlying5 Tryz.underlying2 rfl (dR (by have := (x.name.data.toList.getD ((j : Int)).toNat 0).toNat_lt; omega)) ?_)
 refine aA rfl (aN dA cY rfl rfl rfl rfl rfl ?_)
 intro g23 w25 eg23 oT bbg23 x24 zg23
 replace oT := Own.low oT X.size
 replace oP := oP.ext x24
 replace hs := hs.ext x24
 replace bY := bY.ext x24
 replace X := Q7x X x24
 refine aA rfl (cF (ts := #[]) oP X.size oT.sl (by first | rfl | simp) (by first | exact List.all_eq_true.1 rfl | simp [Value.oneCell']) dA cY rfl rfl rfl rfl (by omega) (by omega) ?_)
 intro AoQ coQ w27 oQ hg26
 replace hs := hs.grown hg26 (fun g hg => Q7l Bhs (Own.lt oP hg).1)
 replace bY := bY.grown hg26 (fun h => Own.neT oP bY (by decide) h.symm)
 replace X := X.grown hg26 X.size (fun g hg => (Own.lt oP hg).1)
 clear hg26
 refine aA rfl (aD rfl ?_)
 refine aB ?_
 refine dJ ?_
 refine aP ?_
 refine aM ?_
 refine aA rfl (aC rfl ?_)
 refine aA rfl (aZ rfl rfl (dR (by omega)) ?_)
 refine aA rfl (aD rfl ?_)
 refine aB ?_
 refine aP ⟨(j + 1, n2 + 1, AoQ, coQ), (.cons rfl (.cons rfl (.cons rfl (.cons rfl (.cons rfl (.cons rfl (.cons rfl (.cons rfl (.cons rfl (.cons rfl (.cons rfl (.cons rfl (.cons rfl (.cons rfl (.nil _))))))))))))))), ?_, ?_⟩
 · exact ⟨by omega, (by rw [hn2, nO (pN hjl)]; simp only [List.length_append, List.length_cons, List.length_nil]; try omega), (by omega), oQ.to (by rw [nO (pN hjl), ← List.append_assoc]; exact Eq.symm (by rw [List.flatMap_append]; rfl)), hs, bY, X⟩
 · first | omega | (dsimp only; omega)
 have hje : j = x.name.size := by omega
 refine aB ?_
 refine aL rfl ?_
 refine dC ?_
 refine dB ?_
 refine dB ?_
 refine eA ?_
 refine dJ ?_
 refine aP ?_
 refine aM ?_
 refine aA rfl (aC rfl ?_)
 refine aA rfl (aZ rfl rfl (dR (by omega)) ?_)
 refine aA rfl (aD rfl ?_)
 refine aB ?_
 refine aP ⟨(k + 1, n2, A2, c2), (.cons rfl (.cons rfl (.cons rfl (.cons rfl (.nil _))))), ?_, ?_⟩
 · exact ⟨by omega, (by rw [pO hx, List.length_append, hn2, List.length_append, hje, ← kL, List.take_length]), (by omega), oP.to (by rw [pO hx, hje, ← kL, List.take_length]), hs, X⟩
 · first | omega | (dsimp only; omega)
 refine aB ?_
 refine aL rfl ?_
 refine dC ?_
 refine dB ?_
 refine dB ?_
 refine eA ?_
 refine aP ?_
 refine aE ?_
 refine aA rfl (aC rfl ?_)
 refine aA rfl (aD rfl ?_)
 refine aB ?_
 refine aV ?_
 refine aK rfl rfl ?_
 · skip
   rw [show k = xs.length by omega] at oO hn
   unfold mW
   rw [← hn]
   exact ⟨_, _, rfl, oO, X⟩
theorem mJ (A : Option Addr) (B c : Nat) (xs : List NodeI) (w : World) (hs : Sl B w A (xs.flatMap NodeI.cells)) (hN : dV xs = true) :
   Calls Tryz.prog 148 #[.slice A xs.length c] w (fD fun v w' => ∃ A' c', v = .slice A' (mW xs).length c' ∧ Own w' w.heap.size 2 1 A' (mW xs).length c' ((mW xs).flatMap eI) ∧ Ext w w') := by
 have hnl := sJ hN
 have Bhs := hs.1
 have X := Q7r w
 refine bI (args := [.slice A xs.length c]) Tryz.func148 Tryz.ntmps148 rfl rfl ?_
 refine aE ?_
 refine aA rfl (aD rfl ?_)
 refine aB ?_
 refine aE ?_
 refine aA rfl (aC rfl ?_)
 refine aA rfl (cQ Tryz.underlying24 rfl ?_)
 refine aA rfl (aN dA cY rfl rfl rfl rfl rfl ?_)
 intro gO w2 egO oO bbgO x1 zgO
 replace oO := Own.low oO X.size
 replace hs := hs.ext x1
 replace X := Q7x X x1
 replace oO := oO.to (cs' := (ntP xs 0).flatMap eI) rfl
 refine aA rfl (aD rfl ?_)
 refine aB ?_
 refine aQ ?_
 refine aE ?_
 refine aA rfl (aC rfl ?_)
 refine aA rfl (cQ Tryz.underlying24 rfl ?_)
 refine aA rfl (aC rfl ?_)
 refine aB ?_
 refine aW ?_
 refine dD (G := Nat × Nat × Option Addr × Nat) (fun ⟨k, n1, A1, c1⟩ => [(2, .slice none 0 0), (10, .slice A xs.length c), (11, .int .i64 (xs.length : Nat)), (3, .slice A1 n1 c1), (12, .int .i64 (k : Nat))]) (fun ⟨k, n1, A1, c1⟩ wr => k ≤ xs.length ∧ n1 = (ntP xs k).length ∧ n1 ≤ 1 + 11 * k ∧ Own wr w.heap.size 2 1 A1 n1 c1 ((ntP xs k).flatMap eI) ∧ Sl B wr A (xs.flatMap NodeI.cells) ∧ Ext w wr) (fun ⟨k, n1, A1, c1⟩ => xs.length - k) (0, 1, some ⟨gO, 0, none⟩, 1) (.cons rfl (.cons rfl (.cons rfl (.cons rfl (.cons rfl (.nil _)))))) ?_ ?_
 · exact ⟨by omega, rfl, (Nat.le_refl _), oO, hs, X⟩
 clear hs oO
 clear X
 rintro ⟨k, n1, A1, c1⟩ wr ⟨hk0, hn, hn1, oO, hs, X⟩
 refine aE ?_
 refine aA rfl (cH rfl rfl (fun hk => ?_) (fun hk => ?_))
 obtain ⟨x, hx, dx⟩ := dM hk
 have hok := kX hN x (List.mem_of_getElem? hx)
 have hxi := mN hok
 have hxs := lL hok
 refine aB ?_
 refine aQ ?_
 refine aR rfl ?_
 refine aU ?_
 refine aP ?_
 refine aQ ?_
 refine aW ?_
 refine aE ?_
 refine aA rfl (aT hs NodeI.len rfl jT rfl rfl rfl hx rfl ?_)
 refine aA rfl (dY hs NodeI.len hx jF rfl ?_)
 refine aA rfl (dO jF ?_)
 intro gX w4 egX bX x3 zgX
 have lgX : w.heap.size ≤ gX := Q7l X.size (Q7e egX.symm)
 have pgXhs := Q7l hs.1 (Q7e egX.symm)
 replace oO := oO.ext x3
 replace hs := hs.ext x3
 replace X := Q7x X x3
 refine aA rfl (aX bX jF rfl rfl rfl rfl rfl rfl ?_)
 intro w6 bY hg5 z7
 replace oO := oO.grownBlk hg5 (Own.neT oO bX (by decide))
 replace hs := hs.grown hg5 (by intro g hg; injection hg; omega)
 replace X := X.grown hg5 X.size (by intro g hg; injection hg; omega)
 clear hg5 bX
 refine aB ?_
 refine eO [false, false, false, false, false, false, false, false, false, false, false, false, false, false, false, true] mixed (by kernel_rfl) ?_
 refine cE rfl (fun wq sq => aC rfl ⟨rfl, Q7r _⟩) ?_
 refine cE rfl (fun wq sq => aF lD rfl rfl ⟨rfl, Q7r _⟩) ?_
 refine cE rfl (fun wq sq => aI (bY.ext sq) cY rfl rfl ⟨rfl, Q7r _⟩) ?_
 refine cE rfl (fun wq sq => aF mP rfl rfl ⟨rfl, Q7r _⟩) ?_
 refine cE rfl (fun wq sq => aI (bY.ext sq) cY rfl rfl ⟨rfl, Q7r _⟩) ?_
 refine cE rfl (fun wq sq => iE rfl rfl (by omega) (xW (by omega)) ⟨rfl, Q7r _⟩) ?_
 refine cE rfl (fun wq sq => aF mP rfl rfl ⟨rfl, Q7r _⟩) ?_
 refine cE rfl (fun wq sq => aI (bY.ext sq) cY rfl rfl ⟨rfl, Q7r _⟩) ?_
 refine cE rfl (fun wq sq => fN rfl rfl (by omega) (sV (by omega)) ⟨rfl, Q7r _⟩) ?_
 refine cE rfl (fun wq sq => aF sY rfl rfl ⟨rfl, Q7r _⟩) ?_
 refine cE rfl (fun wq sq => aI (bY.ext sq) uX rfl rfl ⟨rfl, Q7r _⟩) ?_
 refine cE rfl (fun wq sq => aS aGG rfl (aD4 _ _)) ?_
 refine cE rfl (fun wq sq => aF gV rfl rfl ⟨rfl, Q7r _⟩) ?_
 refine cE rfl (fun wq sq => aI (bY.ext sq) yA rfl rfl ⟨rfl, Q7r _⟩) ?_
 refine cE rfl (fun wq sq => lY Tryz.underlying9 rfl ⟨rfl, Q7r _⟩) ?_
 refine aBe (fun gS : Nat => Value.slice (some ⟨gS, 0, none⟩) 5 5) (fun gS wz => Own wz w.heap.size 2 1 (some ⟨gS, 0, none⟩) 5 5 ((nF x).flatMap eI)) 0 rfl ⟨lT, fun _ _ _ h k => h.ext k, fun wq sq => aN dA cY rfl rfl rfl rfl rfl (fun g w' hg ho hb hx hz => ⟨g, rfl, Own.low ho (Q7l X.size (sq).size), hx⟩)⟩ ?_
 intro gS
 refine dW (fun w9 sq => ?_)
 have xq := sq.1
 have oS := sq.2
 replace oO := oO.ext xq
 replace hs := hs.ext xq
 replace bY := bY.ext xq
 replace X := Q7x X xq; clear xq sq
 refine aA rfl (cF (ts := #[]) oO X.size oS.sl (by first | rfl | simp) (by first | exact List.all_eq_true.1 rfl | simp [Value.oneCell']) dA cY rfl rfl rfl rfl (by omega) (by omega) ?_)
 intro AoM coM w11 oM hg10
 replace hs := hs.grown hg10 (fun g hg => Q7l Bhs (Own.lt oO hg).1)
 replace bY := bY.grown hg10 (fun h => Own.neT oO bY (by decide) h.symm)
 replace X := X.grown hg10 X.size (fun g hg => (Own.lt oO hg).1)
 clear hg10
 refine aA rfl (aD rfl ?_)
 refine aB ?_
 refine aE ?_
 refine aA rfl (aF gV rfl rfl ?_)
 refine aA rfl (aI bY yA rfl rfl ?_)
 refine aA rfl (lY Tryz.underlying9 rfl ?_)
 refine aA rfl (aC rfl ?_)
 refine aB ?_
 refine aW ?_
 refine dD (G := Nat × Nat × Option Addr × Nat) (fun ⟨j, n2, A2, c2⟩ => [(2, .slice none 0 0), (5, .pointer (some ⟨gX, 0, none⟩)), (10, .slice A xs.length c), (11, .int .i64 (xs.length : Nat)), (12, .int .i64 (k : Nat)), (16, .slice A1 n1 c1), (35, .int .i64 (x.name.size : Nat)), (3, .slice A2 n2 c2), (36, .int .i64 (j : Nat))]) (fun ⟨j, n2, A2, c2⟩ wr => j ≤ x.name.size ∧ n2 = ((ntP xs k ++ nF x) ++ (nE x).take j).length ∧ n2 ≤ 1 + 11 * k + 5 + j ∧ Own wr w.heap.size 2 1 A2 n2 c2 (((ntP xs k ++ nF x) ++ (nE x).take j).flatMap eI) ∧ Sl B wr A (xs.flatMap NodeI.cells) ∧ Blk wr gX 59 x.cells ∧ Ext w wr) (fun ⟨j, n2, A2, c2⟩ => x.name.size - j) (0, n1 + 5, AoM, coM) (.cons rfl (.cons rfl (.cons rfl (.cons rfl (.cons rfl (.cons rfl (.cons rfl (.cons rfl (.cons rfl (.nil _)))))))))) ?_ ?_
 · exact ⟨by omega, (by rw [List.take_zero, List.append_nil, List.length_append, ← hn]; rfl), (by omega), oM.to (by rw [List.take_zero, List.append_nil, List.flatMap_append]; try rfl), hs, bY, X⟩
 clear hs bY oM
 clear X
 rintro ⟨j, n2, A2, c2⟩ wr ⟨hj0, hn2, hn3, oP, hs, bY, X⟩
 refine aE ?_
 refine aA rfl (cH rfl rfl (fun hj => ?_) (fun hj => ?_))
 have hjl : j < x.name.size := by omega
 refine aB ?_
 refine aQ ?_
 refine aR rfl ?_
 refine aU ?_
 refine aP ?_
 refine aQ ?_
 refine aW ?_
 refine aE ?_
 refine aA rfl (aC rfl ?_)
 refine aA rfl (aD rfl ?_)
 refine aB ?_
 refine aM ?_
 refine aA rfl (aC rfl ?_)
 refine aA rfl (aF gV rfl rfl ?_)
 refine aA rfl (aI bY yA rfl rfl ?_)
 refine aA rfl (aC rfl ?_)
 refine aA rfl (kO Tryz.underlying9 rfl rfl (by omega) (by omega) ?_)
 refine aA rfl (jX Tryz.underlying5 Tryz.underlying2 rfl (dR (by have := (x.name.data.toList.getD ((j : Int)).toNat 0).toNat_lt; omega)) ?_)
 refine aA rfl (aN dA cY rfl rfl rfl rfl rfl ?_)
 intro g12 w14 eg12 oT bbg12 x13 zg12
 replace oT := Own.low oT X.size
 replace oP := oP.ext x13
 replace hs := hs.ext x13
 replace bY := bY.ext x13
 replace X := Q7x X x13
 refine aA rfl (cF (ts := #[]) oP X.size oT.sl (by first | rfl | simp) (by first | exact List.all_eq_true.1 rfl | simp [Value.oneCell']) dA cY rfl rfl rfl rfl (by omega) (by omega) ?_)
 intro AoQ coQ w16 oQ hg15
 replace hs := hs.grown hg15 (fun g hg => Q7l Bhs (Own.lt oP hg).1)
 replace bY := bY.grown hg15 (fun h => Own.neT oP bY (by decide) h.symm)
 replace X := X.grown hg15 X.size (fun g hg => (Own.lt oP hg).1)
 clear hg15
 refine aA rfl (aD rfl ?_)
 refine aB ?_
 refine dJ ?_
 refine aP ?_
 refine aM ?_
 refine aA rfl (aZ rfl rfl (dR (by omega)) ?_)
 refine aA rfl (aC rfl ?_)
 refine aB ?_
 refine aP ⟨(j + 1, n2 + 1, AoQ, coQ), (.cons rfl (.cons rfl (.cons rfl (.cons rfl (.cons rfl (.cons rfl (.cons rfl (.cons rfl (.cons rfl (.nil _)))))))))), ?_, ?_⟩
 · exact ⟨by omega, (by rw [hn2, nO (pN hjl)]; simp only [List.length_append, List.length_cons, List.length_nil]; try omega), (by omega), oQ.to (by rw [nO (pN hjl), ← List.append_assoc]; exact Eq.symm (by rw [List.flatMap_append]; rfl)), hs, bY, X⟩
 · first | omega | (dsimp only; omega)
 have hje : j = x.name.size := by omega
 refine aB ?_
 refine aQ ?_
 refine aL rfl ?_
 refine dC ?_
 refine dB ?_
 refine dB ?_
 refine eA ?_
 refine dJ ?_
 refine aP ?_
 refine aM ?_
 refine aA rfl (aZ rfl rfl (dR (by omega)) ?_)
 refine aA rfl (aC rfl ?_)
 refine aB ?_
 refine aP ⟨(k + 1, n2, A2, c2), (.cons rfl (.cons rfl (.cons rfl (.cons rfl (.cons rfl (.nil _)))))), ?_, ?_⟩
 · exact ⟨by omega, (by rw [pO hx, List.length_append, hn2, List.length_append, hje, ← kL, List.take_length]), (by omega), oP.to (by rw [pO hx, hje, ← kL, List.take_length]), hs, X⟩
 · first | omega | (dsimp only; omega)
 refine aB ?_
 refine aQ ?_
 refine aL rfl ?_
 refine dC ?_
 refine dB ?_
 refine dB ?_
 refine eA ?_
 refine aP ?_
 refine aE ?_
 refine aA rfl (aC rfl ?_)
 refine aA rfl (aD rfl ?_)
 refine aB ?_
 refine aV ?_
 refine aK rfl rfl ?_
 · skip
   rw [show k = xs.length by omega] at oO hn
   unfold mW
   rw [← hn]
   exact ⟨_, _, rfl, oO, X⟩
theorem aCm (A : Option Addr) (B c : Nat) (xs : List Int) (gC a : Nat) (A2 : Option Addr) (B2 c2 : Nat) (ys : List Int) (w : World) (q : Blk w gC 166 (uT A c xs a false)) (hs : Sl B w A (xs.flatMap eI)) (h2 : Sl B2 w A2 (ys.flatMap eI)) (hl : xs.length ≤ 1048576) (ha : a ≤ xs.length) (hcap : xs.length ≤ c) :
   Calls Tryz.prog 162 #[.pointer (some ⟨gC, 0, none⟩), .slice A2 ys.length c2] w (fD fun v w' => v = .bool (decide (xs.take a = ys)) ∧ Ext w w') := by
 have Bhs := hs.1
 have Bh2 := h2.1
 have X := Q7r w
 refine bI (args := [.pointer (some ⟨gC, 0, none⟩), .slice A2 ys.length c2]) Tryz.func162 Tryz.ntmps162 rfl rfl ?_
 refine aE ?_
 refine aA rfl (aD rfl ?_)
 refine aB ?_
 refine eO [false, false, false, false, false, false, false, false, false, false, false, false, false, false, false, false, false, false, false] mixed (by kernel_rfl) ?_
 refine cE rfl (fun wq sq => aC rfl ⟨rfl, Q7r _⟩) ?_
 refine cE rfl (fun wq sq => dF rfl ⟨rfl, Q7r _⟩) ?_
 refine cE rfl (fun wq sq => aF iT rfl rfl ⟨rfl, Q7r _⟩) ?_
 refine cE rfl (fun wq sq => aI (q.ext sq) uX rfl rfl ⟨rfl, Q7r _⟩) ?_
 refine cE rfl (fun wq sq => cD rfl ⟨rfl, Q7r _⟩) ?_
 refine cE rfl (fun wq sq => aC rfl ⟨rfl, Q7r _⟩) ?_
 refine dT rfl rfl rfl (fun wq sq => aC rfl ⟨rfl, Q7r _⟩) ?_
 refine dT rfl rfl rfl (fun wq sq => dF rfl ⟨rfl, Q7r _⟩) ?_
 refine dT rfl rfl rfl (fun wq sq => aF zR rfl rfl ⟨rfl, Q7r _⟩) ?_
 refine dT rfl rfl rfl (fun wq sq => aI (q.ext sq) kQ rfl rfl ⟨rfl, Q7r _⟩) ?_
 refine dT rfl rfl rfl (fun wq sq => aC rfl ⟨rfl, Q7r _⟩) ?_
 refine dT rfl rfl rfl (fun wq sq => dF rfl ⟨rfl, Q7r _⟩) ?_
 refine dT rfl rfl rfl (fun wq sq => aF jU rfl rfl ⟨rfl, Q7r _⟩) ?_
 refine dT rfl rfl rfl (fun wq sq => aI (q.ext sq) ti3 rfl rfl ⟨rfl, Q7r _⟩) ?_
 refine dT rfl rfl rfl (fun wq sq => pC (h := a) dA rfl rfl rfl (by omega) ⟨rfl, Q7r _⟩) ?_
 refine dT rfl rfl rfl (fun wq sq => aC rfl ⟨rfl, Q7r _⟩) ?_
 refine dT rfl rfl rfl (fun wq sq => aS aDN rfl (aCh _ _ _ a (xs.take a) _ _ _ _ ys _ ((hs.ext sq).takeI _) (h2.ext sq) (by rw [List.length_take]; omega) (by rw [List.length_take]; omega) rfl)) ?_
 refine cE rfl (fun wq sq => aJ rfl rfl ⟨rfl, Q7r _⟩) ?_
 refine cE rfl (fun wq sq => aD rfl ⟨rfl, Q7r _⟩) ?_
 refine dW (fun w1 sq => ?_)
 have xq := sq
 replace q := q.ext xq
 replace hs := hs.ext xq
 replace h2 := h2.ext xq
 replace X := Q7x X xq; clear xq sq
 refine aB ?_
 refine aV ?_
 refine aK rfl rfl ?_
 exact ⟨by rfl, X⟩
theorem aCn (A : Option Addr) (B c : Nat) (xs : List Int) (w : World) (hs : Sl B w A (xs.flatMap eI)) (hl : xs.length ≤ 1048576) (hB : rL xs = true) (hcap : xs.length ≤ c) :
   Calls Tryz.prog 76 #[.slice A xs.length c] w (fD fun v w' => ∃ A' c' ys sz ok, v = .tuple #[.slice A' (List.length ys) c', .int .i64 sz, .bool ok] ∧ RdN (lW xs) ys sz ok ∧ Own w' w.heap.size 59 4 A' ys.length c' (ys.flatMap NodeI.cells) ∧ Ext w w') := by
 have Bhs := hs.1
 have X := Q7r w
 refine bI (args := [.slice A xs.length c]) Tryz.func76 Tryz.ntmps76 rfl rfl ?_
 refine aE ?_
 refine aA rfl (aD rfl ?_)
 refine aA rfl (aD rfl ?_)
 refine aA rfl (aD rfl ?_)
 refine aB ?_
 refine aE ?_
 refine aA rfl (aC rfl ?_)
 refine aA rfl (cO aGp aGo rfl rfl ?_)
 refine aA rfl (eE rfl rfl ?_)
 intro gC w2 egC q x1 zgC
 have lgC : w.heap.size ≤ gC := Q7l X.size (Q7e egC.symm)
 have pgChs := Q7l hs.1 (Q7e egC.symm)
 replace hs := hs.ext x1
 replace X := Q7x X x1
 have q : Blk _ gC 166 (uT A c xs 0 false) := q
 refine aA rfl (aN jT jF rfl rfl rfl rfl rfl ?_)
 intro gO w4 egO oT bbgO x3 zgO
 replace oT := Own.low oT X.size
 replace hs := hs.ext x3
 replace q := q.ext x3
 replace X := Q7x X x3
 refine aA rfl (aD rfl ?_)
 refine aA rfl (aD rfl ?_)
 refine aB ?_
 refine aQ ?_
 refine aE ?_
 refine aA rfl (aC rfl ?_)
 refine aA rfl (aS mB rfl (aO (lX A B c xs gC 0 false _ q hs hl (Nat.zero_le _) (by omega)) ?_))
 rintro _ w6 ⟨rfl, q1, x5⟩
 replace hs := hs.grown x5 (by intro g hg; injection hg; omega)
 replace oT := oT.grownBlk x5 (Own.neT oT q (by decide))
 replace X := X.grown x5 X.size (by intro g hg; injection hg; omega)
 clear x5 q
 refine aA rfl (aD rfl ?_)
 refine aB ?_
 refine aW ?_
 refine dD (G := Nat × Nat × Bool × List NodeI × Nat × Option Addr × Nat × Int) (fun ⟨rem, a, b, ys, n1, A1, c1, tm⟩ => [(2, .slice none 0 0), (3, .int .i64 0), (4, .bool false), (5, .pointer (some ⟨gC, 0, none⟩)), (7, .int .i64 tm), (6, .slice A1 n1 c1)]) (fun ⟨rem, a, b, ys, n1, A1, c1, tm⟩ wr => a ≤ xs.length ∧ n1 = ys.length ∧ tm = (rem : Int) ∧ n1 + rem ≤ 255 ∧ HgN xs rem a b ys ∧ (∀ y ∈ ys, y.name.size ≤ 1020) ∧ Blk wr gC 166 (uT A c xs a b) ∧ Own wr w.heap.size 59 4 A1 n1 c1 (ys.flatMap NodeI.cells) ∧ Sl B wr A (xs.flatMap eI) ∧ Ext w wr) (fun ⟨rem, a, b, ys, n1, A1, c1, tm⟩ => rem) ((nV xs 0).toNat, gU xs 0, eU xs 0 false, [], 0, some ⟨gO, 0, none⟩, 0, nV xs 0) (.cons rfl (.cons rfl (.cons rfl (.cons rfl (.cons rfl (.cons rfl (.nil _))))))) ?_ ?_
 · exact ⟨(fG (Nat.zero_le _)), rfl, (by have := nU hB 0; omega), (by have := nU hB 0; show 0 + _ ≤ _; omega), (HgN.start xs), (fun y hy => by simp at hy), q1, oT, hs, X⟩
 clear hs oT q1
 clear X
 rintro ⟨rem, a, b, ys, n1, A1, c1, tm⟩ wr ⟨ha1, hn, htm, hrm, hg, hnm, q, oT, hs, X⟩
 refine aQ ?_
 refine aE ?_
 refine aA rfl (aC rfl ?_)
 refine aA rfl (fX rfl rfl (fun h7 => ?_) (fun h7 => ?_))
 refine aA rfl (aC rfl ?_)
 refine aH rfl rfl rfl (aC rfl ?_)
 refine aH rfl rfl rfl (dF rfl ?_)
 refine aH rfl rfl rfl (aF iT rfl rfl ?_)
 refine aH rfl rfl rfl (aI q uX rfl rfl ?_)
 refine aH rfl rfl rfl (cD rfl ?_)
 refine aA rfl (aJ rfl rfl ?_)
 refine aB ?_
 refine lB rfl (fun h8 => ?_) (fun h8 => ?_)
 refine aU ?_
 refine aP ?_
 refine aQ ?_
 refine aW ?_
 refine aE ?_
 refine aA rfl (aC rfl ?_)
 have hb0 : b = false := by simpa using ‹(!b) = true›
 subst hb0
 have hv0 := nU hB (gU xs (gU xs (gU xs (gU xs a))))
 have hv1 := nU hB (gU xs a)
 have hv2 := nU hB (gU xs (gU xs a))
 have hv3 := nU hB (gU xs (gU xs (gU xs a)))
 refine aA rfl (aS mB rfl (aO (lX A B c xs gC a false _ q hs hl ha1 (by omega)) ?_))
 rintro _ w10 ⟨rfl, q2, x9⟩
 replace oT := oT.grownBlk x9 (Own.neT oT q (by decide))
 replace hs := hs.grown x9 (by intro g hg; injection hg; omega)
 replace X := X.grown x9 X.size (by intro g hg; injection hg; omega)
 clear x9 q
 refine aA rfl (cO aDI jF rfl rfl ?_)
 have UT := fun g hg => (Own.lt oT (g := g) hg).2
 refine aA rfl (dO jF ?_)
 intro gX w12 egX bX x11 zgX
 have lgX : w.heap.size ≤ gX := Q7l X.size (Q7e egX.symm)
 have pgXhs := Q7l hs.1 (Q7e egX.symm)
 have ngXq2 := Nat.lt_of_lt_of_eq q2.lt egX.symm
 replace oT := oT.ext x11
 replace hs := hs.ext x11
 replace q2 := q2.ext x11
 replace X := Q7x X x11
 refine aA rfl (aX bX jF rfl rfl rfl rfl rfl rfl ?_)
 intro w14 bY hg13 z15
 replace oT := oT.grownBlk hg13 (fun h => by have := UT _ h; omega)
 replace hs := hs.grown hg13 (by intro g hg; injection hg; omega)
 replace q2 := q2.grown hg13 (by intro h; injection h; omega)
 replace X := X.grown hg13 X.size (by intro g hg; injection hg; omega)
 clear hg13 bX
 refine aB ?_
 refine aE ?_
 refine aA rfl (aC rfl ?_)
 refine aA rfl (aS mB rfl (aO (lX A B c xs gC _ _ _ q2 hs hl (fG ha1) (by omega)) ?_))
 rintro _ w17 ⟨rfl, q3, x16⟩
 replace oT := oT.grownBlk x16 (Own.neT oT q2 (by decide))
 replace hs := hs.grown x16 (by intro g hg; injection hg; omega)
 replace bY := bY.grown x16 (by intro h; injection h; omega)
 replace X := X.grown x16 X.size (by intro g hg; injection hg; omega)
 clear x16 q2
 refine aA rfl (iN rfl rfl (dR (by omega)) ?_)
 refine aA rfl (aC rfl ?_)
 refine aA rfl (aS mB rfl (aO (lX A B c xs gC _ _ _ q3 hs hl (fG (fG ha1)) (by omega)) ?_))
 rintro _ w19 ⟨rfl, q4, x18⟩
 replace oT := oT.grownBlk x18 (Own.neT oT q3 (by decide))
 replace hs := hs.grown x18 (by intro g hg; injection hg; omega)
 replace bY := bY.grown x18 (by intro h; injection h; omega)
 replace X := X.grown x18 X.size (by intro g hg; injection hg; omega)
 clear x18 q3
 refine aA rfl (aZ rfl rfl (dR (by omega)) ?_)
 refine aA rfl (aF mP rfl rfl ?_)
 refine aA rfl (aX bY cY rfl rfl rfl rfl rfl rfl ?_)
 intro w21 bZ hg20 z22
 replace oT := oT.grownBlk hg20 (fun h => by have := UT _ h; omega)
 replace hs := hs.grown hg20 (by intro g hg; injection hg; omega)
 replace q4 := q4.grown hg20 (by intro h; injection h; omega)
 replace X := X.grown hg20 X.size (by intro g hg; injection hg; omega)
 clear hg20 bY
 refine aB ?_
 refine aE ?_
 refine aA rfl (aC rfl ?_)
 refine aA rfl (aS mB rfl (aO (lX A B c xs gC _ _ _ q4 hs hl (fG (fG (fG ha1))) (by omega)) ?_))
 rintro _ w24 ⟨rfl, q5, x23⟩
 replace oT := oT.grownBlk x23 (Own.neT oT q4 (by decide))
 replace hs := hs.grown x23 (by intro g hg; injection hg; omega)
 replace bZ := bZ.grown x23 (by intro h; injection h; omega)
 replace X := X.grown x23 X.size (by intro g hg; injection hg; omega)
 clear x23 q4
 refine aA rfl (iD rfl rfl ?_)
 refine aA rfl (aF sY rfl rfl ?_)
 refine aA rfl (aX bZ uX rfl rfl rfl rfl rfl rfl ?_)
 intro w26 bW hg25 z27
 replace oT := oT.grownBlk hg25 (fun h => by have := UT _ h; omega)
 replace hs := hs.grown hg25 (by intro g hg; injection hg; omega)
 replace q5 := q5.grown hg25 (by intro h; injection h; omega)
 replace X := X.grown hg25 X.size (by intro g hg; injection hg; omega)
 clear hg25 bZ
 replace bW : Blk _ gX 59 (NodeI.cells ⟨nV xs a, tL ((mG xs a).1.take 0), 256 * (nV xs (gU xs a)) + (nV xs (gU xs (gU xs a))), decide ((nV xs (gU xs (gU xs (gU xs a)))) = 1)⟩) := bW
 refine aB ?_
 refine aQ ?_
 refine aE ?_
 refine aA rfl (aC rfl ?_)
 refine aA rfl (aC rfl ?_)
 refine aA rfl (aS mB rfl (aO (lX A B c xs gC _ _ _ q5 hs hl (fG (fG (fG (fG ha1)))) (by omega)) ?_))
 rintro _ w29 ⟨rfl, q5b, x28⟩
 replace oT := oT.grownBlk x28 (Own.neT oT q5 (by decide))
 replace hs := hs.grown x28 (by intro g hg; injection hg; omega)
 replace bW := bW.grown x28 (by intro h; injection h; omega)
 replace X := X.grown x28 X.size (by intro g hg; injection hg; omega)
 clear x28 q5
 have LP := X.size
 refine aA rfl (aS aDL rfl (aO (aDp A B c xs gC _ _ _ _ q5b hs hl (fG (fG (fG (fG (fG ha1))))) (by omega) ⟨hv0.1, by have := hv0.2; omega⟩) ?_))
 rintro _ w31 ⟨AP, cP, rfl, oP, q6, x30⟩
 replace oT := oT.grownBlk x30 (Own.neT oT q5b (by decide))
 replace hs := hs.grown x30 (by intro g hg; injection hg; omega)
 replace bW := bW.grown x30 (by intro h; injection h; omega)
 replace X := X.grown x30 X.size (by intro g hg; injection hg; omega)
 clear x30 q5b
 replace oP := Own.low oP LP
 have hel := aFW hB a
 refine aA rfl (cQ Tryz.underlying30 rfl ?_)
 refine aA rfl (aC rfl ?_)
 refine aB ?_
 refine aW ?_
 refine dD (G := Nat) (fun k => [(2, .slice none 0 0), (3, .int .i64 0), (4, .bool false), (5, .pointer (some ⟨gC, 0, none⟩)), (6, .slice A1 n1 c1), (7, .int .i64 tm), (8, .pointer (some ⟨gX, 0, none⟩)), (17, .int .i64 tm), (20, .pointer (some ⟨gC, 0, none⟩)), (28, .pointer (some ⟨gC, 0, none⟩)), (31, .pointer (some ⟨gC, 0, none⟩)), (34, .pointer (some ⟨gC, 0, none⟩)), (38, .pointer (some ⟨gC, 0, none⟩)), (42, .pointer (some ⟨gC, 0, none⟩)), (43, .pointer (some ⟨gC, 0, none⟩)), (45, .slice AP (mG xs a).1.length cP), (46, .int .i64 ((mG xs a).1.length : Nat)), (47, .int .i64 (k : Nat))]) (fun k wr => k ≤ (mG xs a).1.length ∧ Blk wr gX 59 (NodeI.cells ⟨nV xs a, tL ((mG xs a).1.take k), 256 * (nV xs (gU xs a)) + (nV xs (gU xs (gU xs a))), decide ((nV xs (gU xs (gU xs (gU xs a)))) = 1)⟩) ∧ Own wr w.heap.size 59 4 A1 n1 c1 (ys.flatMap NodeI.cells) ∧ Sl B wr A (xs.flatMap eI) ∧ Blk wr gC 166 (uT A c xs (mG xs a).2.1 (mG xs a).2.2) ∧ Own wr w.heap.size 2 1 AP (mG xs a).1.length cP ((mG xs a).1.flatMap eI) ∧ Ext w wr) (fun k => (mG xs a).1.length - k) 0 (.cons rfl (.cons rfl (.cons rfl (.cons rfl (.cons rfl (.cons rfl (.cons rfl (.cons rfl (.cons rfl (.cons rfl (.cons rfl (.cons rfl (.cons rfl (.cons rfl (.cons rfl (.cons rfl (.cons rfl (.cons rfl (.nil _))))))))))))))))))) ?_ ?_
 · exact ⟨by omega, bW, oT, hs, q6, oP, X⟩
 clear oT hs bW q6 oP
 clear X
 rintro k wr ⟨hk0, bW, oT, hs, q6, oP, X⟩
 refine aE ?_
 refine aA rfl (cH rfl rfl (fun hk => ?_) (fun hk => ?_))
 obtain ⟨z, hz, _⟩ := jZ (xs := (mG xs a).1) (k := k) (by omega)
 have hzb := aIs hB hz
 have hpz := vQ ((mG xs a).1.take k)
 rw [List.length_take] at hpz
 have hez := aCi z
 refine aB ?_
 refine aQ ?_
 refine aR rfl ?_
 refine aU ?_
 refine aP ?_
 refine aQ ?_
 refine aW ?_
 refine aE ?_
 refine aA rfl (aT (oP).sl bL rfl dA rfl rfl rfl hz rfl ?_)
 refine aA rfl (cX (oP).sl bL hz cY rfl rfl rfl ?_)
 refine aA rfl (aD rfl ?_)
 refine aB ?_
 refine aM ?_
 refine aA rfl (aF gV rfl rfl ?_)
 refine aA rfl (aI bW yA rfl rfl ?_)
 refine aA rfl (aC rfl ?_)
 refine aA rfl (jX Tryz.underlying2 Tryz.underlying21 rfl (aKK (by omega)) ?_)
 refine aA rfl (aEV Tryz.underlying21 Tryz.underlying9 rfl ?_)
 refine aA rfl (xU rfl rfl (Q7l (Nat.add_le_add (show (tL ((mG xs a).1.take k)).size ≤ 1020 by omega) hez) (by decide)) ?_)
 refine aA rfl (aF gV rfl rfl ?_)
 refine aA rfl (aX bW yA rfl rfl rfl rfl rfl rfl ?_)
 intro w33 bV hg32 z34
 replace oT := oT.grownBlk hg32 (fun h => by have := UT _ h; omega)
 replace hs := hs.grown hg32 (by intro g hg; injection hg; omega)
 replace q6 := q6.grown hg32 (by intro h; injection h; omega)
 replace oP := oP.grownBlk hg32 (Own.neT oP bW (by decide))
 replace X := X.grown hg32 X.size (by intro g hg; injection hg; omega)
 clear hg32 bW
 refine aB ?_
 refine dJ ?_
 refine aP ?_
 refine aM ?_
 refine aA rfl (aZ rfl rfl (dR (by omega)) ?_)
 refine aA rfl (aC rfl ?_)
 refine aB ?_
 refine aP ⟨k + 1, (.cons rfl (.cons rfl (.cons rfl (.cons rfl (.cons rfl (.cons rfl (.cons rfl (.cons rfl (.cons rfl (.cons rfl (.cons rfl (.cons rfl (.cons rfl (.cons rfl (.cons rfl (.cons rfl (.cons rfl (.cons rfl (.nil _))))))))))))))))))), ?_, ?_⟩
 · exact ⟨by omega, (by rw [aEQ hz]; exact bV), oT, hs, q6, oP, X⟩
 · first | omega | (dsimp only; omega)
 refine aB ?_
 refine aQ ?_
 refine aL rfl ?_
 refine dC ?_
 refine dB ?_
 refine dB ?_
 refine eA ?_
 refine aP ?_
 refine aM ?_
 have hkL : k = (mG xs a).1.length := by omega
 rw [hkL, List.take_length] at bW
 refine aA rfl (aC rfl ?_)
 refine aA rfl (bO bW jF rfl rfl ?_)
 refine aA rfl (aN jT jF rfl rfl rfl rfl rfl ?_)
 intro g35 w37 eg35 oV bbg35 x36 zg35
 replace oV := Own.low oV X.size
 replace bW := bW.ext x36
 replace oT := oT.ext x36
 replace hs := hs.ext x36
 replace q6 := q6.ext x36
 replace oP := oP.ext x36
 replace X := Q7x X x36
 refine aA rfl (cF (ts := #[]) oT X.size oV.sl (by first | rfl | simp) (by first | exact List.all_eq_true.1 rfl | simp [Value.oneCell']) jT jF rfl rfl rfl rfl (by omega) (by omega) ?_)
 intro AoU coU w39 oU hg38
 replace bW := bW.grown hg38 (fun h => by have := UT _ h.symm; omega)
 replace hs := hs.grown hg38 (fun g hg => Q7l Bhs (Own.lt oT hg).1)
 replace q6 := q6.grown hg38 (fun h => Own.neT oT q6 (by decide) h.symm)
 replace oP := oP.grown hg38 (Own.neO oP oT (by decide))
 replace X := X.grown hg38 X.size (fun g hg => (Own.lt oT hg).1)
 clear hg38
 refine aA rfl (aD rfl ?_)
 refine aB ?_
 refine dJ ?_
 refine aP ?_
 refine aM ?_
 refine aA rfl (aC rfl ?_)
 refine aA rfl (fZ rfl rfl (dR (by omega)) ?_)
 refine aA rfl (aD rfl ?_)
 refine aB ?_
 refine aP ⟨(rem - 1, (mG xs a).2.1, (mG xs a).2.2, ys ++ [wP xs a], n1 + 1, AoU, coU, tm - 1), (.cons rfl (.cons rfl (.cons rfl (.cons rfl (.cons rfl (.cons rfl (.nil _))))))), ?_, ?_⟩
 · skip
   exact ⟨(aHy ha1), (by simp [hn]), (by omega), (by omega), (hg.step hB (by omega) ha1), (by
     intro y hy
     rcases List.mem_append.1 hy with h | h
     · exact hnm y h
     · obtain rfl : y = wP xs a := by simpa using h
       have h3 := vQ (mG xs a).1
       show (tL (mG xs a).1).size ≤ 1020
       omega), q6, oU.to (kG NodeI.cells ys (wP xs a)).symm, hs, X⟩
 · first | omega | (dsimp only; omega)
 refine dC ?_
 refine dB ?_
 refine dB ?_
 refine eA ?_
 refine aP ?_
 refine aQ ?_
 refine aE ?_
 subst hn
 refine aA rfl (aC rfl ?_)
 refine aA rfl (dF rfl ?_)
 refine aA rfl (aF iT rfl rfl ?_)
 refine aA rfl (aI q uX rfl rfl ?_)
 cases hb1 : b
 refine aA rfl (aC rfl ?_)
 refine aH rfl rfl rfl (aC rfl ?_)
 refine aH rfl rfl rfl (cW aDJ rfl (aBp _ _ _ ys oT.cap _ oT.sl (by omega) (fun x hx => by have := hnm x hx; omega)) (fun w41 hIT x40 => ?_) (fun w41 hIT x40 => ?_))
 replace q := q.ext x40
 replace oT := oT.ext x40
 replace hs := hs.ext x40
 replace X := Q7x X x40
 refine aH rfl rfl rfl (cD rfl ?_)
 refine aA rfl (aJ rfl rfl ?_)
 refine aA rfl (aC rfl ?_)
 refine aH rfl rfl rfl (aC rfl ?_)
 refine aH rfl rfl rfl (aC rfl ?_)
 refine aH rfl rfl rfl (aS aDK rfl (aO (mJ _ _ _ ys _ oT.sl hIT) ?_))
 rintro _ w43 ⟨A44, c45, rfl, oB, x42⟩
 replace oB := Own.low oB X.size
 replace q := q.ext x42
 replace oT := oT.ext x42
 replace hs := hs.ext x42
 replace X := Q7x X x42
 refine aH rfl rfl rfl (cW aGA rfl (aCm A B c xs gC a _ _ _ (mW ys) _ (by have h := q; rw [hb1] at h; exact h) hs oB.sl hl ha1 hcap) (fun w47 hBg x46 => ?_) (fun w47 hBg x46 => ?_))
 replace q := q.ext x46
 replace oT := oT.ext x46
 replace hs := hs.ext x46
 replace oB := oB.ext x46
 replace X := Q7x X x46
 refine aH rfl rfl rfl (cD rfl ?_)
 refine aA rfl (aJ rfl rfl ?_)
 refine aB ?_
 refine aL rfl ?_
 refine aU ?_
 refine aP ?_
 refine eO [false, false, false, false, false, false, false, false] mixed (by kernel_rfl) ?_
 refine cE rfl (fun wq sq => aC rfl ⟨rfl, Q7r _⟩) ?_
 refine cE rfl (fun wq sq => aC rfl ⟨rfl, Q7r _⟩) ?_
 refine cE rfl (fun wq sq => dF rfl ⟨rfl, Q7r _⟩) ?_
 refine cE rfl (fun wq sq => aF jU rfl rfl ⟨rfl, Q7r _⟩) ?_
 refine cE rfl (fun wq sq => aI (q.ext sq) ti3 rfl rfl ⟨rfl, Q7r _⟩) ?_
 refine cE rfl (fun wq sq => aD rfl ⟨rfl, Q7r _⟩) ?_
 refine cE rfl (fun wq sq => aD rfl ⟨rfl, Q7r _⟩) ?_
 refine cE rfl (fun wq sq => aD rfl ⟨rfl, Q7r _⟩) ?_
 refine dW (fun w48 sq => ?_)
 have xq := sq
 replace q := q.ext xq
 replace oT := oT.ext xq
 replace hs := hs.ext xq
 replace oB := oB.ext xq
 replace X := Q7x X xq; clear xq sq
 refine aB ?_
 refine aV ?_
 refine fH rfl rfl rfl rfl ?_
 · skip
   subst hb1
   first
   | (exact absurd ‹(!false) = false› (by decide))
   | (have HN : lW xs = none := hg.2 rfl
      exact ⟨none, 0, [], 0, false, rfl, (by rw [HN]; exact ⟨rfl, rfl, rfl⟩), Own.nil_ _ _ _ _, X⟩)
   | (have hr0 : rem = 0 := by omega
      subst hr0
      have HN : lW xs = none := hg.stop.1 hIT
      exact ⟨none, 0, [], 0, false, rfl, (by rw [HN]; exact ⟨rfl, rfl, rfl⟩), Own.nil_ _ _ _ _, X⟩)
   | (have hr0 : rem = 0 := by omega
      subst hr0
      have HN : lW xs = none := hg.stop.2.1 hIT (fun e => of_decide_eq_false hBg e.symm)
      exact ⟨none, 0, [], 0, false, rfl, (by rw [HN]; exact ⟨rfl, rfl, rfl⟩), Own.nil_ _ _ _ _, X⟩)
   | (have hr0 : rem = 0 := by omega
      subst hr0
      have HS : lW xs = some (ys, a) := hg.stop.2.2 hIT (of_decide_eq_true hBg).symm
      exact ⟨_, _, ys, _, true, rfl, (by rw [HS]; exact ⟨rfl, rfl, rfl⟩), oT, X⟩)
 replace q := q.ext x46
 replace oT := oT.ext x46
 replace hs := hs.ext x46
 replace oB := oB.ext x46
 replace X := Q7x X x46
 refine aH rfl rfl rfl (cD rfl ?_)
 refine aA rfl (aJ rfl rfl ?_)
 refine aB ?_
 refine aR rfl ?_
 refine aE ?_
 refine aA rfl (aD rfl ?_)
 refine aA rfl (aD rfl ?_)
 refine aA rfl (aD rfl ?_)
 refine aB ?_
 refine aV ?_
 refine bU ?_
 refine fH rfl rfl rfl rfl ?_
 · skip
   subst hb1
   first
   | (exact absurd ‹(!false) = false› (by decide))
   | (have HN : lW xs = none := hg.2 rfl
      exact ⟨none, 0, [], 0, false, rfl, (by rw [HN]; exact ⟨rfl, rfl, rfl⟩), Own.nil_ _ _ _ _, X⟩)
   | (have hr0 : rem = 0 := by omega
      subst hr0
      have HN : lW xs = none := hg.stop.1 hIT
      exact ⟨none, 0, [], 0, false, rfl, (by rw [HN]; exact ⟨rfl, rfl, rfl⟩), Own.nil_ _ _ _ _, X⟩)
   | (have hr0 : rem = 0 := by omega
      subst hr0
      have HN : lW xs = none := hg.stop.2.1 hIT (fun e => of_decide_eq_false hBg e.symm)
      exact ⟨none, 0, [], 0, false, rfl, (by rw [HN]; exact ⟨rfl, rfl, rfl⟩), Own.nil_ _ _ _ _, X⟩)
   | (have hr0 : rem = 0 := by omega
      subst hr0
      have HS : lW xs = some (ys, a) := hg.stop.2.2 hIT (of_decide_eq_true hBg).symm
      exact ⟨_, _, ys, _, true, rfl, (by rw [HS]; exact ⟨rfl, rfl, rfl⟩), oT, X⟩)
 replace q := q.ext x40
 replace oT := oT.ext x40
 replace hs := hs.ext x40
 replace X := Q7x X x40
 refine aH rfl rfl rfl (cD rfl ?_)
 refine aA rfl (aJ rfl rfl ?_)
 refine aA rfl (aC rfl ?_)
 refine aG rfl rfl rfl rfl ?_
 refine aG rfl rfl rfl rfl ?_
 refine aG rfl rfl rfl rfl ?_
 refine aG rfl rfl rfl rfl ?_
 refine aG rfl rfl rfl rfl ?_
 refine aA rfl (aJ rfl rfl ?_)
 refine aB ?_
 refine aR rfl ?_
 refine aE ?_
 refine aA rfl (aD rfl ?_)
 refine aA rfl (aD rfl ?_)
 refine aA rfl (aD rfl ?_)
 refine aB ?_
 refine aV ?_
 refine bU ?_
 refine fH rfl rfl rfl rfl ?_
 · skip
   subst hb1
   first
   | (exact absurd ‹(!false) = false› (by decide))
   | (have HN : lW xs = none := hg.2 rfl
      exact ⟨none, 0, [], 0, false, rfl, (by rw [HN]; exact ⟨rfl, rfl, rfl⟩), Own.nil_ _ _ _ _, X⟩)
   | (have hr0 : rem = 0 := by omega
      subst hr0
      have HN : lW xs = none := hg.stop.1 hIT
      exact ⟨none, 0, [], 0, false, rfl, (by rw [HN]; exact ⟨rfl, rfl, rfl⟩), Own.nil_ _ _ _ _, X⟩)
   | (have hr0 : rem = 0 := by omega
      subst hr0
      have HN : lW xs = none := hg.stop.2.1 hIT (fun e => of_decide_eq_false hBg e.symm)
      exact ⟨none, 0, [], 0, false, rfl, (by rw [HN]; exact ⟨rfl, rfl, rfl⟩), Own.nil_ _ _ _ _, X⟩)
   | (have hr0 : rem = 0 := by omega
      subst hr0
      have HS : lW xs = some (ys, a) := hg.stop.2.2 hIT (of_decide_eq_true hBg).symm
      exact ⟨_, _, ys, _, true, rfl, (by rw [HS]; exact ⟨rfl, rfl, rfl⟩), oT, X⟩)
 refine aA rfl (aC rfl ?_)
 refine aG rfl rfl rfl rfl ?_
 refine aG rfl rfl rfl rfl ?_
 refine aG rfl rfl rfl rfl ?_
 refine aA rfl (aJ rfl rfl ?_)
 refine aA rfl (aC rfl ?_)
 refine aG rfl rfl rfl rfl ?_
 refine aG rfl rfl rfl rfl ?_
 refine aG rfl rfl rfl rfl ?_
 refine aG rfl rfl rfl rfl ?_
 refine aG rfl rfl rfl rfl ?_
 refine aA rfl (aJ rfl rfl ?_)
 refine aB ?_
 refine aR rfl ?_
 refine aE ?_
 refine aA rfl (aD rfl ?_)
 refine aA rfl (aD rfl ?_)
 refine aA rfl (aD rfl ?_)
 refine aB ?_
 refine aV ?_
 refine bU ?_
 refine fH rfl rfl rfl rfl ?_
 · skip
   subst hb1
   first
   | (exact absurd ‹(!false) = false› (by decide))
   | (have HN : lW xs = none := hg.2 rfl
      exact ⟨none, 0, [], 0, false, rfl, (by rw [HN]; exact ⟨rfl, rfl, rfl⟩), Own.nil_ _ _ _ _, X⟩)
   | (have hr0 : rem = 0 := by omega
      subst hr0
      have HN : lW xs = none := hg.stop.1 hIT
      exact ⟨none, 0, [], 0, false, rfl, (by rw [HN]; exact ⟨rfl, rfl, rfl⟩), Own.nil_ _ _ _ _, X⟩)
   | (have hr0 : rem = 0 := by omega
      subst hr0
      have HN : lW xs = none := hg.stop.2.1 hIT (fun e => of_decide_eq_false hBg e.symm)
      exact ⟨none, 0, [], 0, false, rfl, (by rw [HN]; exact ⟨rfl, rfl, rfl⟩), Own.nil_ _ _ _ _, X⟩)
   | (have hr0 : rem = 0 := by omega
      subst hr0
      have HS : lW xs = some (ys, a) := hg.stop.2.2 hIT (of_decide_eq_true hBg).symm
      exact ⟨_, _, ys, _, true, rfl, (by rw [HS]; exact ⟨rfl, rfl, rfl⟩), oT, X⟩)
 refine aA rfl (aC rfl ?_)
 refine aG rfl rfl rfl rfl ?_
 refine aG rfl rfl rfl rfl ?_
 refine aG rfl rfl rfl rfl ?_
 refine aG rfl rfl rfl rfl ?_
 refine aG rfl rfl rfl rfl ?_
 refine aA rfl (aJ rfl rfl ?_)
 refine aB ?_
 refine aL rfl ?_
 refine dC ?_
 refine dB ?_
 refine dB ?_
 refine eA ?_
 refine aP ?_
 refine aQ ?_
 refine aE ?_
 subst hn
 refine aA rfl (aC rfl ?_)
 refine aA rfl (dF rfl ?_)
 refine aA rfl (aF iT rfl rfl ?_)
 refine aA rfl (aI q uX rfl rfl ?_)
 cases hb1 : b
 refine aA rfl (aC rfl ?_)
 refine aH rfl rfl rfl (aC rfl ?_)
 refine aH rfl rfl rfl (cW aDJ rfl (aBp _ _ _ ys oT.cap _ oT.sl (by omega) (fun x hx => by have := hnm x hx; omega)) (fun w50 hIT x49 => ?_) (fun w50 hIT x49 => ?_))
 replace q := q.ext x49
 replace oT := oT.ext x49
 replace hs := hs.ext x49
 replace X := Q7x X x49
 refine aH rfl rfl rfl (cD rfl ?_)
 refine aA rfl (aJ rfl rfl ?_)
 refine aA rfl (aC rfl ?_)
 refine aH rfl rfl rfl (aC rfl ?_)
 refine aH rfl rfl rfl (aC rfl ?_)
 refine aH rfl rfl rfl (aS aDK rfl (aO (mJ _ _ _ ys _ oT.sl hIT) ?_))
 rintro _ w52 ⟨A53, c54, rfl, oB, x51⟩
 replace oB := Own.low oB X.size
 replace q := q.ext x51
 replace oT := oT.ext x51
 replace hs := hs.ext x51
 replace X := Q7x X x51
 refine aH rfl rfl rfl (cW aGA rfl (aCm A B c xs gC a _ _ _ (mW ys) _ (by have h := q; rw [hb1] at h; exact h) hs oB.sl hl ha1 hcap) (fun w56 hBg x55 => ?_) (fun w56 hBg x55 => ?_))
 replace q := q.ext x55
 replace oT := oT.ext x55
 replace hs := hs.ext x55
 replace oB := oB.ext x55
 replace X := Q7x X x55
 refine aH rfl rfl rfl (cD rfl ?_)
 refine aA rfl (aJ rfl rfl ?_)
 refine aB ?_
 refine aL rfl ?_
 refine aU ?_
 refine aP ?_
 refine eO [false, false, false, false, false, false, false, false] mixed (by kernel_rfl) ?_
 refine cE rfl (fun wq sq => aC rfl ⟨rfl, Q7r _⟩) ?_
 refine cE rfl (fun wq sq => aC rfl ⟨rfl, Q7r _⟩) ?_
 refine cE rfl (fun wq sq => dF rfl ⟨rfl, Q7r _⟩) ?_
 refine cE rfl (fun wq sq => aF jU rfl rfl ⟨rfl, Q7r _⟩) ?_
 refine cE rfl (fun wq sq => aI (q.ext sq) ti3 rfl rfl ⟨rfl, Q7r _⟩) ?_
 refine cE rfl (fun wq sq => aD rfl ⟨rfl, Q7r _⟩) ?_
 refine cE rfl (fun wq sq => aD rfl ⟨rfl, Q7r _⟩) ?_
 refine cE rfl (fun wq sq => aD rfl ⟨rfl, Q7r _⟩) ?_
 refine dW (fun w57 sq => ?_)
 have xq := sq
 replace q := q.ext xq
 replace oT := oT.ext xq
 replace hs := hs.ext xq
 replace oB := oB.ext xq
 replace X := Q7x X xq; clear xq sq
 refine aB ?_
 refine aV ?_
 refine fH rfl rfl rfl rfl ?_
 · skip
   subst hb1
   first
   | (exact absurd ‹(!false) = false› (by decide))
   | (have HN : lW xs = none := hg.2 rfl
      exact ⟨none, 0, [], 0, false, rfl, (by rw [HN]; exact ⟨rfl, rfl, rfl⟩), Own.nil_ _ _ _ _, X⟩)
   | (have hr0 : rem = 0 := by omega
      subst hr0
      have HN : lW xs = none := hg.stop.1 hIT
      exact ⟨none, 0, [], 0, false, rfl, (by rw [HN]; exact ⟨rfl, rfl, rfl⟩), Own.nil_ _ _ _ _, X⟩)
   | (have hr0 : rem = 0 := by omega
      subst hr0
      have HN : lW xs = none := hg.stop.2.1 hIT (fun e => of_decide_eq_false hBg e.symm)
      exact ⟨none, 0, [], 0, false, rfl, (by rw [HN]; exact ⟨rfl, rfl, rfl⟩), Own.nil_ _ _ _ _, X⟩)
   | (have hr0 : rem = 0 := by omega
      subst hr0
      have HS : lW xs = some (ys, a) := hg.stop.2.2 hIT (of_decide_eq_true hBg).symm
      exact ⟨_, _, ys, _, true, rfl, (by rw [HS]; exact ⟨rfl, rfl, rfl⟩), oT, X⟩)
 replace q := q.ext x55
 replace oT := oT.ext x55
 replace hs := hs.ext x55
 replace oB := oB.ext x55
 replace X := Q7x X x55
 refine aH rfl rfl rfl (cD rfl ?_)
 refine aA rfl (aJ rfl rfl ?_)
 refine aB ?_
 refine aR rfl ?_
 refine aE ?_
 refine aA rfl (aD rfl ?_)
 refine aA rfl (aD rfl ?_)
 refine aA rfl (aD rfl ?_)
 refine aB ?_
 refine aV ?_
 refine bU ?_
 refine fH rfl rfl rfl rfl ?_
 · skip
   subst hb1
   first
   | (exact absurd ‹(!false) = false› (by decide))
   | (have HN : lW xs = none := hg.2 rfl
      exact ⟨none, 0, [], 0, false, rfl, (by rw [HN]; exact ⟨rfl, rfl, rfl⟩), Own.nil_ _ _ _ _, X⟩)
   | (have hr0 : rem = 0 := by omega
      subst hr0
      have HN : lW xs = none := hg.stop.1 hIT
      exact ⟨none, 0, [], 0, false, rfl, (by rw [HN]; exact ⟨rfl, rfl, rfl⟩), Own.nil_ _ _ _ _, X⟩)
   | (have hr0 : rem = 0 := by omega
      subst hr0
      have HN : lW xs = none := hg.stop.2.1 hIT (fun e => of_decide_eq_false hBg e.symm)
      exact ⟨none, 0, [], 0, false, rfl, (by rw [HN]; exact ⟨rfl, rfl, rfl⟩), Own.nil_ _ _ _ _, X⟩)
   | (have hr0 : rem = 0 := by omega
      subst hr0
      have HS : lW xs = some (ys, a) := hg.stop.2.2 hIT (of_decide_eq_true hBg).symm
      exact ⟨_, _, ys, _, true, rfl, (by rw [HS]; exact ⟨rfl, rfl, rfl⟩), oT, X⟩)
 replace q := q.ext x49
 replace oT := oT.ext x49
 replace hs := hs.ext x49
 replace X := Q7x X x49
 refine aH rfl rfl rfl (cD rfl ?_)
 refine aA rfl (aJ rfl rfl ?_)
 refine aA rfl (aC rfl ?_)
 refine aG rfl rfl rfl rfl ?_
 refine aG rfl rfl rfl rfl ?_
 refine aG rfl rfl rfl rfl ?_
 refine aG rfl rfl rfl rfl ?_
 refine aG rfl rfl rfl rfl ?_
 refine aA rfl (aJ rfl rfl ?_)
 refine aB ?_
 refine aR rfl ?_
 refine aE ?_
 refine aA rfl (aD rfl ?_)
 refine aA rfl (aD rfl ?_)
 refine aA rfl (aD rfl ?_)
 refine aB ?_
 refine aV ?_
 refine bU ?_
 refine fH rfl rfl rfl rfl ?_
 · skip
   subst hb1
   first
   | (exact absurd ‹(!false) = false› (by decide))
   | (have HN : lW xs = none := hg.2 rfl
      exact ⟨none, 0, [], 0, false, rfl, (by rw [HN]; exact ⟨rfl, rfl, rfl⟩), Own.nil_ _ _ _ _, X⟩)
   | (have hr0 : rem = 0 := by omega
      subst hr0
      have HN : lW xs = none := hg.stop.1 hIT
      exact ⟨none, 0, [], 0, false, rfl, (by rw [HN]; exact ⟨rfl, rfl, rfl⟩), Own.nil_ _ _ _ _, X⟩)
   | (have hr0 : rem = 0 := by omega
      subst hr0
      have HN : lW xs = none := hg.stop.2.1 hIT (fun e => of_decide_eq_false hBg e.symm)
      exact ⟨none, 0, [], 0, false, rfl, (by rw [HN]; exact ⟨rfl, rfl, rfl⟩), Own.nil_ _ _ _ _, X⟩)
   | (have hr0 : rem = 0 := by omega
      subst hr0
      have HS : lW xs = some (ys, a) := hg.stop.2.2 hIT (of_decide_eq_true hBg).symm
      exact ⟨_, _, ys, _, true, rfl, (by rw [HS]; exact ⟨rfl, rfl, rfl⟩), oT, X⟩)
 refine aA rfl (aC rfl ?_)
 refine aG rfl rfl rfl rfl ?_
 refine aG rfl rfl rfl rfl ?_
 refine aG rfl rfl rfl rfl ?_
 refine aA rfl (aJ rfl rfl ?_)
 refine aA rfl (aC rfl ?_)
 refine aG rfl rfl rfl rfl ?_
 refine aG rfl rfl rfl rfl ?_
 refine aG rfl rfl rfl rfl ?_
 refine aG rfl rfl rfl rfl ?_
 refine aG rfl rfl rfl rfl ?_
 refine aA rfl (aJ rfl rfl ?_)
 refine aB ?_
 refine aR rfl ?_
 refine aE ?_
 refine aA rfl (aD rfl ?_)
 refine aA rfl (aD rfl ?_)
 refine aA rfl (aD rfl ?_)
 refine aB ?_
 refine aV ?_
 refine bU ?_
 refine fH rfl rfl rfl rfl ?_
 · skip
   subst hb1
   first
   | (exact absurd ‹(!false) = false› (by decide))
   | (have HN : lW xs = none := hg.2 rfl
      exact ⟨none, 0, [], 0, false, rfl, (by rw [HN]; exact ⟨rfl, rfl, rfl⟩), Own.nil_ _ _ _ _, X⟩)
   | (have hr0 : rem = 0 := by omega
      subst hr0
      have HN : lW xs = none := hg.stop.1 hIT
      exact ⟨none, 0, [], 0, false, rfl, (by rw [HN]; exact ⟨rfl, rfl, rfl⟩), Own.nil_ _ _ _ _, X⟩)
   | (have hr0 : rem = 0 := by omega
      subst hr0
      have HN : lW xs = none := hg.stop.2.1 hIT (fun e => of_decide_eq_false hBg e.symm)
      exact ⟨none, 0, [], 0, false, rfl, (by rw [HN]; exact ⟨rfl, rfl, rfl⟩), Own.nil_ _ _ _ _, X⟩)
   | (have hr0 : rem = 0 := by omega
      subst hr0
      have HS : lW xs = some (ys, a) := hg.stop.2.2 hIT (of_decide_eq_true hBg).symm
      exact ⟨_, _, ys, _, true, rfl, (by rw [HS]; exact ⟨rfl, rfl, rfl⟩), oT, X⟩)
end Go.Proofs.YtdoibplhbdkapaaGreatDoor
