/- Parts. No condition. -/
import Derived.Test.YtdoibplhbdkapaaGreatDoorDOP12
import Derived.Test.YtdoibplhbdkapaaGreatDoorDOP4
import Derived.Test.YtdoibplhbdkapaaGreatDoorDOP9
namespace Go.Proofs.YtdoibplhbdkapaaGreatDoor
open Go.RowKit
set_option linter.unusedVariables false
set_option linter.unusedSimpArgs false
set_option maxRecDepth 20000
def aBj (s : ByteArray) (k : Int) : List NodeI → Int
 | [] => -1
 | x :: r => if x.name = s then k else aBj s (k + 1) r
theorem aCS (s : ByteArray) : ∀ (xs : List NodeI) (k : Int), 0 ≤ k → decide (0 ≤ aBj s k xs) = iZ s xs
 | [], k, h => by simp [aBj, iZ]
 | x :: r, k, h => by
   rw [aBj]
   by_cases e : x.name = s
   · rw [if_pos e]; simp [iZ, e, h]
   · rw [if_neg e, aCS s r (k + 1) (by omega)]; simp [iZ, e]
theorem aEX (A : Option Addr) (B c : Nat) (xs : List NodeI) (w : World) (hs : Sl B w A (xs.flatMap NodeI.cells)) (hl : xs.length ≤ 1048576) (hm : ∀ x ∈ xs, x.name.size ≤ 9223372036854775807) :
   Calls Tryz.prog 224 #[.slice A xs.length c] w (fF fun v w' => v = .bool (eC xs) ∧ Ext w w') := by
 have Bhs := hs.1
 have X := Q7r w
 refine bJ (args := [.slice A xs.length c]) Tryz.func224 Tryz.ntmps224 rfl rfl (aF (aA rfl (aE rfl (aB (aR (aF (aA rfl (aC rfl (aA rfl (bO Tryz.underlying24 rfl (aA rfl (cV kC rfl (iQ _ _ _ _) (fun w2 hB x1 => ?_) (fun w2 hB x1 => ?_)))))))))))))
 replace hs := hs.ext x1
 replace X := Q7x X x1; clear x1
 refine aA rfl (bP rfl (aB (aM rfl (aV (aS (aR (aF (aA rfl (aE rfl (aB (aX (dG (G := Nat) (fun k => [(0, .slice A xs.length c), (3, .int .i64 (k : Nat))]) (fun k wr => k ≤ xs.length ∧ iV none [] xs = iV (qS xs k) (xs.take k) (xs.drop k) ∧ Sl B wr A (xs.flatMap NodeI.cells) ∧ Ext w wr) (fun k => xs.length - k) 0 (.cons rfl (.cons rfl (.nil _))) ?_ ?_))))))))))))
 · exact ⟨by omega, rfl, hs, X⟩
 clear hs
 clear X
 rintro k wr ⟨hk0, hi, hs, X⟩
 refine aR (aF (aA rfl (aC rfl (aA rfl (aC rfl (aA rfl (bO Tryz.underlying24 rfl (aA rfl (cU rfl rfl (fun hk => ?_) (fun hk => ?_))))))))))
 obtain ⟨x, hx, dx⟩ := dR hk
 have hmx := hm x (List.mem_of_getElem? hx)
 refine aB (aQ rfl (aV (aS (aR (aX (aR (eK [false, false, false, false, false, false, false, false, false, false, false, false, false, false, false, false, false, false, false, false, false, false, false, false] mixed (by kernel_rfl) (cO rfl (fun wq sq => aC rfl ⟨rfl, Q7r _⟩) (cO rfl (fun wq sq => aC rfl ⟨rfl, Q7r _⟩) (cO rfl (fun wq sq => aU (hs.ext sq) NodeI.len rfl lO rfl rfl rfl hx rfl ⟨rfl, Q7r _⟩) (cO rfl (fun wq sq => eE (hs.ext sq) NodeI.len hx kE rfl ⟨rfl, Q7r _⟩) (aG4 rfl (fun wq sq => aT aKE rfl (aFq _ _ hmx)) (fun h3 => ?_) (fun h3 => ?_)))))))))))))
 refine cO rfl (fun wq sq => bP rfl ⟨rfl, Q7r _⟩) (cO rfl (fun wq sq => aC rfl ⟨rfl, Q7r _⟩) (dQ rfl rfl rfl (fun wq sq => aC rfl ⟨rfl, Q7r _⟩) (qN rfl rfl rfl (fun wq sq => rZ rfl rfl ⟨rfl, Q7r _⟩) (fun hp => ?_) (fun hp => ?_))))
 obtain ⟨y, hy⟩ : ∃ y, xs[k - 1]? = some y := ⟨_, List.getElem?_eq_getElem (by omega)⟩
 refine dQ rfl rfl rfl (fun wq sq => aC rfl ⟨rfl, Q7r _⟩) (dQ rfl rfl rfl (fun wq sq => aC rfl ⟨rfl, Q7r _⟩) (dQ rfl rfl rfl (fun wq sq => aC rfl ⟨rfl, Q7r _⟩) (dQ rfl rfl rfl (fun wq sq => aU (hs.ext sq) NodeI.len rfl lO rfl rfl rfl hx rfl ⟨rfl, Q7r _⟩) (dQ rfl rfl rfl (fun wq sq => dF lC rfl ⟨rfl, Q7r _⟩) (dQ rfl rfl rfl (fun wq sq => eF (hs.ext sq) NodeI.len hx dB rfl rfl rfl ⟨rfl, Q7r _⟩) (dQ rfl rfl rfl (fun wq sq => aC rfl ⟨rfl, Q7r _⟩) (dQ rfl rfl rfl (fun wq sq => aC rfl ⟨rfl, Q7r _⟩) (dQ rfl rfl rfl (fun wq sq => fZ rfl rfl (dM (by omega)) ⟨rfl, Q7r _⟩) (dQ rfl rfl rfl (fun wq sq => aU (hs.ext sq) NodeI.len rfl lO rfl rfl rfl hy (by omega) ⟨rfl, Q7r _⟩) ?_)))))))))
 refine dQ rfl rfl rfl (fun wq sq => dF lC rfl ⟨rfl, Q7r _⟩) (dQ rfl rfl rfl (fun wq sq => eF (hs.ext sq) NodeI.len hy dB rfl rfl rfl ⟨rfl, Q7r _⟩) (qN rfl rfl rfl (fun wq sq => qW rfl rfl ⟨rfl, Q7r _⟩) (fun h6 => ?_) (fun h6 => ?_)))
 refine dQ rfl rfl rfl (fun wq sq => aK rfl rfl ⟨rfl, Q7r _⟩) (cO rfl (fun wq sq => aK rfl rfl ⟨rfl, Q7r _⟩) (dX (fun w7 sq => ?_)))
 have xq := sq
 replace hs := hs.ext xq
 replace X := Q7x X xq; clear xq sq
 refine aB (aQ rfl (aF (aA rfl (aE rfl (aB (aW (bN (dL (bN (bN (dL (bN (aL rfl rfl ?_)))))))))))))
 · skip
   refine ⟨congrArg Value.bool ?_, X⟩
   first
   | (rw [eC, hB]; rfl)
   | (rw [eC, hB, hi, bL hk, fW]; rfl)
   | (rw [eC, hi, bL hk, fW, iF]; rw [Bool.eq_iff_iff]; simp; done)
   | (rw [eC, hi, bL hk, fW, iF]; rw [Bool.eq_iff_iff]; simp; omega)
   | (rw [eC, hi, dx, lW (by assumption), Bool.and_false]; done)
   | (rw [eC, hi, dx, iX (by assumption), Bool.and_false]; done)
   | (rw [eC, hi, dx, fA (by omega) hy, lX (by omega), Bool.and_false]; done)
   | (have hnm := mI hz ‹_›
      rw [eC, hi, dx, iX hnm, Bool.and_false])
 refine dQ rfl rfl rfl (fun wq sq => aK rfl rfl ⟨rfl, Q7r _⟩) (cO rfl (fun wq sq => aK rfl rfl ⟨rfl, Q7r _⟩) (dX (fun w9 sq => ?_)))
 have xq := sq
 replace hs := hs.ext xq
 replace X := Q7x X xq; clear xq sq
 refine aB (aM rfl (aV (aS (aF (aA rfl (aE rfl (aB (aX (dG (G := Nat) (fun j => [(0, .slice A xs.length c), (3, .int .i64 (k : Nat)), (9, .int .i64 (k : Nat)), (10, .slice A xs.length c), (11, .int .i64 (xs.length : Nat)), (15, .slice A xs.length c), (16, .int .i64 (k : Nat)), (22, .int .i64 (k : Nat)), (25, .slice A xs.length c), (26, .int .i64 (k : Nat)), (30, .slice A xs.length c), (31, .int .i64 (k : Nat)), (4, .int .i64 (j : Nat))]) (fun j wr => j ≤ k ∧ iZ x.name (xs.take k) = iZ x.name ((xs.take k).drop j) ∧ Sl B wr A (xs.flatMap NodeI.cells) ∧ Ext w wr) (fun j => k - j) 0 (.cons rfl (.cons rfl (.cons rfl (.cons rfl (.cons rfl (.cons rfl (.cons rfl (.cons rfl (.cons rfl (.cons rfl (.cons rfl (.cons rfl (.cons rfl (.nil _)))))))))))))) ?_ ?_)))))))))
 · exact ⟨by omega, rfl, hs, X⟩
 clear hs
 clear X
 rintro j wr ⟨hj0, hj2, hs, X⟩
 refine aR (aF (aA rfl (aC rfl (aA rfl (aC rfl (aA rfl (cU rfl rfl (fun hj => ?_) (fun hj => ?_))))))))
 have hq : (xs.take k).length = k := by simp; omega
 obtain ⟨z, hz, dz⟩ := dR (xs := xs.take k) (k := j) (by omega)
 have hz2 : xs[j]? = some z := by
   rw [List.getElem?_take] at hz
   split at hz <;> simp_all
 refine aB (aQ rfl (aV (aS (aR (aX (eK [false, false, false, false, false, false, false, false, false, false, false] mixed (by kernel_rfl) (cO rfl (fun wq sq => aC rfl ⟨rfl, Q7r _⟩) (cO rfl (fun wq sq => aC rfl ⟨rfl, Q7r _⟩) (cO rfl (fun wq sq => aU (hs.ext sq) NodeI.len rfl lO rfl rfl rfl hz2 rfl ⟨rfl, Q7r _⟩) (cO rfl (fun wq sq => dF gG rfl ⟨rfl, Q7r _⟩) (cO rfl (fun wq sq => eF (hs.ext sq) NodeI.len hz2 yA rfl rfl rfl ⟨rfl, Q7r _⟩) (cO rfl (fun wq sq => aC rfl ⟨rfl, Q7r _⟩) (cO rfl (fun wq sq => aC rfl ⟨rfl, Q7r _⟩) (cO rfl (fun wq sq => aU (hs.ext sq) NodeI.len rfl lO rfl rfl rfl hx rfl ⟨rfl, Q7r _⟩) ?_))))))))))))))
 refine cO rfl (fun wq sq => dF gG rfl ⟨rfl, Q7r _⟩) (cO rfl (fun wq sq => eF (hs.ext sq) NodeI.len hx yA rfl rfl rfl ⟨rfl, Q7r _⟩) (uZ rfl (fun wq sq => aAb rfl rfl ⟨rfl, Q7r _⟩) (fun he => ?_) (fun he => ?_)))
 refine dX (fun w10 sq => ?_)
 have xq := sq
 replace hs := hs.ext xq
 replace X := Q7x X xq; clear xq sq
 refine aB (aQ rfl (aF (aA rfl (aE rfl (aB (aW (dL (bN (bN (dL (dL (bN (bN (dL (bN (aL rfl rfl ?_))))))))))))))))
 · skip
   refine ⟨congrArg Value.bool ?_, X⟩
   first
   | (rw [eC, hB]; rfl)
   | (rw [eC, hB, hi, bL hk, fW]; rfl)
   | (rw [eC, hi, bL hk, fW, iF]; rw [Bool.eq_iff_iff]; simp; done)
   | (rw [eC, hi, bL hk, fW, iF]; rw [Bool.eq_iff_iff]; simp; omega)
   | (rw [eC, hi, dx, lW (by assumption), Bool.and_false]; done)
   | (rw [eC, hi, dx, iX (by assumption), Bool.and_false]; done)
   | (rw [eC, hi, dx, fA (by omega) hy, lX (by omega), Bool.and_false]; done)
   | (have hnm := mI hz ‹_›
      rw [eC, hi, dx, iX hnm, Bool.and_false])
 refine dX (fun w11 sq => ?_)
 have xq := sq
 replace hs := hs.ext xq
 replace X := Q7x X xq; clear xq sq
 refine aB (aM rfl (aV (dO (aS (aN (aA rfl (aC rfl (aA rfl (aY rfl rfl (dM (by omega)) (aA rfl (aE rfl (aB (aS ⟨j + 1, (.cons rfl (.cons rfl (.cons rfl (.cons rfl (.cons rfl (.cons rfl (.cons rfl (.cons rfl (.cons rfl (.cons rfl (.cons rfl (.cons rfl (.cons rfl (.nil _)))))))))))))), ?_, ?_⟩)))))))))))))
 · exact ⟨by omega, (by rw [hj2, dz]; simp [iZ, *]), hs, X⟩
 · first | omega | (dsimp only; omega)
 refine aB (aM rfl (dD (dC (dC (eG (dO (aS (aN (aA rfl (aC rfl (aA rfl (aY rfl rfl (dM (by omega)) (aA rfl (aE rfl (aB (aS ⟨k + 1, (.cons rfl (.cons rfl (.nil _))), ?_, ?_⟩))))))))))))))))
 · skip
   exact ⟨by omega, (by
     have hpx : qS xs (k + 1) = some x := kV hx
     have htk : xs.take (k + 1) = xs.take k ++ [x] := by rw [List.take_add_one, hx]; rfl
     rw [hi, dx, hpx, htk]
     have hnm : iZ x.name (xs.take k) = false := by rw [hj2, List.drop_eq_nil_of_le (by simp; omega)]; rfl
     first | rw [kW ‹_›, aCo (by assumption) hnm] | rw [fA (by omega) hy, aCp (by assumption) (by omega) hnm]), hs, X⟩
 · first | omega | (dsimp only; omega)
 refine dQ rfl rfl rfl (fun wq sq => aC rfl ⟨rfl, Q7r _⟩) (dK rfl rfl rfl rfl (dK rfl rfl rfl rfl (dK rfl rfl rfl rfl (dK rfl rfl rfl rfl (dK rfl rfl rfl rfl (dK rfl rfl rfl rfl (dK rfl rfl rfl rfl (dK rfl rfl rfl rfl (dK rfl rfl rfl rfl (dK rfl rfl rfl rfl (dK rfl rfl rfl rfl (dK rfl rfl rfl rfl (dQ rfl rfl rfl (fun wq sq => aK rfl rfl ⟨rfl, Q7r _⟩) (cO rfl (fun wq sq => aK rfl rfl ⟨rfl, Q7r _⟩) (dX (fun w12 sq => ?_))))))))))))))))
 have xq := sq
 replace hs := hs.ext xq
 replace X := Q7x X xq; clear xq sq
 refine aB (aM rfl (aV (aS (aF (aA rfl (aE rfl (aB (aX (dG (G := Nat) (fun j => [(0, .slice A xs.length c), (3, .int .i64 (k : Nat)), (9, .int .i64 (k : Nat)), (10, .slice A xs.length c), (11, .int .i64 (xs.length : Nat)), (15, .slice A xs.length c), (16, .int .i64 (k : Nat)), (22, .int .i64 (k : Nat)), (4, .int .i64 (j : Nat))]) (fun j wr => j ≤ k ∧ iZ x.name (xs.take k) = iZ x.name ((xs.take k).drop j) ∧ Sl B wr A (xs.flatMap NodeI.cells) ∧ Ext w wr) (fun j => k - j) 0 (.cons rfl (.cons rfl (.cons rfl (.cons rfl (.cons rfl (.cons rfl (.cons rfl (.cons rfl (.cons rfl (.nil _)))))))))) ?_ ?_)))))))))
 · exact ⟨by omega, rfl, hs, X⟩
 clear hs
 clear X
 rintro j wr ⟨hj0, hj2, hs, X⟩
 refine aR (aF (aA rfl (aC rfl (aA rfl (aC rfl (aA rfl (cU rfl rfl (fun hj => ?_) (fun hj => ?_))))))))
 have hq : (xs.take k).length = k := by simp; omega
 obtain ⟨z, hz, dz⟩ := dR (xs := xs.take k) (k := j) (by omega)
 have hz2 : xs[j]? = some z := by
   rw [List.getElem?_take] at hz
   split at hz <;> simp_all
 refine aB (aQ rfl (aV (aS (aR (aX (eK [false, false, false, false, false, false, false, false, false, false, false] mixed (by kernel_rfl) (cO rfl (fun wq sq => aC rfl ⟨rfl, Q7r _⟩) (cO rfl (fun wq sq => aC rfl ⟨rfl, Q7r _⟩) (cO rfl (fun wq sq => aU (hs.ext sq) NodeI.len rfl lO rfl rfl rfl hz2 rfl ⟨rfl, Q7r _⟩) (cO rfl (fun wq sq => dF gG rfl ⟨rfl, Q7r _⟩) (cO rfl (fun wq sq => eF (hs.ext sq) NodeI.len hz2 yA rfl rfl rfl ⟨rfl, Q7r _⟩) (cO rfl (fun wq sq => aC rfl ⟨rfl, Q7r _⟩) (cO rfl (fun wq sq => aC rfl ⟨rfl, Q7r _⟩) (cO rfl (fun wq sq => aU (hs.ext sq) NodeI.len rfl lO rfl rfl rfl hx rfl ⟨rfl, Q7r _⟩) ?_))))))))))))))
 refine cO rfl (fun wq sq => dF gG rfl ⟨rfl, Q7r _⟩) (cO rfl (fun wq sq => eF (hs.ext sq) NodeI.len hx yA rfl rfl rfl ⟨rfl, Q7r _⟩) (uZ rfl (fun wq sq => aAb rfl rfl ⟨rfl, Q7r _⟩) (fun he => ?_) (fun he => ?_)))
 refine dX (fun w13 sq => ?_)
 have xq := sq
 replace hs := hs.ext xq
 replace X := Q7x X xq; clear xq sq
 refine aB (aQ rfl (aF (aA rfl (aE rfl (aB (aW (dL (bN (bN (dL (dL (bN (bN (dL (bN (aL rfl rfl ?_))))))))))))))))
 · skip
   refine ⟨congrArg Value.bool ?_, X⟩
   first
   | (rw [eC, hB]; rfl)
   | (rw [eC, hB, hi, bL hk, fW]; rfl)
   | (rw [eC, hi, bL hk, fW, iF]; rw [Bool.eq_iff_iff]; simp; done)
   | (rw [eC, hi, bL hk, fW, iF]; rw [Bool.eq_iff_iff]; simp; omega)
   | (rw [eC, hi, dx, lW (by assumption), Bool.and_false]; done)
   | (rw [eC, hi, dx, iX (by assumption), Bool.and_false]; done)
   | (rw [eC, hi, dx, fA (by omega) hy, lX (by omega), Bool.and_false]; done)
   | (have hnm := mI hz ‹_›
      rw [eC, hi, dx, iX hnm, Bool.and_false])
 refine dX (fun w14 sq => ?_)
 have xq := sq
 replace hs := hs.ext xq
 replace X := Q7x X xq; clear xq sq
 refine aB (aM rfl (aV (dO (aS (aN (aA rfl (aC rfl (aA rfl (aY rfl rfl (dM (by omega)) (aA rfl (aE rfl (aB (aS ⟨j + 1, (.cons rfl (.cons rfl (.cons rfl (.cons rfl (.cons rfl (.cons rfl (.cons rfl (.cons rfl (.cons rfl (.nil _)))))))))), ?_, ?_⟩)))))))))))))
 · exact ⟨by omega, (by rw [hj2, dz]; simp [iZ, *]), hs, X⟩
 · first | omega | (dsimp only; omega)
 refine aB (aM rfl (dD (dC (dC (eG (dO (aS (aN (aA rfl (aC rfl (aA rfl (aY rfl rfl (dM (by omega)) (aA rfl (aE rfl (aB (aS ⟨k + 1, (.cons rfl (.cons rfl (.nil _))), ?_, ?_⟩))))))))))))))))
 · skip
   exact ⟨by omega, (by
     have hpx : qS xs (k + 1) = some x := kV hx
     have htk : xs.take (k + 1) = xs.take k ++ [x] := by rw [List.take_add_one, hx]; rfl
     rw [hi, dx, hpx, htk]
     have hnm : iZ x.name (xs.take k) = false := by rw [hj2, List.drop_eq_nil_of_le (by simp; omega)]; rfl
     first | rw [kW ‹_›, aCo (by assumption) hnm] | rw [fA (by omega) hy, aCp (by assumption) (by omega) hnm]), hs, X⟩
 · first | omega | (dsimp only; omega)
 refine cO rfl (fun wq sq => bP rfl ⟨rfl, Q7r _⟩) (cO rfl (fun wq sq => aC rfl ⟨rfl, Q7r _⟩) (dK rfl rfl rfl rfl (dK rfl rfl rfl rfl (dK rfl rfl rfl rfl (dK rfl rfl rfl rfl (dK rfl rfl rfl rfl (dK rfl rfl rfl rfl (dK rfl rfl rfl rfl (dK rfl rfl rfl rfl (dK rfl rfl rfl rfl (dK rfl rfl rfl rfl (dK rfl rfl rfl rfl (dK rfl rfl rfl rfl (dK rfl rfl rfl rfl (dK rfl rfl rfl rfl (dK rfl rfl rfl rfl (dK rfl rfl rfl rfl (cO rfl (fun wq sq => aK rfl rfl ⟨rfl, Q7r _⟩) (dX (fun w15 sq => ?_))))))))))))))))))))
 have xq := sq
 replace hs := hs.ext xq
 replace X := Q7x X xq; clear xq sq
 refine aB (aQ rfl (aF (aA rfl (aE rfl (aB (aW (bN (dL (bN (bN (dL (bN (aL rfl rfl ?_)))))))))))))
 · skip
   refine ⟨congrArg Value.bool ?_, X⟩
   first
   | (rw [eC, hB]; rfl)
   | (rw [eC, hB, hi, bL hk, fW]; rfl)
   | (rw [eC, hi, bL hk, fW, iF]; rw [Bool.eq_iff_iff]; simp; done)
   | (rw [eC, hi, bL hk, fW, iF]; rw [Bool.eq_iff_iff]; simp; omega)
   | (rw [eC, hi, dx, lW (by assumption), Bool.and_false]; done)
   | (rw [eC, hi, dx, iX (by assumption), Bool.and_false]; done)
   | (rw [eC, hi, dx, fA (by omega) hy, lX (by omega), Bool.and_false]; done)
   | (have hnm := mI hz ‹_›
      rw [eC, hi, dx, iX hnm, Bool.and_false])
 refine aB (aM rfl (dD (dC (dC (eG (aS (aF (aA rfl (aE rfl (aB (aW (aL rfl rfl ?_))))))))))))
 · skip
   refine ⟨congrArg Value.bool ?_, X⟩
   first
   | (rw [eC, hB]; rfl)
   | (rw [eC, hB, hi, bL hk, fW]; rfl)
   | (rw [eC, hi, bL hk, fW, iF]; rw [Bool.eq_iff_iff]; simp; done)
   | (rw [eC, hi, bL hk, fW, iF]; rw [Bool.eq_iff_iff]; simp; omega)
   | (rw [eC, hi, dx, lW (by assumption), Bool.and_false]; done)
   | (rw [eC, hi, dx, iX (by assumption), Bool.and_false]; done)
   | (rw [eC, hi, dx, fA (by omega) hy, lX (by omega), Bool.and_false]; done)
   | (have hnm := mI hz ‹_›
      rw [eC, hi, dx, iX hnm, Bool.and_false])
 replace hs := hs.ext x1
 replace X := Q7x X x1; clear x1
 refine aA rfl (bP rfl (aB (aQ rfl (aF (aA rfl (aE rfl (aB (aW (bN (aL rfl rfl ?_))))))))))
 · skip
   refine ⟨congrArg Value.bool ?_, X⟩
   first
   | (rw [eC, hB]; rfl)
   | (rw [eC, hB, hi, bL hk, fW]; rfl)
   | (rw [eC, hi, bL hk, fW, iF]; rw [Bool.eq_iff_iff]; simp; done)
   | (rw [eC, hi, bL hk, fW, iF]; rw [Bool.eq_iff_iff]; simp; omega)
   | (rw [eC, hi, dx, lW (by assumption), Bool.and_false]; done)
   | (rw [eC, hi, dx, iX (by assumption), Bool.and_false]; done)
   | (rw [eC, hi, dx, fA (by omega) hy, lX (by omega), Bool.and_false]; done)
   | (have hnm := mI hz ‹_›
      rw [eC, hi, dx, iX hnm, Bool.and_false])
theorem aGE (y : NodeI) (gx : Nat) (x : NodeI) (w : World) (q : Blk w gx 59 x.cells) :
   Calls Tryz.prog 199 #[.agg y.cells.toArray, .pointer (some ⟨gx, 0, none⟩)] w (fF fun v w' => v = .bool (decide (y.name = x.name)) ∧ Ext w w') := by
 have X := Q7r w
 refine bJ (args := [.agg y.cells.toArray, .pointer (some ⟨gx, 0, none⟩)]) Tryz.func199 Tryz.ntmps199 rfl rfl (aF (aA rfl (eX rfl rfl ?_)))
 intro g4 w3 eg4 b1 x2 zg4
 have lg4 : w.heap.size ≤ g4 := Q7l X.size (Q7e eg4.symm)
 have ng4q := Nat.lt_of_lt_of_eq q.lt eg4.symm
 replace q := q.ext x2
 replace X := Q7x X x2; clear x2
 exact aA rfl (aE rfl (aB (aF (aA rfl (aG gG rfl rfl (aA rfl (aJ b1 yA rfl rfl (aA rfl (aG gG rfl rfl (aA rfl (aJ q yA rfl rfl (aA rfl (aAb rfl rfl (aA rfl (aE rfl (aB (aW (aL rfl rfl ⟨by rfl, X⟩))))))))))))))))))
theorem aJl (A : Option Addr) (B c : Nat) (xs : List NodeI) (gx : Nat) (x : NodeI) (w : World) (hs : Sl B w A (xs.flatMap NodeI.cells)) (hl : xs.length ≤ 1048576) (q : Blk w gx 59 x.cells) :
   Calls Tryz.prog 249 #[.slice A xs.length c, .func (.func 199) #[] #[.pointer (some ⟨gx, 0, none⟩)]] w (fF fun v w' => v = .int .i64 (aBj x.name 0 xs) ∧ Ext w w') := by
 have Bhs := hs.1
 have X := Q7r w
 refine bJ (args := [.slice A xs.length c, .func (.func 199) #[] #[.pointer (some ⟨gx, 0, none⟩)]]) Tryz.func249 Tryz.ntmps249 rfl rfl (aF (aA rfl (aE rfl (aB (aR (aF (aA rfl (aC rfl (aA rfl (bO Tryz.underlying24 rfl (aA rfl (aC rfl (aB (aX (dG (G := Nat) (fun k => [(0, .slice A xs.length c), (1, .func (.func 199) #[] #[.pointer (some ⟨gx, 0, none⟩)]), (7, .int .i64 (xs.length : Nat)), (8, .int .i64 (k : Nat))]) (fun k wr => k ≤ xs.length ∧ aBj x.name 0 xs = aBj x.name k (xs.drop k) ∧ Sl B wr A (xs.flatMap NodeI.cells) ∧ Blk wr gx 59 x.cells ∧ Ext w wr) (fun k => xs.length - k) 0 (.cons rfl (.cons rfl (.cons rfl (.cons rfl (.nil _))))) ?_ ?_)))))))))))))))
 · exact ⟨by omega, rfl, hs, q, X⟩
 clear hs q
 clear X
 rintro k wr ⟨hk0, hi, hs, q, X⟩
 refine aF (aA rfl (cU rfl rfl (fun hk => ?_) (fun hk => ?_)))
 obtain ⟨y, hx, dx⟩ := dR hk
 refine aB (aR (aQ rfl (aV (aS (aR (aX (aF (aA rfl (aC rfl (aA rfl (aE rfl (aB (aF (aA rfl (aC rfl (aA rfl (aC rfl (aA rfl (aC rfl (aA rfl (aU hs NodeI.len rfl lO rfl rfl rfl hx rfl (aA rfl (eE hs NodeI.len hx kE rfl (aA rfl (wF aKe rfl rfl (aGE _ _ _ _ q) (fun w2 hF x1 => ?_) (fun w2 hF x1 => ?_))))))))))))))))))))))))))
 replace hs := hs.ext x1
 replace q := q.ext x1
 replace X := Q7x X x1; clear x1
 refine aB (aQ rfl (aF (aA rfl (aC rfl (aA rfl (aE rfl (aB (aW (dL (bN (bN (dL (bN (aL rfl rfl ?_))))))))))))))
 · skip
   refine ⟨congrArg (Value.int .i64) ?_, X⟩
   first | (rw [hi, bL hk]; rfl) | (rw [hi, dx, aBj, if_pos (by simpa using hF)])
 replace hs := hs.ext x1
 replace q := q.ext x1
 replace X := Q7x X x1; clear x1
 refine aB (aM rfl (aV (dO (aS (aN (aA rfl (aY rfl rfl (dM (by omega)) (aA rfl (aC rfl (aB (aS ⟨k + 1, (.cons rfl (.cons rfl (.cons rfl (.cons rfl (.nil _))))), ?_, ?_⟩)))))))))))
 · exact ⟨by omega, (by rw [hi, dx, aBj, if_neg (by simpa using hF)]; rfl), hs, q, X⟩
 · first | omega | (dsimp only; omega)
 refine aB (aR (aM rfl (dD (dC (dC (eG (aS (aF (aA rfl (aE rfl (aB (aW (aL rfl rfl ?_)))))))))))))
 · skip
   refine ⟨congrArg (Value.int .i64) ?_, X⟩
   first | (rw [hi, bL hk]; rfl) | (rw [hi, dx, aBj, if_pos (by simpa using hF)])
theorem aIR (A : Option Addr) (B c : Nat) (xs : List NodeI) (gx : Nat) (x : NodeI) (w : World) (hs : Sl B w A (xs.flatMap NodeI.cells)) (hl : xs.length ≤ 1048576) (q : Blk w gx 59 x.cells) :
   Calls Tryz.prog 198 #[.slice A xs.length c, .func (.func 199) #[] #[.pointer (some ⟨gx, 0, none⟩)]] w (fF fun v w' => v = .bool (iZ x.name xs) ∧ Ext w w') := by
 have Bhs := hs.1
 have X := Q7r w
 refine bJ (args := [.slice A xs.length c, .func (.func 199) #[] #[.pointer (some ⟨gx, 0, none⟩)]]) Tryz.func198 Tryz.ntmps198 rfl rfl (aF (aA rfl (aE rfl (aB (aF (aA rfl (aC rfl (aA rfl (aC rfl (aA rfl (aT aKB rfl (aP (aJl _ _ _ _ gx x _ hs hl q) ?_))))))))))))
 rintro _ w2 ⟨rfl, x1⟩
 replace hs := hs.ext x1
 replace q := q.ext x1
 replace X := Q7x X x1; clear x1
 exact aA rfl (vX rfl rfl (aA rfl (aE rfl (aB (aW (aL rfl rfl ⟨congrArg Value.bool (aCS x.name xs 0 (by omega)), X⟩))))))
theorem aB1 (A : Option Addr) (B c : Nat) (xs : List NodeI) (hcap : xs.length ≤ c) (w : World) (hs : Sl B w A (xs.flatMap NodeI.cells)) (hl : xs.length ≤ 1048576) (hm : ∀ x ∈ xs, x.name.size ≤ 9223372036854775807) :
   Calls Tryz.prog 113 #[.slice A xs.length c] w (fF fun v w' => v = .bool (eC xs) ∧ Ext w w') := by
 have Bhs := hs.1
 have X := Q7r w
 refine bJ (args := [.slice A xs.length c]) Tryz.func113 Tryz.ntmps113 rfl rfl (aF (aA rfl (aE rfl (aB (aR (aF (aA rfl (aC rfl (aA rfl (bO Tryz.underlying24 rfl (aA rfl (aC rfl (aB (aX (dG (G := Nat) (fun k => [(0, .slice A xs.length c), (5, .slice A xs.length c), (6, .int .i64 (xs.length : Nat)), (7, .int .i64 (k : Nat))]) (fun k wr => k ≤ xs.length ∧ iV none [] xs = iV (qS xs k) (xs.take k) (xs.drop k) ∧ Sl B wr A (xs.flatMap NodeI.cells) ∧ Ext w wr) (fun k => xs.length - k) 0 (.cons rfl (.cons rfl (.cons rfl (.cons rfl (.nil _))))) ?_ ?_)))))))))))))))
 · exact ⟨by omega, rfl, hs, X⟩
 clear hs
 clear X
 rintro k wr ⟨hk0, hi, hs, X⟩
 refine aF (aA rfl (cU rfl rfl (fun hk => ?_) (fun hk => ?_)))
 obtain ⟨x, hx, dx⟩ := dR hk
 have hmx := hm x (List.mem_of_getElem? hx)
 refine aB (aR (aQ rfl (aV (aS (aR (aX (aF (aA rfl (aC rfl (aA rfl (aU hs NodeI.len rfl lO rfl rfl rfl hx rfl (aA rfl (eE hs NodeI.len hx kE rfl (aA rfl (dT kE ?_)))))))))))))))
 intro gX w2 egX bX x1 zgX
 have lgX : w.heap.size ≤ gX := Q7l X.size (Q7e egX.symm)
 have pgXhs := Q7l hs.1 (Q7e egX.symm)
 replace hs := hs.ext x1
 replace X := Q7x X x1; clear x1
 refine aA rfl (aE rfl (aA rfl (bK bX kE rfl rfl rfl rfl rfl rfl ?_)))
 intro w4 bY hg3 z5
 replace hs := hs.grown hg3 (by intro g hg; injection hg; omega)
 replace X := X.grown hg3 X.size (by intro g hg; injection hg; omega)
 clear hg3 bX
 refine aB (aR (eK [false, false, false, false, false, false, false, false, false, false, false, false, false, false, false, false, false, false] mixed (by kernel_rfl) (cO rfl (fun wq sq => dE (bY.ext sq) kE rfl rfl ⟨rfl, Q7r _⟩) (aG4 rfl (fun wq sq => aT aKd rfl (aFr _ _ hmx)) (fun h6 => ?_) (fun h6 => ?_)))))
 refine cO rfl (fun wq sq => bP rfl ⟨rfl, Q7r _⟩) (cO rfl (fun wq sq => aC rfl ⟨rfl, Q7r _⟩) (dQ rfl rfl rfl (fun wq sq => aC rfl ⟨rfl, Q7r _⟩) (qN rfl rfl rfl (fun wq sq => rZ rfl rfl ⟨rfl, Q7r _⟩) (fun hp => ?_) (fun hp => ?_))))
 obtain ⟨y, hy⟩ : ∃ y, xs[k - 1]? = some y := ⟨_, List.getElem?_eq_getElem (by omega)⟩
 refine dQ rfl rfl rfl (fun wq sq => aC rfl ⟨rfl, Q7r _⟩) (dQ rfl rfl rfl (fun wq sq => aC rfl ⟨rfl, Q7r _⟩) (dQ rfl rfl rfl (fun wq sq => aC rfl ⟨rfl, Q7r _⟩) (dQ rfl rfl rfl (fun wq sq => fZ rfl rfl (dM (by omega)) ⟨rfl, Q7r _⟩) (dQ rfl rfl rfl (fun wq sq => aU (hs.ext sq) NodeI.len rfl lO rfl rfl rfl hy (by omega) ⟨rfl, Q7r _⟩) (dQ rfl rfl rfl (fun wq sq => dF lC rfl ⟨rfl, Q7r _⟩) (dQ rfl rfl rfl (fun wq sq => eF (hs.ext sq) NodeI.len hy dB rfl rfl rfl ⟨rfl, Q7r _⟩) (dQ rfl rfl rfl (fun wq sq => aG lC rfl rfl ⟨rfl, Q7r _⟩) (dQ rfl rfl rfl (fun wq sq => aJ (bY.ext sq) dB rfl rfl ⟨rfl, Q7r _⟩) ?_))))))))
 refine qN rfl rfl rfl (fun wq sq => vX rfl rfl ⟨rfl, Q7r _⟩) (fun h10 => ?_) (fun h10 => ?_)
 refine dQ rfl rfl rfl (fun wq sq => aK rfl rfl ⟨rfl, Q7r _⟩) (cO rfl (fun wq sq => aK rfl rfl ⟨rfl, Q7r _⟩) (dX (fun w11 sq => ?_)))
 have xq := sq
 replace hs := hs.ext xq
 replace bY := bY.ext xq
 replace X := Q7x X xq; clear xq sq
 refine aB (aQ rfl (aF (aA rfl (aE rfl (aB (aW (bN (dL (bN (bN (dL (bN (aL rfl rfl ?_)))))))))))))
 · skip
   refine ⟨congrArg Value.bool ?_, X⟩
   first
   | (rw [eC, hB]; rfl)
   | (rw [eC, hB, hi, bL hk, fW]; rfl)
   | (rw [eC, hi, bL hk, fW, iF]; rw [Bool.eq_iff_iff]; simp; done)
   | (rw [eC, hi, bL hk, fW, iF]; rw [Bool.eq_iff_iff]; simp; omega)
   | (rw [eC, hi, dx, lW (by assumption), Bool.and_false]; done)
   | (rw [eC, hi, dx, iX (by assumption), Bool.and_false]; done)
   | (rw [eC, hi, dx, fA (by omega) hy, lX (by omega), Bool.and_false]; done)
 refine dQ rfl rfl rfl (fun wq sq => aK rfl rfl ⟨rfl, Q7r _⟩) (cO rfl (fun wq sq => aK rfl rfl ⟨rfl, Q7r _⟩) (dX (fun w12 sq => ?_)))
 have xq := sq
 replace hs := hs.ext xq
 replace bY := bY.ext xq
 replace X := Q7x X xq; clear xq sq
 refine aB (aM rfl (aV (aS (aF (aA rfl (aC rfl (aA rfl (aC rfl (aA rfl (yE lO hs NodeI.len rfl rfl rfl (by omega) ?_))))))))))
 intro Aq hq
 refine aA rfl (nR rfl (aA rfl (cV aHx rfl (by have := aIR Aq B c (xs.take k) gX x _ hq (by simp; omega) bY; rw [show (xs.take k).length = k by simp; omega] at this; exact this) (fun w14 hc x13 => ?_) (fun w14 hc x13 => ?_))))
 replace hs := hs.ext x13
 replace bY := bY.ext x13
 replace hq := hq.ext x13
 replace X := Q7x X x13
 refine aB (aQ rfl (aF (aA rfl (aE rfl (aB (aW (dL (bN (bN (dL (bN (aL rfl rfl ?_))))))))))))
 · skip
   refine ⟨congrArg Value.bool ?_, X⟩
   first
   | (rw [eC, hB]; rfl)
   | (rw [eC, hB, hi, bL hk, fW]; rfl)
   | (rw [eC, hi, bL hk, fW, iF]; rw [Bool.eq_iff_iff]; simp; done)
   | (rw [eC, hi, bL hk, fW, iF]; rw [Bool.eq_iff_iff]; simp; omega)
   | (rw [eC, hi, dx, lW (by assumption), Bool.and_false]; done)
   | (rw [eC, hi, dx, iX (by assumption), Bool.and_false]; done)
   | (rw [eC, hi, dx, fA (by omega) hy, lX (by omega), Bool.and_false]; done)
 replace hs := hs.ext x13
 replace bY := bY.ext x13
 replace hq := hq.ext x13
 replace X := Q7x X x13
 refine aB (aM rfl (aV (dO (aS (aN (aA rfl (aY rfl rfl (dM (by omega)) (aA rfl (aC rfl (aB (aS ⟨k + 1, (.cons rfl (.cons rfl (.cons rfl (.cons rfl (.nil _))))), ?_, ?_⟩)))))))))))
 · skip
   exact ⟨by omega, (by
     have hpx : qS xs (k + 1) = some x := kV hx
     have htk : xs.take (k + 1) = xs.take k ++ [x] := by rw [List.take_add_one, hx]; rfl
     rw [hi, dx, hpx, htk]
     have hnm : iZ x.name (xs.take k) = false := hc
     first | rw [kW ‹_›, aCo (by assumption) hnm] | rw [fA (by omega) hy, aCp (by assumption) (by omega) hnm]), hs, X⟩
 · first | omega | (dsimp only; omega)
 refine dQ rfl rfl rfl (fun wq sq => aC rfl ⟨rfl, Q7r _⟩) (dK rfl rfl rfl rfl (dK rfl rfl rfl rfl (dK rfl rfl rfl rfl (dK rfl rfl rfl rfl (dK rfl rfl rfl rfl (dK rfl rfl rfl rfl (dK rfl rfl rfl rfl (dK rfl rfl rfl rfl (dK rfl rfl rfl rfl (dQ rfl rfl rfl (fun wq sq => aK rfl rfl ⟨rfl, Q7r _⟩) (cO rfl (fun wq sq => aK rfl rfl ⟨rfl, Q7r _⟩) (dX (fun w15 sq => ?_)))))))))))))
 have xq := sq
 replace hs := hs.ext xq
 replace bY := bY.ext xq
 replace X := Q7x X xq; clear xq sq
 refine aB (aM rfl (aV (aS (aF (aA rfl (aC rfl (aA rfl (aC rfl (aA rfl (yE lO hs NodeI.len rfl rfl rfl (by omega) ?_))))))))))
 intro Aq hq
 refine aA rfl (nR rfl (aA rfl (cV aHx rfl (by have := aIR Aq B c (xs.take k) gX x _ hq (by simp; omega) bY; rw [show (xs.take k).length = k by simp; omega] at this; exact this) (fun w17 hc x16 => ?_) (fun w17 hc x16 => ?_))))
 replace hs := hs.ext x16
 replace bY := bY.ext x16
 replace hq := hq.ext x16
 replace X := Q7x X x16
 refine aB (aQ rfl (aF (aA rfl (aE rfl (aB (aW (dL (bN (bN (dL (bN (aL rfl rfl ?_))))))))))))
 · skip
   refine ⟨congrArg Value.bool ?_, X⟩
   first
   | (rw [eC, hB]; rfl)
   | (rw [eC, hB, hi, bL hk, fW]; rfl)
   | (rw [eC, hi, bL hk, fW, iF]; rw [Bool.eq_iff_iff]; simp; done)
   | (rw [eC, hi, bL hk, fW, iF]; rw [Bool.eq_iff_iff]; simp; omega)
   | (rw [eC, hi, dx, lW (by assumption), Bool.and_false]; done)
   | (rw [eC, hi, dx, iX (by assumption), Bool.and_false]; done)
   | (rw [eC, hi, dx, fA (by omega) hy, lX (by omega), Bool.and_false]; done)
 replace hs := hs.ext x16
 replace bY := bY.ext x16
 replace hq := hq.ext x16
 replace X := Q7x X x16
 refine aB (aM rfl (aV (dO (aS (aN (aA rfl (aY rfl rfl (dM (by omega)) (aA rfl (aC rfl (aB (aS ⟨k + 1, (.cons rfl (.cons rfl (.cons rfl (.cons rfl (.nil _))))), ?_, ?_⟩)))))))))))
 · skip
   exact ⟨by omega, (by
     have hpx : qS xs (k + 1) = some x := kV hx
     have htk : xs.take (k + 1) = xs.take k ++ [x] := by rw [List.take_add_one, hx]; rfl
     rw [hi, dx, hpx, htk]
     have hnm : iZ x.name (xs.take k) = false := hc
     first | rw [kW ‹_›, aCo (by assumption) hnm] | rw [fA (by omega) hy, aCp (by assumption) (by omega) hnm]), hs, X⟩
 · first | omega | (dsimp only; omega)
 refine cO rfl (fun wq sq => bP rfl ⟨rfl, Q7r _⟩) (cO rfl (fun wq sq => aC rfl ⟨rfl, Q7r _⟩) (dK rfl rfl rfl rfl (dK rfl rfl rfl rfl (dK rfl rfl rfl rfl (dK rfl rfl rfl rfl (dK rfl rfl rfl rfl (dK rfl rfl rfl rfl (dK rfl rfl rfl rfl (dK rfl rfl rfl rfl (dK rfl rfl rfl rfl (dK rfl rfl rfl rfl (dK rfl rfl rfl rfl (dK rfl rfl rfl rfl (dK rfl rfl rfl rfl (cO rfl (fun wq sq => aK rfl rfl ⟨rfl, Q7r _⟩) (dX (fun w18 sq => ?_)))))))))))))))))
 have xq := sq
 replace hs := hs.ext xq
 replace bY := bY.ext xq
 replace X := Q7x X xq; clear xq sq
 refine aB (aQ rfl (aF (aA rfl (aE rfl (aB (aW (bN (dL (bN (bN (dL (bN (aL rfl rfl ?_)))))))))))))
 · skip
   refine ⟨congrArg Value.bool ?_, X⟩
   first
   | (rw [eC, hB]; rfl)
   | (rw [eC, hB, hi, bL hk, fW]; rfl)
   | (rw [eC, hi, bL hk, fW, iF]; rw [Bool.eq_iff_iff]; simp; done)
   | (rw [eC, hi, bL hk, fW, iF]; rw [Bool.eq_iff_iff]; simp; omega)
   | (rw [eC, hi, dx, lW (by assumption), Bool.and_false]; done)
   | (rw [eC, hi, dx, iX (by assumption), Bool.and_false]; done)
   | (rw [eC, hi, dx, fA (by omega) hy, lX (by omega), Bool.and_false]; done)
 refine aB (aR (aM rfl (dD (dC (dC (eG (aS (aF (aA rfl (aC rfl (aA rfl (bO Tryz.underlying24 rfl (aA rfl (lV rfl rfl (fun h19 => ?_) (fun h19 => ?_)))))))))))))))
 refine aA rfl (aC rfl (aI rfl rfl rfl (aC rfl (aI rfl rfl rfl (bO Tryz.underlying24 rfl (aI rfl rfl rfl (qW rfl rfl (aA rfl (aK rfl rfl (aA rfl (aE rfl (aB (aW (aL rfl rfl ?_))))))))))))))
 · skip
   refine ⟨congrArg Value.bool ?_, X⟩
   first
   | (rw [eC, hB]; rfl)
   | (rw [eC, hB, hi, bL hk, fW]; rfl)
   | (rw [eC, hi, bL hk, fW, iF]; rw [Bool.eq_iff_iff]; simp; done)
   | (rw [eC, hi, bL hk, fW, iF]; rw [Bool.eq_iff_iff]; simp; omega)
   | (rw [eC, hi, dx, lW (by assumption), Bool.and_false]; done)
   | (rw [eC, hi, dx, iX (by assumption), Bool.and_false]; done)
   | (rw [eC, hi, dx, fA (by omega) hy, lX (by omega), Bool.and_false]; done)
 refine aA rfl (aC rfl (aH rfl rfl rfl rfl (aH rfl rfl rfl rfl (aH rfl rfl rfl rfl (aA rfl (aK rfl rfl (aA rfl (aE rfl (aB (aW (aL rfl rfl ?_)))))))))))
 · skip
   refine ⟨congrArg Value.bool ?_, X⟩
   first
   | (rw [eC, hB]; rfl)
   | (rw [eC, hB, hi, bL hk, fW]; rfl)
   | (rw [eC, hi, bL hk, fW, iF]; rw [Bool.eq_iff_iff]; simp; done)
   | (rw [eC, hi, bL hk, fW, iF]; rw [Bool.eq_iff_iff]; simp; omega)
   | (rw [eC, hi, dx, lW (by assumption), Bool.and_false]; done)
   | (rw [eC, hi, dx, iX (by assumption), Bool.and_false]; done)
   | (rw [eC, hi, dx, fA (by omega) hy, lX (by omega), Bool.and_false]; done)
theorem aDQ (A : Option Addr) (B c : Nat) (xs : List NodeI) (w : World) (hs : Sl B w A (xs.flatMap NodeI.cells)) (hN : eC xs = true) :
   Calls Tryz.prog 155 #[.slice A xs.length c] w (fF fun v w' => ∃ A' c', v = .slice A' (rA xs).length c' ∧ Own w' w.heap.size 2 1 A' (rA xs).length c' ((rA xs).flatMap eI) ∧ Ext w w') := by
 have hnl := tY hN
 have Bhs := hs.1
 have X := Q7r w
 refine bJ (args := [.slice A xs.length c]) Tryz.func155 Tryz.ntmps155 rfl rfl (aF (aA rfl (aE rfl (aB (aF (aA rfl (aC rfl (aA rfl (bO Tryz.underlying24 rfl (aA rfl (aO cQ dB rfl rfl rfl rfl rfl ?_)))))))))))
 intro gO w2 egO oO bbgO x1 zgO
 replace oO := Own.low oO X.size
 replace hs := hs.ext x1
 replace X := Q7x X x1; clear x1
 replace oO := oO.to (cs' := (wN xs 0).flatMap eI) rfl
 refine aA rfl (aE rfl (aB (aR (aF (aA rfl (aE rfl (aB (aX (dG (G := Nat × Nat × Option Addr × Nat) (fun ⟨k, n1, A1, c1⟩ => [(0, .slice A xs.length c), (2, .slice none 0 0), (3, .slice A1 n1 c1), (4, .int .i64 (k : Nat))]) (fun ⟨k, n1, A1, c1⟩ wr => k ≤ xs.length ∧ n1 = (wN xs k).length ∧ n1 ≤ 1 + 11 * k ∧ Own wr w.heap.size 2 1 A1 n1 c1 ((wN xs k).flatMap eI) ∧ Sl B wr A (xs.flatMap NodeI.cells) ∧ Ext w wr) (fun ⟨k, n1, A1, c1⟩ => xs.length - k) (0, 1, some ⟨gO, 0, none⟩, 1) (.cons rfl (.cons rfl (.cons rfl (.cons rfl (.nil _))))) ?_ ?_)))))))))
 · exact ⟨by omega, rfl, (Nat.le_refl _), oO, hs, X⟩
 clear hs oO
 clear X
 rintro ⟨k, n1, A1, c1⟩ wr ⟨hk0, hn, hn1, oO, hs, X⟩
 refine aR (aF (aA rfl (aC rfl (aA rfl (aC rfl (aA rfl (bO Tryz.underlying24 rfl (aA rfl (cU rfl rfl (fun hk => ?_) (fun hk => ?_))))))))))
 obtain ⟨x, hx, dx⟩ := dR hk
 have hok := nW hN x (List.mem_of_getElem? hx)
 have hxi := pP hok
 have hxs := oH hok
 refine aB (aQ rfl (aV (aS (aR (aX (aF (aA rfl (aC rfl (aA rfl (aC rfl (aA rfl (aU hs NodeI.len rfl lO rfl rfl rfl hx rfl (aA rfl (eE hs NodeI.len hx kE rfl (aA rfl (dT kE ?_))))))))))))))))
 intro gX w4 egX bX x3 zgX
 have lgX : w.heap.size ≤ gX := Q7l X.size (Q7e egX.symm)
 have pgXhs := Q7l hs.1 (Q7e egX.symm)
 replace oO := oO.ext x3
 replace hs := hs.ext x3
 replace X := Q7x X x3; clear x3
 refine aA rfl (bK bX kE rfl rfl rfl rfl rfl rfl ?_)
 intro w6 bY hg5 z7
 replace oO := oO.grownBlk hg5 (Own.neT oO bX (by decide))
 replace hs := hs.grown hg5 (by intro g hg; injection hg; omega)
 replace X := X.grown hg5 X.size (by intro g hg; injection hg; omega)
 clear hg5 bX
 refine aB (aF (aA rfl (aE rfl (aB (aR (aF (aA rfl (aG sO rfl rfl (aA rfl (aJ bY xO rfl rfl ?_))))))))))
 cases hpa : x.passive
 refine aB (aM rfl (aV (aS (aF (aA rfl (aC rfl (aA rfl (aG lC rfl rfl (aA rfl (aJ bY dB rfl rfl (aA rfl (aG lD rfl rfl (aA rfl (aJ bY dB rfl rfl (aA rfl (gK rfl rfl (by omega) (vK (by omega)) (aA rfl (aG lD rfl rfl (aA rfl (aJ bY dB rfl rfl (aA rfl (fK rfl rfl (by omega) (qZ (by omega)) (aA rfl (aC rfl (aA rfl (aG gG rfl rfl (aA rfl (aJ bY yA rfl rfl (aA rfl (jY Tryz.underlying9 rfl (aA rfl (aO cQ dB rfl rfl rfl rfl rfl ?_))))))))))))))))))))))))))))))))
 intro g8 w10 eg8 oS bbg8 x9 zg8
 replace oS := Own.low oS X.size
 replace oO := oO.ext x9
 replace hs := hs.ext x9
 replace bY := bY.ext x9
 replace X := Q7x X x9; clear x9
 refine aA rfl (cH (ts := #[]) oO X.size oS.sl (by first | rfl | simp) (by first | exact List.all_eq_true.1 rfl | simp [Value.oneCell']) cQ dB rfl rfl rfl rfl (by omega) (by omega) ?_)
 intro AoM coM w12 oM hg11
 replace hs := hs.grown hg11 (fun g hg => Q7l Bhs (Own.lt oO hg).1)
 replace bY := bY.grown hg11 (fun h => Own.neT oO bY (by decide) h.symm)
 replace X := X.grown hg11 X.size (fun g hg => (Own.lt oO hg).1)
 clear hg11
 replace oM := oM.to (cs' := ((wN xs k).flatMap eI ++ (lB x).flatMap eI)) (by simp only [lB, hpa]; rfl)
 refine aA rfl (aE rfl (aB (aF (aA rfl (aE rfl (aB (aX (dG (G := Nat × Nat × Option Addr × Nat) (fun ⟨j, n2, A2, c2⟩ => [(0, .slice A xs.length c), (2, .slice none 0 0), (4, .int .i64 (k : Nat)), (5, .pointer (some ⟨gX, 0, none⟩)), (6, .int .i64 0), (11, .int .i64 (k : Nat)), (12, .slice A xs.length c), (13, .int .i64 (xs.length : Nat)), (17, .slice A xs.length c), (18, .int .i64 (k : Nat)), (23, .slice A1 n1 c1), (32, .int .i64 0), (3, .slice A2 n2 c2), (7, .int .i64 (j : Nat))]) (fun ⟨j, n2, A2, c2⟩ wr => j ≤ x.name.size ∧ n2 = ((wN xs k ++ lB x) ++ (nZ x).take j).length ∧ n2 ≤ 1 + 11 * k + 5 + j ∧ Own wr w.heap.size 2 1 A2 n2 c2 (((wN xs k ++ lB x) ++ (nZ x).take j).flatMap eI) ∧ Sl B wr A (xs.flatMap NodeI.cells) ∧ Blk wr gX 59 x.cells ∧ Ext w wr) (fun ⟨j, n2, A2, c2⟩ => x.name.size - j) (0, n1 + 5, AoM, coM) (.cons rfl (.cons rfl (.cons rfl (.cons rfl (.cons rfl (.cons rfl (.cons rfl (.cons rfl (.cons rfl (.cons rfl (.cons rfl (.cons rfl (.cons rfl (.cons rfl (.nil _))))))))))))))) ?_ ?_))))))))
 · exact ⟨by omega, (by rw [List.take_zero, List.append_nil, List.length_append, ← hn]; rfl), (by omega), oM.to (by rw [List.take_zero, List.append_nil, List.flatMap_append]; try rfl), hs, bY, X⟩
 clear hs bY oM
 clear X
 rintro ⟨j, n2, A2, c2⟩ wr ⟨hj0, hn2, hn3, oP, hs, bY, X⟩
 refine aR (aF (aA rfl (aC rfl (aA rfl (aG gG rfl rfl (aA rfl (aJ bY yA rfl rfl (aA rfl (jY Tryz.underlying9 rfl (aA rfl (cU rfl rfl (fun hj => ?_) (fun hj => ?_))))))))))))
 have hjl : j < x.name.size := by omega
 refine aB (aQ rfl (aV (aS (aR (aX (aN (aA rfl (aC rfl (aA rfl (aG gG rfl rfl (aA rfl (aJ bY yA rfl rfl (aA rfl (aC rfl (aA rfl (jQ Tryz.underlying9 rfl rfl (by omega) (by omega) (aA rfl (jC Tryz.underlying5 Tryz.underlying2 rfl (dM (by have := (x.name.data.toList.getD ((j : Int)).toNat 0).toNat_lt; omega)) (aA rfl (aO cQ dB rfl rfl rfl rfl rfl ?_))))))))))))))))))))
 intro g13 w15 eg13 oT bbg13 x14 zg13
 replace oT := Own.low oT X.size
 replace oP := oP.ext x14
 replace hs := hs.ext x14
 replace bY := bY.ext x14
 replace X := Q7x X x14
 refine aA rfl (cH (ts := #[]) oP X.size oT.sl (by first | rfl | simp) (by first | exact List.all_eq_true.1 rfl | simp [Value.oneCell']) cQ dB rfl rfl rfl rfl (by omega) (by omega) ?_)
 intro AoQ coQ w17 oQ hg16
 replace hs := hs.grown hg16 (fun g hg => Q7l Bhs (Own.lt oP hg).1)
 replace bY := bY.grown hg16 (fun h => Own.neT oP bY (by decide) h.symm)
 replace X := X.grown hg16 X.size (fun g hg => (Own.lt oP hg).1)
 clear hg16
 refine aA rfl (aE rfl (aB (dO (aS (aN (aA rfl (aC rfl (aA rfl (aY rfl rfl (dM (by omega)) (aA rfl (aE rfl (aB (aS ⟨(j + 1, n2 + 1, AoQ, coQ), (.cons rfl (.cons rfl (.cons rfl (.cons rfl (.cons rfl (.cons rfl (.cons rfl (.cons rfl (.cons rfl (.cons rfl (.cons rfl (.cons rfl (.cons rfl (.cons rfl (.nil _))))))))))))))), ?_, ?_⟩)))))))))))))
 · exact ⟨by omega, (by rw [hn2, kJ (lR hjl)]; simp only [List.length_append, List.length_cons, List.length_nil]; try omega), (by omega), oQ.to (by rw [kJ (lR hjl), ← List.append_assoc]; exact Eq.symm (by rw [List.flatMap_append]; rfl)), hs, bY, X⟩
 · first | omega | (dsimp only; omega)
 have hje : j = x.name.size := by omega
 refine aB (aM rfl (dD (dC (dC (eG (dO (aS (aN (aA rfl (aC rfl (aA rfl (aY rfl rfl (dM (by omega)) (aA rfl (aE rfl (aB (aS ⟨(k + 1, n2, A2, c2), (.cons rfl (.cons rfl (.cons rfl (.cons rfl (.nil _))))), ?_, ?_⟩))))))))))))))))
 · exact ⟨by omega, (by rw [lS hx, List.length_append, hn2, List.length_append, hje, ← jA, List.take_length]), (by omega), oP.to (by rw [lS hx, hje, ← jA, List.take_length]), hs, X⟩
 · first | omega | (dsimp only; omega)
 refine aB (aQ rfl (aN (aA rfl (aE rfl (aB (aS (aF (aA rfl (aC rfl (aA rfl (aG lC rfl rfl (aA rfl (aJ bY dB rfl rfl (aA rfl (aG lD rfl rfl (aA rfl (aJ bY dB rfl rfl (aA rfl (gK rfl rfl (by omega) (vK (by omega)) (aA rfl (aG lD rfl rfl (aA rfl (aJ bY dB rfl rfl (aA rfl (fK rfl rfl (by omega) (qZ (by omega)) (aA rfl (aC rfl (aA rfl (aG gG rfl rfl (aA rfl (aJ bY yA rfl rfl (aA rfl (jY Tryz.underlying9 rfl (aA rfl (aO cQ dB rfl rfl rfl rfl rfl ?_)))))))))))))))))))))))))))))))))))
 intro g18 w20 eg18 oS bbg18 x19 zg18
 replace oS := Own.low oS X.size
 replace oO := oO.ext x19
 replace hs := hs.ext x19
 replace bY := bY.ext x19
 replace X := Q7x X x19
 refine aA rfl (cH (ts := #[]) oO X.size oS.sl (by first | rfl | simp) (by first | exact List.all_eq_true.1 rfl | simp [Value.oneCell']) cQ dB rfl rfl rfl rfl (by omega) (by omega) ?_)
 intro AoM coM w22 oM hg21
 replace hs := hs.grown hg21 (fun g hg => Q7l Bhs (Own.lt oO hg).1)
 replace bY := bY.grown hg21 (fun h => Own.neT oO bY (by decide) h.symm)
 replace X := X.grown hg21 X.size (fun g hg => (Own.lt oO hg).1)
 clear hg21
 replace oM := oM.to (cs' := ((wN xs k).flatMap eI ++ (lB x).flatMap eI)) (by simp only [lB, hpa]; rfl)
 refine aA rfl (aE rfl (aB (aF (aA rfl (aE rfl (aB (aX (dG (G := Nat × Nat × Option Addr × Nat) (fun ⟨j, n2, A2, c2⟩ => [(0, .slice A xs.length c), (2, .slice none 0 0), (4, .int .i64 (k : Nat)), (5, .pointer (some ⟨gX, 0, none⟩)), (6, .int .i64 1), (11, .int .i64 (k : Nat)), (12, .slice A xs.length c), (13, .int .i64 (xs.length : Nat)), (17, .slice A xs.length c), (18, .int .i64 (k : Nat)), (23, .slice A1 n1 c1), (32, .int .i64 1), (3, .slice A2 n2 c2), (7, .int .i64 (j : Nat))]) (fun ⟨j, n2, A2, c2⟩ wr => j ≤ x.name.size ∧ n2 = ((wN xs k ++ lB x) ++ (nZ x).take j).length ∧ n2 ≤ 1 + 11 * k + 5 + j ∧ Own wr w.heap.size 2 1 A2 n2 c2 (((wN xs k ++ lB x) ++ (nZ x).take j).flatMap eI) ∧ Sl B wr A (xs.flatMap NodeI.cells) ∧ Blk wr gX 59 x.cells ∧ Ext w wr) (fun ⟨j, n2, A2, c2⟩ => x.name.size - j) (0, n1 + 5, AoM, coM) (.cons rfl (.cons rfl (.cons rfl (.cons rfl (.cons rfl (.cons rfl (.cons rfl (.cons rfl (.cons rfl (.cons rfl (.cons rfl (.cons rfl (.cons rfl (.cons rfl (.nil _))))))))))))))) ?_ ?_))))))))
 · exact ⟨by omega, (by rw [List.take_zero, List.append_nil, List.length_append, ← hn]; rfl), (by omega), oM.to (by rw [List.take_zero, List.append_nil, List.flatMap_append]; try rfl), hs, bY, X⟩
 clear hs bY oM
 clear X
 rintro ⟨j, n2, A2, c2⟩ wr ⟨hj0, hn2, hn3, oP, hs, bY, X⟩
 refine aR (aF (aA rfl (aC rfl (aA rfl (aG gG rfl rfl (aA rfl (aJ bY yA rfl rfl (aA rfl (jY Tryz.underlying9 rfl (aA rfl (cU rfl rfl (fun hj => ?_) (fun hj => ?_))))))))))))
 have hjl : j < x.name.size := by omega
 refine aB (aQ rfl (aV (aS (aR (aX (aN (aA rfl (aC rfl (aA rfl (aG gG rfl rfl (aA rfl (aJ bY yA rfl rfl (aA rfl (aC rfl (aA rfl (jQ Tryz.underlying9 rfl rfl (by omega) (by omega) (aA rfl (jC Tryz.underlying5 Tryz.underlying2 rfl (dM (by have := (x.name.data.toList.getD ((j : Int)).toNat 0).toNat_lt; omega)) (aA rfl (aO cQ dB rfl rfl rfl rfl rfl ?_))))))))))))))))))))
 intro g23 w25 eg23 oT bbg23 x24 zg23
 replace oT := Own.low oT X.size
 replace oP := oP.ext x24
 replace hs := hs.ext x24
 replace bY := bY.ext x24
 replace X := Q7x X x24
 refine aA rfl (cH (ts := #[]) oP X.size oT.sl (by first | rfl | simp) (by first | exact List.all_eq_true.1 rfl | simp [Value.oneCell']) cQ dB rfl rfl rfl rfl (by omega) (by omega) ?_)
 intro AoQ coQ w27 oQ hg26
 replace hs := hs.grown hg26 (fun g hg => Q7l Bhs (Own.lt oP hg).1)
 replace bY := bY.grown hg26 (fun h => Own.neT oP bY (by decide) h.symm)
 replace X := X.grown hg26 X.size (fun g hg => (Own.lt oP hg).1)
 clear hg26
 refine aA rfl (aE rfl (aB (dO (aS (aN (aA rfl (aC rfl (aA rfl (aY rfl rfl (dM (by omega)) (aA rfl (aE rfl (aB (aS ⟨(j + 1, n2 + 1, AoQ, coQ), (.cons rfl (.cons rfl (.cons rfl (.cons rfl (.cons rfl (.cons rfl (.cons rfl (.cons rfl (.cons rfl (.cons rfl (.cons rfl (.cons rfl (.cons rfl (.cons rfl (.nil _))))))))))))))), ?_, ?_⟩)))))))))))))
 · exact ⟨by omega, (by rw [hn2, kJ (lR hjl)]; simp only [List.length_append, List.length_cons, List.length_nil]; try omega), (by omega), oQ.to (by rw [kJ (lR hjl), ← List.append_assoc]; exact Eq.symm (by rw [List.flatMap_append]; rfl)), hs, bY, X⟩
 · first | omega | (dsimp only; omega)
 have hje : j = x.name.size := by omega
 refine aB (aM rfl (dD (dC (dC (eG (dO (aS (aN (aA rfl (aC rfl (aA rfl (aY rfl rfl (dM (by omega)) (aA rfl (aE rfl (aB (aS ⟨(k + 1, n2, A2, c2), (.cons rfl (.cons rfl (.cons rfl (.cons rfl (.nil _))))), ?_, ?_⟩))))))))))))))))
 · exact ⟨by omega, (by rw [lS hx, List.length_append, hn2, List.length_append, hje, ← jA, List.take_length]), (by omega), oP.to (by rw [lS hx, hje, ← jA, List.take_length]), hs, X⟩
 · first | omega | (dsimp only; omega)
 refine aB (aM rfl (dD (dC (dC (eG (aS (aF (aA rfl (aC rfl (aA rfl (aE rfl (aB (aW (aL rfl rfl ?_))))))))))))))
 · skip
   rw [show k = xs.length by omega] at oO hn
   unfold rA
   rw [← hn]
   exact ⟨_, _, rfl, oO, X⟩
theorem nC (A : Option Addr) (B c : Nat) (xs : List NodeI) (w : World) (hs : Sl B w A (xs.flatMap NodeI.cells)) (hN : eC xs = true) :
   Calls Tryz.prog 148 #[.slice A xs.length c] w (fF fun v w' => ∃ A' c', v = .slice A' (rA xs).length c' ∧ Own w' w.heap.size 2 1 A' (rA xs).length c' ((rA xs).flatMap eI) ∧ Ext w w') := by
 have hnl := tY hN
 have Bhs := hs.1
 have X := Q7r w
 refine bJ (args := [.slice A xs.length c]) Tryz.func148 Tryz.ntmps148 rfl rfl (aF (aA rfl (aE rfl (aB (aF (aA rfl (aC rfl (aA rfl (bO Tryz.underlying24 rfl (aA rfl (aO cQ dB rfl rfl rfl rfl rfl ?_)))))))))))
 intro gO w2 egO oO bbgO x1 zgO
 replace oO := Own.low oO X.size
 replace hs := hs.ext x1
 replace X := Q7x X x1; clear x1
 replace oO := oO.to (cs' := (wN xs 0).flatMap eI) rfl
 refine aA rfl (aE rfl (aB (aR (aF (aA rfl (aC rfl (aA rfl (bO Tryz.underlying24 rfl (aA rfl (aC rfl (aB (aX (dG (G := Nat × Nat × Option Addr × Nat) (fun ⟨k, n1, A1, c1⟩ => [(2, .slice none 0 0), (10, .slice A xs.length c), (11, .int .i64 (xs.length : Nat)), (3, .slice A1 n1 c1), (12, .int .i64 (k : Nat))]) (fun ⟨k, n1, A1, c1⟩ wr => k ≤ xs.length ∧ n1 = (wN xs k).length ∧ n1 ≤ 1 + 11 * k ∧ Own wr w.heap.size 2 1 A1 n1 c1 ((wN xs k).flatMap eI) ∧ Sl B wr A (xs.flatMap NodeI.cells) ∧ Ext w wr) (fun ⟨k, n1, A1, c1⟩ => xs.length - k) (0, 1, some ⟨gO, 0, none⟩, 1) (.cons rfl (.cons rfl (.cons rfl (.cons rfl (.cons rfl (.nil _)))))) ?_ ?_)))))))))))))
 · exact ⟨by omega, rfl, (Nat.le_refl _), oO, hs, X⟩
 clear hs oO
 clear X
 rintro ⟨k, n1, A1, c1⟩ wr ⟨hk0, hn, hn1, oO, hs, X⟩
 refine aF (aA rfl (cU rfl rfl (fun hk => ?_) (fun hk => ?_)))
 obtain ⟨x, hx, dx⟩ := dR hk
 have hok := nW hN x (List.mem_of_getElem? hx)
 have hxi := pP hok
 have hxs := oH hok
 refine aB (aR (aQ rfl (aV (aS (aR (aX (aF (aA rfl (aU hs NodeI.len rfl lO rfl rfl rfl hx rfl (aA rfl (eE hs NodeI.len hx kE rfl (aA rfl (dT kE ?_)))))))))))))
 intro gX w4 egX bX x3 zgX
 have lgX : w.heap.size ≤ gX := Q7l X.size (Q7e egX.symm)
 have pgXhs := Q7l hs.1 (Q7e egX.symm)
 replace oO := oO.ext x3
 replace hs := hs.ext x3
 replace X := Q7x X x3; clear x3
 refine aA rfl (bK bX kE rfl rfl rfl rfl rfl rfl ?_)
 intro w6 bY hg5 z7
 replace oO := oO.grownBlk hg5 (Own.neT oO bX (by decide))
 replace hs := hs.grown hg5 (by intro g hg; injection hg; omega)
 replace X := X.grown hg5 X.size (by intro g hg; injection hg; omega)
 clear hg5 bX
 refine aB (eK [false, false, false, false, false, false, false, false, false, false, false, false, false, false, false, true] mixed (by kernel_rfl) (cO rfl (fun wq sq => aC rfl ⟨rfl, Q7r _⟩) (cO rfl (fun wq sq => aG lC rfl rfl ⟨rfl, Q7r _⟩) (cO rfl (fun wq sq => aJ (bY.ext sq) dB rfl rfl ⟨rfl, Q7r _⟩) (cO rfl (fun wq sq => aG lD rfl rfl ⟨rfl, Q7r _⟩) (cO rfl (fun wq sq => aJ (bY.ext sq) dB rfl rfl ⟨rfl, Q7r _⟩) (cO rfl (fun wq sq => gK rfl rfl (by omega) (vK (by omega)) ⟨rfl, Q7r _⟩) (cO rfl (fun wq sq => aG lD rfl rfl ⟨rfl, Q7r _⟩) (cO rfl (fun wq sq => aJ (bY.ext sq) dB rfl rfl ⟨rfl, Q7r _⟩) ?_)))))))))
 refine cO rfl (fun wq sq => fK rfl rfl (by omega) (qZ (by omega)) ⟨rfl, Q7r _⟩) (cO rfl (fun wq sq => aG sO rfl rfl ⟨rfl, Q7r _⟩) (cO rfl (fun wq sq => aJ (bY.ext sq) xO rfl rfl ⟨rfl, Q7r _⟩) (cO rfl (fun wq sq => aT aHy rfl (aFi _ _)) (cO rfl (fun wq sq => aG gG rfl rfl ⟨rfl, Q7r _⟩) (cO rfl (fun wq sq => aJ (bY.ext sq) yA rfl rfl ⟨rfl, Q7r _⟩) (cO rfl (fun wq sq => jY Tryz.underlying9 rfl ⟨rfl, Q7r _⟩) (zL (fun gS : Nat => Value.slice (some ⟨gS, 0, none⟩) 5 5) (fun gS wz => Own wz w.heap.size 2 1 (some ⟨gS, 0, none⟩) 5 5 ((lB x).flatMap eI)) 0 rfl ⟨lT, fun _ _ _ h k => h.ext k, fun wq sq => aO cQ dB rfl rfl rfl rfl rfl (fun g w' hg ho hb hx hz => ⟨g, rfl, Own.low ho (Q7l X.size (sq).size), hx⟩)⟩ ?_)))))))
 intro gS
 refine dX (fun w9 sq => ?_)
 have xq := sq.1
 have oS := sq.2
 replace oO := oO.ext xq
 replace hs := hs.ext xq
 replace bY := bY.ext xq
 replace X := Q7x X xq; clear xq sq
 refine aA rfl (cH (ts := #[]) oO X.size oS.sl (by first | rfl | simp) (by first | exact List.all_eq_true.1 rfl | simp [Value.oneCell']) cQ dB rfl rfl rfl rfl (by omega) (by omega) ?_)
 intro AoM coM w11 oM hg10
 replace hs := hs.grown hg10 (fun g hg => Q7l Bhs (Own.lt oO hg).1)
 replace bY := bY.grown hg10 (fun h => Own.neT oO bY (by decide) h.symm)
 replace X := X.grown hg10 X.size (fun g hg => (Own.lt oO hg).1)
 clear hg10
 refine aA rfl (aE rfl (aB (aF (aA rfl (aG gG rfl rfl (aA rfl (aJ bY yA rfl rfl (aA rfl (jY Tryz.underlying9 rfl (aA rfl (aC rfl (aB (aX (dG (G := Nat × Nat × Option Addr × Nat) (fun ⟨j, n2, A2, c2⟩ => [(2, .slice none 0 0), (5, .pointer (some ⟨gX, 0, none⟩)), (10, .slice A xs.length c), (11, .int .i64 (xs.length : Nat)), (12, .int .i64 (k : Nat)), (16, .slice A1 n1 c1), (35, .int .i64 (x.name.size : Nat)), (3, .slice A2 n2 c2), (36, .int .i64 (j : Nat))]) (fun ⟨j, n2, A2, c2⟩ wr => j ≤ x.name.size ∧ n2 = ((wN xs k ++ lB x) ++ (nZ x).take j).length ∧ n2 ≤ 1 + 11 * k + 5 + j ∧ Own wr w.heap.size 2 1 A2 n2 c2 (((wN xs k ++ lB x) ++ (nZ x).take j).flatMap eI) ∧ Sl B wr A (xs.flatMap NodeI.cells) ∧ Blk wr gX 59 x.cells ∧ Ext w wr) (fun ⟨j, n2, A2, c2⟩ => x.name.size - j) (0, n1 + 5, AoM, coM) (.cons rfl (.cons rfl (.cons rfl (.cons rfl (.cons rfl (.cons rfl (.cons rfl (.cons rfl (.cons rfl (.nil _)))))))))) ?_ ?_))))))))))))))
 · exact ⟨by omega, (by rw [List.take_zero, List.append_nil, List.length_append, ← hn]; rfl), (by omega), oM.to (by rw [List.take_zero, List.append_nil, List.flatMap_append]; try rfl), hs, bY, X⟩
 clear hs bY oM
 clear X
 rintro ⟨j, n2, A2, c2⟩ wr ⟨hj0, hn2, hn3, oP, hs, bY, X⟩
 refine aF (aA rfl (cU rfl rfl (fun hj => ?_) (fun hj => ?_)))
 have hjl : j < x.name.size := by omega
 refine aB (aR (aQ rfl (aV (aS (aR (aX (aF (aA rfl (aC rfl (aA rfl (aE rfl (aB (aN (aA rfl (aC rfl (aA rfl (aG gG rfl rfl (aA rfl (aJ bY yA rfl rfl (aA rfl (aC rfl (aA rfl (jQ Tryz.underlying9 rfl rfl (by omega) (by omega) (aA rfl (jC Tryz.underlying5 Tryz.underlying2 rfl (dM (by have := (x.name.data.toList.getD ((j : Int)).toNat 0).toNat_lt; omega)) (aA rfl (aO cQ dB rfl rfl rfl rfl rfl ?_)))))))))))))))))))))))))))
 intro g12 w14 eg12 oT bbg12 x13 zg12
 replace oT := Own.low oT X.size
 replace oP := oP.ext x13
 replace hs := hs.ext x13
 replace bY := bY.ext x13
 replace X := Q7x X x13
 refine aA rfl (cH (ts := #[]) oP X.size oT.sl (by first | rfl | simp) (by first | exact List.all_eq_true.1 rfl | simp [Value.oneCell']) cQ dB rfl rfl rfl rfl (by omega) (by omega) ?_)
 intro AoQ coQ w16 oQ hg15
 replace hs := hs.grown hg15 (fun g hg => Q7l Bhs (Own.lt oP hg).1)
 replace bY := bY.grown hg15 (fun h => Own.neT oP bY (by decide) h.symm)
 replace X := X.grown hg15 X.size (fun g hg => (Own.lt oP hg).1)
 clear hg15
 refine aA rfl (aE rfl (aB (dO (aS (aN (aA rfl (aY rfl rfl (dM (by omega)) (aA rfl (aC rfl (aB (aS ⟨(j + 1, n2 + 1, AoQ, coQ), (.cons rfl (.cons rfl (.cons rfl (.cons rfl (.cons rfl (.cons rfl (.cons rfl (.cons rfl (.cons rfl (.nil _)))))))))), ?_, ?_⟩)))))))))))
 · exact ⟨by omega, (by rw [hn2, kJ (lR hjl)]; simp only [List.length_append, List.length_cons, List.length_nil]; try omega), (by omega), oQ.to (by rw [kJ (lR hjl), ← List.append_assoc]; exact Eq.symm (by rw [List.flatMap_append]; rfl)), hs, bY, X⟩
 · first | omega | (dsimp only; omega)
 have hje : j = x.name.size := by omega
 refine aB (aR (aM rfl (dD (dC (dC (eG (dO (aS (aN (aA rfl (aY rfl rfl (dM (by omega)) (aA rfl (aC rfl (aB (aS ⟨(k + 1, n2, A2, c2), (.cons rfl (.cons rfl (.cons rfl (.cons rfl (.cons rfl (.nil _)))))), ?_, ?_⟩)))))))))))))))
 · exact ⟨by omega, (by rw [lS hx, List.length_append, hn2, List.length_append, hje, ← jA, List.take_length]), (by omega), oP.to (by rw [lS hx, hje, ← jA, List.take_length]), hs, X⟩
 · first | omega | (dsimp only; omega)
 refine aB (aR (aM rfl (dD (dC (dC (eG (aS (aF (aA rfl (aC rfl (aA rfl (aE rfl (aB (aW (aL rfl rfl ?_)))))))))))))))
 · skip
   rw [show k = xs.length by omega] at oO hn
   unfold rA
   rw [← hn]
   exact ⟨_, _, rfl, oO, X⟩
end Go.Proofs.YtdoibplhbdkapaaGreatDoor
