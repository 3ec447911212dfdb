/- Parts. No condition. -/
import Derived.Test.YtdoibplhbdkapaaGreatDoorDOP5
import Derived.Test.YtdoibplhbdkapaaGreatDoorDOP3
import Derived.Test.YtdoibplhbdkapaaGreatDoorDOP4
namespace Go.Proofs.YtdoibplhbdkapaaGreatDoor
open Go.RowKit
set_option linter.unusedVariables false
set_option linter.unusedSimpArgs false
set_option maxRecDepth 20000
theorem aEB (A : Option Addr) (B c : Nat) (xs : List Int) (n : Int) (w : World) (hs : Sl B w A (xs.flatMap eI)) (hl : xs.length ≤ 1048576) (hn : 0 ≤ n ∧ n ≤ 1048576) :
   Calls Tryz.prog 259 #[.slice A xs.length c, .int .i64 n] w (fF fun v w' => v = .bool (gE xs n) ∧ Ext w w') := by
 have Bhs := hs.1
 have X := Q7r w
 refine bJ (args := [.slice A xs.length c, .int .i64 n]) Tryz.func259 Tryz.ntmps259 rfl rfl (aF (aA rfl (aE rfl (aB (aR (aF (aA rfl (aE rfl (aB (aX (dG (G := Nat) (fun k => [(0, .slice A xs.length c), (1, .int .i64 n), (5, .int .i64 (k : Nat))]) (fun k wr => k ≤ xs.length ∧ fJ n none xs = fJ n (qS xs k) (xs.drop k) ∧ Sl B wr A (xs.flatMap eI) ∧ Ext w wr) (fun k => xs.length - k) 0 (.cons rfl (.cons rfl (.cons rfl (.nil _)))) ?_ ?_)))))))))))
 · exact ⟨by omega, rfl, hs, X⟩
 clear hs
 clear X
 rintro k wr ⟨hk0, hi, hs, X⟩
 refine aR (aF (aA rfl (aC rfl (aA rfl (aC rfl (aA rfl (bO Tryz.underlying30 rfl (aA rfl (cU rfl rfl (fun hk => ?_) (fun hk => ?_))))))))))
 obtain ⟨x, hx, dx⟩ := dR hk
 refine aB (aQ rfl (aV (aS (aR (aX (eK [false, false, false, false, false, false, false, false, false, false, false, false, false, false, false, false, false, false, false, false, false, false, false, false] mixed (by kernel_rfl) (cO rfl (fun wq sq => aC rfl ⟨rfl, Q7r _⟩) (cO rfl (fun wq sq => aC rfl ⟨rfl, Q7r _⟩) (cO rfl (fun wq sq => aU (hs.ext sq) bI rfl cQ rfl rfl rfl hx rfl ⟨rfl, Q7r _⟩) (cO rfl (fun wq sq => bS (hs.ext sq) bI hx dB rfl rfl rfl ⟨rfl, Q7r _⟩) (cO rfl (fun wq sq => aC rfl ⟨rfl, Q7r _⟩) (cO rfl (fun wq sq => fZ rfl rfl (dM (by omega)) ⟨rfl, Q7r _⟩) (aG4 rfl (fun wq sq => aT kC rfl (iQ _ _ _ _)) (fun h1 => ?_) (fun h1 => ?_))))))))))))))
 refine cO rfl (fun wq sq => bP rfl ⟨rfl, Q7r _⟩) (cO rfl (fun wq sq => aC rfl ⟨rfl, Q7r _⟩) (dQ rfl rfl rfl (fun wq sq => aC rfl ⟨rfl, Q7r _⟩) (qN rfl rfl rfl (fun wq sq => rZ rfl rfl ⟨rfl, Q7r _⟩) (fun hp => ?_) (fun hp => ?_))))
 obtain ⟨y, hy⟩ : ∃ y, xs[k - 1]? = some y := ⟨_, List.getElem?_eq_getElem (by omega)⟩
 refine dQ rfl rfl rfl (fun wq sq => aC rfl ⟨rfl, Q7r _⟩) (dQ rfl rfl rfl (fun wq sq => aC rfl ⟨rfl, Q7r _⟩) (dQ rfl rfl rfl (fun wq sq => aC rfl ⟨rfl, Q7r _⟩) (dQ rfl rfl rfl (fun wq sq => aU (hs.ext sq) bI rfl cQ rfl rfl rfl hx rfl ⟨rfl, Q7r _⟩) (dQ rfl rfl rfl (fun wq sq => bS (hs.ext sq) bI hx dB rfl rfl rfl ⟨rfl, Q7r _⟩) (dQ rfl rfl rfl (fun wq sq => aC rfl ⟨rfl, Q7r _⟩) (dQ rfl rfl rfl (fun wq sq => aC rfl ⟨rfl, Q7r _⟩) (dQ rfl rfl rfl (fun wq sq => fZ rfl rfl (dM (by omega)) ⟨rfl, Q7r _⟩) (dQ rfl rfl rfl (fun wq sq => aU (hs.ext sq) bI rfl cQ rfl rfl rfl hy (by omega) ⟨rfl, Q7r _⟩) (dQ rfl rfl rfl (fun wq sq => bS (hs.ext sq) bI hy dB rfl rfl rfl ⟨rfl, Q7r _⟩) ?_)))))))))
 refine qN rfl rfl rfl (fun wq sq => qW rfl rfl ⟨rfl, Q7r _⟩) (fun h4 => ?_) (fun h4 => ?_)
 refine dQ rfl rfl rfl (fun wq sq => aK rfl rfl ⟨rfl, Q7r _⟩) (cO rfl (fun wq sq => aK rfl rfl ⟨rfl, Q7r _⟩) (dX (fun w5 sq => ?_)))
 have xq := sq
 replace hs := hs.ext xq
 replace X := Q7x X xq; clear xq sq
 refine aB (aQ rfl (aF (aA rfl (aE rfl (aB (aW (dL (bN (bN (dL (bN (aL rfl rfl ?_))))))))))))
 · skip
   refine ⟨congrArg Value.bool ?_, X⟩
   first
   | (rw [gE, hi, bL hk, nI])
   | (rw [gE, hi, dx, hZ (by assumption)])
   | (rw [gE, hi, dx, hZ (by simp [iF]; omega)])
   | (rw [gE, hi, dx, fA ‹_› hy, mC (by omega)])
 refine dQ rfl rfl rfl (fun wq sq => aK rfl rfl ⟨rfl, Q7r _⟩) (cO rfl (fun wq sq => aK rfl rfl ⟨rfl, Q7r _⟩) (dX (fun w6 sq => ?_)))
 have xq := sq
 replace hs := hs.ext xq
 replace X := Q7x X xq; clear xq sq
 refine aB (aM rfl (aV (dO (aS (aN (aA rfl (aC rfl (aA rfl (aY rfl rfl (dM (by omega)) (aA rfl (aE rfl (aB (aS ⟨k + 1, (.cons rfl (.cons rfl (.cons rfl (.nil _)))), ?_, ?_⟩)))))))))))))
 · skip
   exact ⟨by omega, (by
     rw [hi, dx, kV hx]
     have hB : iF x 0 (n - 1) = true := by first | assumption | (rw [eO]; omega)
     first | rw [kW ‹_›, uS hB] | rw [fA ‹_› hy, uT hB (by omega)]), hs, X⟩
 · first | omega | (dsimp only; omega)
 refine dQ rfl rfl rfl (fun wq sq => aC rfl ⟨rfl, Q7r _⟩) (dK rfl rfl rfl rfl (dK rfl rfl rfl rfl (dK rfl rfl rfl rfl (dK rfl rfl rfl rfl (dK rfl rfl rfl rfl (dK rfl rfl rfl rfl (dK rfl rfl rfl rfl (dK rfl rfl rfl rfl (dK rfl rfl rfl rfl (dK rfl rfl rfl rfl (dQ rfl rfl rfl (fun wq sq => aK rfl rfl ⟨rfl, Q7r _⟩) (cO rfl (fun wq sq => aK rfl rfl ⟨rfl, Q7r _⟩) (dX (fun w7 sq => ?_))))))))))))))
 have xq := sq
 replace hs := hs.ext xq
 replace X := Q7x X xq; clear xq sq
 refine aB (aM rfl (aV (dO (aS (aN (aA rfl (aC rfl (aA rfl (aY rfl rfl (dM (by omega)) (aA rfl (aE rfl (aB (aS ⟨k + 1, (.cons rfl (.cons rfl (.cons rfl (.nil _)))), ?_, ?_⟩)))))))))))))
 · skip
   exact ⟨by omega, (by
     rw [hi, dx, kV hx]
     have hB : iF x 0 (n - 1) = true := by first | assumption | (rw [eO]; omega)
     first | rw [kW ‹_›, uS hB] | rw [fA ‹_› hy, uT hB (by omega)]), hs, X⟩
 · first | omega | (dsimp only; omega)
 refine cO rfl (fun wq sq => bP rfl ⟨rfl, Q7r _⟩) (cO rfl (fun wq sq => aC rfl ⟨rfl, Q7r _⟩) (dK rfl rfl rfl rfl (dK rfl rfl rfl rfl (dK rfl rfl rfl rfl (dK rfl rfl rfl rfl (dK rfl rfl rfl rfl (dK rfl rfl rfl rfl (dK rfl rfl rfl rfl (dK rfl rfl rfl rfl (dK rfl rfl rfl rfl (dK rfl rfl rfl rfl (dK rfl rfl rfl rfl (dK rfl rfl rfl rfl (dK rfl rfl rfl rfl (dK rfl rfl rfl rfl (cO rfl (fun wq sq => aK rfl rfl ⟨rfl, Q7r _⟩) (dX (fun w9 sq => ?_))))))))))))))))))
 have xq := sq
 replace hs := hs.ext xq
 replace X := Q7x X xq; clear xq sq
 refine aB (aQ rfl (aF (aA rfl (aE rfl (aB (aW (dL (bN (bN (dL (bN (aL rfl rfl ?_))))))))))))
 · skip
   refine ⟨congrArg Value.bool ?_, X⟩
   first
   | (rw [gE, hi, bL hk, nI])
   | (rw [gE, hi, dx, hZ (by assumption)])
   | (rw [gE, hi, dx, hZ (by simp [iF]; omega)])
   | (rw [gE, hi, dx, fA ‹_› hy, mC (by omega)])
 refine aB (aM rfl (dD (dC (dC (eG (aS (aF (aA rfl (aE rfl (aB (aW (aL rfl rfl ?_))))))))))))
 · skip
   refine ⟨congrArg Value.bool ?_, X⟩
   first
   | (rw [gE, hi, bL hk, nI])
   | (rw [gE, hi, dx, hZ (by assumption)])
   | (rw [gE, hi, dx, hZ (by simp [iF]; omega)])
   | (rw [gE, hi, dx, fA ‹_› hy, mC (by omega)])
theorem aEC (A : Option Addr) (B c : Nat) (xs : List Int) (n : Int) (w : World) (hs : Sl B w A (xs.flatMap eI)) (hl : xs.length ≤ 1048576) (hn : 0 ≤ n ∧ n ≤ 1048576) :
   Calls Tryz.prog 236 #[.slice A xs.length c, .int .i64 n] w (fF fun v w' => v = .bool (gE xs n) ∧ Ext w w') := by
 have Bhs := hs.1
 have X := Q7r w
 refine bJ (args := [.slice A xs.length c, .int .i64 n]) Tryz.func236 Tryz.ntmps236 rfl rfl (aF (aA rfl (aE rfl (aB (aR (aF (aA rfl (aC rfl (aA rfl (bO Tryz.underlying30 rfl (aA rfl (aC rfl (aB (aX (dG (G := Nat) (fun k => [(0, .slice A xs.length c), (1, .int .i64 n), (7, .slice A xs.length c), (8, .int .i64 (xs.length : Nat)), (9, .int .i64 (k : Nat))]) (fun k wr => k ≤ xs.length ∧ fJ n none xs = fJ n (qS xs k) (xs.drop k) ∧ Sl B wr A (xs.flatMap eI) ∧ Ext w wr) (fun k => xs.length - k) 0 (.cons rfl (.cons rfl (.cons rfl (.cons rfl (.cons rfl (.nil _)))))) ?_ ?_)))))))))))))))
 · exact ⟨by omega, rfl, hs, X⟩
 clear hs
 clear X
 rintro k wr ⟨hk0, hi, hs, X⟩
 refine aF (aA rfl (cU rfl rfl (fun hk => ?_) (fun hk => ?_)))
 obtain ⟨x, hx, dx⟩ := dR hk
 refine aB (aR (aQ rfl (aV (aS (aR (aX (aF (aA rfl (aC rfl (aA rfl (aU hs bI rfl cQ rfl rfl rfl hx rfl (aA rfl (bS hs bI hx dB rfl rfl rfl (aA rfl (aE rfl (aA rfl (aE rfl (aB (aF (aA rfl (aC rfl (aA rfl (cU rfl rfl (fun h1 => ?_) (fun h1 => ?_))))))))))))))))))))))))
 refine aA rfl (aC rfl (aH rfl rfl rfl rfl (aH rfl rfl rfl rfl (aH rfl rfl rfl rfl (aA rfl (aK rfl rfl (aA rfl (aC rfl (aH rfl rfl rfl rfl (aH rfl rfl rfl rfl (aH rfl rfl rfl rfl (eD rfl rfl rfl (eD rfl rfl rfl (eD rfl rfl rfl (eD rfl rfl rfl (eD rfl rfl rfl (eD rfl rfl rfl (eD rfl rfl rfl (aH rfl rfl rfl rfl (aA rfl (aK rfl rfl (aB (aQ rfl (aF (aA rfl (aE rfl (aB (aW (dL (bN (bN (dL (bN (aL rfl rfl ?_))))))))))))))))))))))))))))))))))
 · skip
   refine ⟨congrArg Value.bool ?_, X⟩
   first
   | (rw [gE, hi, bL hk, nI])
   | (rw [gE, hi, dx, hZ (by assumption)])
   | (rw [gE, hi, dx, hZ (by simp [iF]; omega)])
   | (rw [gE, hi, dx, fA ‹_› hy, mC (by omega)])
 refine aA rfl (aC rfl (aI rfl rfl rfl (aC rfl (aI rfl rfl rfl (aC rfl (aI rfl rfl rfl (lV rfl rfl (fun h2 => ?_) (fun h2 => ?_))))))))
 refine aA rfl (aK rfl rfl (aA rfl (aC rfl (aH rfl rfl rfl rfl (aH rfl rfl rfl rfl (aH rfl rfl rfl rfl (eD rfl rfl rfl (eD rfl rfl rfl (eD rfl rfl rfl (eD rfl rfl rfl (eD rfl rfl rfl (eD rfl rfl rfl (eD rfl rfl rfl (aH rfl rfl rfl rfl (aA rfl (aK rfl rfl (aB (aQ rfl (aF (aA rfl (aE rfl (aB (aW (dL (bN (bN (dL (bN (aL rfl rfl ?_)))))))))))))))))))))))))))))
 · skip
   refine ⟨congrArg Value.bool ?_, X⟩
   first
   | (rw [gE, hi, bL hk, nI])
   | (rw [gE, hi, dx, hZ (by assumption)])
   | (rw [gE, hi, dx, hZ (by simp [iF]; omega)])
   | (rw [gE, hi, dx, fA ‹_› hy, mC (by omega)])
 refine aA rfl (aK rfl rfl (aA rfl (aC rfl (aI rfl rfl rfl (aC rfl (aI rfl rfl rfl (fG rfl rfl (fun hp => ?_) (fun hp => ?_))))))))
 obtain ⟨y, hy⟩ : ∃ y, xs[k - 1]? = some y := ⟨_, List.getElem?_eq_getElem (by omega)⟩
 refine aI rfl rfl rfl (aC rfl (aI rfl rfl rfl (aC rfl (aI rfl rfl rfl (aC rfl (aI rfl rfl rfl (fZ rfl rfl (dM (by omega)) (aI rfl rfl rfl (aU hs bI rfl cQ rfl rfl rfl hy (by omega) (aI rfl rfl rfl (bS hs bI hy dB rfl rfl rfl (aI rfl rfl rfl (aC rfl (aI rfl rfl rfl (lV rfl rfl (fun h3 => ?_) (fun h3 => ?_))))))))))))))))
 refine aI rfl rfl rfl (aK rfl rfl (aA rfl (aK rfl rfl (aB (aQ rfl (aF (aA rfl (aE rfl (aB (aW (dL (bN (bN (dL (bN (aL rfl rfl ?_))))))))))))))))
 · skip
   refine ⟨congrArg Value.bool ?_, X⟩
   first
   | (rw [gE, hi, bL hk, nI])
   | (rw [gE, hi, dx, hZ (by assumption)])
   | (rw [gE, hi, dx, hZ (by simp [iF]; omega)])
   | (rw [gE, hi, dx, fA ‹_› hy, mC (by omega)])
 refine aI rfl rfl rfl (aK rfl rfl (aA rfl (aK rfl rfl (aB (aM rfl (aV (dO (aS (aN (aA rfl (aY rfl rfl (dM (by omega)) (aA rfl (aC rfl (aB (aS ⟨k + 1, (.cons rfl (.cons rfl (.cons rfl (.cons rfl (.cons rfl (.nil _)))))), ?_, ?_⟩)))))))))))))))
 · skip
   exact ⟨by omega, (by
     rw [hi, dx, kV hx]
     have hB : iF x 0 (n - 1) = true := by first | assumption | (rw [eO]; omega)
     first | rw [kW ‹_›, uS hB] | rw [fA ‹_› hy, uT hB (by omega)]), hs, X⟩
 · first | omega | (dsimp only; omega)
 refine aI rfl rfl rfl (aC rfl (aH rfl rfl rfl rfl (aH rfl rfl rfl rfl (aH rfl rfl rfl rfl (aH rfl rfl rfl rfl (aH rfl rfl rfl rfl (aH rfl rfl rfl rfl (aH rfl rfl rfl rfl (aI rfl rfl rfl (aK rfl rfl (aA rfl (aK rfl rfl (aB (aM rfl (aV (dO (aS (aN (aA rfl (aY rfl rfl (dM (by omega)) (aA rfl (aC rfl (aB (aS ⟨k + 1, (.cons rfl (.cons rfl (.cons rfl (.cons rfl (.cons rfl (.nil _)))))), ?_, ?_⟩))))))))))))))))))))))))
 · skip
   exact ⟨by omega, (by
     rw [hi, dx, kV hx]
     have hB : iF x 0 (n - 1) = true := by first | assumption | (rw [eO]; omega)
     first | rw [kW ‹_›, uS hB] | rw [fA ‹_› hy, uT hB (by omega)]), hs, X⟩
 · first | omega | (dsimp only; omega)
 refine aB (aR (aM rfl (dD (dC (dC (eG (aS (aF (aA rfl (aE rfl (aB (aW (aL rfl rfl ?_)))))))))))))
 · skip
   refine ⟨congrArg Value.bool ?_, X⟩
   first
   | (rw [gE, hi, bL hk, nI])
   | (rw [gE, hi, dx, hZ (by assumption)])
   | (rw [gE, hi, dx, hZ (by simp [iF]; omega)])
   | (rw [gE, hi, dx, fA ‹_› hy, mC (by omega)])
theorem aDx (A : Option Addr) (B c : Nat) (xs : List Int) (n : Int) (w : World) (hs : Sl B w A (xs.flatMap eI)) (hl : xs.length ≤ 1048576) :
   Calls Tryz.prog 99 #[.slice A xs.length c, .int .i64 n] w (fF fun v w' => v = .bool (vF xs n) ∧ Ext w w') := by
 have Bhs := hs.1
 have X := Q7r w
 refine bJ (args := [.slice A xs.length c, .int .i64 n]) Tryz.func99 Tryz.ntmps99 rfl rfl (aF (aA rfl (aE rfl (aB (aR (aF (aA rfl (aE rfl (aB (aX (dG (G := Nat) (fun k => [(0, .slice A xs.length c), (1, .int .i64 n), (5, .int .i64 (k : Nat))]) (fun k wr => k ≤ xs.length ∧ vF xs n = vF (xs.drop k) n ∧ Sl B wr A (xs.flatMap eI) ∧ Ext w wr) (fun k => xs.length - k) 0 (.cons rfl (.cons rfl (.cons rfl (.nil _)))) ?_ ?_)))))))))))
 · exact ⟨by omega, rfl, hs, X⟩
 clear hs
 clear X
 rintro k wr ⟨hk0, hi, hs, X⟩
 refine aR (aF (aA rfl (aC rfl (aA rfl (aC rfl (aA rfl (bO Tryz.underlying30 rfl (aA rfl (cU rfl rfl (fun hk => ?_) (fun hk => ?_))))))))))
 obtain ⟨x, hx, dx⟩ := dR hk
 refine aB (aQ rfl (aV (aS (aR (aX (aF (aA rfl (aC rfl (aA rfl (aC rfl (aA rfl (aU hs bI rfl cQ rfl rfl rfl hx rfl (aA rfl (bS hs bI hx dB rfl rfl rfl (aA rfl (aC rfl (aA rfl (dP rfl rfl (fun h1 => ?_) (fun h1 => ?_)))))))))))))))))))
 refine aB (aQ rfl (aF (aA rfl (aE rfl (aB (aW (dL (bN (bN (dL (bN (aL rfl rfl ?_))))))))))))
 · skip
   refine ⟨congrArg Value.bool ?_, X⟩
   first | (rw [hi, bL hk]; rfl) | (rw [hi, dx]; simp [vF, *])
 refine aB (aM rfl (aV (dO (aS (aN (aA rfl (aC rfl (aA rfl (aY rfl rfl (dM (by omega)) (aA rfl (aE rfl (aB (aS ⟨k + 1, (.cons rfl (.cons rfl (.cons rfl (.nil _)))), ?_, ?_⟩)))))))))))))
 · exact ⟨by omega, (by rw [hi, dx]; simp [vF, *]), hs, X⟩
 · first | omega | (dsimp only; omega)
 refine aB (aM rfl (dD (dC (dC (eG (aS (aF (aA rfl (aE rfl (aB (aW (aL rfl rfl ?_))))))))))))
 · skip
   refine ⟨congrArg Value.bool ?_, X⟩
   first | (rw [hi, bL hk]; rfl) | (rw [hi, dx]; simp [vF, *])
theorem aIF (A : Option Addr) (B c : Nat) (xs : List Int) (n : Int) (w : World) (hs : Sl B w A (xs.flatMap eI)) (hl : xs.length ≤ 1048576) :
   Calls Tryz.prog 167 #[.slice A xs.length c, .int .i64 n] w (fF fun v w' => v = .int .i64 (aBl n 0 xs) ∧ Ext w w') := by
 have Bhs := hs.1
 have X := Q7r w
 refine bJ (args := [.slice A xs.length c, .int .i64 n]) Tryz.func167 Tryz.ntmps167 rfl rfl (aF (aA rfl (aE rfl (aB (aR (aF (aA rfl (aC rfl (aA rfl (bO Tryz.underlying30 rfl (aA rfl (aC rfl (aB (aX (dG (G := Nat) (fun k => [(0, .slice A xs.length c), (1, .int .i64 n), (7, .int .i64 (xs.length : Nat)), (8, .int .i64 (k : Nat))]) (fun k wr => k ≤ xs.length ∧ aBl n 0 xs = aBl n k (xs.drop k) ∧ Sl B wr A (xs.flatMap eI) ∧ Ext w wr) (fun k => xs.length - k) 0 (.cons rfl (.cons rfl (.cons rfl (.cons rfl (.nil _))))) ?_ ?_)))))))))))))))
 · exact ⟨by omega, rfl, hs, X⟩
 clear hs
 clear X
 rintro k wr ⟨hk0, hi, hs, X⟩
 refine aF (aA rfl (cU rfl rfl (fun hk => ?_) (fun hk => ?_)))
 obtain ⟨x, hx, dx⟩ := dR hk
 refine aB (aR (aQ rfl (aV (aS (aR (aX (aF (aA rfl (aC rfl (aA rfl (aE rfl (aB (aF (aA rfl (aC rfl (aA rfl (aC rfl (aA rfl (aC rfl (aA rfl (aU hs bI rfl cQ rfl rfl rfl hx rfl (aA rfl (bS hs bI hx dB rfl rfl rfl (aA rfl (dP rfl rfl (fun h1 => ?_) (fun h1 => ?_))))))))))))))))))))))))))
 refine aB (aQ rfl (aF (aA rfl (aC rfl (aA rfl (aE rfl (aB (aW (dL (bN (bN (dL (bN (aL rfl rfl ?_))))))))))))))
 · skip
   refine ⟨congrArg (Value.int .i64) ?_, X⟩
   first | (rw [hi, bL hk]; rfl) | (rw [hi, dx, aBl, if_pos (by omega)])
 refine aB (aM rfl (aV (dO (aS (aN (aA rfl (aY rfl rfl (dM (by omega)) (aA rfl (aC rfl (aB (aS ⟨k + 1, (.cons rfl (.cons rfl (.cons rfl (.cons rfl (.nil _))))), ?_, ?_⟩)))))))))))
 · exact ⟨by omega, (by rw [hi, dx, aBl, if_neg (by omega)]; rfl), hs, X⟩
 · first | omega | (dsimp only; omega)
 refine aB (aR (aM rfl (dD (dC (dC (eG (aS (aF (aA rfl (aE rfl (aB (aW (aL rfl rfl ?_)))))))))))))
 · skip
   refine ⟨congrArg (Value.int .i64) ?_, X⟩
   first | (rw [hi, bL hk]; rfl) | (rw [hi, dx, aBl, if_pos (by omega)])
theorem aA4 (A : Option Addr) (B c : Nat) (xs : List Int) (n : Int) (w : World) (hs : Sl B w A (xs.flatMap eI)) (hl : xs.length ≤ 1048576) :
   Calls Tryz.prog 83 #[.slice A xs.length c, .int .i64 n] w (fF fun v w' => v = .bool (vF xs n) ∧ Ext w w') := by
 have Bhs := hs.1
 have X := Q7r w
 refine bJ (args := [.slice A xs.length c, .int .i64 n]) Tryz.func83 Tryz.ntmps83 rfl rfl (aF (aA rfl (aE rfl (aB (aF (aA rfl (aC rfl (aA rfl (aC rfl (aA rfl (aT aJY rfl (aP (aIF _ _ _ _ _ _ hs hl) ?_))))))))))))
 rintro _ w2 ⟨rfl, x1⟩
 replace hs := hs.ext x1
 replace X := Q7x X x1; clear x1
 exact aA rfl (vX rfl rfl (aA rfl (aE rfl (aB (aW (aL rfl rfl ⟨congrArg Value.bool (aDk n xs 0 (by omega)), X⟩))))))
theorem aDy (A : Option Addr) (B c : Nat) (xs : List Int) (lo hi0 : Int) (w : World) (hs : Sl B w A (xs.flatMap eI)) (hl : xs.length ≤ 1048576) :
   Calls Tryz.prog 159 #[.slice A xs.length c, .int .i64 lo, .int .i64 hi0] w (fF fun v w' => v = .bool (xs.all fun x => iF x lo hi0) ∧ Ext w w') := by
 have Bhs := hs.1
 have X := Q7r w
 refine bJ (args := [.slice A xs.length c, .int .i64 lo, .int .i64 hi0]) Tryz.func159 Tryz.ntmps159 rfl rfl (aF (aA rfl (aE rfl (aB (aR (aF (aA rfl (aC rfl (aA rfl (bO Tryz.underlying30 rfl (aA rfl (aC rfl (aB (aX (dG (G := Nat) (fun k => [(1, .int .i64 lo), (2, .int .i64 hi0), (9, .slice A xs.length c), (10, .int .i64 (xs.length : Nat)), (11, .int .i64 (k : Nat))]) (fun k wr => k ≤ xs.length ∧ (xs.all fun x => iF x lo hi0) = ((xs.drop k).all fun x => iF x lo hi0) ∧ Sl B wr A (xs.flatMap eI) ∧ Ext w wr) (fun k => xs.length - k) 0 (.cons rfl (.cons rfl (.cons rfl (.cons rfl (.cons rfl (.nil _)))))) ?_ ?_)))))))))))))))
 · exact ⟨by omega, rfl, hs, X⟩
 clear hs
 clear X
 rintro k wr ⟨hk0, hi, hs, X⟩
 refine aF (aA rfl (cU rfl rfl (fun hk => ?_) (fun hk => ?_)))
 obtain ⟨x, hx, dx⟩ := dR hk
 refine aB (aR (aQ rfl (aV (aS (aR (aX (aF (aA rfl (aU hs bI rfl cQ rfl rfl rfl hx rfl (aA rfl (bS hs bI hx dB rfl rfl rfl (aA rfl (aE rfl (aB (aF (aA rfl (aC rfl (aA rfl (aC rfl (aA rfl (cU rfl rfl (fun h1 => ?_) (fun h1 => ?_))))))))))))))))))))))
 refine aA rfl (aC rfl (aH rfl rfl rfl rfl (aH rfl rfl rfl rfl (aH rfl rfl rfl rfl (aA rfl (aK rfl rfl (aB (aQ rfl (aF (aA rfl (aE rfl (aB (aW (dL (bN (bN (dL (bN (aL rfl rfl ?_)))))))))))))))))))
 · skip
   refine ⟨congrArg Value.bool ?_, X⟩
   first | (rw [hi, bL hk]; rfl) | (rw [hi, dx, List.all_cons, iF, decide_eq_false (by omega)]; rfl) | (rw [hi, dx, List.all_cons, iF, decide_eq_true (by omega), decide_eq_false (by omega)]; rfl)
 refine aA rfl (aC rfl (aI rfl rfl rfl (aC rfl (aI rfl rfl rfl (aC rfl (aI rfl rfl rfl (fG rfl rfl (fun h2 => ?_) (fun h2 => ?_))))))))
 refine aA rfl (aK rfl rfl (aB (aQ rfl (aF (aA rfl (aE rfl (aB (aW (dL (bN (bN (dL (bN (aL rfl rfl ?_))))))))))))))
 · skip
   refine ⟨congrArg Value.bool ?_, X⟩
   first | (rw [hi, bL hk]; rfl) | (rw [hi, dx, List.all_cons, iF, decide_eq_false (by omega)]; rfl) | (rw [hi, dx, List.all_cons, iF, decide_eq_true (by omega), decide_eq_false (by omega)]; rfl)
 refine aA rfl (aK rfl rfl (aB (aM rfl (aV (dO (aS (aN (aA rfl (aY rfl rfl (dM (by omega)) (aA rfl (aC rfl (aB (aS ⟨k + 1, (.cons rfl (.cons rfl (.cons rfl (.cons rfl (.cons rfl (.nil _)))))), ?_, ?_⟩)))))))))))))
 · exact ⟨by omega, (by rw [hi, dx, List.all_cons, iF, decide_eq_true (by omega), decide_eq_true (by omega)]; rfl), hs, X⟩
 · first | omega | (dsimp only; omega)
 refine aB (aR (aM rfl (dD (dC (dC (eG (aS (aF (aA rfl (aE rfl (aB (aW (aL rfl rfl ?_)))))))))))))
 · skip
   refine ⟨congrArg Value.bool ?_, X⟩
   first | (rw [hi, bL hk]; rfl) | (rw [hi, dx, List.all_cons, iF, decide_eq_false (by omega)]; rfl) | (rw [hi, dx, List.all_cons, iF, decide_eq_true (by omega), decide_eq_false (by omega)]; rfl)
theorem aLG {z : Int} (h : 0 ≤ z ∧ z ≤ 1099511627776) : IntKind.i64.wrap (z * 2 ^ (min ((1 : Int).toNat) IntKind.i64.bits)) = z * 2 := by
 rw [show (2 : Int) ^ (min ((1 : Int).toNat) IntKind.i64.bits) = 2 from rfl]; exact dM (by omega)
theorem aJe {x z : Int} {j : Nat} (e : z = (j : Int)) (h : 0 ≤ x) (hj : j ≤ 63) : x.fdiv (2 ^ (min z.toNat IntKind.i64.bits)) = x / 2 ^ j := by subst e; exact aIA h hj
theorem wuz {n : Int} (h : 0 ≤ n ∧ n ≤ 9223372036854775807) : IntKind.u64.wrap n = n := by
 have h1 : n % 18446744073709551616 = n := by omega
 simp [IntKind.wrap, IntKind.bits, IntKind.signed, h1]
theorem u8v {xs : List Int} (hb : ∀ x ∈ xs, 0 ≤ x ∧ x ≤ 255) {k : Nat} {x : Int} (h : xs[k]? = some x) : 0 ≤ x ∧ x ≤ 255 := hb x (List.mem_of_getElem? h)
theorem aCz {r x : Int} (h : 0 ≤ r ∧ r < 16777216) : aEj r x = if (x + r / 8388608) % 2 = 1 then aDo (r * 2 % 16777216) else r * 2 % 16777216 := by
 unfold aEj
 rw [show r * 2 % 16777216 = r % 8388608 * 2 by omega, Int.add_comm]
theorem Sl.takeI {B : Nat} {w : World} {A : Option Addr} {xs : List Int} (h : Sl B w A (xs.flatMap eI)) (k : Nat) : Sl B w A ((xs.take k).flatMap eI) := by
 have e := mK (enc := eI) bI xs k
 rw [Nat.mul_one] at e
 rw [← e]
 exact ⟨h.1, fun j v hj => by
   rw [List.getElem?_take] at hj
   split at hj
   · exact h.2 j v hj
   · cases hj⟩
theorem aHL (a : Addr) (i j : Nat) : (a.add i).add j = a.add (i + j) := by
 unfold Addr.add
 by_cases hi : i = 0 <;> by_cases hj : j = 0 <;> simp [hi, hj, Nat.add_assoc]
theorem Sl.dropI {B : Nat} {w : World} {A : Option Addr} {xs : List Int} (h : Sl B w A (xs.flatMap eI)) (k : Nat) : Sl B w (A.map (·.add k)) ((xs.drop k).flatMap eI) := by
 have e := yC (enc := eI) bI xs k
 rw [Nat.mul_one] at e
 rw [← e]
 refine ⟨h.1, fun j v hj => ?_⟩
 rw [List.getElem?_drop] at hj
 obtain ⟨h1, h2, h3⟩ := h.2 _ v hj
 cases A with
 | none => cases h1
 | some a =>
   refine ⟨rfl, ?_, ?_⟩
   · show (a.add k).block < B
     rw [mO]; exact h2
   · show w.cell? ((a.add k).add j) = some v
     rw [aHL]; exact h3
theorem Sl.dropX {B c : Nat} {w : World} {A : Option Addr} {xs : List Int} (h : Sl B w A (xs.flatMap eI)) (k : Nat) (hc : xs.length ≤ c) : Sl B w (if c = k then A else A.map (·.add (k * 1))) ((xs.drop k).flatMap eI) := by
 split
 · rename_i hk
   rw [List.drop_of_length_le (by omega)]
   exact ⟨h.1, fun j v hj => by simp at hj⟩
 · rw [Nat.mul_one]; exact h.dropI k
theorem aDz (A : Option Addr) (B c : Nat) (xs : List Int) (A2 : Option Addr) (B2 c2 : Nat) (ys : List Int) (w : World) (hs : Sl B w A (xs.flatMap eI)) (h2 : Sl B2 w A2 (ys.flatMap eI)) (hl : xs.length ≤ 1048576) :
   Calls Tryz.prog 168 #[.slice A xs.length c, .slice A2 ys.length c2] w (fF fun v w' => v = .bool (decide (xs = ys)) ∧ Ext w w') := by
 have Bhs := hs.1
 have Bh2 := h2.1
 have X := Q7r w
 refine bJ (args := [.slice A xs.length c, .slice A2 ys.length c2]) Tryz.func168 Tryz.ntmps168 rfl rfl (aF (aA rfl (aE rfl (aB (aR (aF (aA rfl (aC rfl (aA rfl (bO Tryz.underlying30 rfl (aA rfl (aC rfl (aA rfl (bO Tryz.underlying30 rfl (aA rfl (gH rfl rfl (fun hlen => ?_) (fun hlen => ?_)))))))))))))))))
 refine aB (aQ rfl (aF (aA rfl (aE rfl (aB (aW (bN (aL rfl rfl ?_))))))))
 · skip
   exact ⟨congrArg Value.bool ((decide_eq_false (fun e => hlen (by rw [e]))).symm), X⟩
 refine aB (aM rfl (aV (aS (aR (aF (aA rfl (aC rfl (aA rfl (bO Tryz.underlying30 rfl (aA rfl (aC rfl (aB (aX (dG (G := Nat) (fun k => [(0, .slice A xs.length c), (1, .slice A2 ys.length c2), (12, .int .i64 (xs.length : Nat)), (13, .int .i64 (k : Nat))]) (fun k wr => k ≤ xs.length ∧ xs.take k = ys.take k ∧ Sl B wr A (xs.flatMap eI) ∧ Sl B2 wr A2 (ys.flatMap eI) ∧ Ext w wr) (fun k => xs.length - k) 0 (.cons rfl (.cons rfl (.cons rfl (.cons rfl (.nil _))))) ?_ ?_))))))))))))))
 · exact ⟨by omega, rfl, hs, h2, X⟩
 clear hs h2
 clear X
 rintro k wr ⟨hk0, hi, hs, h2, X⟩
 refine aF (aA rfl (cU rfl rfl (fun hk => ?_) (fun hk => ?_)))
 obtain ⟨x, hx, dx⟩ := dR hk
 obtain ⟨y, hy, dy⟩ := eL (xs := ys) (k := k) (by omega)
 refine aB (aR (aQ rfl (aV (aS (aR (aX (aF (aA rfl (aC rfl (aA rfl (aE rfl (aB (eK [false, false, false, false, false, false, false, false, false] mixed (by kernel_rfl) (cO rfl (fun wq sq => aC rfl ⟨rfl, Q7r _⟩) (cO rfl (fun wq sq => aC rfl ⟨rfl, Q7r _⟩) (cO rfl (fun wq sq => aU (hs.ext sq) bI rfl cQ rfl rfl rfl hx rfl ⟨rfl, Q7r _⟩) (cO rfl (fun wq sq => bS (hs.ext sq) bI hx dB rfl rfl rfl ⟨rfl, Q7r _⟩) (cO rfl (fun wq sq => aC rfl ⟨rfl, Q7r _⟩) (cO rfl (fun wq sq => aC rfl ⟨rfl, Q7r _⟩) (cO rfl (fun wq sq => aU (h2.ext sq) bI rfl cQ rfl rfl rfl hy rfl ⟨rfl, Q7r _⟩) (cO rfl (fun wq sq => bS (h2.ext sq) bI hy dB rfl rfl rfl ⟨rfl, Q7r _⟩) ?_)))))))))))))))))))))
 refine uZ rfl (fun wq sq => nE rfl rfl ⟨rfl, Q7r _⟩) (fun hxy => ?_) (fun hxy => ?_)
 refine dX (fun w1 sq => ?_)
 have xq := sq
 replace hs := hs.ext xq
 replace h2 := h2.ext xq
 replace X := Q7x X xq; clear xq sq
 refine aB (aQ rfl (aF (aA rfl (aE rfl (aB (aW (dL (bN (bN (dL (bN (aL rfl rfl ?_))))))))))))
 · skip
   refine ⟨congrArg Value.bool ((decide_eq_false (fun e => ?_)).symm), X⟩
   rw [e, hy] at hx; injection hx with hx; omega
 refine dX (fun w2 sq => ?_)
 have xq := sq
 replace hs := hs.ext xq
 replace h2 := h2.ext xq
 replace X := Q7x X xq; clear xq sq
 refine aB (aM rfl (aV (dO (aS (aN (aA rfl (aY rfl rfl (dM (by omega)) (aA rfl (aC rfl (aB (aS ⟨k + 1, (.cons rfl (.cons rfl (.cons rfl (.cons rfl (.nil _))))), ?_, ?_⟩)))))))))))
 · exact ⟨by omega, (by rw [List.take_add_one, List.take_add_one, hi, hx, hy, show x = y by omega]), hs, h2, X⟩
 · first | omega | (dsimp only; omega)
 refine aB (aR (aM rfl (dD (dC (dC (eG (aS (aF (aA rfl (aE rfl (aB (aW (aL rfl rfl ?_)))))))))))))
 · skip
   refine ⟨congrArg Value.bool ((decide_eq_true ?_).symm), X⟩
   have e1 : xs.take xs.length = ys.take xs.length := by have h := hi; rwa [show k = xs.length by omega] at h
   rw [List.take_length, List.take_of_length_le (by omega)] at e1; exact e1
theorem aFg (A : Option Addr) (B c : Nat) (xs : List Int) (A2 : Option Addr) (B2 c2 : Nat) (ys : List Int) (w : World) (hs : Sl B w A (xs.flatMap eI)) (h2 : Sl B2 w A2 (ys.flatMap eI)) (hl : xs.length ≤ 1048576) :
   Calls Tryz.prog 240 #[.slice A xs.length c, .slice A2 ys.length c2] w (fF fun v w' => v = .bool (decide (xs = ys)) ∧ Ext w w') := by
 have Bhs := hs.1
 have Bh2 := h2.1
 have X := Q7r w
 refine bJ (args := [.slice A xs.length c, .slice A2 ys.length c2]) Tryz.func240 Tryz.ntmps240 rfl rfl (aF (aA rfl (aE rfl (aB (aR (aF (aA rfl (aC rfl (aA rfl (bO Tryz.underlying30 rfl (aA rfl (aC rfl (aA rfl (bO Tryz.underlying30 rfl (aA rfl (gH rfl rfl (fun hlen => ?_) (fun hlen => ?_)))))))))))))))))
 refine aB (aQ rfl (aF (aA rfl (aE rfl (aB (aW (bN (aL rfl rfl ?_))))))))
 · skip
   exact ⟨congrArg Value.bool ((decide_eq_false (fun e => hlen (by rw [e]))).symm), X⟩
 refine aB (aM rfl (aV (aS (aR (aF (aA rfl (aE rfl (aB (aX (dG (G := Nat) (fun k => [(0, .slice A xs.length c), (1, .slice A2 ys.length c2), (5, .int .i64 (k : Nat))]) (fun k wr => k ≤ xs.length ∧ xs.take k = ys.take k ∧ Sl B wr A (xs.flatMap eI) ∧ Sl B2 wr A2 (ys.flatMap eI) ∧ Ext w wr) (fun k => xs.length - k) 0 (.cons rfl (.cons rfl (.cons rfl (.nil _)))) ?_ ?_))))))))))
 · exact ⟨by omega, rfl, hs, h2, X⟩
 clear hs h2
 clear X
 rintro k wr ⟨hk0, hi, hs, h2, X⟩
 refine aR (aF (aA rfl (aC rfl (aA rfl (aC rfl (aA rfl (bO Tryz.underlying30 rfl (aA rfl (cU rfl rfl (fun hk => ?_) (fun hk => ?_))))))))))
 obtain ⟨x, hx, dx⟩ := dR hk
 obtain ⟨y, hy, dy⟩ := eL (xs := ys) (k := k) (by omega)
 refine aB (aQ rfl (aV (aS (aR (aX (eK [false, false, false, false, false, false, false, false, false] mixed (by kernel_rfl) (cO rfl (fun wq sq => aC rfl ⟨rfl, Q7r _⟩) (cO rfl (fun wq sq => aC rfl ⟨rfl, Q7r _⟩) (cO rfl (fun wq sq => aU (hs.ext sq) bI rfl cQ rfl rfl rfl hx rfl ⟨rfl, Q7r _⟩) (cO rfl (fun wq sq => bS (hs.ext sq) bI hx dB rfl rfl rfl ⟨rfl, Q7r _⟩) (cO rfl (fun wq sq => aC rfl ⟨rfl, Q7r _⟩) (cO rfl (fun wq sq => aC rfl ⟨rfl, Q7r _⟩) (cO rfl (fun wq sq => aU (h2.ext sq) bI rfl cQ rfl rfl rfl hy rfl ⟨rfl, Q7r _⟩) (cO rfl (fun wq sq => bS (h2.ext sq) bI hy dB rfl rfl rfl ⟨rfl, Q7r _⟩) ?_))))))))))))))
 refine uZ rfl (fun wq sq => nE rfl rfl ⟨rfl, Q7r _⟩) (fun hxy => ?_) (fun hxy => ?_)
 refine dX (fun w1 sq => ?_)
 have xq := sq
 replace hs := hs.ext xq
 replace h2 := h2.ext xq
 replace X := Q7x X xq; clear xq sq
 refine aB (aQ rfl (aF (aA rfl (aE rfl (aB (aW (dL (bN (bN (dL (bN (aL rfl rfl ?_))))))))))))
 · skip
   refine ⟨congrArg Value.bool ((decide_eq_false (fun e => ?_)).symm), X⟩
   rw [e, hy] at hx; injection hx with hx; omega
 refine dX (fun w2 sq => ?_)
 have xq := sq
 replace hs := hs.ext xq
 replace h2 := h2.ext xq
 replace X := Q7x X xq; clear xq sq
 refine aB (aM rfl (aV (dO (aS (aN (aA rfl (aC rfl (aA rfl (aY rfl rfl (dM (by omega)) (aA rfl (aE rfl (aB (aS ⟨k + 1, (.cons rfl (.cons rfl (.cons rfl (.nil _)))), ?_, ?_⟩)))))))))))))
 · exact ⟨by omega, (by rw [List.take_add_one, List.take_add_one, hi, hx, hy, show x = y by omega]), hs, h2, X⟩
 · first | omega | (dsimp only; omega)
 refine aB (aM rfl (dD (dC (dC (eG (aS (aF (aA rfl (aE rfl (aB (aW (aL rfl rfl ?_))))))))))))
 · skip
   refine ⟨congrArg Value.bool ((decide_eq_true ?_).symm), X⟩
   have e1 : xs.take xs.length = ys.take xs.length := by have h := hi; rwa [show k = xs.length by omega] at h
   rw [List.take_length, List.take_of_length_le (by omega)] at e1; exact e1
theorem aHM (A : Option Addr) (lo n c : Nat) (cs : List Value) (x : Int) (w : World) (oA : Own w lo 2 1 A n c cs) (hlo : lo ≤ w.heap.size) (hx : 0 ≤ x ∧ x ≤ 255) (hn : n ≤ 16777216) :
   Calls Tryz.prog 257 #[.slice A n c, .int .i64 x, .int .i64 8] w (fF fun v w' => ∃ A' c', v = .slice A' (n + 8) c' ∧ Own w' lo 2 1 A' (n + 8) c' (cs ++ (zQ x 8).flatMap eI) ∧ Below lo w w') := by
 have X := Below.refl lo w
 refine bJ (args := [.slice A n c, .int .i64 x, .int .i64 8]) Tryz.func257 Tryz.ntmps257 rfl rfl (aF (aA rfl (aE rfl (aB (aR (aF (aA rfl (aC rfl (aA rfl (fZ rfl rfl (show IntKind.i64.wrap (8 - 1) = 7 by decide) (aA rfl (aE rfl (aB (aX (dG (G := Nat × Int × Nat × Option Addr × Nat) (fun ⟨k, z, n1, A1, c1⟩ => [(1, .int .i64 x), (6, .slice none 0 0), (0, .slice A1 n1 c1), (7, .int .i64 z)]) (fun ⟨k, z, n1, A1, c1⟩ wr => k ≤ 8 ∧ z = 7 - (k : Int) ∧ n1 = n + k ∧ Own wr lo 2 1 A1 n1 c1 (cs ++ (zQ x k).flatMap eI) ∧ Below lo w wr) (fun ⟨k, z, n1, A1, c1⟩ => 8 - k) (0, 7, n, A, c) (.cons rfl (.cons rfl (.cons rfl (.cons rfl (.nil _))))) ?_ ?_)))))))))))))))
 · exact ⟨by omega, (by omega), rfl, (oA.to (by simp [zQ])), X⟩
 clear oA
 clear X
 rintro ⟨k, z, n1, A1, c1⟩ wr ⟨hk0, hz, hn1, oA, X⟩
 refine aR (aF (aA rfl (aC rfl (aA rfl (lV rfl rfl (fun hk => ?_) (fun hk => ?_))))))
 refine aB (aQ rfl (aV (aS (aR (aX (aN (aA rfl (aC rfl (aA rfl (aC rfl (aA rfl (aC rfl (aA rfl (sB rfl rfl (by omega) (aJe (j := 7 - k) (by omega) hx.1 (by omega)) (aA rfl (sA rfl rfl (aFb (by omega) (by omega)) (aA rfl (aO cQ dB rfl rfl rfl rfl rfl ?_))))))))))))))))))
 intro g1 w3 eg1 oS bbg1 x2 zg1
 replace oS := Own.low oS (Q7l hlo X.size)
 replace oA := oA.ext x2
 replace X := Below.trans X (Below.mono x2 (Q7l hlo X.size)); clear x2
 refine aA rfl (cH (ts := #[]) oA (Q7l hlo X.size) oS.sl rfl (dY [aDp x (7 - k)]) cQ dB rfl rfl rfl rfl (by omega) (by omega) ?_)
 intro AoN coN w5 oN hg4
 replace X := X.grown hg4 (Q7l hlo X.size) (fun g hg => (Own.lt oA hg).1)
 clear hg4
 refine aA rfl (aE rfl (aB (dO (aS (aN (aA rfl (aC rfl (aA rfl (fZ rfl rfl (dM (by omega)) (aA rfl (aE rfl (aB (aS ⟨(k + 1, z - 1, n1 + 1, AoN, coN), (.cons rfl (.cons rfl (.cons rfl (.cons rfl (.nil _))))), ?_, ?_⟩)))))))))))))
 · exact ⟨by omega, (by omega), (by omega), (oN.to (by rw [aBG, List.flatMap_append, ← List.append_assoc]; rfl)), X⟩
 · first | omega | (dsimp only; omega)
 refine aB (aM rfl (dD (dC (dC (eG (aS (aF (aA rfl (aC rfl (aA rfl (aE rfl (aB (aW (aL rfl rfl ?_))))))))))))))
 · skip
   have e : k = 8 := by omega
   subst e; subst hn1
   exact ⟨A1, c1, rfl, oA, X⟩
theorem aHN (A : Option Addr) (B c : Nat) (xs : List Int) (w : World) (hs : Sl B w A (xs.flatMap eI)) (hl : xs.length ≤ 1048576) (hb : ∀ x ∈ xs, 0 ≤ x ∧ x ≤ 255) :
   Calls Tryz.prog 223 #[.slice A xs.length c] w (fF fun v w' => ∃ A' c', v = .slice A' (mJ xs).length c' ∧ Own w' w.heap.size 2 1 A' (mJ xs).length c' ((mJ xs).flatMap eI) ∧ Ext w w') := by
 have Bhs := hs.1
 have X := Q7r w
 refine bJ (args := [.slice A xs.length c]) Tryz.func223 Tryz.ntmps223 rfl rfl (aF (aA rfl (aE rfl (aB (aF (aA rfl (aO cQ dB rfl rfl rfl rfl rfl ?_)))))))
 intro gO w2 egO oO bbgO x1 zgO
 replace oO := Own.low oO X.size
 replace hs := hs.ext x1
 replace X := Q7x X x1; clear x1
 refine aA rfl (aE rfl (aB (aR (aF (aA rfl (aC rfl (aA rfl (bO Tryz.underlying30 rfl (aA rfl (aC rfl (aB (aX (dG (G := Nat × Nat × Option Addr × Nat) (fun ⟨k, n1, A1, c1⟩ => [(2, .slice none 0 0), (7, .slice A xs.length c), (8, .int .i64 (xs.length : Nat)), (3, .slice A1 n1 c1), (9, .int .i64 (k : Nat))]) (fun ⟨k, n1, A1, c1⟩ wr => k ≤ xs.length ∧ n1 = (mJ (xs.take k)).length ∧ Own wr w.heap.size 2 1 A1 n1 c1 ((mJ (xs.take k)).flatMap eI) ∧ Sl B wr A (xs.flatMap eI) ∧ Ext w wr) (fun ⟨k, n1, A1, c1⟩ => xs.length - k) (0, 0, some ⟨gO, 0, none⟩, 0) (.cons rfl (.cons rfl (.cons rfl (.cons rfl (.cons rfl (.nil _)))))) ?_ ?_)))))))))))))
 · exact ⟨by omega, rfl, oO, hs, X⟩
 clear hs oO
 clear X
 rintro ⟨k, n1, A1, c1⟩ wr ⟨hk0, hn1, oO, hs, X⟩
 refine aF (aA rfl (cU rfl rfl (fun hk => ?_) (fun hk => ?_)))
 obtain ⟨x, hx, dx⟩ := dR hk
 refine aB (aR (aQ rfl (aV (aS (aR (aX (aF (aA rfl (aU hs bI rfl cQ rfl rfl rfl hx rfl (aA rfl (bS hs bI hx dB rfl rfl rfl (aA rfl (aE rfl (aB (aN (aA rfl (aC rfl (aA rfl (aC rfl ?_)))))))))))))))))))
 have hxb := u8v hb hx
 have hn2 := rH (xs.take k)
 rw [List.length_take] at hn2
 refine aA rfl (aT aKD rfl (aP (aHM A1 w.heap.size n1 c1 _ x _ oO X.size hxb (by omega)) ?_))
 rintro _ wB ⟨A2, c2, rfl, oN, xB⟩
 replace hs := hs.below (Below.mono xB Bhs)
 replace X := Below.trans X xB; clear xB oO
 refine aA rfl (aE rfl (aB (dO (aS (aN (aA rfl (aY rfl rfl (dM (by omega)) (aA rfl (aC rfl (aB (aS ⟨(k + 1, n1 + 8, A2, c2), (.cons rfl (.cons rfl (.cons rfl (.cons rfl (.cons rfl (.nil _)))))), ?_, ?_⟩)))))))))))
 · exact ⟨by omega, (by rw [sL hx, List.length_append, aAW, hn1]), (oN.to (by rw [sL hx, List.flatMap_append])), hs, X⟩
 · first | omega | (dsimp only; omega)
 refine aB (aR (aM rfl (dD (dC (dC (eG (aS (aF (aA rfl (aC rfl (aA rfl (aE rfl (aB (aW (aL rfl rfl ?_)))))))))))))))
 · skip
   rw [show k = xs.length by omega, List.take_length] at oO hn1
   rw [← hn1]; exact ⟨A1, c1, rfl, oO, X⟩
theorem aF7 (A : Option Addr) (B c : Nat) (xs : List Int) (w : World) (hs : Sl B w A (xs.flatMap eI)) (hl : xs.length ≤ 1048576) (hb : ∀ x ∈ xs, 0 ≤ x ∧ x ≤ 255) :
   Calls Tryz.prog 235 #[.slice A xs.length c] w (fF fun v w' => ∃ A' c', v = .slice A' (mJ xs).length c' ∧ Own w' w.heap.size 2 1 A' (mJ xs).length c' ((mJ xs).flatMap eI) ∧ Ext w w') := by
 have Bhs := hs.1
 have X := Q7r w
 refine bJ (args := [.slice A xs.length c]) Tryz.func235 Tryz.ntmps235 rfl rfl (aF (aA rfl (aE rfl (aB (aF (aA rfl (aO cQ dB rfl rfl rfl rfl rfl ?_)))))))
 intro gO w2 egO oO bbgO x1 zgO
 replace oO := Own.low oO X.size
 replace hs := hs.ext x1
 replace X := Q7x X x1; clear x1
 refine aA rfl (aE rfl (aB (aR (aF (aA rfl (aE rfl (aB (aX (dG (G := Nat × Nat × Option Addr × Nat) (fun ⟨k, n1, A1, c1⟩ => [(0, .slice A xs.length c), (2, .slice none 0 0), (3, .slice A1 n1 c1), (4, .int .i64 (k : Nat))]) (fun ⟨k, n1, A1, c1⟩ wr => k ≤ xs.length ∧ n1 = (mJ (xs.take k)).length ∧ Own wr w.heap.size 2 1 A1 n1 c1 ((mJ (xs.take k)).flatMap eI) ∧ Sl B wr A (xs.flatMap eI) ∧ Ext w wr) (fun ⟨k, n1, A1, c1⟩ => xs.length - k) (0, 0, some ⟨gO, 0, none⟩, 0) (.cons rfl (.cons rfl (.cons rfl (.cons rfl (.nil _))))) ?_ ?_)))))))))
 · exact ⟨by omega, rfl, oO, hs, X⟩
 clear hs oO
 clear X
 rintro ⟨k, n1, A1, c1⟩ wr ⟨hk0, hn1, oO, hs, X⟩
 refine aR (aF (aA rfl (aC rfl (aA rfl (aC rfl (aA rfl (bO Tryz.underlying30 rfl (aA rfl (cU rfl rfl (fun hk => ?_) (fun hk => ?_))))))))))
 obtain ⟨x, hx, dx⟩ := dR hk
 have hxb := u8v hb hx
 have hn2 := rH (xs.take k)
 rw [List.length_take] at hn2
 refine aB (aQ rfl (aV (aS (aR (aX (aF (aA rfl (aE rfl (aB (aX (dG (G := Nat × Int × Nat × Option Addr × Nat) (fun ⟨j, z, n2, A2, c2⟩ => [(0, .slice A xs.length c), (2, .slice none 0 0), (4, .int .i64 (k : Nat)), (7, .int .i64 (k : Nat)), (8, .slice A xs.length c), (9, .int .i64 (xs.length : Nat)), (3, .slice A2 n2 c2), (5, .int .i64 z)]) (fun ⟨j, z, n2, A2, c2⟩ wr => j ≤ 8 ∧ z = 7 - (j : Int) ∧ n2 = n1 + j ∧ Own wr w.heap.size 2 1 A2 n2 c2 (((mJ (xs.take k)) ++ zQ x j).flatMap eI) ∧ Sl B wr A (xs.flatMap eI) ∧ Ext w wr) (fun ⟨j, z, n2, A2, c2⟩ => 8 - j) (0, 7, n1, A1, c1) (.cons rfl (.cons rfl (.cons rfl (.cons rfl (.cons rfl (.cons rfl (.cons rfl (.cons rfl (.nil _))))))))) ?_ ?_)))))))))))
 · exact ⟨by omega, (by omega), rfl, (oO.to (by simp [zQ])), hs, X⟩
 clear oO hs
 clear X
 rintro ⟨j, z, n2, A2, c2⟩ wr ⟨hj0, hz, hn3, oP, hs, X⟩
 refine aR (aF (aA rfl (aC rfl (aA rfl (lV rfl rfl (fun hj => ?_) (fun hj => ?_))))))
 refine aB (aQ rfl (aV (aS (aR (aX (aN (aA rfl (aC rfl (aA rfl (aC rfl (aA rfl (aC rfl (aA rfl (aU hs bI rfl cQ rfl rfl rfl hx rfl (aA rfl (bS hs bI hx dB rfl rfl rfl (aA rfl (aC rfl (aA rfl (jC Tryz.underlying3 Tryz.underlying140 rfl (wuz (by omega)) (aA rfl (sB rfl rfl (by omega) (aJe (j := 7 - j) (by omega) hxb.1 (by omega)) (aA rfl (sA rfl rfl (aFb (by omega) (by omega)) (aA rfl (aO cQ dB rfl rfl rfl rfl rfl ?_))))))))))))))))))))))))))
 intro g3 w5 eg3 oS bbg3 x4 zg3
 replace oS := Own.low oS X.size
 replace oP := oP.ext x4
 replace hs := hs.ext x4
 replace X := Q7x X x4; clear x4
 refine aA rfl (cH (ts := #[]) oP X.size oS.sl rfl (dY [aDp x (7 - j)]) cQ dB rfl rfl rfl rfl (by omega) (by omega) ?_)
 intro AoN coN w7 oN hg6
 replace hs := hs.grown hg6 (fun g hg => Q7l Bhs (Own.lt oP hg).1)
 replace X := X.grown hg6 X.size (fun g hg => (Own.lt oP hg).1)
 clear hg6
 refine aA rfl (aE rfl (aB (dO (aS (aN (aA rfl (aC rfl (aA rfl (fZ rfl rfl (dM (by omega)) (aA rfl (aE rfl (aB (aS ⟨(j + 1, z - 1, n2 + 1, AoN, coN), (.cons rfl (.cons rfl (.cons rfl (.cons rfl (.cons rfl (.cons rfl (.cons rfl (.cons rfl (.nil _))))))))), ?_, ?_⟩)))))))))))))
 · exact ⟨by omega, (by omega), (by omega), (oN.to (by rw [aBG, ← List.append_assoc]; exact Eq.symm (by rw [List.flatMap_append]; rfl))), hs, X⟩
 · first | omega | (dsimp only; omega)
 refine aB (aM rfl (dD (dC (dC (eG (dO (aS (aN (aA rfl (aC rfl (aA rfl (aY rfl rfl (dM (by omega)) (aA rfl (aE rfl (aB (aS ⟨(k + 1, n2, A2, c2), (.cons rfl (.cons rfl (.cons rfl (.cons rfl (.nil _))))), ?_, ?_⟩))))))))))))))))
 · exact ⟨by omega, (by rw [sL hx, List.length_append, aAW]; omega), (oP.to (by rw [sL hx, show j = 8 by omega])), hs, X⟩
 · first | omega | (dsimp only; omega)
 refine aB (aM rfl (dD (dC (dC (eG (aS (aF (aA rfl (aC rfl (aA rfl (aE rfl (aB (aW (aL rfl rfl ?_))))))))))))))
 · skip
   rw [show k = xs.length by omega, List.take_length] at oO hn1
   rw [← hn1]; exact ⟨A1, c1, rfl, oO, X⟩
theorem aF8  (w : World)  :
   Calls Tryz.prog 221 #[] w (fF fun v w' => v = .agg #[.int .i64 24, .int .i64 6122955] ∧ Ext w w') := by
 have X := Q7r w
 refine bJ (args := []) Tryz.func221 Tryz.ntmps221 rfl rfl (aF (aA rfl (dT zF ?_)))
 intro g0 w2 eg0 b0 x1 zg0
 have lg0 : w.heap.size ≤ g0 := Q7l X.size (Q7e eg0.symm)
 replace X := Q7x X x1; clear x1
 refine aB (aF (aA rfl (dA aIZ zF rfl rfl (aA rfl (bK b0 zF rfl rfl rfl rfl rfl rfl ?_)))))
 intro w4 b1 hg3 z5
 replace X := X.grown hg3 X.size (by intro g hg; injection hg; omega)
 clear hg3 b0
 exact aB (aW (kG rfl rfl b1 zF rfl ⟨by rfl, X⟩))
theorem aF9  (w : World)  :
   Calls Tryz.prog 234 #[] w (fF fun v w' => v = .agg #[.int .i64 24, .int .i64 6122955] ∧ Ext w w') := by
 have X := Q7r w
 refine bJ (args := []) Tryz.func234 Tryz.ntmps234 rfl rfl (aF (aA rfl (dT zF ?_)))
 intro g0 w2 eg0 b0 x1 zg0
 have lg0 : w.heap.size ≤ g0 := Q7l X.size (Q7e eg0.symm)
 replace X := Q7x X x1; clear x1
 refine aB (aF (aA rfl (dA aIZ zF rfl rfl (aA rfl (bK b0 zF rfl rfl rfl rfl rfl rfl ?_)))))
 intro w4 b1 hg3 z5
 replace X := X.grown hg3 X.size (by intro g hg; injection hg; omega)
 clear hg3 b0
 exact aB (aW (kG rfl rfl b1 zF rfl ⟨by rfl, X⟩))
theorem aKQ (A : Option Addr) (B c : Nat) (xs : List Int) (r : Int) (w : World) (hs : Sl B w A (xs.flatMap eI)) (hl : xs.length ≤ 1048576) (hr : 0 ≤ r ∧ r < 16777216) (hb : ∀ b ∈ xs, 0 ≤ b ∧ b ≤ 1) :
   Calls Tryz.prog 222 #[.agg #[.int .i64 24, .int .i64 6122955], .int .i64 r, .slice A xs.length c] w (fF fun v w' => v = .int .i64 (aBm r xs) ∧ Ext w w') := by
 have Bhs := hs.1
 have X := Q7r w
 refine bJ (args := [.agg #[.int .i64 24, .int .i64 6122955], .int .i64 r, .slice A xs.length c]) Tryz.func222 Tryz.ntmps222 rfl rfl (aF (aA rfl (eX rfl rfl ?_)))
 intro gC w2 egC bC x1 zgC
 have lgC : w.heap.size ≤ gC := Q7l X.size (Q7e egC.symm)
 have pgChs := Q7l hs.1 (Q7e egC.symm)
 replace hs := hs.ext x1
 replace X := Q7x X x1; clear x1
 refine aA rfl (aE rfl (aB (aR (aF (aA rfl (aC rfl (aA rfl (bO Tryz.underlying30 rfl (aA rfl (aC rfl (aB (aX (dG (G := Nat × Int) (fun ⟨k, r1⟩ => [(3, .pointer (some ⟨gC, 0, none⟩)), (6, .int .i64 0), (10, .slice A xs.length c), (11, .int .i64 (xs.length : Nat)), (1, .int .i64 r1), (12, .int .i64 (k : Nat))]) (fun ⟨k, r1⟩ wr => k ≤ xs.length ∧ r1 = (aBm r (xs.take k)) ∧ Sl B wr A (xs.flatMap eI) ∧ Blk wr gC 218 [.int .i64 24, .int .i64 6122955] ∧ Ext w wr) (fun ⟨k, r1⟩ => xs.length - k) (0, r) (.cons rfl (.cons rfl (.cons rfl (.cons rfl (.cons rfl (.cons rfl (.nil _))))))) ?_ ?_)))))))))))))
 · exact ⟨by omega, rfl, hs, bC, X⟩
 clear hs bC
 clear X
 rintro ⟨k, r1⟩ wr ⟨hk0, hr1, hs, bC, X⟩
 refine aF (aA rfl (cU rfl rfl (fun hk => ?_) (fun hk => ?_)))
 obtain ⟨x, hx, dx⟩ := dR hk
 have hri := aAi (xs.take k) hr
 rw [← hr1] at hri
 have hxb := hb x (List.mem_of_getElem? hx)
 refine aB (aR (aQ rfl (aV (aS (aR (aX (aF (aA rfl (aU hs bI rfl cQ rfl rfl rfl hx rfl (aA rfl (bS hs bI hx dB rfl rfl rfl (aA rfl (aE rfl (aB (aF (aA rfl (aC rfl (aA rfl (aC rfl (aA rfl (aG aA0 rfl rfl (aA rfl (aJ bC dB rfl rfl (aA rfl (fZ rfl rfl (show IntKind.i64.wrap (24 - 1) = 23 by decide) (aA rfl (sB rfl rfl (by omega) (aJF 8388608 hri.1 (by omega) rfl) (aA rfl (aAB rfl rfl (aIY (by omega) (by omega)) (aA rfl (aE rfl (aB (aF (aA rfl (aC rfl (aA rfl (tG rfl rfl (by omega) (aLG (by omega)) (aA rfl (aG aA0 rfl rfl (aA rfl (aJ bC dB rfl rfl (aA rfl (tG rfl rfl (by omega) (show IntKind.i64.wrap (1 * 2 ^ (min ((24 : Int).toNat) IntKind.i64.bits)) = 16777216 by decide) ?_)))))))))))))))))))))))))))))))))))))))))))
 refine aA rfl (fZ rfl rfl (show IntKind.i64.wrap (16777216 - 1) = 16777215 by decide) (aA rfl (sA rfl rfl (aK9 (by omega)) (aA rfl (aE rfl (aB (aF (aA rfl (aC rfl (aA rfl (dP rfl rfl (fun ht => ?_) (fun ht => ?_))))))))))))
 refine aB (aQ rfl (aN (aA rfl (aC rfl (aA rfl (aG aDv rfl rfl (aA rfl (aJ bC dB rfl rfl (aA rfl (aAB rfl rfl (aFa (by omega)) (aA rfl (aE rfl (aB (dO (aS (aN (aA rfl (aY rfl rfl (dM (by omega)) (aA rfl (aC rfl (aB (aS ⟨(k + 1, aDo (r1 * 2 % 16777216)), (.cons rfl (.cons rfl (.cons rfl (.cons rfl (.cons rfl (.cons rfl (.nil _))))))), ?_, ?_⟩))))))))))))))))))))))
 · exact ⟨by omega, (by rw [uV hx, ← hr1, aCz hri, if_pos ht]), hs, bC, X⟩
 · first | omega | (dsimp only; omega)
 refine aB (aM rfl (aV (dO (aS (aN (aA rfl (aY rfl rfl (dM (by omega)) (aA rfl (aC rfl (aB (aS ⟨(k + 1, r1 * 2 % 16777216), (.cons rfl (.cons rfl (.cons rfl (.cons rfl (.cons rfl (.cons rfl (.nil _))))))), ?_, ?_⟩)))))))))))
 · exact ⟨by omega, (by rw [uV hx, ← hr1, aCz hri, if_neg ht]), hs, bC, X⟩
 · first | omega | (dsimp only; omega)
 refine aB (aR (aM rfl (dD (dC (dC (eG (aS (aF (aA rfl (aC rfl (aA rfl (aE rfl (aB (aW (aL rfl rfl ?_)))))))))))))))
 · skip
   refine ⟨congrArg (Value.int .i64) ?_, X⟩
   rw [hr1, show k = xs.length by omega, List.take_length]
theorem aGa (A : Option Addr) (B c : Nat) (xs : List Int) (r : Int) (w : World) (hs : Sl B w A (xs.flatMap eI)) (hl : xs.length ≤ 1048576) (hr : 0 ≤ r ∧ r < 16777216) (hb : ∀ b ∈ xs, 0 ≤ b ∧ b ≤ 1) :
   Calls Tryz.prog 233 #[.agg #[.int .i64 24, .int .i64 6122955], .int .i64 r, .slice A xs.length c] w (fF fun v w' => v = .int .i64 (aBm r xs) ∧ Ext w w') := by
 have Bhs := hs.1
 have X := Q7r w
 refine bJ (args := [.agg #[.int .i64 24, .int .i64 6122955], .int .i64 r, .slice A xs.length c]) Tryz.func233 Tryz.ntmps233 rfl rfl (aF (aA rfl (eX rfl rfl ?_)))
 intro gC w2 egC bC x1 zgC
 have lgC : w.heap.size ≤ gC := Q7l X.size (Q7e egC.symm)
 have pgChs := Q7l hs.1 (Q7e egC.symm)
 replace hs := hs.ext x1
 replace X := Q7x X x1; clear x1
 refine aA rfl (aE rfl (aB (aF (aA rfl (aG aA0 rfl rfl (aA rfl (aJ bC dB rfl rfl (aA rfl (fZ rfl rfl (show IntKind.i64.wrap (24 - 1) = 23 by decide) (aA rfl (jC Tryz.underlying2 Tryz.underlying140 rfl (show IntKind.u64.wrap 23 = 23 by decide) (aA rfl (tG rfl rfl (by omega) (show IntKind.i64.wrap (1 * 2 ^ (min ((23 : Int).toNat) IntKind.i64.bits)) = 8388608 by decide) (aA rfl (aE rfl (aB (aR (aF (aA rfl (aE rfl (aB (aX (dG (G := Nat × Int) (fun ⟨k, r1⟩ => [(2, .slice A xs.length c), (3, .pointer (some ⟨gC, 0, none⟩)), (6, .int .i64 0), (7, .int .i64 8388608), (1, .int .i64 r1), (8, .int .i64 (k : Nat))]) (fun ⟨k, r1⟩ wr => k ≤ xs.length ∧ r1 = (aBm r (xs.take k)) ∧ Sl B wr A (xs.flatMap eI) ∧ Blk wr gC 218 [.int .i64 24, .int .i64 6122955] ∧ Ext w wr) (fun ⟨k, r1⟩ => xs.length - k) (0, r) (.cons rfl (.cons rfl (.cons rfl (.cons rfl (.cons rfl (.cons rfl (.nil _))))))) ?_ ?_)))))))))))))))))))))))
 · exact ⟨by omega, rfl, hs, bC, X⟩
 clear hs bC
 clear X
 rintro ⟨k, r1⟩ wr ⟨hk0, hr1, hs, bC, X⟩
 refine aR (aF (aA rfl (aC rfl (aA rfl (aC rfl (aA rfl (bO Tryz.underlying30 rfl (aA rfl (cU rfl rfl (fun hk => ?_) (fun hk => ?_))))))))))
 obtain ⟨x, hx, dx⟩ := dR hk
 have hri := aAi (xs.take k) hr
 rw [← hr1] at hri
 have hxb := hb x (List.mem_of_getElem? hx)
 refine aB (aQ rfl (aV (aS (aR (aX (eK [false, false, false, false, false, false, false, false, false] mixed (by kernel_rfl) (cO rfl (fun wq sq => aC rfl ⟨rfl, Q7r _⟩) (cO rfl (fun wq sq => aC rfl ⟨rfl, Q7r _⟩) (cO rfl (fun wq sq => gK rfl rfl (by omega) (vK (by omega)) ⟨rfl, Q7r _⟩) (cO rfl (fun wq sq => aC rfl ⟨rfl, Q7r _⟩) (cO rfl (fun wq sq => aC rfl ⟨rfl, Q7r _⟩) (cO rfl (fun wq sq => aU (hs.ext sq) bI rfl cQ rfl rfl rfl hx rfl ⟨rfl, Q7r _⟩) (cO rfl (fun wq sq => bS (hs.ext sq) bI hx dB rfl rfl rfl ⟨rfl, Q7r _⟩) (cO rfl (fun wq sq => aAB rfl rfl ((aIY (by omega) (by omega)).trans (show _ = (x + r1 / 8388608) % 2 by rw [Int.add_comm])) ⟨rfl, Q7r _⟩) ?_))))))))))))))
 refine cO rfl (fun wq sq => aE rfl ⟨rfl, Q7r _⟩) (dX (fun w3 sq => ?_))
 have xq := sq
 replace hs := hs.ext xq
 replace bC := bC.ext xq
 replace X := Q7x X xq; clear xq sq
 refine aB (aF (aA rfl (aC rfl (aA rfl (aC rfl (aA rfl (fK rfl rfl (by omega) (qZ (by omega)) (aA rfl (fO rfl rfl (show IntKind.i64.wrap _ = r1 * 2 % 16777216 from (dM (by omega)).trans (by omega)) (aA rfl (aE rfl (aB (aF (aA rfl (aC rfl (aA rfl (dP rfl rfl (fun ht => ?_) (fun ht => ?_))))))))))))))))))
 refine aB (aQ rfl (aN (aA rfl (aC rfl (aA rfl (aG aDv rfl rfl (aA rfl (aJ bC dB rfl rfl (aA rfl (aAB rfl rfl (aFa (by omega)) (aA rfl (aE rfl (aB (dO (aS (aN (aA rfl (aC rfl (aA rfl (aY rfl rfl (dM (by omega)) (aA rfl (aE rfl (aB (aS ⟨(k + 1, aDo (r1 * 2 % 16777216)), (.cons rfl (.cons rfl (.cons rfl (.cons rfl (.cons rfl (.cons rfl (.nil _))))))), ?_, ?_⟩))))))))))))))))))))))))
 · exact ⟨by omega, (by rw [uV hx, ← hr1, aCz hri, if_pos ht]), hs, bC, X⟩
 · first | omega | (dsimp only; omega)
 refine aB (aM rfl (aV (dO (aS (aN (aA rfl (aC rfl (aA rfl (aY rfl rfl (dM (by omega)) (aA rfl (aE rfl (aB (aS ⟨(k + 1, r1 * 2 % 16777216), (.cons rfl (.cons rfl (.cons rfl (.cons rfl (.cons rfl (.cons rfl (.nil _))))))), ?_, ?_⟩)))))))))))))
 · exact ⟨by omega, (by rw [uV hx, ← hr1, aCz hri, if_neg ht]), hs, bC, X⟩
 · first | omega | (dsimp only; omega)
 refine aB (aM rfl (dD (dC (dC (eG (aS (aF (aA rfl (aC rfl (aA rfl (aE rfl (aB (aW (aL rfl rfl ?_))))))))))))))
 · skip
   refine ⟨congrArg (Value.int .i64) ?_, X⟩
   rw [hr1, show k = xs.length by omega, List.take_length]
end Go.Proofs.YtdoibplhbdkapaaGreatDoor
