/- Parts. No condition. -/
import Derived.Test.YtdoibplhbdkapaaGreatDoorDOP4
import Derived.Test.YtdoibplhbdkapaaGreatDoorDOP3
namespace Go.Proofs.YtdoibplhbdkapaaGreatDoor
open Go.RowKit
set_option linter.unusedVariables false
set_option linter.unusedSimpArgs false
set_option maxRecDepth 20000
theorem rK {k z : Int} (h : lJ k z = true) : 0 ≤ z ∧ z ≤ 32 := by
 unfold lJ at h
 split at h
 · exact eO.1 h
 · split at h
   · have := eO.1 h; omega
   · simp at h; omega
theorem aA3 (k : Int) {z : Int} (h : 0 ≤ z ∧ z ≤ 32) : 1 ≤ pG k z ∧ pG k z ≤ 42 := by
 unfold pG; (repeat' split) <;> omega
theorem iS (k : Int) {z : Int} (h : 0 ≤ z ∧ z ≤ 32) : 41 ≤ wG k z ∧ wG k z ≤ 1000 := by
 have := aA3 k h; unfold wG; omega
theorem iQ (a b c : Int) (w : World)  :
   Calls Tryz.prog 111 #[.int .i64 a, .int .i64 b, .int .i64 c] w (fF fun v w' => v = .bool (iF a b c) ∧ Ext w w') := by
 have X := Q7r w
 refine bJ (args := [.int .i64 a, .int .i64 b, .int .i64 c]) Tryz.func111 Tryz.ntmps111 rfl rfl (aF (aA rfl (aE rfl (aB (aF (aA rfl (aC rfl (aA rfl (aC rfl (aA rfl (lV rfl rfl (fun h1 => ?_) (fun h1 => ?_))))))))))))
 exact aA rfl (aC rfl (aI rfl rfl rfl (aC rfl (aI rfl rfl rfl (aC rfl (aI rfl rfl rfl (qW rfl rfl (aA rfl (aK rfl rfl (aA rfl (aE rfl (aB (aW (aL rfl rfl ⟨by simp [iF, *], X⟩))))))))))))))
 exact aA rfl (aC rfl (aH rfl rfl rfl rfl (aH rfl rfl rfl rfl (aH rfl rfl rfl rfl (aA rfl (aK rfl rfl (aA rfl (aE rfl (aB (aW (aL rfl rfl ⟨by simp [iF, *], X⟩)))))))))))
theorem jU (a b c : Int) (w : World)  :
   Calls Tryz.prog 109 #[.int .i64 a, .int .i64 b, .int .i64 c] w (fF fun v w' => v = .bool (iF a b c) ∧ Ext w w') := by
 have X := Q7r w
 refine bJ (args := [.int .i64 a, .int .i64 b, .int .i64 c]) Tryz.func109 Tryz.ntmps109 rfl rfl (aF (aA rfl (aE rfl (aB (aF (aA rfl (aC rfl (aA rfl (aC rfl (aA rfl (lV rfl rfl (fun h1 => ?_) (fun h1 => ?_))))))))))))
 exact aA rfl (aC rfl (aI rfl rfl rfl (aC rfl (aI rfl rfl rfl (aC rfl (aI rfl rfl rfl (qW rfl rfl (aA rfl (aK rfl rfl (aA rfl (aE rfl (aB (aW (aL rfl rfl ⟨by simp [iF, *], X⟩))))))))))))))
 exact aA rfl (aC rfl (aH rfl rfl rfl rfl (aH rfl rfl rfl rfl (aH rfl rfl rfl rfl (aA rfl (aK rfl rfl (aA rfl (aE rfl (aB (aW (aL rfl rfl ⟨by simp [iF, *], X⟩)))))))))))
theorem aBI (a : Int) (w : World)  :
   Calls Tryz.prog 275 #[.int .i64 a] w (fF fun v w' => v = .bool (iF a 0 31) ∧ Ext w w') := by
 have X := Q7r w
 refine bJ (args := [.int .i64 a]) Tryz.func275 Tryz.ntmps275 rfl rfl (aF (aA rfl (aE rfl (aB (aF (aA rfl (aC rfl (aA rfl (aT kC rfl (aP (iQ _ _ _ _) ?_))))))))))
 rintro _ w2 ⟨rfl, x1⟩
 replace X := Q7x X x1; clear x1
 exact aA rfl (aE rfl (aB (aW (aL rfl rfl ⟨by first | rfl | (simp [*]; done), X⟩))))
theorem aDw (a : Int) (w : World)  :
   Calls Tryz.prog 116 #[.int .i64 a] w (fF fun v w' => v = .bool (iF a 0 31) ∧ Ext w w') := by
 have X := Q7r w
 refine bJ (args := [.int .i64 a]) Tryz.func116 Tryz.ntmps116 rfl rfl (aF (aA rfl (aE rfl (aB (aF (aA rfl (aC rfl (aA rfl (aT nK rfl (aP (jU _ _ _ _) ?_))))))))))
 rintro _ w2 ⟨rfl, x1⟩
 replace X := Q7x X x1; clear x1
 exact aA rfl (aE rfl (aB (aW (aL rfl rfl ⟨by first | rfl | (simp [*]; done), X⟩))))
theorem aF4 (a : Int) (w : World)  :
   Calls Tryz.prog 278 #[.int .i64 a] w (fF fun v w' => v = .bool (iF a 0 3) ∧ Ext w w') := by
 have X := Q7r w
 refine bJ (args := [.int .i64 a]) Tryz.func278 Tryz.ntmps278 rfl rfl (aF (aA rfl (aE rfl (aB (aF (aA rfl (aC rfl (aA rfl (aT kC rfl (aP (iQ _ _ _ _) ?_))))))))))
 rintro _ w2 ⟨rfl, x1⟩
 replace X := Q7x X x1; clear x1
 exact aA rfl (aE rfl (aB (aW (aL rfl rfl ⟨by first | rfl | (simp [*]; done), X⟩))))
theorem aHK (a : Int) (w : World)  :
   Calls Tryz.prog 262 #[.int .i64 a] w (fF fun v w' => v = .bool (iF a 0 3) ∧ Ext w w') := by
 have X := Q7r w
 refine bJ (args := [.int .i64 a]) Tryz.func262 Tryz.ntmps262 rfl rfl (aF (aA rfl (aE rfl (aB (aF (aA rfl (aC rfl (aA rfl (aT nK rfl (aP (jU _ _ _ _) ?_))))))))))
 rintro _ w2 ⟨rfl, x1⟩
 replace X := Q7x X x1; clear x1
 exact aA rfl (aE rfl (aB (aW (aL rfl rfl ⟨by first | rfl | (simp [*]; done), X⟩))))
theorem aF5 (a b : Int) (w : World)  :
   Calls Tryz.prog 279 #[.int .i64 a, .int .i64 b] w (fF fun v w' => v = .bool (lJ a b) ∧ Ext w w') := by
 have X := Q7r w
 refine bJ (args := [.int .i64 a, .int .i64 b]) Tryz.func279 Tryz.ntmps279 rfl rfl (aF (aA rfl (aE rfl (aB (aR (aF (aA rfl (aC rfl (aB (aX (aF (aA rfl (dP rfl rfl (fun h1 => ?_) (fun h1 => ?_))))))))))))))
 refine aA rfl (aE rfl (aB (aQ rfl (aF (aA rfl (aC rfl (aA rfl (aT kC rfl (aP (iQ _ _ _ _) ?_)))))))))
 rintro _ w3 ⟨rfl, x2⟩
 replace X := Q7x X x2; clear x2
 exact aA rfl (aE rfl (aB (aW (dL (bN (aL rfl rfl ⟨by simp [lJ, *], X⟩))))))
 refine aA rfl (aE rfl (aB (aM rfl (aF (aA rfl (dP rfl rfl (fun h4 => ?_) (fun h4 => ?_)))))))
 refine aA rfl (aE rfl (aB (aQ rfl (aF (aA rfl (aC rfl (aA rfl (aT kC rfl (aP (iQ _ _ _ _) ?_)))))))))
 rintro _ w6 ⟨rfl, x5⟩
 replace X := Q7x X x5; clear x5
 exact aA rfl (aE rfl (aB (aW (dL (bN (aL rfl rfl ⟨by simp [lJ, *], X⟩))))))
 exact aA rfl (aE rfl (aB (aM rfl (aV (dO (aS (aF (aA rfl (aC rfl (aA rfl (jJ rfl rfl (aA rfl (aE rfl (aB (aW (aL rfl rfl ⟨by simp [lJ, *], X⟩))))))))))))))))
theorem aCy (a b : Int) (w : World)  :
   Calls Tryz.prog 263 #[.int .i64 a, .int .i64 b] w (fF fun v w' => v = .bool (lJ a b) ∧ Ext w w') := by
 have X := Q7r w
 refine bJ (args := [.int .i64 a, .int .i64 b]) Tryz.func263 Tryz.ntmps263 rfl rfl (aF (aA rfl (aE rfl (aB (aR (aF (aA rfl (aC rfl (aB (aX (aF (aA rfl (dP rfl rfl (fun h1 => ?_) (fun h1 => ?_))))))))))))))
 refine aA rfl (aE rfl (aB (aQ rfl (aF (aA rfl (aC rfl (aA rfl (aT nK rfl (aP (jU _ _ _ _) ?_)))))))))
 rintro _ w3 ⟨rfl, x2⟩
 replace X := Q7x X x2; clear x2
 exact aA rfl (aE rfl (aB (aW (dL (bN (aL rfl rfl ⟨by simp [lJ, *], X⟩))))))
 refine aA rfl (aE rfl (aB (aM rfl (aF (aA rfl (dP rfl rfl (fun h4 => ?_) (fun h4 => ?_)))))))
 refine aA rfl (aE rfl (aB (aQ rfl (aF (aA rfl (aC rfl (aA rfl (aT nK rfl (aP (jU _ _ _ _) ?_)))))))))
 rintro _ w6 ⟨rfl, x5⟩
 replace X := Q7x X x5; clear x5
 exact aA rfl (aE rfl (aB (aW (dL (bN (aL rfl rfl ⟨by simp [lJ, *], X⟩))))))
 exact aA rfl (aE rfl (aB (aM rfl (aV (dO (aS (aF (aA rfl (aC rfl (aA rfl (jJ rfl rfl (aA rfl (aE rfl (aB (aW (aL rfl rfl ⟨by simp [lJ, *], X⟩))))))))))))))))
theorem aEy (a : Int) (w : World)  :
   Calls Tryz.prog 274 #[.int .i64 a] w (fF fun v w' => v = .bool (decide (a ≠ 0)) ∧ Ext w w') := by
 have X := Q7r w
 exact bJ (args := [.int .i64 a]) Tryz.func274 Tryz.ntmps274 rfl rfl (aF (aA rfl (aE rfl (aB (aF (aA rfl (aC rfl (aA rfl (nE rfl rfl (aA rfl (aE rfl (aB (aW (aL rfl rfl ⟨by rfl, X⟩))))))))))))))
theorem aEz (a : Int) (w : World)  :
   Calls Tryz.prog 284 #[.int .i64 a] w (fF fun v w' => v = .bool (decide (a ≠ 0)) ∧ Ext w w') := by
 have X := Q7r w
 exact bJ (args := [.int .i64 a]) Tryz.func284 Tryz.ntmps284 rfl rfl (aF (aA rfl (aE rfl (aB (aF (aA rfl (aC rfl (aA rfl (nE rfl rfl (aA rfl (aE rfl (aB (aW (aL rfl rfl ⟨by rfl, X⟩))))))))))))))
theorem yF (a : Int) (w : World)  :
   Calls Tryz.prog 247 #[.int .i64 a] w (fF fun v w' => v = .bool (decide (a = 0 ∨ a = 2)) ∧ Ext w w') := by
 have X := Q7r w
 refine bJ (args := [.int .i64 a]) Tryz.func247 Tryz.ntmps247 rfl rfl (aF (aA rfl (aE rfl (aB (aF (aA rfl (aC rfl (aA rfl (dP rfl rfl (fun h1 => ?_) (fun h1 => ?_))))))))))
 exact aA rfl (aC rfl (aH rfl rfl rfl rfl (aH rfl rfl rfl rfl (aA rfl (aK rfl rfl (aA rfl (aE rfl (aB (aW (aL rfl rfl ⟨by simp [*], X⟩))))))))))
 exact aA rfl (aC rfl (aI rfl rfl rfl (aC rfl (aI rfl rfl rfl (jJ rfl rfl (aA rfl (aK rfl rfl (aA rfl (aE rfl (aB (aW (aL rfl rfl ⟨by simp [*], X⟩))))))))))))
theorem aBJ (a : Int) (w : World)  :
   Calls Tryz.prog 285 #[.int .i64 a] w (fF fun v w' => v = .bool (decide (a = 0 ∨ a = 2)) ∧ Ext w w') := by
 have X := Q7r w
 refine bJ (args := [.int .i64 a]) Tryz.func285 Tryz.ntmps285 rfl rfl (aF (aA rfl (aE rfl (aB (aF (aA rfl (aC rfl (aA rfl (dP rfl rfl (fun h1 => ?_) (fun h1 => ?_))))))))))
 exact aA rfl (aC rfl (aH rfl rfl rfl rfl (aH rfl rfl rfl rfl (aA rfl (aK rfl rfl (aA rfl (aE rfl (aB (aW (aL rfl rfl ⟨by simp [*], X⟩))))))))))
 exact aA rfl (aC rfl (aI rfl rfl rfl (aC rfl (aI rfl rfl rfl (jJ rfl rfl (aA rfl (aK rfl rfl (aA rfl (aE rfl (aB (aW (aL rfl rfl ⟨by simp [*], X⟩))))))))))))
theorem aF6 (a b : Int) (w : World) (hb : 0 ≤ b ∧ b ≤ 32) :
   Calls Tryz.prog 256 #[.int .i64 a, .int .i64 b] w (fF fun v w' => v = .int .i64 (pG a b) ∧ Ext w w') := by
 have X := Q7r w
 refine bJ (args := [.int .i64 a, .int .i64 b]) Tryz.func256 Tryz.ntmps256 rfl rfl (aF (aA rfl (aE rfl (aB (aF (aA rfl (aE rfl (aB (aR (aF (aA rfl (aC rfl (aA rfl (cV aKK rfl (aEy _ _) (fun w3 h1 x2 => ?_) (fun w3 h1 x2 => ?_)))))))))))))))
 replace X := Q7x X x2; clear x2
 refine aB (aQ rfl (aN (aA rfl (aC rfl (aA rfl (aY rfl rfl (dM (by omega)) (aA rfl (aE rfl (aB (aS (aR (aF (aA rfl (aC rfl (aA rfl (cV aEw rfl (yF _ _) (fun w6 h4 x5 => ?_) (fun w6 h4 x5 => ?_)))))))))))))))))
 replace X := Q7x X x5; clear x5
 refine aB (aQ rfl (aN (aA rfl (aC rfl (aA rfl (aY rfl rfl (dM (by omega)) (aA rfl (aC rfl (aA rfl (aY rfl rfl (dM (by omega)) (aA rfl (aE rfl (aB (aS (aF (aA rfl (aC rfl (aA rfl (aE rfl (aB (aW (aL rfl rfl ?_))))))))))))))))))))))
 · skip
   refine ⟨congrArg (Value.int .i64) ?_, X⟩
   simp only [decide_eq_true_eq, decide_eq_false_iff_not] at *
   unfold pG
   (repeat' split) <;> omega
 replace X := Q7x X x5; clear x5
 refine aB (aM rfl (aV (aS (aF (aA rfl (aC rfl (aA rfl (aE rfl (aB (aW (aL rfl rfl ?_)))))))))))
 · skip
   refine ⟨congrArg (Value.int .i64) ?_, X⟩
   simp only [decide_eq_true_eq, decide_eq_false_iff_not] at *
   unfold pG
   (repeat' split) <;> omega
 replace X := Q7x X x2; clear x2
 refine aB (aM rfl (aV (aS (aR (aF (aA rfl (aC rfl (aA rfl (cV aEw rfl (yF _ _) (fun w9 h7 x8 => ?_) (fun w9 h7 x8 => ?_))))))))))
 replace X := Q7x X x8; clear x8
 refine aB (aQ rfl (aN (aA rfl (aC rfl (aA rfl (aY rfl rfl (dM (by omega)) (aA rfl (aC rfl (aA rfl (aY rfl rfl (dM (by omega)) (aA rfl (aE rfl (aB (aS (aF (aA rfl (aC rfl (aA rfl (aE rfl (aB (aW (aL rfl rfl ?_))))))))))))))))))))))
 · skip
   refine ⟨congrArg (Value.int .i64) ?_, X⟩
   simp only [decide_eq_true_eq, decide_eq_false_iff_not] at *
   unfold pG
   (repeat' split) <;> omega
 replace X := Q7x X x8; clear x8
 refine aB (aM rfl (aV (aS (aF (aA rfl (aC rfl (aA rfl (aE rfl (aB (aW (aL rfl rfl ?_)))))))))))
 · skip
   refine ⟨congrArg (Value.int .i64) ?_, X⟩
   simp only [decide_eq_true_eq, decide_eq_false_iff_not] at *
   unfold pG
   (repeat' split) <;> omega
theorem aEA (a b : Int) (w : World) (hb : 0 ≤ b ∧ b ≤ 32) :
   Calls Tryz.prog 277 #[.int .i64 a, .int .i64 b] w (fF fun v w' => v = .int .i64 (pG a b) ∧ Ext w w') := by
 have X := Q7r w
 refine bJ (args := [.int .i64 a, .int .i64 b]) Tryz.func277 Tryz.ntmps277 rfl rfl (aF (aA rfl (aE rfl (aB (aF (aA rfl (aE rfl (aB (aR (aF (aA rfl (aC rfl (aA rfl (cV aKP rfl (aEz _ _) (fun w3 h1 x2 => ?_) (fun w3 h1 x2 => ?_)))))))))))))))
 replace X := Q7x X x2; clear x2
 refine aB (aQ rfl (aN (aA rfl (aC rfl (aA rfl (aY rfl rfl (dM (by omega)) (aA rfl (aE rfl (aB (aS (aR (aF (aA rfl (aC rfl (aA rfl (cV aHJ rfl (aBJ _ _) (fun w6 h4 x5 => ?_) (fun w6 h4 x5 => ?_)))))))))))))))))
 replace X := Q7x X x5; clear x5
 refine aB (aQ rfl (aN (aA rfl (aC rfl (aA rfl (aC rfl (aA rfl (aY rfl rfl (dM (by omega)) (aA rfl (aY rfl rfl (dM (by omega)) (aA rfl (aE rfl (aB (aS (aF (aA rfl (aC rfl (aA rfl (aE rfl (aB (aW (aL rfl rfl ?_))))))))))))))))))))))
 · skip
   refine ⟨congrArg (Value.int .i64) ?_, X⟩
   simp only [decide_eq_true_eq, decide_eq_false_iff_not] at *
   unfold pG
   (repeat' split) <;> omega
 replace X := Q7x X x5; clear x5
 refine aB (aM rfl (aV (aS (aF (aA rfl (aC rfl (aA rfl (aE rfl (aB (aW (aL rfl rfl ?_)))))))))))
 · skip
   refine ⟨congrArg (Value.int .i64) ?_, X⟩
   simp only [decide_eq_true_eq, decide_eq_false_iff_not] at *
   unfold pG
   (repeat' split) <;> omega
 replace X := Q7x X x2; clear x2
 refine aB (aM rfl (aV (aS (aR (aF (aA rfl (aC rfl (aA rfl (cV aHJ rfl (aBJ _ _) (fun w9 h7 x8 => ?_) (fun w9 h7 x8 => ?_))))))))))
 replace X := Q7x X x8; clear x8
 refine aB (aQ rfl (aN (aA rfl (aC rfl (aA rfl (aC rfl (aA rfl (aY rfl rfl (dM (by omega)) (aA rfl (aY rfl rfl (dM (by omega)) (aA rfl (aE rfl (aB (aS (aF (aA rfl (aC rfl (aA rfl (aE rfl (aB (aW (aL rfl rfl ?_))))))))))))))))))))))
 · skip
   refine ⟨congrArg (Value.int .i64) ?_, X⟩
   simp only [decide_eq_true_eq, decide_eq_false_iff_not] at *
   unfold pG
   (repeat' split) <;> omega
 replace X := Q7x X x8; clear x8
 refine aB (aM rfl (aV (aS (aF (aA rfl (aC rfl (aA rfl (aE rfl (aB (aW (aL rfl rfl ?_)))))))))))
 · skip
   refine ⟨congrArg (Value.int .i64) ?_, X⟩
   simp only [decide_eq_true_eq, decide_eq_false_iff_not] at *
   unfold pG
   (repeat' split) <;> omega
theorem nL (a b : Int) (w : World) (hb : 0 ≤ b ∧ b ≤ 32) :
   Calls Tryz.prog 215 #[.int .i64 a, .int .i64 b] w (fF fun v w' => v = .int .i64 (wG a b) ∧ Ext w w') := by
 have h1 := aA3 a hb
 have X := Q7r w
 refine bJ (args := [.int .i64 a, .int .i64 b]) Tryz.func215 Tryz.ntmps215 rfl rfl (aF (aA rfl (aE rfl (aB (aF (aA rfl (aC rfl (aA rfl (aC rfl (aA rfl (aT aKC rfl (aP (aF6 _ _ _ hb) ?_))))))))))))
 rintro _ w2 ⟨rfl, x1⟩
 replace X := Q7x X x1; clear x1
 exact aA rfl (aY rfl rfl (dM (by omega)) (aA rfl (fO rfl rfl (dM (by omega)) (aA rfl (aY rfl rfl (dM (by omega)) (aA rfl (aE rfl (aB (aW (aL rfl rfl ⟨by rfl, X⟩))))))))))
theorem vN (a b : Int) (w : World) (hb : 0 ≤ b ∧ b ≤ 32) :
   Calls Tryz.prog 264 #[.int .i64 a, .int .i64 b] w (fF fun v w' => v = .int .i64 (wG a b) ∧ Ext w w') := by
 have h1 := aA3 a hb
 have X := Q7r w
 refine bJ (args := [.int .i64 a, .int .i64 b]) Tryz.func264 Tryz.ntmps264 rfl rfl (aF (aA rfl (aE rfl (aB (aF (aA rfl (aC rfl (aA rfl (aC rfl (aA rfl (aT aKM rfl (aP (aEA _ _ _ hb) ?_))))))))))))
 rintro _ w2 ⟨rfl, x1⟩
 replace X := Q7x X x1; clear x1
 exact aA rfl (aY rfl rfl (dM (by omega)) (aA rfl (fO rfl rfl (dM (by omega)) (aA rfl (aY rfl rfl (dM (by omega)) (aA rfl (aE rfl (aB (aW (aL rfl rfl ⟨by rfl, X⟩))))))))))
theorem aBK (d : Desc) (w : World)  :
   Calls Tryz.prog 266 #[.agg d.cells.toArray] w (fF fun v w' => v = .bool (fP d) ∧ Ext w w') := by
 have X := Q7r w
 refine bJ (args := [.agg d.cells.toArray]) Tryz.func266 Tryz.ntmps266 rfl rfl (aF (aA rfl (eX rfl rfl ?_)))
 intro g4 w3 eg4 b1 x2 zg4
 have lg4 : w.heap.size ≤ g4 := Q7l X.size (Q7e eg4.symm)
 replace X := Q7x X x2; clear x2
 refine aA rfl (aE rfl (aB (aR (aF (aA rfl (aG kA rfl rfl (aA rfl (aJ b1 dB rfl rfl (aA rfl (cV aHI rfl (aBI _ _) (fun w7 h5 x6 => ?_) (fun w7 h5 x6 => ?_)))))))))))
 replace b1 := b1.ext x6
 replace X := Q7x X x6; clear x6
 refine aA rfl (bP rfl (aA rfl (aC rfl (aI rfl rfl rfl (aG fM rfl rfl (aI rfl rfl rfl (aJ b1 dB rfl rfl (aI rfl rfl rfl (cV aKN rfl (aF4 _ _) (fun w10 h8 x9 => ?_) (fun w10 h8 x9 => ?_))))))))))
 replace b1 := b1.ext x9
 replace X := Q7x X x9; clear x9
 refine aI rfl rfl rfl (bP rfl (aA rfl (aK rfl rfl (aA rfl (aC rfl (aI rfl rfl rfl (aG fM rfl rfl (aI rfl rfl rfl (aJ b1 dB rfl rfl (aI rfl rfl rfl (aG jP rfl rfl (aI rfl rfl rfl (aJ b1 dB rfl rfl (aI rfl rfl rfl (cV aKO rfl (aF5 _ _ _) (fun w13 h11 x12 => ?_) (fun w13 h11 x12 => ?_))))))))))))))))
 replace b1 := b1.ext x12
 replace X := Q7x X x12
 refine aI rfl rfl rfl (bP rfl (aA rfl (aK rfl rfl (aA rfl (aC rfl (aI rfl rfl rfl (aG fM rfl rfl (aI rfl rfl rfl (aJ b1 dB rfl rfl (aI rfl rfl rfl (dP rfl rfl (fun h14 => ?_) (fun h14 => ?_))))))))))))
 refine aI rfl rfl rfl (aC rfl (aI rfl rfl rfl (aG sQ rfl rfl (aI rfl rfl rfl (aJ b1 xO rfl rfl ?_)))))
 cases hb15 : d.change
 refine aI rfl rfl rfl (aK rfl rfl (aA rfl (aK rfl rfl (aB (aM rfl (aV (aS (eK [false, false, false, false, false, false, false, false, false, false] mixed (by kernel_rfl) (cO rfl (fun wq sq => aG fC rfl rfl ⟨rfl, Q7r _⟩) (cO rfl (fun wq sq => aJ (b1.ext sq) dB rfl rfl ⟨rfl, Q7r _⟩) (cO rfl (fun wq sq => aG fM rfl rfl ⟨rfl, Q7r _⟩) (cO rfl (fun wq sq => aJ (b1.ext sq) dB rfl rfl ⟨rfl, Q7r _⟩) (cO rfl (fun wq sq => aG jP rfl rfl ⟨rfl, Q7r _⟩) (cO rfl (fun wq sq => aJ (b1.ext sq) dB rfl rfl ⟨rfl, Q7r _⟩) ?_))))))))))))))
 have hb : 0 ≤ d.size ∧ d.size ≤ 32 := rK ‹lJ d.kind d.size = true›
 have h0 := iS d.kind hb
 refine cO rfl (fun wq sq => aT yB rfl (nL _ _ _ hb)) (cO rfl (fun wq sq => aY rfl rfl (dM (by omega)) ⟨rfl, Q7r _⟩) (cO rfl (fun wq sq => aT kC rfl (iQ _ _ _ _)) (cO rfl (fun wq sq => aE rfl ⟨rfl, Q7r _⟩) (dX (fun w16 sq => ?_)))))
 have xq := sq
 replace b1 := b1.ext xq
 replace X := Q7x X xq; clear xq sq
 refine aB (aW (aL rfl rfl ?_))
 · skip
   refine ⟨congrArg Value.bool ?_, X⟩
   first | (simp [fP, *]; done) | (simp_all [fP]; done)
 refine aI rfl rfl rfl (aK rfl rfl (aA rfl (aK rfl rfl (aB (aQ rfl (aF (aA rfl (aE rfl (aB (aW (bN (aL rfl rfl ?_))))))))))))
 · skip
   refine ⟨congrArg Value.bool ?_, X⟩
   first | (simp [fP, *]; done) | (simp_all [fP]; done)
 refine aI rfl rfl rfl (aC rfl (aH rfl rfl rfl rfl (aH rfl rfl rfl rfl (aI rfl rfl rfl (aK rfl rfl (aA rfl (aK rfl rfl (aB (aM rfl (aV (aS (eK [false, false, false, false, false, false, false, false, false, false] mixed (by kernel_rfl) (cO rfl (fun wq sq => aG fC rfl rfl ⟨rfl, Q7r _⟩) (cO rfl (fun wq sq => aJ (b1.ext sq) dB rfl rfl ⟨rfl, Q7r _⟩) (cO rfl (fun wq sq => aG fM rfl rfl ⟨rfl, Q7r _⟩) (cO rfl (fun wq sq => aJ (b1.ext sq) dB rfl rfl ⟨rfl, Q7r _⟩) (cO rfl (fun wq sq => aG jP rfl rfl ⟨rfl, Q7r _⟩) (cO rfl (fun wq sq => aJ (b1.ext sq) dB rfl rfl ⟨rfl, Q7r _⟩) ?_))))))))))))))))))
 have hb : 0 ≤ d.size ∧ d.size ≤ 32 := rK ‹lJ d.kind d.size = true›
 have h0 := iS d.kind hb
 refine cO rfl (fun wq sq => aT yB rfl (nL _ _ _ hb)) (cO rfl (fun wq sq => aY rfl rfl (dM (by omega)) ⟨rfl, Q7r _⟩) (cO rfl (fun wq sq => aT kC rfl (iQ _ _ _ _)) (cO rfl (fun wq sq => aE rfl ⟨rfl, Q7r _⟩) (dX (fun w17 sq => ?_)))))
 have xq := sq
 replace b1 := b1.ext xq
 replace X := Q7x X xq; clear xq sq
 refine aB (aW (aL rfl rfl ?_))
 · skip
   refine ⟨congrArg Value.bool ?_, X⟩
   first | (simp [fP, *]; done) | (simp_all [fP]; done)
 replace b1 := b1.ext x12
 replace X := Q7x X x12
 refine aI rfl rfl rfl (bP rfl (aA rfl (aK rfl rfl (aA rfl (aC rfl (aH rfl rfl rfl rfl (aH rfl rfl rfl rfl (aH rfl rfl rfl rfl (aH rfl rfl rfl rfl (eD rfl rfl rfl (eD rfl rfl rfl (aH rfl rfl rfl rfl (aA rfl (aK rfl rfl (aB (aQ rfl (aF (aA rfl (aE rfl (aB (aW (bN (aL rfl rfl ?_)))))))))))))))))))))))
 · skip
   refine ⟨congrArg Value.bool ?_, X⟩
   first | (simp [fP, *]; done) | (simp_all [fP]; done)
 replace b1 := b1.ext x9
 replace X := Q7x X x9; clear x9
 refine aI rfl rfl rfl (bP rfl (aA rfl (aK rfl rfl (aA rfl (aC rfl (aH rfl rfl rfl rfl (aH rfl rfl rfl rfl (aH rfl rfl rfl rfl (aH rfl rfl rfl rfl (aH rfl rfl rfl rfl (aH rfl rfl rfl rfl (aA rfl (aK rfl rfl (aA rfl (aC rfl (aH rfl rfl rfl rfl (aH rfl rfl rfl rfl (aH rfl rfl rfl rfl (aH rfl rfl rfl rfl (eD rfl rfl rfl (eD rfl rfl rfl (aH rfl rfl rfl rfl (aA rfl (aK rfl rfl (aB (aQ rfl (aF (aA rfl (aE rfl (aB (aW (bN (aL rfl rfl ?_)))))))))))))))))))))))))))))))))
 · skip
   refine ⟨congrArg Value.bool ?_, X⟩
   first | (simp [fP, *]; done) | (simp_all [fP]; done)
 replace b1 := b1.ext x6
 replace X := Q7x X x6; clear x6
 refine aA rfl (bP rfl (aA rfl (aC rfl (aH rfl rfl rfl rfl (aH rfl rfl rfl rfl (aH rfl rfl rfl rfl (aH rfl rfl rfl rfl (aA rfl (aK rfl rfl (aA rfl (aC rfl (aH rfl rfl rfl rfl (aH rfl rfl rfl rfl (aH rfl rfl rfl rfl (aH rfl rfl rfl rfl (aH rfl rfl rfl rfl (aH rfl rfl rfl rfl (aA rfl (aK rfl rfl (aA rfl (aC rfl (aH rfl rfl rfl rfl (aH rfl rfl rfl rfl (aH rfl rfl rfl rfl (aH rfl rfl rfl rfl (eD rfl rfl rfl (eD rfl rfl rfl (aH rfl rfl rfl rfl (aA rfl (aK rfl rfl (aB (aQ rfl (aF (aA rfl (aE rfl (aB (aW (bN (aL rfl rfl ?_)))))))))))))))))))))))))))))))))))))))
 · skip
   refine ⟨congrArg Value.bool ?_, X⟩
   first | (simp [fP, *]; done) | (simp_all [fP]; done)
theorem aBL (d : Desc) (w : World)  :
   Calls Tryz.prog 237 #[.agg d.cells.toArray] w (fF fun v w' => v = .bool (fP d) ∧ Ext w w') := by
 have X := Q7r w
 refine bJ (args := [.agg d.cells.toArray]) Tryz.func237 Tryz.ntmps237 rfl rfl (aF (aA rfl (eX rfl rfl ?_)))
 intro g4 w3 eg4 b1 x2 zg4
 have lg4 : w.heap.size ≤ g4 := Q7l X.size (Q7e eg4.symm)
 replace X := Q7x X x2; clear x2
 refine aA rfl (aE rfl (aB (aR (aF (aA rfl (aG kA rfl rfl (aA rfl (aJ b1 dB rfl rfl (aA rfl (cV aHn rfl (aDw _ _) (fun w7 h5 x6 => ?_) (fun w7 h5 x6 => ?_)))))))))))
 replace b1 := b1.ext x6
 replace X := Q7x X x6; clear x6
 refine aA rfl (bP rfl (aA rfl (aC rfl (aI rfl rfl rfl (aG fM rfl rfl (aI rfl rfl rfl (aJ b1 dB rfl rfl (aI rfl rfl rfl (cV aKI rfl (aHK _ _) (fun w10 h8 x9 => ?_) (fun w10 h8 x9 => ?_))))))))))
 replace b1 := b1.ext x9
 replace X := Q7x X x9; clear x9
 refine aI rfl rfl rfl (bP rfl (aA rfl (aK rfl rfl (aA rfl (aC rfl (aI rfl rfl rfl (aG fM rfl rfl (aI rfl rfl rfl (aJ b1 dB rfl rfl (aI rfl rfl rfl (aG jP rfl rfl (aI rfl rfl rfl (aJ b1 dB rfl rfl (aI rfl rfl rfl (cV aKJ rfl (aCy _ _ _) (fun w13 h11 x12 => ?_) (fun w13 h11 x12 => ?_))))))))))))))))
 replace b1 := b1.ext x12
 replace X := Q7x X x12
 refine aI rfl rfl rfl (bP rfl (aA rfl (aK rfl rfl (aA rfl (aC rfl (aI rfl rfl rfl (aG sQ rfl rfl (aI rfl rfl rfl (aJ b1 xO rfl rfl ?_)))))))))
 cases hb14 : d.change
 refine aI rfl rfl rfl (aC rfl (aH rfl rfl rfl rfl (aH rfl rfl rfl rfl (aH rfl rfl rfl rfl (aI rfl rfl rfl (aK rfl rfl (aA rfl (aK rfl rfl (aB (aM rfl (aV (aS (eK [false, false, false, false, false, false, false, false, false, false] mixed (by kernel_rfl) (cO rfl (fun wq sq => aG fC rfl rfl ⟨rfl, Q7r _⟩) (cO rfl (fun wq sq => aJ (b1.ext sq) dB rfl rfl ⟨rfl, Q7r _⟩) (cO rfl (fun wq sq => aG fM rfl rfl ⟨rfl, Q7r _⟩) (cO rfl (fun wq sq => aJ (b1.ext sq) dB rfl rfl ⟨rfl, Q7r _⟩) (cO rfl (fun wq sq => aG jP rfl rfl ⟨rfl, Q7r _⟩) (cO rfl (fun wq sq => aJ (b1.ext sq) dB rfl rfl ⟨rfl, Q7r _⟩) ?_)))))))))))))))))))
 have hb : 0 ≤ d.size ∧ d.size ≤ 32 := rK ‹lJ d.kind d.size = true›
 have h0 := iS d.kind hb
 refine cO rfl (fun wq sq => aT aHG rfl (vN _ _ _ hb)) (cO rfl (fun wq sq => aY rfl rfl (dM (by omega)) ⟨rfl, Q7r _⟩) (cO rfl (fun wq sq => aT nK rfl (jU _ _ _ _)) (cO rfl (fun wq sq => aE rfl ⟨rfl, Q7r _⟩) (dX (fun w15 sq => ?_)))))
 have xq := sq
 replace b1 := b1.ext xq
 replace X := Q7x X xq; clear xq sq
 refine aB (aW (aL rfl rfl ?_))
 · skip
   refine ⟨congrArg Value.bool ?_, X⟩
   first | (simp [fP, *]; done) | (simp_all [fP]; done)
 refine aI rfl rfl rfl (aC rfl (aI rfl rfl rfl (aG fM rfl rfl (aI rfl rfl rfl (aJ b1 dB rfl rfl (aI rfl rfl rfl (dP rfl rfl (fun h16 => ?_) (fun h16 => ?_))))))))
 refine aI rfl rfl rfl (aK rfl rfl (aA rfl (aK rfl rfl (aB (aQ rfl (aF (aA rfl (aE rfl (aB (aW (bN (aL rfl rfl ?_))))))))))))
 · skip
   refine ⟨congrArg Value.bool ?_, X⟩
   first | (simp [fP, *]; done) | (simp_all [fP]; done)
 refine aI rfl rfl rfl (aK rfl rfl (aA rfl (aK rfl rfl (aB (aM rfl (aV (aS (eK [false, false, false, false, false, false, false, false, false, false] mixed (by kernel_rfl) (cO rfl (fun wq sq => aG fC rfl rfl ⟨rfl, Q7r _⟩) (cO rfl (fun wq sq => aJ (b1.ext sq) dB rfl rfl ⟨rfl, Q7r _⟩) (cO rfl (fun wq sq => aG fM rfl rfl ⟨rfl, Q7r _⟩) (cO rfl (fun wq sq => aJ (b1.ext sq) dB rfl rfl ⟨rfl, Q7r _⟩) (cO rfl (fun wq sq => aG jP rfl rfl ⟨rfl, Q7r _⟩) (cO rfl (fun wq sq => aJ (b1.ext sq) dB rfl rfl ⟨rfl, Q7r _⟩) ?_))))))))))))))
 have hb : 0 ≤ d.size ∧ d.size ≤ 32 := rK ‹lJ d.kind d.size = true›
 have h0 := iS d.kind hb
 refine cO rfl (fun wq sq => aT aHG rfl (vN _ _ _ hb)) (cO rfl (fun wq sq => aY rfl rfl (dM (by omega)) ⟨rfl, Q7r _⟩) (cO rfl (fun wq sq => aT nK rfl (jU _ _ _ _)) (cO rfl (fun wq sq => aE rfl ⟨rfl, Q7r _⟩) (dX (fun w17 sq => ?_)))))
 have xq := sq
 replace b1 := b1.ext xq
 replace X := Q7x X xq; clear xq sq
 refine aB (aW (aL rfl rfl ?_))
 · skip
   refine ⟨congrArg Value.bool ?_, X⟩
   first | (simp [fP, *]; done) | (simp_all [fP]; done)
 replace b1 := b1.ext x12
 replace X := Q7x X x12
 refine aI rfl rfl rfl (bP rfl (aA rfl (aK rfl rfl (aA rfl (aC rfl (aH rfl rfl rfl rfl (aH rfl rfl rfl rfl (aH rfl rfl rfl rfl (eD rfl rfl rfl (eD rfl rfl rfl (eD rfl rfl rfl (aH rfl rfl rfl rfl (aA rfl (aK rfl rfl (aB (aQ rfl (aF (aA rfl (aE rfl (aB (aW (bN (aL rfl rfl ?_)))))))))))))))))))))))
 · skip
   refine ⟨congrArg Value.bool ?_, X⟩
   first | (simp [fP, *]; done) | (simp_all [fP]; done)
 replace b1 := b1.ext x9
 replace X := Q7x X x9; clear x9
 refine aI rfl rfl rfl (bP rfl (aA rfl (aK rfl rfl (aA rfl (aC rfl (aH rfl rfl rfl rfl (aH rfl rfl rfl rfl (aH rfl rfl rfl rfl (aH rfl rfl rfl rfl (aH rfl rfl rfl rfl (aH rfl rfl rfl rfl (aA rfl (aK rfl rfl (aA rfl (aC rfl (aH rfl rfl rfl rfl (aH rfl rfl rfl rfl (aH rfl rfl rfl rfl (eD rfl rfl rfl (eD rfl rfl rfl (eD rfl rfl rfl (aH rfl rfl rfl rfl (aA rfl (aK rfl rfl (aB (aQ rfl (aF (aA rfl (aE rfl (aB (aW (bN (aL rfl rfl ?_)))))))))))))))))))))))))))))))))
 · skip
   refine ⟨congrArg Value.bool ?_, X⟩
   first | (simp [fP, *]; done) | (simp_all [fP]; done)
 replace b1 := b1.ext x6
 replace X := Q7x X x6; clear x6
 refine aA rfl (bP rfl (aA rfl (aC rfl (aH rfl rfl rfl rfl (aH rfl rfl rfl rfl (aH rfl rfl rfl rfl (aH rfl rfl rfl rfl (aA rfl (aK rfl rfl (aA rfl (aC rfl (aH rfl rfl rfl rfl (aH rfl rfl rfl rfl (aH rfl rfl rfl rfl (aH rfl rfl rfl rfl (aH rfl rfl rfl rfl (aH rfl rfl rfl rfl (aA rfl (aK rfl rfl (aA rfl (aC rfl (aH rfl rfl rfl rfl (aH rfl rfl rfl rfl (aH rfl rfl rfl rfl (eD rfl rfl rfl (eD rfl rfl rfl (eD rfl rfl rfl (aH rfl rfl rfl rfl (aA rfl (aK rfl rfl (aB (aQ rfl (aF (aA rfl (aE rfl (aB (aW (bN (aL rfl rfl ?_)))))))))))))))))))))))))))))))))))))))
 · skip
   refine ⟨congrArg Value.bool ?_, X⟩
   first | (simp [fP, *]; done) | (simp_all [fP]; done)
end Go.Proofs.YtdoibplhbdkapaaGreatDoor
