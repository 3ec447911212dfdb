/- Parts. No condition. -/
import Derived.Test.YtdoibplhbdkapaaGreatDoorDNP3
import Derived.Test.YtdoibplhbdkapaaGreatDoorDNP4
import Derived.Shelf.Strings.SlTrimAscii
namespace Go.Proofs.YtdoibplhbdkapaaGreatDoor
open Go.RowKit
set_option linter.unusedVariables false
set_option linter.unusedSimpArgs false
set_option maxRecDepth 20000
theorem qG {k z : Int} (h : kU k z = true) : 0 ≤ z ∧ z ≤ 32 := by
 unfold kU at h
 split at h
 · exact eD.1 h
 · split at h
   · have := eD.1 h; omega
   · simp at h; omega
theorem aAn (k : Int) {z : Int} (h : 0 ≤ z ∧ z ≤ 32) : 1 ≤ nG k z ∧ nG k z ≤ 42 := by
 unfold nG; (repeat' split) <;> omega
theorem iC (k : Int) {z : Int} (h : 0 ≤ z ∧ z ≤ 32) : 41 ≤ qW k z ∧ qW k z ≤ 1000 := by
 have := aAn k h; unfold qW; omega
theorem iM (a b c : Int) (w : World)  :
   Calls Tryz.prog 111 #[.int .i64 a, .int .i64 b, .int .i64 c] w (fD fun v w' => v = .bool (hZ a b c) ∧ Ext w w') := by
 have X := Q7r w
 refine bI (args := [.int .i64 a, .int .i64 b, .int .i64 c]) Tryz.func111 Tryz.ntmps111 rfl rfl ?_
 refine aE ?_
 refine aA rfl (aD rfl ?_)
 refine aB ?_
 refine aE ?_
 refine aA rfl (aC rfl ?_)
 refine aA rfl (aC rfl ?_)
 refine aA rfl (lC rfl rfl (fun h1 => ?_) (fun h1 => ?_))
 refine aA rfl (aC rfl ?_)
 refine aH rfl rfl rfl (aC rfl ?_)
 refine aH rfl rfl rfl (aC rfl ?_)
 refine aH rfl rfl rfl (pM rfl rfl ?_)
 refine aA rfl (aJ rfl rfl ?_)
 refine aA rfl (aD rfl ?_)
 refine aB ?_
 refine aV ?_
 refine aK rfl rfl ?_
 exact ⟨by simp [hZ, *], X⟩
 refine aA rfl (aC rfl ?_)
 refine aG rfl rfl rfl rfl ?_
 refine aG rfl rfl rfl rfl ?_
 refine aG rfl rfl rfl rfl ?_
 refine aA rfl (aJ rfl rfl ?_)
 refine aA rfl (aD rfl ?_)
 refine aB ?_
 refine aV ?_
 refine aK rfl rfl ?_
 exact ⟨by simp [hZ, *], X⟩
theorem jJ (a b c : Int) (w : World)  :
   Calls Tryz.prog 109 #[.int .i64 a, .int .i64 b, .int .i64 c] w (fD fun v w' => v = .bool (hZ a b c) ∧ Ext w w') := by
 have X := Q7r w
 refine bI (args := [.int .i64 a, .int .i64 b, .int .i64 c]) Tryz.func109 Tryz.ntmps109 rfl rfl ?_
 refine aE ?_
 refine aA rfl (aD rfl ?_)
 refine aB ?_
 refine aE ?_
 refine aA rfl (aC rfl ?_)
 refine aA rfl (aC rfl ?_)
 refine aA rfl (lC rfl rfl (fun h1 => ?_) (fun h1 => ?_))
 refine aA rfl (aC rfl ?_)
 refine aH rfl rfl rfl (aC rfl ?_)
 refine aH rfl rfl rfl (aC rfl ?_)
 refine aH rfl rfl rfl (pM rfl rfl ?_)
 refine aA rfl (aJ rfl rfl ?_)
 refine aA rfl (aD rfl ?_)
 refine aB ?_
 refine aV ?_
 refine aK rfl rfl ?_
 exact ⟨by simp [hZ, *], X⟩
 refine aA rfl (aC rfl ?_)
 refine aG rfl rfl rfl rfl ?_
 refine aG rfl rfl rfl rfl ?_
 refine aG rfl rfl rfl rfl ?_
 refine aA rfl (aJ rfl rfl ?_)
 refine aA rfl (aD rfl ?_)
 refine aB ?_
 refine aV ?_
 refine aK rfl rfl ?_
 exact ⟨by simp [hZ, *], X⟩
theorem aA6 (a : Int) (w : World)  :
   Calls Tryz.prog 275 #[.int .i64 a] w (fD fun v w' => v = .bool (hZ a 0 31) ∧ Ext w w') := by
 have X := Q7r w
 refine bI (args := [.int .i64 a]) Tryz.func275 Tryz.ntmps275 rfl rfl ?_
 refine aE ?_
 refine aA rfl (aD rfl ?_)
 refine aB ?_
 refine aE ?_
 refine aA rfl (aC rfl ?_)
 refine aA rfl (aS jW rfl (aO (iM _ _ _ _) ?_))
 rintro _ w2 ⟨rfl, x1⟩
 replace X := Q7x X x1
 refine aA rfl (aD rfl ?_)
 refine aB ?_
 refine aV ?_
 refine aK rfl rfl ?_
 exact ⟨by first | rfl | (simp [*]; done), X⟩
theorem aCV (a : Int) (w : World)  :
   Calls Tryz.prog 116 #[.int .i64 a] w (fD fun v w' => v = .bool (hZ a 0 31) ∧ Ext w w') := by
 have X := Q7r w
 refine bI (args := [.int .i64 a]) Tryz.func116 Tryz.ntmps116 rfl rfl ?_
 refine aE ?_
 refine aA rfl (aD rfl ?_)
 refine aB ?_
 refine aE ?_
 refine aA rfl (aC rfl ?_)
 refine aA rfl (aS mL rfl (aO (jJ _ _ _ _) ?_))
 rintro _ w2 ⟨rfl, x1⟩
 replace X := Q7x X x1
 refine aA rfl (aD rfl ?_)
 refine aB ?_
 refine aV ?_
 refine aK rfl rfl ?_
 exact ⟨by first | rfl | (simp [*]; done), X⟩
theorem aFj (a : Int) (w : World)  :
   Calls Tryz.prog 278 #[.int .i64 a] w (fD fun v w' => v = .bool (hZ a 0 3) ∧ Ext w w') := by
 have X := Q7r w
 refine bI (args := [.int .i64 a]) Tryz.func278 Tryz.ntmps278 rfl rfl ?_
 refine aE ?_
 refine aA rfl (aD rfl ?_)
 refine aB ?_
 refine aE ?_
 refine aA rfl (aC rfl ?_)
 refine aA rfl (aS jW rfl (aO (iM _ _ _ _) ?_))
 rintro _ w2 ⟨rfl, x1⟩
 replace X := Q7x X x1
 refine aA rfl (aD rfl ?_)
 refine aB ?_
 refine aV ?_
 refine aK rfl rfl ?_
 exact ⟨by first | rfl | (simp [*]; done), X⟩
theorem aG2 (a : Int) (w : World)  :
   Calls Tryz.prog 262 #[.int .i64 a] w (fD fun v w' => v = .bool (hZ a 0 3) ∧ Ext w w') := by
 have X := Q7r w
 refine bI (args := [.int .i64 a]) Tryz.func262 Tryz.ntmps262 rfl rfl ?_
 refine aE ?_
 refine aA rfl (aD rfl ?_)
 refine aB ?_
 refine aE ?_
 refine aA rfl (aC rfl ?_)
 refine aA rfl (aS mL rfl (aO (jJ _ _ _ _) ?_))
 rintro _ w2 ⟨rfl, x1⟩
 replace X := Q7x X x1
 refine aA rfl (aD rfl ?_)
 refine aB ?_
 refine aV ?_
 refine aK rfl rfl ?_
 exact ⟨by first | rfl | (simp [*]; done), X⟩
theorem aFk (a b : Int) (w : World)  :
   Calls Tryz.prog 279 #[.int .i64 a, .int .i64 b] w (fD fun v w' => v = .bool (kU a b) ∧ Ext w w') := by
 have X := Q7r w
 refine bI (args := [.int .i64 a, .int .i64 b]) Tryz.func279 Tryz.ntmps279 rfl rfl ?_
 refine aE ?_
 refine aA rfl (aD rfl ?_)
 refine aB ?_
 refine aQ ?_
 refine aE ?_
 refine aA rfl (aC rfl ?_)
 refine aB ?_
 refine aW ?_
 refine aE ?_
 refine aA rfl (dK rfl rfl (fun h1 => ?_) (fun h1 => ?_))
 refine aA rfl (aD rfl ?_)
 refine aB ?_
 refine aR rfl ?_
 refine aE ?_
 refine aA rfl (aC rfl ?_)
 refine aA rfl (aS jW rfl (aO (iM _ _ _ _) ?_))
 rintro _ w3 ⟨rfl, x2⟩
 replace X := Q7x X x2
 refine aA rfl (aD rfl ?_)
 refine aB ?_
 refine aV ?_
 refine dN ?_
 refine bU ?_
 refine aK rfl rfl ?_
 exact ⟨by simp [kU, *], X⟩
 refine aA rfl (aD rfl ?_)
 refine aB ?_
 refine aL rfl ?_
 refine aE ?_
 refine aA rfl (dK rfl rfl (fun h4 => ?_) (fun h4 => ?_))
 refine aA rfl (aD rfl ?_)
 refine aB ?_
 refine aR rfl ?_
 refine aE ?_
 refine aA rfl (aC rfl ?_)
 refine aA rfl (aS jW rfl (aO (iM _ _ _ _) ?_))
 rintro _ w6 ⟨rfl, x5⟩
 replace X := Q7x X x5
 refine aA rfl (aD rfl ?_)
 refine aB ?_
 refine aV ?_
 refine dN ?_
 refine bU ?_
 refine aK rfl rfl ?_
 exact ⟨by simp [kU, *], X⟩
 refine aA rfl (aD rfl ?_)
 refine aB ?_
 refine aL rfl ?_
 refine aU ?_
 refine dJ ?_
 refine aP ?_
 refine aE ?_
 refine aA rfl (aC rfl ?_)
 refine aA rfl (iD rfl rfl ?_)
 refine aA rfl (aD rfl ?_)
 refine aB ?_
 refine aV ?_
 refine aK rfl rfl ?_
 exact ⟨by simp [kU, *], X⟩
theorem aBS (a b : Int) (w : World)  :
   Calls Tryz.prog 263 #[.int .i64 a, .int .i64 b] w (fD fun v w' => v = .bool (kU a b) ∧ Ext w w') := by
 have X := Q7r w
 refine bI (args := [.int .i64 a, .int .i64 b]) Tryz.func263 Tryz.ntmps263 rfl rfl ?_
 refine aE ?_
 refine aA rfl (aD rfl ?_)
 refine aB ?_
 refine aQ ?_
 refine aE ?_
 refine aA rfl (aC rfl ?_)
 refine aB ?_
 refine aW ?_
 refine aE ?_
 refine aA rfl (dK rfl rfl (fun h1 => ?_) (fun h1 => ?_))
 refine aA rfl (aD rfl ?_)
 refine aB ?_
 refine aR rfl ?_
 refine aE ?_
 refine aA rfl (aC rfl ?_)
 refine aA rfl (aS mL rfl (aO (jJ _ _ _ _) ?_))
 rintro _ w3 ⟨rfl, x2⟩
 replace X := Q7x X x2
 refine aA rfl (aD rfl ?_)
 refine aB ?_
 refine aV ?_
 refine dN ?_
 refine bU ?_
 refine aK rfl rfl ?_
 exact ⟨by simp [kU, *], X⟩
 refine aA rfl (aD rfl ?_)
 refine aB ?_
 refine aL rfl ?_
 refine aE ?_
 refine aA rfl (dK rfl rfl (fun h4 => ?_) (fun h4 => ?_))
 refine aA rfl (aD rfl ?_)
 refine aB ?_
 refine aR rfl ?_
 refine aE ?_
 refine aA rfl (aC rfl ?_)
 refine aA rfl (aS mL rfl (aO (jJ _ _ _ _) ?_))
 rintro _ w6 ⟨rfl, x5⟩
 replace X := Q7x X x5
 refine aA rfl (aD rfl ?_)
 refine aB ?_
 refine aV ?_
 refine dN ?_
 refine bU ?_
 refine aK rfl rfl ?_
 exact ⟨by simp [kU, *], X⟩
 refine aA rfl (aD rfl ?_)
 refine aB ?_
 refine aL rfl ?_
 refine aU ?_
 refine dJ ?_
 refine aP ?_
 refine aE ?_
 refine aA rfl (aC rfl ?_)
 refine aA rfl (iD rfl rfl ?_)
 refine aA rfl (aD rfl ?_)
 refine aB ?_
 refine aV ?_
 refine aK rfl rfl ?_
 exact ⟨by simp [kU, *], X⟩
theorem aDW (a : Int) (w : World)  :
   Calls Tryz.prog 274 #[.int .i64 a] w (fD fun v w' => v = .bool (decide (a ≠ 0)) ∧ Ext w w') := by
 have X := Q7r w
 refine bI (args := [.int .i64 a]) Tryz.func274 Tryz.ntmps274 rfl rfl ?_
 refine aE ?_
 refine aA rfl (aD rfl ?_)
 refine aB ?_
 refine aE ?_
 refine aA rfl (aC rfl ?_)
 refine aA rfl (qS rfl rfl ?_)
 refine aA rfl (aD rfl ?_)
 refine aB ?_
 refine aV ?_
 refine aK rfl rfl ?_
 exact ⟨by rfl, X⟩
theorem aDX (a : Int) (w : World)  :
   Calls Tryz.prog 284 #[.int .i64 a] w (fD fun v w' => v = .bool (decide (a ≠ 0)) ∧ Ext w w') := by
 have X := Q7r w
 refine bI (args := [.int .i64 a]) Tryz.func284 Tryz.ntmps284 rfl rfl ?_
 refine aE ?_
 refine aA rfl (aD rfl ?_)
 refine aB ?_
 refine aE ?_
 refine aA rfl (aC rfl ?_)
 refine aA rfl (qS rfl rfl ?_)
 refine aA rfl (aD rfl ?_)
 refine aB ?_
 refine aV ?_
 refine aK rfl rfl ?_
 exact ⟨by rfl, X⟩
theorem wJ (a : Int) (w : World)  :
   Calls Tryz.prog 247 #[.int .i64 a] w (fD fun v w' => v = .bool (decide (a = 0 ∨ a = 2)) ∧ Ext w w') := by
 have X := Q7r w
 refine bI (args := [.int .i64 a]) Tryz.func247 Tryz.ntmps247 rfl rfl ?_
 refine aE ?_
 refine aA rfl (aD rfl ?_)
 refine aB ?_
 refine aE ?_
 refine aA rfl (aC rfl ?_)
 refine aA rfl (dK rfl rfl (fun h1 => ?_) (fun h1 => ?_))
 refine aA rfl (aC rfl ?_)
 refine aG rfl rfl rfl rfl ?_
 refine aG rfl rfl rfl rfl ?_
 refine aA rfl (aJ rfl rfl ?_)
 refine aA rfl (aD rfl ?_)
 refine aB ?_
 refine aV ?_
 refine aK rfl rfl ?_
 exact ⟨by simp [*], X⟩
 refine aA rfl (aC rfl ?_)
 refine aH rfl rfl rfl (aC rfl ?_)
 refine aH rfl rfl rfl (iD rfl rfl ?_)
 refine aA rfl (aJ rfl rfl ?_)
 refine aA rfl (aD rfl ?_)
 refine aB ?_
 refine aV ?_
 refine aK rfl rfl ?_
 exact ⟨by simp [*], X⟩
theorem aA7 (a : Int) (w : World)  :
   Calls Tryz.prog 285 #[.int .i64 a] w (fD fun v w' => v = .bool (decide (a = 0 ∨ a = 2)) ∧ Ext w w') := by
 have X := Q7r w
 refine bI (args := [.int .i64 a]) Tryz.func285 Tryz.ntmps285 rfl rfl ?_
 refine aE ?_
 refine aA rfl (aD rfl ?_)
 refine aB ?_
 refine aE ?_
 refine aA rfl (aC rfl ?_)
 refine aA rfl (dK rfl rfl (fun h1 => ?_) (fun h1 => ?_))
 refine aA rfl (aC rfl ?_)
 refine aG rfl rfl rfl rfl ?_
 refine aG rfl rfl rfl rfl ?_
 refine aA rfl (aJ rfl rfl ?_)
 refine aA rfl (aD rfl ?_)
 refine aB ?_
 refine aV ?_
 refine aK rfl rfl ?_
 exact ⟨by simp [*], X⟩
 refine aA rfl (aC rfl ?_)
 refine aH rfl rfl rfl (aC rfl ?_)
 refine aH rfl rfl rfl (iD rfl rfl ?_)
 refine aA rfl (aJ rfl rfl ?_)
 refine aA rfl (aD rfl ?_)
 refine aB ?_
 refine aV ?_
 refine aK rfl rfl ?_
 exact ⟨by simp [*], X⟩
theorem aFl (a b : Int) (w : World) (hb : 0 ≤ b ∧ b ≤ 32) :
   Calls Tryz.prog 256 #[.int .i64 a, .int .i64 b] w (fD fun v w' => v = .int .i64 (nG a b) ∧ Ext w w') := by
 have X := Q7r w
 refine bI (args := [.int .i64 a, .int .i64 b]) Tryz.func256 Tryz.ntmps256 rfl rfl ?_
 refine aE ?_
 refine aA rfl (aD rfl ?_)
 refine aB ?_
 refine aE ?_
 refine aA rfl (aD rfl ?_)
 refine aB ?_
 refine aQ ?_
 refine aE ?_
 refine aA rfl (aC rfl ?_)
 refine aA rfl (cW aJL rfl (aDW _ _) (fun w3 h1 x2 => ?_) (fun w3 h1 x2 => ?_))
 replace X := Q7x X x2
 refine aB ?_
 refine aR rfl ?_
 refine aM ?_
 refine aA rfl (aC rfl ?_)
 refine aA rfl (aZ rfl rfl (dR (by omega)) ?_)
 refine aA rfl (aD rfl ?_)
 refine aB ?_
 refine aP ?_
 refine aQ ?_
 refine aE ?_
 refine aA rfl (aC rfl ?_)
 refine aA rfl (cW aDP rfl (wJ _ _) (fun w6 h4 x5 => ?_) (fun w6 h4 x5 => ?_))
 replace X := Q7x X x5
 refine aB ?_
 refine aR rfl ?_
 refine aM ?_
 refine aA rfl (aC rfl ?_)
 refine aA rfl (aZ rfl rfl (dR (by omega)) ?_)
 refine aA rfl (aC rfl ?_)
 refine aA rfl (aZ rfl rfl (dR (by omega)) ?_)
 refine aA rfl (aD rfl ?_)
 refine aB ?_
 refine aP ?_
 refine aE ?_
 refine aA rfl (aC rfl ?_)
 refine aA rfl (aD rfl ?_)
 refine aB ?_
 refine aV ?_
 refine aK rfl rfl ?_
 · skip
   refine ⟨congrArg (Value.int .i64) ?_, X⟩
   simp only [decide_eq_true_eq, decide_eq_false_iff_not] at *
   unfold nG
   (repeat' split) <;> omega
 replace X := Q7x X x5
 refine aB ?_
 refine aL rfl ?_
 refine aU ?_
 refine aP ?_
 refine aE ?_
 refine aA rfl (aC rfl ?_)
 refine aA rfl (aD rfl ?_)
 refine aB ?_
 refine aV ?_
 refine aK rfl rfl ?_
 · skip
   refine ⟨congrArg (Value.int .i64) ?_, X⟩
   simp only [decide_eq_true_eq, decide_eq_false_iff_not] at *
   unfold nG
   (repeat' split) <;> omega
 replace X := Q7x X x2
 refine aB ?_
 refine aL rfl ?_
 refine aU ?_
 refine aP ?_
 refine aQ ?_
 refine aE ?_
 refine aA rfl (aC rfl ?_)
 refine aA rfl (cW aDP rfl (wJ _ _) (fun w9 h7 x8 => ?_) (fun w9 h7 x8 => ?_))
 replace X := Q7x X x8
 refine aB ?_
 refine aR rfl ?_
 refine aM ?_
 refine aA rfl (aC rfl ?_)
 refine aA rfl (aZ rfl rfl (dR (by omega)) ?_)
 refine aA rfl (aC rfl ?_)
 refine aA rfl (aZ rfl rfl (dR (by omega)) ?_)
 refine aA rfl (aD rfl ?_)
 refine aB ?_
 refine aP ?_
 refine aE ?_
 refine aA rfl (aC rfl ?_)
 refine aA rfl (aD rfl ?_)
 refine aB ?_
 refine aV ?_
 refine aK rfl rfl ?_
 · skip
   refine ⟨congrArg (Value.int .i64) ?_, X⟩
   simp only [decide_eq_true_eq, decide_eq_false_iff_not] at *
   unfold nG
   (repeat' split) <;> omega
 replace X := Q7x X x8
 refine aB ?_
 refine aL rfl ?_
 refine aU ?_
 refine aP ?_
 refine aE ?_
 refine aA rfl (aC rfl ?_)
 refine aA rfl (aD rfl ?_)
 refine aB ?_
 refine aV ?_
 refine aK rfl rfl ?_
 · skip
   refine ⟨congrArg (Value.int .i64) ?_, X⟩
   simp only [decide_eq_true_eq, decide_eq_false_iff_not] at *
   unfold nG
   (repeat' split) <;> omega
theorem aDY (a b : Int) (w : World) (hb : 0 ≤ b ∧ b ≤ 32) :
   Calls Tryz.prog 277 #[.int .i64 a, .int .i64 b] w (fD fun v w' => v = .int .i64 (nG a b) ∧ Ext w w') := by
 have X := Q7r w
 refine bI (args := [.int .i64 a, .int .i64 b]) Tryz.func277 Tryz.ntmps277 rfl rfl ?_
 refine aE ?_
 refine aA rfl (aD rfl ?_)
 refine aB ?_
 refine aE ?_
 refine aA rfl (aD rfl ?_)
 refine aB ?_
 refine aQ ?_
 refine aE ?_
 refine aA rfl (aC rfl ?_)
 refine aA rfl (cW aJQ rfl (aDX _ _) (fun w3 h1 x2 => ?_) (fun w3 h1 x2 => ?_))
 replace X := Q7x X x2
 refine aB ?_
 refine aR rfl ?_
 refine aM ?_
 refine aA rfl (aC rfl ?_)
 refine aA rfl (aZ rfl rfl (dR (by omega)) ?_)
 refine aA rfl (aD rfl ?_)
 refine aB ?_
 refine aP ?_
 refine aQ ?_
 refine aE ?_
 refine aA rfl (aC rfl ?_)
 refine aA rfl (cW aGM rfl (aA7 _ _) (fun w6 h4 x5 => ?_) (fun w6 h4 x5 => ?_))
 replace X := Q7x X x5
 refine aB ?_
 refine aR rfl ?_
 refine aM ?_
 refine aA rfl (aC rfl ?_)
 refine aA rfl (aC rfl ?_)
 refine aA rfl (aZ rfl rfl (dR (by omega)) ?_)
 refine aA rfl (aZ rfl rfl (dR (by omega)) ?_)
 refine aA rfl (aD rfl ?_)
 refine aB ?_
 refine aP ?_
 refine aE ?_
 refine aA rfl (aC rfl ?_)
 refine aA rfl (aD rfl ?_)
 refine aB ?_
 refine aV ?_
 refine aK rfl rfl ?_
 · skip
   refine ⟨congrArg (Value.int .i64) ?_, X⟩
   simp only [decide_eq_true_eq, decide_eq_false_iff_not] at *
   unfold nG
   (repeat' split) <;> omega
 replace X := Q7x X x5
 refine aB ?_
 refine aL rfl ?_
 refine aU ?_
 refine aP ?_
 refine aE ?_
 refine aA rfl (aC rfl ?_)
 refine aA rfl (aD rfl ?_)
 refine aB ?_
 refine aV ?_
 refine aK rfl rfl ?_
 · skip
   refine ⟨congrArg (Value.int .i64) ?_, X⟩
   simp only [decide_eq_true_eq, decide_eq_false_iff_not] at *
   unfold nG
   (repeat' split) <;> omega
 replace X := Q7x X x2
 refine aB ?_
 refine aL rfl ?_
 refine aU ?_
 refine aP ?_
 refine aQ ?_
 refine aE ?_
 refine aA rfl (aC rfl ?_)
 refine aA rfl (cW aGM rfl (aA7 _ _) (fun w9 h7 x8 => ?_) (fun w9 h7 x8 => ?_))
 replace X := Q7x X x8
 refine aB ?_
 refine aR rfl ?_
 refine aM ?_
 refine aA rfl (aC rfl ?_)
 refine aA rfl (aC rfl ?_)
 refine aA rfl (aZ rfl rfl (dR (by omega)) ?_)
 refine aA rfl (aZ rfl rfl (dR (by omega)) ?_)
 refine aA rfl (aD rfl ?_)
 refine aB ?_
 refine aP ?_
 refine aE ?_
 refine aA rfl (aC rfl ?_)
 refine aA rfl (aD rfl ?_)
 refine aB ?_
 refine aV ?_
 refine aK rfl rfl ?_
 · skip
   refine ⟨congrArg (Value.int .i64) ?_, X⟩
   simp only [decide_eq_true_eq, decide_eq_false_iff_not] at *
   unfold nG
   (repeat' split) <;> omega
 replace X := Q7x X x8
 refine aB ?_
 refine aL rfl ?_
 refine aU ?_
 refine aP ?_
 refine aE ?_
 refine aA rfl (aC rfl ?_)
 refine aA rfl (aD rfl ?_)
 refine aB ?_
 refine aV ?_
 refine aK rfl rfl ?_
 · skip
   refine ⟨congrArg (Value.int .i64) ?_, X⟩
   simp only [decide_eq_true_eq, decide_eq_false_iff_not] at *
   unfold nG
   (repeat' split) <;> omega
theorem lK (a b : Int) (w : World) (hb : 0 ≤ b ∧ b ≤ 32) :
   Calls Tryz.prog 215 #[.int .i64 a, .int .i64 b] w (fD fun v w' => v = .int .i64 (qW a b) ∧ Ext w w') := by
 have h1 := aAn a hb
 have X := Q7r w
 refine bI (args := [.int .i64 a, .int .i64 b]) Tryz.func215 Tryz.ntmps215 rfl rfl ?_
 refine aE ?_
 refine aA rfl (aD rfl ?_)
 refine aB ?_
 refine aE ?_
 refine aA rfl (aC rfl ?_)
 refine aA rfl (aC rfl ?_)
 refine aA rfl (aS aJC rfl (aO (aFl _ _ _ hb) ?_))
 rintro _ w2 ⟨rfl, x1⟩
 replace X := Q7x X x1
 refine aA rfl (aZ rfl rfl (dR (by omega)) ?_)
 refine aA rfl (iN rfl rfl (dR (by omega)) ?_)
 refine aA rfl (aZ rfl rfl (dR (by omega)) ?_)
 refine aA rfl (aD rfl ?_)
 refine aB ?_
 refine aV ?_
 refine aK rfl rfl ?_
 exact ⟨by rfl, X⟩
theorem uA (a b : Int) (w : World) (hb : 0 ≤ b ∧ b ≤ 32) :
   Calls Tryz.prog 264 #[.int .i64 a, .int .i64 b] w (fD fun v w' => v = .int .i64 (qW a b) ∧ Ext w w') := by
 have h1 := aAn a hb
 have X := Q7r w
 refine bI (args := [.int .i64 a, .int .i64 b]) Tryz.func264 Tryz.ntmps264 rfl rfl ?_
 refine aE ?_
 refine aA rfl (aD rfl ?_)
 refine aB ?_
 refine aE ?_
 refine aA rfl (aC rfl ?_)
 refine aA rfl (aC rfl ?_)
 refine aA rfl (aS aJN rfl (aO (aDY _ _ _ hb) ?_))
 rintro _ w2 ⟨rfl, x1⟩
 replace X := Q7x X x1
 refine aA rfl (aZ rfl rfl (dR (by omega)) ?_)
 refine aA rfl (iN rfl rfl (dR (by omega)) ?_)
 refine aA rfl (aZ rfl rfl (dR (by omega)) ?_)
 refine aA rfl (aD rfl ?_)
 refine aB ?_
 refine aV ?_
 refine aK rfl rfl ?_
 exact ⟨by rfl, X⟩
theorem aFm (d : Desc) (w : World)  :
   Calls Tryz.prog 266 #[.agg d.cells.toArray] w (fD fun v w' => v = .bool (fI d) ∧ Ext w w') := by
 have X := Q7r w
 refine bI (args := [.agg d.cells.toArray]) Tryz.func266 Tryz.ntmps266 rfl rfl ?_
 refine aE ?_
 refine aA rfl (eE rfl rfl ?_)
 intro g4 w3 eg4 b1 x2 zg4
 have lg4 : w.heap.size ≤ g4 := Q7l X.size (Q7e eg4.symm)
 replace X := Q7x X x2
 refine aA rfl (aD rfl ?_)
 refine aB ?_
 refine aQ ?_
 refine aE ?_
 refine aA rfl (aF jN rfl rfl ?_)
 refine aA rfl (aI b1 cY rfl rfl ?_)
 refine aA rfl (cW aGL rfl (aA6 _ _) (fun w7 h5 x6 => ?_) (fun w7 h5 x6 => ?_))
 replace b1 := b1.ext x6
 replace X := Q7x X x6
 refine aA rfl (cD rfl ?_)
 refine aA rfl (aC rfl ?_)
 refine aH rfl rfl rfl (aF fA rfl rfl ?_)
 refine aH rfl rfl rfl (aI b1 cY rfl rfl ?_)
 refine aH rfl rfl rfl (cW aJO rfl (aFj _ _) (fun w10 h8 x9 => ?_) (fun w10 h8 x9 => ?_))
 replace b1 := b1.ext x9
 replace X := Q7x X x9
 refine aH rfl rfl rfl (cD rfl ?_)
 refine aA rfl (aJ rfl rfl ?_)
 refine aA rfl (aC rfl ?_)
 refine aH rfl rfl rfl (aF fA rfl rfl ?_)
 refine aH rfl rfl rfl (aI b1 cY rfl rfl ?_)
 refine aH rfl rfl rfl (aF iR rfl rfl ?_)
 refine aH rfl rfl rfl (aI b1 cY rfl rfl ?_)
 refine aH rfl rfl rfl (cW aJP rfl (aFk _ _ _) (fun w13 h11 x12 => ?_) (fun w13 h11 x12 => ?_))
 replace b1 := b1.ext x12
 replace X := Q7x X x12
 refine aH rfl rfl rfl (cD rfl ?_)
 refine aA rfl (aJ rfl rfl ?_)
 refine aA rfl (aC rfl ?_)
 refine aH rfl rfl rfl (aF fA rfl rfl ?_)
 refine aH rfl rfl rfl (aI b1 cY rfl rfl ?_)
 refine aH rfl rfl rfl (dK rfl rfl (fun h14 => ?_) (fun h14 => ?_))
 refine aH rfl rfl rfl (aC rfl ?_)
 refine aH rfl rfl rfl (aF nK rfl rfl ?_)
 refine aH rfl rfl rfl (aI b1 uX rfl rfl ?_)
 cases hb15 : d.change
 refine aH rfl rfl rfl (aJ rfl rfl ?_)
 refine aA rfl (aJ rfl rfl ?_)
 refine aB ?_
 refine aL rfl ?_
 refine aU ?_
 refine aP ?_
 refine eO [false, false, false, false, false, false, false, false, false, false] mixed (by kernel_rfl) ?_
 refine cE rfl (fun wq sq => aF eK rfl rfl ⟨rfl, Q7r _⟩) ?_
 refine cE rfl (fun wq sq => aI (b1.ext sq) cY rfl rfl ⟨rfl, Q7r _⟩) ?_
 refine cE rfl (fun wq sq => aF fA rfl rfl ⟨rfl, Q7r _⟩) ?_
 refine cE rfl (fun wq sq => aI (b1.ext sq) cY rfl rfl ⟨rfl, Q7r _⟩) ?_
 refine cE rfl (fun wq sq => aF iR rfl rfl ⟨rfl, Q7r _⟩) ?_
 refine cE rfl (fun wq sq => aI (b1.ext sq) cY rfl rfl ⟨rfl, Q7r _⟩) ?_
 have hb : 0 ≤ d.size ∧ d.size ≤ 32 := qG ‹kU d.kind d.size = true›
 have h0 := iC d.kind hb
 refine cE rfl (fun wq sq => aS uM rfl (lK _ _ _ hb)) ?_
 refine cE rfl (fun wq sq => aZ rfl rfl (dR (by omega)) ⟨rfl, Q7r _⟩) ?_
 refine cE rfl (fun wq sq => aS jW rfl (iM _ _ _ _)) ?_
 refine cE rfl (fun wq sq => aD rfl ⟨rfl, Q7r _⟩) ?_
 refine dW (fun w16 sq => ?_)
 have xq := sq
 replace b1 := b1.ext xq
 replace X := Q7x X xq; clear xq sq
 refine aB ?_
 refine aV ?_
 refine aK rfl rfl ?_
 · skip
   refine ⟨congrArg Value.bool ?_, X⟩
   first | (simp [fI, *]; done) | (simp_all [fI]; done)
 refine aH rfl rfl rfl (aJ rfl rfl ?_)
 refine aA rfl (aJ rfl rfl ?_)
 refine aB ?_
 refine aR rfl ?_
 refine aE ?_
 refine aA rfl (aD rfl ?_)
 refine aB ?_
 refine aV ?_
 refine bU ?_
 refine aK rfl rfl ?_
 · skip
   refine ⟨congrArg Value.bool ?_, X⟩
   first | (simp [fI, *]; done) | (simp_all [fI]; done)
 refine aH rfl rfl rfl (aC rfl ?_)
 refine aG rfl rfl rfl rfl ?_
 refine aG rfl rfl rfl rfl ?_
 refine aH rfl rfl rfl (aJ rfl rfl ?_)
 refine aA rfl (aJ rfl rfl ?_)
 refine aB ?_
 refine aL rfl ?_
 refine aU ?_
 refine aP ?_
 refine eO [false, false, false, false, false, false, false, false, false, false] mixed (by kernel_rfl) ?_
 refine cE rfl (fun wq sq => aF eK rfl rfl ⟨rfl, Q7r _⟩) ?_
 refine cE rfl (fun wq sq => aI (b1.ext sq) cY rfl rfl ⟨rfl, Q7r _⟩) ?_
 refine cE rfl (fun wq sq => aF fA rfl rfl ⟨rfl, Q7r _⟩) ?_
 refine cE rfl (fun wq sq => aI (b1.ext sq) cY rfl rfl ⟨rfl, Q7r _⟩) ?_
 refine cE rfl (fun wq sq => aF iR rfl rfl ⟨rfl, Q7r _⟩) ?_
 refine cE rfl (fun wq sq => aI (b1.ext sq) cY rfl rfl ⟨rfl, Q7r _⟩) ?_
 have hb : 0 ≤ d.size ∧ d.size ≤ 32 := qG ‹kU d.kind d.size = true›
 have h0 := iC d.kind hb
 refine cE rfl (fun wq sq => aS uM rfl (lK _ _ _ hb)) ?_
 refine cE rfl (fun wq sq => aZ rfl rfl (dR (by omega)) ⟨rfl, Q7r _⟩) ?_
 refine cE rfl (fun wq sq => aS jW rfl (iM _ _ _ _)) ?_
 refine cE rfl (fun wq sq => aD rfl ⟨rfl, Q7r _⟩) ?_
 refine dW (fun w17 sq => ?_)
 have xq := sq
 replace b1 := b1.ext xq
 replace X := Q7x X xq; clear xq sq
 refine aB ?_
 refine aV ?_
 refine aK rfl rfl ?_
 · skip
   refine ⟨congrArg Value.bool ?_, X⟩
   first | (simp [fI, *]; done) | (simp_all [fI]; done)
 replace b1 := b1.ext x12
 replace X := Q7x X x12
 refine aH rfl rfl rfl (cD rfl ?_)
 refine aA rfl (aJ rfl rfl ?_)
 refine aA rfl (aC rfl ?_)
 refine aG rfl rfl rfl rfl ?_
 refine aG rfl rfl rfl rfl ?_
 refine aG rfl rfl rfl rfl ?_
 refine aG rfl rfl rfl rfl ?_
 refine dX rfl rfl rfl ?_
 refine dX rfl rfl rfl ?_
 refine aG rfl rfl rfl rfl ?_
 refine aA rfl (aJ rfl rfl ?_)
 refine aB ?_
 refine aR rfl ?_
 refine aE ?_
 refine aA rfl (aD rfl ?_)
 refine aB ?_
 refine aV ?_
 refine bU ?_
 refine aK rfl rfl ?_
 · skip
   refine ⟨congrArg Value.bool ?_, X⟩
   first | (simp [fI, *]; done) | (simp_all [fI]; done)
 replace b1 := b1.ext x9
 replace X := Q7x X x9
 refine aH rfl rfl rfl (cD rfl ?_)
 refine aA rfl (aJ rfl rfl ?_)
 refine aA rfl (aC rfl ?_)
 refine aG rfl rfl rfl rfl ?_
 refine aG rfl rfl rfl rfl ?_
 refine aG rfl rfl rfl rfl ?_
 refine aG rfl rfl rfl rfl ?_
 refine aG rfl rfl rfl rfl ?_
 refine aG rfl rfl rfl rfl ?_
 refine aA rfl (aJ rfl rfl ?_)
 refine aA rfl (aC rfl ?_)
 refine aG rfl rfl rfl rfl ?_
 refine aG rfl rfl rfl rfl ?_
 refine aG rfl rfl rfl rfl ?_
 refine aG rfl rfl rfl rfl ?_
 refine dX rfl rfl rfl ?_
 refine dX rfl rfl rfl ?_
 refine aG rfl rfl rfl rfl ?_
 refine aA rfl (aJ rfl rfl ?_)
 refine aB ?_
 refine aR rfl ?_
 refine aE ?_
 refine aA rfl (aD rfl ?_)
 refine aB ?_
 refine aV ?_
 refine bU ?_
 refine aK rfl rfl ?_
 · skip
   refine ⟨congrArg Value.bool ?_, X⟩
   first | (simp [fI, *]; done) | (simp_all [fI]; done)
 replace b1 := b1.ext x6
 replace X := Q7x X x6
 refine aA rfl (cD rfl ?_)
 refine aA rfl (aC rfl ?_)
 refine aG rfl rfl rfl rfl ?_
 refine aG rfl rfl rfl rfl ?_
 refine aG rfl rfl rfl rfl ?_
 refine aG rfl rfl rfl rfl ?_
 refine aA rfl (aJ rfl rfl ?_)
 refine aA rfl (aC rfl ?_)
 refine aG rfl rfl rfl rfl ?_
 refine aG rfl rfl rfl rfl ?_
 refine aG rfl rfl rfl rfl ?_
 refine aG rfl rfl rfl rfl ?_
 refine aG rfl rfl rfl rfl ?_
 refine aG rfl rfl rfl rfl ?_
 refine aA rfl (aJ rfl rfl ?_)
 refine aA rfl (aC rfl ?_)
 refine aG rfl rfl rfl rfl ?_
 refine aG rfl rfl rfl rfl ?_
 refine aG rfl rfl rfl rfl ?_
 refine aG rfl rfl rfl rfl ?_
 refine dX rfl rfl rfl ?_
 refine dX rfl rfl rfl ?_
 refine aG rfl rfl rfl rfl ?_
 refine aA rfl (aJ rfl rfl ?_)
 refine aB ?_
 refine aR rfl ?_
 refine aE ?_
 refine aA rfl (aD rfl ?_)
 refine aB ?_
 refine aV ?_
 refine bU ?_
 refine aK rfl rfl ?_
 · skip
   refine ⟨congrArg Value.bool ?_, X⟩
   first | (simp [fI, *]; done) | (simp_all [fI]; done)
theorem aA8 (d : Desc) (w : World)  :
   Calls Tryz.prog 237 #[.agg d.cells.toArray] w (fD fun v w' => v = .bool (fI d) ∧ Ext w w') := by
 have X := Q7r w
 refine bI (args := [.agg d.cells.toArray]) Tryz.func237 Tryz.ntmps237 rfl rfl ?_
 refine aE ?_
 refine aA rfl (eE rfl rfl ?_)
 intro g4 w3 eg4 b1 x2 zg4
 have lg4 : w.heap.size ≤ g4 := Q7l X.size (Q7e eg4.symm)
 replace X := Q7x X x2
 refine aA rfl (aD rfl ?_)
 refine aB ?_
 refine aQ ?_
 refine aE ?_
 refine aA rfl (aF jN rfl rfl ?_)
 refine aA rfl (aI b1 cY rfl rfl ?_)
 refine aA rfl (cW aGw rfl (aCV _ _) (fun w7 h5 x6 => ?_) (fun w7 h5 x6 => ?_))
 replace b1 := b1.ext x6
 replace X := Q7x X x6
 refine aA rfl (cD rfl ?_)
 refine aA rfl (aC rfl ?_)
 refine aH rfl rfl rfl (aF fA rfl rfl ?_)
 refine aH rfl rfl rfl (aI b1 cY rfl rfl ?_)
 refine aH rfl rfl rfl (cW aJI rfl (aG2 _ _) (fun w10 h8 x9 => ?_) (fun w10 h8 x9 => ?_))
 replace b1 := b1.ext x9
 replace X := Q7x X x9
 refine aH rfl rfl rfl (cD rfl ?_)
 refine aA rfl (aJ rfl rfl ?_)
 refine aA rfl (aC rfl ?_)
 refine aH rfl rfl rfl (aF fA rfl rfl ?_)
 refine aH rfl rfl rfl (aI b1 cY rfl rfl ?_)
 refine aH rfl rfl rfl (aF iR rfl rfl ?_)
 refine aH rfl rfl rfl (aI b1 cY rfl rfl ?_)
 refine aH rfl rfl rfl (cW aJJ rfl (aBS _ _ _) (fun w13 h11 x12 => ?_) (fun w13 h11 x12 => ?_))
 replace b1 := b1.ext x12
 replace X := Q7x X x12
 refine aH rfl rfl rfl (cD rfl ?_)
 refine aA rfl (aJ rfl rfl ?_)
 refine aA rfl (aC rfl ?_)
 refine aH rfl rfl rfl (aF nK rfl rfl ?_)
 refine aH rfl rfl rfl (aI b1 uX rfl rfl ?_)
 cases hb14 : d.change
 refine aH rfl rfl rfl (aC rfl ?_)
 refine aG rfl rfl rfl rfl ?_
 refine aG rfl rfl rfl rfl ?_
 refine aG rfl rfl rfl rfl ?_
 refine aH rfl rfl rfl (aJ rfl rfl ?_)
 refine aA rfl (aJ rfl rfl ?_)
 refine aB ?_
 refine aL rfl ?_
 refine aU ?_
 refine aP ?_
 refine eO [false, false, false, false, false, false, false, false, false, false] mixed (by kernel_rfl) ?_
 refine cE rfl (fun wq sq => aF eK rfl rfl ⟨rfl, Q7r _⟩) ?_
 refine cE rfl (fun wq sq => aI (b1.ext sq) cY rfl rfl ⟨rfl, Q7r _⟩) ?_
 refine cE rfl (fun wq sq => aF fA rfl rfl ⟨rfl, Q7r _⟩) ?_
 refine cE rfl (fun wq sq => aI (b1.ext sq) cY rfl rfl ⟨rfl, Q7r _⟩) ?_
 refine cE rfl (fun wq sq => aF iR rfl rfl ⟨rfl, Q7r _⟩) ?_
 refine cE rfl (fun wq sq => aI (b1.ext sq) cY rfl rfl ⟨rfl, Q7r _⟩) ?_
 have hb : 0 ≤ d.size ∧ d.size ≤ 32 := qG ‹kU d.kind d.size = true›
 have h0 := iC d.kind hb
 refine cE rfl (fun wq sq => aS aGK rfl (uA _ _ _ hb)) ?_
 refine cE rfl (fun wq sq => aZ rfl rfl (dR (by omega)) ⟨rfl, Q7r _⟩) ?_
 refine cE rfl (fun wq sq => aS mL rfl (jJ _ _ _ _)) ?_
 refine cE rfl (fun wq sq => aD rfl ⟨rfl, Q7r _⟩) ?_
 refine dW (fun w15 sq => ?_)
 have xq := sq
 replace b1 := b1.ext xq
 replace X := Q7x X xq; clear xq sq
 refine aB ?_
 refine aV ?_
 refine aK rfl rfl ?_
 · skip
   refine ⟨congrArg Value.bool ?_, X⟩
   first | (simp [fI, *]; done) | (simp_all [fI]; done)
 refine aH rfl rfl rfl (aC rfl ?_)
 refine aH rfl rfl rfl (aF fA rfl rfl ?_)
 refine aH rfl rfl rfl (aI b1 cY rfl rfl ?_)
 refine aH rfl rfl rfl (dK rfl rfl (fun h16 => ?_) (fun h16 => ?_))
 refine aH rfl rfl rfl (aJ rfl rfl ?_)
 refine aA rfl (aJ rfl rfl ?_)
 refine aB ?_
 refine aR rfl ?_
 refine aE ?_
 refine aA rfl (aD rfl ?_)
 refine aB ?_
 refine aV ?_
 refine bU ?_
 refine aK rfl rfl ?_
 · skip
   refine ⟨congrArg Value.bool ?_, X⟩
   first | (simp [fI, *]; done) | (simp_all [fI]; done)
 refine aH rfl rfl rfl (aJ rfl rfl ?_)
 refine aA rfl (aJ rfl rfl ?_)
 refine aB ?_
 refine aL rfl ?_
 refine aU ?_
 refine aP ?_
 refine eO [false, false, false, false, false, false, false, false, false, false] mixed (by kernel_rfl) ?_
 refine cE rfl (fun wq sq => aF eK rfl rfl ⟨rfl, Q7r _⟩) ?_
 refine cE rfl (fun wq sq => aI (b1.ext sq) cY rfl rfl ⟨rfl, Q7r _⟩) ?_
 refine cE rfl (fun wq sq => aF fA rfl rfl ⟨rfl, Q7r _⟩) ?_
 refine cE rfl (fun wq sq => aI (b1.ext sq) cY rfl rfl ⟨rfl, Q7r _⟩) ?_
 refine cE rfl (fun wq sq => aF iR rfl rfl ⟨rfl, Q7r _⟩) ?_
 refine cE rfl (fun wq sq => aI (b1.ext sq) cY rfl rfl ⟨rfl, Q7r _⟩) ?_
 have hb : 0 ≤ d.size ∧ d.size ≤ 32 := qG ‹kU d.kind d.size = true›
 have h0 := iC d.kind hb
 refine cE rfl (fun wq sq => aS aGK rfl (uA _ _ _ hb)) ?_
 refine cE rfl (fun wq sq => aZ rfl rfl (dR (by omega)) ⟨rfl, Q7r _⟩) ?_
 refine cE rfl (fun wq sq => aS mL rfl (jJ _ _ _ _)) ?_
 refine cE rfl (fun wq sq => aD rfl ⟨rfl, Q7r _⟩) ?_
 refine dW (fun w17 sq => ?_)
 have xq := sq
 replace b1 := b1.ext xq
 replace X := Q7x X xq; clear xq sq
 refine aB ?_
 refine aV ?_
 refine aK rfl rfl ?_
 · skip
   refine ⟨congrArg Value.bool ?_, X⟩
   first | (simp [fI, *]; done) | (simp_all [fI]; done)
 replace b1 := b1.ext x12
 replace X := Q7x X x12
 refine aH rfl rfl rfl (cD rfl ?_)
 refine aA rfl (aJ rfl rfl ?_)
 refine aA rfl (aC rfl ?_)
 refine aG rfl rfl rfl rfl ?_
 refine aG rfl rfl rfl rfl ?_
 refine aG rfl rfl rfl rfl ?_
 refine dX rfl rfl rfl ?_
 refine dX rfl rfl rfl ?_
 refine dX rfl rfl rfl ?_
 refine aG rfl rfl rfl rfl ?_
 refine aA rfl (aJ rfl rfl ?_)
 refine aB ?_
 refine aR rfl ?_
 refine aE ?_
 refine aA rfl (aD rfl ?_)
 refine aB ?_
 refine aV ?_
 refine bU ?_
 refine aK rfl rfl ?_
 · skip
   refine ⟨congrArg Value.bool ?_, X⟩
   first | (simp [fI, *]; done) | (simp_all [fI]; done)
 replace b1 := b1.ext x9
 replace X := Q7x X x9
 refine aH rfl rfl rfl (cD rfl ?_)
 refine aA rfl (aJ rfl rfl ?_)
 refine aA rfl (aC rfl ?_)
 refine aG rfl rfl rfl rfl ?_
 refine aG rfl rfl rfl rfl ?_
 refine aG rfl rfl rfl rfl ?_
 refine aG rfl rfl rfl rfl ?_
 refine aG rfl rfl rfl rfl ?_
 refine aG rfl rfl rfl rfl ?_
 refine aA rfl (aJ rfl rfl ?_)
 refine aA rfl (aC rfl ?_)
 refine aG rfl rfl rfl rfl ?_
 refine aG rfl rfl rfl rfl ?_
 refine aG rfl rfl rfl rfl ?_
 refine dX rfl rfl rfl ?_
 refine dX rfl rfl rfl ?_
 refine dX rfl rfl rfl ?_
 refine aG rfl rfl rfl rfl ?_
 refine aA rfl (aJ rfl rfl ?_)
 refine aB ?_
 refine aR rfl ?_
 refine aE ?_
 refine aA rfl (aD rfl ?_)
 refine aB ?_
 refine aV ?_
 refine bU ?_
 refine aK rfl rfl ?_
 · skip
   refine ⟨congrArg Value.bool ?_, X⟩
   first | (simp [fI, *]; done) | (simp_all [fI]; done)
 replace b1 := b1.ext x6
 replace X := Q7x X x6
 refine aA rfl (cD rfl ?_)
 refine aA rfl (aC rfl ?_)
 refine aG rfl rfl rfl rfl ?_
 refine aG rfl rfl rfl rfl ?_
 refine aG rfl rfl rfl rfl ?_
 refine aG rfl rfl rfl rfl ?_
 refine aA rfl (aJ rfl rfl ?_)
 refine aA rfl (aC rfl ?_)
 refine aG rfl rfl rfl rfl ?_
 refine aG rfl rfl rfl rfl ?_
 refine aG rfl rfl rfl rfl ?_
 refine aG rfl rfl rfl rfl ?_
 refine aG rfl rfl rfl rfl ?_
 refine aG rfl rfl rfl rfl ?_
 refine aA rfl (aJ rfl rfl ?_)
 refine aA rfl (aC rfl ?_)
 refine aG rfl rfl rfl rfl ?_
 refine aG rfl rfl rfl rfl ?_
 refine aG rfl rfl rfl rfl ?_
 refine dX rfl rfl rfl ?_
 refine dX rfl rfl rfl ?_
 refine dX rfl rfl rfl ?_
 refine aG rfl rfl rfl rfl ?_
 refine aA rfl (aJ rfl rfl ?_)
 refine aB ?_
 refine aR rfl ?_
 refine aE ?_
 refine aA rfl (aD rfl ?_)
 refine aB ?_
 refine aV ?_
 refine bU ?_
 refine aK rfl rfl ?_
 · skip
   refine ⟨congrArg Value.bool ?_, X⟩
   first | (simp [fI, *]; done) | (simp_all [fI]; done)
end Go.Proofs.YtdoibplhbdkapaaGreatDoor
namespace Go.Proofs.YtdoibplhbdkapaaGreatDoor
open Go.RowKit Go.Shelf Go.Lib
set_option linter.unusedVariables false
def aCW : Go.Shelf.Ren := ⟨fun x => match x with | 160 => 248 | 232 => 268 | 231 => 267 | 227 => 269 | 234 => 271 | 233 => 270 | 236 => 273 | 235 => 272 | 228 => 280 | 271 => 283 | 151 => 282 | 197 => 281 | 120 => 288 | 152 => 287 | 260 => 286 | 137 => 289 | 119 => 290 | 224 => 291 | 225 => 292 | 217 => 293 | 266 => 294 | n => n, fun x => match x with | 9 => 9 | 4 => 4 | 3 => 3 | 5 => 5 | 117 => 234 | 116 => 233 | 0 => 0 | 124 => 237 | 21 => 21 | 105 => 240 | 46 => 140 | 119 => 244 | 139 => 247 | 138 => 246 | n => n, fun x => match x with | 3 => 0 | 4 => 1 | n => n⟩
set_option maxRecDepth 100000
theorem aHN : Lays.n160 Tryz.prog aCW where
 mixed := by kernel_rfl
 f119 := Tryz.func290.trans (congrArg some (by kernel_rfl))
 f120 := Tryz.func288.trans (congrArg some (by kernel_rfl))
 f137 := Tryz.func289.trans (congrArg some (by kernel_rfl))
 f151 := Tryz.func282.trans (congrArg some (by kernel_rfl))
 f152 := Tryz.func287.trans (congrArg some (by kernel_rfl))
 f160 := Tryz.func248.trans (congrArg some (by kernel_rfl))
 f197 := Tryz.func281.trans (congrArg some (by kernel_rfl))
 f217 := Tryz.func293.trans (congrArg some (by kernel_rfl))
 f224 := Tryz.func291.trans (congrArg some (by kernel_rfl))
 f225 := Tryz.func292.trans (congrArg some (by kernel_rfl))
 f227 := Tryz.func269.trans (congrArg some (by kernel_rfl))
 f228 := Tryz.func280.trans (congrArg some (by kernel_rfl))
 f231 := Tryz.func267.trans (congrArg some (by kernel_rfl))
 f232 := Tryz.func268.trans (congrArg some (by kernel_rfl))
 f233 := Tryz.func270.trans (congrArg some (by kernel_rfl))
 f234 := Tryz.func271.trans (congrArg some (by kernel_rfl))
 f235 := Tryz.func272.trans (congrArg some (by kernel_rfl))
 f236 := Tryz.func273.trans (congrArg some (by kernel_rfl))
 f260 := Tryz.func286.trans (congrArg some (by kernel_rfl))
 f266 := Tryz.func294.trans (congrArg some (by kernel_rfl))
 f271 := Tryz.func283.trans (congrArg some (by kernel_rfl))
 t0 := Tryz.underlying0
 a0 := Tryz.isAgg0
 z0 := Tryz.sizeOf0
 v0 := Tryz.zeroValue0
 t3 := Tryz.underlying3
 a3 := Tryz.isAgg3
 z3 := Tryz.sizeOf3
 v3 := Tryz.zeroValue3
 t4 := Tryz.underlying4
 a4 := Tryz.isAgg4
 z4 := Tryz.sizeOf4
 v4 := Tryz.zeroValue4
 t5 := Tryz.underlying5
 a5 := Tryz.isAgg5
 z5 := Tryz.sizeOf5
 v5 := Tryz.zeroValue5
 t9 := Tryz.underlying9
 a9 := Tryz.isAgg9
 z9 := Tryz.sizeOf9
 v9 := Tryz.zeroValue9
 t21 := Tryz.underlying21
 a21 := Tryz.isAgg21
 z21 := Tryz.sizeOf21
 v21 := Tryz.zeroValue21
 t46 := Tryz.underlying140
 a46 := Tryz.isAgg140
 z46 := Tryz.sizeOf140
 v46 := Tryz.zeroValue140
 t105 := Tryz.underlying240
 a105 := Tryz.isAgg240
 z105 := Tryz.sizeOf240
 v105 := Tryz.zeroValue240
 t116 := Tryz.underlying233
 a116 := Tryz.isAgg233
 z116 := Tryz.sizeOf233
 t117 := Tryz.underlying234
 a117 := Tryz.isAgg234
 z117 := Tryz.sizeOf234
 v117 := Tryz.zeroValue234
 t119 := Tryz.underlying244
 a119 := Tryz.isAgg244
 z119 := Tryz.sizeOf244
 t124 := Tryz.underlying237
 a124 := Tryz.isAgg237
 z124 := Tryz.sizeOf237
 v124 := Tryz.zeroValue237
 t138 := Tryz.underlying246
 a138 := Tryz.isAgg246
 z138 := Tryz.sizeOf246
 v138 := Tryz.zeroValue246
 t139 := Tryz.underlying247
 a139 := Tryz.isAgg247
 z139 := Tryz.sizeOf247
 v139 := Tryz.zeroValue247
 g3 := by kernel_rfl
 g4 := by kernel_rfl
theorem aJT (s : ByteArray) (w : World) (hs : s.size ≤ 9223372036854775807) :
   Calls Tryz.prog 248 #[.string s, .string ⟨#[97, 98, 99, 100, 101, 102, 103, 104, 105, 106, 107, 108, 109, 110, 111, 112, 113, 114, 115, 116, 117, 118, 119, 120, 121, 122, 48, 49, 50, 51, 52, 53, 54, 55, 56, 57]⟩] w (fD fun v w' => v = .string (aGT s) ∧ Ext w w') := by
 have hcon := Any.strings_Trim_laid aHN (by kernel_rfl) s ⟨#[97, 98, 99, 100, 101, 102, 103, 104, 105, 106, 107, 108, 109, 110, 111, 112, 113, 114, 115, 116, 117, 118, 119, 120, 121, 122, 48, 49, 50, 51, 52, 53, 54, 55, 56, 57]⟩ w hs (by decide) (ascii_of_all (by decide))
 refine Calls.mono hcon fun e w' h => ?_
 obtain ⟨rfl, hb⟩ := h
 exact ⟨rfl, hb⟩
end Go.Proofs.YtdoibplhbdkapaaGreatDoor
