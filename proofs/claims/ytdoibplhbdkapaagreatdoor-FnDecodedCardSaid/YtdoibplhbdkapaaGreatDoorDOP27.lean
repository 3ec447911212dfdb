/- Parts. No condition. -/
import Derived.Test.YtdoibplhbdkapaaGreatDoorDOP23
import Derived.Test.YtdoibplhbdkapaaGreatDoorDOP24
import Derived.Test.YtdoibplhbdkapaaGreatDoorDOP25
import Derived.Test.YtdoibplhbdkapaaGreatDoorDOP26
namespace Go.Proofs.YtdoibplhbdkapaaGreatDoor
open Go.RowKit
set_option linter.unusedVariables false
set_option linter.unusedSimpArgs false
set_option maxRecDepth 20000
def aDd (xs : List Int) : Int := xs.getD 0 0 * 65536 + xs.getD 1 0 * 256 + xs.getD 2 0
def qX (xs : List Int) : Option MedlD := match jD (xs.drop 3) with
 | none => none
 | some n => match lF ((xs.drop 3).drop n.2) with
   | none => none
   | some r => match jI (((xs.drop 3).drop n.2).drop r.2) with
     | none => none
     | some l => if 1 + 7 * l.length = (((xs.drop 3).drop n.2).drop r.2).length then some ⟨aDd xs, n.1, r.1, l⟩ else none
def iI (xs : List Int) : MedlD × Int := if xs.length < 3 then (zeroM.d, 6) else match qX xs with
 | none => (zeroM.d, 6)
 | some d => if lK d = true then (d, 0) else (zeroM.d, 1)
def jW (xs : List Int) : MedlD × Int := if nU xs = true then iI xs else (zeroM.d, 2)
theorem aEb {xs : List Int} (h : jD (xs.drop 3) = none) : qX xs = none := by rw [qX, h]
theorem aEc {xs : List Int} {n : List NodeI × Nat} (h : jD (xs.drop 3) = some n) (h2 : lF ((xs.drop 3).drop n.2) = none) : qX xs = none := by rw [qX, h]; simp only []; rw [h2]
theorem aEd {xs : List Int} {n : List NodeI × Nat} {r : List Mode × Nat} (h : jD (xs.drop 3) = some n) (h2 : lF ((xs.drop 3).drop n.2) = some r) (h3 : jI (((xs.drop 3).drop n.2).drop r.2) = none) : qX xs = none := by rw [qX, h]; simp only []; rw [h2]; simp only []; rw [h3]
theorem aEe {xs : List Int} {n : List NodeI × Nat} {r : List Mode × Nat} {l : List SlotI} (h : jD (xs.drop 3) = some n) (h2 : lF ((xs.drop 3).drop n.2) = some r) (h3 : jI (((xs.drop 3).drop n.2).drop r.2) = some l) (h4 : 1 + 7 * l.length ≠ (((xs.drop 3).drop n.2).drop r.2).length) : qX xs = none := by rw [qX, h]; simp only []; rw [h2]; simp only []; rw [h3]; simp only []; rw [if_neg h4]
theorem xX {xs : List Int} {n : List NodeI × Nat} {r : List Mode × Nat} {l : List SlotI} (h : jD (xs.drop 3) = some n) (h2 : lF ((xs.drop 3).drop n.2) = some r) (h3 : jI (((xs.drop 3).drop n.2).drop r.2) = some l) (h4 : 1 + 7 * l.length = (((xs.drop 3).drop n.2).drop r.2).length) : qX xs = some ⟨aDd xs, n.1, r.1, l⟩ := by rw [qX, h]; simp only []; rw [h2]; simp only []; rw [h3]; simp only []; rw [if_pos h4]
theorem aG0 {xs : List Int} (h : xs.length < 3) : iI xs = (zeroM.d, 6) := by rw [iI, if_pos h]
theorem pC {xs : List Int} (h : ¬ xs.length < 3) (h2 : qX xs = none) : iI xs = (zeroM.d, 6) := by rw [iI, if_neg h, h2]
theorem aEf {xs : List Int} {d : MedlD} (h : ¬ xs.length < 3) (h2 : qX xs = some d) (h3 : lK d = false) : iI xs = (zeroM.d, 1) := by rw [iI, if_neg h, h2]; simp [h3]
theorem aEg {xs : List Int} {d : MedlD} (h : ¬ xs.length < 3) (h2 : qX xs = some d) (h3 : lK d = true) : iI xs = (d, 0) := by rw [iI, if_neg h, h2]; simp [h3]
theorem gR {xs : List Int} (h : nU xs = true) (k : Nat) : nU (xs.drop k) = true := by
 have h1 := qR h
 have h2 := qO h
 simp only [nU, Bool.and_eq_true, decide_eq_true_eq]
 refine ⟨by rw [List.length_drop]; omega, List.all_eq_true.2 fun x hx => eO.2 (h2 x (List.mem_of_mem_drop hx))⟩
theorem RdN.sz {xs : List Int} {ys : List NodeI} {sz : Int} {ok : Bool} (h : RdN (jD xs) ys sz ok) : ∃ k : Nat, sz = (k : Int) ∧ k ≤ xs.length := by
 cases ok with
 | false => exact ⟨0, (h.f).2.2, Nat.zero_le _⟩
 | true => obtain ⟨r, h1, h2, h3⟩ := h.t; exact ⟨r.2, h3, (aAM h1).2.2⟩
theorem RdM.sz {xs : List Int} {ms : List Mode} {sz : Int} {ok : Bool} (h : RdM (lF xs) ms sz ok) : ∃ k : Nat, sz = (k : Int) ∧ k ≤ xs.length := by
 cases ok with
 | false =>
   have h1 := h.f
   rw [h1] at h
   exact ⟨0, h.2.1, Nat.zero_le _⟩
 | true => obtain ⟨r, h1, h2, h3⟩ := h.t; exact ⟨r.2, h3, (aCd h1).2.1⟩
theorem uP {id : Int} {An Am As : Option Addr} {cn cm cs : Nat} {ns : List NodeI} {ms : List ModeI} {ss : List SlotI} (hn : eC ns = true) (hm : jX (ms.map (·.m)) = true) (hs : iB ss = true) : MedlI.small ⟨id, An, ns, cn, Am, ms, cm, As, ss, cs⟩ := by
 have h1 := tY hn
 have h2 := tU hm
 have h3 := tR hs
 rw [List.length_map] at h2
 exact ⟨by show ns.length ≤ _; omega, by show ms.length ≤ _; omega, fun x hx => by
   obtain ⟨k, hk⟩ := List.mem_iff_getElem?.1 (List.mem_map_of_mem (f := (·.m)) hx)
   have h4 := wJ (uU (aAf hm hk)).2.2
   rw [List.length_map] at h4
   omega, by show ss.length ≤ _; omega, fun x hx => by have := oH (nW hn x hx); omega⟩
theorem yY (A : Option Addr) (B c n : Nat) (xs : List Int) (w : World) (hs : Sl B w A (xs.flatMap eI)) (hl : xs.length ≤ 1048576) (hB : nU xs = true) (hcap : xs.length ≤ c) (e : xs.length = n) :
   Calls Tryz.prog 76 #[.slice A n c] w (fF fun v w' => ∃ A' c' ys sz ok, v = .tuple #[.slice A' (List.length ys) c', .int .i64 sz, .bool ok] ∧ RdN (jD xs) ys sz ok ∧ Own w' w.heap.size 59 4 A' ys.length c' (ys.flatMap NodeI.cells) ∧ Ext w w') := by
 subst e; exact aDa A B c xs w hs hl hB hcap
theorem aFU (A : Option Addr) (B c n : Nat) (xs : List Int) (w : World) (hs : Sl B w A (xs.flatMap eI)) (hl : xs.length ≤ 1048576) (hB : nU xs = true) (hcap : xs.length ≤ c) (e : xs.length = n) :
   Calls Tryz.prog 170 #[.slice A n c] w (fF fun v w' => ∃ A' c' ys sz ok, v = .tuple #[.slice A' (List.length ys) c', .int .i64 sz, .bool ok] ∧ RdN (jD xs) ys sz ok ∧ Own w' w.heap.size 59 4 A' ys.length c' (ys.flatMap NodeI.cells) ∧ Ext w w') := by
 subst e; exact aFO A B c xs w hs hl hB hcap
theorem yZ (A : Option Addr) (B c n : Nat) (xs : List Int) (w : World) (hs : Sl B w A (xs.flatMap eI)) (hl : xs.length ≤ 1048576) (hB : nU xs = true) (hcap : xs.length ≤ c) (e : xs.length = n) :
   Calls Tryz.prog 77 #[.slice A n c] w (fF fun v w' => ∃ A' c' ys sz ok, v = .tuple #[.slice A' (List.length ys) c', .int .i64 sz, .bool ok] ∧ RdM (lF xs) (ys.map (·.m)) sz ok ∧ Disj ys ∧ Own w' w.heap.size 92 3 A' ys.length c' (ys.flatMap ModeI.cells) ∧ NOwn w' w.heap.size 2 ys ∧ Ext w w') := by
 subst e; exact aDb A B c xs w hs hl hB
theorem aFV (A : Option Addr) (B c n : Nat) (xs : List Int) (w : World) (hs : Sl B w A (xs.flatMap eI)) (hl : xs.length ≤ 1048576) (hB : nU xs = true) (hcap : xs.length ≤ c) (e : xs.length = n) :
   Calls Tryz.prog 171 #[.slice A n c] w (fF fun v w' => ∃ A' c' ys sz ok, v = .tuple #[.slice A' (List.length ys) c', .int .i64 sz, .bool ok] ∧ RdM (lF xs) (ys.map (·.m)) sz ok ∧ Disj ys ∧ Own w' w.heap.size 92 3 A' ys.length c' (ys.flatMap ModeI.cells) ∧ NOwn w' w.heap.size 2 ys ∧ Ext w w') := by
 subst e; exact aFP A B c xs w hs hl hB hcap
theorem zA (A : Option Addr) (B c n : Nat) (xs : List Int) (w : World) (hs : Sl B w A (xs.flatMap eI)) (hl : xs.length ≤ 1048576) (hB : nU xs = true) (hcap : xs.length ≤ c) (e : xs.length = n) :
   Calls Tryz.prog 78 #[.slice A n c] w (fF fun v w' => ∃ A' c' ys sz ok, v = .tuple #[.slice A' (List.length ys) c', .int .i64 sz, .bool ok] ∧ RdS (jI xs) ys sz ok ∧ Own w' w.heap.size 89 8 A' ys.length c' (ys.flatMap SlotI.cells) ∧ Ext w w') := by
 subst e; exact aDc A B c xs w hs hl hB
theorem aFW (A : Option Addr) (B c n : Nat) (xs : List Int) (w : World) (hs : Sl B w A (xs.flatMap eI)) (hl : xs.length ≤ 1048576) (hB : nU xs = true) (hcap : xs.length ≤ c) (e : xs.length = n) :
   Calls Tryz.prog 172 #[.slice A n c] w (fF fun v w' => ∃ A' c' ys sz ok, v = .tuple #[.slice A' (List.length ys) c', .int .i64 sz, .bool ok] ∧ RdS (jI xs) ys sz ok ∧ Own w' w.heap.size 89 8 A' ys.length c' (ys.flatMap SlotI.cells) ∧ Ext w w') := by
 subst e; exact aFT A B c xs w hs hl hB hcap
theorem aBC (A : Option Addr) (B c : Nat) (xs : List Int) (w : World) (hs : Sl B w A (xs.flatMap eI)) (hl : xs.length ≤ 1024) (hB : nU xs = true) (hcap : xs.length ≤ c) :
   Calls Tryz.prog 87 #[.slice A xs.length c] w (fF fun v w' => ∃ m', v = .tuple #[.agg m'.cells.toArray, .int .i64 (iI xs).2] ∧ m'.d = (iI xs).1 ∧ MOwn w' w.heap.size 59 92 2 89 m' ∧ Ext w w') := by
 have Bhs := hs.1
 have X := Q7r w
 refine bJ (args := [.slice A xs.length c]) Tryz.func87 Tryz.ntmps87 rfl rfl (aF (aA rfl (dT dW ?_)))
 intro g2 w2 eg2 b2 x1 zg2
 have lg2 : w.heap.size ≤ g2 := Q7l X.size (Q7e eg2.symm)
 have pg2hs := Q7l hs.1 (Q7e eg2.symm)
 replace hs := hs.ext x1
 replace X := Q7x X x1; clear x1
 refine aA rfl (aE rfl (aB (aR (aF (aA rfl (aC rfl (aA rfl (bO Tryz.underlying30 rfl (aA rfl (cU rfl rfl (fun h3 => ?_) (fun h3 => ?_)))))))))))
 refine aB (aQ rfl (aF (aA rfl (dA nJ dW rfl rfl (aA rfl (bK b2 dW rfl rfl rfl rfl rfl rfl ?_))))))
 intro w4 b5 hg3 z5
 replace hs := hs.grown hg3 (by intro g hg; injection hg; omega)
 replace X := X.grown hg3 X.size (by intro g hg; injection hg; omega)
 clear hg3 b2
 refine aA rfl (aE rfl (aB (aW (bN (eJ rfl rfl b5 dW rfl rfl ?_)))))
 · skip
   have e : iI xs = (zeroM.d, 6) := aG0 (by omega)
   rw [e]; exact ⟨zeroM, rfl, rfl, fR _ _ _ _ _ _, X⟩
 have e3 : (xs.drop 3).length = xs.length - 3 := List.length_drop ..
 refine aB (aM rfl (aV (aS (aF (aA rfl (aC rfl (aA rfl (kI cQ hs bI rfl rfl (show (3 : Int) = ((3 : Nat) : Int) from rfl) rfl (by omega) hcap ?_))))))))
 intro A3 p3
 refine aA rfl (aE rfl (aB (aF (aA rfl (aC rfl (aA rfl (aT aJ0 rfl (aP (aFU A3 B (c - 3) (xs.length - 3) (xs.drop 3) _ p3 (by omega) (gR hB 3) (by omega) e3) ?_))))))))
 rintro _ w7 ⟨AN, cN, yN, szN, okN, rfl, eN, oN2, x6⟩
 replace oN2 := Own.low oN2 X.size
 replace hs := hs.ext x6
 replace b2 := b2.ext x6
 replace p3 := p3.ext x6
 replace X := Q7x X x6; clear x6
 refine aA rfl (aC rfl (aA rfl (cX rfl rfl (aA rfl (cX rfl rfl (aA rfl (cX rfl rfl (aA rfl (aE rfl (aA rfl (aE rfl (aA rfl (aE rfl (aB (aR (aF (aA rfl (aC rfl ?_))))))))))))))))))
 cases hkN : okN
 subst hkN
 have hrN := (eN.f).1
 refine aA rfl (bP rfl (aB (aQ rfl (aF (aA rfl (dA nJ dW rfl rfl (aA rfl (bK b2 dW rfl rfl rfl rfl rfl rfl ?_))))))))
 intro w9 b5 hg8 z10
 replace hs := hs.grown hg8 (by intro g hg; injection hg; omega)
 replace p3 := p3.grown hg8 (by intro g hg; injection hg; omega)
 replace oN2 := oN2.grownBlk hg8 (Own.neT oN2 b2 (by decide))
 replace X := X.grown hg8 X.size (by intro g hg; injection hg; omega)
 clear hg8 b2
 refine aA rfl (aE rfl (aB (aW (bN (eJ rfl rfl b5 dW rfl rfl ?_)))))
 · skip
   have e : iI xs = (zeroM.d, 6) := pC (by omega) (aEb hrN)
   rw [e]; exact ⟨zeroM, rfl, rfl, fR _ _ _ _ _ _, X⟩
 subst hkN
 obtain ⟨rN, hrN, eyN, ezN⟩ := eN.t
 subst eyN
 subst ezN
 have hiN := aAM hrN
 have e4 : ((xs.drop 3).drop rN.2).length = ((xs.length - 3) - rN.2) := by rw [List.length_drop, e3]
 refine aA rfl (bP rfl (aB (aM rfl (aV (aS (aF (aA rfl (aC rfl (aA rfl (aC rfl (aA rfl (kI cQ p3 bI rfl rfl rfl e3.symm (by have := hiN.2.2; omega) (by omega) ?_))))))))))))
 intro A4 p4
 refine aA rfl (aE rfl (aB (aF (aA rfl (aC rfl (aA rfl (aT aJ1 rfl (aP (aFV A4 B ((c - 3) - rN.2) ((xs.length - 3) - rN.2) ((xs.drop 3).drop rN.2) _ p4 (by omega) (gR (gR hB 3) _) (by omega) e4) ?_))))))))
 rintro _ w12 ⟨AM, cM, yM, szM, okM, rfl, eM, djM, oM2, oM2n, x11⟩
 replace oM2 := Own.low oM2 X.size
 replace oM2n := NOwn.low oM2n X.size
 replace hs := hs.ext x11
 replace b2 := b2.ext x11
 replace p3 := p3.ext x11
 replace oN2 := oN2.ext x11
 replace p4 := p4.ext x11
 replace X := Q7x X x11
 refine aA rfl (aC rfl (aA rfl (cX rfl rfl (aA rfl (cX rfl rfl (aA rfl (cX rfl rfl (aA rfl (aE rfl (aA rfl (aE rfl (aA rfl (aE rfl (aB (aR (aF (aA rfl (aC rfl ?_))))))))))))))))))
 cases hkM : okM
 subst hkM
 have hrM := eM.f
 refine aA rfl (bP rfl (aB (aQ rfl (aF (aA rfl (dA nJ dW rfl rfl (aA rfl (bK b2 dW rfl rfl rfl rfl rfl rfl ?_))))))))
 intro w14 b5 hg13 z15
 replace hs := hs.grown hg13 (by intro g hg; injection hg; omega)
 replace p3 := p3.grown hg13 (by intro g hg; injection hg; omega)
 replace oN2 := oN2.grownBlk hg13 (Own.neT oN2 b2 (by decide))
 replace p4 := p4.grown hg13 (by intro g hg; injection hg; omega)
 replace oM2 := oM2.grownBlk hg13 (Own.neT oM2 b2 (by decide))
 replace oM2n := oM2n.grownB b2 hg13 (by decide)
 replace X := X.grown hg13 X.size (by intro g hg; injection hg; omega)
 clear hg13 b2
 refine aA rfl (aE rfl (aB (aW (bN (eJ rfl rfl b5 dW rfl rfl ?_)))))
 · skip
   have e : iI xs = (zeroM.d, 6) := pC (by omega) (aEc hrN hrM)
   rw [e]; exact ⟨zeroM, rfl, rfl, fR _ _ _ _ _ _, X⟩
 subst hkM
 obtain ⟨rM, hrM, eyM, ezM⟩ := eM.t
 subst ezM
 have hiM := aCd hrM
 have e5 : (((xs.drop 3).drop rN.2).drop rM.2).length = (((xs.length - 3) - rN.2) - rM.2) := by rw [List.length_drop, e4]
 refine aA rfl (bP rfl (aB (aM rfl (aV (aS (aF (aA rfl (aC rfl (aA rfl (aC rfl (aA rfl (kI cQ p4 bI rfl rfl rfl e4.symm (by have := hiM.2.1; omega) (by omega) ?_))))))))))))
 intro A5 p5
 refine aA rfl (aE rfl (aB (aF (aA rfl (aC rfl (aA rfl (aT aJ2 rfl (aP (aFW A5 B (((c - 3) - rN.2) - rM.2) (((xs.length - 3) - rN.2) - rM.2) (((xs.drop 3).drop rN.2).drop rM.2) _ p5 (by omega) (gR (gR (gR hB 3) _) _) (by omega) e5) ?_))))))))
 rintro _ w17 ⟨AS, cS, yS, szS, okS, rfl, eS, oS2, x16⟩
 replace oS2 := Own.low oS2 X.size
 replace hs := hs.ext x16
 replace b2 := b2.ext x16
 replace p3 := p3.ext x16
 replace oN2 := oN2.ext x16
 replace p4 := p4.ext x16
 replace oM2 := oM2.ext x16
 replace oM2n := oM2n.ext x16
 replace p5 := p5.ext x16
 replace X := Q7x X x16
 refine aA rfl (aC rfl (aA rfl (cX rfl rfl (aA rfl (cX rfl rfl (aA rfl (cX rfl rfl (aA rfl (aE rfl (aA rfl (aE rfl (aA rfl (aE rfl (aB (aR (aF (aA rfl (aC rfl ?_))))))))))))))))))
 cases hkS : okS
 subst hkS
 have hrS := eS.f
 refine aA rfl (bP rfl (aA rfl (aC rfl (aH rfl rfl rfl rfl (aH rfl rfl rfl rfl (aH rfl rfl rfl rfl (aH rfl rfl rfl rfl (aA rfl (aK rfl rfl (aB (aQ rfl (aF (aA rfl (dA nJ dW rfl rfl (aA rfl (bK b2 dW rfl rfl rfl rfl rfl rfl ?_))))))))))))))))
 intro w19 b5 hg18 z20
 replace hs := hs.grown hg18 (by intro g hg; injection hg; omega)
 replace p3 := p3.grown hg18 (by intro g hg; injection hg; omega)
 replace oN2 := oN2.grownBlk hg18 (Own.neT oN2 b2 (by decide))
 replace p4 := p4.grown hg18 (by intro g hg; injection hg; omega)
 replace oM2 := oM2.grownBlk hg18 (Own.neT oM2 b2 (by decide))
 replace oM2n := oM2n.grownB b2 hg18 (by decide)
 replace p5 := p5.grown hg18 (by intro g hg; injection hg; omega)
 replace oS2 := oS2.grownBlk hg18 (Own.neT oS2 b2 (by decide))
 replace X := X.grown hg18 X.size (by intro g hg; injection hg; omega)
 clear hg18 b2
 refine aA rfl (aE rfl (aB (aW (bN (eJ rfl rfl b5 dW rfl rfl ?_)))))
 · skip
   have e : iI xs = (zeroM.d, 6) := pC (by omega) (aEd hrN hrM hrS)
   rw [e]; exact ⟨zeroM, rfl, rfl, fR _ _ _ _ _ _, X⟩
 subst hkS
 obtain ⟨hrS, ezS⟩ := eS.t
 subst ezS
 have hiS := aAe hrS
 refine aA rfl (bP rfl (aA rfl (aC rfl (aI rfl rfl rfl (aC rfl (aI rfl rfl rfl (aC rfl (aI rfl rfl rfl (bO Tryz.underlying30 rfl (aI rfl rfl rfl (gH rfl rfl (fun hLen => ?_) (fun hLen => ?_))))))))))))
 refine aA rfl (aK rfl rfl (aB (aQ rfl (aF (aA rfl (dA nJ dW rfl rfl (aA rfl (bK b2 dW rfl rfl rfl rfl rfl rfl ?_))))))))
 intro w22 b5 hg21 z23
 replace hs := hs.grown hg21 (by intro g hg; injection hg; omega)
 replace p3 := p3.grown hg21 (by intro g hg; injection hg; omega)
 replace oN2 := oN2.grownBlk hg21 (Own.neT oN2 b2 (by decide))
 replace p4 := p4.grown hg21 (by intro g hg; injection hg; omega)
 replace oM2 := oM2.grownBlk hg21 (Own.neT oM2 b2 (by decide))
 replace oM2n := oM2n.grownB b2 hg21 (by decide)
 replace p5 := p5.grown hg21 (by intro g hg; injection hg; omega)
 replace oS2 := oS2.grownBlk hg21 (Own.neT oS2 b2 (by decide))
 replace X := X.grown hg21 X.size (by intro g hg; injection hg; omega)
 clear hg21 b2
 refine aA rfl (aE rfl (aB (aW (bN (eJ rfl rfl b5 dW rfl rfl ?_)))))
 · skip
   have e : iI xs = (zeroM.d, 6) := pC (by omega) (aEe hrN hrM hrS (by rw [e5]; omega))
   rw [e]; exact ⟨zeroM, rfl, rfl, fR _ _ _ _ _ _, X⟩
 refine aA rfl (aK rfl rfl (aB (aM rfl (aV (aS ?_)))))
 have Rhs := hs.1
 have Rp3 := p3.1
 have Rp4 := p4.1
 have Rp5 := p5.1
 refine eK [false, false, false, false, false, false, false, false, false, false, false, false, false, false, false, false, false, true] mixed (by kernel_rfl) ?_
 obtain ⟨x0, hx0, _⟩ := eL (xs := xs) (k := 0) (by omega)
 have hxb0 := iE hB hx0
 obtain ⟨x1, hx1, _⟩ := eL (xs := xs) (k := 1) (by omega)
 have hxb1 := iE hB hx1
 obtain ⟨x2, hx2, _⟩ := eL (xs := xs) (k := 2) (by omega)
 have hxb2 := iE hB hx2
 have eid : aDd xs = x0 * 65536 + x1 * 256 + x2 := by unfold aDd; rw [iH hx0, iH hx1, iH hx2]
 refine cO rfl (fun wq sq => aC rfl ⟨rfl, Q7r _⟩) (cO rfl (fun wq sq => aU (hs.ext sq) bI rfl cQ rfl rfl rfl hx0 rfl ⟨rfl, Q7r _⟩) (cO rfl (fun wq sq => bS (hs.ext sq) bI hx0 dB rfl rfl rfl ⟨rfl, Q7r _⟩) (cO rfl (fun wq sq => fO rfl rfl (dM (by omega)) ⟨rfl, Q7r _⟩) (cO rfl (fun wq sq => aC rfl ⟨rfl, Q7r _⟩) (cO rfl (fun wq sq => aU (hs.ext sq) bI rfl cQ rfl rfl rfl hx1 rfl ⟨rfl, Q7r _⟩) (cO rfl (fun wq sq => bS (hs.ext sq) bI hx1 dB rfl rfl rfl ⟨rfl, Q7r _⟩) (cO rfl (fun wq sq => fO rfl rfl (dM (by omega)) ⟨rfl, Q7r _⟩) (cO rfl (fun wq sq => aY rfl rfl (dM (by omega)) ⟨rfl, Q7r _⟩) (cO rfl (fun wq sq => aC rfl ⟨rfl, Q7r _⟩) ?_)))))))))
 refine cO rfl (fun wq sq => aU (hs.ext sq) bI rfl cQ rfl rfl rfl hx2 rfl ⟨rfl, Q7r _⟩) (cO rfl (fun wq sq => bS (hs.ext sq) bI hx2 dB rfl rfl rfl ⟨rfl, Q7r _⟩) (cO rfl (fun wq sq => aY rfl rfl (dM (by omega)) ⟨rfl, Q7r _⟩) (cO rfl (fun wq sq => aC rfl ⟨rfl, Q7r _⟩) (cO rfl (fun wq sq => aC rfl ⟨rfl, Q7r _⟩) (cO rfl (fun wq sq => aC rfl ⟨rfl, Q7r _⟩) (cO rfl (fun wq sq => dA nJ dW rfl rfl ⟨rfl, Q7r _⟩) (zL (fun g3 : Nat => Value.pointer (some ⟨g3, 0, none⟩)) (fun g3 wz => Blk wz g3 28 zeroM.cells ∧ w.heap.size ≤ g3 ∧ w17.heap.size ≤ g3 ∧ g2 < g3) 0 rfl ⟨zX, fun _ _ _ h k => ⟨h.1.ext k, h.2⟩, fun wq sq => dT dW (fun g w' hg hb hx hz => ⟨g, rfl, ⟨hb, Q7l (Q7l X.size (sq).size) (Q7e hg.symm), Q7l (sq).size (Q7e hg.symm), Nat.lt_of_lt_of_eq (b2.ext sq).lt hg.symm⟩, hx⟩)⟩ ?_)))))))
 intro g3
 refine dX (fun w24 sq => ?_)
 have xq := sq.1
 have b3 := sq.2.1
 have lg3 := sq.2.2.1
 have rg3 := sq.2.2.2.1
 have ng3g2 := sq.2.2.2.2
 replace hs := hs.ext xq
 replace b2 := b2.ext xq
 replace p3 := p3.ext xq
 replace oN2 := oN2.ext xq
 replace p4 := p4.ext xq
 replace oM2 := oM2.ext xq
 replace oM2n := oM2n.ext xq
 replace p5 := p5.ext xq
 replace oS2 := oS2.ext xq
 replace X := Q7x X xq; clear xq sq
 refine aA rfl (bK b3 dW rfl rfl rfl rfl rfl rfl ?_)
 intro w26 b4 hg25 z27
 replace hs := hs.grown hg25 (by intro g hg; injection hg; omega)
 replace b2 := b2.grown hg25 (by intro h; injection h; omega)
 replace p3 := p3.grown hg25 (by intro g hg; injection hg; omega)
 replace oN2 := oN2.grownBlk hg25 (Own.neT oN2 b3 (by decide))
 replace p4 := p4.grown hg25 (by intro g hg; injection hg; omega)
 replace oM2 := oM2.grownBlk hg25 (Own.neT oM2 b3 (by decide))
 replace oM2n := oM2n.grownB b3 hg25 (by decide)
 replace p5 := p5.grown hg25 (by intro g hg; injection hg; omega)
 replace oS2 := oS2.grownBlk hg25 (Own.neT oS2 b3 (by decide))
 replace X := X.grown hg25 X.size (by intro g hg; injection hg; omega)
 clear hg25 b3
 refine aB (aR (aF ?_))
 have hsm : MedlI.small ⟨x0 * 65536 + x1 * 256 + x2, AN, rN.1, cN, AM, yM, cM, AS, yS, cS⟩ := uP hiN.1 (by rw [eyM]; exact hiM.2.2.2) hiS.2.2
 have hMo : MOwn _ w.heap.size 59 92 2 89 ⟨x0 * 65536 + x1 * 256 + x2, AN, rN.1, cN, AM, yM, cM, AS, yS, cS⟩ := ⟨oN2, oM2, oM2n, djM, oS2⟩
 refine aA rfl (dE b4 dW rfl rfl (aA rfl (cV aLn rfl (aFw ⟨x0 * 65536 + x1 * 256 + x2, AN, rN.1, cN, AM, yM, cM, AS, yS, cS⟩ _ _ hMo.med hsm) (fun w29 hI x28 => ?_) (fun w29 hI x28 => ?_))))
 replace hs := hs.ext x28
 replace b2 := b2.ext x28
 replace p3 := p3.ext x28
 replace oN2 := oN2.ext x28
 replace p4 := p4.ext x28
 replace oM2 := oM2.ext x28
 replace oM2n := oM2n.ext x28
 replace p5 := p5.ext x28
 replace oS2 := oS2.ext x28
 replace b4 := b4.ext x28
 replace X := Q7x X x28
 refine aA rfl (bP rfl (aB (aM rfl (aV (aS (aF (aA rfl (dE b4 dW rfl rfl (aA rfl (bK b2 dW rfl rfl rfl rfl rfl rfl ?_))))))))))
 intro w31 b5 hg30 z32
 replace hs := hs.grown hg30 (by intro g hg; injection hg; omega)
 replace p3 := p3.grown hg30 (by intro g hg; injection hg; omega)
 replace oN2 := oN2.grownBlk hg30 (Own.neT oN2 b2 (by decide))
 replace p4 := p4.grown hg30 (by intro g hg; injection hg; omega)
 replace oM2 := oM2.grownBlk hg30 (Own.neT oM2 b2 (by decide))
 replace oM2n := oM2n.grownB b2 hg30 (by decide)
 replace p5 := p5.grown hg30 (by intro g hg; injection hg; omega)
 replace oS2 := oS2.grownBlk hg30 (Own.neT oS2 b2 (by decide))
 replace b4 := b4.grown hg30 (by intro h; injection h; omega)
 replace X := X.grown hg30 X.size (by intro g hg; injection hg; omega)
 clear hg30 b2
 refine aA rfl (aE rfl (aB (aW (eJ rfl rfl b5 dW rfl rfl ?_))))
 · skip
   have hO : qX xs = some ((⟨x0 * 65536 + x1 * 256 + x2, AN, rN.1, cN, AM, yM, cM, AS, yS, cS⟩ : MedlI)).d := by
     rw [xX hrN hrM hrS (by rw [e5]; omega), eid, ← eyM]; rfl
   have e : iI xs = (((⟨x0 * 65536 + x1 * 256 + x2, AN, rN.1, cN, AM, yM, cM, AS, yS, cS⟩ : MedlI)).d, 0) := aEg (by omega) hO hI
   rw [e]; exact ⟨⟨x0 * 65536 + x1 * 256 + x2, AN, rN.1, cN, AM, yM, cM, AS, yS, cS⟩, rfl, rfl, ⟨oN2, oM2, oM2n, djM, oS2⟩, X⟩
 replace hs := hs.ext x28
 replace b2 := b2.ext x28
 replace p3 := p3.ext x28
 replace oN2 := oN2.ext x28
 replace p4 := p4.ext x28
 replace oM2 := oM2.ext x28
 replace oM2n := oM2n.ext x28
 replace p5 := p5.ext x28
 replace oS2 := oS2.ext x28
 replace b4 := b4.ext x28
 replace X := Q7x X x28
 refine aA rfl (bP rfl (aB (aQ rfl (aF (aA rfl (dA nJ dW rfl rfl (aA rfl (bK b2 dW rfl rfl rfl rfl rfl rfl ?_))))))))
 intro w34 b5 hg33 z35
 replace hs := hs.grown hg33 (by intro g hg; injection hg; omega)
 replace p3 := p3.grown hg33 (by intro g hg; injection hg; omega)
 replace oN2 := oN2.grownBlk hg33 (Own.neT oN2 b2 (by decide))
 replace p4 := p4.grown hg33 (by intro g hg; injection hg; omega)
 replace oM2 := oM2.grownBlk hg33 (Own.neT oM2 b2 (by decide))
 replace oM2n := oM2n.grownB b2 hg33 (by decide)
 replace p5 := p5.grown hg33 (by intro g hg; injection hg; omega)
 replace oS2 := oS2.grownBlk hg33 (Own.neT oS2 b2 (by decide))
 replace b4 := b4.grown hg33 (by intro h; injection h; omega)
 replace X := X.grown hg33 X.size (by intro g hg; injection hg; omega)
 clear hg33 b2
 refine aA rfl (aE rfl (aB (aW (bN (eJ rfl rfl b5 dW rfl rfl ?_)))))
 · skip
   have hO : qX xs = some ((⟨x0 * 65536 + x1 * 256 + x2, AN, rN.1, cN, AM, yM, cM, AS, yS, cS⟩ : MedlI)).d := by
     rw [xX hrN hrM hrS (by rw [e5]; omega), eid, ← eyM]; rfl
   have e : iI xs = (zeroM.d, 1) := aEf (by omega) hO hI
   rw [e]; exact ⟨zeroM, rfl, rfl, fR _ _ _ _ _ _, X⟩
theorem aIl (A : Option Addr) (B c : Nat) (xs : List Int) (w : World) (hs : Sl B w A (xs.flatMap eI)) (hl : xs.length ≤ 1048576) (hcap : xs.length ≤ c) :
   Calls Tryz.prog 32 #[.slice A xs.length c] w (fF fun v w' => ∃ m', v = .tuple #[.agg m'.cells.toArray, .int .i64 (jW xs).2] ∧ m'.d = (jW xs).1 ∧ MOwn w' w.heap.size 59 92 2 89 m' ∧ Ext w w') := by
 have Bhs := hs.1
 have X := Q7r w
 refine bJ (args := [.slice A xs.length c]) Tryz.func32 Tryz.ntmps32 rfl rfl (aF (aA rfl (dT dW ?_)))
 intro g2 w2 eg2 b2 x1 zg2
 have lg2 : w.heap.size ≤ g2 := Q7l X.size (Q7e eg2.symm)
 have pg2hs := Q7l hs.1 (Q7e eg2.symm)
 replace hs := hs.ext x1
 replace X := Q7x X x1; clear x1
 refine aA rfl (aE rfl (aB (aR (aF (aA rfl (aC rfl (aA rfl (cV aFf rfl (rY _ _ _ _ _ hs hl) (fun w4 hIB x3 => ?_) (fun w4 hIB x3 => ?_)))))))))
 replace hs := hs.ext x3
 replace b2 := b2.ext x3
 replace X := Q7x X x3; clear x3
 have hbl := qR hIB
 refine aA rfl (bP rfl (aB (aM rfl (aV (aS (aF (aA rfl (aC rfl (aA rfl (aT aJc rfl (aP (aBC _ _ c xs _ hs hbl hIB hcap) ?_)))))))))))
 rintro _ w6 ⟨mR, rfl, eR, oR, x5⟩
 replace oR := MOwn.low oR X.size
 replace hs := hs.ext x5
 replace b2 := b2.ext x5
 replace X := Q7x X x5; clear x5
 refine aA rfl (cX rfl rfl (aA rfl (cX rfl rfl (aA rfl (bK b2 dW rfl rfl rfl rfl rfl rfl ?_)))))
 intro w10 b5 hg9 z11
 replace hs := hs.grown hg9 (by intro g hg; injection hg; omega)
 replace oR := oR.grownB b2 hg9 ⟨by decide, by decide, by decide, by decide⟩
 replace X := X.grown hg9 X.size (by intro g hg; injection hg; omega)
 clear hg9 b2
 refine aA rfl (aE rfl (aB (aW (eJ rfl rfl b5 dW rfl rfl ?_))))
 · skip
   have e : jW xs = iI xs := by rw [jW, if_pos hIB]
   rw [e]; exact ⟨mR, rfl, eR, oR, X⟩
 replace hs := hs.ext x3
 replace b2 := b2.ext x3
 replace X := Q7x X x3; clear x3
 refine aA rfl (bP rfl (aB (aQ rfl (aF (aA rfl (dA nJ dW rfl rfl (aA rfl (bK b2 dW rfl rfl rfl rfl rfl rfl ?_))))))))
 intro w13 b5 hg12 z14
 replace hs := hs.grown hg12 (by intro g hg; injection hg; omega)
 replace X := X.grown hg12 X.size (by intro g hg; injection hg; omega)
 clear hg12 b2
 refine aA rfl (aE rfl (aB (aW (bN (eJ rfl rfl b5 dW rfl rfl ?_)))))
 · skip
   have e : jW xs = (zeroM.d, 2) := by rw [jW, if_neg (by rw [hIB]; decide)]
   rw [e]; exact ⟨zeroM, rfl, rfl, fR _ _ _ _ _ _, X⟩
theorem aE7 (A : Option Addr) (B c : Nat) (xs : List Int) (w : World) (hs : Sl B w A (xs.flatMap eI)) (hl : xs.length ≤ 1048576) (hcap : xs.length ≤ c) :
   Calls Tryz.prog 18 #[.slice A xs.length c] w (fF fun v w' => ∃ m', v = .tuple #[.agg m'.cells.toArray, .int .i64 (jW xs).2] ∧ m'.d = (jW xs).1 ∧ MOwn w' w.heap.size 59 92 2 89 m' ∧ Ext w w') := by
 have Bhs := hs.1
 have X := Q7r w
 refine bJ (args := [.slice A xs.length c]) Tryz.func18 Tryz.ntmps18 rfl rfl (aF (aA rfl (dT dW ?_)))
 intro g2 w2 eg2 b2 x1 zg2
 have lg2 : w.heap.size ≤ g2 := Q7l X.size (Q7e eg2.symm)
 have pg2hs := Q7l hs.1 (Q7e eg2.symm)
 replace hs := hs.ext x1
 replace X := Q7x X x1; clear x1
 refine aA rfl (aE rfl (aB (aR (aF (aA rfl (aC rfl (aA rfl (cV aHj rfl (vV _ _ _ _ _ hs hl) (fun w4 hIB x3 => ?_) (fun w4 hIB x3 => ?_)))))))))
 replace hs := hs.ext x3
 replace b2 := b2.ext x3
 replace X := Q7x X x3; clear x3
 have hB : nU xs = true := hIB
 have hbl := qR hIB
 refine aA rfl (bP rfl (aB (aM rfl (aV (aS (aR (aF (aA rfl (aC rfl (aA rfl (bO Tryz.underlying30 rfl (aA rfl (cU rfl rfl (fun h3 => ?_) (fun h3 => ?_))))))))))))))
 refine aB (aQ rfl (aF (aA rfl (dA nJ dW rfl rfl (aA rfl (bK b2 dW rfl rfl rfl rfl rfl rfl ?_))))))
 intro w6 b5 hg5 z7
 replace hs := hs.grown hg5 (by intro g hg; injection hg; omega)
 replace X := X.grown hg5 X.size (by intro g hg; injection hg; omega)
 clear hg5 b2
 refine aA rfl (aE rfl (aB (aW (bN (eJ rfl rfl b5 dW rfl rfl ?_)))))
 · skip
   have e : jW xs = iI xs := by rw [jW, if_pos hB]
   rw [e]
   have e : iI xs = (zeroM.d, 6) := aG0 (by omega)
   rw [e]; exact ⟨zeroM, rfl, rfl, fR _ _ _ _ _ _, X⟩
 have e3 : (xs.drop 3).length = xs.length - 3 := List.length_drop ..
 obtain ⟨x0, hx0, _⟩ := eL (xs := xs) (k := 0) (by omega)
 have hxb0 := iE hB hx0
 obtain ⟨x1, hx1, _⟩ := eL (xs := xs) (k := 1) (by omega)
 have hxb1 := iE hB hx1
 obtain ⟨x2, hx2, _⟩ := eL (xs := xs) (k := 2) (by omega)
 have hxb2 := iE hB hx2
 have eid : aDd xs = x0 * 65536 + x1 * 256 + x2 := by unfold aDd; rw [iH hx0, iH hx1, iH hx2]
 refine aB (aM rfl (aV (aS (tT (fun wz => Sl B wz A (xs.flatMap eI)) mixed ?_))))
 obtain ⟨w9, ew9⟩ : ∃ wy, wy = World.drew w4 := ⟨_, rfl⟩
 rw [← ew9]
 have xd : Ext w4 w9 := ew9 ▸ Ext.drew w4
 replace hs := hs.ext xd
 replace b2 := b2.ext xd
 replace X := Q7x X xd; clear xd ew9
 refine dH 0 rfl (by kernel_rfl) rfl (by kernel_rfl) (listed' := #[true, false, false, false, false, false, false, false]) rfl (fun wq sq => aC rfl ⟨rfl, rfl⟩) (dH 3 rfl (by kernel_rfl) rfl (by kernel_rfl) (listed' := #[true, false, false, true, false, false, false, false]) rfl (fun wq sq => aC rfl ⟨rfl, rfl⟩) (dH 4 rfl (by kernel_rfl) rfl (by kernel_rfl) (listed' := #[true, false, false, true, true, false, false, false]) rfl (fun wq sq => wI (l := 3) cQ rfl rfl (by omega) (by omega) ⟨rfl, rfl⟩) (aG7 1 5 rfl rfl rfl rfl (by kernel_rfl) (listed' := #[true, true, false, true, true, false, false, false]) (listed'' := #[true, false, false, true, true, true, false, false]) rfl rfl hs ?_ ?_)))
 refine (aT aFe rfl (aP (aCg _ _ c xs.length xs x0 x1 x2 _ hs rfl hx0 hx1 hx2 hxb0 hxb1 hxb2) ?_))
 rintro _ w11 ⟨rfl, x10⟩
 replace hs := hs.ext x10
 replace b2 := b2.ext x10
 replace X := Q7x X x10
 refine dH 2 rfl (by kernel_rfl) rfl (by kernel_rfl) (listed' := #[true, true, true, true, true, false, false, false]) rfl (fun wq sq => dA nJ dW rfl rfl ⟨rfl, rfl⟩) (hU 5 rfl rfl (by kernel_rfl) (listed' := #[true, true, true, true, true, true, false, false]) rfl hs (dT dW ?_))
 intro g3 w13 eg3 b3 x12 zg3
 have lg3 : w.heap.size ≤ g3 := Q7l X.size (Q7e eg3.symm)
 have pg3hs := Q7l hs.1 (Q7e eg3.symm)
 have ng3b2 := Nat.lt_of_lt_of_eq b2.lt eg3.symm
 replace hs := hs.ext x12
 replace b2 := b2.ext x12
 replace X := Q7x X x12
 refine hU 6 rfl rfl (by kernel_rfl) (listed' := #[true, true, true, true, true, true, true, false]) rfl hs (bK b3 dW rfl rfl rfl rfl rfl rfl ?_)
 intro w15 b4 hg14 z16
 replace hs := hs.grown hg14 (by intro g hg; injection hg; omega)
 replace b2 := b2.grown hg14 (by intro h; injection h; omega)
 replace X := X.grown hg14 X.size (by intro g hg; injection hg; omega)
 clear hg14 b3
 refine dH 7 rfl (by kernel_rfl) rfl (by kernel_rfl) (listed' := #[true, true, true, true, true, true, true, true]) rfl (fun wq sq => aE rfl ⟨rfl, rfl⟩) (jE rfl hs (fun aj fj => ⟨_, fj, aF ?_⟩))
 have p3 := hs.dropX 3 hcap
 refine aA rfl (aC rfl (aA rfl (aT aI7 rfl (aP (yY _ B (c - 3) (xs.length - 3) (xs.drop 3) _ p3 (by omega) (gR hB 3) (by omega) e3) ?_))))
 rintro _ w18 ⟨AN, cN, yN, szN, okN, rfl, eN, oN2, x17⟩
 replace oN2 := Own.low oN2 X.size
 replace hs := hs.ext x17
 replace b2 := b2.ext x17
 replace b4 := b4.ext x17
 replace p3 := p3.ext x17
 replace X := Q7x X x17
 obtain ⟨kN, ezN, hkNl⟩ := eN.sz
 subst ezN
 have e4 : ((xs.drop 3).drop kN).length = ((xs.length - 3) - kN) := by rw [List.length_drop, e3]
 refine aA rfl (aC rfl (aA rfl (cX rfl rfl (aA rfl (cX rfl rfl (aA rfl (cX rfl rfl (aA rfl (aE rfl (aA rfl (aE rfl (aA rfl (aE rfl (aB (aF (aA rfl (aC rfl (aA rfl (aC rfl (aA rfl (kI cQ p3 bI rfl rfl rfl e3.symm (by omega) (by omega) ?_)))))))))))))))))))))
 intro A4 p4
 refine aA rfl (aE rfl (aB (aF (aA rfl (aC rfl (aA rfl (aT aI8 rfl (aP (yZ A4 B ((c - 3) - kN) ((xs.length - 3) - kN) ((xs.drop 3).drop kN) _ p4 (by omega) (gR (gR hB 3) _) (by omega) e4) ?_))))))))
 rintro _ w20 ⟨AM, cM, yM, szM, okM, rfl, eM, djM, oM2, oM2n, x19⟩
 replace oM2 := Own.low oM2 X.size
 replace oM2n := NOwn.low oM2n X.size
 replace hs := hs.ext x19
 replace b2 := b2.ext x19
 replace b4 := b4.ext x19
 replace p3 := p3.ext x19
 replace oN2 := oN2.ext x19
 replace p4 := p4.ext x19
 replace X := Q7x X x19
 obtain ⟨kM, ezM, hkMl⟩ := eM.sz
 subst ezM
 have e5 : (((xs.drop 3).drop kN).drop kM).length = (((xs.length - 3) - kN) - kM) := by rw [List.length_drop, e4]
 refine aA rfl (aC rfl (aA rfl (cX rfl rfl (aA rfl (cX rfl rfl (aA rfl (cX rfl rfl (aA rfl (aE rfl (aA rfl (aE rfl (aA rfl (aE rfl (aB (aF (aA rfl (aC rfl (aA rfl (aC rfl (aA rfl (kI cQ p4 bI rfl rfl rfl e4.symm (by omega) (by omega) ?_)))))))))))))))))))))
 intro A5 p5
 refine aA rfl (aE rfl (aB (aF (aA rfl (aC rfl (aA rfl (aT aI9 rfl (aP (zA A5 B (((c - 3) - kN) - kM) (((xs.length - 3) - kN) - kM) (((xs.drop 3).drop kN).drop kM) _ p5 (by omega) (gR (gR (gR hB 3) _) _) (by omega) e5) ?_))))))))
 rintro _ w22 ⟨AS, cS, yS, szS, okS, rfl, eS, oS2, x21⟩
 replace oS2 := Own.low oS2 X.size
 replace hs := hs.ext x21
 replace b2 := b2.ext x21
 replace b4 := b4.ext x21
 replace p3 := p3.ext x21
 replace oN2 := oN2.ext x21
 replace p4 := p4.ext x21
 replace oM2 := oM2.ext x21
 replace oM2n := oM2n.ext x21
 replace p5 := p5.ext x21
 replace X := Q7x X x21
 refine aA rfl (aC rfl (aA rfl (cX rfl rfl (aA rfl (cX rfl rfl (aA rfl (cX rfl rfl (aA rfl (aE rfl (aA rfl (aE rfl (aA rfl (aE rfl (aB (aR (aF (aA rfl (aC rfl ?_))))))))))))))))))
 cases hkN : okN
 subst hkN
 have hrN := (eN.f).1
 refine aA rfl (bP rfl (aA rfl (aC rfl (aH rfl rfl rfl rfl (aH rfl rfl rfl rfl (aA rfl (aK rfl rfl (aA rfl (aC rfl (aH rfl rfl rfl rfl (aH rfl rfl rfl rfl (aA rfl (aK rfl rfl (aA rfl (aC rfl (aH rfl rfl rfl rfl (aH rfl rfl rfl rfl (aH rfl rfl rfl rfl (aH rfl rfl rfl rfl (aA rfl (aK rfl rfl (aB (aQ rfl (aF (aA rfl (dA nJ dW rfl rfl (aA rfl (bK b2 dW rfl rfl rfl rfl rfl rfl ?_))))))))))))))))))))))))))))
 intro w24 b5 hg23 z25
 replace hs := hs.grown hg23 (by intro g hg; injection hg; omega)
 replace b4 := b4.grown hg23 (by intro h; injection h; omega)
 replace p3 := p3.grown hg23 (by intro g hg; injection hg; omega)
 replace oN2 := oN2.grownBlk hg23 (Own.neT oN2 b2 (by decide))
 replace p4 := p4.grown hg23 (by intro g hg; injection hg; omega)
 replace oM2 := oM2.grownBlk hg23 (Own.neT oM2 b2 (by decide))
 replace oM2n := oM2n.grownB b2 hg23 (by decide)
 replace p5 := p5.grown hg23 (by intro g hg; injection hg; omega)
 replace oS2 := oS2.grownBlk hg23 (Own.neT oS2 b2 (by decide))
 replace X := X.grown hg23 X.size (by intro g hg; injection hg; omega)
 clear hg23 b2
 refine aA rfl (aE rfl (aB (aW (bN (eJ rfl rfl b5 dW rfl rfl ?_)))))
 · skip
   have e : jW xs = iI xs := by rw [jW, if_pos hB]
   rw [e]
   have e : iI xs = (zeroM.d, 6) := pC (by omega) (aEb hrN)
   rw [e]; exact ⟨zeroM, rfl, rfl, fR _ _ _ _ _ _, X⟩
 subst hkN
 obtain ⟨rN, hrN, eyN, ezN⟩ := eN.t
 subst eyN
 obtain rfl : kN = rN.2 := by omega
 have hiN := aAM hrN
 refine aA rfl (bP rfl (aA rfl (aC rfl (aI rfl rfl rfl (aC rfl ?_)))))
 cases hkM : okM
 subst hkM
 have hrM := eM.f
 refine aI rfl rfl rfl (bP rfl (aA rfl (aK rfl rfl (aA rfl (aC rfl (aH rfl rfl rfl rfl (aH rfl rfl rfl rfl (aA rfl (aK rfl rfl (aA rfl (aC rfl (aH rfl rfl rfl rfl (aH rfl rfl rfl rfl (aH rfl rfl rfl rfl (aH rfl rfl rfl rfl (aA rfl (aK rfl rfl (aB (aQ rfl (aF (aA rfl (dA nJ dW rfl rfl (aA rfl (bK b2 dW rfl rfl rfl rfl rfl rfl ?_))))))))))))))))))))))))
 intro w27 b5 hg26 z28
 replace hs := hs.grown hg26 (by intro g hg; injection hg; omega)
 replace b4 := b4.grown hg26 (by intro h; injection h; omega)
 replace p3 := p3.grown hg26 (by intro g hg; injection hg; omega)
 replace oN2 := oN2.grownBlk hg26 (Own.neT oN2 b2 (by decide))
 replace p4 := p4.grown hg26 (by intro g hg; injection hg; omega)
 replace oM2 := oM2.grownBlk hg26 (Own.neT oM2 b2 (by decide))
 replace oM2n := oM2n.grownB b2 hg26 (by decide)
 replace p5 := p5.grown hg26 (by intro g hg; injection hg; omega)
 replace oS2 := oS2.grownBlk hg26 (Own.neT oS2 b2 (by decide))
 replace X := X.grown hg26 X.size (by intro g hg; injection hg; omega)
 clear hg26 b2
 refine aA rfl (aE rfl (aB (aW (bN (eJ rfl rfl b5 dW rfl rfl ?_)))))
 · skip
   have e : jW xs = iI xs := by rw [jW, if_pos hB]
   rw [e]
   have e : iI xs = (zeroM.d, 6) := pC (by omega) (aEc hrN hrM)
   rw [e]; exact ⟨zeroM, rfl, rfl, fR _ _ _ _ _ _, X⟩
 subst hkM
 obtain ⟨rM, hrM, eyM, ezM⟩ := eM.t
 obtain rfl : kM = rM.2 := by omega
 have hiM := aCd hrM
 refine aI rfl rfl rfl (bP rfl (aA rfl (aK rfl rfl (aA rfl (aC rfl (aI rfl rfl rfl (aC rfl ?_)))))))
 cases hkS : okS
 subst hkS
 have hrS := eS.f
 refine aI rfl rfl rfl (bP rfl (aA rfl (aK rfl rfl (aA rfl (aC rfl (aH rfl rfl rfl rfl (aH rfl rfl rfl rfl (aH rfl rfl rfl rfl (aH rfl rfl rfl rfl (aA rfl (aK rfl rfl (aB (aQ rfl (aF (aA rfl (dA nJ dW rfl rfl (aA rfl (bK b2 dW rfl rfl rfl rfl rfl rfl ?_))))))))))))))))))
 intro w30 b5 hg29 z31
 replace hs := hs.grown hg29 (by intro g hg; injection hg; omega)
 replace b4 := b4.grown hg29 (by intro h; injection h; omega)
 replace p3 := p3.grown hg29 (by intro g hg; injection hg; omega)
 replace oN2 := oN2.grownBlk hg29 (Own.neT oN2 b2 (by decide))
 replace p4 := p4.grown hg29 (by intro g hg; injection hg; omega)
 replace oM2 := oM2.grownBlk hg29 (Own.neT oM2 b2 (by decide))
 replace oM2n := oM2n.grownB b2 hg29 (by decide)
 replace p5 := p5.grown hg29 (by intro g hg; injection hg; omega)
 replace oS2 := oS2.grownBlk hg29 (Own.neT oS2 b2 (by decide))
 replace X := X.grown hg29 X.size (by intro g hg; injection hg; omega)
 clear hg29 b2
 refine aA rfl (aE rfl (aB (aW (bN (eJ rfl rfl b5 dW rfl rfl ?_)))))
 · skip
   have e : jW xs = iI xs := by rw [jW, if_pos hB]
   rw [e]
   have e : iI xs = (zeroM.d, 6) := pC (by omega) (aEd hrN hrM hrS)
   rw [e]; exact ⟨zeroM, rfl, rfl, fR _ _ _ _ _ _, X⟩
 subst hkS
 obtain ⟨hrS, ezS⟩ := eS.t
 subst ezS
 have hiS := aAe hrS
 refine aI rfl rfl rfl (bP rfl (aA rfl (aK rfl rfl (aA rfl (aC rfl (aI rfl rfl rfl (aC rfl (aI rfl rfl rfl (aC rfl (aI rfl rfl rfl (bO Tryz.underlying30 rfl (aI rfl rfl rfl (cU rfl rfl (fun hLt => ?_) (fun hLt => ?_))))))))))))))
 refine aA rfl (aK rfl rfl (aB (aQ rfl (aF (aA rfl (dA nJ dW rfl rfl (aA rfl (bK b2 dW rfl rfl rfl rfl rfl rfl ?_))))))))
 intro w33 b5 hg32 z34
 replace hs := hs.grown hg32 (by intro g hg; injection hg; omega)
 replace b4 := b4.grown hg32 (by intro h; injection h; omega)
 replace p3 := p3.grown hg32 (by intro g hg; injection hg; omega)
 replace oN2 := oN2.grownBlk hg32 (Own.neT oN2 b2 (by decide))
 replace p4 := p4.grown hg32 (by intro g hg; injection hg; omega)
 replace oM2 := oM2.grownBlk hg32 (Own.neT oM2 b2 (by decide))
 replace oM2n := oM2n.grownB b2 hg32 (by decide)
 replace p5 := p5.grown hg32 (by intro g hg; injection hg; omega)
 replace oS2 := oS2.grownBlk hg32 (Own.neT oS2 b2 (by decide))
 replace X := X.grown hg32 X.size (by intro g hg; injection hg; omega)
 clear hg32 b2
 refine aA rfl (aE rfl (aB (aW (bN (eJ rfl rfl b5 dW rfl rfl ?_)))))
 · skip
   have e : jW xs = iI xs := by rw [jW, if_pos hB]
   rw [e]
   have e : iI xs = (zeroM.d, 6) := pC (by omega) (aEe hrN hrM hrS (by rw [e5]; omega))
   rw [e]; exact ⟨zeroM, rfl, rfl, fR _ _ _ _ _ _, X⟩
 refine aA rfl (aK rfl rfl (aB (aM rfl (aV (aS (aF (aA rfl (aC rfl (aA rfl (aC rfl (aA rfl (aC rfl (aA rfl (aG lY rfl rfl (aA rfl (bK b4 zS rfl rfl rfl rfl rfl rfl ?_))))))))))))))))
 intro w36 b6 hg35 z37
 replace hs := hs.grown hg35 (by intro g hg; injection hg; omega)
 replace b2 := b2.grown hg35 (by intro h; injection h; omega)
 replace p3 := p3.grown hg35 (by intro g hg; injection hg; omega)
 replace oN2 := oN2.grownBlk hg35 (Own.neT oN2 b4 (by decide))
 replace p4 := p4.grown hg35 (by intro g hg; injection hg; omega)
 replace oM2 := oM2.grownBlk hg35 (Own.neT oM2 b4 (by decide))
 replace oM2n := oM2n.grownB b4 hg35 (by decide)
 replace p5 := p5.grown hg35 (by intro g hg; injection hg; omega)
 replace oS2 := oS2.grownBlk hg35 (Own.neT oS2 b4 (by decide))
 replace X := X.grown hg35 X.size (by intro g hg; injection hg; omega)
 clear hg35 b4
 refine aA rfl (aG jF rfl rfl (aA rfl (bK b6 tZ rfl rfl rfl rfl rfl rfl ?_)))
 intro w39 b7 hg38 z40
 replace hs := hs.grown hg38 (by intro g hg; injection hg; omega)
 replace b2 := b2.grown hg38 (by intro h; injection h; omega)
 replace p3 := p3.grown hg38 (by intro g hg; injection hg; omega)
 replace oN2 := oN2.grownBlk hg38 (Own.neT oN2 b6 (by decide))
 replace p4 := p4.grown hg38 (by intro g hg; injection hg; omega)
 replace oM2 := oM2.grownBlk hg38 (Own.neT oM2 b6 (by decide))
 replace oM2n := oM2n.grownB b6 hg38 (by decide)
 replace p5 := p5.grown hg38 (by intro g hg; injection hg; omega)
 replace oS2 := oS2.grownBlk hg38 (Own.neT oS2 b6 (by decide))
 replace X := X.grown hg38 X.size (by intro g hg; injection hg; omega)
 clear hg38 b6
 refine aA rfl (aG fI rfl rfl (aA rfl (bK b7 kY rfl rfl rfl rfl rfl rfl ?_)))
 intro w42 b8 hg41 z43
 replace hs := hs.grown hg41 (by intro g hg; injection hg; omega)
 replace b2 := b2.grown hg41 (by intro h; injection h; omega)
 replace p3 := p3.grown hg41 (by intro g hg; injection hg; omega)
 replace oN2 := oN2.grownBlk hg41 (Own.neT oN2 b7 (by decide))
 replace p4 := p4.grown hg41 (by intro g hg; injection hg; omega)
 replace oM2 := oM2.grownBlk hg41 (Own.neT oM2 b7 (by decide))
 replace oM2n := oM2n.grownB b7 hg41 (by decide)
 replace p5 := p5.grown hg41 (by intro g hg; injection hg; omega)
 replace oS2 := oS2.grownBlk hg41 (Own.neT oS2 b7 (by decide))
 replace X := X.grown hg41 X.size (by intro g hg; injection hg; omega)
 clear hg41 b7
 refine aB (aR (aF ?_))
 have hsm : MedlI.small ⟨x0 * 65536 + x1 * 256 + x2, AN, rN.1, cN, AM, yM, cM, AS, yS, cS⟩ := uP hiN.1 (by rw [eyM]; exact hiM.2.2.2) hiS.2.2
 have hMo : MOwn _ w.heap.size 59 92 2 89 ⟨x0 * 65536 + x1 * 256 + x2, AN, rN.1, cN, AM, yM, cM, AS, yS, cS⟩ := ⟨oN2, oM2, oM2n, djM, oS2⟩
 refine aA rfl (dE b8 dW rfl rfl (aA rfl (cV aFc rfl (uH ⟨x0 * 65536 + x1 * 256 + x2, AN, rN.1, cN, AM, yM, cM, AS, yS, cS⟩ _ _ hMo.med hsm) (fun w45 hI x44 => ?_) (fun w45 hI x44 => ?_))))
 replace hs := hs.ext x44
 replace b2 := b2.ext x44
 replace p3 := p3.ext x44
 replace oN2 := oN2.ext x44
 replace p4 := p4.ext x44
 replace oM2 := oM2.ext x44
 replace oM2n := oM2n.ext x44
 replace p5 := p5.ext x44
 replace oS2 := oS2.ext x44
 replace b8 := b8.ext x44
 replace X := Q7x X x44
 refine aA rfl (bP rfl (aB (aM rfl (aV (aS (aF (aA rfl (dE b8 dW rfl rfl (aA rfl (bK b2 dW rfl rfl rfl rfl rfl rfl ?_))))))))))
 intro w47 b5 hg46 z48
 replace hs := hs.grown hg46 (by intro g hg; injection hg; omega)
 replace p3 := p3.grown hg46 (by intro g hg; injection hg; omega)
 replace oN2 := oN2.grownBlk hg46 (Own.neT oN2 b2 (by decide))
 replace p4 := p4.grown hg46 (by intro g hg; injection hg; omega)
 replace oM2 := oM2.grownBlk hg46 (Own.neT oM2 b2 (by decide))
 replace oM2n := oM2n.grownB b2 hg46 (by decide)
 replace p5 := p5.grown hg46 (by intro g hg; injection hg; omega)
 replace oS2 := oS2.grownBlk hg46 (Own.neT oS2 b2 (by decide))
 replace b8 := b8.grown hg46 (by intro h; injection h; omega)
 replace X := X.grown hg46 X.size (by intro g hg; injection hg; omega)
 clear hg46 b2
 refine aA rfl (aE rfl (aB (aW (eJ rfl rfl b5 dW rfl rfl ?_))))
 · skip
   have e : jW xs = iI xs := by rw [jW, if_pos hB]
   rw [e]
   have hO : qX xs = some ((⟨x0 * 65536 + x1 * 256 + x2, AN, rN.1, cN, AM, yM, cM, AS, yS, cS⟩ : MedlI)).d := by
     rw [xX hrN hrM hrS (by rw [e5]; omega), eid, ← eyM]; rfl
   have e : iI xs = (((⟨x0 * 65536 + x1 * 256 + x2, AN, rN.1, cN, AM, yM, cM, AS, yS, cS⟩ : MedlI)).d, 0) := aEg (by omega) hO hI
   rw [e]; exact ⟨⟨x0 * 65536 + x1 * 256 + x2, AN, rN.1, cN, AM, yM, cM, AS, yS, cS⟩, rfl, rfl, ⟨oN2, oM2, oM2n, djM, oS2⟩, X⟩
 replace hs := hs.ext x44
 replace b2 := b2.ext x44
 replace p3 := p3.ext x44
 replace oN2 := oN2.ext x44
 replace p4 := p4.ext x44
 replace oM2 := oM2.ext x44
 replace oM2n := oM2n.ext x44
 replace p5 := p5.ext x44
 replace oS2 := oS2.ext x44
 replace b8 := b8.ext x44
 replace X := Q7x X x44
 refine aA rfl (bP rfl (aB (aQ rfl (aF (aA rfl (dA nJ dW rfl rfl (aA rfl (bK b2 dW rfl rfl rfl rfl rfl rfl ?_))))))))
 intro w50 b5 hg49 z51
 replace hs := hs.grown hg49 (by intro g hg; injection hg; omega)
 replace p3 := p3.grown hg49 (by intro g hg; injection hg; omega)
 replace oN2 := oN2.grownBlk hg49 (Own.neT oN2 b2 (by decide))
 replace p4 := p4.grown hg49 (by intro g hg; injection hg; omega)
 replace oM2 := oM2.grownBlk hg49 (Own.neT oM2 b2 (by decide))
 replace oM2n := oM2n.grownB b2 hg49 (by decide)
 replace p5 := p5.grown hg49 (by intro g hg; injection hg; omega)
 replace oS2 := oS2.grownBlk hg49 (Own.neT oS2 b2 (by decide))
 replace b8 := b8.grown hg49 (by intro h; injection h; omega)
 replace X := X.grown hg49 X.size (by intro g hg; injection hg; omega)
 clear hg49 b2
 refine aA rfl (aE rfl (aB (aW (bN (eJ rfl rfl b5 dW rfl rfl ?_)))))
 · skip
   have e : jW xs = iI xs := by rw [jW, if_pos hB]
   rw [e]
   have hO : qX xs = some ((⟨x0 * 65536 + x1 * 256 + x2, AN, rN.1, cN, AM, yM, cM, AS, yS, cS⟩ : MedlI)).d := by
     rw [xX hrN hrM hrS (by rw [e5]; omega), eid, ← eyM]; rfl
   have e : iI xs = (zeroM.d, 1) := aEf (by omega) hO hI
   rw [e]; exact ⟨zeroM, rfl, rfl, fR _ _ _ _ _ _, X⟩
 refine (dT dW ?_)
 intro g3 w53 eg3 b3 x52 zg3
 have lg3 : w.heap.size ≤ g3 := Q7l X.size (Q7e eg3.symm)
 have pg3hs := Q7l hs.1 (Q7e eg3.symm)
 have ng3b2 := Nat.lt_of_lt_of_eq b2.lt eg3.symm
 replace hs := hs.ext x52
 replace b2 := b2.ext x52
 replace X := Q7x X x52
 refine hU 1 rfl rfl (by kernel_rfl) (listed' := #[true, true, false, true, true, true, false, false]) rfl hs (aT aFe rfl (aP (aCg _ _ c xs.length xs x0 x1 x2 _ hs rfl hx0 hx1 hx2 hxb0 hxb1 hxb2) ?_))
 rintro _ w55 ⟨rfl, x54⟩
 replace hs := hs.ext x54
 replace b2 := b2.ext x54
 replace b3 := b3.ext x54
 replace X := Q7x X x54
 refine dH 2 rfl (by kernel_rfl) rfl (by kernel_rfl) (listed' := #[true, true, true, true, true, true, false, false]) rfl (fun wq sq => dA nJ dW rfl rfl ⟨rfl, rfl⟩) (hU 6 rfl rfl (by kernel_rfl) (listed' := #[true, true, true, true, true, true, true, false]) rfl hs (bK b3 dW rfl rfl rfl rfl rfl rfl ?_))
 intro w57 b4 hg56 z58
 replace hs := hs.grown hg56 (by intro g hg; injection hg; omega)
 replace b2 := b2.grown hg56 (by intro h; injection h; omega)
 replace X := X.grown hg56 X.size (by intro g hg; injection hg; omega)
 clear hg56 b3
 refine dH 7 rfl (by kernel_rfl) rfl (by kernel_rfl) (listed' := #[true, true, true, true, true, true, true, true]) rfl (fun wq sq => aE rfl ⟨rfl, rfl⟩) (jE rfl hs (fun aj fj => ⟨_, fj, aF ?_⟩))
 have p3 := hs.dropX 3 hcap
 refine aA rfl (aC rfl (aA rfl (aT aI7 rfl (aP (yY _ B (c - 3) (xs.length - 3) (xs.drop 3) _ p3 (by omega) (gR hB 3) (by omega) e3) ?_))))
 rintro _ w60 ⟨AN, cN, yN, szN, okN, rfl, eN, oN2, x59⟩
 replace oN2 := Own.low oN2 X.size
 replace hs := hs.ext x59
 replace b2 := b2.ext x59
 replace b4 := b4.ext x59
 replace p3 := p3.ext x59
 replace X := Q7x X x59
 obtain ⟨kN, ezN, hkNl⟩ := eN.sz
 subst ezN
 have e4 : ((xs.drop 3).drop kN).length = ((xs.length - 3) - kN) := by rw [List.length_drop, e3]
 refine aA rfl (aC rfl (aA rfl (cX rfl rfl (aA rfl (cX rfl rfl (aA rfl (cX rfl rfl (aA rfl (aE rfl (aA rfl (aE rfl (aA rfl (aE rfl (aB (aF (aA rfl (aC rfl (aA rfl (aC rfl (aA rfl (kI cQ p3 bI rfl rfl rfl e3.symm (by omega) (by omega) ?_)))))))))))))))))))))
 intro A4 p4
 refine aA rfl (aE rfl (aB (aF (aA rfl (aC rfl (aA rfl (aT aI8 rfl (aP (yZ A4 B ((c - 3) - kN) ((xs.length - 3) - kN) ((xs.drop 3).drop kN) _ p4 (by omega) (gR (gR hB 3) _) (by omega) e4) ?_))))))))
 rintro _ w62 ⟨AM, cM, yM, szM, okM, rfl, eM, djM, oM2, oM2n, x61⟩
 replace oM2 := Own.low oM2 X.size
 replace oM2n := NOwn.low oM2n X.size
 replace hs := hs.ext x61
 replace b2 := b2.ext x61
 replace b4 := b4.ext x61
 replace p3 := p3.ext x61
 replace oN2 := oN2.ext x61
 replace p4 := p4.ext x61
 replace X := Q7x X x61
 obtain ⟨kM, ezM, hkMl⟩ := eM.sz
 subst ezM
 have e5 : (((xs.drop 3).drop kN).drop kM).length = (((xs.length - 3) - kN) - kM) := by rw [List.length_drop, e4]
 refine aA rfl (aC rfl (aA rfl (cX rfl rfl (aA rfl (cX rfl rfl (aA rfl (cX rfl rfl (aA rfl (aE rfl (aA rfl (aE rfl (aA rfl (aE rfl (aB (aF (aA rfl (aC rfl (aA rfl (aC rfl (aA rfl (kI cQ p4 bI rfl rfl rfl e4.symm (by omega) (by omega) ?_)))))))))))))))))))))
 intro A5 p5
 refine aA rfl (aE rfl (aB (aF (aA rfl (aC rfl (aA rfl (aT aI9 rfl (aP (zA A5 B (((c - 3) - kN) - kM) (((xs.length - 3) - kN) - kM) (((xs.drop 3).drop kN).drop kM) _ p5 (by omega) (gR (gR (gR hB 3) _) _) (by omega) e5) ?_))))))))
 rintro _ w65 ⟨AS, cS, yS, szS, okS, rfl, eS, oS2, x63⟩
 replace oS2 := Own.low oS2 X.size
 replace hs := hs.ext x63
 replace b2 := b2.ext x63
 replace b4 := b4.ext x63
 replace p3 := p3.ext x63
 replace oN2 := oN2.ext x63
 replace p4 := p4.ext x63
 replace oM2 := oM2.ext x63
 replace oM2n := oM2n.ext x63
 replace p5 := p5.ext x63
 replace X := Q7x X x63
 refine aA rfl (aC rfl (aA rfl (cX rfl rfl (aA rfl (cX rfl rfl (aA rfl (cX rfl rfl (aA rfl (aE rfl (aA rfl (aE rfl (aA rfl (aE rfl (aB (aR (aF (aA rfl (aC rfl ?_))))))))))))))))))
 cases hkN : okN
 subst hkN
 have hrN := (eN.f).1
 refine aA rfl (bP rfl (aA rfl (aC rfl (aH rfl rfl rfl rfl (aH rfl rfl rfl rfl (aA rfl (aK rfl rfl (aA rfl (aC rfl (aH rfl rfl rfl rfl (aH rfl rfl rfl rfl (aA rfl (aK rfl rfl (aA rfl (aC rfl (aH rfl rfl rfl rfl (aH rfl rfl rfl rfl (aH rfl rfl rfl rfl (aH rfl rfl rfl rfl (aA rfl (aK rfl rfl (aB (aQ rfl (aF (aA rfl (dA nJ dW rfl rfl (aA rfl (bK b2 dW rfl rfl rfl rfl rfl rfl ?_))))))))))))))))))))))))))))
 intro w67 b5 hg66 z68
 replace hs := hs.grown hg66 (by intro g hg; injection hg; omega)
 replace b4 := b4.grown hg66 (by intro h; injection h; omega)
 replace p3 := p3.grown hg66 (by intro g hg; injection hg; omega)
 replace oN2 := oN2.grownBlk hg66 (Own.neT oN2 b2 (by decide))
 replace p4 := p4.grown hg66 (by intro g hg; injection hg; omega)
 replace oM2 := oM2.grownBlk hg66 (Own.neT oM2 b2 (by decide))
 replace oM2n := oM2n.grownB b2 hg66 (by decide)
 replace p5 := p5.grown hg66 (by intro g hg; injection hg; omega)
 replace oS2 := oS2.grownBlk hg66 (Own.neT oS2 b2 (by decide))
 replace X := X.grown hg66 X.size (by intro g hg; injection hg; omega)
 clear hg66 b2
 refine aA rfl (aE rfl (aB (aW (bN (eJ rfl rfl b5 dW rfl rfl ?_)))))
 · skip
   have e : jW xs = iI xs := by rw [jW, if_pos hB]
   rw [e]
   have e : iI xs = (zeroM.d, 6) := pC (by omega) (aEb hrN)
   rw [e]; exact ⟨zeroM, rfl, rfl, fR _ _ _ _ _ _, X⟩
 subst hkN
 obtain ⟨rN, hrN, eyN, ezN⟩ := eN.t
 subst eyN
 obtain rfl : kN = rN.2 := by omega
 have hiN := aAM hrN
 refine aA rfl (bP rfl (aA rfl (aC rfl (aI rfl rfl rfl (aC rfl ?_)))))
 cases hkM : okM
 subst hkM
 have hrM := eM.f
 refine aI rfl rfl rfl (bP rfl (aA rfl (aK rfl rfl (aA rfl (aC rfl (aH rfl rfl rfl rfl (aH rfl rfl rfl rfl (aA rfl (aK rfl rfl (aA rfl (aC rfl (aH rfl rfl rfl rfl (aH rfl rfl rfl rfl (aH rfl rfl rfl rfl (aH rfl rfl rfl rfl (aA rfl (aK rfl rfl (aB (aQ rfl (aF (aA rfl (dA nJ dW rfl rfl (aA rfl (bK b2 dW rfl rfl rfl rfl rfl rfl ?_))))))))))))))))))))))))
 intro w70 b5 hg69 z71
 replace hs := hs.grown hg69 (by intro g hg; injection hg; omega)
 replace b4 := b4.grown hg69 (by intro h; injection h; omega)
 replace p3 := p3.grown hg69 (by intro g hg; injection hg; omega)
 replace oN2 := oN2.grownBlk hg69 (Own.neT oN2 b2 (by decide))
 replace p4 := p4.grown hg69 (by intro g hg; injection hg; omega)
 replace oM2 := oM2.grownBlk hg69 (Own.neT oM2 b2 (by decide))
 replace oM2n := oM2n.grownB b2 hg69 (by decide)
 replace p5 := p5.grown hg69 (by intro g hg; injection hg; omega)
 replace oS2 := oS2.grownBlk hg69 (Own.neT oS2 b2 (by decide))
 replace X := X.grown hg69 X.size (by intro g hg; injection hg; omega)
 clear hg69 b2
 refine aA rfl (aE rfl (aB (aW (bN (eJ rfl rfl b5 dW rfl rfl ?_)))))
 · skip
   have e : jW xs = iI xs := by rw [jW, if_pos hB]
   rw [e]
   have e : iI xs = (zeroM.d, 6) := pC (by omega) (aEc hrN hrM)
   rw [e]; exact ⟨zeroM, rfl, rfl, fR _ _ _ _ _ _, X⟩
 subst hkM
 obtain ⟨rM, hrM, eyM, ezM⟩ := eM.t
 obtain rfl : kM = rM.2 := by omega
 have hiM := aCd hrM
 refine aI rfl rfl rfl (bP rfl (aA rfl (aK rfl rfl (aA rfl (aC rfl (aI rfl rfl rfl (aC rfl ?_)))))))
 cases hkS : okS
 subst hkS
 have hrS := eS.f
 refine aI rfl rfl rfl (bP rfl (aA rfl (aK rfl rfl (aA rfl (aC rfl (aH rfl rfl rfl rfl (aH rfl rfl rfl rfl (aH rfl rfl rfl rfl (aH rfl rfl rfl rfl (aA rfl (aK rfl rfl (aB (aQ rfl (aF (aA rfl (dA nJ dW rfl rfl (aA rfl (bK b2 dW rfl rfl rfl rfl rfl rfl ?_))))))))))))))))))
 intro w73 b5 hg72 z74
 replace hs := hs.grown hg72 (by intro g hg; injection hg; omega)
 replace b4 := b4.grown hg72 (by intro h; injection h; omega)
 replace p3 := p3.grown hg72 (by intro g hg; injection hg; omega)
 replace oN2 := oN2.grownBlk hg72 (Own.neT oN2 b2 (by decide))
 replace p4 := p4.grown hg72 (by intro g hg; injection hg; omega)
 replace oM2 := oM2.grownBlk hg72 (Own.neT oM2 b2 (by decide))
 replace oM2n := oM2n.grownB b2 hg72 (by decide)
 replace p5 := p5.grown hg72 (by intro g hg; injection hg; omega)
 replace oS2 := oS2.grownBlk hg72 (Own.neT oS2 b2 (by decide))
 replace X := X.grown hg72 X.size (by intro g hg; injection hg; omega)
 clear hg72 b2
 refine aA rfl (aE rfl (aB (aW (bN (eJ rfl rfl b5 dW rfl rfl ?_)))))
 · skip
   have e : jW xs = iI xs := by rw [jW, if_pos hB]
   rw [e]
   have e : iI xs = (zeroM.d, 6) := pC (by omega) (aEd hrN hrM hrS)
   rw [e]; exact ⟨zeroM, rfl, rfl, fR _ _ _ _ _ _, X⟩
 subst hkS
 obtain ⟨hrS, ezS⟩ := eS.t
 subst ezS
 have hiS := aAe hrS
 refine aI rfl rfl rfl (bP rfl (aA rfl (aK rfl rfl (aA rfl (aC rfl (aI rfl rfl rfl (aC rfl (aI rfl rfl rfl (aC rfl (aI rfl rfl rfl (bO Tryz.underlying30 rfl (aI rfl rfl rfl (cU rfl rfl (fun hLt => ?_) (fun hLt => ?_))))))))))))))
 refine aA rfl (aK rfl rfl (aB (aQ rfl (aF (aA rfl (dA nJ dW rfl rfl (aA rfl (bK b2 dW rfl rfl rfl rfl rfl rfl ?_))))))))
 intro w76 b5 hg75 z77
 replace hs := hs.grown hg75 (by intro g hg; injection hg; omega)
 replace b4 := b4.grown hg75 (by intro h; injection h; omega)
 replace p3 := p3.grown hg75 (by intro g hg; injection hg; omega)
 replace oN2 := oN2.grownBlk hg75 (Own.neT oN2 b2 (by decide))
 replace p4 := p4.grown hg75 (by intro g hg; injection hg; omega)
 replace oM2 := oM2.grownBlk hg75 (Own.neT oM2 b2 (by decide))
 replace oM2n := oM2n.grownB b2 hg75 (by decide)
 replace p5 := p5.grown hg75 (by intro g hg; injection hg; omega)
 replace oS2 := oS2.grownBlk hg75 (Own.neT oS2 b2 (by decide))
 replace X := X.grown hg75 X.size (by intro g hg; injection hg; omega)
 clear hg75 b2
 refine aA rfl (aE rfl (aB (aW (bN (eJ rfl rfl b5 dW rfl rfl ?_)))))
 · skip
   have e : jW xs = iI xs := by rw [jW, if_pos hB]
   rw [e]
   have e : iI xs = (zeroM.d, 6) := pC (by omega) (aEe hrN hrM hrS (by rw [e5]; omega))
   rw [e]; exact ⟨zeroM, rfl, rfl, fR _ _ _ _ _ _, X⟩
 refine aA rfl (aK rfl rfl (aB (aM rfl (aV (aS (aF (aA rfl (aC rfl (aA rfl (aC rfl (aA rfl (aC rfl (aA rfl (aG lY rfl rfl (aA rfl (bK b4 zS rfl rfl rfl rfl rfl rfl ?_))))))))))))))))
 intro w79 b6 hg78 z80
 replace hs := hs.grown hg78 (by intro g hg; injection hg; omega)
 replace b2 := b2.grown hg78 (by intro h; injection h; omega)
 replace p3 := p3.grown hg78 (by intro g hg; injection hg; omega)
 replace oN2 := oN2.grownBlk hg78 (Own.neT oN2 b4 (by decide))
 replace p4 := p4.grown hg78 (by intro g hg; injection hg; omega)
 replace oM2 := oM2.grownBlk hg78 (Own.neT oM2 b4 (by decide))
 replace oM2n := oM2n.grownB b4 hg78 (by decide)
 replace p5 := p5.grown hg78 (by intro g hg; injection hg; omega)
 replace oS2 := oS2.grownBlk hg78 (Own.neT oS2 b4 (by decide))
 replace X := X.grown hg78 X.size (by intro g hg; injection hg; omega)
 clear hg78 b4
 refine aA rfl (aG jF rfl rfl (aA rfl (bK b6 tZ rfl rfl rfl rfl rfl rfl ?_)))
 intro w82 b7 hg81 z83
 replace hs := hs.grown hg81 (by intro g hg; injection hg; omega)
 replace b2 := b2.grown hg81 (by intro h; injection h; omega)
 replace p3 := p3.grown hg81 (by intro g hg; injection hg; omega)
 replace oN2 := oN2.grownBlk hg81 (Own.neT oN2 b6 (by decide))
 replace p4 := p4.grown hg81 (by intro g hg; injection hg; omega)
 replace oM2 := oM2.grownBlk hg81 (Own.neT oM2 b6 (by decide))
 replace oM2n := oM2n.grownB b6 hg81 (by decide)
 replace p5 := p5.grown hg81 (by intro g hg; injection hg; omega)
 replace oS2 := oS2.grownBlk hg81 (Own.neT oS2 b6 (by decide))
 replace X := X.grown hg81 X.size (by intro g hg; injection hg; omega)
 clear hg81 b6
 refine aA rfl (aG fI rfl rfl (aA rfl (bK b7 kY rfl rfl rfl rfl rfl rfl ?_)))
 intro w85 b8 hg84 z86
 replace hs := hs.grown hg84 (by intro g hg; injection hg; omega)
 replace b2 := b2.grown hg84 (by intro h; injection h; omega)
 replace p3 := p3.grown hg84 (by intro g hg; injection hg; omega)
 replace oN2 := oN2.grownBlk hg84 (Own.neT oN2 b7 (by decide))
 replace p4 := p4.grown hg84 (by intro g hg; injection hg; omega)
 replace oM2 := oM2.grownBlk hg84 (Own.neT oM2 b7 (by decide))
 replace oM2n := oM2n.grownB b7 hg84 (by decide)
 replace p5 := p5.grown hg84 (by intro g hg; injection hg; omega)
 replace oS2 := oS2.grownBlk hg84 (Own.neT oS2 b7 (by decide))
 replace X := X.grown hg84 X.size (by intro g hg; injection hg; omega)
 clear hg84 b7
 refine aB (aR (aF ?_))
 have hsm : MedlI.small ⟨x0 * 65536 + x1 * 256 + x2, AN, rN.1, cN, AM, yM, cM, AS, yS, cS⟩ := uP hiN.1 (by rw [eyM]; exact hiM.2.2.2) hiS.2.2
 have hMo : MOwn _ w.heap.size 59 92 2 89 ⟨x0 * 65536 + x1 * 256 + x2, AN, rN.1, cN, AM, yM, cM, AS, yS, cS⟩ := ⟨oN2, oM2, oM2n, djM, oS2⟩
 refine aA rfl (dE b8 dW rfl rfl (aA rfl (cV aFc rfl (uH ⟨x0 * 65536 + x1 * 256 + x2, AN, rN.1, cN, AM, yM, cM, AS, yS, cS⟩ _ _ hMo.med hsm) (fun w88 hI x87 => ?_) (fun w88 hI x87 => ?_))))
 replace hs := hs.ext x87
 replace b2 := b2.ext x87
 replace p3 := p3.ext x87
 replace oN2 := oN2.ext x87
 replace p4 := p4.ext x87
 replace oM2 := oM2.ext x87
 replace oM2n := oM2n.ext x87
 replace p5 := p5.ext x87
 replace oS2 := oS2.ext x87
 replace b8 := b8.ext x87
 replace X := Q7x X x87
 refine aA rfl (bP rfl (aB (aM rfl (aV (aS (aF (aA rfl (dE b8 dW rfl rfl (aA rfl (bK b2 dW rfl rfl rfl rfl rfl rfl ?_))))))))))
 intro w90 b5 hg89 z91
 replace hs := hs.grown hg89 (by intro g hg; injection hg; omega)
 replace p3 := p3.grown hg89 (by intro g hg; injection hg; omega)
 replace oN2 := oN2.grownBlk hg89 (Own.neT oN2 b2 (by decide))
 replace p4 := p4.grown hg89 (by intro g hg; injection hg; omega)
 replace oM2 := oM2.grownBlk hg89 (Own.neT oM2 b2 (by decide))
 replace oM2n := oM2n.grownB b2 hg89 (by decide)
 replace p5 := p5.grown hg89 (by intro g hg; injection hg; omega)
 replace oS2 := oS2.grownBlk hg89 (Own.neT oS2 b2 (by decide))
 replace b8 := b8.grown hg89 (by intro h; injection h; omega)
 replace X := X.grown hg89 X.size (by intro g hg; injection hg; omega)
 clear hg89 b2
 refine aA rfl (aE rfl (aB (aW (eJ rfl rfl b5 dW rfl rfl ?_))))
 · skip
   have e : jW xs = iI xs := by rw [jW, if_pos hB]
   rw [e]
   have hO : qX xs = some ((⟨x0 * 65536 + x1 * 256 + x2, AN, rN.1, cN, AM, yM, cM, AS, yS, cS⟩ : MedlI)).d := by
     rw [xX hrN hrM hrS (by rw [e5]; omega), eid, ← eyM]; rfl
   have e : iI xs = (((⟨x0 * 65536 + x1 * 256 + x2, AN, rN.1, cN, AM, yM, cM, AS, yS, cS⟩ : MedlI)).d, 0) := aEg (by omega) hO hI
   rw [e]; exact ⟨⟨x0 * 65536 + x1 * 256 + x2, AN, rN.1, cN, AM, yM, cM, AS, yS, cS⟩, rfl, rfl, ⟨oN2, oM2, oM2n, djM, oS2⟩, X⟩
 replace hs := hs.ext x87
 replace b2 := b2.ext x87
 replace p3 := p3.ext x87
 replace oN2 := oN2.ext x87
 replace p4 := p4.ext x87
 replace oM2 := oM2.ext x87
 replace oM2n := oM2n.ext x87
 replace p5 := p5.ext x87
 replace oS2 := oS2.ext x87
 replace b8 := b8.ext x87
 replace X := Q7x X x87
 refine aA rfl (bP rfl (aB (aQ rfl (aF (aA rfl (dA nJ dW rfl rfl (aA rfl (bK b2 dW rfl rfl rfl rfl rfl rfl ?_))))))))
 intro w93 b5 hg92 z94
 replace hs := hs.grown hg92 (by intro g hg; injection hg; omega)
 replace p3 := p3.grown hg92 (by intro g hg; injection hg; omega)
 replace oN2 := oN2.grownBlk hg92 (Own.neT oN2 b2 (by decide))
 replace p4 := p4.grown hg92 (by intro g hg; injection hg; omega)
 replace oM2 := oM2.grownBlk hg92 (Own.neT oM2 b2 (by decide))
 replace oM2n := oM2n.grownB b2 hg92 (by decide)
 replace p5 := p5.grown hg92 (by intro g hg; injection hg; omega)
 replace oS2 := oS2.grownBlk hg92 (Own.neT oS2 b2 (by decide))
 replace b8 := b8.grown hg92 (by intro h; injection h; omega)
 replace X := X.grown hg92 X.size (by intro g hg; injection hg; omega)
 clear hg92 b2
 refine aA rfl (aE rfl (aB (aW (bN (eJ rfl rfl b5 dW rfl rfl ?_)))))
 · skip
   have e : jW xs = iI xs := by rw [jW, if_pos hB]
   rw [e]
   have hO : qX xs = some ((⟨x0 * 65536 + x1 * 256 + x2, AN, rN.1, cN, AM, yM, cM, AS, yS, cS⟩ : MedlI)).d := by
     rw [xX hrN hrM hrS (by rw [e5]; omega), eid, ← eyM]; rfl
   have e : iI xs = (zeroM.d, 1) := aEf (by omega) hO hI
   rw [e]; exact ⟨zeroM, rfl, rfl, fR _ _ _ _ _ _, X⟩
 replace hs := hs.ext x3
 replace b2 := b2.ext x3
 replace X := Q7x X x3; clear x3
 refine aA rfl (bP rfl (aB (aQ rfl (aF (aA rfl (dA nJ dW rfl rfl (aA rfl (bK b2 dW rfl rfl rfl rfl rfl rfl ?_))))))))
 intro w96 b5 hg95 z97
 replace hs := hs.grown hg95 (by intro g hg; injection hg; omega)
 replace X := X.grown hg95 X.size (by intro g hg; injection hg; omega)
 clear hg95 b2
 refine aA rfl (aE rfl (aB (aW (bN (eJ rfl rfl b5 dW rfl rfl ?_)))))
 · skip
   have e : jW xs = (zeroM.d, 2) := by rw [jW, if_neg (by rw [hIB]; decide)]
   rw [e]; exact ⟨zeroM, rfl, rfl, fR _ _ _ _ _ _, X⟩
end Go.Proofs.YtdoibplhbdkapaaGreatDoor
