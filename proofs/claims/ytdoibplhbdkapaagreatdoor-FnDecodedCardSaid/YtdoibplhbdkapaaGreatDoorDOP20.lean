/- Parts. No condition. -/
import Derived.Test.YtdoibplhbdkapaaGreatDoorDOP19
import Derived.Test.YtdoibplhbdkapaaGreatDoorDOP18
namespace Go.Proofs.YtdoibplhbdkapaaGreatDoor
open Go.RowKit
set_option linter.unusedVariables false
set_option linter.unusedSimpArgs false
set_option maxRecDepth 20000
theorem yV (A : Option Addr) (B c n : Nat) (xs : List NodeI) (w : World) (hs : Sl B w A (xs.flatMap NodeI.cells)) (hl : xs.length ≤ 1048576) (hid : ∀ x ∈ xs, 0 ≤ x.id ∧ x.id ≤ 31) (e : xs.length = n) :
   Calls Tryz.prog 181 #[.slice A n c] w (fF fun v w' => v = .int .i64 (iM xs : Nat) ∧ Ext w w') := by
 subst e; exact tD A B c xs w hs hl hid
def mP (y : ModeI) : Prop := y.m.next.length ≤ 1 ∧ aJw y.m
def sP (x : SlotI) : Prop := (0 ≤ x.desc.duration ∧ x.desc.duration ≤ 1000) ∧ aJv x
theorem kD {a : Nat} {z : Int} (h : z ∈ lM a 32) : 0 ≤ z ∧ z ≤ 31 := by
 unfold lM at h
 obtain ⟨i, hi, rfl⟩ := List.mem_map.1 h
 have h2 := List.mem_range.1 (List.mem_filter.1 hi).1
 show 0 ≤ (i : Int) ∧ (i : Int) ≤ 31
 omega
def aK4 (m : MedlI) : Prop := (1 ≤ m.ss.length ∧ m.ss.length ≤ 500) ∧ m.small ∧ (∀ x ∈ m.ss, 0 ≤ x.desc.duration ∧ x.desc.duration ≤ 1000) ∧ (m.ms.length ≤ 17 ∧ m.ns.length ≤ 4 ∧ m.ms.length ≤ 2 ∧ (∀ x ∈ m.ms, x.m.next.length ≤ 5) ∧ aE0 m.d)
theorem vZ {m : MedlI} (e : m.d = smallM) : aK4 m := by
 have h : m.ss = smallM.ss := congrArg MedlD.ss e
 refine ⟨?_, aC2 e, ?_, ?_⟩
 · rw [h]; decide
 · rw [h]; decide
 · have h2 := congrArg (fun d => (MedlD.ms d).length) e
   have h3 : m.ms.length = 2 := by simpa [MedlI.d, smallM] using h2
   have h4 := congrArg (fun d => (MedlD.ns d).length) e
   have h5 : m.ns.length = 2 := by simpa [MedlI.d, smallM] using h4
   have h6 := congrArg MedlD.ms e
   refine ⟨by omega, by omega, by omega, fun x hx => ?_, by rw [e]; decide⟩
   have h7 : x.m ∈ smallM.ms := h6 ▸ List.mem_map_of_mem hx
   have h8 : ∀ z ∈ smallM.ms, z.next.length ≤ 5 := by decide
   exact h8 _ h7
set_option maxHeartbeats 4000000 in
theorem xR (A : Option Addr) (B c : Nat) (bs : List UInt8) (gS a : Nat) (sd : Int) (w : World) (q : Blk w gS 148 (lH A c bs a sd)) (hs : Sl B w A (bs.flatMap eB)) (hB : B ≤ gS) (ok : a ≤ bs.length ∧ 0 ≤ sd ∧ sd < 2147483647) (hbl : bs.length ≤ 1048576) :
   Calls Tryz.prog 102 #[.pointer (some ⟨gS, 0, none⟩)] w (fF fun v w' => ∃ m a' sd', v = .agg (MedlI.cells m).toArray ∧ aK4 m ∧ MOwn w' w.heap.size 59 92 2 89 m ∧ (a' ≤ bs.length ∧ 0 ≤ sd' ∧ sd' < 2147483647) ∧ Blk w' gS 148 (lH A c bs a' sd') ∧ w.grownBy w' (some gS)) := by
 have Bhs := hs.1
 have X := pJ w (some gS)
 refine bJ (args := [.pointer (some ⟨gS, 0, none⟩)]) Tryz.func102 Tryz.ntmps102 rfl rfl (aF (aA rfl (dT dW ?_)))
 intro g2 w2 eg2 bR x1 zg2
 have lg2 : w.heap.size ≤ g2 := Q7l X.size (Q7e eg2.symm)
 have ng2q := Nat.lt_of_lt_of_eq q.lt eg2.symm
 have pg2hs := Q7l hs.1 (Q7e eg2.symm)
 replace q := q.ext x1
 replace hs := hs.ext x1
 replace X := dU X x1; clear x1
 refine aB (aR (aF (aA rfl (aC rfl (aA rfl (aT fS rfl (aP (dN _ _ _ _ _ _ _ _ _ q hs hB ok hbl (by omega)) ?_)))))))
 rintro _ w4 ⟨r4, a6, sd7, rfl, hr8, ok, b5, x3⟩
 replace hs := hs.grown x3 (by intro g hg; injection hg; omega)
 replace bR := bR.grown x3 (by intro h; injection h; omega)
 replace X := dI X x3
 clear x3 q
 refine aA rfl (dP rfl rfl (fun h4 => ?_) (fun h4 => ?_))
 refine aB (aQ rfl (aF (aA rfl (aT aLl rfl (aP (aGO _) ?_)))))
 rintro _ w10 ⟨mm, rfl, eM, oM, x9⟩
 replace oM := MOwn.low oM X.size
 replace hs := hs.ext x9
 replace bR := bR.ext x9
 replace b5 := b5.ext x9
 replace X := dU X x9; clear x9
 refine aA rfl (bK bR dW rfl rfl rfl rfl rfl rfl ?_)
 intro w14 bZ hg13 z15
 replace hs := hs.grown hg13 (by intro g hg; injection hg; omega)
 replace b5 := b5.grown hg13 (by intro h; injection h; omega)
 replace oM := oM.grownB bR hg13 ⟨by decide, by decide, by decide, by decide⟩
 replace X := dV X hg13 (by intro g hg; injection hg; omega)
 clear hg13 bR
 refine aB (aW (bN (kG rfl rfl bZ dW rfl ?_)))
 · skip
   first
   | (exact ⟨mm, _, _, rfl, vZ eM, oM, ok, b5, X⟩)
   | (subst hnM; subst hnS
      have hsm : MedlI.small ⟨1 + rid, AT, ns, cT, AM, yM, cM, AS, yS, cS⟩ := ⟨by show ns.length ≤ _; omega, by show yM.length ≤ _; omega, fun y hy => Q7l (hmx y hy).1 (by decide), by show yS.length ≤ _; omega, fun y hy => Q7l (hnsm y hy).2 (by decide)⟩
      exact ⟨⟨1 + rid, AT, ns, cT, AM, yM, cM, AS, yS, cS⟩, _, _, by unfold MedlI.cells; simp only [hnN] <;> rfl, ⟨⟨by show 1 ≤ yS.length; omega, by show yS.length ≤ 500; omega⟩, hsm, fun x hx => (hdur x hx).1, ⟨by show yM.length ≤ 17; omega, by show ns.length ≤ 4; omega, by show yM.length ≤ 2; omega, fun y hy => Q7l (hmx y hy).1 (by decide), ⟨by show 0 ≤ 1 + rid ∧ 1 + rid ≤ 16777215; omega, ⟨by show ns.length ≤ 32; omega, fun x hx => ⟨by have := (hnsm x hx).1; omega, by have := (hnsm x hx).1; omega, (hnsm x hx).2⟩⟩, ⟨by show (yM.map (·.m)).length ≤ 16; rw [List.length_map]; omega, fun x hx => by obtain ⟨y, hy, rfl⟩ := List.mem_map.1 hx; exact (hmx y hy).2⟩, ⟨by show yS.length ≤ 140; omega, fun x hx => (hdur x hx).2⟩⟩⟩⟩, ⟨by rw [← hnN] at oQ; exact oQ, oM, oMx, hd, oS⟩, ok, b5, X⟩)
 refine aB (aM rfl (aV (aS (aF (aA rfl (aC rfl ?_))))))
 have LoT := X.size
 refine aA rfl (aT aJ4 rfl (aP (aFy _ _ _ _ _ _ _ _ b5 hs hB ok hbl) ?_))
 rintro _ w17 ⟨AT, cT, ys, a19, sd20, rfl, hyl, oT, ok, b18, x16⟩
 replace hs := hs.grown x16 (by intro g hg; injection hg; omega)
 replace bR := bR.grown x16 (by intro h; injection h; omega)
 replace X := dI X x16
 clear x16 b5
 replace oT := Own.low oT LoT
 refine aA rfl (aE rfl (aB (aF (aA rfl (aC rfl ?_)))))
 obtain ⟨x0, hx0⟩ : ∃ x, ys[0]? = some x := ⟨_, List.getElem?_eq_getElem (by omega)⟩
 have hx0s := hyl.2 x0 (List.mem_of_getElem? hx0)
 refine aA rfl (aU (oT).sl NodeI.len rfl lO rfl rfl rfl hx0 rfl (aA rfl (dF sO rfl (aA rfl (aEi oT xO rfl rfl rfl rfl (by omega) (by omega) rfl ?_)))))
 intro w23 oQ hg22 z24
 replace hs := hs.grown hg22 (fun g hg => Q7l Bhs (Own.lt oT hg).1)
 replace bR := bR.grown hg22 (fun h => Own.neT oT bR (by decide) h.symm)
 replace b18 := b18.grown hg22 (fun h => Own.neT oT b18 (by decide) h.symm)
 replace X : w.grownBy w23 (some gS) := by first | exact dI X hg22 | exact dV X hg22 (fun g hg => (Own.lt oT hg).1)
 clear hg22 z24
 obtain ⟨qs, hql, hqs, hq0, oQ⟩ : ∃ qs : List NodeI, qs.length = ys.length ∧ (∀ z ∈ qs, aCZ z) ∧ (∃ z, qs[0]? = some z ∧ z.passive = false) ∧ Own _ w.heap.size 59 4 AT ys.length cT (qs.flatMap NodeI.cells) := ⟨ys.set 0 ⟨x0.id, x0.name, x0.drift, false⟩, List.length_set .., (fun z hz => by
   rcases List.mem_or_eq_of_mem_set hz with h | rfl
   · exact hyl.2 z h
   · exact ⟨hx0s.1, hx0s.2⟩), ⟨⟨x0.id, x0.name, x0.drift, false⟩, by rw [List.getElem?_set_self (by omega)], rfl⟩, oQ.to (nH (x := x0) (x' := ⟨x0.id, x0.name, x0.drift, false⟩) (vs := [.bool false]) NodeI.len (f := 3) rfl (by omega) ys 0 hx0)⟩
 refine aB (aR (aF (aA rfl (aC rfl (aA rfl (bO Tryz.underlying24 rfl (aA rfl (fG rfl rfl (fun h3 => ?_) (fun h3 => ?_)))))))))
 refine aB (aQ rfl (aN (aA rfl (aC rfl (aA rfl (iL lO rfl rfl (show _ = ((3 : Nat) : Int) from rfl) (Q7l (by omega) (Own.cap oQ)) ?_))))))
 have oQ := Own.pre oQ (show 3 ≤ ys.length by omega)
 obtain ⟨ns, hnN, hnsm, hnp, oQ⟩ : ∃ ns : List NodeI, ns.length = 3 ∧ (∀ z ∈ ns, aCZ z) ∧ (∃ z ∈ ns, z.passive = false) ∧ Own _ w.heap.size 59 4 AT 3 cT (ns.flatMap NodeI.cells) := ⟨qs.take 3, by rw [List.length_take]; omega, (fun z hz => hqs z (List.mem_of_mem_take hz)), (by obtain ⟨z, h1, h2⟩ := hq0; exact ⟨z, List.mem_of_getElem? (show (qs.take 3)[0]? = some z by rw [List.getElem?_take_of_lt (by omega)]; exact h1), h2⟩), oQ.to (by rw [mK NodeI.len])⟩
 refine aA rfl (aE rfl (aB (aS (aF (aA rfl (aC rfl ?_))))))
 have hnid : ∀ x ∈ ns, 0 ≤ x.id ∧ x.id ≤ 31 := fun x hx => by have := (hnsm x hx).1; omega
 have hav := aC1 hnid
 have hmp : 1 ≤ (lM (iM ns) 32).length := by
   obtain ⟨z, hz, hzp⟩ := hnp
   have := hnid z hz
   exact aBw (aEZ hz hzp) (by omega)
 have hml := xP (iM ns) 32
 refine aA rfl (aT aCw rfl (aP (yV _ _ _ _ ns _ oQ.sl (by omega) hnid hnN) ?_))
 rintro _ w27 ⟨rfl, x26⟩
 replace hs := hs.ext x26
 replace bR := bR.ext x26
 replace b18 := b18.ext x26
 replace oQ := oQ.ext x26
 replace X := dU X x26
 refine aA rfl (aT aHu rfl (aP (yT (iM ns) _ hav) ?_))
 rintro _ w29 ⟨AA, cA, rfl, oA, x28⟩
 replace oA := Own.low oA X.size
 replace hs := hs.ext x28
 replace bR := bR.ext x28
 replace b18 := b18.ext x28
 replace oQ := oQ.ext x28
 replace X := dU X x28
 obtain ⟨act, hact⟩ : ∃ l, l = lM (iM ns) 32 := ⟨_, rfl⟩
 rw [← hact] at oA hmp hml ⊢
 refine aA rfl (aC rfl (aA rfl (cX rfl rfl (aA rfl (cX rfl rfl (aA rfl (aE rfl (aA rfl (aE rfl (aB (aF (aA rfl (aO kX iO rfl rfl rfl rfl rfl ?_)))))))))))))
 intro gM0 w31 egM0 oM bbgM0 x30 zgM0
 replace oM := Own.low oM X.size
 replace hs := hs.ext x30
 replace bR := bR.ext x30
 replace b18 := b18.ext x30
 replace oQ := oQ.ext x30
 replace oA := oA.ext x30
 replace X := dU X x30
 refine aA rfl (aE rfl (aB (aF (aA rfl (aO gF eQ rfl rfl rfl rfl rfl ?_)))))
 intro gS0 w33 egS0 oS bbgS0 x32 zgS0
 replace oS := Own.low oS X.size
 replace hs := hs.ext x32
 replace bR := bR.ext x32
 replace b18 := b18.ext x32
 replace oQ := oQ.ext x32
 replace oA := oA.ext x32
 replace oM := oM.ext x32
 replace X := dU X x32
 refine aA rfl (aE rfl (aB (aF (aA rfl (aC rfl (aA rfl (aT fS rfl (aP (dN _ _ _ _ _ _ _ _ _ b18 hs hB ok hbl (by omega)) ?_))))))))
 rintro _ w35 ⟨rc, a37, sd38, rfl, hr39, ok, b36, x34⟩
 replace hs := hs.grown x34 (by intro g hg; injection hg; omega)
 replace bR := bR.grown x34 (by intro h; injection h; omega)
 replace oQ := oQ.grownBlk x34 (Own.neT oQ b18 (by decide))
 replace oA := oA.grownBlk x34 (Own.neT oA b18 (by decide))
 replace oM := oM.grownBlk x34 (Own.neT oM b18 (by decide))
 replace oS := oS.grownBlk x34 (Own.neT oS b18 (by decide))
 replace X := dI X x34
 clear x34 b18
 refine aA rfl (aY rfl rfl (dM (by omega)) (aA rfl (aE rfl (aB (aR (aF (aA rfl (aE rfl (aB (aX (dG (G := Int × List ModeI × Nat × Option Addr × Nat × List SlotI × Nat × Option Addr × Nat) (fun ⟨i, yM, nM, AM, cM, yS, nS, AS, cS⟩ => [(2, .pointer (some ⟨g2, 0, none⟩)), (3, .slice AT 3 cT), (4, .slice AA act.length cA), (8, .int .i64 (1 + rc)), (0, .pointer (some ⟨gS, 0, none⟩)), (6, .slice AM nM cM), (7, .slice AS nS cS), (9, .int .i64 i)]) (fun ⟨i, yM, nM, AM, cM, yS, nS, AS, cS⟩ wr => (0 ≤ i ∧ i ≤ 1 + rc) ∧ nM = yM.length ∧ (nM : Int) = i ∧ (∀ y ∈ yM, mP y) ∧ Disj yM ∧ nS = yS.length ∧ ((nS : Int) ≤ 66 * i ∧ (0 < i → 0 < nS)) ∧ (∀ y ∈ yS, sP y) ∧ (∃ a sd, (a ≤ bs.length ∧ 0 ≤ sd ∧ sd < 2147483647) ∧ Blk wr gS 148 (lH A c bs a sd)) ∧ Own wr w.heap.size 92 3 AM nM cM (yM.flatMap ModeI.cells) ∧ NOwn wr w.heap.size 2 yM ∧ Own wr w.heap.size 89 8 AS nS cS (yS.flatMap SlotI.cells) ∧ Sl B wr A (bs.flatMap eB) ∧ Blk wr g2 28 [.int .i64 0, .slice none 0 0, .slice none 0 0, .slice none 0 0] ∧ Own wr w.heap.size 59 4 AT 3 cT (ns.flatMap NodeI.cells) ∧ Own wr w.heap.size 2 1 AA act.length cA (act.flatMap eI) ∧ w.grownBy wr (some gS)) (fun ⟨i, yM, nM, AM, cM, yS, nS, AS, cS⟩ => (1 + rc - i).toNat) (0, [], 0, some ⟨gM0, 0, none⟩, 0, [], 0, some ⟨gS0, 0, none⟩, 0) (.cons rfl (.cons rfl (.cons rfl (.cons rfl (.cons rfl (.cons rfl (.cons rfl (.cons rfl (.nil _))))))))) ?_ ?_)))))))))))
 · exact ⟨(by omega), rfl, rfl, (fun y hy => by simp at hy), Disj.nil_, rfl, (by omega), (fun y hy => by simp at hy), ⟨_, _, ok, b36⟩, oM, NOwn.nil_, oS, hs, bR, oQ, oA, X⟩
 clear hs bR oQ oA oM oS b36
 clear X
 rintro ⟨i, yM, nM, AM, cM, yS, nS, AS, cS⟩ wr ⟨hi0, hnM, hnMi, hmx, hd, hnS, hnS2, hdur, qq, oM, oMx, oS, hs, bR, oQ, oA, X⟩
 obtain ⟨a, sd, ok, q⟩ := qq
 refine aR (aF (aA rfl (aC rfl (aA rfl (aC rfl (aA rfl (cU rfl rfl (fun hi => ?_) (fun hi => ?_))))))))
 refine aB (aQ rfl (aV (aS (aR (aX (aF (aA rfl (aC rfl (aA rfl (aT fS rfl (aP (dN _ _ _ _ _ _ _ _ _ q hs hB ok hbl (by omega)) ?_)))))))))))
 rintro _ w41 ⟨r1, a43, sd44, rfl, hr45, ok, b42, x40⟩
 replace oM := oM.grownBlk x40 (Own.neT oM q (by decide))
 replace oMx := oMx.grownB q x40 (by decide)
 replace oS := oS.grownBlk x40 (Own.neT oS q (by decide))
 replace hs := hs.grown x40 (by intro g hg; injection hg; omega)
 replace bR := bR.grown x40 (by intro h; injection h; omega)
 replace oQ := oQ.grownBlk x40 (Own.neT oQ q (by decide))
 replace oA := oA.grownBlk x40 (Own.neT oA q (by decide))
 replace X := dI X x40
 clear x40 q
 refine aA rfl (aY rfl rfl (dM (by omega)) (aA rfl (aC rfl (aA rfl (bO Tryz.underlying30 rfl (aA rfl (aC rfl (aA rfl (aT fS rfl (aP (dN _ _ _ _ _ _ _ _ _ b42 hs hB ok hbl (by omega)) ?_))))))))))
 rintro _ w47 ⟨r2, a49, sd50, rfl, hr51, ok, b48, x46⟩
 replace oM := oM.grownBlk x46 (Own.neT oM b42 (by decide))
 replace oMx := oMx.grownB b42 x46 (by decide)
 replace oS := oS.grownBlk x46 (Own.neT oS b42 (by decide))
 replace hs := hs.grown x46 (by intro g hg; injection hg; omega)
 replace bR := bR.grown x46 (by intro h; injection h; omega)
 replace oQ := oQ.grownBlk x46 (Own.neT oQ b42 (by decide))
 replace oA := oA.grownBlk x46 (Own.neT oA b42 (by decide))
 replace X := dI X x46
 clear x46 b42
 refine aA rfl (aY rfl rfl (dM (by omega)) (aA rfl (dA aF3 iO rfl rfl ?_)))
 have UM := fun g hg => (Own.lt oM (g := g) hg).2
 refine aA rfl (dT iO ?_)
 intro gX w53 egX b0 x52 zgX
 have lgX : w.heap.size ≤ gX := Q7l X.size (Q7e egX.symm)
 have pgXhs := Q7l hs.1 (Q7e egX.symm)
 have ngXbR := Nat.lt_of_lt_of_eq bR.lt egX.symm
 have ngXb48 := Nat.lt_of_lt_of_eq b48.lt egX.symm
 replace oM := oM.ext x52
 replace oMx := oMx.ext x52
 replace oS := oS.ext x52
 replace hs := hs.ext x52
 replace bR := bR.ext x52
 replace oQ := oQ.ext x52
 replace oA := oA.ext x52
 replace b48 := b48.ext x52
 replace X := dU X x52
 have hXM : (Value.slice AM nM cM).ownBlock ≠ some gX := fun h => by have := UM gX h; omega
 refine aA rfl (bK b0 iO rfl rfl rfl rfl rfl rfl ?_)
 intro w55 bX hg54 z56
 replace oM := oM.grownBlk hg54 hXM
 replace oMx := oMx.grownB b0 hg54 (by decide)
 replace oS := oS.grownBlk hg54 (Own.neT oS b0 (by decide))
 replace hs := hs.grown hg54 (by intro g hg; injection hg; omega)
 replace bR := bR.grown hg54 (by intro h; injection h; omega)
 replace oQ := oQ.grownBlk hg54 (Own.neT oQ b0 (by decide))
 replace oA := oA.grownBlk hg54 (Own.neT oA b0 (by decide))
 replace b48 := b48.grown hg54 (by intro h; injection h; omega)
 replace X := dV X hg54 (by intro g hg; injection hg; omega)
 clear hg54 b0
 refine aB (aR (aF (aA rfl (aC rfl (aA rfl (fG rfl rfl (fun hc => ?_) (fun hc => ?_)))))))
 refine aB (aQ rfl (aN (aA rfl (aC rfl (aA rfl (fZ rfl rfl (dM (by omega)) ?_))))))
 have UB := fun y hy g hg => (Own.lt (oMx y hy).1 (g := g) hg).2
 refine aA rfl (aO cQ dB rfl rfl rfl rfl rfl ?_)
 intro gN w58 egN oX bbgN x57 zgN
 replace oX := Own.low oX X.size
 replace oM := oM.ext x57
 replace oMx := oMx.ext x57
 replace oS := oS.ext x57
 replace hs := hs.ext x57
 replace bR := bR.ext x57
 replace oQ := oQ.ext x57
 replace oA := oA.ext x57
 replace b48 := b48.ext x57
 replace bX := bX.ext x57
 replace X := dU X x57
 replace oX := oX.to (cs' := ([1 - i] : List Int).flatMap eI) rfl
 have hspX : ∀ y ∈ yM, y.blk ≠ some gN := fun y hy e => by have := UB y hy gN e; omega
 refine aA rfl (aG lE rfl rfl (aA rfl (bK bX mD rfl rfl rfl rfl rfl rfl ?_)))
 intro w60 bY hg59 z61
 replace oM := oM.grownBlk hg59 hXM
 replace oMx := oMx.grownB bX hg59 (by decide)
 replace oS := oS.grownBlk hg59 (Own.neT oS bX (by decide))
 replace hs := hs.grown hg59 (by intro g hg; injection hg; omega)
 replace bR := bR.grown hg59 (by intro h; injection h; omega)
 replace oQ := oQ.grownBlk hg59 (Own.neT oQ bX (by decide))
 replace oA := oA.grownBlk hg59 (Own.neT oA bX (by decide))
 replace b48 := b48.grown hg59 (by intro h; injection h; omega)
 replace oX := oX.grownBlk hg59 (Own.neT oX bX (by decide))
 replace X := dV X hg59 (by intro g hg; injection hg; omega)
 clear hg59 bX
 refine aB (aS (aF (aA rfl (aC rfl (aA rfl (dE bY iO rfl rfl (aA rfl (aO kX iO rfl rfl rfl rfl rfl ?_))))))))
 intro g62 w65 eg62 oV bbg62 x63 zg62
 replace oV := Own.low oV X.size
 replace oM := oM.ext x63
 replace oMx := oMx.ext x63
 replace oS := oS.ext x63
 replace hs := hs.ext x63
 replace bR := bR.ext x63
 replace oQ := oQ.ext x63
 replace oA := oA.ext x63
 replace b48 := b48.ext x63
 replace oX := oX.ext x63
 replace bY := bY.ext x63
 replace X := dU X x63
 refine aA rfl (cH (ts := #[]) oM X.size oV.sl (by first | rfl | simp) (by first | exact List.all_eq_true.1 rfl | simp [Value.oneCell']) kX iO rfl rfl rfl rfl (by omega) (by omega) ?_)
 intro AoN coN w67 oN hg66
 replace oMx := oMx.grownO oM hg66 (by decide)
 replace oS := oS.grown hg66 (Own.neO oS oM (by decide))
 replace hs := hs.grown hg66 (fun g hg => Q7l Bhs (Own.lt oM hg).1)
 replace bR := bR.grown hg66 (fun h => Own.neT oM bR (by decide) h.symm)
 replace oQ := oQ.grown hg66 (Own.neO oQ oM (by decide))
 replace oA := oA.grown hg66 (Own.neO oA oM (by decide))
 replace b48 := b48.grown hg66 (fun h => Own.neT oM b48 (by decide) h.symm)
 replace oX := oX.grown hg66 (Own.neO oX oM (by decide))
 replace bY := bY.grown hg66 (fun h => hXM h.symm)
 replace X := dV X hg66 (fun g hg => (Own.lt oM hg).1)
 clear hg66
 obtain ⟨zM, hzl, hzx, hzd, oN, oMz⟩ : ∃ zM : List ModeI, zM.length = nM + 1 ∧ (∀ y ∈ zM, mP y) ∧ Disj zM ∧ Own _ w.heap.size 92 3 AoN (nM + 1) coN (zM.flatMap ModeI.cells) ∧ NOwn _ w.heap.size 2 zM := ⟨yM ++ [(⟨⟨1 + r1, (act.length : Nat) + r2, [1 - i]⟩, some ⟨gN, 0, none⟩, 1⟩ : ModeI)], by rw [List.length_append, hnM]; rfl, (fun y hy => by
   rcases List.mem_append.1 hy with h | h
   · exact hmx y h
   · obtain rfl : y = (⟨⟨1 + r1, (act.length : Nat) + r2, [1 - i]⟩, some ⟨gN, 0, none⟩, 1⟩ : ModeI) := by simpa using h
     refine ⟨by simp, ⟨by show 0 ≤ 1 + r1 ∧ 1 + r1 ≤ 255; omega, by show 0 ≤ ((act.length : Nat) : Int) + r2 ∧ ((act.length : Nat) : Int) + r2 ≤ 255; omega, by simp, fun v hv => ?_⟩⟩
     first
     | (simp at hv; omega)
     | simp at hv), hd.snoc (x := (⟨⟨1 + r1, (act.length : Nat) + r2, [1 - i]⟩, some ⟨gN, 0, none⟩, 1⟩ : ModeI)) (fun y hy g hg e => hspX y hy (by have h2 : gN = g := (by injection e); rw [h2]; exact hg)), oN.to (lI ModeI.cells yM (⟨⟨1 + r1, (act.length : Nat) + r2, [1 - i]⟩, some ⟨gN, 0, none⟩, 1⟩ : ModeI)).symm, oMx.snoc (x := (⟨⟨1 + r1, (act.length : Nat) + r2, [1 - i]⟩, some ⟨gN, 0, none⟩, 1⟩ : ModeI)) oX (by simp)⟩
 refine aA rfl (aE rfl (aB (aF ?_)))
 have UA := fun g hg => (Own.lt oA (g := g) hg).2
 have UB2 := fun y hy g hg => (Own.lt (oMz y hy).1 (g := g) hg).2
 refine aA rfl (aO cQ dB rfl rfl rfl rfl rfl ?_)
 intro gL w69 egL oL bbgL x68 zgL
 replace oL := Own.low oL X.size
 replace oS := oS.ext x68
 replace hs := hs.ext x68
 replace bR := bR.ext x68
 replace oQ := oQ.ext x68
 replace oA := oA.ext x68
 replace b48 := b48.ext x68
 replace bY := bY.ext x68
 replace oN := oN.ext x68
 replace oMz := oMz.ext x68
 replace X := dU X x68
 refine aA rfl (aE rfl (aB (aR (aF (aA rfl (aE rfl (aB (aX (dG (G := Int × List Int × Nat × Option Addr × Nat) (fun ⟨l, ds, nD, A2, c2⟩ => [(2, .pointer (some ⟨g2, 0, none⟩)), (3, .slice AT 3 cT), (4, .slice AA act.length cA), (6, .slice AoN (nM + 1) coN), (7, .slice AS nS cS), (8, .int .i64 (1 + rc)), (9, .int .i64 i), (10, .pointer (some ⟨gX, 0, none⟩)), (41, .int .i64 i), (42, .int .i64 (1 + rc)), (46, .pointer (some ⟨gS, 0, none⟩)), (49, .slice AA act.length cA), (50, .int .i64 (act.length : Nat)), (51, .pointer (some ⟨gS, 0, none⟩)), (55, .int .i64 (1 + rc)), (57, .int .i64 i), (61, .slice AM nM cM), (64, .slice AoN (nM + 1) coN), (0, .pointer (some ⟨gS, 0, none⟩)), (11, .slice A2 nD c2), (12, .int .i64 l)]) (fun ⟨l, ds, nD, A2, c2⟩ wr => (0 ≤ l ∧ l ≤ (act.length : Int) + r2) ∧ nD = ds.length ∧ (nD : Int) = l ∧ (∀ z ∈ ds, 0 ≤ z ∧ z ≤ 1000) ∧ (∀ g, (Value.slice A2 nD c2).ownBlock = some g → (Value.slice AA act.length cA).ownBlock ≠ some g) ∧ (∀ y ∈ zM, ∀ g, (Value.slice A2 nD c2).ownBlock = some g → y.blk ≠ some g) ∧ (∃ a sd, (a ≤ bs.length ∧ 0 ≤ sd ∧ sd < 2147483647) ∧ Blk wr gS 148 (lH A c bs a sd)) ∧ Own wr w.heap.size 2 1 A2 nD c2 (ds.flatMap eI) ∧ Own wr w.heap.size 89 8 AS nS cS (yS.flatMap SlotI.cells) ∧ Sl B wr A (bs.flatMap eB) ∧ Blk wr g2 28 [.int .i64 0, .slice none 0 0, .slice none 0 0, .slice none 0 0] ∧ Own wr w.heap.size 59 4 AT 3 cT (ns.flatMap NodeI.cells) ∧ Own wr w.heap.size 2 1 AA act.length cA (act.flatMap eI) ∧ Blk wr gX 92 [.int .i64 (1 + r1), .int .i64 ((act.length : Nat) + r2), .slice (some ⟨gN, 0, none⟩) 1 1] ∧ Own wr w.heap.size 92 3 AoN (nM + 1) coN (zM.flatMap ModeI.cells) ∧ NOwn wr w.heap.size 2 zM ∧ w.grownBy wr (some gS)) (fun ⟨l, ds, nD, A2, c2⟩ => ((act.length : Int) + r2 - l).toNat) (0, [], 0, some ⟨gL, 0, none⟩, 0) (.cons rfl (.cons rfl (.cons rfl (.cons rfl (.cons rfl (.cons rfl (.cons rfl (.cons rfl (.cons rfl (.cons rfl (.cons rfl (.cons rfl (.cons rfl (.cons rfl (.cons rfl (.cons rfl (.cons rfl (.cons rfl (.cons rfl (.cons rfl (.cons rfl (.nil _)))))))))))))))))))))) ?_ ?_)))))))))
 · exact ⟨(by omega), rfl, rfl, (fun y hy => by simp at hy), (fun g hg e => by have h1 := UA g e; have h2 : gL = g := (by injection hg); omega), (fun y hy g hg e => by have h1 := UB2 y hy g e; have h2 : gL = g := (by injection hg); omega), ⟨_, _, ok, b48⟩, oL, oS, hs, bR, oQ, oA, bY, oN, oMz, X⟩
 clear oS hs bR oQ oA b48 bY oN oMz oL
 clear X
 rintro ⟨l, ds, nD, A2, c2⟩ wr ⟨hl0, hnD, hnDl, hds, hspA, hspM, qq, oL, oS, hs, bR, oQ, oA, bY, oN, oMz, X⟩
 obtain ⟨a, sd, ok, q⟩ := qq
 refine aR (aF (aA rfl (aC rfl (aA rfl (aG iP rfl rfl (aA rfl (aJ bY dB rfl rfl (aA rfl (cU rfl rfl (fun hl => ?_) (fun hl => ?_))))))))))
 refine aB (aQ rfl (aV (aS (aR (aX (aN (aA rfl (aC rfl (aA rfl (aC rfl (aA rfl (aT fS rfl (aP (dN _ _ _ _ _ _ _ _ _ q hs hB ok hbl (by omega)) ?_)))))))))))))
 rintro _ w71 ⟨rd, a73, sd74, rfl, hr75, ok, b72, x70⟩
 replace oL := oL.grownBlk x70 (Own.neT oL q (by decide))
 replace oS := oS.grownBlk x70 (Own.neT oS q (by decide))
 replace hs := hs.grown x70 (by intro g hg; injection hg; omega)
 replace bR := bR.grown x70 (by intro h; injection h; omega)
 replace oQ := oQ.grownBlk x70 (Own.neT oQ q (by decide))
 replace oA := oA.grownBlk x70 (Own.neT oA q (by decide))
 replace bY := bY.grown x70 (by intro h; injection h; omega)
 replace oN := oN.grownBlk x70 (Own.neT oN q (by decide))
 replace oMz := oMz.grownB q x70 (by decide)
 replace X := dI X x70
 clear x70 q
 refine aA rfl (aY rfl rfl (dM (by omega)) (aA rfl (aO cQ dB rfl rfl rfl rfl rfl ?_)))
 intro g76 w78 eg76 oV bbg76 x77 zg76
 replace oV := Own.low oV X.size
 replace oL := oL.ext x77
 replace oS := oS.ext x77
 replace hs := hs.ext x77
 replace bR := bR.ext x77
 replace oQ := oQ.ext x77
 replace oA := oA.ext x77
 replace bY := bY.ext x77
 replace oN := oN.ext x77
 replace oMz := oMz.ext x77
 replace b72 := b72.ext x77
 replace X := dU X x77
 replace oV := oV.to (cs' := ([260 + rd] : List Int).flatMap eI) rfl
 have UA := fun g hg => (Own.lt oA (g := g) hg).2
 have UB2 := fun y hy g hg => (Own.lt (oMz y hy).1 (g := g) hg).2
 refine aA rfl (sR (ts := #[]) oL X.size oV.sl (by first | rfl | simp) (by first | exact List.all_eq_true.1 rfl | simp [Value.oneCell']) cQ dB rfl rfl rfl rfl (by omega) (by omega) ?_)
 intro AoW coW w80 oW hg79 hW
 replace oS := oS.grown hg79 (Own.neO oS oL (by decide))
 replace hs := hs.grown hg79 (fun g hg => Q7l Bhs (Own.lt oL hg).1)
 replace bR := bR.grown hg79 (fun h => Own.neT oL bR (by decide) h.symm)
 replace oQ := oQ.grown hg79 (Own.neO oQ oL (by decide))
 replace oA := oA.grown hg79 hspA
 replace bY := bY.grown hg79 (fun h => Own.neT oL bY (by decide) h.symm)
 replace oN := oN.grown hg79 (Own.neO oN oL (by decide))
 replace oMz := oMz.grownX hg79 hspM
 replace b72 := b72.grown hg79 (fun h => Own.neT oL b72 (by decide) h.symm)
 replace X := dV X hg79 (fun g hg => (Own.lt oL hg).1)
 clear hg79
 have hspA2 := qT hspA hW UA
 have hspM2 := fun y hy => qT (hspM y hy) hW (UB2 y hy)
 refine aA rfl (aE rfl (aB (dO (aS (aN (aA rfl (aC rfl (aA rfl (aY rfl rfl (dM (by omega)) (aA rfl (aE rfl (aB (aS ⟨(l + 1, ds ++ [260 + rd], nD + 1, AoW, coW), (.cons rfl (.cons rfl (.cons rfl (.cons rfl (.cons rfl (.cons rfl (.cons rfl (.cons rfl (.cons rfl (.cons rfl (.cons rfl (.cons rfl (.cons rfl (.cons rfl (.cons rfl (.cons rfl (.cons rfl (.cons rfl (.cons rfl (.cons rfl (.cons rfl (.nil _)))))))))))))))))))))), ?_, ?_⟩)))))))))))))
 · skip
   exact ⟨(by omega), (by simp [hnD]), (by omega), (fun z hz => by
     rcases List.mem_append.1 hz with h | h
     · exact hds z h
     · obtain rfl : z = 260 + rd := by simpa using h
       omega), hspA2, hspM2, ⟨_, _, ok, b72⟩, oW.to (lI eI ds _).symm, oS, hs, bR, oQ, oA, bY, oN, oMz, X⟩
 · first | omega | (dsimp only; omega)
 refine aB (aM rfl (dD (dC (dC (eG (aS (aF (aA rfl (aE rfl (aB (aX (dG (G := Int × List SlotI × Nat × Option Addr × Nat) (fun ⟨j, yS, nS, AS, cS⟩ => [(2, .pointer (some ⟨g2, 0, none⟩)), (3, .slice AT 3 cT), (4, .slice AA act.length cA), (6, .slice AoN (nM + 1) coN), (8, .int .i64 (1 + rc)), (9, .int .i64 i), (10, .pointer (some ⟨gX, 0, none⟩)), (11, .slice A2 nD c2), (12, .int .i64 l), (41, .int .i64 i), (42, .int .i64 (1 + rc)), (46, .pointer (some ⟨gS, 0, none⟩)), (49, .slice AA act.length cA), (50, .int .i64 (act.length : Nat)), (51, .pointer (some ⟨gS, 0, none⟩)), (55, .int .i64 (1 + rc)), (57, .int .i64 i), (61, .slice AM nM cM), (64, .slice AoN (nM + 1) coN), (66, .int .i64 l), (0, .pointer (some ⟨gS, 0, none⟩)), (7, .slice AS nS cS), (13, .int .i64 j)]) (fun ⟨j, yS, nS, AS, cS⟩ wr => (0 ≤ j ∧ j ≤ 1 + r1) ∧ ((nS : Int) ≤ 66 * i + 33 * j ∧ (0 < i ∨ 0 < j → 0 < nS)) ∧ nS = yS.length ∧ (∀ y ∈ yS, sP y) ∧ (∃ a sd, (a ≤ bs.length ∧ 0 ≤ sd ∧ sd < 2147483647) ∧ Blk wr gS 148 (lH A c bs a sd)) ∧ Own wr w.heap.size 89 8 AS nS cS (yS.flatMap SlotI.cells) ∧ Own wr w.heap.size 2 1 A2 nD c2 (ds.flatMap eI) ∧ Sl B wr A (bs.flatMap eB) ∧ Blk wr g2 28 [.int .i64 0, .slice none 0 0, .slice none 0 0, .slice none 0 0] ∧ Own wr w.heap.size 59 4 AT 3 cT (ns.flatMap NodeI.cells) ∧ Own wr w.heap.size 2 1 AA act.length cA (act.flatMap eI) ∧ Blk wr gX 92 [.int .i64 (1 + r1), .int .i64 ((act.length : Nat) + r2), .slice (some ⟨gN, 0, none⟩) 1 1] ∧ Own wr w.heap.size 92 3 AoN (nM + 1) coN (zM.flatMap ModeI.cells) ∧ NOwn wr w.heap.size 2 zM ∧ w.grownBy wr (some gS)) (fun ⟨j, yS, nS, AS, cS⟩ => (1 + r1 - j).toNat) (0, yS, nS, AS, cS) (.cons rfl (.cons rfl (.cons rfl (.cons rfl (.cons rfl (.cons rfl (.cons rfl (.cons rfl (.cons rfl (.cons rfl (.cons rfl (.cons rfl (.cons rfl (.cons rfl (.cons rfl (.cons rfl (.cons rfl (.cons rfl (.cons rfl (.cons rfl (.cons rfl (.cons rfl (.cons rfl (.nil _)))))))))))))))))))))))) ?_ ?_))))))))))))
 · exact ⟨(by omega), (by omega), hnS, hdur, ⟨_, _, ok, q⟩, oS, oL, hs, bR, oQ, oA, bY, oN, oMz, X⟩
 clear oL oS hs bR oQ oA bY oN oMz q
 clear X
 rintro ⟨j, yS, nS, AS, cS⟩ wr ⟨hj0, hnS3, hnS, hdur, qq, oS, oL, hs, bR, oQ, oA, bY, oN, oMz, X⟩
 obtain ⟨a, sd, ok, q⟩ := qq
 refine aR (aF (aA rfl (aC rfl (aA rfl (aG kQ rfl rfl (aA rfl (aJ bY dB rfl rfl (aA rfl (cU rfl rfl (fun hj => ?_) (fun hj => ?_))))))))))
 refine aB (aQ rfl (aV (aS (aR (aX (aF (aA rfl (aE rfl (aB (aX (dG (G := Int × List SlotI × Nat × Option Addr × Nat) (fun ⟨u, yS, nS, AS, cS⟩ => [(2, .pointer (some ⟨g2, 0, none⟩)), (3, .slice AT 3 cT), (4, .slice AA act.length cA), (6, .slice AoN (nM + 1) coN), (8, .int .i64 (1 + rc)), (9, .int .i64 i), (10, .pointer (some ⟨gX, 0, none⟩)), (11, .slice A2 nD c2), (12, .int .i64 l), (13, .int .i64 j), (41, .int .i64 i), (42, .int .i64 (1 + rc)), (46, .pointer (some ⟨gS, 0, none⟩)), (49, .slice AA act.length cA), (50, .int .i64 (act.length : Nat)), (51, .pointer (some ⟨gS, 0, none⟩)), (55, .int .i64 (1 + rc)), (57, .int .i64 i), (61, .slice AM nM cM), (64, .slice AoN (nM + 1) coN), (66, .int .i64 l), (78, .int .i64 j), (0, .pointer (some ⟨gS, 0, none⟩)), (7, .slice AS nS cS), (14, .int .i64 u)]) (fun ⟨u, yS, nS, AS, cS⟩ wr => (0 ≤ u ∧ u ≤ (act.length : Int) + r2) ∧ ((nS : Int) ≤ 66 * i + 33 * j + u ∧ (0 < i ∨ 0 < j ∨ 0 < u → 0 < nS)) ∧ nS = yS.length ∧ (∀ y ∈ yS, sP y) ∧ (∃ a sd, (a ≤ bs.length ∧ 0 ≤ sd ∧ sd < 2147483647) ∧ Blk wr gS 148 (lH A c bs a sd)) ∧ Own wr w.heap.size 89 8 AS nS cS (yS.flatMap SlotI.cells) ∧ Own wr w.heap.size 2 1 A2 nD c2 (ds.flatMap eI) ∧ Sl B wr A (bs.flatMap eB) ∧ Blk wr g2 28 [.int .i64 0, .slice none 0 0, .slice none 0 0, .slice none 0 0] ∧ Own wr w.heap.size 59 4 AT 3 cT (ns.flatMap NodeI.cells) ∧ Own wr w.heap.size 2 1 AA act.length cA (act.flatMap eI) ∧ Blk wr gX 92 [.int .i64 (1 + r1), .int .i64 ((act.length : Nat) + r2), .slice (some ⟨gN, 0, none⟩) 1 1] ∧ Own wr w.heap.size 92 3 AoN (nM + 1) coN (zM.flatMap ModeI.cells) ∧ NOwn wr w.heap.size 2 zM ∧ w.grownBy wr (some gS)) (fun ⟨u, yS, nS, AS, cS⟩ => ((act.length : Int) + r2 - u).toNat) (0, yS, nS, AS, cS) (.cons rfl (.cons rfl (.cons rfl (.cons rfl (.cons rfl (.cons rfl (.cons rfl (.cons rfl (.cons rfl (.cons rfl (.cons rfl (.cons rfl (.cons rfl (.cons rfl (.cons rfl (.cons rfl (.cons rfl (.cons rfl (.cons rfl (.cons rfl (.cons rfl (.cons rfl (.cons rfl (.cons rfl (.cons rfl (.nil _)))))))))))))))))))))))))) ?_ ?_)))))))))))
 · exact ⟨(by omega), (by omega), hnS, hdur, ⟨_, _, ok, q⟩, oS, oL, hs, bR, oQ, oA, bY, oN, oMz, X⟩
 clear oS oL hs bR oQ oA bY oN oMz q
 clear X
 rintro ⟨u, yS, nS, AS, cS⟩ wr ⟨hu0, hnS4, hnS, hdur, qq, oS, oL, hs, bR, oQ, oA, bY, oN, oMz, X⟩
 obtain ⟨a, sd, ok, q⟩ := qq
 refine aR (aF (aA rfl (aC rfl (aA rfl (aG iP rfl rfl (aA rfl (aJ bY dB rfl rfl (aA rfl (cU rfl rfl (fun hu => ?_) (fun hu => ?_))))))))))
 refine aB (aQ rfl (aV (aS (aR (aX (aF (aA rfl (aC rfl (aA rfl (aT aCx rfl (aP (uJ _ _ _ _ _ _ _ _ q hs hB ok hbl) ?_)))))))))))
 rintro _ w82 ⟨d, a84, sd85, rfl, hpd, ok, b83, x81⟩
 replace oS := oS.grownBlk x81 (Own.neT oS q (by decide))
 replace oL := oL.grownBlk x81 (Own.neT oL q (by decide))
 replace hs := hs.grown x81 (by intro g hg; injection hg; omega)
 replace bR := bR.grown x81 (by intro h; injection h; omega)
 replace oQ := oQ.grownBlk x81 (Own.neT oQ q (by decide))
 replace oA := oA.grownBlk x81 (Own.neT oA q (by decide))
 replace bY := bY.grown x81 (by intro h; injection h; omega)
 replace oN := oN.grownBlk x81 (Own.neT oN q (by decide))
 replace oMz := oMz.grownB q x81 (by decide)
 replace X := dI X x81
 clear x81 q
 refine aA rfl (dT fU ?_)
 intro gD w87 egD b9 x86 zgD
 have lgD : w.heap.size ≤ gD := Q7l X.size (Q7e egD.symm)
 have pgDhs := Q7l hs.1 (Q7e egD.symm)
 have ngDbR := Nat.lt_of_lt_of_eq bR.lt egD.symm
 have ngDbY := Nat.lt_of_lt_of_eq bY.lt egD.symm
 have ngDb83 := Nat.lt_of_lt_of_eq b83.lt egD.symm
 replace oS := oS.ext x86
 replace oL := oL.ext x86
 replace hs := hs.ext x86
 replace bR := bR.ext x86
 replace oQ := oQ.ext x86
 replace oA := oA.ext x86
 replace bY := bY.ext x86
 replace oN := oN.ext x86
 replace oMz := oMz.ext x86
 replace b83 := b83.ext x86
 replace X := dU X x86
 refine aA rfl (bK b9 fU rfl rfl rfl rfl rfl rfl ?_)
 intro w89 bD hg88 z90
 replace oS := oS.grownBlk hg88 (Own.neT oS b9 (by decide))
 replace oL := oL.grownBlk hg88 (Own.neT oL b9 (by decide))
 replace hs := hs.grown hg88 (by intro g hg; injection hg; omega)
 replace bR := bR.grown hg88 (by intro h; injection h; omega)
 replace oQ := oQ.grownBlk hg88 (Own.neT oQ b9 (by decide))
 replace oA := oA.grownBlk hg88 (Own.neT oA b9 (by decide))
 replace bY := bY.grown hg88 (by intro h; injection h; omega)
 replace oN := oN.grownBlk hg88 (Own.neT oN b9 (by decide))
 replace oMz := oMz.grownB b9 hg88 (by decide)
 replace b83 := b83.grown hg88 (by intro h; injection h; omega)
 replace X := dV X hg88 (by intro g hg; injection hg; omega)
 clear hg88 b9
 refine aB (aF (aA rfl (aC rfl (aA rfl (aC rfl (aA rfl (aC rfl (aA rfl (bO Tryz.underlying30 rfl ?_)))))))))
 have hmz := Int.emod_nonneg u (show (act.length : Int) ≠ 0 by omega)
 have hmz2 := Int.emod_lt_of_pos u (show (0 : Int) < act.length by omega)
 obtain ⟨z, hz⟩ : ∃ z, act[(u % (act.length : Int)).toNat]? = some z := ⟨_, List.getElem?_eq_getElem (by omega)⟩
 refine aA rfl (fK rfl rfl (by omega) (qZ (by omega)) (aA rfl (aU (oA).sl bI rfl cQ rfl rfl rfl hz (Int.toNat_of_nonneg hmz).symm (aA rfl (bS (oA).sl bI hz dB rfl rfl rfl (aA rfl (aG kA rfl rfl (aA rfl (bK bD dB rfl rfl rfl rfl rfl rfl ?_)))))))))
 intro w92 bE hg91 z93
 replace oS := oS.grownBlk hg91 (Own.neT oS bD (by decide))
 replace oL := oL.grownBlk hg91 (Own.neT oL bD (by decide))
 replace hs := hs.grown hg91 (by intro g hg; injection hg; omega)
 replace bR := bR.grown hg91 (by intro h; injection h; omega)
 replace oQ := oQ.grownBlk hg91 (Own.neT oQ bD (by decide))
 replace oA := oA.grownBlk hg91 (Own.neT oA bD (by decide))
 replace bY := bY.grown hg91 (by intro h; injection h; omega)
 replace oN := oN.grownBlk hg91 (Own.neT oN bD (by decide))
 replace oMz := oMz.grownB bD hg91 (by decide)
 replace b83 := b83.grown hg91 (by intro h; injection h; omega)
 replace X := dV X hg91 (by intro g hg; injection hg; omega)
 clear hg91 bD
 refine aB (aR (aF (aA rfl (aG fM rfl rfl (aA rfl (aJ bE dB rfl rfl (aA rfl (dP rfl rfl (fun hk3 => ?_) (fun hk3 => ?_)))))))))
 refine aA rfl (aC rfl (aI rfl rfl rfl (aC rfl (aI rfl rfl rfl (fG rfl rfl (fun hi9 => ?_) (fun hi9 => ?_))))))
 refine aA rfl (aK rfl rfl (aB (aQ rfl (aN (aA rfl (aG fM rfl rfl (aA rfl (bK bE dB rfl rfl rfl rfl rfl rfl ?_))))))))
 intro w95 bF hg94 z96
 replace oS := oS.grownBlk hg94 (Own.neT oS bE (by decide))
 replace oL := oL.grownBlk hg94 (Own.neT oL bE (by decide))
 replace hs := hs.grown hg94 (by intro g hg; injection hg; omega)
 replace bR := bR.grown hg94 (by intro h; injection h; omega)
 replace oQ := oQ.grownBlk hg94 (Own.neT oQ bE (by decide))
 replace oA := oA.grownBlk hg94 (Own.neT oA bE (by decide))
 replace bY := bY.grown hg94 (by intro h; injection h; omega)
 replace oN := oN.grownBlk hg94 (Own.neT oN bE (by decide))
 replace oMz := oMz.grownB bE hg94 (by decide)
 replace b83 := b83.grown hg94 (by intro h; injection h; omega)
 replace X := dV X hg94 (by intro g hg; injection hg; omega)
 clear hg94 bE
 refine aB (aS (aF (aA rfl (aC rfl (aA rfl (aC rfl ?_))))))
 obtain ⟨y, hy⟩ : ∃ y, ds[u.toNat]? = some y := ⟨_, List.getElem?_eq_getElem (by omega)⟩
 have hyb := hds y (List.mem_of_getElem? hy)
 refine aA rfl (aU (oL).sl bI rfl cQ rfl hnD rfl hy (by omega) (aA rfl (bS (oL).sl bI hy dB rfl rfl rfl (aA rfl (aG fC rfl rfl (aA rfl (bK bF dB rfl rfl rfl rfl rfl rfl ?_)))))))
 intro w98 bG hg97 z99
 replace oS := oS.grownBlk hg97 (Own.neT oS bF (by decide))
 replace oL := oL.grownBlk hg97 (Own.neT oL bF (by decide))
 replace hs := hs.grown hg97 (by intro g hg; injection hg; omega)
 replace bR := bR.grown hg97 (by intro h; injection h; omega)
 replace oQ := oQ.grownBlk hg97 (Own.neT oQ bF (by decide))
 replace oA := oA.grownBlk hg97 (Own.neT oA bF (by decide))
 replace bY := bY.grown hg97 (by intro h; injection h; omega)
 replace oN := oN.grownBlk hg97 (Own.neT oN bF (by decide))
 replace oMz := oMz.grownB bF hg97 (by decide)
 replace b83 := b83.grown hg97 (by intro h; injection h; omega)
 replace X := dV X hg97 (by intro g hg; injection hg; omega)
 clear hg97 bF
 obtain ⟨dd, hdd, bG⟩ : ∃ dd : Desc, ((0 ≤ dd.duration ∧ dd.duration ≤ 1000) ∧ wQ dd) ∧ Blk _ gD 67 dd.cells := ⟨⟨z, 1, d.size, y, d.change⟩, ⟨hyb, ⟨kD (hact ▸ List.mem_of_getElem? hz), (by first | exact hpd.2.1 | exact ⟨show (0 : Int) ≤ 1 by decide, show (1 : Int) ≤ 3 by decide⟩), ⟨hpd.1.1, Int.le_trans hpd.1.2 (by decide)⟩, hyb⟩⟩, bG⟩
 refine aB (aN (aA rfl (aC rfl (aA rfl (aC rfl (aA rfl (aC rfl (aA rfl (aC rfl (aA rfl (dE bG fU rfl rfl (aA rfl (dA qY eQ rfl rfl (aA rfl (aO gF eQ rfl rfl rfl rfl rfl ?_)))))))))))))))
 intro g100 w102 eg100 oV bbg100 x101 zg100
 replace oV := Own.low oV X.size
 replace oS := oS.ext x101
 replace oL := oL.ext x101
 replace hs := hs.ext x101
 replace bR := bR.ext x101
 replace oQ := oQ.ext x101
 replace oA := oA.ext x101
 replace bY := bY.ext x101
 replace oN := oN.ext x101
 replace oMz := oMz.ext x101
 replace b83 := b83.ext x101
 replace bG := bG.ext x101
 replace X := dU X x101
 refine aA rfl (cH (ts := #[]) oS X.size oV.sl (by first | rfl | simp) (by first | exact List.all_eq_true.1 rfl | simp [Value.oneCell']) gF eQ rfl rfl rfl rfl (by omega) (by omega) ?_)
 intro AoW coW w104 oW hg103
 replace oL := oL.grown hg103 (Own.neO oL oS (by decide))
 replace hs := hs.grown hg103 (fun g hg => Q7l Bhs (Own.lt oS hg).1)
 replace bR := bR.grown hg103 (fun h => Own.neT oS bR (by decide) h.symm)
 replace oQ := oQ.grown hg103 (Own.neO oQ oS (by decide))
 replace oA := oA.grown hg103 (Own.neO oA oS (by decide))
 replace bY := bY.grown hg103 (fun h => Own.neT oS bY (by decide) h.symm)
 replace oN := oN.grown hg103 (Own.neO oN oS (by decide))
 replace oMz := oMz.grownO oS hg103 (by decide)
 replace b83 := b83.grown hg103 (fun h => Own.neT oS b83 (by decide) h.symm)
 replace bG := bG.grown hg103 (fun h => Own.neT oS bG (by decide) h.symm)
 replace X := dV X hg103 (fun g hg => (Own.lt oS hg).1)
 clear hg103
 refine aA rfl (aE rfl (aB (dO (aS (aN (aA rfl (aC rfl (aA rfl (aY rfl rfl (dM (by omega)) (aA rfl (aE rfl (aB (aS ⟨(u + 1, yS ++ [⟨i, j, u, dd⟩], nS + 1, AoW, coW), (.cons rfl (.cons rfl (.cons rfl (.cons rfl (.cons rfl (.cons rfl (.cons rfl (.cons rfl (.cons rfl (.cons rfl (.cons rfl (.cons rfl (.cons rfl (.cons rfl (.cons rfl (.cons rfl (.cons rfl (.cons rfl (.cons rfl (.cons rfl (.cons rfl (.cons rfl (.cons rfl (.cons rfl (.cons rfl (.nil _)))))))))))))))))))))))))), ?_, ?_⟩)))))))))))))
 · skip
   exact ⟨(by omega), (by omega), (by simp [hnS]), (fun y hy => by
     rcases List.mem_append.1 hy with h | h
     · exact hdur y h
     · obtain rfl : y = ⟨i, j, u, dd⟩ := by simpa using h
       exact ⟨hdd.1, ⟨by show 0 ≤ i ∧ i ≤ 15; omega, by show 0 ≤ j ∧ j ≤ 7; omega, by show 0 ≤ u ∧ u ≤ 63; omega, hdd.2⟩⟩), ⟨_, _, ok, b83⟩, oW.to (lI SlotI.cells yS ⟨i, j, u, dd⟩).symm, oL, hs, bR, oQ, oA, bY, oN, oMz, X⟩
 · first | omega | (dsimp only; omega)
 refine aA rfl (aK rfl rfl (aB (aM rfl (aV (aS (aF (aA rfl (aC rfl (aA rfl (aC rfl ?_))))))))))
 obtain ⟨y, hy⟩ : ∃ y, ds[u.toNat]? = some y := ⟨_, List.getElem?_eq_getElem (by omega)⟩
 have hyb := hds y (List.mem_of_getElem? hy)
 refine aA rfl (aU (oL).sl bI rfl cQ rfl hnD rfl hy (by omega) (aA rfl (bS (oL).sl bI hy dB rfl rfl rfl (aA rfl (aG fC rfl rfl (aA rfl (bK bE dB rfl rfl rfl rfl rfl rfl ?_)))))))
 intro w106 bG hg105 z107
 replace oS := oS.grownBlk hg105 (Own.neT oS bE (by decide))
 replace oL := oL.grownBlk hg105 (Own.neT oL bE (by decide))
 replace hs := hs.grown hg105 (by intro g hg; injection hg; omega)
 replace bR := bR.grown hg105 (by intro h; injection h; omega)
 replace oQ := oQ.grownBlk hg105 (Own.neT oQ bE (by decide))
 replace oA := oA.grownBlk hg105 (Own.neT oA bE (by decide))
 replace bY := bY.grown hg105 (by intro h; injection h; omega)
 replace oN := oN.grownBlk hg105 (Own.neT oN bE (by decide))
 replace oMz := oMz.grownB bE hg105 (by decide)
 replace b83 := b83.grown hg105 (by intro h; injection h; omega)
 replace X := dV X hg105 (by intro g hg; injection hg; omega)
 clear hg105 bE
 obtain ⟨dd, hdd, bG⟩ : ∃ dd : Desc, ((0 ≤ dd.duration ∧ dd.duration ≤ 1000) ∧ wQ dd) ∧ Blk _ gD 67 dd.cells := ⟨⟨z, d.kind, d.size, y, d.change⟩, ⟨hyb, ⟨kD (hact ▸ List.mem_of_getElem? hz), (by first | exact hpd.2.1 | exact ⟨show (0 : Int) ≤ 1 by decide, show (1 : Int) ≤ 3 by decide⟩), ⟨hpd.1.1, Int.le_trans hpd.1.2 (by decide)⟩, hyb⟩⟩, bG⟩
 refine aB (aN (aA rfl (aC rfl (aA rfl (aC rfl (aA rfl (aC rfl (aA rfl (aC rfl (aA rfl (dE bG fU rfl rfl (aA rfl (dA qY eQ rfl rfl (aA rfl (aO gF eQ rfl rfl rfl rfl rfl ?_)))))))))))))))
 intro g108 w110 eg108 oV bbg108 x109 zg108
 replace oV := Own.low oV X.size
 replace oS := oS.ext x109
 replace oL := oL.ext x109
 replace hs := hs.ext x109
 replace bR := bR.ext x109
 replace oQ := oQ.ext x109
 replace oA := oA.ext x109
 replace bY := bY.ext x109
 replace oN := oN.ext x109
 replace oMz := oMz.ext x109
 replace b83 := b83.ext x109
 replace bG := bG.ext x109
 replace X := dU X x109
 refine aA rfl (cH (ts := #[]) oS X.size oV.sl (by first | rfl | simp) (by first | exact List.all_eq_true.1 rfl | simp [Value.oneCell']) gF eQ rfl rfl rfl rfl (by omega) (by omega) ?_)
 intro AoW coW w112 oW hg111
 replace oL := oL.grown hg111 (Own.neO oL oS (by decide))
 replace hs := hs.grown hg111 (fun g hg => Q7l Bhs (Own.lt oS hg).1)
 replace bR := bR.grown hg111 (fun h => Own.neT oS bR (by decide) h.symm)
 replace oQ := oQ.grown hg111 (Own.neO oQ oS (by decide))
 replace oA := oA.grown hg111 (Own.neO oA oS (by decide))
 replace bY := bY.grown hg111 (fun h => Own.neT oS bY (by decide) h.symm)
 replace oN := oN.grown hg111 (Own.neO oN oS (by decide))
 replace oMz := oMz.grownO oS hg111 (by decide)
 replace b83 := b83.grown hg111 (fun h => Own.neT oS b83 (by decide) h.symm)
 replace bG := bG.grown hg111 (fun h => Own.neT oS bG (by decide) h.symm)
 replace X := dV X hg111 (fun g hg => (Own.lt oS hg).1)
 clear hg111
 refine aA rfl (aE rfl (aB (dO (aS (aN (aA rfl (aC rfl (aA rfl (aY rfl rfl (dM (by omega)) (aA rfl (aE rfl (aB (aS ⟨(u + 1, yS ++ [⟨i, j, u, dd⟩], nS + 1, AoW, coW), (.cons rfl (.cons rfl (.cons rfl (.cons rfl (.cons rfl (.cons rfl (.cons rfl (.cons rfl (.cons rfl (.cons rfl (.cons rfl (.cons rfl (.cons rfl (.cons rfl (.cons rfl (.cons rfl (.cons rfl (.cons rfl (.cons rfl (.cons rfl (.cons rfl (.cons rfl (.cons rfl (.cons rfl (.cons rfl (.nil _)))))))))))))))))))))))))), ?_, ?_⟩)))))))))))))
 · skip
   exact ⟨(by omega), (by omega), (by simp [hnS]), (fun y hy => by
     rcases List.mem_append.1 hy with h | h
     · exact hdur y h
     · obtain rfl : y = ⟨i, j, u, dd⟩ := by simpa using h
       exact ⟨hdd.1, ⟨by show 0 ≤ i ∧ i ≤ 15; omega, by show 0 ≤ j ∧ j ≤ 7; omega, by show 0 ≤ u ∧ u ≤ 63; omega, hdd.2⟩⟩), ⟨_, _, ok, b83⟩, oW.to (lI SlotI.cells yS ⟨i, j, u, dd⟩).symm, oL, hs, bR, oQ, oA, bY, oN, oMz, X⟩
 · first | omega | (dsimp only; omega)
 refine aA rfl (aC rfl (aH rfl rfl rfl rfl (aH rfl rfl rfl rfl (aA rfl (aK rfl rfl (aB (aM rfl (aV (aS (aF (aA rfl (aC rfl (aA rfl (aC rfl ?_))))))))))))))
 obtain ⟨y, hy⟩ : ∃ y, ds[u.toNat]? = some y := ⟨_, List.getElem?_eq_getElem (by omega)⟩
 have hyb := hds y (List.mem_of_getElem? hy)
 refine aA rfl (aU (oL).sl bI rfl cQ rfl hnD rfl hy (by omega) (aA rfl (bS (oL).sl bI hy dB rfl rfl rfl (aA rfl (aG fC rfl rfl (aA rfl (bK bE dB rfl rfl rfl rfl rfl rfl ?_)))))))
 intro w114 bG hg113 z115
 replace oS := oS.grownBlk hg113 (Own.neT oS bE (by decide))
 replace oL := oL.grownBlk hg113 (Own.neT oL bE (by decide))
 replace hs := hs.grown hg113 (by intro g hg; injection hg; omega)
 replace bR := bR.grown hg113 (by intro h; injection h; omega)
 replace oQ := oQ.grownBlk hg113 (Own.neT oQ bE (by decide))
 replace oA := oA.grownBlk hg113 (Own.neT oA bE (by decide))
 replace bY := bY.grown hg113 (by intro h; injection h; omega)
 replace oN := oN.grownBlk hg113 (Own.neT oN bE (by decide))
 replace oMz := oMz.grownB bE hg113 (by decide)
 replace b83 := b83.grown hg113 (by intro h; injection h; omega)
 replace X := dV X hg113 (by intro g hg; injection hg; omega)
 clear hg113 bE
 obtain ⟨dd, hdd, bG⟩ : ∃ dd : Desc, ((0 ≤ dd.duration ∧ dd.duration ≤ 1000) ∧ wQ dd) ∧ Blk _ gD 67 dd.cells := ⟨⟨z, d.kind, d.size, y, d.change⟩, ⟨hyb, ⟨kD (hact ▸ List.mem_of_getElem? hz), (by first | exact hpd.2.1 | exact ⟨show (0 : Int) ≤ 1 by decide, show (1 : Int) ≤ 3 by decide⟩), ⟨hpd.1.1, Int.le_trans hpd.1.2 (by decide)⟩, hyb⟩⟩, bG⟩
 refine aB (aN (aA rfl (aC rfl (aA rfl (aC rfl (aA rfl (aC rfl (aA rfl (aC rfl (aA rfl (dE bG fU rfl rfl (aA rfl (dA qY eQ rfl rfl (aA rfl (aO gF eQ rfl rfl rfl rfl rfl ?_)))))))))))))))
 intro g116 w118 eg116 oV bbg116 x117 zg116
 replace oV := Own.low oV X.size
 replace oS := oS.ext x117
 replace oL := oL.ext x117
 replace hs := hs.ext x117
 replace bR := bR.ext x117
 replace oQ := oQ.ext x117
 replace oA := oA.ext x117
 replace bY := bY.ext x117
 replace oN := oN.ext x117
 replace oMz := oMz.ext x117
 replace b83 := b83.ext x117
 replace bG := bG.ext x117
 replace X := dU X x117
 refine aA rfl (cH (ts := #[]) oS X.size oV.sl (by first | rfl | simp) (by first | exact List.all_eq_true.1 rfl | simp [Value.oneCell']) gF eQ rfl rfl rfl rfl (by omega) (by omega) ?_)
 intro AoW coW w120 oW hg119
 replace oL := oL.grown hg119 (Own.neO oL oS (by decide))
 replace hs := hs.grown hg119 (fun g hg => Q7l Bhs (Own.lt oS hg).1)
 replace bR := bR.grown hg119 (fun h => Own.neT oS bR (by decide) h.symm)
 replace oQ := oQ.grown hg119 (Own.neO oQ oS (by decide))
 replace oA := oA.grown hg119 (Own.neO oA oS (by decide))
 replace bY := bY.grown hg119 (fun h => Own.neT oS bY (by decide) h.symm)
 replace oN := oN.grown hg119 (Own.neO oN oS (by decide))
 replace oMz := oMz.grownO oS hg119 (by decide)
 replace b83 := b83.grown hg119 (fun h => Own.neT oS b83 (by decide) h.symm)
 replace bG := bG.grown hg119 (fun h => Own.neT oS bG (by decide) h.symm)
 replace X := dV X hg119 (fun g hg => (Own.lt oS hg).1)
 clear hg119
 refine aA rfl (aE rfl (aB (dO (aS (aN (aA rfl (aC rfl (aA rfl (aY rfl rfl (dM (by omega)) (aA rfl (aE rfl (aB (aS ⟨(u + 1, yS ++ [⟨i, j, u, dd⟩], nS + 1, AoW, coW), (.cons rfl (.cons rfl (.cons rfl (.cons rfl (.cons rfl (.cons rfl (.cons rfl (.cons rfl (.cons rfl (.cons rfl (.cons rfl (.cons rfl (.cons rfl (.cons rfl (.cons rfl (.cons rfl (.cons rfl (.cons rfl (.cons rfl (.cons rfl (.cons rfl (.cons rfl (.cons rfl (.cons rfl (.cons rfl (.nil _)))))))))))))))))))))))))), ?_, ?_⟩)))))))))))))
 · skip
   exact ⟨(by omega), (by omega), (by simp [hnS]), (fun y hy => by
     rcases List.mem_append.1 hy with h | h
     · exact hdur y h
     · obtain rfl : y = ⟨i, j, u, dd⟩ := by simpa using h
       exact ⟨hdd.1, ⟨by show 0 ≤ i ∧ i ≤ 15; omega, by show 0 ≤ j ∧ j ≤ 7; omega, by show 0 ≤ u ∧ u ≤ 63; omega, hdd.2⟩⟩), ⟨_, _, ok, b83⟩, oW.to (lI SlotI.cells yS ⟨i, j, u, dd⟩).symm, oL, hs, bR, oQ, oA, bY, oN, oMz, X⟩
 · first | omega | (dsimp only; omega)
 refine aB (aM rfl (dD (dC (dC (eG (dO (aS (aN (aA rfl (aC rfl (aA rfl (aY rfl rfl (dM (by omega)) (aA rfl (aE rfl (aB (aS ⟨(j + 1, yS, nS, AS, cS), (.cons rfl (.cons rfl (.cons rfl (.cons rfl (.cons rfl (.cons rfl (.cons rfl (.cons rfl (.cons rfl (.cons rfl (.cons rfl (.cons rfl (.cons rfl (.cons rfl (.cons rfl (.cons rfl (.cons rfl (.cons rfl (.cons rfl (.cons rfl (.cons rfl (.cons rfl (.cons rfl (.nil _)))))))))))))))))))))))), ?_, ?_⟩))))))))))))))))
 · exact ⟨(by omega), (by omega), hnS, hdur, ⟨_, _, ok, q⟩, oS, oL, hs, bR, oQ, oA, bY, oN, oMz, X⟩
 · first | omega | (dsimp only; omega)
 refine aB (aM rfl (dD (dC (dC (eG (dO (aS (aN (aA rfl (aC rfl (aA rfl (aY rfl rfl (dM (by omega)) (aA rfl (aE rfl (aB (aS ⟨(i + 1, zM, nM + 1, AoN, coN, yS, nS, AS, cS), (.cons rfl (.cons rfl (.cons rfl (.cons rfl (.cons rfl (.cons rfl (.cons rfl (.cons rfl (.nil _))))))))), ?_, ?_⟩))))))))))))))))
 · exact ⟨(by omega), hzl.symm, (by omega), hzx, hzd, hnS, (by omega), hdur, ⟨_, _, ok, q⟩, oN, oMz, oS, hs, bR, oQ, oA, X⟩
 · first | omega | (dsimp only; omega)
 refine aB (aM rfl (aV (aS (aF (aA rfl (aC rfl (aA rfl (dE bX iO rfl rfl (aA rfl (aO kX iO rfl rfl rfl rfl rfl ?_))))))))))
 intro g121 w123 eg121 oV bbg121 x122 zg121
 replace oV := Own.low oV X.size
 replace oM := oM.ext x122
 replace oMx := oMx.ext x122
 replace oS := oS.ext x122
 replace hs := hs.ext x122
 replace bR := bR.ext x122
 replace oQ := oQ.ext x122
 replace oA := oA.ext x122
 replace b48 := b48.ext x122
 replace bX := bX.ext x122
 replace X := dU X x122
 refine aA rfl (cH (ts := #[]) oM X.size oV.sl (by first | rfl | simp) (by first | exact List.all_eq_true.1 rfl | simp [Value.oneCell']) kX iO rfl rfl rfl rfl (by omega) (by omega) ?_)
 intro AoN coN w125 oN hg124
 replace oMx := oMx.grownO oM hg124 (by decide)
 replace oS := oS.grown hg124 (Own.neO oS oM (by decide))
 replace hs := hs.grown hg124 (fun g hg => Q7l Bhs (Own.lt oM hg).1)
 replace bR := bR.grown hg124 (fun h => Own.neT oM bR (by decide) h.symm)
 replace oQ := oQ.grown hg124 (Own.neO oQ oM (by decide))
 replace oA := oA.grown hg124 (Own.neO oA oM (by decide))
 replace b48 := b48.grown hg124 (fun h => Own.neT oM b48 (by decide) h.symm)
 replace bX := bX.grown hg124 (fun h => hXM h.symm)
 replace X := dV X hg124 (fun g hg => (Own.lt oM hg).1)
 clear hg124
 obtain ⟨zM, hzl, hzx, hzd, oN, oMz⟩ : ∃ zM : List ModeI, zM.length = nM + 1 ∧ (∀ y ∈ zM, mP y) ∧ Disj zM ∧ Own _ w.heap.size 92 3 AoN (nM + 1) coN (zM.flatMap ModeI.cells) ∧ NOwn _ w.heap.size 2 zM := ⟨yM ++ [(⟨⟨1 + r1, (act.length : Nat) + r2, []⟩, none, 0⟩ : ModeI)], by rw [List.length_append, hnM]; rfl, (fun y hy => by
   rcases List.mem_append.1 hy with h | h
   · exact hmx y h
   · obtain rfl : y = (⟨⟨1 + r1, (act.length : Nat) + r2, []⟩, none, 0⟩ : ModeI) := by simpa using h
     refine ⟨by simp, ⟨by show 0 ≤ 1 + r1 ∧ 1 + r1 ≤ 255; omega, by show 0 ≤ ((act.length : Nat) : Int) + r2 ∧ ((act.length : Nat) : Int) + r2 ≤ 255; omega, by simp, fun v hv => ?_⟩⟩
     first
     | (simp at hv; omega)
     | simp at hv), hd.snoc (x := (⟨⟨1 + r1, (act.length : Nat) + r2, []⟩, none, 0⟩ : ModeI)) (fun y hy g hg e => by cases e), oN.to (lI ModeI.cells yM (⟨⟨1 + r1, (act.length : Nat) + r2, []⟩, none, 0⟩ : ModeI)).symm, oMx.snoc (x := (⟨⟨1 + r1, (act.length : Nat) + r2, []⟩, none, 0⟩ : ModeI)) (Own.nil_ _ _ _ _) (by simp)⟩
 refine aA rfl (aE rfl (aB (aF ?_)))
 have UA := fun g hg => (Own.lt oA (g := g) hg).2
 have UB2 := fun y hy g hg => (Own.lt (oMz y hy).1 (g := g) hg).2
 refine aA rfl (aO cQ dB rfl rfl rfl rfl rfl ?_)
 intro gL w127 egL oL bbgL x126 zgL
 replace oL := Own.low oL X.size
 replace oS := oS.ext x126
 replace hs := hs.ext x126
 replace bR := bR.ext x126
 replace oQ := oQ.ext x126
 replace oA := oA.ext x126
 replace b48 := b48.ext x126
 replace bX := bX.ext x126
 replace oN := oN.ext x126
 replace oMz := oMz.ext x126
 replace X := dU X x126
 refine aA rfl (aE rfl (aB (aR (aF (aA rfl (aE rfl (aB (aX (dG (G := Int × List Int × Nat × Option Addr × Nat) (fun ⟨l, ds, nD, A2, c2⟩ => [(2, .pointer (some ⟨g2, 0, none⟩)), (3, .slice AT 3 cT), (4, .slice AA act.length cA), (6, .slice AoN (nM + 1) coN), (7, .slice AS nS cS), (8, .int .i64 (1 + rc)), (9, .int .i64 i), (10, .pointer (some ⟨gX, 0, none⟩)), (41, .int .i64 i), (42, .int .i64 (1 + rc)), (46, .pointer (some ⟨gS, 0, none⟩)), (49, .slice AA act.length cA), (50, .int .i64 (act.length : Nat)), (51, .pointer (some ⟨gS, 0, none⟩)), (55, .int .i64 (1 + rc)), (61, .slice AM nM cM), (64, .slice AoN (nM + 1) coN), (0, .pointer (some ⟨gS, 0, none⟩)), (11, .slice A2 nD c2), (12, .int .i64 l)]) (fun ⟨l, ds, nD, A2, c2⟩ wr => (0 ≤ l ∧ l ≤ (act.length : Int) + r2) ∧ nD = ds.length ∧ (nD : Int) = l ∧ (∀ z ∈ ds, 0 ≤ z ∧ z ≤ 1000) ∧ (∀ g, (Value.slice A2 nD c2).ownBlock = some g → (Value.slice AA act.length cA).ownBlock ≠ some g) ∧ (∀ y ∈ zM, ∀ g, (Value.slice A2 nD c2).ownBlock = some g → y.blk ≠ some g) ∧ (∃ a sd, (a ≤ bs.length ∧ 0 ≤ sd ∧ sd < 2147483647) ∧ Blk wr gS 148 (lH A c bs a sd)) ∧ Own wr w.heap.size 2 1 A2 nD c2 (ds.flatMap eI) ∧ Own wr w.heap.size 89 8 AS nS cS (yS.flatMap SlotI.cells) ∧ Sl B wr A (bs.flatMap eB) ∧ Blk wr g2 28 [.int .i64 0, .slice none 0 0, .slice none 0 0, .slice none 0 0] ∧ Own wr w.heap.size 59 4 AT 3 cT (ns.flatMap NodeI.cells) ∧ Own wr w.heap.size 2 1 AA act.length cA (act.flatMap eI) ∧ Blk wr gX 92 [.int .i64 (1 + r1), .int .i64 ((act.length : Nat) + r2), .slice none 0 0] ∧ Own wr w.heap.size 92 3 AoN (nM + 1) coN (zM.flatMap ModeI.cells) ∧ NOwn wr w.heap.size 2 zM ∧ w.grownBy wr (some gS)) (fun ⟨l, ds, nD, A2, c2⟩ => ((act.length : Int) + r2 - l).toNat) (0, [], 0, some ⟨gL, 0, none⟩, 0) (.cons rfl (.cons rfl (.cons rfl (.cons rfl (.cons rfl (.cons rfl (.cons rfl (.cons rfl (.cons rfl (.cons rfl (.cons rfl (.cons rfl (.cons rfl (.cons rfl (.cons rfl (.cons rfl (.cons rfl (.cons rfl (.cons rfl (.cons rfl (.nil _))))))))))))))))))))) ?_ ?_)))))))))
 · exact ⟨(by omega), rfl, rfl, (fun y hy => by simp at hy), (fun g hg e => by have h1 := UA g e; have h2 : gL = g := (by injection hg); omega), (fun y hy g hg e => by have h1 := UB2 y hy g e; have h2 : gL = g := (by injection hg); omega), ⟨_, _, ok, b48⟩, oL, oS, hs, bR, oQ, oA, bX, oN, oMz, X⟩
 clear oS hs bR oQ oA b48 bX oN oMz oL
 clear X
 rintro ⟨l, ds, nD, A2, c2⟩ wr ⟨hl0, hnD, hnDl, hds, hspA, hspM, qq, oL, oS, hs, bR, oQ, oA, bX, oN, oMz, X⟩
 obtain ⟨a, sd, ok, q⟩ := qq
 refine aR (aF (aA rfl (aC rfl (aA rfl (aG iP rfl rfl (aA rfl (aJ bX dB rfl rfl (aA rfl (cU rfl rfl (fun hl => ?_) (fun hl => ?_))))))))))
 refine aB (aQ rfl (aV (aS (aR (aX (aN (aA rfl (aC rfl (aA rfl (aC rfl (aA rfl (aT fS rfl (aP (dN _ _ _ _ _ _ _ _ _ q hs hB ok hbl (by omega)) ?_)))))))))))))
 rintro _ w129 ⟨rd, a131, sd132, rfl, hr133, ok, b130, x128⟩
 replace oL := oL.grownBlk x128 (Own.neT oL q (by decide))
 replace oS := oS.grownBlk x128 (Own.neT oS q (by decide))
 replace hs := hs.grown x128 (by intro g hg; injection hg; omega)
 replace bR := bR.grown x128 (by intro h; injection h; omega)
 replace oQ := oQ.grownBlk x128 (Own.neT oQ q (by decide))
 replace oA := oA.grownBlk x128 (Own.neT oA q (by decide))
 replace bX := bX.grown x128 (by intro h; injection h; omega)
 replace oN := oN.grownBlk x128 (Own.neT oN q (by decide))
 replace oMz := oMz.grownB q x128 (by decide)
 replace X := dI X x128
 clear x128 q
 refine aA rfl (aY rfl rfl (dM (by omega)) (aA rfl (aO cQ dB rfl rfl rfl rfl rfl ?_)))
 intro g134 w136 eg134 oV bbg134 x135 zg134
 replace oV := Own.low oV X.size
 replace oL := oL.ext x135
 replace oS := oS.ext x135
 replace hs := hs.ext x135
 replace bR := bR.ext x135
 replace oQ := oQ.ext x135
 replace oA := oA.ext x135
 replace bX := bX.ext x135
 replace oN := oN.ext x135
 replace oMz := oMz.ext x135
 replace b130 := b130.ext x135
 replace X := dU X x135
 replace oV := oV.to (cs' := ([260 + rd] : List Int).flatMap eI) rfl
 have UA := fun g hg => (Own.lt oA (g := g) hg).2
 have UB2 := fun y hy g hg => (Own.lt (oMz y hy).1 (g := g) hg).2
 refine aA rfl (sR (ts := #[]) oL X.size oV.sl (by first | rfl | simp) (by first | exact List.all_eq_true.1 rfl | simp [Value.oneCell']) cQ dB rfl rfl rfl rfl (by omega) (by omega) ?_)
 intro AoW coW w138 oW hg137 hW
 replace oS := oS.grown hg137 (Own.neO oS oL (by decide))
 replace hs := hs.grown hg137 (fun g hg => Q7l Bhs (Own.lt oL hg).1)
 replace bR := bR.grown hg137 (fun h => Own.neT oL bR (by decide) h.symm)
 replace oQ := oQ.grown hg137 (Own.neO oQ oL (by decide))
 replace oA := oA.grown hg137 hspA
 replace bX := bX.grown hg137 (fun h => Own.neT oL bX (by decide) h.symm)
 replace oN := oN.grown hg137 (Own.neO oN oL (by decide))
 replace oMz := oMz.grownX hg137 hspM
 replace b130 := b130.grown hg137 (fun h => Own.neT oL b130 (by decide) h.symm)
 replace X := dV X hg137 (fun g hg => (Own.lt oL hg).1)
 clear hg137
 have hspA2 := qT hspA hW UA
 have hspM2 := fun y hy => qT (hspM y hy) hW (UB2 y hy)
 refine aA rfl (aE rfl (aB (dO (aS (aN (aA rfl (aC rfl (aA rfl (aY rfl rfl (dM (by omega)) (aA rfl (aE rfl (aB (aS ⟨(l + 1, ds ++ [260 + rd], nD + 1, AoW, coW), (.cons rfl (.cons rfl (.cons rfl (.cons rfl (.cons rfl (.cons rfl (.cons rfl (.cons rfl (.cons rfl (.cons rfl (.cons rfl (.cons rfl (.cons rfl (.cons rfl (.cons rfl (.cons rfl (.cons rfl (.cons rfl (.cons rfl (.cons rfl (.nil _))))))))))))))))))))), ?_, ?_⟩)))))))))))))
 · skip
   exact ⟨(by omega), (by simp [hnD]), (by omega), (fun z hz => by
     rcases List.mem_append.1 hz with h | h
     · exact hds z h
     · obtain rfl : z = 260 + rd := by simpa using h
       omega), hspA2, hspM2, ⟨_, _, ok, b130⟩, oW.to (lI eI ds _).symm, oS, hs, bR, oQ, oA, bX, oN, oMz, X⟩
 · first | omega | (dsimp only; omega)
 refine aB (aM rfl (dD (dC (dC (eG (aS (aF (aA rfl (aE rfl (aB (aX (dG (G := Int × List SlotI × Nat × Option Addr × Nat) (fun ⟨j, yS, nS, AS, cS⟩ => [(2, .pointer (some ⟨g2, 0, none⟩)), (3, .slice AT 3 cT), (4, .slice AA act.length cA), (6, .slice AoN (nM + 1) coN), (8, .int .i64 (1 + rc)), (9, .int .i64 i), (10, .pointer (some ⟨gX, 0, none⟩)), (11, .slice A2 nD c2), (12, .int .i64 l), (41, .int .i64 i), (42, .int .i64 (1 + rc)), (46, .pointer (some ⟨gS, 0, none⟩)), (49, .slice AA act.length cA), (50, .int .i64 (act.length : Nat)), (51, .pointer (some ⟨gS, 0, none⟩)), (55, .int .i64 (1 + rc)), (61, .slice AM nM cM), (64, .slice AoN (nM + 1) coN), (66, .int .i64 l), (0, .pointer (some ⟨gS, 0, none⟩)), (7, .slice AS nS cS), (13, .int .i64 j)]) (fun ⟨j, yS, nS, AS, cS⟩ wr => (0 ≤ j ∧ j ≤ 1 + r1) ∧ ((nS : Int) ≤ 66 * i + 33 * j ∧ (0 < i ∨ 0 < j → 0 < nS)) ∧ nS = yS.length ∧ (∀ y ∈ yS, sP y) ∧ (∃ a sd, (a ≤ bs.length ∧ 0 ≤ sd ∧ sd < 2147483647) ∧ Blk wr gS 148 (lH A c bs a sd)) ∧ Own wr w.heap.size 89 8 AS nS cS (yS.flatMap SlotI.cells) ∧ Own wr w.heap.size 2 1 A2 nD c2 (ds.flatMap eI) ∧ Sl B wr A (bs.flatMap eB) ∧ Blk wr g2 28 [.int .i64 0, .slice none 0 0, .slice none 0 0, .slice none 0 0] ∧ Own wr w.heap.size 59 4 AT 3 cT (ns.flatMap NodeI.cells) ∧ Own wr w.heap.size 2 1 AA act.length cA (act.flatMap eI) ∧ Blk wr gX 92 [.int .i64 (1 + r1), .int .i64 ((act.length : Nat) + r2), .slice none 0 0] ∧ Own wr w.heap.size 92 3 AoN (nM + 1) coN (zM.flatMap ModeI.cells) ∧ NOwn wr w.heap.size 2 zM ∧ w.grownBy wr (some gS)) (fun ⟨j, yS, nS, AS, cS⟩ => (1 + r1 - j).toNat) (0, yS, nS, AS, cS) (.cons rfl (.cons rfl (.cons rfl (.cons rfl (.cons rfl (.cons rfl (.cons rfl (.cons rfl (.cons rfl (.cons rfl (.cons rfl (.cons rfl (.cons rfl (.cons rfl (.cons rfl (.cons rfl (.cons rfl (.cons rfl (.cons rfl (.cons rfl (.cons rfl (.cons rfl (.nil _))))))))))))))))))))))) ?_ ?_))))))))))))
 · exact ⟨(by omega), (by omega), hnS, hdur, ⟨_, _, ok, q⟩, oS, oL, hs, bR, oQ, oA, bX, oN, oMz, X⟩
 clear oL oS hs bR oQ oA bX oN oMz q
 clear X
 rintro ⟨j, yS, nS, AS, cS⟩ wr ⟨hj0, hnS3, hnS, hdur, qq, oS, oL, hs, bR, oQ, oA, bX, oN, oMz, X⟩
 obtain ⟨a, sd, ok, q⟩ := qq
 refine aR (aF (aA rfl (aC rfl (aA rfl (aG kQ rfl rfl (aA rfl (aJ bX dB rfl rfl (aA rfl (cU rfl rfl (fun hj => ?_) (fun hj => ?_))))))))))
 refine aB (aQ rfl (aV (aS (aR (aX (aF (aA rfl (aE rfl (aB (aX (dG (G := Int × List SlotI × Nat × Option Addr × Nat) (fun ⟨u, yS, nS, AS, cS⟩ => [(2, .pointer (some ⟨g2, 0, none⟩)), (3, .slice AT 3 cT), (4, .slice AA act.length cA), (6, .slice AoN (nM + 1) coN), (8, .int .i64 (1 + rc)), (9, .int .i64 i), (10, .pointer (some ⟨gX, 0, none⟩)), (11, .slice A2 nD c2), (12, .int .i64 l), (13, .int .i64 j), (41, .int .i64 i), (42, .int .i64 (1 + rc)), (46, .pointer (some ⟨gS, 0, none⟩)), (49, .slice AA act.length cA), (50, .int .i64 (act.length : Nat)), (51, .pointer (some ⟨gS, 0, none⟩)), (55, .int .i64 (1 + rc)), (61, .slice AM nM cM), (64, .slice AoN (nM + 1) coN), (66, .int .i64 l), (78, .int .i64 j), (0, .pointer (some ⟨gS, 0, none⟩)), (7, .slice AS nS cS), (14, .int .i64 u)]) (fun ⟨u, yS, nS, AS, cS⟩ wr => (0 ≤ u ∧ u ≤ (act.length : Int) + r2) ∧ ((nS : Int) ≤ 66 * i + 33 * j + u ∧ (0 < i ∨ 0 < j ∨ 0 < u → 0 < nS)) ∧ nS = yS.length ∧ (∀ y ∈ yS, sP y) ∧ (∃ a sd, (a ≤ bs.length ∧ 0 ≤ sd ∧ sd < 2147483647) ∧ Blk wr gS 148 (lH A c bs a sd)) ∧ Own wr w.heap.size 89 8 AS nS cS (yS.flatMap SlotI.cells) ∧ Own wr w.heap.size 2 1 A2 nD c2 (ds.flatMap eI) ∧ Sl B wr A (bs.flatMap eB) ∧ Blk wr g2 28 [.int .i64 0, .slice none 0 0, .slice none 0 0, .slice none 0 0] ∧ Own wr w.heap.size 59 4 AT 3 cT (ns.flatMap NodeI.cells) ∧ Own wr w.heap.size 2 1 AA act.length cA (act.flatMap eI) ∧ Blk wr gX 92 [.int .i64 (1 + r1), .int .i64 ((act.length : Nat) + r2), .slice none 0 0] ∧ Own wr w.heap.size 92 3 AoN (nM + 1) coN (zM.flatMap ModeI.cells) ∧ NOwn wr w.heap.size 2 zM ∧ w.grownBy wr (some gS)) (fun ⟨u, yS, nS, AS, cS⟩ => ((act.length : Int) + r2 - u).toNat) (0, yS, nS, AS, cS) (.cons rfl (.cons rfl (.cons rfl (.cons rfl (.cons rfl (.cons rfl (.cons rfl (.cons rfl (.cons rfl (.cons rfl (.cons rfl (.cons rfl (.cons rfl (.cons rfl (.cons rfl (.cons rfl (.cons rfl (.cons rfl (.cons rfl (.cons rfl (.cons rfl (.cons rfl (.cons rfl (.cons rfl (.nil _))))))))))))))))))))))))) ?_ ?_)))))))))))
 · exact ⟨(by omega), (by omega), hnS, hdur, ⟨_, _, ok, q⟩, oS, oL, hs, bR, oQ, oA, bX, oN, oMz, X⟩
 clear oS oL hs bR oQ oA bX oN oMz q
 clear X
 rintro ⟨u, yS, nS, AS, cS⟩ wr ⟨hu0, hnS4, hnS, hdur, qq, oS, oL, hs, bR, oQ, oA, bX, oN, oMz, X⟩
 obtain ⟨a, sd, ok, q⟩ := qq
 refine aR (aF (aA rfl (aC rfl (aA rfl (aG iP rfl rfl (aA rfl (aJ bX dB rfl rfl (aA rfl (cU rfl rfl (fun hu => ?_) (fun hu => ?_))))))))))
 refine aB (aQ rfl (aV (aS (aR (aX (aF (aA rfl (aC rfl (aA rfl (aT aCx rfl (aP (uJ _ _ _ _ _ _ _ _ q hs hB ok hbl) ?_)))))))))))
 rintro _ w140 ⟨d, a142, sd143, rfl, hpd, ok, b141, x139⟩
 replace oS := oS.grownBlk x139 (Own.neT oS q (by decide))
 replace oL := oL.grownBlk x139 (Own.neT oL q (by decide))
 replace hs := hs.grown x139 (by intro g hg; injection hg; omega)
 replace bR := bR.grown x139 (by intro h; injection h; omega)
 replace oQ := oQ.grownBlk x139 (Own.neT oQ q (by decide))
 replace oA := oA.grownBlk x139 (Own.neT oA q (by decide))
 replace bX := bX.grown x139 (by intro h; injection h; omega)
 replace oN := oN.grownBlk x139 (Own.neT oN q (by decide))
 replace oMz := oMz.grownB q x139 (by decide)
 replace X := dI X x139
 clear x139 q
 refine aA rfl (dT fU ?_)
 intro gD w145 egD b9 x144 zgD
 have lgD : w.heap.size ≤ gD := Q7l X.size (Q7e egD.symm)
 have pgDhs := Q7l hs.1 (Q7e egD.symm)
 have ngDbR := Nat.lt_of_lt_of_eq bR.lt egD.symm
 have ngDbX := Nat.lt_of_lt_of_eq bX.lt egD.symm
 have ngDb141 := Nat.lt_of_lt_of_eq b141.lt egD.symm
 replace oS := oS.ext x144
 replace oL := oL.ext x144
 replace hs := hs.ext x144
 replace bR := bR.ext x144
 replace oQ := oQ.ext x144
 replace oA := oA.ext x144
 replace bX := bX.ext x144
 replace oN := oN.ext x144
 replace oMz := oMz.ext x144
 replace b141 := b141.ext x144
 replace X := dU X x144
 refine aA rfl (bK b9 fU rfl rfl rfl rfl rfl rfl ?_)
 intro w147 bD hg146 z148
 replace oS := oS.grownBlk hg146 (Own.neT oS b9 (by decide))
 replace oL := oL.grownBlk hg146 (Own.neT oL b9 (by decide))
 replace hs := hs.grown hg146 (by intro g hg; injection hg; omega)
 replace bR := bR.grown hg146 (by intro h; injection h; omega)
 replace oQ := oQ.grownBlk hg146 (Own.neT oQ b9 (by decide))
 replace oA := oA.grownBlk hg146 (Own.neT oA b9 (by decide))
 replace bX := bX.grown hg146 (by intro h; injection h; omega)
 replace oN := oN.grownBlk hg146 (Own.neT oN b9 (by decide))
 replace oMz := oMz.grownB b9 hg146 (by decide)
 replace b141 := b141.grown hg146 (by intro h; injection h; omega)
 replace X := dV X hg146 (by intro g hg; injection hg; omega)
 clear hg146 b9
 refine aB (aF (aA rfl (aC rfl (aA rfl (aC rfl (aA rfl (aC rfl (aA rfl (bO Tryz.underlying30 rfl ?_)))))))))
 have hmz := Int.emod_nonneg u (show (act.length : Int) ≠ 0 by omega)
 have hmz2 := Int.emod_lt_of_pos u (show (0 : Int) < act.length by omega)
 obtain ⟨z, hz⟩ : ∃ z, act[(u % (act.length : Int)).toNat]? = some z := ⟨_, List.getElem?_eq_getElem (by omega)⟩
 refine aA rfl (fK rfl rfl (by omega) (qZ (by omega)) (aA rfl (aU (oA).sl bI rfl cQ rfl rfl rfl hz (Int.toNat_of_nonneg hmz).symm (aA rfl (bS (oA).sl bI hz dB rfl rfl rfl (aA rfl (aG kA rfl rfl (aA rfl (bK bD dB rfl rfl rfl rfl rfl rfl ?_)))))))))
 intro w150 bE hg149 z151
 replace oS := oS.grownBlk hg149 (Own.neT oS bD (by decide))
 replace oL := oL.grownBlk hg149 (Own.neT oL bD (by decide))
 replace hs := hs.grown hg149 (by intro g hg; injection hg; omega)
 replace bR := bR.grown hg149 (by intro h; injection h; omega)
 replace oQ := oQ.grownBlk hg149 (Own.neT oQ bD (by decide))
 replace oA := oA.grownBlk hg149 (Own.neT oA bD (by decide))
 replace bX := bX.grown hg149 (by intro h; injection h; omega)
 replace oN := oN.grownBlk hg149 (Own.neT oN bD (by decide))
 replace oMz := oMz.grownB bD hg149 (by decide)
 replace b141 := b141.grown hg149 (by intro h; injection h; omega)
 replace X := dV X hg149 (by intro g hg; injection hg; omega)
 clear hg149 bD
 refine aB (aR (aF (aA rfl (aG fM rfl rfl (aA rfl (aJ bE dB rfl rfl (aA rfl (dP rfl rfl (fun hk3 => ?_) (fun hk3 => ?_)))))))))
 refine aA rfl (aC rfl (aI rfl rfl rfl (aC rfl (aI rfl rfl rfl (fG rfl rfl (fun hi9 => ?_) (fun hi9 => ?_))))))
 refine aA rfl (aK rfl rfl (aB (aQ rfl (aN (aA rfl (aG fM rfl rfl (aA rfl (bK bE dB rfl rfl rfl rfl rfl rfl ?_))))))))
 intro w153 bF hg152 z154
 replace oS := oS.grownBlk hg152 (Own.neT oS bE (by decide))
 replace oL := oL.grownBlk hg152 (Own.neT oL bE (by decide))
 replace hs := hs.grown hg152 (by intro g hg; injection hg; omega)
 replace bR := bR.grown hg152 (by intro h; injection h; omega)
 replace oQ := oQ.grownBlk hg152 (Own.neT oQ bE (by decide))
 replace oA := oA.grownBlk hg152 (Own.neT oA bE (by decide))
 replace bX := bX.grown hg152 (by intro h; injection h; omega)
 replace oN := oN.grownBlk hg152 (Own.neT oN bE (by decide))
 replace oMz := oMz.grownB bE hg152 (by decide)
 replace b141 := b141.grown hg152 (by intro h; injection h; omega)
 replace X := dV X hg152 (by intro g hg; injection hg; omega)
 clear hg152 bE
 refine aB (aS (aF (aA rfl (aC rfl (aA rfl (aC rfl ?_))))))
 obtain ⟨y, hy⟩ : ∃ y, ds[u.toNat]? = some y := ⟨_, List.getElem?_eq_getElem (by omega)⟩
 have hyb := hds y (List.mem_of_getElem? hy)
 refine aA rfl (aU (oL).sl bI rfl cQ rfl hnD rfl hy (by omega) (aA rfl (bS (oL).sl bI hy dB rfl rfl rfl (aA rfl (aG fC rfl rfl (aA rfl (bK bF dB rfl rfl rfl rfl rfl rfl ?_)))))))
 intro w156 bG hg155 z157
 replace oS := oS.grownBlk hg155 (Own.neT oS bF (by decide))
 replace oL := oL.grownBlk hg155 (Own.neT oL bF (by decide))
 replace hs := hs.grown hg155 (by intro g hg; injection hg; omega)
 replace bR := bR.grown hg155 (by intro h; injection h; omega)
 replace oQ := oQ.grownBlk hg155 (Own.neT oQ bF (by decide))
 replace oA := oA.grownBlk hg155 (Own.neT oA bF (by decide))
 replace bX := bX.grown hg155 (by intro h; injection h; omega)
 replace oN := oN.grownBlk hg155 (Own.neT oN bF (by decide))
 replace oMz := oMz.grownB bF hg155 (by decide)
 replace b141 := b141.grown hg155 (by intro h; injection h; omega)
 replace X := dV X hg155 (by intro g hg; injection hg; omega)
 clear hg155 bF
 obtain ⟨dd, hdd, bG⟩ : ∃ dd : Desc, ((0 ≤ dd.duration ∧ dd.duration ≤ 1000) ∧ wQ dd) ∧ Blk _ gD 67 dd.cells := ⟨⟨z, 1, d.size, y, d.change⟩, ⟨hyb, ⟨kD (hact ▸ List.mem_of_getElem? hz), (by first | exact hpd.2.1 | exact ⟨show (0 : Int) ≤ 1 by decide, show (1 : Int) ≤ 3 by decide⟩), ⟨hpd.1.1, Int.le_trans hpd.1.2 (by decide)⟩, hyb⟩⟩, bG⟩
 refine aB (aN (aA rfl (aC rfl (aA rfl (aC rfl (aA rfl (aC rfl (aA rfl (aC rfl (aA rfl (dE bG fU rfl rfl (aA rfl (dA qY eQ rfl rfl (aA rfl (aO gF eQ rfl rfl rfl rfl rfl ?_)))))))))))))))
 intro g158 w160 eg158 oV bbg158 x159 zg158
 replace oV := Own.low oV X.size
 replace oS := oS.ext x159
 replace oL := oL.ext x159
 replace hs := hs.ext x159
 replace bR := bR.ext x159
 replace oQ := oQ.ext x159
 replace oA := oA.ext x159
 replace bX := bX.ext x159
 replace oN := oN.ext x159
 replace oMz := oMz.ext x159
 replace b141 := b141.ext x159
 replace bG := bG.ext x159
 replace X := dU X x159
 refine aA rfl (cH (ts := #[]) oS X.size oV.sl (by first | rfl | simp) (by first | exact List.all_eq_true.1 rfl | simp [Value.oneCell']) gF eQ rfl rfl rfl rfl (by omega) (by omega) ?_)
 intro AoW coW w162 oW hg161
 replace oL := oL.grown hg161 (Own.neO oL oS (by decide))
 replace hs := hs.grown hg161 (fun g hg => Q7l Bhs (Own.lt oS hg).1)
 replace bR := bR.grown hg161 (fun h => Own.neT oS bR (by decide) h.symm)
 replace oQ := oQ.grown hg161 (Own.neO oQ oS (by decide))
 replace oA := oA.grown hg161 (Own.neO oA oS (by decide))
 replace bX := bX.grown hg161 (fun h => Own.neT oS bX (by decide) h.symm)
 replace oN := oN.grown hg161 (Own.neO oN oS (by decide))
 replace oMz := oMz.grownO oS hg161 (by decide)
 replace b141 := b141.grown hg161 (fun h => Own.neT oS b141 (by decide) h.symm)
 replace bG := bG.grown hg161 (fun h => Own.neT oS bG (by decide) h.symm)
 replace X := dV X hg161 (fun g hg => (Own.lt oS hg).1)
 clear hg161
 refine aA rfl (aE rfl (aB (dO (aS (aN (aA rfl (aC rfl (aA rfl (aY rfl rfl (dM (by omega)) (aA rfl (aE rfl (aB (aS ⟨(u + 1, yS ++ [⟨i, j, u, dd⟩], nS + 1, AoW, coW), (.cons rfl (.cons rfl (.cons rfl (.cons rfl (.cons rfl (.cons rfl (.cons rfl (.cons rfl (.cons rfl (.cons rfl (.cons rfl (.cons rfl (.cons rfl (.cons rfl (.cons rfl (.cons rfl (.cons rfl (.cons rfl (.cons rfl (.cons rfl (.cons rfl (.cons rfl (.cons rfl (.cons rfl (.nil _))))))))))))))))))))))))), ?_, ?_⟩)))))))))))))
 · skip
   exact ⟨(by omega), (by omega), (by simp [hnS]), (fun y hy => by
     rcases List.mem_append.1 hy with h | h
     · exact hdur y h
     · obtain rfl : y = ⟨i, j, u, dd⟩ := by simpa using h
       exact ⟨hdd.1, ⟨by show 0 ≤ i ∧ i ≤ 15; omega, by show 0 ≤ j ∧ j ≤ 7; omega, by show 0 ≤ u ∧ u ≤ 63; omega, hdd.2⟩⟩), ⟨_, _, ok, b141⟩, oW.to (lI SlotI.cells yS ⟨i, j, u, dd⟩).symm, oL, hs, bR, oQ, oA, bX, oN, oMz, X⟩
 · first | omega | (dsimp only; omega)
 refine aA rfl (aK rfl rfl (aB (aM rfl (aV (aS (aF (aA rfl (aC rfl (aA rfl (aC rfl ?_))))))))))
 obtain ⟨y, hy⟩ : ∃ y, ds[u.toNat]? = some y := ⟨_, List.getElem?_eq_getElem (by omega)⟩
 have hyb := hds y (List.mem_of_getElem? hy)
 refine aA rfl (aU (oL).sl bI rfl cQ rfl hnD rfl hy (by omega) (aA rfl (bS (oL).sl bI hy dB rfl rfl rfl (aA rfl (aG fC rfl rfl (aA rfl (bK bE dB rfl rfl rfl rfl rfl rfl ?_)))))))
 intro w164 bG hg163 z165
 replace oS := oS.grownBlk hg163 (Own.neT oS bE (by decide))
 replace oL := oL.grownBlk hg163 (Own.neT oL bE (by decide))
 replace hs := hs.grown hg163 (by intro g hg; injection hg; omega)
 replace bR := bR.grown hg163 (by intro h; injection h; omega)
 replace oQ := oQ.grownBlk hg163 (Own.neT oQ bE (by decide))
 replace oA := oA.grownBlk hg163 (Own.neT oA bE (by decide))
 replace bX := bX.grown hg163 (by intro h; injection h; omega)
 replace oN := oN.grownBlk hg163 (Own.neT oN bE (by decide))
 replace oMz := oMz.grownB bE hg163 (by decide)
 replace b141 := b141.grown hg163 (by intro h; injection h; omega)
 replace X := dV X hg163 (by intro g hg; injection hg; omega)
 clear hg163 bE
 obtain ⟨dd, hdd, bG⟩ : ∃ dd : Desc, ((0 ≤ dd.duration ∧ dd.duration ≤ 1000) ∧ wQ dd) ∧ Blk _ gD 67 dd.cells := ⟨⟨z, d.kind, d.size, y, d.change⟩, ⟨hyb, ⟨kD (hact ▸ List.mem_of_getElem? hz), (by first | exact hpd.2.1 | exact ⟨show (0 : Int) ≤ 1 by decide, show (1 : Int) ≤ 3 by decide⟩), ⟨hpd.1.1, Int.le_trans hpd.1.2 (by decide)⟩, hyb⟩⟩, bG⟩
 refine aB (aN (aA rfl (aC rfl (aA rfl (aC rfl (aA rfl (aC rfl (aA rfl (aC rfl (aA rfl (dE bG fU rfl rfl (aA rfl (dA qY eQ rfl rfl (aA rfl (aO gF eQ rfl rfl rfl rfl rfl ?_)))))))))))))))
 intro g166 w168 eg166 oV bbg166 x167 zg166
 replace oV := Own.low oV X.size
 replace oS := oS.ext x167
 replace oL := oL.ext x167
 replace hs := hs.ext x167
 replace bR := bR.ext x167
 replace oQ := oQ.ext x167
 replace oA := oA.ext x167
 replace bX := bX.ext x167
 replace oN := oN.ext x167
 replace oMz := oMz.ext x167
 replace b141 := b141.ext x167
 replace bG := bG.ext x167
 replace X := dU X x167
 refine aA rfl (cH (ts := #[]) oS X.size oV.sl (by first | rfl | simp) (by first | exact List.all_eq_true.1 rfl | simp [Value.oneCell']) gF eQ rfl rfl rfl rfl (by omega) (by omega) ?_)
 intro AoW coW w170 oW hg169
 replace oL := oL.grown hg169 (Own.neO oL oS (by decide))
 replace hs := hs.grown hg169 (fun g hg => Q7l Bhs (Own.lt oS hg).1)
 replace bR := bR.grown hg169 (fun h => Own.neT oS bR (by decide) h.symm)
 replace oQ := oQ.grown hg169 (Own.neO oQ oS (by decide))
 replace oA := oA.grown hg169 (Own.neO oA oS (by decide))
 replace bX := bX.grown hg169 (fun h => Own.neT oS bX (by decide) h.symm)
 replace oN := oN.grown hg169 (Own.neO oN oS (by decide))
 replace oMz := oMz.grownO oS hg169 (by decide)
 replace b141 := b141.grown hg169 (fun h => Own.neT oS b141 (by decide) h.symm)
 replace bG := bG.grown hg169 (fun h => Own.neT oS bG (by decide) h.symm)
 replace X := dV X hg169 (fun g hg => (Own.lt oS hg).1)
 clear hg169
 refine aA rfl (aE rfl (aB (dO (aS (aN (aA rfl (aC rfl (aA rfl (aY rfl rfl (dM (by omega)) (aA rfl (aE rfl (aB (aS ⟨(u + 1, yS ++ [⟨i, j, u, dd⟩], nS + 1, AoW, coW), (.cons rfl (.cons rfl (.cons rfl (.cons rfl (.cons rfl (.cons rfl (.cons rfl (.cons rfl (.cons rfl (.cons rfl (.cons rfl (.cons rfl (.cons rfl (.cons rfl (.cons rfl (.cons rfl (.cons rfl (.cons rfl (.cons rfl (.cons rfl (.cons rfl (.cons rfl (.cons rfl (.cons rfl (.nil _))))))))))))))))))))))))), ?_, ?_⟩)))))))))))))
 · skip
   exact ⟨(by omega), (by omega), (by simp [hnS]), (fun y hy => by
     rcases List.mem_append.1 hy with h | h
     · exact hdur y h
     · obtain rfl : y = ⟨i, j, u, dd⟩ := by simpa using h
       exact ⟨hdd.1, ⟨by show 0 ≤ i ∧ i ≤ 15; omega, by show 0 ≤ j ∧ j ≤ 7; omega, by show 0 ≤ u ∧ u ≤ 63; omega, hdd.2⟩⟩), ⟨_, _, ok, b141⟩, oW.to (lI SlotI.cells yS ⟨i, j, u, dd⟩).symm, oL, hs, bR, oQ, oA, bX, oN, oMz, X⟩
 · first | omega | (dsimp only; omega)
 refine aA rfl (aC rfl (aH rfl rfl rfl rfl (aH rfl rfl rfl rfl (aA rfl (aK rfl rfl (aB (aM rfl (aV (aS (aF (aA rfl (aC rfl (aA rfl (aC rfl ?_))))))))))))))
 obtain ⟨y, hy⟩ : ∃ y, ds[u.toNat]? = some y := ⟨_, List.getElem?_eq_getElem (by omega)⟩
 have hyb := hds y (List.mem_of_getElem? hy)
 refine aA rfl (aU (oL).sl bI rfl cQ rfl hnD rfl hy (by omega) (aA rfl (bS (oL).sl bI hy dB rfl rfl rfl (aA rfl (aG fC rfl rfl (aA rfl (bK bE dB rfl rfl rfl rfl rfl rfl ?_)))))))
 intro w172 bG hg171 z173
 replace oS := oS.grownBlk hg171 (Own.neT oS bE (by decide))
 replace oL := oL.grownBlk hg171 (Own.neT oL bE (by decide))
 replace hs := hs.grown hg171 (by intro g hg; injection hg; omega)
 replace bR := bR.grown hg171 (by intro h; injection h; omega)
 replace oQ := oQ.grownBlk hg171 (Own.neT oQ bE (by decide))
 replace oA := oA.grownBlk hg171 (Own.neT oA bE (by decide))
 replace bX := bX.grown hg171 (by intro h; injection h; omega)
 replace oN := oN.grownBlk hg171 (Own.neT oN bE (by decide))
 replace oMz := oMz.grownB bE hg171 (by decide)
 replace b141 := b141.grown hg171 (by intro h; injection h; omega)
 replace X := dV X hg171 (by intro g hg; injection hg; omega)
 clear hg171 bE
 obtain ⟨dd, hdd, bG⟩ : ∃ dd : Desc, ((0 ≤ dd.duration ∧ dd.duration ≤ 1000) ∧ wQ dd) ∧ Blk _ gD 67 dd.cells := ⟨⟨z, d.kind, d.size, y, d.change⟩, ⟨hyb, ⟨kD (hact ▸ List.mem_of_getElem? hz), (by first | exact hpd.2.1 | exact ⟨show (0 : Int) ≤ 1 by decide, show (1 : Int) ≤ 3 by decide⟩), ⟨hpd.1.1, Int.le_trans hpd.1.2 (by decide)⟩, hyb⟩⟩, bG⟩
 refine aB (aN (aA rfl (aC rfl (aA rfl (aC rfl (aA rfl (aC rfl (aA rfl (aC rfl (aA rfl (dE bG fU rfl rfl (aA rfl (dA qY eQ rfl rfl (aA rfl (aO gF eQ rfl rfl rfl rfl rfl ?_)))))))))))))))
 intro g174 w176 eg174 oV bbg174 x175 zg174
 replace oV := Own.low oV X.size
 replace oS := oS.ext x175
 replace oL := oL.ext x175
 replace hs := hs.ext x175
 replace bR := bR.ext x175
 replace oQ := oQ.ext x175
 replace oA := oA.ext x175
 replace bX := bX.ext x175
 replace oN := oN.ext x175
 replace oMz := oMz.ext x175
 replace b141 := b141.ext x175
 replace bG := bG.ext x175
 replace X := dU X x175
 refine aA rfl (cH (ts := #[]) oS X.size oV.sl (by first | rfl | simp) (by first | exact List.all_eq_true.1 rfl | simp [Value.oneCell']) gF eQ rfl rfl rfl rfl (by omega) (by omega) ?_)
 intro AoW coW w178 oW hg177
 replace oL := oL.grown hg177 (Own.neO oL oS (by decide))
 replace hs := hs.grown hg177 (fun g hg => Q7l Bhs (Own.lt oS hg).1)
 replace bR := bR.grown hg177 (fun h => Own.neT oS bR (by decide) h.symm)
 replace oQ := oQ.grown hg177 (Own.neO oQ oS (by decide))
 replace oA := oA.grown hg177 (Own.neO oA oS (by decide))
 replace bX := bX.grown hg177 (fun h => Own.neT oS bX (by decide) h.symm)
 replace oN := oN.grown hg177 (Own.neO oN oS (by decide))
 replace oMz := oMz.grownO oS hg177 (by decide)
 replace b141 := b141.grown hg177 (fun h => Own.neT oS b141 (by decide) h.symm)
 replace bG := bG.grown hg177 (fun h => Own.neT oS bG (by decide) h.symm)
 replace X := dV X hg177 (fun g hg => (Own.lt oS hg).1)
 clear hg177
 refine aA rfl (aE rfl (aB (dO (aS (aN (aA rfl (aC rfl (aA rfl (aY rfl rfl (dM (by omega)) (aA rfl (aE rfl (aB (aS ⟨(u + 1, yS ++ [⟨i, j, u, dd⟩], nS + 1, AoW, coW), (.cons rfl (.cons rfl (.cons rfl (.cons rfl (.cons rfl (.cons rfl (.cons rfl (.cons rfl (.cons rfl (.cons rfl (.cons rfl (.cons rfl (.cons rfl (.cons rfl (.cons rfl (.cons rfl (.cons rfl (.cons rfl (.cons rfl (.cons rfl (.cons rfl (.cons rfl (.cons rfl (.cons rfl (.nil _))))))))))))))))))))))))), ?_, ?_⟩)))))))))))))
 · skip
   exact ⟨(by omega), (by omega), (by simp [hnS]), (fun y hy => by
     rcases List.mem_append.1 hy with h | h
     · exact hdur y h
     · obtain rfl : y = ⟨i, j, u, dd⟩ := by simpa using h
       exact ⟨hdd.1, ⟨by show 0 ≤ i ∧ i ≤ 15; omega, by show 0 ≤ j ∧ j ≤ 7; omega, by show 0 ≤ u ∧ u ≤ 63; omega, hdd.2⟩⟩), ⟨_, _, ok, b141⟩, oW.to (lI SlotI.cells yS ⟨i, j, u, dd⟩).symm, oL, hs, bR, oQ, oA, bX, oN, oMz, X⟩
 · first | omega | (dsimp only; omega)
 refine aB (aM rfl (dD (dC (dC (eG (dO (aS (aN (aA rfl (aC rfl (aA rfl (aY rfl rfl (dM (by omega)) (aA rfl (aE rfl (aB (aS ⟨(j + 1, yS, nS, AS, cS), (.cons rfl (.cons rfl (.cons rfl (.cons rfl (.cons rfl (.cons rfl (.cons rfl (.cons rfl (.cons rfl (.cons rfl (.cons rfl (.cons rfl (.cons rfl (.cons rfl (.cons rfl (.cons rfl (.cons rfl (.cons rfl (.cons rfl (.cons rfl (.cons rfl (.cons rfl (.nil _))))))))))))))))))))))), ?_, ?_⟩))))))))))))))))
 · exact ⟨(by omega), (by omega), hnS, hdur, ⟨_, _, ok, q⟩, oS, oL, hs, bR, oQ, oA, bX, oN, oMz, X⟩
 · first | omega | (dsimp only; omega)
 refine aB (aM rfl (dD (dC (dC (eG (dO (aS (aN (aA rfl (aC rfl (aA rfl (aY rfl rfl (dM (by omega)) (aA rfl (aE rfl (aB (aS ⟨(i + 1, zM, nM + 1, AoN, coN, yS, nS, AS, cS), (.cons rfl (.cons rfl (.cons rfl (.cons rfl (.cons rfl (.cons rfl (.cons rfl (.cons rfl (.nil _))))))))), ?_, ?_⟩))))))))))))))))
 · exact ⟨(by omega), hzl.symm, (by omega), hzx, hzd, hnS, (by omega), hdur, ⟨_, _, ok, q⟩, oN, oMz, oS, hs, bR, oQ, oA, X⟩
 · first | omega | (dsimp only; omega)
 refine aB (aM rfl (dD (dC (dC (eG (aS (aF (aA rfl (aC rfl (aA rfl (aT fS rfl (aP (dN _ _ _ _ _ _ _ _ _ q hs hB ok hbl (by omega)) ?_))))))))))))
 rintro _ w180 ⟨rid, a182, sd183, rfl, hr184, ok, b181, x179⟩
 replace oM := oM.grownBlk x179 (Own.neT oM q (by decide))
 replace oMx := oMx.grownB q x179 (by decide)
 replace oS := oS.grownBlk x179 (Own.neT oS q (by decide))
 replace hs := hs.grown x179 (by intro g hg; injection hg; omega)
 replace bR := bR.grown x179 (by intro h; injection h; omega)
 replace oQ := oQ.grownBlk x179 (Own.neT oQ q (by decide))
 replace oA := oA.grownBlk x179 (Own.neT oA q (by decide))
 replace X := dI X x179
 clear x179 q
 refine aA rfl (aY rfl rfl (dM (by omega)) (aA rfl (aC rfl (aA rfl (aC rfl (aA rfl (aC rfl (aA rfl (dA nJ dW rfl rfl (aA rfl (bK bR dW rfl rfl rfl rfl rfl rfl ?_)))))))))))
 intro w186 bZ hg185 z187
 replace oM := oM.grownBlk hg185 (Own.neT oM bR (by decide))
 replace oMx := oMx.grownB bR hg185 (by decide)
 replace oS := oS.grownBlk hg185 (Own.neT oS bR (by decide))
 replace hs := hs.grown hg185 (by intro g hg; injection hg; omega)
 replace oQ := oQ.grownBlk hg185 (Own.neT oQ bR (by decide))
 replace oA := oA.grownBlk hg185 (Own.neT oA bR (by decide))
 replace b181 := b181.grown hg185 (by intro h; injection h; omega)
 replace X := dV X hg185 (by intro g hg; injection hg; omega)
 clear hg185 bR
 refine aB (aW (kG rfl rfl bZ dW rfl ?_))
 · skip
   first
   | (exact ⟨mm, _, _, rfl, vZ eM, oM, ok, b181, X⟩)
   | (subst hnM; subst hnS
      have hsm : MedlI.small ⟨1 + rid, AT, ns, cT, AM, yM, cM, AS, yS, cS⟩ := ⟨by show ns.length ≤ _; omega, by show yM.length ≤ _; omega, fun y hy => Q7l (hmx y hy).1 (by decide), by show yS.length ≤ _; omega, fun y hy => Q7l (hnsm y hy).2 (by decide)⟩
      exact ⟨⟨1 + rid, AT, ns, cT, AM, yM, cM, AS, yS, cS⟩, _, _, by unfold MedlI.cells; simp only [hnN] <;> rfl, ⟨⟨by show 1 ≤ yS.length; omega, by show yS.length ≤ 500; omega⟩, hsm, fun x hx => (hdur x hx).1, ⟨by show yM.length ≤ 17; omega, by show ns.length ≤ 4; omega, by show yM.length ≤ 2; omega, fun y hy => Q7l (hmx y hy).1 (by decide), ⟨by show 0 ≤ 1 + rid ∧ 1 + rid ≤ 16777215; omega, ⟨by show ns.length ≤ 32; omega, fun x hx => ⟨by have := (hnsm x hx).1; omega, by have := (hnsm x hx).1; omega, (hnsm x hx).2⟩⟩, ⟨by show (yM.map (·.m)).length ≤ 16; rw [List.length_map]; omega, fun x hx => by obtain ⟨y, hy, rfl⟩ := List.mem_map.1 hx; exact (hmx y hy).2⟩, ⟨by show yS.length ≤ 140; omega, fun x hx => (hdur x hx).2⟩⟩⟩⟩, ⟨by rw [← hnN] at oQ; exact oQ, oM, oMx, hd, oS⟩, ok, b181, X⟩)
 obtain ⟨ns, hnN, hnsm, hnp, oQ⟩ : ∃ ns : List NodeI, ns.length = ys.length ∧ (∀ z ∈ ns, aCZ z) ∧ (∃ z ∈ ns, z.passive = false) ∧ Own _ w.heap.size 59 4 AT ys.length cT (ns.flatMap NodeI.cells) := ⟨qs, hql, hqs, (by obtain ⟨z, h1, h2⟩ := hq0; exact ⟨z, List.mem_of_getElem? h1, h2⟩), oQ⟩
 refine aB (aM rfl (aV (aS (aF (aA rfl (aC rfl ?_))))))
 have hnid : ∀ x ∈ ns, 0 ≤ x.id ∧ x.id ≤ 31 := fun x hx => by have := (hnsm x hx).1; omega
 have hav := aC1 hnid
 have hmp : 1 ≤ (lM (iM ns) 32).length := by
   obtain ⟨z, hz, hzp⟩ := hnp
   have := hnid z hz
   exact aBw (aEZ hz hzp) (by omega)
 have hml := xP (iM ns) 32
 refine aA rfl (aT aCw rfl (aP (yV _ _ _ _ ns _ oQ.sl (by omega) hnid hnN) ?_))
 rintro _ w189 ⟨rfl, x188⟩
 replace hs := hs.ext x188
 replace bR := bR.ext x188
 replace b18 := b18.ext x188
 replace oQ := oQ.ext x188
 replace X := dU X x188
 refine aA rfl (aT aHu rfl (aP (yT (iM ns) _ hav) ?_))
 rintro _ w191 ⟨AA, cA, rfl, oA, x190⟩
 replace oA := Own.low oA X.size
 replace hs := hs.ext x190
 replace bR := bR.ext x190
 replace b18 := b18.ext x190
 replace oQ := oQ.ext x190
 replace X := dU X x190
 obtain ⟨act, hact⟩ : ∃ l, l = lM (iM ns) 32 := ⟨_, rfl⟩
 rw [← hact] at oA hmp hml ⊢
 refine aA rfl (aC rfl (aA rfl (cX rfl rfl (aA rfl (cX rfl rfl (aA rfl (aE rfl (aA rfl (aE rfl (aB (aF (aA rfl (aO kX iO rfl rfl rfl rfl rfl ?_)))))))))))))
 intro gM0 w193 egM0 oM bbgM0 x192 zgM0
 replace oM := Own.low oM X.size
 replace hs := hs.ext x192
 replace bR := bR.ext x192
 replace b18 := b18.ext x192
 replace oQ := oQ.ext x192
 replace oA := oA.ext x192
 replace X := dU X x192
 refine aA rfl (aE rfl (aB (aF (aA rfl (aO gF eQ rfl rfl rfl rfl rfl ?_)))))
 intro gS0 w195 egS0 oS bbgS0 x194 zgS0
 replace oS := Own.low oS X.size
 replace hs := hs.ext x194
 replace bR := bR.ext x194
 replace b18 := b18.ext x194
 replace oQ := oQ.ext x194
 replace oA := oA.ext x194
 replace oM := oM.ext x194
 replace X := dU X x194
 refine aA rfl (aE rfl (aB (aF (aA rfl (aC rfl (aA rfl (aT fS rfl (aP (dN _ _ _ _ _ _ _ _ _ b18 hs hB ok hbl (by omega)) ?_))))))))
 rintro _ w197 ⟨rc, a199, sd200, rfl, hr201, ok, b198, x196⟩
 replace hs := hs.grown x196 (by intro g hg; injection hg; omega)
 replace bR := bR.grown x196 (by intro h; injection h; omega)
 replace oQ := oQ.grownBlk x196 (Own.neT oQ b18 (by decide))
 replace oA := oA.grownBlk x196 (Own.neT oA b18 (by decide))
 replace oM := oM.grownBlk x196 (Own.neT oM b18 (by decide))
 replace oS := oS.grownBlk x196 (Own.neT oS b18 (by decide))
 replace X := dI X x196
 clear x196 b18
 refine aA rfl (aY rfl rfl (dM (by omega)) (aA rfl (aE rfl (aB (aR (aF (aA rfl (aE rfl (aB (aX (dG (G := Int × List ModeI × Nat × Option Addr × Nat × List SlotI × Nat × Option Addr × Nat) (fun ⟨i, yM, nM, AM, cM, yS, nS, AS, cS⟩ => [(2, .pointer (some ⟨g2, 0, none⟩)), (3, .slice AT ys.length cT), (4, .slice AA act.length cA), (8, .int .i64 (1 + rc)), (0, .pointer (some ⟨gS, 0, none⟩)), (6, .slice AM nM cM), (7, .slice AS nS cS), (9, .int .i64 i)]) (fun ⟨i, yM, nM, AM, cM, yS, nS, AS, cS⟩ wr => (0 ≤ i ∧ i ≤ 1 + rc) ∧ nM = yM.length ∧ (nM : Int) = i ∧ (∀ y ∈ yM, mP y) ∧ Disj yM ∧ nS = yS.length ∧ ((nS : Int) ≤ 66 * i ∧ (0 < i → 0 < nS)) ∧ (∀ y ∈ yS, sP y) ∧ (∃ a sd, (a ≤ bs.length ∧ 0 ≤ sd ∧ sd < 2147483647) ∧ Blk wr gS 148 (lH A c bs a sd)) ∧ Own wr w.heap.size 92 3 AM nM cM (yM.flatMap ModeI.cells) ∧ NOwn wr w.heap.size 2 yM ∧ Own wr w.heap.size 89 8 AS nS cS (yS.flatMap SlotI.cells) ∧ Sl B wr A (bs.flatMap eB) ∧ Blk wr g2 28 [.int .i64 0, .slice none 0 0, .slice none 0 0, .slice none 0 0] ∧ Own wr w.heap.size 59 4 AT ys.length cT (ns.flatMap NodeI.cells) ∧ Own wr w.heap.size 2 1 AA act.length cA (act.flatMap eI) ∧ w.grownBy wr (some gS)) (fun ⟨i, yM, nM, AM, cM, yS, nS, AS, cS⟩ => (1 + rc - i).toNat) (0, [], 0, some ⟨gM0, 0, none⟩, 0, [], 0, some ⟨gS0, 0, none⟩, 0) (.cons rfl (.cons rfl (.cons rfl (.cons rfl (.cons rfl (.cons rfl (.cons rfl (.cons rfl (.nil _))))))))) ?_ ?_)))))))))))
 · exact ⟨(by omega), rfl, rfl, (fun y hy => by simp at hy), Disj.nil_, rfl, (by omega), (fun y hy => by simp at hy), ⟨_, _, ok, b198⟩, oM, NOwn.nil_, oS, hs, bR, oQ, oA, X⟩
 clear hs bR oQ oA oM oS b198
 clear X
 rintro ⟨i, yM, nM, AM, cM, yS, nS, AS, cS⟩ wr ⟨hi0, hnM, hnMi, hmx, hd, hnS, hnS2, hdur, qq, oM, oMx, oS, hs, bR, oQ, oA, X⟩
 obtain ⟨a, sd, ok, q⟩ := qq
 refine aR (aF (aA rfl (aC rfl (aA rfl (aC rfl (aA rfl (cU rfl rfl (fun hi => ?_) (fun hi => ?_))))))))
 refine aB (aQ rfl (aV (aS (aR (aX (aF (aA rfl (aC rfl (aA rfl (aT fS rfl (aP (dN _ _ _ _ _ _ _ _ _ q hs hB ok hbl (by omega)) ?_)))))))))))
 rintro _ w203 ⟨r1, a205, sd206, rfl, hr207, ok, b204, x202⟩
 replace oM := oM.grownBlk x202 (Own.neT oM q (by decide))
 replace oMx := oMx.grownB q x202 (by decide)
 replace oS := oS.grownBlk x202 (Own.neT oS q (by decide))
 replace hs := hs.grown x202 (by intro g hg; injection hg; omega)
 replace bR := bR.grown x202 (by intro h; injection h; omega)
 replace oQ := oQ.grownBlk x202 (Own.neT oQ q (by decide))
 replace oA := oA.grownBlk x202 (Own.neT oA q (by decide))
 replace X := dI X x202
 clear x202 q
 refine aA rfl (aY rfl rfl (dM (by omega)) (aA rfl (aC rfl (aA rfl (bO Tryz.underlying30 rfl (aA rfl (aC rfl (aA rfl (aT fS rfl (aP (dN _ _ _ _ _ _ _ _ _ b204 hs hB ok hbl (by omega)) ?_))))))))))
 rintro _ w209 ⟨r2, a211, sd212, rfl, hr213, ok, b210, x208⟩
 replace oM := oM.grownBlk x208 (Own.neT oM b204 (by decide))
 replace oMx := oMx.grownB b204 x208 (by decide)
 replace oS := oS.grownBlk x208 (Own.neT oS b204 (by decide))
 replace hs := hs.grown x208 (by intro g hg; injection hg; omega)
 replace bR := bR.grown x208 (by intro h; injection h; omega)
 replace oQ := oQ.grownBlk x208 (Own.neT oQ b204 (by decide))
 replace oA := oA.grownBlk x208 (Own.neT oA b204 (by decide))
 replace X := dI X x208
 clear x208 b204
 refine aA rfl (aY rfl rfl (dM (by omega)) (aA rfl (dA aF3 iO rfl rfl ?_)))
 have UM := fun g hg => (Own.lt oM (g := g) hg).2
 refine aA rfl (dT iO ?_)
 intro gX w215 egX b0 x214 zgX
 have lgX : w.heap.size ≤ gX := Q7l X.size (Q7e egX.symm)
 have pgXhs := Q7l hs.1 (Q7e egX.symm)
 have ngXbR := Nat.lt_of_lt_of_eq bR.lt egX.symm
 have ngXb210 := Nat.lt_of_lt_of_eq b210.lt egX.symm
 replace oM := oM.ext x214
 replace oMx := oMx.ext x214
 replace oS := oS.ext x214
 replace hs := hs.ext x214
 replace bR := bR.ext x214
 replace oQ := oQ.ext x214
 replace oA := oA.ext x214
 replace b210 := b210.ext x214
 replace X := dU X x214
 have hXM : (Value.slice AM nM cM).ownBlock ≠ some gX := fun h => by have := UM gX h; omega
 refine aA rfl (bK b0 iO rfl rfl rfl rfl rfl rfl ?_)
 intro w217 bX hg216 z218
 replace oM := oM.grownBlk hg216 hXM
 replace oMx := oMx.grownB b0 hg216 (by decide)
 replace oS := oS.grownBlk hg216 (Own.neT oS b0 (by decide))
 replace hs := hs.grown hg216 (by intro g hg; injection hg; omega)
 replace bR := bR.grown hg216 (by intro h; injection h; omega)
 replace oQ := oQ.grownBlk hg216 (Own.neT oQ b0 (by decide))
 replace oA := oA.grownBlk hg216 (Own.neT oA b0 (by decide))
 replace b210 := b210.grown hg216 (by intro h; injection h; omega)
 replace X := dV X hg216 (by intro g hg; injection hg; omega)
 clear hg216 b0
 refine aB (aR (aF (aA rfl (aC rfl (aA rfl (fG rfl rfl (fun hc => ?_) (fun hc => ?_)))))))
 refine aB (aQ rfl (aN (aA rfl (aC rfl (aA rfl (fZ rfl rfl (dM (by omega)) ?_))))))
 have UB := fun y hy g hg => (Own.lt (oMx y hy).1 (g := g) hg).2
 refine aA rfl (aO cQ dB rfl rfl rfl rfl rfl ?_)
 intro gN w220 egN oX bbgN x219 zgN
 replace oX := Own.low oX X.size
 replace oM := oM.ext x219
 replace oMx := oMx.ext x219
 replace oS := oS.ext x219
 replace hs := hs.ext x219
 replace bR := bR.ext x219
 replace oQ := oQ.ext x219
 replace oA := oA.ext x219
 replace b210 := b210.ext x219
 replace bX := bX.ext x219
 replace X := dU X x219
 replace oX := oX.to (cs' := ([1 - i] : List Int).flatMap eI) rfl
 have hspX : ∀ y ∈ yM, y.blk ≠ some gN := fun y hy e => by have := UB y hy gN e; omega
 refine aA rfl (aG lE rfl rfl (aA rfl (bK bX mD rfl rfl rfl rfl rfl rfl ?_)))
 intro w222 bY hg221 z223
 replace oM := oM.grownBlk hg221 hXM
 replace oMx := oMx.grownB bX hg221 (by decide)
 replace oS := oS.grownBlk hg221 (Own.neT oS bX (by decide))
 replace hs := hs.grown hg221 (by intro g hg; injection hg; omega)
 replace bR := bR.grown hg221 (by intro h; injection h; omega)
 replace oQ := oQ.grownBlk hg221 (Own.neT oQ bX (by decide))
 replace oA := oA.grownBlk hg221 (Own.neT oA bX (by decide))
 replace b210 := b210.grown hg221 (by intro h; injection h; omega)
 replace oX := oX.grownBlk hg221 (Own.neT oX bX (by decide))
 replace X := dV X hg221 (by intro g hg; injection hg; omega)
 clear hg221 bX
 refine aB (aS (aF (aA rfl (aC rfl (aA rfl (dE bY iO rfl rfl (aA rfl (aO kX iO rfl rfl rfl rfl rfl ?_))))))))
 intro g224 w226 eg224 oV bbg224 x225 zg224
 replace oV := Own.low oV X.size
 replace oM := oM.ext x225
 replace oMx := oMx.ext x225
 replace oS := oS.ext x225
 replace hs := hs.ext x225
 replace bR := bR.ext x225
 replace oQ := oQ.ext x225
 replace oA := oA.ext x225
 replace b210 := b210.ext x225
 replace oX := oX.ext x225
 replace bY := bY.ext x225
 replace X := dU X x225
 refine aA rfl (cH (ts := #[]) oM X.size oV.sl (by first | rfl | simp) (by first | exact List.all_eq_true.1 rfl | simp [Value.oneCell']) kX iO rfl rfl rfl rfl (by omega) (by omega) ?_)
 intro AoN coN w228 oN hg227
 replace oMx := oMx.grownO oM hg227 (by decide)
 replace oS := oS.grown hg227 (Own.neO oS oM (by decide))
 replace hs := hs.grown hg227 (fun g hg => Q7l Bhs (Own.lt oM hg).1)
 replace bR := bR.grown hg227 (fun h => Own.neT oM bR (by decide) h.symm)
 replace oQ := oQ.grown hg227 (Own.neO oQ oM (by decide))
 replace oA := oA.grown hg227 (Own.neO oA oM (by decide))
 replace b210 := b210.grown hg227 (fun h => Own.neT oM b210 (by decide) h.symm)
 replace oX := oX.grown hg227 (Own.neO oX oM (by decide))
 replace bY := bY.grown hg227 (fun h => hXM h.symm)
 replace X := dV X hg227 (fun g hg => (Own.lt oM hg).1)
 clear hg227
 obtain ⟨zM, hzl, hzx, hzd, oN, oMz⟩ : ∃ zM : List ModeI, zM.length = nM + 1 ∧ (∀ y ∈ zM, mP y) ∧ Disj zM ∧ Own _ w.heap.size 92 3 AoN (nM + 1) coN (zM.flatMap ModeI.cells) ∧ NOwn _ w.heap.size 2 zM := ⟨yM ++ [(⟨⟨1 + r1, (act.length : Nat) + r2, [1 - i]⟩, some ⟨gN, 0, none⟩, 1⟩ : ModeI)], by rw [List.length_append, hnM]; rfl, (fun y hy => by
   rcases List.mem_append.1 hy with h | h
   · exact hmx y h
   · obtain rfl : y = (⟨⟨1 + r1, (act.length : Nat) + r2, [1 - i]⟩, some ⟨gN, 0, none⟩, 1⟩ : ModeI) := by simpa using h
     refine ⟨by simp, ⟨by show 0 ≤ 1 + r1 ∧ 1 + r1 ≤ 255; omega, by show 0 ≤ ((act.length : Nat) : Int) + r2 ∧ ((act.length : Nat) : Int) + r2 ≤ 255; omega, by simp, fun v hv => ?_⟩⟩
     first
     | (simp at hv; omega)
     | simp at hv), hd.snoc (x := (⟨⟨1 + r1, (act.length : Nat) + r2, [1 - i]⟩, some ⟨gN, 0, none⟩, 1⟩ : ModeI)) (fun y hy g hg e => hspX y hy (by have h2 : gN = g := (by injection e); rw [h2]; exact hg)), oN.to (lI ModeI.cells yM (⟨⟨1 + r1, (act.length : Nat) + r2, [1 - i]⟩, some ⟨gN, 0, none⟩, 1⟩ : ModeI)).symm, oMx.snoc (x := (⟨⟨1 + r1, (act.length : Nat) + r2, [1 - i]⟩, some ⟨gN, 0, none⟩, 1⟩ : ModeI)) oX (by simp)⟩
 refine aA rfl (aE rfl (aB (aF ?_)))
 have UA := fun g hg => (Own.lt oA (g := g) hg).2
 have UB2 := fun y hy g hg => (Own.lt (oMz y hy).1 (g := g) hg).2
 refine aA rfl (aO cQ dB rfl rfl rfl rfl rfl ?_)
 intro gL w230 egL oL bbgL x229 zgL
 replace oL := Own.low oL X.size
 replace oS := oS.ext x229
 replace hs := hs.ext x229
 replace bR := bR.ext x229
 replace oQ := oQ.ext x229
 replace oA := oA.ext x229
 replace b210 := b210.ext x229
 replace bY := bY.ext x229
 replace oN := oN.ext x229
 replace oMz := oMz.ext x229
 replace X := dU X x229
 refine aA rfl (aE rfl (aB (aR (aF (aA rfl (aE rfl (aB (aX (dG (G := Int × List Int × Nat × Option Addr × Nat) (fun ⟨l, ds, nD, A2, c2⟩ => [(2, .pointer (some ⟨g2, 0, none⟩)), (3, .slice AT ys.length cT), (4, .slice AA act.length cA), (6, .slice AoN (nM + 1) coN), (7, .slice AS nS cS), (8, .int .i64 (1 + rc)), (9, .int .i64 i), (10, .pointer (some ⟨gX, 0, none⟩)), (41, .int .i64 i), (42, .int .i64 (1 + rc)), (46, .pointer (some ⟨gS, 0, none⟩)), (49, .slice AA act.length cA), (50, .int .i64 (act.length : Nat)), (51, .pointer (some ⟨gS, 0, none⟩)), (55, .int .i64 (1 + rc)), (57, .int .i64 i), (61, .slice AM nM cM), (64, .slice AoN (nM + 1) coN), (0, .pointer (some ⟨gS, 0, none⟩)), (11, .slice A2 nD c2), (12, .int .i64 l)]) (fun ⟨l, ds, nD, A2, c2⟩ wr => (0 ≤ l ∧ l ≤ (act.length : Int) + r2) ∧ nD = ds.length ∧ (nD : Int) = l ∧ (∀ z ∈ ds, 0 ≤ z ∧ z ≤ 1000) ∧ (∀ g, (Value.slice A2 nD c2).ownBlock = some g → (Value.slice AA act.length cA).ownBlock ≠ some g) ∧ (∀ y ∈ zM, ∀ g, (Value.slice A2 nD c2).ownBlock = some g → y.blk ≠ some g) ∧ (∃ a sd, (a ≤ bs.length ∧ 0 ≤ sd ∧ sd < 2147483647) ∧ Blk wr gS 148 (lH A c bs a sd)) ∧ Own wr w.heap.size 2 1 A2 nD c2 (ds.flatMap eI) ∧ Own wr w.heap.size 89 8 AS nS cS (yS.flatMap SlotI.cells) ∧ Sl B wr A (bs.flatMap eB) ∧ Blk wr g2 28 [.int .i64 0, .slice none 0 0, .slice none 0 0, .slice none 0 0] ∧ Own wr w.heap.size 59 4 AT ys.length cT (ns.flatMap NodeI.cells) ∧ Own wr w.heap.size 2 1 AA act.length cA (act.flatMap eI) ∧ Blk wr gX 92 [.int .i64 (1 + r1), .int .i64 ((act.length : Nat) + r2), .slice (some ⟨gN, 0, none⟩) 1 1] ∧ Own wr w.heap.size 92 3 AoN (nM + 1) coN (zM.flatMap ModeI.cells) ∧ NOwn wr w.heap.size 2 zM ∧ w.grownBy wr (some gS)) (fun ⟨l, ds, nD, A2, c2⟩ => ((act.length : Int) + r2 - l).toNat) (0, [], 0, some ⟨gL, 0, none⟩, 0) (.cons rfl (.cons rfl (.cons rfl (.cons rfl (.cons rfl (.cons rfl (.cons rfl (.cons rfl (.cons rfl (.cons rfl (.cons rfl (.cons rfl (.cons rfl (.cons rfl (.cons rfl (.cons rfl (.cons rfl (.cons rfl (.cons rfl (.cons rfl (.cons rfl (.nil _)))))))))))))))))))))) ?_ ?_)))))))))
 · exact ⟨(by omega), rfl, rfl, (fun y hy => by simp at hy), (fun g hg e => by have h1 := UA g e; have h2 : gL = g := (by injection hg); omega), (fun y hy g hg e => by have h1 := UB2 y hy g e; have h2 : gL = g := (by injection hg); omega), ⟨_, _, ok, b210⟩, oL, oS, hs, bR, oQ, oA, bY, oN, oMz, X⟩
 clear oS hs bR oQ oA b210 bY oN oMz oL
 clear X
 rintro ⟨l, ds, nD, A2, c2⟩ wr ⟨hl0, hnD, hnDl, hds, hspA, hspM, qq, oL, oS, hs, bR, oQ, oA, bY, oN, oMz, X⟩
 obtain ⟨a, sd, ok, q⟩ := qq
 refine aR (aF (aA rfl (aC rfl (aA rfl (aG iP rfl rfl (aA rfl (aJ bY dB rfl rfl (aA rfl (cU rfl rfl (fun hl => ?_) (fun hl => ?_))))))))))
 refine aB (aQ rfl (aV (aS (aR (aX (aN (aA rfl (aC rfl (aA rfl (aC rfl (aA rfl (aT fS rfl (aP (dN _ _ _ _ _ _ _ _ _ q hs hB ok hbl (by omega)) ?_)))))))))))))
 rintro _ w232 ⟨rd, a234, sd235, rfl, hr236, ok, b233, x231⟩
 replace oL := oL.grownBlk x231 (Own.neT oL q (by decide))
 replace oS := oS.grownBlk x231 (Own.neT oS q (by decide))
 replace hs := hs.grown x231 (by intro g hg; injection hg; omega)
 replace bR := bR.grown x231 (by intro h; injection h; omega)
 replace oQ := oQ.grownBlk x231 (Own.neT oQ q (by decide))
 replace oA := oA.grownBlk x231 (Own.neT oA q (by decide))
 replace bY := bY.grown x231 (by intro h; injection h; omega)
 replace oN := oN.grownBlk x231 (Own.neT oN q (by decide))
 replace oMz := oMz.grownB q x231 (by decide)
 replace X := dI X x231
 clear x231 q
 refine aA rfl (aY rfl rfl (dM (by omega)) (aA rfl (aO cQ dB rfl rfl rfl rfl rfl ?_)))
 intro g237 w239 eg237 oV bbg237 x238 zg237
 replace oV := Own.low oV X.size
 replace oL := oL.ext x238
 replace oS := oS.ext x238
 replace hs := hs.ext x238
 replace bR := bR.ext x238
 replace oQ := oQ.ext x238
 replace oA := oA.ext x238
 replace bY := bY.ext x238
 replace oN := oN.ext x238
 replace oMz := oMz.ext x238
 replace b233 := b233.ext x238
 replace X := dU X x238
 replace oV := oV.to (cs' := ([260 + rd] : List Int).flatMap eI) rfl
 have UA := fun g hg => (Own.lt oA (g := g) hg).2
 have UB2 := fun y hy g hg => (Own.lt (oMz y hy).1 (g := g) hg).2
 refine aA rfl (sR (ts := #[]) oL X.size oV.sl (by first | rfl | simp) (by first | exact List.all_eq_true.1 rfl | simp [Value.oneCell']) cQ dB rfl rfl rfl rfl (by omega) (by omega) ?_)
 intro AoW coW w241 oW hg240 hW
 replace oS := oS.grown hg240 (Own.neO oS oL (by decide))
 replace hs := hs.grown hg240 (fun g hg => Q7l Bhs (Own.lt oL hg).1)
 replace bR := bR.grown hg240 (fun h => Own.neT oL bR (by decide) h.symm)
 replace oQ := oQ.grown hg240 (Own.neO oQ oL (by decide))
 replace oA := oA.grown hg240 hspA
 replace bY := bY.grown hg240 (fun h => Own.neT oL bY (by decide) h.symm)
 replace oN := oN.grown hg240 (Own.neO oN oL (by decide))
 replace oMz := oMz.grownX hg240 hspM
 replace b233 := b233.grown hg240 (fun h => Own.neT oL b233 (by decide) h.symm)
 replace X := dV X hg240 (fun g hg => (Own.lt oL hg).1)
 clear hg240
 have hspA2 := qT hspA hW UA
 have hspM2 := fun y hy => qT (hspM y hy) hW (UB2 y hy)
 refine aA rfl (aE rfl (aB (dO (aS (aN (aA rfl (aC rfl (aA rfl (aY rfl rfl (dM (by omega)) (aA rfl (aE rfl (aB (aS ⟨(l + 1, ds ++ [260 + rd], nD + 1, AoW, coW), (.cons rfl (.cons rfl (.cons rfl (.cons rfl (.cons rfl (.cons rfl (.cons rfl (.cons rfl (.cons rfl (.cons rfl (.cons rfl (.cons rfl (.cons rfl (.cons rfl (.cons rfl (.cons rfl (.cons rfl (.cons rfl (.cons rfl (.cons rfl (.cons rfl (.nil _)))))))))))))))))))))), ?_, ?_⟩)))))))))))))
 · skip
   exact ⟨(by omega), (by simp [hnD]), (by omega), (fun z hz => by
     rcases List.mem_append.1 hz with h | h
     · exact hds z h
     · obtain rfl : z = 260 + rd := by simpa using h
       omega), hspA2, hspM2, ⟨_, _, ok, b233⟩, oW.to (lI eI ds _).symm, oS, hs, bR, oQ, oA, bY, oN, oMz, X⟩
 · first | omega | (dsimp only; omega)
 refine aB (aM rfl (dD (dC (dC (eG (aS (aF (aA rfl (aE rfl (aB (aX (dG (G := Int × List SlotI × Nat × Option Addr × Nat) (fun ⟨j, yS, nS, AS, cS⟩ => [(2, .pointer (some ⟨g2, 0, none⟩)), (3, .slice AT ys.length cT), (4, .slice AA act.length cA), (6, .slice AoN (nM + 1) coN), (8, .int .i64 (1 + rc)), (9, .int .i64 i), (10, .pointer (some ⟨gX, 0, none⟩)), (11, .slice A2 nD c2), (12, .int .i64 l), (41, .int .i64 i), (42, .int .i64 (1 + rc)), (46, .pointer (some ⟨gS, 0, none⟩)), (49, .slice AA act.length cA), (50, .int .i64 (act.length : Nat)), (51, .pointer (some ⟨gS, 0, none⟩)), (55, .int .i64 (1 + rc)), (57, .int .i64 i), (61, .slice AM nM cM), (64, .slice AoN (nM + 1) coN), (66, .int .i64 l), (0, .pointer (some ⟨gS, 0, none⟩)), (7, .slice AS nS cS), (13, .int .i64 j)]) (fun ⟨j, yS, nS, AS, cS⟩ wr => (0 ≤ j ∧ j ≤ 1 + r1) ∧ ((nS : Int) ≤ 66 * i + 33 * j ∧ (0 < i ∨ 0 < j → 0 < nS)) ∧ nS = yS.length ∧ (∀ y ∈ yS, sP y) ∧ (∃ a sd, (a ≤ bs.length ∧ 0 ≤ sd ∧ sd < 2147483647) ∧ Blk wr gS 148 (lH A c bs a sd)) ∧ Own wr w.heap.size 89 8 AS nS cS (yS.flatMap SlotI.cells) ∧ Own wr w.heap.size 2 1 A2 nD c2 (ds.flatMap eI) ∧ Sl B wr A (bs.flatMap eB) ∧ Blk wr g2 28 [.int .i64 0, .slice none 0 0, .slice none 0 0, .slice none 0 0] ∧ Own wr w.heap.size 59 4 AT ys.length cT (ns.flatMap NodeI.cells) ∧ Own wr w.heap.size 2 1 AA act.length cA (act.flatMap eI) ∧ Blk wr gX 92 [.int .i64 (1 + r1), .int .i64 ((act.length : Nat) + r2), .slice (some ⟨gN, 0, none⟩) 1 1] ∧ Own wr w.heap.size 92 3 AoN (nM + 1) coN (zM.flatMap ModeI.cells) ∧ NOwn wr w.heap.size 2 zM ∧ w.grownBy wr (some gS)) (fun ⟨j, yS, nS, AS, cS⟩ => (1 + r1 - j).toNat) (0, yS, nS, AS, cS) (.cons rfl (.cons rfl (.cons rfl (.cons rfl (.cons rfl (.cons rfl (.cons rfl (.cons rfl (.cons rfl (.cons rfl (.cons rfl (.cons rfl (.cons rfl (.cons rfl (.cons rfl (.cons rfl (.cons rfl (.cons rfl (.cons rfl (.cons rfl (.cons rfl (.cons rfl (.cons rfl (.nil _)))))))))))))))))))))))) ?_ ?_))))))))))))
 · exact ⟨(by omega), (by omega), hnS, hdur, ⟨_, _, ok, q⟩, oS, oL, hs, bR, oQ, oA, bY, oN, oMz, X⟩
 clear oL oS hs bR oQ oA bY oN oMz q
 clear X
 rintro ⟨j, yS, nS, AS, cS⟩ wr ⟨hj0, hnS3, hnS, hdur, qq, oS, oL, hs, bR, oQ, oA, bY, oN, oMz, X⟩
 obtain ⟨a, sd, ok, q⟩ := qq
 refine aR (aF (aA rfl (aC rfl (aA rfl (aG kQ rfl rfl (aA rfl (aJ bY dB rfl rfl (aA rfl (cU rfl rfl (fun hj => ?_) (fun hj => ?_))))))))))
 refine aB (aQ rfl (aV (aS (aR (aX (aF (aA rfl (aE rfl (aB (aX (dG (G := Int × List SlotI × Nat × Option Addr × Nat) (fun ⟨u, yS, nS, AS, cS⟩ => [(2, .pointer (some ⟨g2, 0, none⟩)), (3, .slice AT ys.length cT), (4, .slice AA act.length cA), (6, .slice AoN (nM + 1) coN), (8, .int .i64 (1 + rc)), (9, .int .i64 i), (10, .pointer (some ⟨gX, 0, none⟩)), (11, .slice A2 nD c2), (12, .int .i64 l), (13, .int .i64 j), (41, .int .i64 i), (42, .int .i64 (1 + rc)), (46, .pointer (some ⟨gS, 0, none⟩)), (49, .slice AA act.length cA), (50, .int .i64 (act.length : Nat)), (51, .pointer (some ⟨gS, 0, none⟩)), (55, .int .i64 (1 + rc)), (57, .int .i64 i), (61, .slice AM nM cM), (64, .slice AoN (nM + 1) coN), (66, .int .i64 l), (78, .int .i64 j), (0, .pointer (some ⟨gS, 0, none⟩)), (7, .slice AS nS cS), (14, .int .i64 u)]) (fun ⟨u, yS, nS, AS, cS⟩ wr => (0 ≤ u ∧ u ≤ (act.length : Int) + r2) ∧ ((nS : Int) ≤ 66 * i + 33 * j + u ∧ (0 < i ∨ 0 < j ∨ 0 < u → 0 < nS)) ∧ nS = yS.length ∧ (∀ y ∈ yS, sP y) ∧ (∃ a sd, (a ≤ bs.length ∧ 0 ≤ sd ∧ sd < 2147483647) ∧ Blk wr gS 148 (lH A c bs a sd)) ∧ Own wr w.heap.size 89 8 AS nS cS (yS.flatMap SlotI.cells) ∧ Own wr w.heap.size 2 1 A2 nD c2 (ds.flatMap eI) ∧ Sl B wr A (bs.flatMap eB) ∧ Blk wr g2 28 [.int .i64 0, .slice none 0 0, .slice none 0 0, .slice none 0 0] ∧ Own wr w.heap.size 59 4 AT ys.length cT (ns.flatMap NodeI.cells) ∧ Own wr w.heap.size 2 1 AA act.length cA (act.flatMap eI) ∧ Blk wr gX 92 [.int .i64 (1 + r1), .int .i64 ((act.length : Nat) + r2), .slice (some ⟨gN, 0, none⟩) 1 1] ∧ Own wr w.heap.size 92 3 AoN (nM + 1) coN (zM.flatMap ModeI.cells) ∧ NOwn wr w.heap.size 2 zM ∧ w.grownBy wr (some gS)) (fun ⟨u, yS, nS, AS, cS⟩ => ((act.length : Int) + r2 - u).toNat) (0, yS, nS, AS, cS) (.cons rfl (.cons rfl (.cons rfl (.cons rfl (.cons rfl (.cons rfl (.cons rfl (.cons rfl (.cons rfl (.cons rfl (.cons rfl (.cons rfl (.cons rfl (.cons rfl (.cons rfl (.cons rfl (.cons rfl (.cons rfl (.cons rfl (.cons rfl (.cons rfl (.cons rfl (.cons rfl (.cons rfl (.cons rfl (.nil _)))))))))))))))))))))))))) ?_ ?_)))))))))))
 · exact ⟨(by omega), (by omega), hnS, hdur, ⟨_, _, ok, q⟩, oS, oL, hs, bR, oQ, oA, bY, oN, oMz, X⟩
 clear oS oL hs bR oQ oA bY oN oMz q
 clear X
 rintro ⟨u, yS, nS, AS, cS⟩ wr ⟨hu0, hnS4, hnS, hdur, qq, oS, oL, hs, bR, oQ, oA, bY, oN, oMz, X⟩
 obtain ⟨a, sd, ok, q⟩ := qq
 refine aR (aF (aA rfl (aC rfl (aA rfl (aG iP rfl rfl (aA rfl (aJ bY dB rfl rfl (aA rfl (cU rfl rfl (fun hu => ?_) (fun hu => ?_))))))))))
 refine aB (aQ rfl (aV (aS (aR (aX (aF (aA rfl (aC rfl (aA rfl (aT aCx rfl (aP (uJ _ _ _ _ _ _ _ _ q hs hB ok hbl) ?_)))))))))))
 rintro _ w243 ⟨d, a245, sd246, rfl, hpd, ok, b244, x242⟩
 replace oS := oS.grownBlk x242 (Own.neT oS q (by decide))
 replace oL := oL.grownBlk x242 (Own.neT oL q (by decide))
 replace hs := hs.grown x242 (by intro g hg; injection hg; omega)
 replace bR := bR.grown x242 (by intro h; injection h; omega)
 replace oQ := oQ.grownBlk x242 (Own.neT oQ q (by decide))
 replace oA := oA.grownBlk x242 (Own.neT oA q (by decide))
 replace bY := bY.grown x242 (by intro h; injection h; omega)
 replace oN := oN.grownBlk x242 (Own.neT oN q (by decide))
 replace oMz := oMz.grownB q x242 (by decide)
 replace X := dI X x242
 clear x242 q
 refine aA rfl (dT fU ?_)
 intro gD w248 egD b9 x247 zgD
 have lgD : w.heap.size ≤ gD := Q7l X.size (Q7e egD.symm)
 have pgDhs := Q7l hs.1 (Q7e egD.symm)
 have ngDbR := Nat.lt_of_lt_of_eq bR.lt egD.symm
 have ngDbY := Nat.lt_of_lt_of_eq bY.lt egD.symm
 have ngDb244 := Nat.lt_of_lt_of_eq b244.lt egD.symm
 replace oS := oS.ext x247
 replace oL := oL.ext x247
 replace hs := hs.ext x247
 replace bR := bR.ext x247
 replace oQ := oQ.ext x247
 replace oA := oA.ext x247
 replace bY := bY.ext x247
 replace oN := oN.ext x247
 replace oMz := oMz.ext x247
 replace b244 := b244.ext x247
 replace X := dU X x247
 refine aA rfl (bK b9 fU rfl rfl rfl rfl rfl rfl ?_)
 intro w250 bD hg249 z251
 replace oS := oS.grownBlk hg249 (Own.neT oS b9 (by decide))
 replace oL := oL.grownBlk hg249 (Own.neT oL b9 (by decide))
 replace hs := hs.grown hg249 (by intro g hg; injection hg; omega)
 replace bR := bR.grown hg249 (by intro h; injection h; omega)
 replace oQ := oQ.grownBlk hg249 (Own.neT oQ b9 (by decide))
 replace oA := oA.grownBlk hg249 (Own.neT oA b9 (by decide))
 replace bY := bY.grown hg249 (by intro h; injection h; omega)
 replace oN := oN.grownBlk hg249 (Own.neT oN b9 (by decide))
 replace oMz := oMz.grownB b9 hg249 (by decide)
 replace b244 := b244.grown hg249 (by intro h; injection h; omega)
 replace X := dV X hg249 (by intro g hg; injection hg; omega)
 clear hg249 b9
 refine aB (aF (aA rfl (aC rfl (aA rfl (aC rfl (aA rfl (aC rfl (aA rfl (bO Tryz.underlying30 rfl ?_)))))))))
 have hmz := Int.emod_nonneg u (show (act.length : Int) ≠ 0 by omega)
 have hmz2 := Int.emod_lt_of_pos u (show (0 : Int) < act.length by omega)
 obtain ⟨z, hz⟩ : ∃ z, act[(u % (act.length : Int)).toNat]? = some z := ⟨_, List.getElem?_eq_getElem (by omega)⟩
 refine aA rfl (fK rfl rfl (by omega) (qZ (by omega)) (aA rfl (aU (oA).sl bI rfl cQ rfl rfl rfl hz (Int.toNat_of_nonneg hmz).symm (aA rfl (bS (oA).sl bI hz dB rfl rfl rfl (aA rfl (aG kA rfl rfl (aA rfl (bK bD dB rfl rfl rfl rfl rfl rfl ?_)))))))))
 intro w253 bE hg252 z254
 replace oS := oS.grownBlk hg252 (Own.neT oS bD (by decide))
 replace oL := oL.grownBlk hg252 (Own.neT oL bD (by decide))
 replace hs := hs.grown hg252 (by intro g hg; injection hg; omega)
 replace bR := bR.grown hg252 (by intro h; injection h; omega)
 replace oQ := oQ.grownBlk hg252 (Own.neT oQ bD (by decide))
 replace oA := oA.grownBlk hg252 (Own.neT oA bD (by decide))
 replace bY := bY.grown hg252 (by intro h; injection h; omega)
 replace oN := oN.grownBlk hg252 (Own.neT oN bD (by decide))
 replace oMz := oMz.grownB bD hg252 (by decide)
 replace b244 := b244.grown hg252 (by intro h; injection h; omega)
 replace X := dV X hg252 (by intro g hg; injection hg; omega)
 clear hg252 bD
 refine aB (aR (aF (aA rfl (aG fM rfl rfl (aA rfl (aJ bE dB rfl rfl (aA rfl (dP rfl rfl (fun hk3 => ?_) (fun hk3 => ?_)))))))))
 refine aA rfl (aC rfl (aI rfl rfl rfl (aC rfl (aI rfl rfl rfl (fG rfl rfl (fun hi9 => ?_) (fun hi9 => ?_))))))
 refine aA rfl (aK rfl rfl (aB (aQ rfl (aN (aA rfl (aG fM rfl rfl (aA rfl (bK bE dB rfl rfl rfl rfl rfl rfl ?_))))))))
 intro w256 bF hg255 z257
 replace oS := oS.grownBlk hg255 (Own.neT oS bE (by decide))
 replace oL := oL.grownBlk hg255 (Own.neT oL bE (by decide))
 replace hs := hs.grown hg255 (by intro g hg; injection hg; omega)
 replace bR := bR.grown hg255 (by intro h; injection h; omega)
 replace oQ := oQ.grownBlk hg255 (Own.neT oQ bE (by decide))
 replace oA := oA.grownBlk hg255 (Own.neT oA bE (by decide))
 replace bY := bY.grown hg255 (by intro h; injection h; omega)
 replace oN := oN.grownBlk hg255 (Own.neT oN bE (by decide))
 replace oMz := oMz.grownB bE hg255 (by decide)
 replace b244 := b244.grown hg255 (by intro h; injection h; omega)
 replace X := dV X hg255 (by intro g hg; injection hg; omega)
 clear hg255 bE
 refine aB (aS (aF (aA rfl (aC rfl (aA rfl (aC rfl ?_))))))
 obtain ⟨y, hy⟩ : ∃ y, ds[u.toNat]? = some y := ⟨_, List.getElem?_eq_getElem (by omega)⟩
 have hyb := hds y (List.mem_of_getElem? hy)
 refine aA rfl (aU (oL).sl bI rfl cQ rfl hnD rfl hy (by omega) (aA rfl (bS (oL).sl bI hy dB rfl rfl rfl (aA rfl (aG fC rfl rfl (aA rfl (bK bF dB rfl rfl rfl rfl rfl rfl ?_)))))))
 intro w259 bG hg258 z260
 replace oS := oS.grownBlk hg258 (Own.neT oS bF (by decide))
 replace oL := oL.grownBlk hg258 (Own.neT oL bF (by decide))
 replace hs := hs.grown hg258 (by intro g hg; injection hg; omega)
 replace bR := bR.grown hg258 (by intro h; injection h; omega)
 replace oQ := oQ.grownBlk hg258 (Own.neT oQ bF (by decide))
 replace oA := oA.grownBlk hg258 (Own.neT oA bF (by decide))
 replace bY := bY.grown hg258 (by intro h; injection h; omega)
 replace oN := oN.grownBlk hg258 (Own.neT oN bF (by decide))
 replace oMz := oMz.grownB bF hg258 (by decide)
 replace b244 := b244.grown hg258 (by intro h; injection h; omega)
 replace X := dV X hg258 (by intro g hg; injection hg; omega)
 clear hg258 bF
 obtain ⟨dd, hdd, bG⟩ : ∃ dd : Desc, ((0 ≤ dd.duration ∧ dd.duration ≤ 1000) ∧ wQ dd) ∧ Blk _ gD 67 dd.cells := ⟨⟨z, 1, d.size, y, d.change⟩, ⟨hyb, ⟨kD (hact ▸ List.mem_of_getElem? hz), (by first | exact hpd.2.1 | exact ⟨show (0 : Int) ≤ 1 by decide, show (1 : Int) ≤ 3 by decide⟩), ⟨hpd.1.1, Int.le_trans hpd.1.2 (by decide)⟩, hyb⟩⟩, bG⟩
 refine aB (aN (aA rfl (aC rfl (aA rfl (aC rfl (aA rfl (aC rfl (aA rfl (aC rfl (aA rfl (dE bG fU rfl rfl (aA rfl (dA qY eQ rfl rfl (aA rfl (aO gF eQ rfl rfl rfl rfl rfl ?_)))))))))))))))
 intro g261 w263 eg261 oV bbg261 x262 zg261
 replace oV := Own.low oV X.size
 replace oS := oS.ext x262
 replace oL := oL.ext x262
 replace hs := hs.ext x262
 replace bR := bR.ext x262
 replace oQ := oQ.ext x262
 replace oA := oA.ext x262
 replace bY := bY.ext x262
 replace oN := oN.ext x262
 replace oMz := oMz.ext x262
 replace b244 := b244.ext x262
 replace bG := bG.ext x262
 replace X := dU X x262
 refine aA rfl (cH (ts := #[]) oS X.size oV.sl (by first | rfl | simp) (by first | exact List.all_eq_true.1 rfl | simp [Value.oneCell']) gF eQ rfl rfl rfl rfl (by omega) (by omega) ?_)
 intro AoW coW w265 oW hg264
 replace oL := oL.grown hg264 (Own.neO oL oS (by decide))
 replace hs := hs.grown hg264 (fun g hg => Q7l Bhs (Own.lt oS hg).1)
 replace bR := bR.grown hg264 (fun h => Own.neT oS bR (by decide) h.symm)
 replace oQ := oQ.grown hg264 (Own.neO oQ oS (by decide))
 replace oA := oA.grown hg264 (Own.neO oA oS (by decide))
 replace bY := bY.grown hg264 (fun h => Own.neT oS bY (by decide) h.symm)
 replace oN := oN.grown hg264 (Own.neO oN oS (by decide))
 replace oMz := oMz.grownO oS hg264 (by decide)
 replace b244 := b244.grown hg264 (fun h => Own.neT oS b244 (by decide) h.symm)
 replace bG := bG.grown hg264 (fun h => Own.neT oS bG (by decide) h.symm)
 replace X := dV X hg264 (fun g hg => (Own.lt oS hg).1)
 clear hg264
 refine aA rfl (aE rfl (aB (dO (aS (aN (aA rfl (aC rfl (aA rfl (aY rfl rfl (dM (by omega)) (aA rfl (aE rfl (aB (aS ⟨(u + 1, yS ++ [⟨i, j, u, dd⟩], nS + 1, AoW, coW), (.cons rfl (.cons rfl (.cons rfl (.cons rfl (.cons rfl (.cons rfl (.cons rfl (.cons rfl (.cons rfl (.cons rfl (.cons rfl (.cons rfl (.cons rfl (.cons rfl (.cons rfl (.cons rfl (.cons rfl (.cons rfl (.cons rfl (.cons rfl (.cons rfl (.cons rfl (.cons rfl (.cons rfl (.cons rfl (.nil _)))))))))))))))))))))))))), ?_, ?_⟩)))))))))))))
 · skip
   exact ⟨(by omega), (by omega), (by simp [hnS]), (fun y hy => by
     rcases List.mem_append.1 hy with h | h
     · exact hdur y h
     · obtain rfl : y = ⟨i, j, u, dd⟩ := by simpa using h
       exact ⟨hdd.1, ⟨by show 0 ≤ i ∧ i ≤ 15; omega, by show 0 ≤ j ∧ j ≤ 7; omega, by show 0 ≤ u ∧ u ≤ 63; omega, hdd.2⟩⟩), ⟨_, _, ok, b244⟩, oW.to (lI SlotI.cells yS ⟨i, j, u, dd⟩).symm, oL, hs, bR, oQ, oA, bY, oN, oMz, X⟩
 · first | omega | (dsimp only; omega)
 refine aA rfl (aK rfl rfl (aB (aM rfl (aV (aS (aF (aA rfl (aC rfl (aA rfl (aC rfl ?_))))))))))
 obtain ⟨y, hy⟩ : ∃ y, ds[u.toNat]? = some y := ⟨_, List.getElem?_eq_getElem (by omega)⟩
 have hyb := hds y (List.mem_of_getElem? hy)
 refine aA rfl (aU (oL).sl bI rfl cQ rfl hnD rfl hy (by omega) (aA rfl (bS (oL).sl bI hy dB rfl rfl rfl (aA rfl (aG fC rfl rfl (aA rfl (bK bE dB rfl rfl rfl rfl rfl rfl ?_)))))))
 intro w267 bG hg266 z268
 replace oS := oS.grownBlk hg266 (Own.neT oS bE (by decide))
 replace oL := oL.grownBlk hg266 (Own.neT oL bE (by decide))
 replace hs := hs.grown hg266 (by intro g hg; injection hg; omega)
 replace bR := bR.grown hg266 (by intro h; injection h; omega)
 replace oQ := oQ.grownBlk hg266 (Own.neT oQ bE (by decide))
 replace oA := oA.grownBlk hg266 (Own.neT oA bE (by decide))
 replace bY := bY.grown hg266 (by intro h; injection h; omega)
 replace oN := oN.grownBlk hg266 (Own.neT oN bE (by decide))
 replace oMz := oMz.grownB bE hg266 (by decide)
 replace b244 := b244.grown hg266 (by intro h; injection h; omega)
 replace X := dV X hg266 (by intro g hg; injection hg; omega)
 clear hg266 bE
 obtain ⟨dd, hdd, bG⟩ : ∃ dd : Desc, ((0 ≤ dd.duration ∧ dd.duration ≤ 1000) ∧ wQ dd) ∧ Blk _ gD 67 dd.cells := ⟨⟨z, d.kind, d.size, y, d.change⟩, ⟨hyb, ⟨kD (hact ▸ List.mem_of_getElem? hz), (by first | exact hpd.2.1 | exact ⟨show (0 : Int) ≤ 1 by decide, show (1 : Int) ≤ 3 by decide⟩), ⟨hpd.1.1, Int.le_trans hpd.1.2 (by decide)⟩, hyb⟩⟩, bG⟩
 refine aB (aN (aA rfl (aC rfl (aA rfl (aC rfl (aA rfl (aC rfl (aA rfl (aC rfl (aA rfl (dE bG fU rfl rfl (aA rfl (dA qY eQ rfl rfl (aA rfl (aO gF eQ rfl rfl rfl rfl rfl ?_)))))))))))))))
 intro g269 w271 eg269 oV bbg269 x270 zg269
 replace oV := Own.low oV X.size
 replace oS := oS.ext x270
 replace oL := oL.ext x270
 replace hs := hs.ext x270
 replace bR := bR.ext x270
 replace oQ := oQ.ext x270
 replace oA := oA.ext x270
 replace bY := bY.ext x270
 replace oN := oN.ext x270
 replace oMz := oMz.ext x270
 replace b244 := b244.ext x270
 replace bG := bG.ext x270
 replace X := dU X x270
 refine aA rfl (cH (ts := #[]) oS X.size oV.sl (by first | rfl | simp) (by first | exact List.all_eq_true.1 rfl | simp [Value.oneCell']) gF eQ rfl rfl rfl rfl (by omega) (by omega) ?_)
 intro AoW coW w273 oW hg272
 replace oL := oL.grown hg272 (Own.neO oL oS (by decide))
 replace hs := hs.grown hg272 (fun g hg => Q7l Bhs (Own.lt oS hg).1)
 replace bR := bR.grown hg272 (fun h => Own.neT oS bR (by decide) h.symm)
 replace oQ := oQ.grown hg272 (Own.neO oQ oS (by decide))
 replace oA := oA.grown hg272 (Own.neO oA oS (by decide))
 replace bY := bY.grown hg272 (fun h => Own.neT oS bY (by decide) h.symm)
 replace oN := oN.grown hg272 (Own.neO oN oS (by decide))
 replace oMz := oMz.grownO oS hg272 (by decide)
 replace b244 := b244.grown hg272 (fun h => Own.neT oS b244 (by decide) h.symm)
 replace bG := bG.grown hg272 (fun h => Own.neT oS bG (by decide) h.symm)
 replace X := dV X hg272 (fun g hg => (Own.lt oS hg).1)
 clear hg272
 refine aA rfl (aE rfl (aB (dO (aS (aN (aA rfl (aC rfl (aA rfl (aY rfl rfl (dM (by omega)) (aA rfl (aE rfl (aB (aS ⟨(u + 1, yS ++ [⟨i, j, u, dd⟩], nS + 1, AoW, coW), (.cons rfl (.cons rfl (.cons rfl (.cons rfl (.cons rfl (.cons rfl (.cons rfl (.cons rfl (.cons rfl (.cons rfl (.cons rfl (.cons rfl (.cons rfl (.cons rfl (.cons rfl (.cons rfl (.cons rfl (.cons rfl (.cons rfl (.cons rfl (.cons rfl (.cons rfl (.cons rfl (.cons rfl (.cons rfl (.nil _)))))))))))))))))))))))))), ?_, ?_⟩)))))))))))))
 · skip
   exact ⟨(by omega), (by omega), (by simp [hnS]), (fun y hy => by
     rcases List.mem_append.1 hy with h | h
     · exact hdur y h
     · obtain rfl : y = ⟨i, j, u, dd⟩ := by simpa using h
       exact ⟨hdd.1, ⟨by show 0 ≤ i ∧ i ≤ 15; omega, by show 0 ≤ j ∧ j ≤ 7; omega, by show 0 ≤ u ∧ u ≤ 63; omega, hdd.2⟩⟩), ⟨_, _, ok, b244⟩, oW.to (lI SlotI.cells yS ⟨i, j, u, dd⟩).symm, oL, hs, bR, oQ, oA, bY, oN, oMz, X⟩
 · first | omega | (dsimp only; omega)
 refine aA rfl (aC rfl (aH rfl rfl rfl rfl (aH rfl rfl rfl rfl (aA rfl (aK rfl rfl (aB (aM rfl (aV (aS (aF (aA rfl (aC rfl (aA rfl (aC rfl ?_))))))))))))))
 obtain ⟨y, hy⟩ : ∃ y, ds[u.toNat]? = some y := ⟨_, List.getElem?_eq_getElem (by omega)⟩
 have hyb := hds y (List.mem_of_getElem? hy)
 refine aA rfl (aU (oL).sl bI rfl cQ rfl hnD rfl hy (by omega) (aA rfl (bS (oL).sl bI hy dB rfl rfl rfl (aA rfl (aG fC rfl rfl (aA rfl (bK bE dB rfl rfl rfl rfl rfl rfl ?_)))))))
 intro w275 bG hg274 z276
 replace oS := oS.grownBlk hg274 (Own.neT oS bE (by decide))
 replace oL := oL.grownBlk hg274 (Own.neT oL bE (by decide))
 replace hs := hs.grown hg274 (by intro g hg; injection hg; omega)
 replace bR := bR.grown hg274 (by intro h; injection h; omega)
 replace oQ := oQ.grownBlk hg274 (Own.neT oQ bE (by decide))
 replace oA := oA.grownBlk hg274 (Own.neT oA bE (by decide))
 replace bY := bY.grown hg274 (by intro h; injection h; omega)
 replace oN := oN.grownBlk hg274 (Own.neT oN bE (by decide))
 replace oMz := oMz.grownB bE hg274 (by decide)
 replace b244 := b244.grown hg274 (by intro h; injection h; omega)
 replace X := dV X hg274 (by intro g hg; injection hg; omega)
 clear hg274 bE
 obtain ⟨dd, hdd, bG⟩ : ∃ dd : Desc, ((0 ≤ dd.duration ∧ dd.duration ≤ 1000) ∧ wQ dd) ∧ Blk _ gD 67 dd.cells := ⟨⟨z, d.kind, d.size, y, d.change⟩, ⟨hyb, ⟨kD (hact ▸ List.mem_of_getElem? hz), (by first | exact hpd.2.1 | exact ⟨show (0 : Int) ≤ 1 by decide, show (1 : Int) ≤ 3 by decide⟩), ⟨hpd.1.1, Int.le_trans hpd.1.2 (by decide)⟩, hyb⟩⟩, bG⟩
 refine aB (aN (aA rfl (aC rfl (aA rfl (aC rfl (aA rfl (aC rfl (aA rfl (aC rfl (aA rfl (dE bG fU rfl rfl (aA rfl (dA qY eQ rfl rfl (aA rfl (aO gF eQ rfl rfl rfl rfl rfl ?_)))))))))))))))
 intro g277 w279 eg277 oV bbg277 x278 zg277
 replace oV := Own.low oV X.size
 replace oS := oS.ext x278
 replace oL := oL.ext x278
 replace hs := hs.ext x278
 replace bR := bR.ext x278
 replace oQ := oQ.ext x278
 replace oA := oA.ext x278
 replace bY := bY.ext x278
 replace oN := oN.ext x278
 replace oMz := oMz.ext x278
 replace b244 := b244.ext x278
 replace bG := bG.ext x278
 replace X := dU X x278
 refine aA rfl (cH (ts := #[]) oS X.size oV.sl (by first | rfl | simp) (by first | exact List.all_eq_true.1 rfl | simp [Value.oneCell']) gF eQ rfl rfl rfl rfl (by omega) (by omega) ?_)
 intro AoW coW w281 oW hg280
 replace oL := oL.grown hg280 (Own.neO oL oS (by decide))
 replace hs := hs.grown hg280 (fun g hg => Q7l Bhs (Own.lt oS hg).1)
 replace bR := bR.grown hg280 (fun h => Own.neT oS bR (by decide) h.symm)
 replace oQ := oQ.grown hg280 (Own.neO oQ oS (by decide))
 replace oA := oA.grown hg280 (Own.neO oA oS (by decide))
 replace bY := bY.grown hg280 (fun h => Own.neT oS bY (by decide) h.symm)
 replace oN := oN.grown hg280 (Own.neO oN oS (by decide))
 replace oMz := oMz.grownO oS hg280 (by decide)
 replace b244 := b244.grown hg280 (fun h => Own.neT oS b244 (by decide) h.symm)
 replace bG := bG.grown hg280 (fun h => Own.neT oS bG (by decide) h.symm)
 replace X := dV X hg280 (fun g hg => (Own.lt oS hg).1)
 clear hg280
 refine aA rfl (aE rfl (aB (dO (aS (aN (aA rfl (aC rfl (aA rfl (aY rfl rfl (dM (by omega)) (aA rfl (aE rfl (aB (aS ⟨(u + 1, yS ++ [⟨i, j, u, dd⟩], nS + 1, AoW, coW), (.cons rfl (.cons rfl (.cons rfl (.cons rfl (.cons rfl (.cons rfl (.cons rfl (.cons rfl (.cons rfl (.cons rfl (.cons rfl (.cons rfl (.cons rfl (.cons rfl (.cons rfl (.cons rfl (.cons rfl (.cons rfl (.cons rfl (.cons rfl (.cons rfl (.cons rfl (.cons rfl (.cons rfl (.cons rfl (.nil _)))))))))))))))))))))))))), ?_, ?_⟩)))))))))))))
 · skip
   exact ⟨(by omega), (by omega), (by simp [hnS]), (fun y hy => by
     rcases List.mem_append.1 hy with h | h
     · exact hdur y h
     · obtain rfl : y = ⟨i, j, u, dd⟩ := by simpa using h
       exact ⟨hdd.1, ⟨by show 0 ≤ i ∧ i ≤ 15; omega, by show 0 ≤ j ∧ j ≤ 7; omega, by show 0 ≤ u ∧ u ≤ 63; omega, hdd.2⟩⟩), ⟨_, _, ok, b244⟩, oW.to (lI SlotI.cells yS ⟨i, j, u, dd⟩).symm, oL, hs, bR, oQ, oA, bY, oN, oMz, X⟩
 · first | omega | (dsimp only; omega)
 refine aB (aM rfl (dD (dC (dC (eG (dO (aS (aN (aA rfl (aC rfl (aA rfl (aY rfl rfl (dM (by omega)) (aA rfl (aE rfl (aB (aS ⟨(j + 1, yS, nS, AS, cS), (.cons rfl (.cons rfl (.cons rfl (.cons rfl (.cons rfl (.cons rfl (.cons rfl (.cons rfl (.cons rfl (.cons rfl (.cons rfl (.cons rfl (.cons rfl (.cons rfl (.cons rfl (.cons rfl (.cons rfl (.cons rfl (.cons rfl (.cons rfl (.cons rfl (.cons rfl (.cons rfl (.nil _)))))))))))))))))))))))), ?_, ?_⟩))))))))))))))))
 · exact ⟨(by omega), (by omega), hnS, hdur, ⟨_, _, ok, q⟩, oS, oL, hs, bR, oQ, oA, bY, oN, oMz, X⟩
 · first | omega | (dsimp only; omega)
 refine aB (aM rfl (dD (dC (dC (eG (dO (aS (aN (aA rfl (aC rfl (aA rfl (aY rfl rfl (dM (by omega)) (aA rfl (aE rfl (aB (aS ⟨(i + 1, zM, nM + 1, AoN, coN, yS, nS, AS, cS), (.cons rfl (.cons rfl (.cons rfl (.cons rfl (.cons rfl (.cons rfl (.cons rfl (.cons rfl (.nil _))))))))), ?_, ?_⟩))))))))))))))))
 · exact ⟨(by omega), hzl.symm, (by omega), hzx, hzd, hnS, (by omega), hdur, ⟨_, _, ok, q⟩, oN, oMz, oS, hs, bR, oQ, oA, X⟩
 · first | omega | (dsimp only; omega)
 refine aB (aM rfl (aV (aS (aF (aA rfl (aC rfl (aA rfl (dE bX iO rfl rfl (aA rfl (aO kX iO rfl rfl rfl rfl rfl ?_))))))))))
 intro g282 w284 eg282 oV bbg282 x283 zg282
 replace oV := Own.low oV X.size
 replace oM := oM.ext x283
 replace oMx := oMx.ext x283
 replace oS := oS.ext x283
 replace hs := hs.ext x283
 replace bR := bR.ext x283
 replace oQ := oQ.ext x283
 replace oA := oA.ext x283
 replace b210 := b210.ext x283
 replace bX := bX.ext x283
 replace X := dU X x283
 refine aA rfl (cH (ts := #[]) oM X.size oV.sl (by first | rfl | simp) (by first | exact List.all_eq_true.1 rfl | simp [Value.oneCell']) kX iO rfl rfl rfl rfl (by omega) (by omega) ?_)
 intro AoN coN w286 oN hg285
 replace oMx := oMx.grownO oM hg285 (by decide)
 replace oS := oS.grown hg285 (Own.neO oS oM (by decide))
 replace hs := hs.grown hg285 (fun g hg => Q7l Bhs (Own.lt oM hg).1)
 replace bR := bR.grown hg285 (fun h => Own.neT oM bR (by decide) h.symm)
 replace oQ := oQ.grown hg285 (Own.neO oQ oM (by decide))
 replace oA := oA.grown hg285 (Own.neO oA oM (by decide))
 replace b210 := b210.grown hg285 (fun h => Own.neT oM b210 (by decide) h.symm)
 replace bX := bX.grown hg285 (fun h => hXM h.symm)
 replace X := dV X hg285 (fun g hg => (Own.lt oM hg).1)
 clear hg285
 obtain ⟨zM, hzl, hzx, hzd, oN, oMz⟩ : ∃ zM : List ModeI, zM.length = nM + 1 ∧ (∀ y ∈ zM, mP y) ∧ Disj zM ∧ Own _ w.heap.size 92 3 AoN (nM + 1) coN (zM.flatMap ModeI.cells) ∧ NOwn _ w.heap.size 2 zM := ⟨yM ++ [(⟨⟨1 + r1, (act.length : Nat) + r2, []⟩, none, 0⟩ : ModeI)], by rw [List.length_append, hnM]; rfl, (fun y hy => by
   rcases List.mem_append.1 hy with h | h
   · exact hmx y h
   · obtain rfl : y = (⟨⟨1 + r1, (act.length : Nat) + r2, []⟩, none, 0⟩ : ModeI) := by simpa using h
     refine ⟨by simp, ⟨by show 0 ≤ 1 + r1 ∧ 1 + r1 ≤ 255; omega, by show 0 ≤ ((act.length : Nat) : Int) + r2 ∧ ((act.length : Nat) : Int) + r2 ≤ 255; omega, by simp, fun v hv => ?_⟩⟩
     first
     | (simp at hv; omega)
     | simp at hv), hd.snoc (x := (⟨⟨1 + r1, (act.length : Nat) + r2, []⟩, none, 0⟩ : ModeI)) (fun y hy g hg e => by cases e), oN.to (lI ModeI.cells yM (⟨⟨1 + r1, (act.length : Nat) + r2, []⟩, none, 0⟩ : ModeI)).symm, oMx.snoc (x := (⟨⟨1 + r1, (act.length : Nat) + r2, []⟩, none, 0⟩ : ModeI)) (Own.nil_ _ _ _ _) (by simp)⟩
 refine aA rfl (aE rfl (aB (aF ?_)))
 have UA := fun g hg => (Own.lt oA (g := g) hg).2
 have UB2 := fun y hy g hg => (Own.lt (oMz y hy).1 (g := g) hg).2
 refine aA rfl (aO cQ dB rfl rfl rfl rfl rfl ?_)
 intro gL w288 egL oL bbgL x287 zgL
 replace oL := Own.low oL X.size
 replace oS := oS.ext x287
 replace hs := hs.ext x287
 replace bR := bR.ext x287
 replace oQ := oQ.ext x287
 replace oA := oA.ext x287
 replace b210 := b210.ext x287
 replace bX := bX.ext x287
 replace oN := oN.ext x287
 replace oMz := oMz.ext x287
 replace X := dU X x287
 refine aA rfl (aE rfl (aB (aR (aF (aA rfl (aE rfl (aB (aX (dG (G := Int × List Int × Nat × Option Addr × Nat) (fun ⟨l, ds, nD, A2, c2⟩ => [(2, .pointer (some ⟨g2, 0, none⟩)), (3, .slice AT ys.length cT), (4, .slice AA act.length cA), (6, .slice AoN (nM + 1) coN), (7, .slice AS nS cS), (8, .int .i64 (1 + rc)), (9, .int .i64 i), (10, .pointer (some ⟨gX, 0, none⟩)), (41, .int .i64 i), (42, .int .i64 (1 + rc)), (46, .pointer (some ⟨gS, 0, none⟩)), (49, .slice AA act.length cA), (50, .int .i64 (act.length : Nat)), (51, .pointer (some ⟨gS, 0, none⟩)), (55, .int .i64 (1 + rc)), (61, .slice AM nM cM), (64, .slice AoN (nM + 1) coN), (0, .pointer (some ⟨gS, 0, none⟩)), (11, .slice A2 nD c2), (12, .int .i64 l)]) (fun ⟨l, ds, nD, A2, c2⟩ wr => (0 ≤ l ∧ l ≤ (act.length : Int) + r2) ∧ nD = ds.length ∧ (nD : Int) = l ∧ (∀ z ∈ ds, 0 ≤ z ∧ z ≤ 1000) ∧ (∀ g, (Value.slice A2 nD c2).ownBlock = some g → (Value.slice AA act.length cA).ownBlock ≠ some g) ∧ (∀ y ∈ zM, ∀ g, (Value.slice A2 nD c2).ownBlock = some g → y.blk ≠ some g) ∧ (∃ a sd, (a ≤ bs.length ∧ 0 ≤ sd ∧ sd < 2147483647) ∧ Blk wr gS 148 (lH A c bs a sd)) ∧ Own wr w.heap.size 2 1 A2 nD c2 (ds.flatMap eI) ∧ Own wr w.heap.size 89 8 AS nS cS (yS.flatMap SlotI.cells) ∧ Sl B wr A (bs.flatMap eB) ∧ Blk wr g2 28 [.int .i64 0, .slice none 0 0, .slice none 0 0, .slice none 0 0] ∧ Own wr w.heap.size 59 4 AT ys.length cT (ns.flatMap NodeI.cells) ∧ Own wr w.heap.size 2 1 AA act.length cA (act.flatMap eI) ∧ Blk wr gX 92 [.int .i64 (1 + r1), .int .i64 ((act.length : Nat) + r2), .slice none 0 0] ∧ Own wr w.heap.size 92 3 AoN (nM + 1) coN (zM.flatMap ModeI.cells) ∧ NOwn wr w.heap.size 2 zM ∧ w.grownBy wr (some gS)) (fun ⟨l, ds, nD, A2, c2⟩ => ((act.length : Int) + r2 - l).toNat) (0, [], 0, some ⟨gL, 0, none⟩, 0) (.cons rfl (.cons rfl (.cons rfl (.cons rfl (.cons rfl (.cons rfl (.cons rfl (.cons rfl (.cons rfl (.cons rfl (.cons rfl (.cons rfl (.cons rfl (.cons rfl (.cons rfl (.cons rfl (.cons rfl (.cons rfl (.cons rfl (.cons rfl (.nil _))))))))))))))))))))) ?_ ?_)))))))))
 · exact ⟨(by omega), rfl, rfl, (fun y hy => by simp at hy), (fun g hg e => by have h1 := UA g e; have h2 : gL = g := (by injection hg); omega), (fun y hy g hg e => by have h1 := UB2 y hy g e; have h2 : gL = g := (by injection hg); omega), ⟨_, _, ok, b210⟩, oL, oS, hs, bR, oQ, oA, bX, oN, oMz, X⟩
 clear oS hs bR oQ oA b210 bX oN oMz oL
 clear X
 rintro ⟨l, ds, nD, A2, c2⟩ wr ⟨hl0, hnD, hnDl, hds, hspA, hspM, qq, oL, oS, hs, bR, oQ, oA, bX, oN, oMz, X⟩
 obtain ⟨a, sd, ok, q⟩ := qq
 refine aR (aF (aA rfl (aC rfl (aA rfl (aG iP rfl rfl (aA rfl (aJ bX dB rfl rfl (aA rfl (cU rfl rfl (fun hl => ?_) (fun hl => ?_))))))))))
 refine aB (aQ rfl (aV (aS (aR (aX (aN (aA rfl (aC rfl (aA rfl (aC rfl (aA rfl (aT fS rfl (aP (dN _ _ _ _ _ _ _ _ _ q hs hB ok hbl (by omega)) ?_)))))))))))))
 rintro _ w290 ⟨rd, a292, sd293, rfl, hr294, ok, b291, x289⟩
 replace oL := oL.grownBlk x289 (Own.neT oL q (by decide))
 replace oS := oS.grownBlk x289 (Own.neT oS q (by decide))
 replace hs := hs.grown x289 (by intro g hg; injection hg; omega)
 replace bR := bR.grown x289 (by intro h; injection h; omega)
 replace oQ := oQ.grownBlk x289 (Own.neT oQ q (by decide))
 replace oA := oA.grownBlk x289 (Own.neT oA q (by decide))
 replace bX := bX.grown x289 (by intro h; injection h; omega)
 replace oN := oN.grownBlk x289 (Own.neT oN q (by decide))
 replace oMz := oMz.grownB q x289 (by decide)
 replace X := dI X x289
 clear x289 q
 refine aA rfl (aY rfl rfl (dM (by omega)) (aA rfl (aO cQ dB rfl rfl rfl rfl rfl ?_)))
 intro g295 w297 eg295 oV bbg295 x296 zg295
 replace oV := Own.low oV X.size
 replace oL := oL.ext x296
 replace oS := oS.ext x296
 replace hs := hs.ext x296
 replace bR := bR.ext x296
 replace oQ := oQ.ext x296
 replace oA := oA.ext x296
 replace bX := bX.ext x296
 replace oN := oN.ext x296
 replace oMz := oMz.ext x296
 replace b291 := b291.ext x296
 replace X := dU X x296
 replace oV := oV.to (cs' := ([260 + rd] : List Int).flatMap eI) rfl
 have UA := fun g hg => (Own.lt oA (g := g) hg).2
 have UB2 := fun y hy g hg => (Own.lt (oMz y hy).1 (g := g) hg).2
 refine aA rfl (sR (ts := #[]) oL X.size oV.sl (by first | rfl | simp) (by first | exact List.all_eq_true.1 rfl | simp [Value.oneCell']) cQ dB rfl rfl rfl rfl (by omega) (by omega) ?_)
 intro AoW coW w299 oW hg298 hW
 replace oS := oS.grown hg298 (Own.neO oS oL (by decide))
 replace hs := hs.grown hg298 (fun g hg => Q7l Bhs (Own.lt oL hg).1)
 replace bR := bR.grown hg298 (fun h => Own.neT oL bR (by decide) h.symm)
 replace oQ := oQ.grown hg298 (Own.neO oQ oL (by decide))
 replace oA := oA.grown hg298 hspA
 replace bX := bX.grown hg298 (fun h => Own.neT oL bX (by decide) h.symm)
 replace oN := oN.grown hg298 (Own.neO oN oL (by decide))
 replace oMz := oMz.grownX hg298 hspM
 replace b291 := b291.grown hg298 (fun h => Own.neT oL b291 (by decide) h.symm)
 replace X := dV X hg298 (fun g hg => (Own.lt oL hg).1)
 clear hg298
 have hspA2 := qT hspA hW UA
 have hspM2 := fun y hy => qT (hspM y hy) hW (UB2 y hy)
 refine aA rfl (aE rfl (aB (dO (aS (aN (aA rfl (aC rfl (aA rfl (aY rfl rfl (dM (by omega)) (aA rfl (aE rfl (aB (aS ⟨(l + 1, ds ++ [260 + rd], nD + 1, AoW, coW), (.cons rfl (.cons rfl (.cons rfl (.cons rfl (.cons rfl (.cons rfl (.cons rfl (.cons rfl (.cons rfl (.cons rfl (.cons rfl (.cons rfl (.cons rfl (.cons rfl (.cons rfl (.cons rfl (.cons rfl (.cons rfl (.cons rfl (.cons rfl (.nil _))))))))))))))))))))), ?_, ?_⟩)))))))))))))
 · skip
   exact ⟨(by omega), (by simp [hnD]), (by omega), (fun z hz => by
     rcases List.mem_append.1 hz with h | h
     · exact hds z h
     · obtain rfl : z = 260 + rd := by simpa using h
       omega), hspA2, hspM2, ⟨_, _, ok, b291⟩, oW.to (lI eI ds _).symm, oS, hs, bR, oQ, oA, bX, oN, oMz, X⟩
 · first | omega | (dsimp only; omega)
 refine aB (aM rfl (dD (dC (dC (eG (aS (aF (aA rfl (aE rfl (aB (aX (dG (G := Int × List SlotI × Nat × Option Addr × Nat) (fun ⟨j, yS, nS, AS, cS⟩ => [(2, .pointer (some ⟨g2, 0, none⟩)), (3, .slice AT ys.length cT), (4, .slice AA act.length cA), (6, .slice AoN (nM + 1) coN), (8, .int .i64 (1 + rc)), (9, .int .i64 i), (10, .pointer (some ⟨gX, 0, none⟩)), (11, .slice A2 nD c2), (12, .int .i64 l), (41, .int .i64 i), (42, .int .i64 (1 + rc)), (46, .pointer (some ⟨gS, 0, none⟩)), (49, .slice AA act.length cA), (50, .int .i64 (act.length : Nat)), (51, .pointer (some ⟨gS, 0, none⟩)), (55, .int .i64 (1 + rc)), (61, .slice AM nM cM), (64, .slice AoN (nM + 1) coN), (66, .int .i64 l), (0, .pointer (some ⟨gS, 0, none⟩)), (7, .slice AS nS cS), (13, .int .i64 j)]) (fun ⟨j, yS, nS, AS, cS⟩ wr => (0 ≤ j ∧ j ≤ 1 + r1) ∧ ((nS : Int) ≤ 66 * i + 33 * j ∧ (0 < i ∨ 0 < j → 0 < nS)) ∧ nS = yS.length ∧ (∀ y ∈ yS, sP y) ∧ (∃ a sd, (a ≤ bs.length ∧ 0 ≤ sd ∧ sd < 2147483647) ∧ Blk wr gS 148 (lH A c bs a sd)) ∧ Own wr w.heap.size 89 8 AS nS cS (yS.flatMap SlotI.cells) ∧ Own wr w.heap.size 2 1 A2 nD c2 (ds.flatMap eI) ∧ Sl B wr A (bs.flatMap eB) ∧ Blk wr g2 28 [.int .i64 0, .slice none 0 0, .slice none 0 0, .slice none 0 0] ∧ Own wr w.heap.size 59 4 AT ys.length cT (ns.flatMap NodeI.cells) ∧ Own wr w.heap.size 2 1 AA act.length cA (act.flatMap eI) ∧ Blk wr gX 92 [.int .i64 (1 + r1), .int .i64 ((act.length : Nat) + r2), .slice none 0 0] ∧ Own wr w.heap.size 92 3 AoN (nM + 1) coN (zM.flatMap ModeI.cells) ∧ NOwn wr w.heap.size 2 zM ∧ w.grownBy wr (some gS)) (fun ⟨j, yS, nS, AS, cS⟩ => (1 + r1 - j).toNat) (0, yS, nS, AS, cS) (.cons rfl (.cons rfl (.cons rfl (.cons rfl (.cons rfl (.cons rfl (.cons rfl (.cons rfl (.cons rfl (.cons rfl (.cons rfl (.cons rfl (.cons rfl (.cons rfl (.cons rfl (.cons rfl (.cons rfl (.cons rfl (.cons rfl (.cons rfl (.cons rfl (.cons rfl (.nil _))))))))))))))))))))))) ?_ ?_))))))))))))
 · exact ⟨(by omega), (by omega), hnS, hdur, ⟨_, _, ok, q⟩, oS, oL, hs, bR, oQ, oA, bX, oN, oMz, X⟩
 clear oL oS hs bR oQ oA bX oN oMz q
 clear X
 rintro ⟨j, yS, nS, AS, cS⟩ wr ⟨hj0, hnS3, hnS, hdur, qq, oS, oL, hs, bR, oQ, oA, bX, oN, oMz, X⟩
 obtain ⟨a, sd, ok, q⟩ := qq
 refine aR (aF (aA rfl (aC rfl (aA rfl (aG kQ rfl rfl (aA rfl (aJ bX dB rfl rfl (aA rfl (cU rfl rfl (fun hj => ?_) (fun hj => ?_))))))))))
 refine aB (aQ rfl (aV (aS (aR (aX (aF (aA rfl (aE rfl (aB (aX (dG (G := Int × List SlotI × Nat × Option Addr × Nat) (fun ⟨u, yS, nS, AS, cS⟩ => [(2, .pointer (some ⟨g2, 0, none⟩)), (3, .slice AT ys.length cT), (4, .slice AA act.length cA), (6, .slice AoN (nM + 1) coN), (8, .int .i64 (1 + rc)), (9, .int .i64 i), (10, .pointer (some ⟨gX, 0, none⟩)), (11, .slice A2 nD c2), (12, .int .i64 l), (13, .int .i64 j), (41, .int .i64 i), (42, .int .i64 (1 + rc)), (46, .pointer (some ⟨gS, 0, none⟩)), (49, .slice AA act.length cA), (50, .int .i64 (act.length : Nat)), (51, .pointer (some ⟨gS, 0, none⟩)), (55, .int .i64 (1 + rc)), (61, .slice AM nM cM), (64, .slice AoN (nM + 1) coN), (66, .int .i64 l), (78, .int .i64 j), (0, .pointer (some ⟨gS, 0, none⟩)), (7, .slice AS nS cS), (14, .int .i64 u)]) (fun ⟨u, yS, nS, AS, cS⟩ wr => (0 ≤ u ∧ u ≤ (act.length : Int) + r2) ∧ ((nS : Int) ≤ 66 * i + 33 * j + u ∧ (0 < i ∨ 0 < j ∨ 0 < u → 0 < nS)) ∧ nS = yS.length ∧ (∀ y ∈ yS, sP y) ∧ (∃ a sd, (a ≤ bs.length ∧ 0 ≤ sd ∧ sd < 2147483647) ∧ Blk wr gS 148 (lH A c bs a sd)) ∧ Own wr w.heap.size 89 8 AS nS cS (yS.flatMap SlotI.cells) ∧ Own wr w.heap.size 2 1 A2 nD c2 (ds.flatMap eI) ∧ Sl B wr A (bs.flatMap eB) ∧ Blk wr g2 28 [.int .i64 0, .slice none 0 0, .slice none 0 0, .slice none 0 0] ∧ Own wr w.heap.size 59 4 AT ys.length cT (ns.flatMap NodeI.cells) ∧ Own wr w.heap.size 2 1 AA act.length cA (act.flatMap eI) ∧ Blk wr gX 92 [.int .i64 (1 + r1), .int .i64 ((act.length : Nat) + r2), .slice none 0 0] ∧ Own wr w.heap.size 92 3 AoN (nM + 1) coN (zM.flatMap ModeI.cells) ∧ NOwn wr w.heap.size 2 zM ∧ w.grownBy wr (some gS)) (fun ⟨u, yS, nS, AS, cS⟩ => ((act.length : Int) + r2 - u).toNat) (0, yS, nS, AS, cS) (.cons rfl (.cons rfl (.cons rfl (.cons rfl (.cons rfl (.cons rfl (.cons rfl (.cons rfl (.cons rfl (.cons rfl (.cons rfl (.cons rfl (.cons rfl (.cons rfl (.cons rfl (.cons rfl (.cons rfl (.cons rfl (.cons rfl (.cons rfl (.cons rfl (.cons rfl (.cons rfl (.cons rfl (.nil _))))))))))))))))))))))))) ?_ ?_)))))))))))
 · exact ⟨(by omega), (by omega), hnS, hdur, ⟨_, _, ok, q⟩, oS, oL, hs, bR, oQ, oA, bX, oN, oMz, X⟩
 clear oS oL hs bR oQ oA bX oN oMz q
 clear X
 rintro ⟨u, yS, nS, AS, cS⟩ wr ⟨hu0, hnS4, hnS, hdur, qq, oS, oL, hs, bR, oQ, oA, bX, oN, oMz, X⟩
 obtain ⟨a, sd, ok, q⟩ := qq
 refine aR (aF (aA rfl (aC rfl (aA rfl (aG iP rfl rfl (aA rfl (aJ bX dB rfl rfl (aA rfl (cU rfl rfl (fun hu => ?_) (fun hu => ?_))))))))))
 refine aB (aQ rfl (aV (aS (aR (aX (aF (aA rfl (aC rfl (aA rfl (aT aCx rfl (aP (uJ _ _ _ _ _ _ _ _ q hs hB ok hbl) ?_)))))))))))
 rintro _ w301 ⟨d, a303, sd304, rfl, hpd, ok, b302, x300⟩
 replace oS := oS.grownBlk x300 (Own.neT oS q (by decide))
 replace oL := oL.grownBlk x300 (Own.neT oL q (by decide))
 replace hs := hs.grown x300 (by intro g hg; injection hg; omega)
 replace bR := bR.grown x300 (by intro h; injection h; omega)
 replace oQ := oQ.grownBlk x300 (Own.neT oQ q (by decide))
 replace oA := oA.grownBlk x300 (Own.neT oA q (by decide))
 replace bX := bX.grown x300 (by intro h; injection h; omega)
 replace oN := oN.grownBlk x300 (Own.neT oN q (by decide))
 replace oMz := oMz.grownB q x300 (by decide)
 replace X := dI X x300
 clear x300 q
 refine aA rfl (dT fU ?_)
 intro gD w306 egD b9 x305 zgD
 have lgD : w.heap.size ≤ gD := Q7l X.size (Q7e egD.symm)
 have pgDhs := Q7l hs.1 (Q7e egD.symm)
 have ngDbR := Nat.lt_of_lt_of_eq bR.lt egD.symm
 have ngDbX := Nat.lt_of_lt_of_eq bX.lt egD.symm
 have ngDb302 := Nat.lt_of_lt_of_eq b302.lt egD.symm
 replace oS := oS.ext x305
 replace oL := oL.ext x305
 replace hs := hs.ext x305
 replace bR := bR.ext x305
 replace oQ := oQ.ext x305
 replace oA := oA.ext x305
 replace bX := bX.ext x305
 replace oN := oN.ext x305
 replace oMz := oMz.ext x305
 replace b302 := b302.ext x305
 replace X := dU X x305
 refine aA rfl (bK b9 fU rfl rfl rfl rfl rfl rfl ?_)
 intro w308 bD hg307 z309
 replace oS := oS.grownBlk hg307 (Own.neT oS b9 (by decide))
 replace oL := oL.grownBlk hg307 (Own.neT oL b9 (by decide))
 replace hs := hs.grown hg307 (by intro g hg; injection hg; omega)
 replace bR := bR.grown hg307 (by intro h; injection h; omega)
 replace oQ := oQ.grownBlk hg307 (Own.neT oQ b9 (by decide))
 replace oA := oA.grownBlk hg307 (Own.neT oA b9 (by decide))
 replace bX := bX.grown hg307 (by intro h; injection h; omega)
 replace oN := oN.grownBlk hg307 (Own.neT oN b9 (by decide))
 replace oMz := oMz.grownB b9 hg307 (by decide)
 replace b302 := b302.grown hg307 (by intro h; injection h; omega)
 replace X := dV X hg307 (by intro g hg; injection hg; omega)
 clear hg307 b9
 refine aB (aF (aA rfl (aC rfl (aA rfl (aC rfl (aA rfl (aC rfl (aA rfl (bO Tryz.underlying30 rfl ?_)))))))))
 have hmz := Int.emod_nonneg u (show (act.length : Int) ≠ 0 by omega)
 have hmz2 := Int.emod_lt_of_pos u (show (0 : Int) < act.length by omega)
 obtain ⟨z, hz⟩ : ∃ z, act[(u % (act.length : Int)).toNat]? = some z := ⟨_, List.getElem?_eq_getElem (by omega)⟩
 refine aA rfl (fK rfl rfl (by omega) (qZ (by omega)) (aA rfl (aU (oA).sl bI rfl cQ rfl rfl rfl hz (Int.toNat_of_nonneg hmz).symm (aA rfl (bS (oA).sl bI hz dB rfl rfl rfl (aA rfl (aG kA rfl rfl (aA rfl (bK bD dB rfl rfl rfl rfl rfl rfl ?_)))))))))
 intro w311 bE hg310 z312
 replace oS := oS.grownBlk hg310 (Own.neT oS bD (by decide))
 replace oL := oL.grownBlk hg310 (Own.neT oL bD (by decide))
 replace hs := hs.grown hg310 (by intro g hg; injection hg; omega)
 replace bR := bR.grown hg310 (by intro h; injection h; omega)
 replace oQ := oQ.grownBlk hg310 (Own.neT oQ bD (by decide))
 replace oA := oA.grownBlk hg310 (Own.neT oA bD (by decide))
 replace bX := bX.grown hg310 (by intro h; injection h; omega)
 replace oN := oN.grownBlk hg310 (Own.neT oN bD (by decide))
 replace oMz := oMz.grownB bD hg310 (by decide)
 replace b302 := b302.grown hg310 (by intro h; injection h; omega)
 replace X := dV X hg310 (by intro g hg; injection hg; omega)
 clear hg310 bD
 refine aB (aR (aF (aA rfl (aG fM rfl rfl (aA rfl (aJ bE dB rfl rfl (aA rfl (dP rfl rfl (fun hk3 => ?_) (fun hk3 => ?_)))))))))
 refine aA rfl (aC rfl (aI rfl rfl rfl (aC rfl (aI rfl rfl rfl (fG rfl rfl (fun hi9 => ?_) (fun hi9 => ?_))))))
 refine aA rfl (aK rfl rfl (aB (aQ rfl (aN (aA rfl (aG fM rfl rfl (aA rfl (bK bE dB rfl rfl rfl rfl rfl rfl ?_))))))))
 intro w314 bF hg313 z315
 replace oS := oS.grownBlk hg313 (Own.neT oS bE (by decide))
 replace oL := oL.grownBlk hg313 (Own.neT oL bE (by decide))
 replace hs := hs.grown hg313 (by intro g hg; injection hg; omega)
 replace bR := bR.grown hg313 (by intro h; injection h; omega)
 replace oQ := oQ.grownBlk hg313 (Own.neT oQ bE (by decide))
 replace oA := oA.grownBlk hg313 (Own.neT oA bE (by decide))
 replace bX := bX.grown hg313 (by intro h; injection h; omega)
 replace oN := oN.grownBlk hg313 (Own.neT oN bE (by decide))
 replace oMz := oMz.grownB bE hg313 (by decide)
 replace b302 := b302.grown hg313 (by intro h; injection h; omega)
 replace X := dV X hg313 (by intro g hg; injection hg; omega)
 clear hg313 bE
 refine aB (aS (aF (aA rfl (aC rfl (aA rfl (aC rfl ?_))))))
 obtain ⟨y, hy⟩ : ∃ y, ds[u.toNat]? = some y := ⟨_, List.getElem?_eq_getElem (by omega)⟩
 have hyb := hds y (List.mem_of_getElem? hy)
 refine aA rfl (aU (oL).sl bI rfl cQ rfl hnD rfl hy (by omega) (aA rfl (bS (oL).sl bI hy dB rfl rfl rfl (aA rfl (aG fC rfl rfl (aA rfl (bK bF dB rfl rfl rfl rfl rfl rfl ?_)))))))
 intro w317 bG hg316 z318
 replace oS := oS.grownBlk hg316 (Own.neT oS bF (by decide))
 replace oL := oL.grownBlk hg316 (Own.neT oL bF (by decide))
 replace hs := hs.grown hg316 (by intro g hg; injection hg; omega)
 replace bR := bR.grown hg316 (by intro h; injection h; omega)
 replace oQ := oQ.grownBlk hg316 (Own.neT oQ bF (by decide))
 replace oA := oA.grownBlk hg316 (Own.neT oA bF (by decide))
 replace bX := bX.grown hg316 (by intro h; injection h; omega)
 replace oN := oN.grownBlk hg316 (Own.neT oN bF (by decide))
 replace oMz := oMz.grownB bF hg316 (by decide)
 replace b302 := b302.grown hg316 (by intro h; injection h; omega)
 replace X := dV X hg316 (by intro g hg; injection hg; omega)
 clear hg316 bF
 obtain ⟨dd, hdd, bG⟩ : ∃ dd : Desc, ((0 ≤ dd.duration ∧ dd.duration ≤ 1000) ∧ wQ dd) ∧ Blk _ gD 67 dd.cells := ⟨⟨z, 1, d.size, y, d.change⟩, ⟨hyb, ⟨kD (hact ▸ List.mem_of_getElem? hz), (by first | exact hpd.2.1 | exact ⟨show (0 : Int) ≤ 1 by decide, show (1 : Int) ≤ 3 by decide⟩), ⟨hpd.1.1, Int.le_trans hpd.1.2 (by decide)⟩, hyb⟩⟩, bG⟩
 refine aB (aN (aA rfl (aC rfl (aA rfl (aC rfl (aA rfl (aC rfl (aA rfl (aC rfl (aA rfl (dE bG fU rfl rfl (aA rfl (dA qY eQ rfl rfl (aA rfl (aO gF eQ rfl rfl rfl rfl rfl ?_)))))))))))))))
 intro g319 w321 eg319 oV bbg319 x320 zg319
 replace oV := Own.low oV X.size
 replace oS := oS.ext x320
 replace oL := oL.ext x320
 replace hs := hs.ext x320
 replace bR := bR.ext x320
 replace oQ := oQ.ext x320
 replace oA := oA.ext x320
 replace bX := bX.ext x320
 replace oN := oN.ext x320
 replace oMz := oMz.ext x320
 replace b302 := b302.ext x320
 replace bG := bG.ext x320
 replace X := dU X x320
 refine aA rfl (cH (ts := #[]) oS X.size oV.sl (by first | rfl | simp) (by first | exact List.all_eq_true.1 rfl | simp [Value.oneCell']) gF eQ rfl rfl rfl rfl (by omega) (by omega) ?_)
 intro AoW coW w323 oW hg322
 replace oL := oL.grown hg322 (Own.neO oL oS (by decide))
 replace hs := hs.grown hg322 (fun g hg => Q7l Bhs (Own.lt oS hg).1)
 replace bR := bR.grown hg322 (fun h => Own.neT oS bR (by decide) h.symm)
 replace oQ := oQ.grown hg322 (Own.neO oQ oS (by decide))
 replace oA := oA.grown hg322 (Own.neO oA oS (by decide))
 replace bX := bX.grown hg322 (fun h => Own.neT oS bX (by decide) h.symm)
 replace oN := oN.grown hg322 (Own.neO oN oS (by decide))
 replace oMz := oMz.grownO oS hg322 (by decide)
 replace b302 := b302.grown hg322 (fun h => Own.neT oS b302 (by decide) h.symm)
 replace bG := bG.grown hg322 (fun h => Own.neT oS bG (by decide) h.symm)
 replace X := dV X hg322 (fun g hg => (Own.lt oS hg).1)
 clear hg322
 refine aA rfl (aE rfl (aB (dO (aS (aN (aA rfl (aC rfl (aA rfl (aY rfl rfl (dM (by omega)) (aA rfl (aE rfl (aB (aS ⟨(u + 1, yS ++ [⟨i, j, u, dd⟩], nS + 1, AoW, coW), (.cons rfl (.cons rfl (.cons rfl (.cons rfl (.cons rfl (.cons rfl (.cons rfl (.cons rfl (.cons rfl (.cons rfl (.cons rfl (.cons rfl (.cons rfl (.cons rfl (.cons rfl (.cons rfl (.cons rfl (.cons rfl (.cons rfl (.cons rfl (.cons rfl (.cons rfl (.cons rfl (.cons rfl (.nil _))))))))))))))))))))))))), ?_, ?_⟩)))))))))))))
 · skip
   exact ⟨(by omega), (by omega), (by simp [hnS]), (fun y hy => by
     rcases List.mem_append.1 hy with h | h
     · exact hdur y h
     · obtain rfl : y = ⟨i, j, u, dd⟩ := by simpa using h
       exact ⟨hdd.1, ⟨by show 0 ≤ i ∧ i ≤ 15; omega, by show 0 ≤ j ∧ j ≤ 7; omega, by show 0 ≤ u ∧ u ≤ 63; omega, hdd.2⟩⟩), ⟨_, _, ok, b302⟩, oW.to (lI SlotI.cells yS ⟨i, j, u, dd⟩).symm, oL, hs, bR, oQ, oA, bX, oN, oMz, X⟩
 · first | omega | (dsimp only; omega)
 refine aA rfl (aK rfl rfl (aB (aM rfl (aV (aS (aF (aA rfl (aC rfl (aA rfl (aC rfl ?_))))))))))
 obtain ⟨y, hy⟩ : ∃ y, ds[u.toNat]? = some y := ⟨_, List.getElem?_eq_getElem (by omega)⟩
 have hyb := hds y (List.mem_of_getElem? hy)
 refine aA rfl (aU (oL).sl bI rfl cQ rfl hnD rfl hy (by omega) (aA rfl (bS (oL).sl bI hy dB rfl rfl rfl (aA rfl (aG fC rfl rfl (aA rfl (bK bE dB rfl rfl rfl rfl rfl rfl ?_)))))))
 intro w325 bG hg324 z326
 replace oS := oS.grownBlk hg324 (Own.neT oS bE (by decide))
 replace oL := oL.grownBlk hg324 (Own.neT oL bE (by decide))
 replace hs := hs.grown hg324 (by intro g hg; injection hg; omega)
 replace bR := bR.grown hg324 (by intro h; injection h; omega)
 replace oQ := oQ.grownBlk hg324 (Own.neT oQ bE (by decide))
 replace oA := oA.grownBlk hg324 (Own.neT oA bE (by decide))
 replace bX := bX.grown hg324 (by intro h; injection h; omega)
 replace oN := oN.grownBlk hg324 (Own.neT oN bE (by decide))
 replace oMz := oMz.grownB bE hg324 (by decide)
 replace b302 := b302.grown hg324 (by intro h; injection h; omega)
 replace X := dV X hg324 (by intro g hg; injection hg; omega)
 clear hg324 bE
 obtain ⟨dd, hdd, bG⟩ : ∃ dd : Desc, ((0 ≤ dd.duration ∧ dd.duration ≤ 1000) ∧ wQ dd) ∧ Blk _ gD 67 dd.cells := ⟨⟨z, d.kind, d.size, y, d.change⟩, ⟨hyb, ⟨kD (hact ▸ List.mem_of_getElem? hz), (by first | exact hpd.2.1 | exact ⟨show (0 : Int) ≤ 1 by decide, show (1 : Int) ≤ 3 by decide⟩), ⟨hpd.1.1, Int.le_trans hpd.1.2 (by decide)⟩, hyb⟩⟩, bG⟩
 refine aB (aN (aA rfl (aC rfl (aA rfl (aC rfl (aA rfl (aC rfl (aA rfl (aC rfl (aA rfl (dE bG fU rfl rfl (aA rfl (dA qY eQ rfl rfl (aA rfl (aO gF eQ rfl rfl rfl rfl rfl ?_)))))))))))))))
 intro g327 w329 eg327 oV bbg327 x328 zg327
 replace oV := Own.low oV X.size
 replace oS := oS.ext x328
 replace oL := oL.ext x328
 replace hs := hs.ext x328
 replace bR := bR.ext x328
 replace oQ := oQ.ext x328
 replace oA := oA.ext x328
 replace bX := bX.ext x328
 replace oN := oN.ext x328
 replace oMz := oMz.ext x328
 replace b302 := b302.ext x328
 replace bG := bG.ext x328
 replace X := dU X x328
 refine aA rfl (cH (ts := #[]) oS X.size oV.sl (by first | rfl | simp) (by first | exact List.all_eq_true.1 rfl | simp [Value.oneCell']) gF eQ rfl rfl rfl rfl (by omega) (by omega) ?_)
 intro AoW coW w331 oW hg330
 replace oL := oL.grown hg330 (Own.neO oL oS (by decide))
 replace hs := hs.grown hg330 (fun g hg => Q7l Bhs (Own.lt oS hg).1)
 replace bR := bR.grown hg330 (fun h => Own.neT oS bR (by decide) h.symm)
 replace oQ := oQ.grown hg330 (Own.neO oQ oS (by decide))
 replace oA := oA.grown hg330 (Own.neO oA oS (by decide))
 replace bX := bX.grown hg330 (fun h => Own.neT oS bX (by decide) h.symm)
 replace oN := oN.grown hg330 (Own.neO oN oS (by decide))
 replace oMz := oMz.grownO oS hg330 (by decide)
 replace b302 := b302.grown hg330 (fun h => Own.neT oS b302 (by decide) h.symm)
 replace bG := bG.grown hg330 (fun h => Own.neT oS bG (by decide) h.symm)
 replace X := dV X hg330 (fun g hg => (Own.lt oS hg).1)
 clear hg330
 refine aA rfl (aE rfl (aB (dO (aS (aN (aA rfl (aC rfl (aA rfl (aY rfl rfl (dM (by omega)) (aA rfl (aE rfl (aB (aS ⟨(u + 1, yS ++ [⟨i, j, u, dd⟩], nS + 1, AoW, coW), (.cons rfl (.cons rfl (.cons rfl (.cons rfl (.cons rfl (.cons rfl (.cons rfl (.cons rfl (.cons rfl (.cons rfl (.cons rfl (.cons rfl (.cons rfl (.cons rfl (.cons rfl (.cons rfl (.cons rfl (.cons rfl (.cons rfl (.cons rfl (.cons rfl (.cons rfl (.cons rfl (.cons rfl (.nil _))))))))))))))))))))))))), ?_, ?_⟩)))))))))))))
 · skip
   exact ⟨(by omega), (by omega), (by simp [hnS]), (fun y hy => by
     rcases List.mem_append.1 hy with h | h
     · exact hdur y h
     · obtain rfl : y = ⟨i, j, u, dd⟩ := by simpa using h
       exact ⟨hdd.1, ⟨by show 0 ≤ i ∧ i ≤ 15; omega, by show 0 ≤ j ∧ j ≤ 7; omega, by show 0 ≤ u ∧ u ≤ 63; omega, hdd.2⟩⟩), ⟨_, _, ok, b302⟩, oW.to (lI SlotI.cells yS ⟨i, j, u, dd⟩).symm, oL, hs, bR, oQ, oA, bX, oN, oMz, X⟩
 · first | omega | (dsimp only; omega)
 refine aA rfl (aC rfl (aH rfl rfl rfl rfl (aH rfl rfl rfl rfl (aA rfl (aK rfl rfl (aB (aM rfl (aV (aS (aF (aA rfl (aC rfl (aA rfl (aC rfl ?_))))))))))))))
 obtain ⟨y, hy⟩ : ∃ y, ds[u.toNat]? = some y := ⟨_, List.getElem?_eq_getElem (by omega)⟩
 have hyb := hds y (List.mem_of_getElem? hy)
 refine aA rfl (aU (oL).sl bI rfl cQ rfl hnD rfl hy (by omega) (aA rfl (bS (oL).sl bI hy dB rfl rfl rfl (aA rfl (aG fC rfl rfl (aA rfl (bK bE dB rfl rfl rfl rfl rfl rfl ?_)))))))
 intro w333 bG hg332 z334
 replace oS := oS.grownBlk hg332 (Own.neT oS bE (by decide))
 replace oL := oL.grownBlk hg332 (Own.neT oL bE (by decide))
 replace hs := hs.grown hg332 (by intro g hg; injection hg; omega)
 replace bR := bR.grown hg332 (by intro h; injection h; omega)
 replace oQ := oQ.grownBlk hg332 (Own.neT oQ bE (by decide))
 replace oA := oA.grownBlk hg332 (Own.neT oA bE (by decide))
 replace bX := bX.grown hg332 (by intro h; injection h; omega)
 replace oN := oN.grownBlk hg332 (Own.neT oN bE (by decide))
 replace oMz := oMz.grownB bE hg332 (by decide)
 replace b302 := b302.grown hg332 (by intro h; injection h; omega)
 replace X := dV X hg332 (by intro g hg; injection hg; omega)
 clear hg332 bE
 obtain ⟨dd, hdd, bG⟩ : ∃ dd : Desc, ((0 ≤ dd.duration ∧ dd.duration ≤ 1000) ∧ wQ dd) ∧ Blk _ gD 67 dd.cells := ⟨⟨z, d.kind, d.size, y, d.change⟩, ⟨hyb, ⟨kD (hact ▸ List.mem_of_getElem? hz), (by first | exact hpd.2.1 | exact ⟨show (0 : Int) ≤ 1 by decide, show (1 : Int) ≤ 3 by decide⟩), ⟨hpd.1.1, Int.le_trans hpd.1.2 (by decide)⟩, hyb⟩⟩, bG⟩
 refine aB (aN (aA rfl (aC rfl (aA rfl (aC rfl (aA rfl (aC rfl (aA rfl (aC rfl (aA rfl (dE bG fU rfl rfl (aA rfl (dA qY eQ rfl rfl (aA rfl (aO gF eQ rfl rfl rfl rfl rfl ?_)))))))))))))))
 intro g335 w337 eg335 oV bbg335 x336 zg335
 replace oV := Own.low oV X.size
 replace oS := oS.ext x336
 replace oL := oL.ext x336
 replace hs := hs.ext x336
 replace bR := bR.ext x336
 replace oQ := oQ.ext x336
 replace oA := oA.ext x336
 replace bX := bX.ext x336
 replace oN := oN.ext x336
 replace oMz := oMz.ext x336
 replace b302 := b302.ext x336
 replace bG := bG.ext x336
 replace X := dU X x336
 refine aA rfl (cH (ts := #[]) oS X.size oV.sl (by first | rfl | simp) (by first | exact List.all_eq_true.1 rfl | simp [Value.oneCell']) gF eQ rfl rfl rfl rfl (by omega) (by omega) ?_)
 intro AoW coW w339 oW hg338
 replace oL := oL.grown hg338 (Own.neO oL oS (by decide))
 replace hs := hs.grown hg338 (fun g hg => Q7l Bhs (Own.lt oS hg).1)
 replace bR := bR.grown hg338 (fun h => Own.neT oS bR (by decide) h.symm)
 replace oQ := oQ.grown hg338 (Own.neO oQ oS (by decide))
 replace oA := oA.grown hg338 (Own.neO oA oS (by decide))
 replace bX := bX.grown hg338 (fun h => Own.neT oS bX (by decide) h.symm)
 replace oN := oN.grown hg338 (Own.neO oN oS (by decide))
 replace oMz := oMz.grownO oS hg338 (by decide)
 replace b302 := b302.grown hg338 (fun h => Own.neT oS b302 (by decide) h.symm)
 replace bG := bG.grown hg338 (fun h => Own.neT oS bG (by decide) h.symm)
 replace X := dV X hg338 (fun g hg => (Own.lt oS hg).1)
 clear hg338
 refine aA rfl (aE rfl (aB (dO (aS (aN (aA rfl (aC rfl (aA rfl (aY rfl rfl (dM (by omega)) (aA rfl (aE rfl (aB (aS ⟨(u + 1, yS ++ [⟨i, j, u, dd⟩], nS + 1, AoW, coW), (.cons rfl (.cons rfl (.cons rfl (.cons rfl (.cons rfl (.cons rfl (.cons rfl (.cons rfl (.cons rfl (.cons rfl (.cons rfl (.cons rfl (.cons rfl (.cons rfl (.cons rfl (.cons rfl (.cons rfl (.cons rfl (.cons rfl (.cons rfl (.cons rfl (.cons rfl (.cons rfl (.cons rfl (.nil _))))))))))))))))))))))))), ?_, ?_⟩)))))))))))))
 · skip
   exact ⟨(by omega), (by omega), (by simp [hnS]), (fun y hy => by
     rcases List.mem_append.1 hy with h | h
     · exact hdur y h
     · obtain rfl : y = ⟨i, j, u, dd⟩ := by simpa using h
       exact ⟨hdd.1, ⟨by show 0 ≤ i ∧ i ≤ 15; omega, by show 0 ≤ j ∧ j ≤ 7; omega, by show 0 ≤ u ∧ u ≤ 63; omega, hdd.2⟩⟩), ⟨_, _, ok, b302⟩, oW.to (lI SlotI.cells yS ⟨i, j, u, dd⟩).symm, oL, hs, bR, oQ, oA, bX, oN, oMz, X⟩
 · first | omega | (dsimp only; omega)
 refine aB (aM rfl (dD (dC (dC (eG (dO (aS (aN (aA rfl (aC rfl (aA rfl (aY rfl rfl (dM (by omega)) (aA rfl (aE rfl (aB (aS ⟨(j + 1, yS, nS, AS, cS), (.cons rfl (.cons rfl (.cons rfl (.cons rfl (.cons rfl (.cons rfl (.cons rfl (.cons rfl (.cons rfl (.cons rfl (.cons rfl (.cons rfl (.cons rfl (.cons rfl (.cons rfl (.cons rfl (.cons rfl (.cons rfl (.cons rfl (.cons rfl (.cons rfl (.cons rfl (.nil _))))))))))))))))))))))), ?_, ?_⟩))))))))))))))))
 · exact ⟨(by omega), (by omega), hnS, hdur, ⟨_, _, ok, q⟩, oS, oL, hs, bR, oQ, oA, bX, oN, oMz, X⟩
 · first | omega | (dsimp only; omega)
 refine aB (aM rfl (dD (dC (dC (eG (dO (aS (aN (aA rfl (aC rfl (aA rfl (aY rfl rfl (dM (by omega)) (aA rfl (aE rfl (aB (aS ⟨(i + 1, zM, nM + 1, AoN, coN, yS, nS, AS, cS), (.cons rfl (.cons rfl (.cons rfl (.cons rfl (.cons rfl (.cons rfl (.cons rfl (.cons rfl (.nil _))))))))), ?_, ?_⟩))))))))))))))))
 · exact ⟨(by omega), hzl.symm, (by omega), hzx, hzd, hnS, (by omega), hdur, ⟨_, _, ok, q⟩, oN, oMz, oS, hs, bR, oQ, oA, X⟩
 · first | omega | (dsimp only; omega)
 refine aB (aM rfl (dD (dC (dC (eG (aS (aF (aA rfl (aC rfl (aA rfl (aT fS rfl (aP (dN _ _ _ _ _ _ _ _ _ q hs hB ok hbl (by omega)) ?_))))))))))))
 rintro _ w341 ⟨rid, a343, sd344, rfl, hr345, ok, b342, x340⟩
 replace oM := oM.grownBlk x340 (Own.neT oM q (by decide))
 replace oMx := oMx.grownB q x340 (by decide)
 replace oS := oS.grownBlk x340 (Own.neT oS q (by decide))
 replace hs := hs.grown x340 (by intro g hg; injection hg; omega)
 replace bR := bR.grown x340 (by intro h; injection h; omega)
 replace oQ := oQ.grownBlk x340 (Own.neT oQ q (by decide))
 replace oA := oA.grownBlk x340 (Own.neT oA q (by decide))
 replace X := dI X x340
 clear x340 q
 refine aA rfl (aY rfl rfl (dM (by omega)) (aA rfl (aC rfl (aA rfl (aC rfl (aA rfl (aC rfl (aA rfl (dA nJ dW rfl rfl (aA rfl (bK bR dW rfl rfl rfl rfl rfl rfl ?_)))))))))))
 intro w347 bZ hg346 z348
 replace oM := oM.grownBlk hg346 (Own.neT oM bR (by decide))
 replace oMx := oMx.grownB bR hg346 (by decide)
 replace oS := oS.grownBlk hg346 (Own.neT oS bR (by decide))
 replace hs := hs.grown hg346 (by intro g hg; injection hg; omega)
 replace oQ := oQ.grownBlk hg346 (Own.neT oQ bR (by decide))
 replace oA := oA.grownBlk hg346 (Own.neT oA bR (by decide))
 replace b342 := b342.grown hg346 (by intro h; injection h; omega)
 replace X := dV X hg346 (by intro g hg; injection hg; omega)
 clear hg346 bR
 refine aB (aW (kG rfl rfl bZ dW rfl ?_))
 · skip
   first
   | (exact ⟨mm, _, _, rfl, vZ eM, oM, ok, b342, X⟩)
   | (subst hnM; subst hnS
      have hsm : MedlI.small ⟨1 + rid, AT, ns, cT, AM, yM, cM, AS, yS, cS⟩ := ⟨by show ns.length ≤ _; omega, by show yM.length ≤ _; omega, fun y hy => Q7l (hmx y hy).1 (by decide), by show yS.length ≤ _; omega, fun y hy => Q7l (hnsm y hy).2 (by decide)⟩
      exact ⟨⟨1 + rid, AT, ns, cT, AM, yM, cM, AS, yS, cS⟩, _, _, by unfold MedlI.cells; simp only [hnN] <;> rfl, ⟨⟨by show 1 ≤ yS.length; omega, by show yS.length ≤ 500; omega⟩, hsm, fun x hx => (hdur x hx).1, ⟨by show yM.length ≤ 17; omega, by show ns.length ≤ 4; omega, by show yM.length ≤ 2; omega, fun y hy => Q7l (hmx y hy).1 (by decide), ⟨by show 0 ≤ 1 + rid ∧ 1 + rid ≤ 16777215; omega, ⟨by show ns.length ≤ 32; omega, fun x hx => ⟨by have := (hnsm x hx).1; omega, by have := (hnsm x hx).1; omega, (hnsm x hx).2⟩⟩, ⟨by show (yM.map (·.m)).length ≤ 16; rw [List.length_map]; omega, fun x hx => by obtain ⟨y, hy, rfl⟩ := List.mem_map.1 hx; exact (hmx y hy).2⟩, ⟨by show yS.length ≤ 140; omega, fun x hx => (hdur x hx).2⟩⟩⟩⟩, ⟨by rw [← hnN] at oQ; exact oQ, oM, oMx, hd, oS⟩, ok, b342, X⟩)
end Go.Proofs.YtdoibplhbdkapaaGreatDoor
