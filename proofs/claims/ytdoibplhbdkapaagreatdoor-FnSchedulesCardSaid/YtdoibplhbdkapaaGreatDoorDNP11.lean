/- Parts. No condition. -/
import Derived.Test.YtdoibplhbdkapaaGreatDoorDNP9
import Derived.Test.YtdoibplhbdkapaaGreatDoorDNP10
import Derived.Test.YtdoibplhbdkapaaGreatDoorDNP8
namespace Go.Proofs.YtdoibplhbdkapaaGreatDoor
open Go.RowKit
set_option linter.unusedVariables false
set_option linter.unusedSimpArgs false
set_option maxRecDepth 20000
def SlF (lo B : Nat) (w : World) (A : Option Addr) (cs : List Value) : Prop := Sl B w A cs ∧ (cs ≠ [] → lo ≤ (nA A).block)
theorem SlF.ext {lo B : Nat} {w w' : World} {A : Option Addr} {cs : List Value} (h : SlF lo B w A cs) (hb : Ext w w') : SlF lo B w' A cs := ⟨h.1.ext hb, h.2⟩
theorem SlF.grown {lo B g : Nat} {w w' : World} {A : Option Addr} {cs : List Value} (h : SlF lo B w A cs) (hg : w.grownBy w' (some g)) (hl : g < lo ∨ B ≤ g) : SlF lo B w' A cs := by
 rcases hl with hl | hl
 · refine ⟨⟨Q7l h.1.1 hg.size, fun j v hj => ?_⟩, h.2⟩
   obtain ⟨h1, h2, h3⟩ := h.1.2 j v hj
   refine ⟨h1, h2, hg.cell h3 (fun e => ?_)⟩
   rw [jL] at e
   have h4 := h.2 (fun e2 => by rw [e2] at hj; simp at hj)
   injection e with e
   omega
 · exact ⟨h.1.grown hg (fun g2 e => by injection e with e; omega), h.2⟩
theorem Own.slF {lo n c s : Nat} {t : TypeId} {w : World} {A : Option Addr} {cs : List Value} (h : Own w lo t s A n c cs) : SlF lo w.heap.size w A cs := by
 refine ⟨h.sl, fun hc => ?_⟩
 rcases h.2 with ⟨h1, h2⟩ | ⟨g, cap, cur, hv, hlo, _⟩
 · have h3 := h.1
   rw [h2, Nat.zero_mul] at h3
   exact absurd (List.length_eq_zero_iff.1 h3) hc
 · injection hv with hv
   rw [hv]; exact hlo
structure MedF (lo B : Nat) (w : World) (m : MedlI) : Prop where
 sn : SlF lo B w m.An (m.ns.flatMap NodeI.cells)
 sm : SlF lo B w m.Am (m.ms.flatMap ModeI.cells)
 sx : ∀ x ∈ m.ms, SlF lo B w x.A (x.m.next.flatMap eI) ∧ x.m.next.length ≤ 9223372036854775807
 ss : SlF lo B w m.As (m.ss.flatMap SlotI.cells)
 kn : m.ns.length ≤ m.cn
theorem MedF.ext {lo B : Nat} {w w' : World} {m : MedlI} (h : MedF lo B w m) (hb : Ext w w') : MedF lo B w' m := ⟨h.sn.ext hb, h.sm.ext hb, fun x hx => ⟨(h.sx x hx).1.ext hb, (h.sx x hx).2⟩, h.ss.ext hb, h.kn⟩
theorem MedF.grown {lo B g : Nat} {w w' : World} {m : MedlI} (h : MedF lo B w m) (hg : w.grownBy w' (some g)) (hl : g < lo ∨ B ≤ g) : MedF lo B w' m := ⟨h.sn.grown hg hl, h.sm.grown hg hl, fun x hx => ⟨(h.sx x hx).1.grown hg hl, (h.sx x hx).2⟩, h.ss.grown hg hl, h.kn⟩
theorem MedF.hB {lo B : Nat} {w : World} {m : MedlI} (h : MedF lo B w m) : B ≤ w.heap.size := h.sn.1.1
theorem SlF.up {lo lo' B B' : Nat} {w : World} {A : Option Addr} {cs : List Value} (h : SlF lo B w A cs) (hl : lo' ≤ lo) (hb : B ≤ B') (hw : B' ≤ w.heap.size) : SlF lo' B' w A cs := ⟨h.1.more hb hw, fun hc => Q7l hl (h.2 hc)⟩
theorem MedF.up {lo lo' B B' : Nat} {w : World} {m : MedlI} (h : MedF lo B w m) (hl : lo' ≤ lo) (hb : B ≤ B') (hw : B' ≤ w.heap.size) : MedF lo' B' w m := ⟨h.sn.up hl hb hw, h.sm.up hl hb hw, fun x hx => ⟨(h.sx x hx).1.up hl hb hw, (h.sx x hx).2⟩, h.ss.up hl hb hw, h.kn⟩
theorem MedF.med {lo B : Nat} {w : World} {m : MedlI} (h : MedF lo B w m) : Med B w m := ⟨h.hB, h.sn.1, h.sm.1, ⟨h.hB, fun x hx => ⟨(h.sx x hx).1.1, (h.sx x hx).2⟩⟩, h.ss.1, h.kn⟩
theorem NOwn.slF {lo : Nat} {t : TypeId} {w : World} {xs : List ModeI} (h : NOwn w lo t xs) : ∀ x ∈ xs, SlF lo w.heap.size w x.A (x.m.next.flatMap eI) ∧ x.m.next.length ≤ 9223372036854775807 := fun x hx => ⟨(h x hx).1.slF, (h x hx).2⟩
theorem aEA {α : Type} {enc : α → List Value} {s l c n : Nat} {P : Program} {e : List (Nat × Value)} {t ty el : TypeId} {w : World} {A : Option Addr} {xs : List α} {x lo : Operand} {k1 : IntKind} {m1 : Int} {K : Value → World → Prop} (ht : xM P t = some (el, s)) (he : ∀ x, (enc x).length = s) (hx : fF e x = some (.slice A n c)) (h1 : fF e lo = some (.int k1 m1)) (e1 : m1 = (l : Int)) (hn : n = xs.length)
   (hlh : l ≤ n) (hc : n ≤ c) (hK : ∀ A', (∀ (w2 : World) (lo2 B2 : Nat), SlF lo2 B2 w2 A (xs.flatMap enc) → SlF lo2 B2 w2 A' ((xs.drop l).flatMap enc)) → K (.slice A' (n - l) (c - l)) w) : OpWp P e (.slice t x (some lo) none none) ty w K := fun ρ d p a g hρ => by
 have g0 := hρ _ _ hx; have g1 := hρ _ _ h1
 obtain ⟨hu, hsz⟩ := rA ht
 subst e1
 have hr := run_slice_l (P := P) (w := w) t A n c hu k1 (l : Int) (by omega) (by omega)
 simp only [execOp, g0, Option.map_some, Option.map_none, g1, Sem.run_bind, run_sliceAt_slice w t _ _ _ _ hu, hr, hsz, Result.andThen_ok, Sem.run_pure, upto, sliced, Int.toNat_natCast]
 refine hK _ fun w2 lo2 B2 h => ⟨?_, fun hc0 => ?_⟩
 · have h3 := h.1.part he l (n - l) c (fun e => by omega)
   rw [List.take_of_length_le (by simp; omega)] at h3
   exact h3
 · have h4 := h.2 (fun e2 => hc0 (by rw [← tF he, e2]; simp))
   split
   · exact h4
   · cases A with
     | none => exact h4
     | some a => show lo2 ≤ (a.add (l * s)).block; rw [jL]; exact h4
theorem rS {mm : MedlI} {zs : List SlotI} (h : zs.length = mm.ss.length) : (⟨mm.id, mm.An, mm.ns, mm.cn, mm.Am, mm.ms, mm.cm, mm.As, zs, mm.cs⟩ : MedlI).cells = mm.cells := by unfold MedlI.cells; simp only [h]
def aIj (m : MedlI) : Prop := m.small ∧ (m.ms.length ≤ 17 ∧ (∀ x ∈ m.ms, x.m.next.length ≤ 5) ∧ ((m.ns.length ≤ 4 ∧ m.ms.length ≤ 17) ∨ (m.ns.length ≤ 13 ∧ m.ms.length ≤ 2)))
set_option maxHeartbeats 4000000 in
theorem aBg (A : Option Addr) (B c : Nat) (bs : List UInt8) (gS a : Nat) (sd : Int) (w : World) (q : Blk w gS 148 (iU A c bs a sd)) (hs : Sl B w A (bs.flatMap eB)) (hB : B ≤ gS) (ok : a ≤ bs.length ∧ 0 ≤ sd ∧ sd < 2147483647) (hbl : bs.length ≤ 1048576) :
   Calls Tryz.prog 67 #[.pointer (some ⟨gS, 0, none⟩)] w (fD fun v w' => ∃ m a' sd', v = .agg (MedlI.cells m).toArray ∧ aIj m ∧ MedF w.heap.size w'.heap.size w' m ∧ (a' ≤ bs.length ∧ 0 ≤ sd' ∧ sd' < 2147483647) ∧ Blk w' gS 148 (iU A c bs a' sd') ∧ w.grownBy w' (some gS)) := by
 have Bhs := hs.1
 have X := mC w (some gS)
 refine bI (args := [.pointer (some ⟨gS, 0, none⟩)]) Tryz.func67 Tryz.ntmps67 rfl rfl ?_
 refine aE ?_
 refine aA rfl (dO dP ?_)
 intro g2 w2 eg2 bR x1 zg2
 have lg2 : w.heap.size ≤ g2 := Q7l X.size (Q7e eg2.symm)
 have ng2q := Nat.lt_of_lt_of_eq q.lt eg2.symm
 have pg2hs := Q7l hs.1 (Q7e eg2.symm)
 replace q := q.ext x1
 replace hs := hs.ext x1
 replace X := dE X x1
 refine aB ?_
 refine aE ?_
 refine aA rfl (aC rfl ?_)
 have LoM := X.size
 refine aA rfl (aS aIJ rfl (aO (aFq _ _ _ _ _ _ _ _ q hs hB ok hbl) ?_))
 rintro _ w4 ⟨mm, a6, sd7, rfl, hdw, oM, ok, b5, x3⟩
 replace hs := hs.grown x3 (by intro g hg; injection hg; omega)
 replace bR := bR.grown x3 (by intro h; injection h; omega)
 replace X := cU X x3
 clear x3 q
 replace oM := MOwn.low oM LoM
 obtain ⟨oN, oMd, oMx, hdj, oSl⟩ := oM
 obtain ⟨hss, hsm, hdu, hmX⟩ := hdw
 have hml := hmX
 refine aA rfl (dO dP ?_)
 intro gM w9 egM b0 x8 zgM
 have lgM : w.heap.size ≤ gM := Q7l X.size (Q7e egM.symm)
 have pgMhs := Q7l hs.1 (Q7e egM.symm)
 have ngMbR := Nat.lt_of_lt_of_eq bR.lt egM.symm
 have ngMb5 := Nat.lt_of_lt_of_eq b5.lt egM.symm
 replace hs := hs.ext x8
 replace bR := bR.ext x8
 replace b5 := b5.ext x8
 replace oN := oN.ext x8
 replace oMd := oMd.ext x8
 replace oMx := oMx.ext x8
 replace oSl := oSl.ext x8
 replace X := dE X x8
 refine aA rfl (aX b0 dP rfl rfl rfl rfl rfl rfl ?_)
 intro w11 bM hg10 z12
 replace hs := hs.grown hg10 (by intro g hg; injection hg; omega)
 replace bR := bR.grown hg10 (by intro h; injection h; omega)
 replace b5 := b5.grown hg10 (by intro h; injection h; omega)
 replace oN := oN.grownBlk hg10 (Own.neT oN b0 (by decide))
 replace oMd := oMd.grownBlk hg10 (Own.neT oMd b0 (by decide))
 replace oMx := oMx.grownB b0 hg10 (by decide)
 replace oSl := oSl.grownBlk hg10 (Own.neT oSl b0 (by decide))
 replace X := cV X hg10 (by intro g hg; injection hg; omega)
 clear hg10 b0
 replace bM : Blk _ gM 28 mm.cells := bM
 refine aB ?_
 refine aE ?_
 refine aA rfl (aC rfl ?_)
 refine aA rfl (aF dU rfl rfl ?_)
 refine aA rfl (aI bM iF rfl rfl ?_)
 refine aA rfl (cQ Tryz.underlying26 rfl ?_)
 refine aA rfl (aS fC rfl (aO (dH _ _ _ _ _ _ _ _ _ b5 hs hB ok hbl (by omega)) ?_))
 rintro _ w14 ⟨rk, a16, sd17, rfl, hr18, ok, b15, x13⟩
 replace hs := hs.grown x13 (by intro g hg; injection hg; omega)
 replace bR := bR.grown x13 (by intro h; injection h; omega)
 replace oN := oN.grownBlk x13 (Own.neT oN b5 (by decide))
 replace oMd := oMd.grownBlk x13 (Own.neT oMd b5 (by decide))
 replace oMx := oMx.grownB b5 x13 (by decide)
 replace oSl := oSl.grownBlk x13 (Own.neT oSl b5 (by decide))
 replace bM := bM.grown x13 (by intro h; injection h; omega)
 replace X := cU X x13
 clear x13 b5
 refine aA rfl (aD rfl ?_)
 refine aB ?_
 refine aQ ?_
 refine aE ?_
 refine aA rfl (aC rfl ?_)
 refine aA rfl (aS fC rfl (aO (dH _ _ _ _ _ _ _ _ _ b15 hs hB ok hbl (by omega)) ?_))
 rintro _ w20 ⟨r30, a22, sd23, rfl, hr24, ok, b21, x19⟩
 replace hs := hs.grown x19 (by intro g hg; injection hg; omega)
 replace bR := bR.grown x19 (by intro h; injection h; omega)
 replace oN := oN.grownBlk x19 (Own.neT oN b15 (by decide))
 replace oMd := oMd.grownBlk x19 (Own.neT oMd b15 (by decide))
 replace oMx := oMx.grownB b15 x19 (by decide)
 replace oSl := oSl.grownBlk x19 (Own.neT oSl b15 (by decide))
 replace bM := bM.grown x19 (by intro h; injection h; omega)
 replace X := cU X x19
 clear x19 b15
 refine aB ?_
 refine aW ?_
 refine aE ?_
 refine aA rfl (dK rfl rfl (fun h25 => ?_) (fun h25 => ?_))
 refine aA rfl (aD rfl ?_)
 refine aB ?_
 refine aR rfl ?_
 refine aM ?_
 refine aA rfl (aN dA cY rfl rfl rfl rfl rfl ?_)
 intro g26 w28 eg26 oL bbg26 x27 zg26
 replace oL := Own.low oL X.size
 replace hs := hs.ext x27
 replace bR := bR.ext x27
 replace oN := oN.ext x27
 replace oMd := oMd.ext x27
 replace oMx := oMx.ext x27
 replace oSl := oSl.ext x27
 replace bM := bM.ext x27
 replace b21 := b21.ext x27
 replace X := dE X x27
 replace oL := oL.to (cs' := ([0, 16777215, 16777216] : List Int).flatMap eI) rfl
 refine aA rfl (aC rfl ?_)
 refine aA rfl (aS fC rfl (aO (dH _ _ _ _ _ _ _ _ _ b21 hs hB ok hbl (by omega)) ?_))
 rintro _ w30 ⟨rr, a32, sd33, rfl, hr34, ok, b31, x29⟩
 replace hs := hs.grown x29 (by intro g hg; injection hg; omega)
 replace bR := bR.grown x29 (by intro h; injection h; omega)
 replace oN := oN.grownBlk x29 (Own.neT oN b21 (by decide))
 replace oMd := oMd.grownBlk x29 (Own.neT oMd b21 (by decide))
 replace oMx := oMx.grownB b21 x29 (by decide)
 replace oSl := oSl.grownBlk x29 (Own.neT oSl b21 (by decide))
 replace bM := bM.grown x29 (by intro h; injection h; omega)
 replace oL := oL.grownBlk x29 (Own.neT oL b21 (by decide))
 replace X := cU X x29
 clear x29 b21
 obtain ⟨y, hy⟩ : ∃ y, ([0, 16777215, 16777216] : List Int)[rr.toNat]? = some y := ⟨_, List.getElem?_eq_getElem (by simp; omega)⟩
 refine aA rfl (aT (oL).sl bL rfl dA rfl rfl rfl hy (by omega) ?_)
 refine aA rfl (cX (oL).sl bL hy cY rfl rfl rfl ?_)
 refine aA rfl (aF mA rfl rfl ?_)
 refine aA rfl (aX bM cY rfl rfl rfl rfl rfl rfl ?_)
 intro w36 bN hg35 z37
 replace hs := hs.grown hg35 (by intro g hg; injection hg; omega)
 replace bR := bR.grown hg35 (by intro h; injection h; omega)
 replace oN := oN.grownBlk hg35 (Own.neT oN bM (by decide))
 replace oMd := oMd.grownBlk hg35 (Own.neT oMd bM (by decide))
 replace oMx := oMx.grownB bM hg35 (by decide)
 replace oSl := oSl.grownBlk hg35 (Own.neT oSl bM (by decide))
 replace oL := oL.grownBlk hg35 (Own.neT oL bM (by decide))
 replace b31 := b31.grown hg35 (by intro h; injection h; omega)
 replace X := cV X hg35 (by intro g hg; injection hg; omega)
 clear hg35 bM
 refine aB ?_
 refine dJ ?_
 refine aP ?_
 refine aE ?_
 refine aA rfl (bO bN dP rfl rfl ?_)
 refine aA rfl (aX bR dP rfl rfl rfl rfl rfl rfl ?_)
 intro w39 bZ hg38 z40
 replace hs := hs.grown hg38 (by intro g hg; injection hg; omega)
 replace oN := oN.grownBlk hg38 (Own.neT oN bR (by decide))
 replace oMd := oMd.grownBlk hg38 (Own.neT oMd bR (by decide))
 replace oMx := oMx.grownB bR hg38 (by decide)
 replace oSl := oSl.grownBlk hg38 (Own.neT oSl bR (by decide))
 replace oL := oL.grownBlk hg38 (Own.neT oL bR (by decide))
 replace b31 := b31.grown hg38 (by intro h; injection h; omega)
 replace bN := bN.grown hg38 (by intro h; injection h; omega)
 replace X := cV X hg38 (by intro g hg; injection hg; omega)
 clear hg38 bR
 refine aB ?_
 refine aV ?_
 refine eC rfl rfl bZ dP rfl ?_
 · skip
   (exact ⟨⟨y, mm.An, mm.ns, mm.cn, mm.Am, mm.ms, mm.cm, mm.As, mm.ss, mm.cs⟩, _, _, rfl, ⟨⟨hsm.1, hsm.2, hsm.3, hsm.4, hsm.5⟩, ⟨hml.1, hml.2.2.2, .inl ⟨hml.2.1, hml.1⟩⟩⟩, ⟨oN.slF, oMd.slF, oMx.slF, oSl.slF, oN.cap⟩, ok, b31, X⟩)
 refine aA rfl (aD rfl ?_)
 refine aB ?_
 refine aL rfl ?_
 refine aE ?_
 refine aA rfl (dK rfl rfl (fun h41 => ?_) (fun h41 => ?_))
 refine aA rfl (aD rfl ?_)
 refine aB ?_
 refine aR rfl ?_
 refine aM ?_
 refine aA rfl (aC rfl ?_)
 have LoT := X.size
 refine aA rfl (aS aIP rfl (aO (aBR _ _ _ _ _ _ _ _ b21 hs hB ok hbl) ?_))
 rintro _ w43 ⟨AT, cT, ys, a45, sd46, rfl, hyl, oT, ok, b44, x42⟩
 replace hs := hs.grown x42 (by intro g hg; injection hg; omega)
 replace bR := bR.grown x42 (by intro h; injection h; omega)
 replace oN := oN.grownBlk x42 (Own.neT oN b21 (by decide))
 replace oMd := oMd.grownBlk x42 (Own.neT oMd b21 (by decide))
 replace oMx := oMx.grownB b21 x42 (by decide)
 replace oSl := oSl.grownBlk x42 (Own.neT oSl b21 (by decide))
 replace bM := bM.grown x42 (by intro h; injection h; omega)
 replace X := cU X x42
 clear x42 b21
 replace oT := Own.low oT LoT
 refine aA rfl (aF kP rfl rfl ?_)
 refine aA rfl (aX bM vV rfl rfl rfl rfl rfl rfl ?_)
 intro w49 bN hg48 z50
 replace hs := hs.grown hg48 (by intro g hg; injection hg; omega)
 replace bR := bR.grown hg48 (by intro h; injection h; omega)
 replace oN := oN.grownBlk hg48 (Own.neT oN bM (by decide))
 replace oMd := oMd.grownBlk hg48 (Own.neT oMd bM (by decide))
 replace oMx := oMx.grownB bM hg48 (by decide)
 replace oSl := oSl.grownBlk hg48 (Own.neT oSl bM (by decide))
 replace b44 := b44.grown hg48 (by intro h; injection h; omega)
 replace oT := oT.grownBlk hg48 (Own.neT oT bM (by decide))
 replace X := cV X hg48 (by intro g hg; injection hg; omega)
 clear hg48 bM
 refine aB ?_
 refine dJ ?_
 refine aP ?_
 refine aE ?_
 refine aA rfl (bO bN dP rfl rfl ?_)
 refine aA rfl (aX bR dP rfl rfl rfl rfl rfl rfl ?_)
 intro w52 bZ hg51 z53
 replace hs := hs.grown hg51 (by intro g hg; injection hg; omega)
 replace oN := oN.grownBlk hg51 (Own.neT oN bR (by decide))
 replace oMd := oMd.grownBlk hg51 (Own.neT oMd bR (by decide))
 replace oMx := oMx.grownB bR hg51 (by decide)
 replace oSl := oSl.grownBlk hg51 (Own.neT oSl bR (by decide))
 replace b44 := b44.grown hg51 (by intro h; injection h; omega)
 replace oT := oT.grownBlk hg51 (Own.neT oT bR (by decide))
 replace bN := bN.grown hg51 (by intro h; injection h; omega)
 replace X := cV X hg51 (by intro g hg; injection hg; omega)
 clear hg51 bR
 refine aB ?_
 refine aV ?_
 refine eC rfl rfl bZ dP rfl ?_
 · skip
   (exact ⟨⟨mm.id, AT, ys, cT, mm.Am, mm.ms, mm.cm, mm.As, mm.ss, mm.cs⟩, _, _, rfl, ⟨⟨by show ys.length ≤ _; omega, hsm.2, hsm.3, hsm.4, fun z hz => Q7l (hyl.2 z hz) (by decide)⟩, ⟨hml.1, hml.2.2.2, .inr ⟨by show ys.length ≤ 13; omega, hml.2.2.1⟩⟩⟩, ⟨oT.slF, oMd.slF, oMx.slF, oSl.slF, oT.cap⟩, ok, b44, X⟩)
 refine aA rfl (aD rfl ?_)
 refine aB ?_
 refine aL rfl ?_
 refine aE ?_
 refine aA rfl (dK rfl rfl (fun h54 => ?_) (fun h54 => ?_))
 refine aA rfl (aD rfl ?_)
 refine aB ?_
 refine aR rfl ?_
 refine aM ?_
 refine aA rfl (aC rfl ?_)
 have LoT := X.size
 refine aA rfl (aS aIQ rfl (aO (aBf _ _ _ _ _ _ _ _ b21 hs hB ok hbl) ?_))
 rintro _ w56 ⟨AT, cT, ys, a58, sd59, rfl, hyl, oT, oTn, ok, b57, x55⟩
 replace hs := hs.grown x55 (by intro g hg; injection hg; omega)
 replace bR := bR.grown x55 (by intro h; injection h; omega)
 replace oN := oN.grownBlk x55 (Own.neT oN b21 (by decide))
 replace oMd := oMd.grownBlk x55 (Own.neT oMd b21 (by decide))
 replace oMx := oMx.grownB b21 x55 (by decide)
 replace oSl := oSl.grownBlk x55 (Own.neT oSl b21 (by decide))
 replace bM := bM.grown x55 (by intro h; injection h; omega)
 replace X := cU X x55
 clear x55 b21
 replace oT := Own.low oT LoT
 replace oTn := NOwn.low oTn LoT
 refine aA rfl (aF fO rfl rfl ?_)
 refine aA rfl (aX bM mK rfl rfl rfl rfl rfl rfl ?_)
 intro w62 bN hg61 z63
 replace hs := hs.grown hg61 (by intro g hg; injection hg; omega)
 replace bR := bR.grown hg61 (by intro h; injection h; omega)
 replace oN := oN.grownBlk hg61 (Own.neT oN bM (by decide))
 replace oMd := oMd.grownBlk hg61 (Own.neT oMd bM (by decide))
 replace oMx := oMx.grownB bM hg61 (by decide)
 replace oSl := oSl.grownBlk hg61 (Own.neT oSl bM (by decide))
 replace b57 := b57.grown hg61 (by intro h; injection h; omega)
 replace oT := oT.grownBlk hg61 (Own.neT oT bM (by decide))
 replace oTn := oTn.grownB bM hg61 (by decide)
 replace X := cV X hg61 (by intro g hg; injection hg; omega)
 clear hg61 bM
 refine aB ?_
 refine dJ ?_
 refine aP ?_
 refine aE ?_
 refine aA rfl (bO bN dP rfl rfl ?_)
 refine aA rfl (aX bR dP rfl rfl rfl rfl rfl rfl ?_)
 intro w65 bZ hg64 z66
 replace hs := hs.grown hg64 (by intro g hg; injection hg; omega)
 replace oN := oN.grownBlk hg64 (Own.neT oN bR (by decide))
 replace oMd := oMd.grownBlk hg64 (Own.neT oMd bR (by decide))
 replace oMx := oMx.grownB bR hg64 (by decide)
 replace oSl := oSl.grownBlk hg64 (Own.neT oSl bR (by decide))
 replace b57 := b57.grown hg64 (by intro h; injection h; omega)
 replace oT := oT.grownBlk hg64 (Own.neT oT bR (by decide))
 replace oTn := oTn.grownB bR hg64 (by decide)
 replace bN := bN.grown hg64 (by intro h; injection h; omega)
 replace X := cV X hg64 (by intro g hg; injection hg; omega)
 clear hg64 bR
 refine aB ?_
 refine aV ?_
 refine eC rfl rfl bZ dP rfl ?_
 · skip
   (exact ⟨⟨mm.id, mm.An, mm.ns, mm.cn, AT, ys, cT, mm.As, mm.ss, mm.cs⟩, _, _, rfl, ⟨⟨hsm.1, by show ys.length ≤ _; omega, fun z hz => Q7l (hyl.2 z hz) (by decide), hsm.4, hsm.5⟩, ⟨by show ys.length ≤ 17; omega, hyl.2, .inl ⟨hml.2.1, by show ys.length ≤ 17; omega⟩⟩⟩, ⟨oN.slF, oT.slF, oTn.slF, oSl.slF, oN.cap⟩, ok, b57, X⟩)
 refine aA rfl (aD rfl ?_)
 refine aB ?_
 refine aL rfl ?_
 refine aE ?_
 refine aA rfl (dK rfl rfl (fun h67 => ?_) (fun h67 => ?_))
 refine aA rfl (aD rfl ?_)
 refine aB ?_
 refine aR rfl ?_
 refine aM ?_
 refine aA rfl (aF dU rfl rfl ?_)
 refine aA rfl (aI bM iF rfl rfl ?_)
 refine aA rfl (aEA eW SlotI.len (xs := mm.ss) rfl rfl (show _ = ((1 : Nat) : Int) from rfl) rfl (by omega) (Own.cap oSl) ?_)
 intro AP hAP
 have hpd : (mm.ss.drop 1).length = mm.ss.length - 1 := List.length_drop ..
 refine aA rfl (aF dU rfl rfl ?_)
 refine aA rfl (aX bM iF rfl rfl rfl rfl rfl rfl ?_)
 intro w69 bN hg68 z70
 replace hs := hs.grown hg68 (by intro g hg; injection hg; omega)
 replace bR := bR.grown hg68 (by intro h; injection h; omega)
 replace oN := oN.grownBlk hg68 (Own.neT oN bM (by decide))
 replace oMd := oMd.grownBlk hg68 (Own.neT oMd bM (by decide))
 replace oMx := oMx.grownB bM hg68 (by decide)
 replace oSl := oSl.grownBlk hg68 (Own.neT oSl bM (by decide))
 replace b21 := b21.grown hg68 (by intro h; injection h; omega)
 replace X := cV X hg68 (by intro g hg; injection hg; omega)
 clear hg68 bM
 refine aB ?_
 refine dJ ?_
 refine aP ?_
 refine aE ?_
 refine aA rfl (bO bN dP rfl rfl ?_)
 refine aA rfl (aX bR dP rfl rfl rfl rfl rfl rfl ?_)
 intro w72 bZ hg71 z73
 replace hs := hs.grown hg71 (by intro g hg; injection hg; omega)
 replace oN := oN.grownBlk hg71 (Own.neT oN bR (by decide))
 replace oMd := oMd.grownBlk hg71 (Own.neT oMd bR (by decide))
 replace oMx := oMx.grownB bR hg71 (by decide)
 replace oSl := oSl.grownBlk hg71 (Own.neT oSl bR (by decide))
 replace b21 := b21.grown hg71 (by intro h; injection h; omega)
 replace bN := bN.grown hg71 (by intro h; injection h; omega)
 replace X := cV X hg71 (by intro g hg; injection hg; omega)
 clear hg71 bR
 refine aB ?_
 refine aV ?_
 refine eC rfl rfl bZ dP rfl ?_
 · skip
   (exact ⟨⟨mm.id, mm.An, mm.ns, mm.cn, mm.Am, mm.ms, mm.cm, AP, mm.ss.drop 1, mm.cs - 1⟩, _, _, by unfold MedlI.cells; simp only [hpd] <;> rfl, ⟨⟨hsm.1, hsm.2, hsm.3, by show (mm.ss.drop 1).length ≤ _; omega, hsm.5⟩, ⟨hml.1, hml.2.2.2, .inl ⟨hml.2.1, hml.1⟩⟩⟩, ⟨oN.slF, oMd.slF, oMx.slF, hAP _ _ _ oSl.slF, oN.cap⟩, ok, b21, X⟩)
 refine aA rfl (aD rfl ?_)
 refine aB ?_
 refine aL rfl ?_
 refine aE ?_
 refine aA rfl (dK rfl rfl (fun h74 => ?_) (fun h74 => ?_))
 refine aA rfl (aD rfl ?_)
 refine aB ?_
 refine aR rfl ?_
 refine aBH (fun wz => Blk wz gM 28 mm.cells) mixed ?_
 obtain ⟨w75, ew75⟩ : ∃ wy, wy = World.drew w20 := ⟨_, rfl⟩
 rw [← ew75]
 have xd : Ext w20 w75 := ew75 ▸ Ext.drew w20
 replace hs := hs.ext xd
 replace bR := bR.ext xd
 replace oN := oN.ext xd
 replace oMd := oMd.ext xd
 replace oMx := oMx.ext xd
 replace oSl := oSl.ext xd
 replace bM := bM.ext xd
 replace b21 := b21.ext xd
 replace X := dE X xd; clear xd ew75
 refine dI 0 rfl (by kernel_rfl) rfl (by kernel_rfl) (listed' := #[true, false, false, false, false, false, false, false]) rfl (fun wq sq => aF dU rfl rfl ⟨rfl, rfl⟩) ?_
 refine dI 1 rfl (by kernel_rfl) rfl (by kernel_rfl) (listed' := #[true, true, false, false, false, false, false, false]) rfl (fun wq sq => aI sq iF rfl rfl ⟨rfl, rfl⟩) ?_
 refine dI 2 rfl (by kernel_rfl) rfl (by kernel_rfl) (listed' := #[true, true, true, false, false, false, false, false]) rfl (fun wq sq => aC rfl ⟨rfl, rfl⟩) ?_
 refine dI 3 rfl (by kernel_rfl) rfl (by kernel_rfl) (listed' := #[true, true, true, true, false, false, false, false]) rfl (fun wq sq => aC rfl ⟨rfl, rfl⟩) ?_
 refine fM 4 rfl rfl (by kernel_rfl) (listed' := #[true, true, true, true, true, false, false, false]) rfl bM (aS aIR rfl (aO (aBT _ _ _ _ _ _ _ _ b21 hs hB ok hbl) ?_))
 rintro _ w77 ⟨dd, a79, sd80, rfl, h_, ok, b78, x76⟩
 replace hs := hs.grown x76 (by intro g hg; injection hg; omega)
 replace bR := bR.grown x76 (by intro h; injection h; omega)
 replace oN := oN.grownBlk x76 (Own.neT oN b21 (by decide))
 replace oMd := oMd.grownBlk x76 (Own.neT oMd b21 (by decide))
 replace oMx := oMx.grownB b21 x76 (by decide)
 replace oSl := oSl.grownBlk x76 (Own.neT oSl b21 (by decide))
 replace bM := bM.grown x76 (by intro h; injection h; omega)
 replace X := cU X x76
 clear x76 b21
 obtain ⟨x, hx⟩ : ∃ x, mm.ss[rk.toNat]? = some x := ⟨_, List.getElem?_eq_getElem (by omega)⟩
 have hxd := hdu x (List.mem_of_getElem? hx)
 refine fM 5 rfl rfl (by kernel_rfl) (listed' := #[true, true, true, true, true, true, false, false]) rfl bM (aT (oSl).sl SlotI.len rfl eW rfl rfl rfl hx (by omega) ?_)
 refine fM 6 rfl rfl (by kernel_rfl) (listed' := #[true, true, true, true, true, true, true, false]) rfl bM (bK fP rfl ?_)
 refine fM 7 rfl rfl (by kernel_rfl) (listed' := #[true, true, true, true, true, true, true, true]) rfl bM (jP oSl eV rfl rfl rfl rfl (by omega) (by omega) rfl ?_)
 intro w82 oU hg81 z83
 replace hs := hs.grown hg81 (fun g hg => Q7l Bhs (Own.lt oSl hg).1)
 replace bR := bR.grown hg81 (fun h => Own.neT oSl bR (by decide) h.symm)
 replace oN := oN.grown hg81 (Own.neO oN oSl (by decide))
 replace oMd := oMd.grown hg81 (Own.neO oMd oSl (by decide))
 replace oMx := oMx.grownO oSl hg81 (by decide)
 replace bM := bM.grown hg81 (fun h => Own.neT oSl bM (by decide) h.symm)
 replace b78 := b78.grown hg81 (fun h => Own.neT oSl b78 (by decide) h.symm)
 replace X : w.grownBy w82 (some gS) := by first | exact cU X hg81 | exact cV X hg81 (fun g hg => (Own.lt oSl hg).1)
 clear hg81 z83
 obtain ⟨zs, hzl, oU⟩ : ∃ zs : List SlotI, zs.length = mm.ss.length ∧ Own _ w.heap.size 89 8 mm.As mm.ss.length mm.cs (zs.flatMap SlotI.cells) := ⟨mm.ss.set rk.toNat ⟨x.mode, x.round, x.slot, dd⟩, by rw [List.length_set], oU.to (gH (x := x) (x' := ⟨x.mode, x.round, x.slot, dd⟩) (vs := dd.cells) SlotI.len (f := 3) rfl (by omega) mm.ss rk.toNat hx)⟩
 refine kA rfl bM (fun aj fj => ⟨_, fj, ?_⟩)
 refine dJ ?_
 refine aP ?_
 refine aE ?_
 refine aA rfl (bO bM dP rfl rfl ?_)
 refine aA rfl (aX bR dP rfl rfl rfl rfl rfl rfl ?_)
 intro w85 bZ hg84 z86
 replace hs := hs.grown hg84 (by intro g hg; injection hg; omega)
 replace oN := oN.grownBlk hg84 (Own.neT oN bR (by decide))
 replace oMd := oMd.grownBlk hg84 (Own.neT oMd bR (by decide))
 replace oMx := oMx.grownB bR hg84 (by decide)
 replace bM := bM.grown hg84 (by intro h; injection h; omega)
 replace b78 := b78.grown hg84 (by intro h; injection h; omega)
 replace oU := oU.grownBlk hg84 (Own.neT oU bR (by decide))
 replace X := cV X hg84 (by intro g hg; injection hg; omega)
 clear hg84 bR
 refine aB ?_
 refine aV ?_
 refine eC rfl rfl bZ dP rfl ?_
 · skip
   (exact ⟨⟨mm.id, mm.An, mm.ns, mm.cn, mm.Am, mm.ms, mm.cm, mm.As, zs, mm.cs⟩, _, _, by rw [rS hzl] <;> rfl, ⟨⟨hsm.1, hsm.2, hsm.3, by show zs.length ≤ _; omega, hsm.5⟩, ⟨hml.1, hml.2.2.2, .inl ⟨hml.2.1, hml.1⟩⟩⟩, ⟨oN.slF, oMd.slF, oMx.slF, oU.slF, oN.cap⟩, ok, b78, X⟩)
 refine aA rfl (aD rfl ?_)
 refine aB ?_
 refine aL rfl ?_
 refine aE ?_
 refine aA rfl (dK rfl rfl (fun h87 => ?_) (fun h87 => ?_))
 refine aA rfl (aD rfl ?_)
 refine aB ?_
 refine aR rfl ?_
 refine vG [false, false, false, false, false, false, false, false, false, false, false, false, false, false] mixed (by kernel_rfl) ?_
 obtain ⟨x, hx⟩ : ∃ x, mm.ss[rk.toNat]? = some x := ⟨_, List.getElem?_eq_getElem (by omega)⟩
 have hxd := hdu x (List.mem_of_getElem? hx)
 refine cE rfl (fun wq sq => aF dU rfl rfl ⟨rfl, Q7r _⟩) ?_
 refine cE rfl (fun wq sq => aI (bM.ext sq) iF rfl rfl ⟨rfl, Q7r _⟩) ?_
 refine cE rfl (fun wq sq => aC rfl ⟨rfl, Q7r _⟩) ?_
 refine cE rfl (fun wq sq => aF dU rfl rfl ⟨rfl, Q7r _⟩) ?_
 refine cE rfl (fun wq sq => aI (bM.ext sq) iF rfl rfl ⟨rfl, Q7r _⟩) ?_
 refine cE rfl (fun wq sq => aC rfl ⟨rfl, Q7r _⟩) ?_
 refine cE rfl (fun wq sq => aT ((oSl.ext sq)).sl SlotI.len rfl eW rfl rfl rfl hx (by omega) ⟨rfl, Q7r _⟩) ?_
 refine cE rfl (fun wq sq => bK fP rfl ⟨rfl, Q7r _⟩) ?_
 refine cE rfl (fun wq sq => bK eK rfl ⟨rfl, Q7r _⟩) ?_
 refine cE rfl (fun wq sq => nZ ((oSl.ext sq)).sl SlotI.len hx cY rfl rfl rfl ⟨rfl, Q7r _⟩) ?_
 refine cE rfl (fun wq sq => aZ rfl rfl (dR (by omega)) ⟨rfl, Q7r _⟩) ?_
 refine cE rfl (fun wq sq => aT ((oSl.ext sq)).sl SlotI.len rfl eW rfl rfl rfl hx (by omega) ⟨rfl, Q7r _⟩) ?_
 refine cE rfl (fun wq sq => bK fP rfl ⟨rfl, Q7r _⟩) ?_
 refine cE rfl (fun wq sq => bK eK rfl ⟨rfl, Q7r _⟩) ?_
 refine dW (fun w88 sq => ?_)
 have xq := sq
 replace hs := hs.ext xq
 replace bR := bR.ext xq
 replace oN := oN.ext xq
 replace oMd := oMd.ext xq
 replace oMx := oMx.ext xq
 replace oSl := oSl.ext xq
 replace bM := bM.ext xq
 replace b21 := b21.ext xq
 replace X := dE X xq; clear xq sq
 refine aA rfl (lP oSl cY rfl rfl rfl rfl (by omega) (by omega) rfl ?_)
 intro w90 oU hg89 z91
 replace hs := hs.grown hg89 (fun g hg => Q7l Bhs (Own.lt oSl hg).1)
 replace bR := bR.grown hg89 (fun h => Own.neT oSl bR (by decide) h.symm)
 replace oN := oN.grown hg89 (Own.neO oN oSl (by decide))
 replace oMd := oMd.grown hg89 (Own.neO oMd oSl (by decide))
 replace oMx := oMx.grownO oSl hg89 (by decide)
 replace bM := bM.grown hg89 (fun h => Own.neT oSl bM (by decide) h.symm)
 replace b21 := b21.grown hg89 (fun h => Own.neT oSl b21 (by decide) h.symm)
 replace X : w.grownBy w90 (some gS) := by first | exact cU X hg89 | exact cV X hg89 (fun g hg => (Own.lt oSl hg).1)
 clear hg89 z91
 obtain ⟨zs, hzl, oU⟩ : ∃ zs : List SlotI, zs.length = mm.ss.length ∧ Own _ w.heap.size 89 8 mm.As mm.ss.length mm.cs (zs.flatMap SlotI.cells) := ⟨mm.ss.set rk.toNat ⟨x.mode, x.round, x.slot, ⟨x.desc.node, x.desc.kind, x.desc.size, x.desc.duration + 1, x.desc.change⟩⟩, by rw [List.length_set], oU.to (gH (x := x) (x' := ⟨x.mode, x.round, x.slot, ⟨x.desc.node, x.desc.kind, x.desc.size, x.desc.duration + 1, x.desc.change⟩⟩) (vs := [.int .i64 (x.desc.duration + 1)]) SlotI.len (f := 6) rfl (by omega) mm.ss rk.toNat hx)⟩
 refine aB ?_
 refine dJ ?_
 refine aP ?_
 refine aE ?_
 refine aA rfl (bO bM dP rfl rfl ?_)
 refine aA rfl (aX bR dP rfl rfl rfl rfl rfl rfl ?_)
 intro w93 bZ hg92 z94
 replace hs := hs.grown hg92 (by intro g hg; injection hg; omega)
 replace oN := oN.grownBlk hg92 (Own.neT oN bR (by decide))
 replace oMd := oMd.grownBlk hg92 (Own.neT oMd bR (by decide))
 replace oMx := oMx.grownB bR hg92 (by decide)
 replace bM := bM.grown hg92 (by intro h; injection h; omega)
 replace b21 := b21.grown hg92 (by intro h; injection h; omega)
 replace oU := oU.grownBlk hg92 (Own.neT oU bR (by decide))
 replace X := cV X hg92 (by intro g hg; injection hg; omega)
 clear hg92 bR
 refine aB ?_
 refine aV ?_
 refine eC rfl rfl bZ dP rfl ?_
 · skip
   (exact ⟨⟨mm.id, mm.An, mm.ns, mm.cn, mm.Am, mm.ms, mm.cm, mm.As, zs, mm.cs⟩, _, _, by rw [rS hzl] <;> rfl, ⟨⟨hsm.1, hsm.2, hsm.3, by show zs.length ≤ _; omega, hsm.5⟩, ⟨hml.1, hml.2.2.2, .inl ⟨hml.2.1, hml.1⟩⟩⟩, ⟨oN.slF, oMd.slF, oMx.slF, oU.slF, oN.cap⟩, ok, b21, X⟩)
 refine aA rfl (aD rfl ?_)
 refine aB ?_
 refine aL rfl ?_
 refine aE ?_
 refine aA rfl (dK rfl rfl (fun h95 => ?_) (fun h95 => ?_))
 refine aA rfl (aD rfl ?_)
 refine aB ?_
 refine aR rfl ?_
 refine aBH (fun wz => Blk wz gM 28 mm.cells) mixed ?_
 obtain ⟨w96, ew96⟩ : ∃ wy, wy = World.drew w20 := ⟨_, rfl⟩
 rw [← ew96]
 have xd : Ext w20 w96 := ew96 ▸ Ext.drew w20
 replace hs := hs.ext xd
 replace bR := bR.ext xd
 replace oN := oN.ext xd
 replace oMd := oMd.ext xd
 replace oMx := oMx.ext xd
 replace oSl := oSl.ext xd
 replace bM := bM.ext xd
 replace b21 := b21.ext xd
 replace X := dE X xd; clear xd ew96
 refine dI 0 rfl (by kernel_rfl) rfl (by kernel_rfl) (listed' := #[true, false, false, false, false, false, false, false, false]) rfl (fun wq sq => aF dU rfl rfl ⟨rfl, rfl⟩) ?_
 refine dI 1 rfl (by kernel_rfl) rfl (by kernel_rfl) (listed' := #[true, true, false, false, false, false, false, false, false]) rfl (fun wq sq => aI sq iF rfl rfl ⟨rfl, rfl⟩) ?_
 refine dI 2 rfl (by kernel_rfl) rfl (by kernel_rfl) (listed' := #[true, true, true, false, false, false, false, false, false]) rfl (fun wq sq => aC rfl ⟨rfl, rfl⟩) ?_
 refine dI 3 rfl (by kernel_rfl) rfl (by kernel_rfl) (listed' := #[true, true, true, true, false, false, false, false, false]) rfl (fun wq sq => aC rfl ⟨rfl, rfl⟩) ?_
 refine fM 4 rfl rfl (by kernel_rfl) (listed' := #[true, true, true, true, true, false, false, false, false]) rfl bM (aS fC rfl (aO (dH _ _ _ _ _ _ _ _ _ b21 hs hB ok hbl (by omega)) ?_))
 rintro _ w98 ⟨r9, a100, sd101, rfl, hr102, ok, b99, x97⟩
 replace hs := hs.grown x97 (by intro g hg; injection hg; omega)
 replace bR := bR.grown x97 (by intro h; injection h; omega)
 replace oN := oN.grownBlk x97 (Own.neT oN b21 (by decide))
 replace oMd := oMd.grownBlk x97 (Own.neT oMd b21 (by decide))
 replace oMx := oMx.grownB b21 x97 (by decide)
 replace oSl := oSl.grownBlk x97 (Own.neT oSl b21 (by decide))
 replace bM := bM.grown x97 (by intro h; injection h; omega)
 replace X := cU X x97
 clear x97 b21
 obtain ⟨x, hx⟩ : ∃ x, mm.ss[rk.toNat]? = some x := ⟨_, List.getElem?_eq_getElem (by omega)⟩
 have hxd := hdu x (List.mem_of_getElem? hx)
 refine fM 5 rfl rfl (by kernel_rfl) (listed' := #[true, true, true, true, true, true, false, false, false]) rfl bM (aT (oSl).sl SlotI.len rfl eW rfl rfl rfl hx (by omega) ?_)
 refine fM 6 rfl rfl (by kernel_rfl) (listed' := #[true, true, true, true, true, true, true, false, false]) rfl bM (bK fP rfl ?_)
 refine fM 7 rfl rfl (by kernel_rfl) (listed' := #[true, true, true, true, true, true, true, true, false]) rfl bM (bK jN rfl ?_)
 refine fM 8 rfl rfl (by kernel_rfl) (listed' := #[true, true, true, true, true, true, true, true, true]) rfl bM (lP oSl cY rfl rfl rfl rfl (by omega) (by omega) rfl ?_)
 intro w104 oU hg103 z105
 replace hs := hs.grown hg103 (fun g hg => Q7l Bhs (Own.lt oSl hg).1)
 replace bR := bR.grown hg103 (fun h => Own.neT oSl bR (by decide) h.symm)
 replace oN := oN.grown hg103 (Own.neO oN oSl (by decide))
 replace oMd := oMd.grown hg103 (Own.neO oMd oSl (by decide))
 replace oMx := oMx.grownO oSl hg103 (by decide)
 replace bM := bM.grown hg103 (fun h => Own.neT oSl bM (by decide) h.symm)
 replace b99 := b99.grown hg103 (fun h => Own.neT oSl b99 (by decide) h.symm)
 replace X : w.grownBy w104 (some gS) := by first | exact cU X hg103 | exact cV X hg103 (fun g hg => (Own.lt oSl hg).1)
 clear hg103 z105
 obtain ⟨zs, hzl, oU⟩ : ∃ zs : List SlotI, zs.length = mm.ss.length ∧ Own _ w.heap.size 89 8 mm.As mm.ss.length mm.cs (zs.flatMap SlotI.cells) := ⟨mm.ss.set rk.toNat ⟨x.mode, x.round, x.slot, ⟨r9, x.desc.kind, x.desc.size, x.desc.duration, x.desc.change⟩⟩, by rw [List.length_set], oU.to (gH (x := x) (x' := ⟨x.mode, x.round, x.slot, ⟨r9, x.desc.kind, x.desc.size, x.desc.duration, x.desc.change⟩⟩) (vs := [.int .i64 r9]) SlotI.len (f := 3) rfl (by omega) mm.ss rk.toNat hx)⟩
 refine kA rfl bM (fun aj fj => ⟨_, fj, ?_⟩)
 refine dJ ?_
 refine aP ?_
 refine aE ?_
 refine aA rfl (bO bM dP rfl rfl ?_)
 refine aA rfl (aX bR dP rfl rfl rfl rfl rfl rfl ?_)
 intro w107 bZ hg106 z108
 replace hs := hs.grown hg106 (by intro g hg; injection hg; omega)
 replace oN := oN.grownBlk hg106 (Own.neT oN bR (by decide))
 replace oMd := oMd.grownBlk hg106 (Own.neT oMd bR (by decide))
 replace oMx := oMx.grownB bR hg106 (by decide)
 replace bM := bM.grown hg106 (by intro h; injection h; omega)
 replace b99 := b99.grown hg106 (by intro h; injection h; omega)
 replace oU := oU.grownBlk hg106 (Own.neT oU bR (by decide))
 replace X := cV X hg106 (by intro g hg; injection hg; omega)
 clear hg106 bR
 refine aB ?_
 refine aV ?_
 refine eC rfl rfl bZ dP rfl ?_
 · skip
   (exact ⟨⟨mm.id, mm.An, mm.ns, mm.cn, mm.Am, mm.ms, mm.cm, mm.As, zs, mm.cs⟩, _, _, by rw [rS hzl] <;> rfl, ⟨⟨hsm.1, hsm.2, hsm.3, by show zs.length ≤ _; omega, hsm.5⟩, ⟨hml.1, hml.2.2.2, .inl ⟨hml.2.1, hml.1⟩⟩⟩, ⟨oN.slF, oMd.slF, oMx.slF, oU.slF, oN.cap⟩, ok, b99, X⟩)
 refine aA rfl (aD rfl ?_)
 refine aB ?_
 refine aL rfl ?_
 refine aE ?_
 refine aA rfl (dK rfl rfl (fun h109 => ?_) (fun h109 => ?_))
 refine aA rfl (aD rfl ?_)
 refine aB ?_
 refine aR rfl ?_
 refine aE ?_
 refine aA rfl (aF dU rfl rfl ?_)
 refine aA rfl (aI bM iF rfl rfl ?_)
 refine aA rfl (aC rfl ?_)
 obtain ⟨x, hx⟩ : ∃ x, mm.ss[rk.toNat]? = some x := ⟨_, List.getElem?_eq_getElem (by omega)⟩
 have hxd := hdu x (List.mem_of_getElem? hx)
 refine aA rfl (aT (oSl).sl SlotI.len rfl eW rfl rfl rfl hx (by omega) ?_)
 refine aA rfl (bK fP rfl ?_)
 refine aA rfl (bK fA rfl ?_)
 refine aA rfl (lP oSl cY rfl rfl rfl rfl (by omega) (by omega) rfl ?_)
 intro w111 oS1 hg110 z112
 replace hs := hs.grown hg110 (fun g hg => Q7l Bhs (Own.lt oSl hg).1)
 replace bR := bR.grown hg110 (fun h => Own.neT oSl bR (by decide) h.symm)
 replace oN := oN.grown hg110 (Own.neO oN oSl (by decide))
 replace oMd := oMd.grown hg110 (Own.neO oMd oSl (by decide))
 replace oMx := oMx.grownO oSl hg110 (by decide)
 replace bM := bM.grown hg110 (fun h => Own.neT oSl bM (by decide) h.symm)
 replace b21 := b21.grown hg110 (fun h => Own.neT oSl b21 (by decide) h.symm)
 replace X : w.grownBy w111 (some gS) := by first | exact cU X hg110 | exact cV X hg110 (fun g hg => (Own.lt oSl hg).1)
 clear hg110 z112
 obtain ⟨z1, hz1, oS1⟩ : ∃ zs : List SlotI, zs.length = mm.ss.length ∧ Own _ w.heap.size 89 8 mm.As mm.ss.length mm.cs (zs.flatMap SlotI.cells) := ⟨mm.ss.set rk.toNat ⟨x.mode, x.round, x.slot, ⟨x.desc.node, 3, x.desc.size, x.desc.duration, x.desc.change⟩⟩, by rw [List.length_set], oS1.to (gH (x := x) (x' := ⟨x.mode, x.round, x.slot, ⟨x.desc.node, 3, x.desc.size, x.desc.duration, x.desc.change⟩⟩) (vs := [.int .i64 3]) SlotI.len (f := 4) rfl (by omega) mm.ss rk.toNat hx)⟩
 obtain ⟨x1, hx1⟩ : ∃ x, z1[rk.toNat]? = some x := ⟨_, List.getElem?_eq_getElem (by omega)⟩
 refine aB ?_
 refine aE ?_
 refine aA rfl (aF dU rfl rfl ?_)
 refine aA rfl (aI bM iF rfl rfl ?_)
 refine aA rfl (aC rfl ?_)
 refine aA rfl (aT (oS1).sl SlotI.len rfl eW rfl hz1.symm rfl hx1 (by omega) ?_)
 refine aA rfl (bK fP rfl ?_)
 refine aA rfl (bK iR rfl ?_)
 refine aA rfl (lP oS1 cY rfl rfl rfl rfl (by omega) (by omega) rfl ?_)
 intro w114 oS2 hg113 z115
 replace hs := hs.grown hg113 (fun g hg => Q7l Bhs (Own.lt oS1 hg).1)
 replace bR := bR.grown hg113 (fun h => Own.neT oS1 bR (by decide) h.symm)
 replace oN := oN.grown hg113 (Own.neO oN oS1 (by decide))
 replace oMd := oMd.grown hg113 (Own.neO oMd oS1 (by decide))
 replace oMx := oMx.grownO oS1 hg113 (by decide)
 replace bM := bM.grown hg113 (fun h => Own.neT oS1 bM (by decide) h.symm)
 replace b21 := b21.grown hg113 (fun h => Own.neT oS1 b21 (by decide) h.symm)
 replace X : w.grownBy w114 (some gS) := by first | exact cU X hg113 | exact cV X hg113 (fun g hg => (Own.lt oS1 hg).1)
 clear hg113 z115
 obtain ⟨z2, hz2, oS2⟩ : ∃ zs : List SlotI, zs.length = mm.ss.length ∧ Own _ w.heap.size 89 8 mm.As mm.ss.length mm.cs (zs.flatMap SlotI.cells) := ⟨z1.set rk.toNat ⟨x1.mode, x1.round, x1.slot, ⟨x1.desc.node, x1.desc.kind, 0, x1.desc.duration, x1.desc.change⟩⟩, by rw [List.length_set, hz1], oS2.to (gH (x := x1) (x' := ⟨x1.mode, x1.round, x1.slot, ⟨x1.desc.node, x1.desc.kind, 0, x1.desc.duration, x1.desc.change⟩⟩) (vs := [.int .i64 0]) SlotI.len (f := 5) rfl (by omega) z1 rk.toNat hx1)⟩
 obtain ⟨x2, hx2⟩ : ∃ x, z2[rk.toNat]? = some x := ⟨_, List.getElem?_eq_getElem (by omega)⟩
 refine aB ?_
 refine aM ?_
 refine aA rfl (aF dU rfl rfl ?_)
 refine aA rfl (aI bM iF rfl rfl ?_)
 refine aA rfl (aC rfl ?_)
 refine aA rfl (aT (oS2).sl SlotI.len rfl eW rfl hz2.symm rfl hx2 (by omega) ?_)
 refine aA rfl (bK fP rfl ?_)
 refine aA rfl (bK nK rfl ?_)
 refine aA rfl (lP oS2 uX rfl rfl rfl rfl (by omega) (by omega) rfl ?_)
 intro w117 oU hg116 z118
 replace hs := hs.grown hg116 (fun g hg => Q7l Bhs (Own.lt oS2 hg).1)
 replace bR := bR.grown hg116 (fun h => Own.neT oS2 bR (by decide) h.symm)
 replace oN := oN.grown hg116 (Own.neO oN oS2 (by decide))
 replace oMd := oMd.grown hg116 (Own.neO oMd oS2 (by decide))
 replace oMx := oMx.grownO oS2 hg116 (by decide)
 replace bM := bM.grown hg116 (fun h => Own.neT oS2 bM (by decide) h.symm)
 replace b21 := b21.grown hg116 (fun h => Own.neT oS2 b21 (by decide) h.symm)
 replace X : w.grownBy w117 (some gS) := by first | exact cU X hg116 | exact cV X hg116 (fun g hg => (Own.lt oS2 hg).1)
 clear hg116 z118
 obtain ⟨zs, hzl, oU⟩ : ∃ zs : List SlotI, zs.length = mm.ss.length ∧ Own _ w.heap.size 89 8 mm.As mm.ss.length mm.cs (zs.flatMap SlotI.cells) := ⟨z2.set rk.toNat ⟨x2.mode, x2.round, x2.slot, ⟨x2.desc.node, x2.desc.kind, x2.desc.size, x2.desc.duration, false⟩⟩, by rw [List.length_set, hz2], oU.to (gH (x := x2) (x' := ⟨x2.mode, x2.round, x2.slot, ⟨x2.desc.node, x2.desc.kind, x2.desc.size, x2.desc.duration, false⟩⟩) (vs := [.bool false]) SlotI.len (f := 7) rfl (by omega) z2 rk.toNat hx2)⟩
 refine aB ?_
 refine dJ ?_
 refine aP ?_
 refine aE ?_
 refine aA rfl (bO bM dP rfl rfl ?_)
 refine aA rfl (aX bR dP rfl rfl rfl rfl rfl rfl ?_)
 intro w120 bZ hg119 z121
 replace hs := hs.grown hg119 (by intro g hg; injection hg; omega)
 replace oN := oN.grownBlk hg119 (Own.neT oN bR (by decide))
 replace oMd := oMd.grownBlk hg119 (Own.neT oMd bR (by decide))
 replace oMx := oMx.grownB bR hg119 (by decide)
 replace bM := bM.grown hg119 (by intro h; injection h; omega)
 replace b21 := b21.grown hg119 (by intro h; injection h; omega)
 replace oU := oU.grownBlk hg119 (Own.neT oU bR (by decide))
 replace X := cV X hg119 (by intro g hg; injection hg; omega)
 clear hg119 bR
 refine aB ?_
 refine aV ?_
 refine eC rfl rfl bZ dP rfl ?_
 · skip
   (exact ⟨⟨mm.id, mm.An, mm.ns, mm.cn, mm.Am, mm.ms, mm.cm, mm.As, zs, mm.cs⟩, _, _, by rw [rS hzl] <;> rfl, ⟨⟨hsm.1, hsm.2, hsm.3, by show zs.length ≤ _; omega, hsm.5⟩, ⟨hml.1, hml.2.2.2, .inl ⟨hml.2.1, hml.1⟩⟩⟩, ⟨oN.slF, oMd.slF, oMx.slF, oU.slF, oN.cap⟩, ok, b21, X⟩)
 refine aA rfl (aD rfl ?_)
 refine aB ?_
 refine aL rfl ?_
 refine aE ?_
 refine aA rfl (dK rfl rfl (fun h122 => ?_) (fun h122 => ?_))
 refine aA rfl (aD rfl ?_)
 refine aB ?_
 refine aR rfl ?_
 refine aQ ?_
 refine aE ?_
 refine aA rfl (aD rfl ?_)
 refine aB ?_
 refine aW ?_
 refine dD (G := Nat × List SlotI) (fun ⟨k, zs⟩ => [(2, .pointer (some ⟨g2, 0, none⟩)), (3, .pointer (some ⟨gM, 0, none⟩)), (0, .pointer (some ⟨gS, 0, none⟩)), (5, .int .i64 (k : Nat))]) (fun ⟨k, zs⟩ wr => k ≤ mm.ss.length ∧ zs.length = mm.ss.length ∧ (∃ a sd, (a ≤ bs.length ∧ 0 ≤ sd ∧ sd < 2147483647) ∧ Blk wr gS 148 (iU A c bs a sd)) ∧ Own wr w.heap.size 89 8 mm.As mm.ss.length mm.cs (zs.flatMap SlotI.cells) ∧ Sl B wr A (bs.flatMap eB) ∧ Blk wr g2 28 [.int .i64 0, .slice none 0 0, .slice none 0 0, .slice none 0 0] ∧ Own wr w.heap.size 59 4 mm.An mm.ns.length mm.cn (mm.ns.flatMap NodeI.cells) ∧ Own wr w.heap.size 92 3 mm.Am mm.ms.length mm.cm (mm.ms.flatMap ModeI.cells) ∧ NOwn wr w.heap.size 2 mm.ms ∧ Blk wr gM 28 mm.cells ∧ w.grownBy wr (some gS)) (fun ⟨k, zs⟩ => mm.ss.length - k) (0, mm.ss) (.cons rfl (.cons rfl (.cons rfl (.cons rfl (.nil _))))) ?_ ?_
 · exact ⟨by omega, rfl, ⟨_, _, ok, b21⟩, oSl, hs, bR, oN, oMd, oMx, bM, X⟩
 clear hs bR oN oMd oMx oSl bM b21
 clear X
 rintro ⟨k, zs⟩ wr ⟨hk0, hzl, qq, oZ, hs, bR, oN, oMd, oMx, bM, X⟩
 obtain ⟨a, sd, ok, q⟩ := qq
 refine aQ ?_
 refine aE ?_
 refine aA rfl (aC rfl ?_)
 refine aA rfl (aF dU rfl rfl ?_)
 refine aA rfl (aI bM iF rfl rfl ?_)
 refine aA rfl (cQ Tryz.underlying26 rfl ?_)
 refine aA rfl (cH rfl rfl (fun hk => ?_) (fun hk => ?_))
 refine aB ?_
 refine aR rfl ?_
 refine aU ?_
 refine aP ?_
 refine aQ ?_
 refine aW ?_
 refine aM ?_
 refine aA rfl (aF dU rfl rfl ?_)
 refine aA rfl (aI bM iF rfl rfl ?_)
 refine aA rfl (aC rfl ?_)
 obtain ⟨x, hx⟩ : ∃ x, zs[k]? = some x := ⟨_, List.getElem?_eq_getElem (by omega)⟩
 refine aA rfl (aT (oZ).sl SlotI.len rfl eW rfl hzl.symm rfl hx rfl ?_)
 refine aA rfl (bK fP rfl ?_)
 refine aA rfl (bK eK rfl ?_)
 refine aA rfl (lP oZ cY rfl rfl rfl rfl (by omega) (by omega) rfl ?_)
 intro w124 oU hg123 z125
 replace hs := hs.grown hg123 (fun g hg => Q7l Bhs (Own.lt oZ hg).1)
 replace bR := bR.grown hg123 (fun h => Own.neT oZ bR (by decide) h.symm)
 replace oN := oN.grown hg123 (Own.neO oN oZ (by decide))
 replace oMd := oMd.grown hg123 (Own.neO oMd oZ (by decide))
 replace oMx := oMx.grownO oZ hg123 (by decide)
 replace bM := bM.grown hg123 (fun h => Own.neT oZ bM (by decide) h.symm)
 replace q := q.grown hg123 (fun h => Own.neT oZ q (by decide) h.symm)
 replace X : w.grownBy w124 (some gS) := by first | exact cU X hg123 | exact cV X hg123 (fun g hg => (Own.lt oZ hg).1)
 clear hg123 z125
 replace oU := oU.to (cs' := (zs.set k ⟨x.mode, x.round, x.slot, ⟨x.desc.node, x.desc.kind, x.desc.size, 1000, x.desc.change⟩⟩).flatMap SlotI.cells) (gH (x := x) (x' := ⟨x.mode, x.round, x.slot, ⟨x.desc.node, x.desc.kind, x.desc.size, 1000, x.desc.change⟩⟩) (vs := [.int .i64 1000]) SlotI.len (f := 6) rfl (by omega) zs k hx)
 refine aB ?_
 refine dJ ?_
 refine aP ?_
 refine aM ?_
 refine aA rfl (aC rfl ?_)
 refine aA rfl (aZ rfl rfl (dR (by omega)) ?_)
 refine aA rfl (aD rfl ?_)
 refine aB ?_
 refine aP ⟨(k + 1, zs.set k ⟨x.mode, x.round, x.slot, ⟨x.desc.node, x.desc.kind, x.desc.size, 1000, x.desc.change⟩⟩), (.cons rfl (.cons rfl (.cons rfl (.cons rfl (.nil _))))), ?_, ?_⟩
 · exact ⟨by omega, (by rw [List.length_set]; exact hzl), ⟨_, _, ok, q⟩, oU, hs, bR, oN, oMd, oMx, bM, X⟩
 · first | omega | (dsimp only; omega)
 refine aB ?_
 refine aL rfl ?_
 refine dC ?_
 refine dB ?_
 refine dB ?_
 refine eA ?_
 refine aP ?_
 refine aE ?_
 refine aA rfl (aC rfl ?_)
 refine aA rfl (aS fC rfl (aO (dH _ _ _ _ _ _ _ _ _ q hs hB ok hbl (by omega)) ?_))
 rintro _ w127 ⟨rz, a129, sd130, rfl, hr131, ok, b128, x126⟩
 replace oZ := oZ.grownBlk x126 (Own.neT oZ q (by decide))
 replace hs := hs.grown x126 (by intro g hg; injection hg; omega)
 replace bR := bR.grown x126 (by intro h; injection h; omega)
 replace oN := oN.grownBlk x126 (Own.neT oN q (by decide))
 replace oMd := oMd.grownBlk x126 (Own.neT oMd q (by decide))
 replace oMx := oMx.grownB q x126 (by decide)
 replace bM := bM.grown x126 (by intro h; injection h; omega)
 replace X := cU X x126
 clear x126 q
 refine aA rfl (dK rfl rfl (fun h27 => ?_) (fun h27 => ?_))
 refine aB ?_
 refine aR rfl ?_
 refine aE ?_
 refine aA rfl (cO aDI jF rfl rfl ?_)
 refine aA rfl (aN jT jF rfl rfl rfl rfl rfl ?_)
 intro g1 w133 eg1 o1 bbg1 x132 zg1
 replace o1 := Own.low o1 X.size
 replace oZ := oZ.ext x132
 replace hs := hs.ext x132
 replace bR := bR.ext x132
 replace oN := oN.ext x132
 replace oMd := oMd.ext x132
 replace oMx := oMx.ext x132
 replace bM := bM.ext x132
 replace b128 := b128.ext x132
 replace X := dE X x132
 replace o1 := o1.to (cs' := ([(⟨0, ⟨#[97]⟩, 0, false⟩ : NodeI)] : List NodeI).flatMap NodeI.cells) rfl
 refine aA rfl (cO aBC hH rfl rfl ?_)
 refine aA rfl (aN iA hH rfl rfl rfl rfl rfl ?_)
 intro g3 w135 eg3 o2 bbg3 x134 zg3
 replace o2 := Own.low o2 X.size
 replace oZ := oZ.ext x134
 replace hs := hs.ext x134
 replace bR := bR.ext x134
 replace oN := oN.ext x134
 replace oMd := oMd.ext x134
 replace oMx := oMx.ext x134
 replace bM := bM.ext x134
 replace b128 := b128.ext x134
 replace o1 := o1.ext x134
 replace X := dE X x134
 replace o2 := o2.to (cs' := ([(⟨⟨2, 16, []⟩, none, 0⟩ : ModeI)] : List ModeI).flatMap ModeI.cells) rfl
 refine aA rfl (cO qA dP rfl rfl ?_)
 refine aA rfl (aX bM dP rfl rfl rfl rfl rfl rfl ?_)
 intro w137 bN hg136 z138
 replace oZ := oZ.grownBlk hg136 (Own.neT oZ bM (by decide))
 replace hs := hs.grown hg136 (by intro g hg; injection hg; omega)
 replace bR := bR.grown hg136 (by intro h; injection h; omega)
 replace oN := oN.grownBlk hg136 (Own.neT oN bM (by decide))
 replace oMd := oMd.grownBlk hg136 (Own.neT oMd bM (by decide))
 replace oMx := oMx.grownB bM hg136 (by decide)
 replace b128 := b128.grown hg136 (by intro h; injection h; omega)
 replace o1 := o1.grownBlk hg136 (Own.neT o1 bM (by decide))
 replace o2 := o2.grownBlk hg136 (Own.neT o2 bM (by decide))
 replace X := cV X hg136 (by intro g hg; injection hg; omega)
 clear hg136 bM
 refine aB ?_
 refine aQ ?_
 refine aE ?_
 refine aA rfl (aC rfl ?_)
 refine aA rfl (aS fC rfl (aO (dH _ _ _ _ _ _ _ _ _ b128 hs hB ok hbl (by omega)) ?_))
 rintro _ w140 ⟨ry, a142, sd143, rfl, hr144, ok, b141, x139⟩
 replace oZ := oZ.grownBlk x139 (Own.neT oZ b128 (by decide))
 replace hs := hs.grown x139 (by intro g hg; injection hg; omega)
 replace bR := bR.grown x139 (by intro h; injection h; omega)
 replace oN := oN.grownBlk x139 (Own.neT oN b128 (by decide))
 replace oMd := oMd.grownBlk x139 (Own.neT oMd b128 (by decide))
 replace oMx := oMx.grownB b128 x139 (by decide)
 replace o1 := o1.grownBlk x139 (Own.neT o1 b128 (by decide))
 replace o2 := o2.grownBlk x139 (Own.neT o2 b128 (by decide))
 replace bN := bN.grown x139 (by intro h; injection h; omega)
 replace X := cU X x139
 clear x139 b128
 refine aA rfl (dK rfl rfl (fun h29 => ?_) (fun h29 => ?_))
 refine aB ?_
 refine aR rfl ?_
 refine aM ?_
 refine aA rfl (cO aBC hH rfl rfl ?_)
 refine aA rfl (aN iA hH rfl rfl rfl rfl rfl ?_)
 intro g4 w146 eg4 o4 bbg4 x145 zg4
 replace o4 := Own.low o4 X.size
 replace oZ := oZ.ext x145
 replace hs := hs.ext x145
 replace bR := bR.ext x145
 replace oN := oN.ext x145
 replace oMd := oMd.ext x145
 replace oMx := oMx.ext x145
 replace o1 := o1.ext x145
 replace o2 := o2.ext x145
 replace bN := bN.ext x145
 replace b141 := b141.ext x145
 replace X := dE X x145
 replace o4 := o4.to (cs' := ([(⟨⟨3, 11, []⟩, none, 0⟩ : ModeI)] : List ModeI).flatMap ModeI.cells) rfl
 refine aA rfl (aF fO rfl rfl ?_)
 refine aA rfl (aX bN mK rfl rfl rfl rfl rfl rfl ?_)
 intro w148 bP hg147 z149
 replace oZ := oZ.grownBlk hg147 (Own.neT oZ bN (by decide))
 replace hs := hs.grown hg147 (by intro g hg; injection hg; omega)
 replace bR := bR.grown hg147 (by intro h; injection h; omega)
 replace oN := oN.grownBlk hg147 (Own.neT oN bN (by decide))
 replace oMd := oMd.grownBlk hg147 (Own.neT oMd bN (by decide))
 replace oMx := oMx.grownB bN hg147 (by decide)
 replace o1 := o1.grownBlk hg147 (Own.neT o1 bN (by decide))
 replace o2 := o2.grownBlk hg147 (Own.neT o2 bN (by decide))
 replace b141 := b141.grown hg147 (by intro h; injection h; omega)
 replace o4 := o4.grownBlk hg147 (Own.neT o4 bN (by decide))
 replace X := cV X hg147 (by intro g hg; injection hg; omega)
 clear hg147 bN
 refine aB ?_
 refine aP ?_
 refine aE ?_
 refine aA rfl (aN eW dZ rfl rfl rfl rfl rfl ?_)
 intro gI w151 egI oI bbgI x150 zgI
 replace oI := Own.low oI X.size
 replace oZ := oZ.ext x150
 replace hs := hs.ext x150
 replace bR := bR.ext x150
 replace oN := oN.ext x150
 replace oMd := oMd.ext x150
 replace oMx := oMx.ext x150
 replace o1 := o1.ext x150
 replace o2 := o2.ext x150
 replace b141 := b141.ext x150
 replace o4 := o4.ext x150
 replace bP := bP.ext x150
 replace X := dE X x150
 refine aA rfl (aD rfl ?_)
 refine aB ?_
 refine aQ ?_
 refine aE ?_
 refine aA rfl (aD rfl ?_)
 refine aB ?_
 refine aW ?_
 refine dD (G := Int × List SlotI × Nat × Option Addr × Nat) (fun ⟨i, zs, n1, A1, c1⟩ => [(2, .pointer (some ⟨g2, 0, none⟩)), (3, .pointer (some ⟨gM, 0, none⟩)), (0, .pointer (some ⟨gS, 0, none⟩)), (6, .slice A1 n1 c1), (7, .int .i64 i)]) (fun ⟨i, zs, n1, A1, c1⟩ wr => (0 ≤ i ∧ i ≤ 33) ∧ n1 = zs.length ∧ (n1 : Int) = i ∧ (∃ a sd, (a ≤ bs.length ∧ 0 ≤ sd ∧ sd < 2147483647) ∧ Blk wr gS 148 (iU A c bs a sd)) ∧ Own wr w.heap.size 89 8 A1 n1 c1 (zs.flatMap SlotI.cells) ∧ Sl B wr A (bs.flatMap eB) ∧ Blk wr g2 28 [.int .i64 0, .slice none 0 0, .slice none 0 0, .slice none 0 0] ∧ Own wr w.heap.size 59 4 mm.An mm.ns.length mm.cn (mm.ns.flatMap NodeI.cells) ∧ Own wr w.heap.size 92 3 mm.Am mm.ms.length mm.cm (mm.ms.flatMap ModeI.cells) ∧ NOwn wr w.heap.size 2 mm.ms ∧ Own wr w.heap.size 59 4 (some ⟨g1, 0, none⟩) 1 1 (([(⟨0, ⟨#[97]⟩, 0, false⟩ : NodeI)] : List NodeI).flatMap NodeI.cells) ∧ Own wr w.heap.size 92 3 (some ⟨g3, 0, none⟩) 1 1 (([(⟨⟨2, 16, []⟩, none, 0⟩ : ModeI)] : List ModeI).flatMap ModeI.cells) ∧ Own wr w.heap.size 92 3 (some ⟨g4, 0, none⟩) 1 1 (([(⟨⟨3, 11, []⟩, none, 0⟩ : ModeI)] : List ModeI).flatMap ModeI.cells) ∧ Blk wr gM 28 [.int .i64 3, .slice (some ⟨g1, 0, none⟩) 1 1, .slice (some ⟨g4, 0, none⟩) 1 1, .slice none 0 0] ∧ w.grownBy wr (some gS)) (fun ⟨i, zs, n1, A1, c1⟩ => (33 - i).toNat) (0, [], 0, some ⟨gI, 0, none⟩, 0) (.cons rfl (.cons rfl (.cons rfl (.cons rfl (.cons rfl (.nil _)))))) ?_ ?_
 · exact ⟨(by omega), rfl, rfl, ⟨_, _, ok, b141⟩, oI, hs, bR, oN, oMd, oMx, o1, o2, o4, bP, X⟩
 clear oZ hs bR oN oMd oMx o1 o2 b141 o4 bP oI
 clear X
 rintro ⟨i, zs, n1, A1, c1⟩ wr ⟨hi0, hn, hni, qq, oO, hs, bR, oN, oMd, oMx, o1, o2, o4, bP, X⟩
 obtain ⟨a, sd, ok, q⟩ := qq
 refine aQ ?_
 refine eO [false, false, false, false, false, false, false, false, false, false, false, false, false] mixed (by kernel_rfl) ?_
 refine cE rfl (fun wq sq => aC rfl ⟨rfl, Q7r _⟩) ?_
 refine cE rfl (fun wq sq => aF fO rfl rfl ⟨rfl, Q7r _⟩) ?_
 refine cE rfl (fun wq sq => aI (bP.ext sq) mK rfl rfl ⟨rfl, Q7r _⟩) ?_
 refine cE rfl (fun wq sq => aT ((o4.ext sq)).sl ModeI.len rfl iA rfl rfl rfl (show ([(⟨⟨3, 11, []⟩, none, 0⟩ : ModeI)] : List ModeI)[0]? = some (⟨⟨3, 11, []⟩, none, 0⟩ : ModeI) from rfl) rfl ⟨rfl, Q7r _⟩) ?_
 refine cE rfl (fun wq sq => bK iS rfl ⟨rfl, Q7r _⟩) ?_
 refine cE rfl (fun wq sq => dQ ((o4.ext sq)).sl ModeI.len (show ([(⟨⟨3, 11, []⟩, none, 0⟩ : ModeI)] : List ModeI)[0]? = some (⟨⟨3, 11, []⟩, none, 0⟩ : ModeI) from rfl) cY rfl rfl rfl ⟨rfl, Q7r _⟩) ?_
 refine cE rfl (fun wq sq => aF fO rfl rfl ⟨rfl, Q7r _⟩) ?_
 refine cE rfl (fun wq sq => aI (bP.ext sq) mK rfl rfl ⟨rfl, Q7r _⟩) ?_
 refine cE rfl (fun wq sq => aT ((o4.ext sq)).sl ModeI.len rfl iA rfl rfl rfl (show ([(⟨⟨3, 11, []⟩, none, 0⟩ : ModeI)] : List ModeI)[0]? = some (⟨⟨3, 11, []⟩, none, 0⟩ : ModeI) from rfl) rfl ⟨rfl, Q7r _⟩) ?_
 refine cE rfl (fun wq sq => bK fU rfl ⟨rfl, Q7r _⟩) ?_
 refine cE rfl (fun wq sq => dQ ((o4.ext sq)).sl ModeI.len (show ([(⟨⟨3, 11, []⟩, none, 0⟩ : ModeI)] : List ModeI)[0]? = some (⟨⟨3, 11, []⟩, none, 0⟩ : ModeI) from rfl) cY rfl rfl rfl ⟨rfl, Q7r _⟩) ?_
 refine cE rfl (fun wq sq => iN rfl rfl (dR (by decide)) ⟨rfl, Q7r _⟩) ?_
 refine uR rfl (fun wq sq => rW rfl rfl ⟨rfl, Q7r _⟩) (fun hlt0 => ?_) (fun hlt0 => ?_)
 have hlt : i < 33 := Int.lt_of_lt_of_le hlt0 (by decide)
 refine dW (fun w152 sq => ?_)
 have xq := sq
 replace oO := oO.ext xq
 replace hs := hs.ext xq
 replace bR := bR.ext xq
 replace oN := oN.ext xq
 replace oMd := oMd.ext xq
 replace oMx := oMx.ext xq
 replace o1 := o1.ext xq
 replace o2 := o2.ext xq
 replace o4 := o4.ext xq
 replace bP := bP.ext xq
 replace q := q.ext xq
 replace X := dE X xq; clear xq sq
 refine aB ?_
 refine aR rfl ?_
 refine aU ?_
 refine aP ?_
 refine aQ ?_
 refine aW ?_
 refine vG [false, false, false, false, false, false, false, false, false, false, false, false, false, false, false, false, false, true] mixed (by kernel_rfl) ?_
 refine cE rfl (fun wq sq => aC rfl ⟨rfl, Q7r _⟩) ?_
 refine cE rfl (fun wq sq => aC rfl ⟨rfl, Q7r _⟩) ?_
 refine cE rfl (fun wq sq => aF fO rfl rfl ⟨rfl, Q7r _⟩) ?_
 refine cE rfl (fun wq sq => aI (bP.ext sq) mK rfl rfl ⟨rfl, Q7r _⟩) ?_
 refine cE rfl (fun wq sq => aT ((o4.ext sq)).sl ModeI.len rfl iA rfl rfl rfl (show ([(⟨⟨3, 11, []⟩, none, 0⟩ : ModeI)] : List ModeI)[0]? = some (⟨⟨3, 11, []⟩, none, 0⟩ : ModeI) from rfl) rfl ⟨rfl, Q7r _⟩) ?_
 refine cE rfl (fun wq sq => bK fU rfl ⟨rfl, Q7r _⟩) ?_
 refine cE rfl (fun wq sq => dQ ((o4.ext sq)).sl ModeI.len (show ([(⟨⟨3, 11, []⟩, none, 0⟩ : ModeI)] : List ModeI)[0]? = some (⟨⟨3, 11, []⟩, none, 0⟩ : ModeI) from rfl) cY rfl rfl rfl ⟨rfl, Q7r _⟩) ?_
 refine cE rfl (fun wq sq => iE rfl rfl (by decide) (xW ⟨hi0.1, by omega, by decide⟩) ⟨rfl, Q7r _⟩) ?_
 refine cE rfl (fun wq sq => aC rfl ⟨rfl, Q7r _⟩) ?_
 refine cE rfl (fun wq sq => aF fO rfl rfl ⟨rfl, Q7r _⟩) ?_
 refine cE rfl (fun wq sq => aI (bP.ext sq) mK rfl rfl ⟨rfl, Q7r _⟩) ?_
 refine cE rfl (fun wq sq => aT ((o4.ext sq)).sl ModeI.len rfl iA rfl rfl rfl (show ([(⟨⟨3, 11, []⟩, none, 0⟩ : ModeI)] : List ModeI)[0]? = some (⟨⟨3, 11, []⟩, none, 0⟩ : ModeI) from rfl) rfl ⟨rfl, Q7r _⟩) ?_
 refine cE rfl (fun wq sq => bK fU rfl ⟨rfl, Q7r _⟩) ?_
 refine cE rfl (fun wq sq => dQ ((o4.ext sq)).sl ModeI.len (show ([(⟨⟨3, 11, []⟩, none, 0⟩ : ModeI)] : List ModeI)[0]? = some (⟨⟨3, 11, []⟩, none, 0⟩ : ModeI) from rfl) cY rfl rfl rfl ⟨rfl, Q7r _⟩) ?_
 refine cE rfl (fun wq sq => fN rfl rfl (by decide) (sV hi0.1) ⟨rfl, Q7r _⟩) ?_
 refine cE rfl (fun wq sq => cO zP eV rfl rfl ⟨rfl, Q7r _⟩) ?_
 refine cE rfl (fun wq sq => cO oF dZ rfl rfl ⟨rfl, Q7r _⟩) ?_
 refine aBe (fun g153 : Nat => Value.slice (some ⟨g153, 0, none⟩) 1 1) (fun g153 wz => Own wz w.heap.size 89 8 (some ⟨g153, 0, none⟩) 1 1 (SlotI.cells ⟨0, i / 11, i % 11, ⟨0, 1, 0, 1000, false⟩⟩)) 0 rfl ⟨lT, fun _ _ _ h k => h.ext k, fun wq sq => aN eW dZ rfl rfl rfl rfl rfl (fun g w' hg ho hb hx hz => ⟨g, rfl, Own.low ho (Q7l X.size (sq).size), hx⟩)⟩ ?_
 intro g153
 refine dW (fun w154 sq => ?_)
 have xq := sq.1
 have oV := sq.2
 replace oO := oO.ext xq
 replace hs := hs.ext xq
 replace bR := bR.ext xq
 replace oN := oN.ext xq
 replace oMd := oMd.ext xq
 replace oMx := oMx.ext xq
 replace o1 := o1.ext xq
 replace o2 := o2.ext xq
 replace o4 := o4.ext xq
 replace bP := bP.ext xq
 replace q := q.ext xq
 replace X := dE X xq; clear xq sq
 refine aA rfl (cF (ts := #[]) oO X.size oV.sl (by first | rfl | simp) (by first | exact List.all_eq_true.1 rfl | simp [Value.oneCell']) eW dZ rfl rfl rfl rfl (by omega) (by omega) ?_)
 intro AoW coW w156 oW hg155
 replace hs := hs.grown hg155 (fun g hg => Q7l Bhs (Own.lt oO hg).1)
 replace bR := bR.grown hg155 (fun h => Own.neT oO bR (by decide) h.symm)
 replace oN := oN.grown hg155 (Own.neO oN oO (by decide))
 replace oMd := oMd.grown hg155 (Own.neO oMd oO (by decide))
 replace oMx := oMx.grownO oO hg155 (by decide)
 replace o1 := o1.grown hg155 (Own.neO o1 oO (by decide))
 replace o2 := o2.grown hg155 (Own.neO o2 oO (by decide))
 replace o4 := o4.grown hg155 (Own.neO o4 oO (by decide))
 replace bP := bP.grown hg155 (fun h => Own.neT oO bP (by decide) h.symm)
 replace q := q.grown hg155 (fun h => Own.neT oO q (by decide) h.symm)
 replace X := cV X hg155 (fun g hg => (Own.lt oO hg).1)
 clear hg155
 refine aA rfl (aD rfl ?_)
 refine aB ?_
 refine dJ ?_
 refine aP ?_
 refine aM ?_
 refine aA rfl (aC rfl ?_)
 refine aA rfl (aZ rfl rfl (dR (by omega)) ?_)
 refine aA rfl (aD rfl ?_)
 refine aB ?_
 refine aP ⟨(i + 1, zs ++ [⟨0, i / 11, i % 11, ⟨0, 1, 0, 1000, false⟩⟩], n1 + 1, AoW, coW), (.cons rfl (.cons rfl (.cons rfl (.cons rfl (.cons rfl (.nil _)))))), ?_, ?_⟩
 · exact ⟨(by omega), (by simp [hn]), (by omega), ⟨_, _, ok, q⟩, oW.to (kG SlotI.cells zs ⟨0, i / 11, i % 11, ⟨0, 1, 0, 1000, false⟩⟩).symm, hs, bR, oN, oMd, oMx, o1, o2, o4, bP, X⟩
 · first | omega | (dsimp only; omega)
 refine dW (fun w157 sq => ?_)
 have xq := sq
 replace oO := oO.ext xq
 replace hs := hs.ext xq
 replace bR := bR.ext xq
 replace oN := oN.ext xq
 replace oMd := oMd.ext xq
 replace oMx := oMx.ext xq
 replace o1 := o1.ext xq
 replace o2 := o2.ext xq
 replace o4 := o4.ext xq
 replace bP := bP.ext xq
 replace q := q.ext xq
 replace X := dE X xq; clear xq sq
 refine aB ?_
 refine aL rfl ?_
 refine dC ?_
 refine dB ?_
 refine dB ?_
 refine eA ?_
 refine aP ?_
 refine aM ?_
 refine aA rfl (aC rfl ?_)
 refine aA rfl (aF dU rfl rfl ?_)
 refine aA rfl (aX bP iF rfl rfl rfl rfl rfl rfl ?_)
 intro w159 bQ hg158 z160
 replace oO := oO.grownBlk hg158 (Own.neT oO bP (by decide))
 replace hs := hs.grown hg158 (by intro g hg; injection hg; omega)
 replace bR := bR.grown hg158 (by intro h; injection h; omega)
 replace oN := oN.grownBlk hg158 (Own.neT oN bP (by decide))
 replace oMd := oMd.grownBlk hg158 (Own.neT oMd bP (by decide))
 replace oMx := oMx.grownB bP hg158 (by decide)
 replace o1 := o1.grownBlk hg158 (Own.neT o1 bP (by decide))
 replace o2 := o2.grownBlk hg158 (Own.neT o2 bP (by decide))
 replace o4 := o4.grownBlk hg158 (Own.neT o4 bP (by decide))
 replace q := q.grown hg158 (by intro h; injection h; omega)
 replace X := cV X hg158 (by intro g hg; injection hg; omega)
 clear hg158 bP
 refine aB ?_
 refine dJ ?_
 refine aP ?_
 refine aE ?_
 refine aA rfl (bO bQ dP rfl rfl ?_)
 refine aA rfl (aX bR dP rfl rfl rfl rfl rfl rfl ?_)
 intro w162 bZ hg161 z163
 replace oO := oO.grownBlk hg161 (Own.neT oO bR (by decide))
 replace hs := hs.grown hg161 (by intro g hg; injection hg; omega)
 replace oN := oN.grownBlk hg161 (Own.neT oN bR (by decide))
 replace oMd := oMd.grownBlk hg161 (Own.neT oMd bR (by decide))
 replace oMx := oMx.grownB bR hg161 (by decide)
 replace o1 := o1.grownBlk hg161 (Own.neT o1 bR (by decide))
 replace o2 := o2.grownBlk hg161 (Own.neT o2 bR (by decide))
 replace o4 := o4.grownBlk hg161 (Own.neT o4 bR (by decide))
 replace q := q.grown hg161 (by intro h; injection h; omega)
 replace bQ := bQ.grown hg161 (by intro h; injection h; omega)
 replace X := cV X hg161 (by intro g hg; injection hg; omega)
 clear hg161 bR
 refine aB ?_
 refine aV ?_
 refine eC rfl rfl bZ dP rfl ?_
 · skip
   (subst hn; exact ⟨⟨3, some ⟨g1, 0, none⟩, [(⟨0, ⟨#[97]⟩, 0, false⟩ : NodeI)], 1, some ⟨g4, 0, none⟩, [(⟨⟨3, 11, []⟩, none, 0⟩ : ModeI)], 1, A1, zs, c1⟩, _, _, rfl, ⟨⟨by show 1 ≤ _; decide, by show 1 ≤ _; decide, fun x hx => by obtain rfl : x = (⟨⟨3, 11, []⟩, none, 0⟩ : ModeI) := (by simpa using hx); exact Nat.zero_le _, by show zs.length ≤ _; omega, fun x hx => by obtain rfl : x = (⟨0, ⟨#[97]⟩, 0, false⟩ : NodeI) := (by simpa using hx); decide⟩, ⟨by show 1 ≤ 17; decide, fun x hx => by obtain rfl : x = (⟨⟨3, 11, []⟩, none, 0⟩ : ModeI) := (by simpa using hx); exact Nat.zero_le _, .inl ⟨by show 1 ≤ 4; decide, by show 1 ≤ 17; decide⟩⟩⟩, ⟨o1.slF, o4.slF, (NOwn.snoc (lo := w.heap.size) (t := 2) (x := (⟨⟨3, 11, []⟩, none, 0⟩ : ModeI)) NOwn.nil_ (Own.nil_ _ _ _ _) (Nat.zero_le _)).slF, oO.slF, Nat.le_refl _⟩, ok, q, X⟩)
 refine aB ?_
 refine aL rfl ?_
 refine aU ?_
 refine aP ?_
 refine aE ?_
 refine aA rfl (aN eW dZ rfl rfl rfl rfl rfl ?_)
 intro gI w165 egI oI bbgI x164 zgI
 replace oI := Own.low oI X.size
 replace oZ := oZ.ext x164
 replace hs := hs.ext x164
 replace bR := bR.ext x164
 replace oN := oN.ext x164
 replace oMd := oMd.ext x164
 replace oMx := oMx.ext x164
 replace o1 := o1.ext x164
 replace o2 := o2.ext x164
 replace bN := bN.ext x164
 replace b141 := b141.ext x164
 replace X := dE X x164
 refine aA rfl (aD rfl ?_)
 refine aB ?_
 refine aQ ?_
 refine aE ?_
 refine aA rfl (aD rfl ?_)
 refine aB ?_
 refine aW ?_
 refine dD (G := Int × List SlotI × Nat × Option Addr × Nat) (fun ⟨i, zs, n1, A1, c1⟩ => [(2, .pointer (some ⟨g2, 0, none⟩)), (3, .pointer (some ⟨gM, 0, none⟩)), (0, .pointer (some ⟨gS, 0, none⟩)), (6, .slice A1 n1 c1), (7, .int .i64 i)]) (fun ⟨i, zs, n1, A1, c1⟩ wr => (0 ≤ i ∧ i ≤ 33) ∧ n1 = zs.length ∧ (n1 : Int) = i ∧ (∃ a sd, (a ≤ bs.length ∧ 0 ≤ sd ∧ sd < 2147483647) ∧ Blk wr gS 148 (iU A c bs a sd)) ∧ Own wr w.heap.size 89 8 A1 n1 c1 (zs.flatMap SlotI.cells) ∧ Sl B wr A (bs.flatMap eB) ∧ Blk wr g2 28 [.int .i64 0, .slice none 0 0, .slice none 0 0, .slice none 0 0] ∧ Own wr w.heap.size 59 4 mm.An mm.ns.length mm.cn (mm.ns.flatMap NodeI.cells) ∧ Own wr w.heap.size 92 3 mm.Am mm.ms.length mm.cm (mm.ms.flatMap ModeI.cells) ∧ NOwn wr w.heap.size 2 mm.ms ∧ Own wr w.heap.size 59 4 (some ⟨g1, 0, none⟩) 1 1 (([(⟨0, ⟨#[97]⟩, 0, false⟩ : NodeI)] : List NodeI).flatMap NodeI.cells) ∧ Own wr w.heap.size 92 3 (some ⟨g3, 0, none⟩) 1 1 (([(⟨⟨2, 16, []⟩, none, 0⟩ : ModeI)] : List ModeI).flatMap ModeI.cells) ∧ Blk wr gM 28 [.int .i64 3, .slice (some ⟨g1, 0, none⟩) 1 1, .slice (some ⟨g3, 0, none⟩) 1 1, .slice none 0 0] ∧ w.grownBy wr (some gS)) (fun ⟨i, zs, n1, A1, c1⟩ => (33 - i).toNat) (0, [], 0, some ⟨gI, 0, none⟩, 0) (.cons rfl (.cons rfl (.cons rfl (.cons rfl (.cons rfl (.nil _)))))) ?_ ?_
 · exact ⟨(by omega), rfl, rfl, ⟨_, _, ok, b141⟩, oI, hs, bR, oN, oMd, oMx, o1, o2, bN, X⟩
 clear oZ hs bR oN oMd oMx o1 o2 bN b141 oI
 clear X
 rintro ⟨i, zs, n1, A1, c1⟩ wr ⟨hi0, hn, hni, qq, oO, hs, bR, oN, oMd, oMx, o1, o2, bN, X⟩
 obtain ⟨a, sd, ok, q⟩ := qq
 refine aQ ?_
 refine eO [false, false, false, false, false, false, false, false, false, false, false, false, false] mixed (by kernel_rfl) ?_
 refine cE rfl (fun wq sq => aC rfl ⟨rfl, Q7r _⟩) ?_
 refine cE rfl (fun wq sq => aF fO rfl rfl ⟨rfl, Q7r _⟩) ?_
 refine cE rfl (fun wq sq => aI (bN.ext sq) mK rfl rfl ⟨rfl, Q7r _⟩) ?_
 refine cE rfl (fun wq sq => aT ((o2.ext sq)).sl ModeI.len rfl iA rfl rfl rfl (show ([(⟨⟨2, 16, []⟩, none, 0⟩ : ModeI)] : List ModeI)[0]? = some (⟨⟨2, 16, []⟩, none, 0⟩ : ModeI) from rfl) rfl ⟨rfl, Q7r _⟩) ?_
 refine cE rfl (fun wq sq => bK iS rfl ⟨rfl, Q7r _⟩) ?_
 refine cE rfl (fun wq sq => dQ ((o2.ext sq)).sl ModeI.len (show ([(⟨⟨2, 16, []⟩, none, 0⟩ : ModeI)] : List ModeI)[0]? = some (⟨⟨2, 16, []⟩, none, 0⟩ : ModeI) from rfl) cY rfl rfl rfl ⟨rfl, Q7r _⟩) ?_
 refine cE rfl (fun wq sq => aF fO rfl rfl ⟨rfl, Q7r _⟩) ?_
 refine cE rfl (fun wq sq => aI (bN.ext sq) mK rfl rfl ⟨rfl, Q7r _⟩) ?_
 refine cE rfl (fun wq sq => aT ((o2.ext sq)).sl ModeI.len rfl iA rfl rfl rfl (show ([(⟨⟨2, 16, []⟩, none, 0⟩ : ModeI)] : List ModeI)[0]? = some (⟨⟨2, 16, []⟩, none, 0⟩ : ModeI) from rfl) rfl ⟨rfl, Q7r _⟩) ?_
 refine cE rfl (fun wq sq => bK fU rfl ⟨rfl, Q7r _⟩) ?_
 refine cE rfl (fun wq sq => dQ ((o2.ext sq)).sl ModeI.len (show ([(⟨⟨2, 16, []⟩, none, 0⟩ : ModeI)] : List ModeI)[0]? = some (⟨⟨2, 16, []⟩, none, 0⟩ : ModeI) from rfl) cY rfl rfl rfl ⟨rfl, Q7r _⟩) ?_
 refine cE rfl (fun wq sq => iN rfl rfl (dR (by decide)) ⟨rfl, Q7r _⟩) ?_
 refine uR rfl (fun wq sq => rW rfl rfl ⟨rfl, Q7r _⟩) (fun hlt0 => ?_) (fun hlt0 => ?_)
 have hlt : i < 33 := Int.lt_of_lt_of_le hlt0 (by decide)
 refine dW (fun w166 sq => ?_)
 have xq := sq
 replace oO := oO.ext xq
 replace hs := hs.ext xq
 replace bR := bR.ext xq
 replace oN := oN.ext xq
 replace oMd := oMd.ext xq
 replace oMx := oMx.ext xq
 replace o1 := o1.ext xq
 replace o2 := o2.ext xq
 replace bN := bN.ext xq
 replace q := q.ext xq
 replace X := dE X xq; clear xq sq
 refine aB ?_
 refine aR rfl ?_
 refine aU ?_
 refine aP ?_
 refine aQ ?_
 refine aW ?_
 refine vG [false, false, false, false, false, false, false, false, false, false, false, false, false, false, false, false, false, true] mixed (by kernel_rfl) ?_
 refine cE rfl (fun wq sq => aC rfl ⟨rfl, Q7r _⟩) ?_
 refine cE rfl (fun wq sq => aC rfl ⟨rfl, Q7r _⟩) ?_
 refine cE rfl (fun wq sq => aF fO rfl rfl ⟨rfl, Q7r _⟩) ?_
 refine cE rfl (fun wq sq => aI (bN.ext sq) mK rfl rfl ⟨rfl, Q7r _⟩) ?_
 refine cE rfl (fun wq sq => aT ((o2.ext sq)).sl ModeI.len rfl iA rfl rfl rfl (show ([(⟨⟨2, 16, []⟩, none, 0⟩ : ModeI)] : List ModeI)[0]? = some (⟨⟨2, 16, []⟩, none, 0⟩ : ModeI) from rfl) rfl ⟨rfl, Q7r _⟩) ?_
 refine cE rfl (fun wq sq => bK fU rfl ⟨rfl, Q7r _⟩) ?_
 refine cE rfl (fun wq sq => dQ ((o2.ext sq)).sl ModeI.len (show ([(⟨⟨2, 16, []⟩, none, 0⟩ : ModeI)] : List ModeI)[0]? = some (⟨⟨2, 16, []⟩, none, 0⟩ : ModeI) from rfl) cY rfl rfl rfl ⟨rfl, Q7r _⟩) ?_
 refine cE rfl (fun wq sq => iE rfl rfl (by decide) (xW ⟨hi0.1, by omega, by decide⟩) ⟨rfl, Q7r _⟩) ?_
 refine cE rfl (fun wq sq => aC rfl ⟨rfl, Q7r _⟩) ?_
 refine cE rfl (fun wq sq => aF fO rfl rfl ⟨rfl, Q7r _⟩) ?_
 refine cE rfl (fun wq sq => aI (bN.ext sq) mK rfl rfl ⟨rfl, Q7r _⟩) ?_
 refine cE rfl (fun wq sq => aT ((o2.ext sq)).sl ModeI.len rfl iA rfl rfl rfl (show ([(⟨⟨2, 16, []⟩, none, 0⟩ : ModeI)] : List ModeI)[0]? = some (⟨⟨2, 16, []⟩, none, 0⟩ : ModeI) from rfl) rfl ⟨rfl, Q7r _⟩) ?_
 refine cE rfl (fun wq sq => bK fU rfl ⟨rfl, Q7r _⟩) ?_
 refine cE rfl (fun wq sq => dQ ((o2.ext sq)).sl ModeI.len (show ([(⟨⟨2, 16, []⟩, none, 0⟩ : ModeI)] : List ModeI)[0]? = some (⟨⟨2, 16, []⟩, none, 0⟩ : ModeI) from rfl) cY rfl rfl rfl ⟨rfl, Q7r _⟩) ?_
 refine cE rfl (fun wq sq => fN rfl rfl (by decide) (sV hi0.1) ⟨rfl, Q7r _⟩) ?_
 refine cE rfl (fun wq sq => cO zP eV rfl rfl ⟨rfl, Q7r _⟩) ?_
 refine cE rfl (fun wq sq => cO oF dZ rfl rfl ⟨rfl, Q7r _⟩) ?_
 refine aBe (fun g167 : Nat => Value.slice (some ⟨g167, 0, none⟩) 1 1) (fun g167 wz => Own wz w.heap.size 89 8 (some ⟨g167, 0, none⟩) 1 1 (SlotI.cells ⟨0, i / 16, i % 16, ⟨0, 1, 0, 1000, false⟩⟩)) 0 rfl ⟨lT, fun _ _ _ h k => h.ext k, fun wq sq => aN eW dZ rfl rfl rfl rfl rfl (fun g w' hg ho hb hx hz => ⟨g, rfl, Own.low ho (Q7l X.size (sq).size), hx⟩)⟩ ?_
 intro g167
 refine dW (fun w168 sq => ?_)
 have xq := sq.1
 have oV := sq.2
 replace oO := oO.ext xq
 replace hs := hs.ext xq
 replace bR := bR.ext xq
 replace oN := oN.ext xq
 replace oMd := oMd.ext xq
 replace oMx := oMx.ext xq
 replace o1 := o1.ext xq
 replace o2 := o2.ext xq
 replace bN := bN.ext xq
 replace q := q.ext xq
 replace X := dE X xq; clear xq sq
 refine aA rfl (cF (ts := #[]) oO X.size oV.sl (by first | rfl | simp) (by first | exact List.all_eq_true.1 rfl | simp [Value.oneCell']) eW dZ rfl rfl rfl rfl (by omega) (by omega) ?_)
 intro AoW coW w170 oW hg169
 replace hs := hs.grown hg169 (fun g hg => Q7l Bhs (Own.lt oO hg).1)
 replace bR := bR.grown hg169 (fun h => Own.neT oO bR (by decide) h.symm)
 replace oN := oN.grown hg169 (Own.neO oN oO (by decide))
 replace oMd := oMd.grown hg169 (Own.neO oMd oO (by decide))
 replace oMx := oMx.grownO oO hg169 (by decide)
 replace o1 := o1.grown hg169 (Own.neO o1 oO (by decide))
 replace o2 := o2.grown hg169 (Own.neO o2 oO (by decide))
 replace bN := bN.grown hg169 (fun h => Own.neT oO bN (by decide) h.symm)
 replace q := q.grown hg169 (fun h => Own.neT oO q (by decide) h.symm)
 replace X := cV X hg169 (fun g hg => (Own.lt oO hg).1)
 clear hg169
 refine aA rfl (aD rfl ?_)
 refine aB ?_
 refine dJ ?_
 refine aP ?_
 refine aM ?_
 refine aA rfl (aC rfl ?_)
 refine aA rfl (aZ rfl rfl (dR (by omega)) ?_)
 refine aA rfl (aD rfl ?_)
 refine aB ?_
 refine aP ⟨(i + 1, zs ++ [⟨0, i / 16, i % 16, ⟨0, 1, 0, 1000, false⟩⟩], n1 + 1, AoW, coW), (.cons rfl (.cons rfl (.cons rfl (.cons rfl (.cons rfl (.nil _)))))), ?_, ?_⟩
 · exact ⟨(by omega), (by simp [hn]), (by omega), ⟨_, _, ok, q⟩, oW.to (kG SlotI.cells zs ⟨0, i / 16, i % 16, ⟨0, 1, 0, 1000, false⟩⟩).symm, hs, bR, oN, oMd, oMx, o1, o2, bN, X⟩
 · first | omega | (dsimp only; omega)
 refine dW (fun w171 sq => ?_)
 have xq := sq
 replace oO := oO.ext xq
 replace hs := hs.ext xq
 replace bR := bR.ext xq
 replace oN := oN.ext xq
 replace oMd := oMd.ext xq
 replace oMx := oMx.ext xq
 replace o1 := o1.ext xq
 replace o2 := o2.ext xq
 replace bN := bN.ext xq
 replace q := q.ext xq
 replace X := dE X xq; clear xq sq
 refine aB ?_
 refine aL rfl ?_
 refine dC ?_
 refine dB ?_
 refine dB ?_
 refine eA ?_
 refine aP ?_
 refine aM ?_
 refine aA rfl (aC rfl ?_)
 refine aA rfl (aF dU rfl rfl ?_)
 refine aA rfl (aX bN iF rfl rfl rfl rfl rfl rfl ?_)
 intro w173 bQ hg172 z174
 replace oO := oO.grownBlk hg172 (Own.neT oO bN (by decide))
 replace hs := hs.grown hg172 (by intro g hg; injection hg; omega)
 replace bR := bR.grown hg172 (by intro h; injection h; omega)
 replace oN := oN.grownBlk hg172 (Own.neT oN bN (by decide))
 replace oMd := oMd.grownBlk hg172 (Own.neT oMd bN (by decide))
 replace oMx := oMx.grownB bN hg172 (by decide)
 replace o1 := o1.grownBlk hg172 (Own.neT o1 bN (by decide))
 replace o2 := o2.grownBlk hg172 (Own.neT o2 bN (by decide))
 replace q := q.grown hg172 (by intro h; injection h; omega)
 replace X := cV X hg172 (by intro g hg; injection hg; omega)
 clear hg172 bN
 refine aB ?_
 refine dJ ?_
 refine aP ?_
 refine aE ?_
 refine aA rfl (bO bQ dP rfl rfl ?_)
 refine aA rfl (aX bR dP rfl rfl rfl rfl rfl rfl ?_)
 intro w176 bZ hg175 z177
 replace oO := oO.grownBlk hg175 (Own.neT oO bR (by decide))
 replace hs := hs.grown hg175 (by intro g hg; injection hg; omega)
 replace oN := oN.grownBlk hg175 (Own.neT oN bR (by decide))
 replace oMd := oMd.grownBlk hg175 (Own.neT oMd bR (by decide))
 replace oMx := oMx.grownB bR hg175 (by decide)
 replace o1 := o1.grownBlk hg175 (Own.neT o1 bR (by decide))
 replace o2 := o2.grownBlk hg175 (Own.neT o2 bR (by decide))
 replace q := q.grown hg175 (by intro h; injection h; omega)
 replace bQ := bQ.grown hg175 (by intro h; injection h; omega)
 replace X := cV X hg175 (by intro g hg; injection hg; omega)
 clear hg175 bR
 refine aB ?_
 refine aV ?_
 refine eC rfl rfl bZ dP rfl ?_
 · skip
   (subst hn; exact ⟨⟨3, some ⟨g1, 0, none⟩, [(⟨0, ⟨#[97]⟩, 0, false⟩ : NodeI)], 1, some ⟨g3, 0, none⟩, [(⟨⟨2, 16, []⟩, none, 0⟩ : ModeI)], 1, A1, zs, c1⟩, _, _, rfl, ⟨⟨by show 1 ≤ _; decide, by show 1 ≤ _; decide, fun x hx => by obtain rfl : x = (⟨⟨2, 16, []⟩, none, 0⟩ : ModeI) := (by simpa using hx); exact Nat.zero_le _, by show zs.length ≤ _; omega, fun x hx => by obtain rfl : x = (⟨0, ⟨#[97]⟩, 0, false⟩ : NodeI) := (by simpa using hx); decide⟩, ⟨by show 1 ≤ 17; decide, fun x hx => by obtain rfl : x = (⟨⟨2, 16, []⟩, none, 0⟩ : ModeI) := (by simpa using hx); exact Nat.zero_le _, .inl ⟨by show 1 ≤ 4; decide, by show 1 ≤ 17; decide⟩⟩⟩, ⟨o1.slF, o2.slF, (NOwn.snoc (lo := w.heap.size) (t := 2) (x := (⟨⟨2, 16, []⟩, none, 0⟩ : ModeI)) NOwn.nil_ (Own.nil_ _ _ _ _) (Nat.zero_le _)).slF, oO.slF, Nat.le_refl _⟩, ok, q, X⟩)
 refine aB ?_
 refine aL rfl ?_
 refine aU ?_
 refine dJ ?_
 refine aP ?_
 refine aE ?_
 refine aA rfl (bO bM dP rfl rfl ?_)
 refine aA rfl (aX bR dP rfl rfl rfl rfl rfl rfl ?_)
 intro w179 bZ hg178 z180
 replace oZ := oZ.grownBlk hg178 (Own.neT oZ bR (by decide))
 replace hs := hs.grown hg178 (by intro g hg; injection hg; omega)
 replace oN := oN.grownBlk hg178 (Own.neT oN bR (by decide))
 replace oMd := oMd.grownBlk hg178 (Own.neT oMd bR (by decide))
 replace oMx := oMx.grownB bR hg178 (by decide)
 replace bM := bM.grown hg178 (by intro h; injection h; omega)
 replace b128 := b128.grown hg178 (by intro h; injection h; omega)
 replace X := cV X hg178 (by intro g hg; injection hg; omega)
 clear hg178 bR
 refine aB ?_
 refine aV ?_
 refine eC rfl rfl bZ dP rfl ?_
 · skip
   (exact ⟨⟨mm.id, mm.An, mm.ns, mm.cn, mm.Am, mm.ms, mm.cm, mm.As, zs, mm.cs⟩, _, _, by rw [rS hzl] <;> rfl, ⟨⟨hsm.1, hsm.2, hsm.3, by show zs.length ≤ _; omega, hsm.5⟩, ⟨hml.1, hml.2.2.2, .inl ⟨hml.2.1, hml.1⟩⟩⟩, ⟨oN.slF, oMd.slF, oMx.slF, oZ.slF, oN.cap⟩, ok, b128, X⟩)
 refine aA rfl (aD rfl ?_)
 refine aB ?_
 refine aL rfl ?_
 refine aU ?_
 refine dJ ?_
 refine aP ?_
 refine aE ?_
 refine aA rfl (bO bM dP rfl rfl ?_)
 refine aA rfl (aX bR dP rfl rfl rfl rfl rfl rfl ?_)
 intro w182 bZ hg181 z183
 replace hs := hs.grown hg181 (by intro g hg; injection hg; omega)
 replace oN := oN.grownBlk hg181 (Own.neT oN bR (by decide))
 replace oMd := oMd.grownBlk hg181 (Own.neT oMd bR (by decide))
 replace oMx := oMx.grownB bR hg181 (by decide)
 replace oSl := oSl.grownBlk hg181 (Own.neT oSl bR (by decide))
 replace bM := bM.grown hg181 (by intro h; injection h; omega)
 replace b21 := b21.grown hg181 (by intro h; injection h; omega)
 replace X := cV X hg181 (by intro g hg; injection hg; omega)
 clear hg181 bR
 refine aB ?_
 refine aV ?_
 refine eC rfl rfl bZ dP rfl ?_
 · skip
   (exact ⟨mm, _, _, rfl, ⟨hsm, ⟨hml.1, hml.2.2.2, .inl ⟨hml.2.1, hml.1⟩⟩⟩, ⟨oN.slF, oMd.slF, oMx.slF, oSl.slF, oN.cap⟩, ok, b21, X⟩)
end Go.Proofs.YtdoibplhbdkapaaGreatDoor
