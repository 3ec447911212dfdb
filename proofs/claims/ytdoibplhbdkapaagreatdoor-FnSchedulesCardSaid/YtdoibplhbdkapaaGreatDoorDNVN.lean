/- The law FnSchedules answers true for all arguments that its row admits, and leaves what was there before as it was. No condition. -/
import Derived.Test.YtdoibplhbdkapaaGreatDoorDNP12
import Derived.Test.YtdoibplhbdkapaaGreatDoorDNP25
import Derived.Test.YtdoibplhbdkapaaGreatDoorDNP22
import Derived.Test.YtdoibplhbdkapaaGreatDoorDNP26
import Derived.Test.YtdoibplhbdkapaaGreatDoorTie
import Derived.Test.YtdoibplhbdkapaaGreatDoorCards
import Derived.Lay
import Derived.LaidOnce
import Derived.SevenTiedAt
/- The law FnSchedules answers true for all arguments that its row admits, and leaves what was there before as it was. No condition. -/
namespace Go.Proofs.YtdoibplhbdkapaaGreatDoor
open Go.RowKit
open Go.ChangeShapes Go.WideShapes Go.ChangeAt Go.RowKit
set_option linter.unusedVariables false
set_option linter.unusedSimpArgs false
set_option maxRecDepth 20000
theorem aG7 {m : MedlI} (h : aIj m) (hI : iY m.d = true) : rL (fR m.d) = true := by
 have hx : ∀ x ∈ m.d.ms, x.next.length ≤ 5 := fun x hx => by
   obtain ⟨y, hy, rfl⟩ := List.mem_map.1 hx
   exact h.2.2.1 y hy
 have hl : m.d.ms.length = m.ms.length := List.length_map ..
 have hm := qD (kK.1 hI).mt
 rcases h.2.2.2 with ⟨h1, _⟩ | ⟨h1, h2⟩
 · exact aEo hI (a := 4) (b := 16) h1 (by omega) hx (by decide)
 · exact aEo hI (a := 13) (b := 2) h1 (by omega) hx (by decide)
theorem aFr {d : MedlD} (h : (lG d).2 = 0) : iY d = true ∧ lG d = (fR d, 0) := by
 unfold lG at h ⊢
 split at h
 · rename_i hI; exact ⟨hI, by rw [if_pos hI]⟩
 · exact absurd h (by decide)
theorem aA9 {d : MedlD} (h : (kT d).2 = 0) : iY d = true ∧ (fR d).length ≤ 868 ∧ kT d = (uE (fR d), 0) := by
 unfold kT at h ⊢
 split at h
 · rename_i hI
   rw [if_pos hI]
   split at h
   · rename_i hl; exact ⟨hI, hl, by rw [if_pos hl]⟩
   · exact absurd h (by decide)
 · exact absurd h (by decide)
set_option maxHeartbeats 1000000 in
theorem law_FnSchedules (A : Option Addr) (B c : Nat) (bs : List UInt8) (w : World) (hs : Sl B w A (bs.flatMap eB)) (hm0 : bs.length ≤ 9223372036854775807) :
   Calls Tryz.prog 3 #[.slice A bs.length c] w (fD fun v w' => v = .bool true ∧ Ext w w') := by
 have Bhs := hs.1
 have X := Q7r w
 refine bI (args := [.slice A bs.length c]) Tryz.func3 Tryz.ntmps3 rfl rfl ?_
 refine aE ?_
 refine aA rfl (aD rfl ?_)
 refine aB ?_
 refine aQ ?_
 refine aE ?_
 refine aA rfl (aC rfl ?_)
 refine aA rfl (cW aKf rfl (aKb _ _ _ _) (fun w2 hbig x1 => ?_) (fun w2 hbig x1 => ?_))
 replace hs := hs.ext x1
 replace X := Q7x X x1
 refine aB ?_
 refine aR rfl ?_
 refine aE ?_
 refine aA rfl (aD rfl ?_)
 refine aB ?_
 refine aV ?_
 refine bU ?_
 refine aK rfl rfl ?_
 · skip
   first
   | exact ⟨rfl, X⟩
   | exact ⟨congrArg Value.bool (decide_eq_true rfl), X⟩
 replace hs := hs.ext x1
 replace X := Q7x X x1
 have hb2 := of_decide_eq_false hbig
 have hbl : bs.length ≤ 1048576 := by omega
 refine aB ?_
 refine aL rfl ?_
 refine aU ?_
 refine aP ?_
 refine aE ?_
 refine aA rfl (aC rfl ?_)
 refine aA rfl (aS aKg rfl (aO (aFy _ _ _ bs _ hs hbl) ?_))
 rintro _ wD ⟨m, rfl, hdr, hmF, xD⟩
 replace hs := hs.ext xD
 replace X := Q7x X xD; clear xD
 have hm := hmF.med
 have hz := hdr.1
 refine aA rfl (dO dP ?_)
 intro gM w4 egM b0 x3 zgM
 have lgM : w.heap.size ≤ gM := Q7l X.size (Q7e egM.symm)
 have pgMhs := Q7l hs.1 (Q7e egM.symm)
 have pgMhm := Q7l hm.1 (Q7e egM.symm)
 replace hs := hs.ext x3
 replace hm := hm.ext x3
 replace X := Q7x X x3
 refine aA rfl (aX b0 dP rfl rfl rfl rfl rfl rfl ?_)
 intro w6 bM hg5 z7
 replace hs := hs.grown hg5 (by intro g hg; injection hg; omega)
 replace hm := hm.grown hg5 (by intro g hg; injection hg; omega)
 replace X := X.grown hg5 X.size (by intro g hg; injection hg; omega)
 clear hg5 b0
 refine aB ?_
 refine aE ?_
 refine aA rfl (bO bM dP rfl rfl ?_)
 refine aA rfl (aS aKh rfl (aO (aIF m _ _ hm hz) ?_))
 rintro _ w9 ⟨A1, c1, rfl, oI1, x8⟩
 replace oI1 := Own.low oI1 X.size
 replace hs := hs.ext x8
 replace hm := hm.ext x8
 replace bM := bM.ext x8
 replace X := Q7x X x8
 refine aA rfl (aC rfl ?_)
 refine aA rfl (dG rfl rfl ?_)
 refine aA rfl (dG rfl rfl ?_)
 refine aA rfl (aD rfl ?_)
 refine aA rfl (aD rfl ?_)
 refine aB ?_
 refine aE ?_
 refine aA rfl (bO bM dP rfl rfl ?_)
 refine aA rfl (aS aKi rfl (aO (aIG m _ _ hm hz) ?_))
 rintro _ w11 ⟨A2, c2, rfl, oS1, x10⟩
 replace oS1 := Own.low oS1 X.size
 replace hs := hs.ext x10
 replace hm := hm.ext x10
 replace bM := bM.ext x10
 replace oI1 := oI1.ext x10
 replace X := Q7x X x10
 refine aA rfl (aC rfl ?_)
 refine aA rfl (dG rfl rfl ?_)
 refine aA rfl (dG rfl rfl ?_)
 refine aA rfl (aD rfl ?_)
 refine aA rfl (aD rfl ?_)
 refine aB ?_
 refine aE ?_
 refine aA rfl (bO bM dP rfl rfl ?_)
 refine aA rfl (aS aKj rfl (aO (aHE m _ _ hm hz) ?_))
 rintro _ w13 ⟨A3, c3, rfl, oI2, x12⟩
 replace oI2 := Own.low oI2 X.size
 replace hs := hs.ext x12
 replace hm := hm.ext x12
 replace bM := bM.ext x12
 replace oI1 := oI1.ext x12
 replace oS1 := oS1.ext x12
 replace X := Q7x X x12
 refine aA rfl (aC rfl ?_)
 refine aA rfl (dG rfl rfl ?_)
 refine aA rfl (dG rfl rfl ?_)
 refine aA rfl (aD rfl ?_)
 refine aA rfl (aD rfl ?_)
 refine aB ?_
 refine aE ?_
 refine aA rfl (bO bM dP rfl rfl ?_)
 refine aA rfl (aS aKk rfl (aO (aHD m _ _ hm hz) ?_))
 rintro _ w15 ⟨A4, c4, rfl, oS2, x14⟩
 replace oS2 := Own.low oS2 X.size
 replace hs := hs.ext x14
 replace hm := hm.ext x14
 replace bM := bM.ext x14
 replace oI1 := oI1.ext x14
 replace oS1 := oS1.ext x14
 replace oI2 := oI2.ext x14
 replace X := Q7x X x14
 refine aA rfl (aC rfl ?_)
 refine aA rfl (dG rfl rfl ?_)
 refine aA rfl (dG rfl rfl ?_)
 refine aA rfl (aD rfl ?_)
 refine aA rfl (aD rfl ?_)
 refine aB ?_
 refine aQ ?_
 refine aE ?_
 refine aA rfl (aC rfl ?_)
 refine aA rfl (aC rfl ?_)
 refine aA rfl (hP rfl rfl (fun h16 => absurd h16 (by simp)) (fun h16 => ?_))
 refine aA rfl (aC rfl ?_)
 refine aH rfl rfl rfl (aC rfl ?_)
 refine aH rfl rfl rfl (aC rfl ?_)
 refine aH rfl rfl rfl (aS aGq rfl (aO (uL _ _ _ _ _ _ _ _ (oI1).sl (oS1).sl (sD m)) ?_))
 rintro _ w18 ⟨rfl, x17⟩
 replace hs := hs.ext x17
 replace hm := hm.ext x17
 replace bM := bM.ext x17
 replace oI1 := oI1.ext x17
 replace oS1 := oS1.ext x17
 replace oI2 := oI2.ext x17
 replace oS2 := oS2.ext x17
 replace X := Q7x X x17
 refine aH rfl rfl rfl (cD rfl ?_)
 refine aA rfl (aJ rfl rfl ?_)
 refine aA rfl (aC rfl ?_)
 refine aH rfl rfl rfl (aC rfl ?_)
 refine aH rfl rfl rfl (aC rfl ?_)
 refine aH rfl rfl rfl (hP rfl rfl (fun h19 => absurd h19 (by simp)) (fun h19 => ?_))
 refine aA rfl (aJ rfl rfl ?_)
 refine aA rfl (aC rfl ?_)
 refine aH rfl rfl rfl (aC rfl ?_)
 refine aH rfl rfl rfl (aC rfl ?_)
 refine aH rfl rfl rfl (aS aGq rfl (aO (uL _ _ _ _ _ _ _ _ (oI2).sl (oS2).sl (aB3 m)) ?_))
 rintro _ w21 ⟨rfl, x20⟩
 replace hs := hs.ext x20
 replace hm := hm.ext x20
 replace bM := bM.ext x20
 replace oI1 := oI1.ext x20
 replace oS1 := oS1.ext x20
 replace oI2 := oI2.ext x20
 replace oS2 := oS2.ext x20
 replace X := Q7x X x20
 refine aH rfl rfl rfl (cD rfl ?_)
 refine aA rfl (aJ rfl rfl ?_)
 refine aB ?_
 refine aL rfl ?_
 refine aU ?_
 refine aP ?_
 refine aQ ?_
 refine aE ?_
 refine aA rfl (aC rfl ?_)
 refine aA rfl (dK rfl rfl (fun h0 => ?_) (fun h0 => ?_))
 obtain ⟨hI, hsf⟩ := aFr h0
 have hb9 : kF (lG m.d).1 = (m.d, 0) := by rw [hsf]; show kF (fR m.d) = _; rw [kF, if_pos (aG7 hdr hI)]; exact aCE hI
 refine aB ?_
 refine aR rfl ?_
 refine aE ?_
 refine aA rfl (aC rfl ?_)
 refine aA rfl (aS aH2 rfl (aO (aEk _ _ _ (lG m.d).1 _ oI2.sl (aB3 m) oI2.cap) ?_))
 rintro _ w23 ⟨mX, rfl, eX, oX, x22⟩
 replace oX := MOwn.low oX X.size
 replace hs := hs.ext x22
 replace hm := hm.ext x22
 replace bM := bM.ext x22
 replace oI1 := oI1.ext x22
 replace oS1 := oS1.ext x22
 replace oI2 := oI2.ext x22
 replace oS2 := oS2.ext x22
 replace X := Q7x X x22
 rw [hb9] at eX ⊢
 have zX := MedlI.small_of eX hz
 refine aA rfl (aC rfl ?_)
 refine aA rfl (dG rfl rfl ?_)
 refine aA rfl (dG rfl rfl ?_)
 refine aA rfl (dO dP ?_)
 intro gX w27 egX b1 x26 zgX
 have lgX : w.heap.size ≤ gX := Q7l X.size (Q7e egX.symm)
 have pgXhs := Q7l hs.1 (Q7e egX.symm)
 have pgXhm := Q7l hm.1 (Q7e egX.symm)
 have ngXbM := Nat.lt_of_lt_of_eq bM.lt egX.symm
 replace hs := hs.ext x26
 replace hm := hm.ext x26
 replace bM := bM.ext x26
 replace oI1 := oI1.ext x26
 replace oS1 := oS1.ext x26
 replace oI2 := oI2.ext x26
 replace oS2 := oS2.ext x26
 replace oX := oX.ext x26
 replace X := Q7x X x26
 refine aA rfl (aX b1 dP rfl rfl rfl rfl rfl rfl ?_)
 intro w29 bX hg28 z30
 replace hs := hs.grown hg28 (by intro g hg; injection hg; omega)
 replace hm := hm.grown hg28 (by intro g hg; injection hg; omega)
 replace bM := bM.grown hg28 (by intro h; injection h; omega)
 replace oI1 := oI1.grownBlk hg28 (Own.neT oI1 b1 (by decide))
 replace oS1 := oS1.grownBlk hg28 (Own.neT oS1 b1 (by decide))
 replace oI2 := oI2.grownBlk hg28 (Own.neT oI2 b1 (by decide))
 replace oS2 := oS2.grownBlk hg28 (Own.neT oS2 b1 (by decide))
 replace oX := oX.grownB b1 hg28 ⟨by decide, by decide, by decide, by decide⟩
 replace X := X.grown hg28 X.size (by intro g hg; injection hg; omega)
 clear hg28 b1
 refine aA rfl (aD rfl ?_)
 refine aB ?_
 refine aE ?_
 refine aA rfl (aC rfl ?_)
 refine aA rfl (hP rfl rfl (fun h31 => absurd h31 (by simp)) (fun h31 => ?_))
 refine aA rfl (aC rfl ?_)
 refine aH rfl rfl rfl (bO bX dP rfl rfl ?_)
 refine aH rfl rfl rfl (bO bM dP rfl rfl ?_)
 refine aH rfl rfl rfl (aS aGr rfl (aO (sE mX m _ _ _ oX.med hm eX.symm zX) ?_))
 rintro _ w33 ⟨rfl, x32⟩
 replace hs := hs.ext x32
 replace hm := hm.ext x32
 replace bM := bM.ext x32
 replace oI1 := oI1.ext x32
 replace oS1 := oS1.ext x32
 replace oI2 := oI2.ext x32
 replace oS2 := oS2.ext x32
 replace oX := oX.ext x32
 replace bX := bX.ext x32
 replace X := Q7x X x32
 refine aH rfl rfl rfl (cD rfl ?_)
 refine aA rfl (aJ rfl rfl ?_)
 refine aB ?_
 refine aL rfl ?_
 refine aU ?_
 refine aP ?_
 refine aQ ?_
 refine aE ?_
 refine aA rfl (aC rfl ?_)
 refine aA rfl (hP rfl rfl (fun hE => ?_) (fun hE => ?_))
 refine aB ?_
 refine aR rfl ?_
 refine aE ?_
 refine aA rfl (aD rfl ?_)
 refine aB ?_
 refine aV ?_
 refine bU ?_
 refine aK rfl rfl ?_
 · skip
   first
   | exact ⟨rfl, X⟩
   | exact ⟨congrArg Value.bool (decide_eq_true rfl), X⟩
 obtain ⟨hI2, hl2, hef⟩ := aA9 (d := m.d) (by simpa using hE)
 have hb8 : aAv (kT m.d).1 = (m.d, 0) := by rw [hef]; exact aCF hI2 hl2
 have hb7 : mI (kT m.d).1 = (m.d.id, 0) := by rw [hef]; exact aEn hI2 hl2
 refine aB ?_
 refine aL rfl ?_
 refine aU ?_
 refine aP ?_
 refine aE ?_
 refine aA rfl (aC rfl ?_)
 refine aA rfl (aS aH3 rfl (aO (aGf _ _ _ (kT m.d).1 _ oI1.sl (sD m) oI1.cap) ?_))
 rintro _ w35 ⟨mY, rfl, eY, oY, x34⟩
 replace oY := MOwn.low oY X.size
 replace hs := hs.ext x34
 replace hm := hm.ext x34
 replace bM := bM.ext x34
 replace oI1 := oI1.ext x34
 replace oS1 := oS1.ext x34
 replace oI2 := oI2.ext x34
 replace oS2 := oS2.ext x34
 replace oX := oX.ext x34
 replace bX := bX.ext x34
 replace X := Q7x X x34
 rw [hb8] at eY ⊢
 have zY := MedlI.small_of eY hz
 refine aA rfl (aC rfl ?_)
 refine aA rfl (dG rfl rfl ?_)
 refine aA rfl (dG rfl rfl ?_)
 refine aA rfl (dO dP ?_)
 intro gY w39 egY b2 x38 zgY
 have lgY : w.heap.size ≤ gY := Q7l X.size (Q7e egY.symm)
 have pgYhs := Q7l hs.1 (Q7e egY.symm)
 have pgYhm := Q7l hm.1 (Q7e egY.symm)
 have ngYbM := Nat.lt_of_lt_of_eq bM.lt egY.symm
 have ngYbX := Nat.lt_of_lt_of_eq bX.lt egY.symm
 replace hs := hs.ext x38
 replace hm := hm.ext x38
 replace bM := bM.ext x38
 replace oI1 := oI1.ext x38
 replace oS1 := oS1.ext x38
 replace oI2 := oI2.ext x38
 replace oS2 := oS2.ext x38
 replace oX := oX.ext x38
 replace bX := bX.ext x38
 replace oY := oY.ext x38
 replace X := Q7x X x38
 refine aA rfl (aX b2 dP rfl rfl rfl rfl rfl rfl ?_)
 intro w41 bY hg40 z42
 replace hs := hs.grown hg40 (by intro g hg; injection hg; omega)
 replace hm := hm.grown hg40 (by intro g hg; injection hg; omega)
 replace bM := bM.grown hg40 (by intro h; injection h; omega)
 replace oI1 := oI1.grownBlk hg40 (Own.neT oI1 b2 (by decide))
 replace oS1 := oS1.grownBlk hg40 (Own.neT oS1 b2 (by decide))
 replace oI2 := oI2.grownBlk hg40 (Own.neT oI2 b2 (by decide))
 replace oS2 := oS2.grownBlk hg40 (Own.neT oS2 b2 (by decide))
 replace oX := oX.grownB b2 hg40 ⟨by decide, by decide, by decide, by decide⟩
 replace bX := bX.grown hg40 (by intro h; injection h; omega)
 replace oY := oY.grownB b2 hg40 ⟨by decide, by decide, by decide, by decide⟩
 replace X := X.grown hg40 X.size (by intro g hg; injection hg; omega)
 clear hg40 b2
 refine aA rfl (aD rfl ?_)
 refine aB ?_
 refine aE ?_
 refine aA rfl (aC rfl ?_)
 refine aA rfl (aS aH4 rfl (aO (aEj _ _ _ (kT m.d).1 _ oI1.sl (sD m) oI1.cap) ?_))
 rintro _ w44 ⟨rfl, x43⟩
 replace hs := hs.ext x43
 replace hm := hm.ext x43
 replace bM := bM.ext x43
 replace oI1 := oI1.ext x43
 replace oS1 := oS1.ext x43
 replace oI2 := oI2.ext x43
 replace oS2 := oS2.ext x43
 replace oX := oX.ext x43
 replace bX := bX.ext x43
 replace oY := oY.ext x43
 replace bY := bY.ext x43
 replace X := Q7x X x43
 rw [hb7]
 refine aA rfl (aC rfl ?_)
 refine aA rfl (dG rfl rfl ?_)
 refine aA rfl (dG rfl rfl ?_)
 refine aA rfl (aD rfl ?_)
 refine aA rfl (aD rfl ?_)
 refine aB ?_
 refine aE ?_
 refine aA rfl (aC rfl ?_)
 refine aA rfl (dK rfl rfl (fun h45 => ?_) (fun h45 => absurd h45 (by simp)))
 refine aA rfl (aC rfl ?_)
 refine aH rfl rfl rfl (aC rfl ?_)
 refine aH rfl rfl rfl (dK rfl rfl (fun h46 => ?_) (fun h46 => absurd h46 (by simp)))
 refine aA rfl (aJ rfl rfl ?_)
 refine aA rfl (aC rfl ?_)
 refine aH rfl rfl rfl (bO bY dP rfl rfl ?_)
 refine aH rfl rfl rfl (bO bM dP rfl rfl ?_)
 refine aH rfl rfl rfl (aS aGr rfl (aO (sE mY m _ _ _ oY.med hm eY.symm zY) ?_))
 rintro _ w48 ⟨rfl, x47⟩
 replace hs := hs.ext x47
 replace hm := hm.ext x47
 replace bM := bM.ext x47
 replace oI1 := oI1.ext x47
 replace oS1 := oS1.ext x47
 replace oI2 := oI2.ext x47
 replace oS2 := oS2.ext x47
 replace oX := oX.ext x47
 replace bX := bX.ext x47
 replace oY := oY.ext x47
 replace bY := bY.ext x47
 replace X := Q7x X x47
 refine aA rfl (aJ rfl rfl ?_)
 refine aA rfl (aC rfl ?_)
 refine aH rfl rfl rfl (aC rfl ?_)
 refine aH rfl rfl rfl (aF mA rfl rfl ?_)
 refine aH rfl rfl rfl (aI bM cY rfl rfl ?_)
 refine aH rfl rfl rfl (iD rfl rfl ?_)
 refine aA rfl (aJ rfl rfl ?_)
 refine aA rfl (aD rfl ?_)
 refine aB ?_
 refine aV ?_
 refine aK rfl rfl ?_
 · skip
   first
   | exact ⟨rfl, X⟩
   | exact ⟨congrArg Value.bool (decide_eq_true rfl), X⟩
 refine aB ?_
 refine aL rfl ?_
 refine aU ?_
 refine aP ?_
 refine aQ ?_
 refine aE ?_
 refine aA rfl (aC rfl ?_)
 refine aA rfl (hP rfl rfl (fun hE => ?_) (fun hE => ?_))
 refine aB ?_
 refine aR rfl ?_
 refine aE ?_
 refine aA rfl (aD rfl ?_)
 refine aB ?_
 refine aV ?_
 refine bU ?_
 refine aK rfl rfl ?_
 · skip
   first
   | exact ⟨rfl, X⟩
   | exact ⟨congrArg Value.bool (decide_eq_true rfl), X⟩
 obtain ⟨hI2, hl2, hef⟩ := aA9 (d := m.d) (by simpa using hE)
 have hb8 : aAv (kT m.d).1 = (m.d, 0) := by rw [hef]; exact aCF hI2 hl2
 have hb7 : mI (kT m.d).1 = (m.d.id, 0) := by rw [hef]; exact aEn hI2 hl2
 refine aB ?_
 refine aL rfl ?_
 refine aU ?_
 refine aP ?_
 refine aE ?_
 refine aA rfl (aC rfl ?_)
 refine aA rfl (aS aH3 rfl (aO (aGf _ _ _ (kT m.d).1 _ oI1.sl (sD m) oI1.cap) ?_))
 rintro _ w50 ⟨mY, rfl, eY, oY, x49⟩
 replace oY := MOwn.low oY X.size
 replace hs := hs.ext x49
 replace hm := hm.ext x49
 replace bM := bM.ext x49
 replace oI1 := oI1.ext x49
 replace oS1 := oS1.ext x49
 replace oI2 := oI2.ext x49
 replace oS2 := oS2.ext x49
 replace X := Q7x X x49
 rw [hb8] at eY ⊢
 have zY := MedlI.small_of eY hz
 refine aA rfl (aC rfl ?_)
 refine aA rfl (dG rfl rfl ?_)
 refine aA rfl (dG rfl rfl ?_)
 refine aA rfl (dO dP ?_)
 intro gY w54 egY b2 x53 zgY
 have lgY : w.heap.size ≤ gY := Q7l X.size (Q7e egY.symm)
 have pgYhs := Q7l hs.1 (Q7e egY.symm)
 have pgYhm := Q7l hm.1 (Q7e egY.symm)
 have ngYbM := Nat.lt_of_lt_of_eq bM.lt egY.symm
 replace hs := hs.ext x53
 replace hm := hm.ext x53
 replace bM := bM.ext x53
 replace oI1 := oI1.ext x53
 replace oS1 := oS1.ext x53
 replace oI2 := oI2.ext x53
 replace oS2 := oS2.ext x53
 replace oY := oY.ext x53
 replace X := Q7x X x53
 refine aA rfl (aX b2 dP rfl rfl rfl rfl rfl rfl ?_)
 intro w56 bY hg55 z57
 replace hs := hs.grown hg55 (by intro g hg; injection hg; omega)
 replace hm := hm.grown hg55 (by intro g hg; injection hg; omega)
 replace bM := bM.grown hg55 (by intro h; injection h; omega)
 replace oI1 := oI1.grownBlk hg55 (Own.neT oI1 b2 (by decide))
 replace oS1 := oS1.grownBlk hg55 (Own.neT oS1 b2 (by decide))
 replace oI2 := oI2.grownBlk hg55 (Own.neT oI2 b2 (by decide))
 replace oS2 := oS2.grownBlk hg55 (Own.neT oS2 b2 (by decide))
 replace oY := oY.grownB b2 hg55 ⟨by decide, by decide, by decide, by decide⟩
 replace X := X.grown hg55 X.size (by intro g hg; injection hg; omega)
 clear hg55 b2
 refine aA rfl (aD rfl ?_)
 refine aB ?_
 refine aE ?_
 refine aA rfl (aC rfl ?_)
 refine aA rfl (aS aH4 rfl (aO (aEj _ _ _ (kT m.d).1 _ oI1.sl (sD m) oI1.cap) ?_))
 rintro _ w59 ⟨rfl, x58⟩
 replace hs := hs.ext x58
 replace hm := hm.ext x58
 replace bM := bM.ext x58
 replace oI1 := oI1.ext x58
 replace oS1 := oS1.ext x58
 replace oI2 := oI2.ext x58
 replace oS2 := oS2.ext x58
 replace oY := oY.ext x58
 replace bY := bY.ext x58
 replace X := Q7x X x58
 rw [hb7]
 refine aA rfl (aC rfl ?_)
 refine aA rfl (dG rfl rfl ?_)
 refine aA rfl (dG rfl rfl ?_)
 refine aA rfl (aD rfl ?_)
 refine aA rfl (aD rfl ?_)
 refine aB ?_
 refine aE ?_
 refine aA rfl (aC rfl ?_)
 refine aA rfl (dK rfl rfl (fun h60 => ?_) (fun h60 => absurd h60 (by simp)))
 refine aA rfl (aC rfl ?_)
 refine aH rfl rfl rfl (aC rfl ?_)
 refine aH rfl rfl rfl (dK rfl rfl (fun h61 => ?_) (fun h61 => absurd h61 (by simp)))
 refine aA rfl (aJ rfl rfl ?_)
 refine aA rfl (aC rfl ?_)
 refine aH rfl rfl rfl (bO bY dP rfl rfl ?_)
 refine aH rfl rfl rfl (bO bM dP rfl rfl ?_)
 refine aH rfl rfl rfl (aS aGr rfl (aO (sE mY m _ _ _ oY.med hm eY.symm zY) ?_))
 rintro _ w63 ⟨rfl, x62⟩
 replace hs := hs.ext x62
 replace hm := hm.ext x62
 replace bM := bM.ext x62
 replace oI1 := oI1.ext x62
 replace oS1 := oS1.ext x62
 replace oI2 := oI2.ext x62
 replace oS2 := oS2.ext x62
 replace oY := oY.ext x62
 replace bY := bY.ext x62
 replace X := Q7x X x62
 refine aA rfl (aJ rfl rfl ?_)
 refine aA rfl (aC rfl ?_)
 refine aH rfl rfl rfl (aC rfl ?_)
 refine aH rfl rfl rfl (aF mA rfl rfl ?_)
 refine aH rfl rfl rfl (aI bM cY rfl rfl ?_)
 refine aH rfl rfl rfl (iD rfl rfl ?_)
 refine aA rfl (aJ rfl rfl ?_)
 refine aA rfl (aD rfl ?_)
 refine aB ?_
 refine aV ?_
 refine aK rfl rfl ?_
 · skip
   first
   | exact ⟨rfl, X⟩
   | exact ⟨congrArg Value.bool (decide_eq_true rfl), X⟩
set_option maxRecDepth 100000
theorem fnSchedules_lifted (os : Os) (started : os.Started) (H : Type) (enc : TypeId × Value → H) :
   ReturnsInHanded {} Tryz.checked os 3 .any (fun w args => (Rows.fnSchedulesSpec.pre enc Tryz.prog Tryz.f3 Rows.fnSchedulesRow.domain false w args ∧ laidMetH Tryz.prog Rows.fnSchedulesRow.laid w) ∧ sizedMet enc Tryz.prog Tryz.f3 (OpenSpec.ofChange Rows.fnSchedulesSpec) false w args)
     (Rows.fnSchedulesSpec.post enc Tryz.prog Tryz.f3 false true false false) := by
 refine returnsInHanded_of_change_and (C := Tryz.checked) (X := fun w _ => laidMetH Tryz.prog Rows.fnSchedulesRow.laid w) (fun _ _ _ hh h => h.of_heap hh) law_own started (by kernel_rfl) Tryz.func3
   (ChangeSpec.witness_shaped (enc := enc) (C := Tryz.checked) (os := os) (X := fun w _ => laidMetH Tryz.prog Rows.fnSchedulesRow.laid w) false (World.laidAll Tryz.prog os Rows.fnSchedulesRow.laid) #[.slice none 0 0] 8 (World.laidAll_os _ _ _)
     (World.shaped_of_ZipB (by kernel_rfl) (by kernel_rfl)) (by kernel_rfl) (by kernel_rfl) (by kernel_rfl)
     (by rw [MakeChecks.laidMetH_plain _ _ _ (by kernel_rfl)]; exact laidMet_laidAll _ (by kernel_rfl) (by kernel_rfl))) ?_
 intro W nA args ds gs before hval0 hW _ _ hL _
 have hval : ∀ (j : Nat) t v, Tryz.f3.params[j]? = some t → args[j]? = some v → Value.okWide Tryz.prog W .any nA t v := hval0
 have hW' := hW
 obtain ⟨p, q, hA0, hV, rfl, hfz, hnd⟩ := hW
 have hA : DataW.TrodAll enc Tryz.prog W 0 (fun _ => true) true Tryz.f3.params.toList args.toList ds p := hA0
 rw [Tryz.params3] at hA hval
 obtain ⟨rfl, rfl⟩ := trodVars_none hV
 obtain ⟨v0, vs0, d0, ds0, p0, q0, hargs, rfl, rfl, h0, r0⟩ := trodAll_cons hA
 obtain ⟨rfl, rfl, rfl⟩ := trodAll_nil r0
 obtain rfl : args = #[v0] := by cases args; simp_all
 obtain ⟨a0, l0, k0, rfl⟩ := okWide_slice Tryz.underlying22 (hval 0 22 v0 rfl rfl)
 obtain ⟨m0, x0, t0⟩ := aHH rfl h0
 obtain ⟨Abs, bs, cbs, ebs, sbs, wbs, lbs⟩ := aHF (s := 1) Tryz.underlying22 (by kernel_rfl) sA (by omega) (fun _ _ _ h => aHG Tryz.underlying5 h) t0
 rw [ebs]
 refine Calls.mono (law_FnSchedules _ _ _ bs W sbs lbs) fun e W' h => ?_
 cases e <;> first | exact h.elim | skip
 obtain ⟨rfl, hb⟩ := h
 exact ⟨_, rfl, law_post law_laid (by kernel_rfl) rfl rfl Tryz.underlying4 (by rw [← ebs]; exact hW') rfl hb⟩
theorem fnSchedules_qa : Tryz.pinned.checked.prog.funcNamed Rows.fnSchedulesRow.func = some 3 := by kernel_rfl
theorem fnSchedules_qb : joinedFacts Tryz.pinned.checked.prog 3 Tryz.f3 Rows.fnSchedulesSpec Rows.fnSchedulesRow = true := by kernel_rfl
theorem fnSchedules_qc : decide (Func.isInstance Tryz.pinned.checked.prog Tryz.f3 Rows.fnSchedulesRow.origin Rows.fnSchedulesRow.targs) = true := by kernel_rfl
theorem fnSchedules_holds : Rows.FnSchedulesSaid :=
 OpenClaim.holds_of_wide 3 Tryz.f3 rfl rfl rfl rfl rfl rfl rfl ⟨rfl, rfl, rfl, rfl, rfl⟩ rfl rfl rfl rfl rfl fnSchedules_qa Tryz.func3 fnSchedules_qb
   (of_decide_eq_true fnSchedules_qc) (by unfold Func.isWrapper; rw [if_neg (of_decide_eq_false (by kernel_rfl))]; exact ⟨rfl, rfl⟩)
   (fun os started H enc _ => fnSchedules_lifted os started H enc)
theorem fnSchedules_card : Rows.FnSchedulesCardSaid :=
 Claim7.holds_tied_plain_at .later [] [.data, .pinned] true (true, "9d3b8bcd3f057db7ce87d49064bbf274986517e6a2e4614acdb81aa3eaa2e189") false fnSchedules_holds (fun _ h => by cases h) (by kernel_rfl) (fun _ h => by cases h) fnSchedules_row_tie rfl ⟨rfl, rfl⟩ law_main rfl
   (fun f fn hf hfn => by
     obtain rfl : f = 3 := Option.some.inj ((show Tryz.prog.funcNamed "loop.example/g00833/laws.FnSchedules" = some 3 by kernel_rfl).symm.trans hf) |>.symm
     obtain rfl : fn = Tryz.f3 := (Option.some.inj (Tryz.func3.symm.trans hfn)).symm
     exact ⟨law_looks, fun j t ht => by
       rw [Tryz.params3] at ht
       have hm : t ∈ [22] := by simpa using Array.mem_of_getElem? ht
       have hall : ([22].all fun u => !Tryz.prog.wantsStandIn u) = true := by kernel_rfl
       exact (show Tryz.prog.wantsStandIn t = false by simpa using List.all_eq_true.1 hall t hm)⟩)
   (by kernel_rfl)
end Go.Proofs.YtdoibplhbdkapaaGreatDoor
