/- Parts. No condition. -/
import Derived.Test.YtdoibplhbdkapaaGreatDoorDNP4
import Derived.Test.YtdoibplhbdkapaaGreatDoorDNP6
import Derived.Test.YtdoibplhbdkapaaGreatDoorDNP3
namespace Go.Proofs.YtdoibplhbdkapaaGreatDoor
open Go.RowKit
set_option linter.unusedVariables false
set_option linter.unusedSimpArgs false
set_option maxRecDepth 20000
theorem lA (a b c d : Int) (e : Bool) : Value.agg #[.int .i64 a, .int .i64 b, .int .i64 c, .int .i64 d, .bool e] = Value.agg (Desc.cells ⟨a, b, c, d, e⟩).toArray := rfl
theorem qH (A : Option Addr) (B c : Nat) (bs : List UInt8) (gS a : Nat) (sd : Int) (w : World) (q : Blk w gS 148 (iU A c bs a sd)) (hs : Sl B w A (bs.flatMap eB)) (hB : B ≤ gS) (ok : a ≤ bs.length ∧ 0 ≤ sd ∧ sd < 2147483647) (hbl : bs.length ≤ 1048576) :
   Calls Tryz.prog 182 #[.pointer (some ⟨gS, 0, none⟩)] w (fD fun v w' => ∃ (d : Desc) (a' : Nat) (sd' : Int), v = .agg d.cells.toArray ∧ ((0 ≤ d.size ∧ d.size ≤ 5) ∧ (0 ≤ d.kind ∧ d.kind ≤ 3) ∧ (0 ≤ d.node ∧ d.node ≤ 3) ∧ (0 ≤ d.duration ∧ d.duration ≤ 2000)) ∧ (a' ≤ bs.length ∧ 0 ≤ sd' ∧ sd' < 2147483647) ∧ Blk w' gS 148 (iU A c bs a' sd') ∧ w.grownBy w' (some gS)) := by
 have Bhs := hs.1
 have X := mC w (some gS)
 refine bI (args := [.pointer (some ⟨gS, 0, none⟩)]) Tryz.func182 Tryz.ntmps182 rfl rfl ?_
 refine aE ?_
 refine aA rfl (dO eV ?_)
 intro g2 w2 eg2 b2 x1 zg2
 have lg2 : w.heap.size ≤ g2 := Q7l X.size (Q7e eg2.symm)
 have ng2q := Nat.lt_of_lt_of_eq q.lt eg2.symm
 have pg2hs := Q7l hs.1 (Q7e eg2.symm)
 replace q := q.ext x1
 replace hs := hs.ext x1
 replace X := dE X x1
 refine aB ?_
 refine aE ?_
 refine aA rfl (aC rfl ?_)
 refine aA rfl (aS fC rfl (aO (dH _ _ _ _ _ _ _ _ _ q hs hB ok hbl (by omega)) ?_))
 rintro _ w4 ⟨r1, a6, sd7, rfl, hr8, ok, b5, x3⟩
 replace hs := hs.grown x3 (by intro g hg; injection hg; omega)
 replace b2 := b2.grown x3 (by intro h; injection h; omega)
 replace X := cU X x3
 clear x3 q
 refine aA rfl (aC rfl ?_)
 refine aA rfl (aS fC rfl (aO (dH _ _ _ _ _ _ _ _ _ b5 hs hB ok hbl (by omega)) ?_))
 rintro _ w10 ⟨r2, a12, sd13, rfl, hr14, ok, b11, x9⟩
 replace hs := hs.grown x9 (by intro g hg; injection hg; omega)
 replace b2 := b2.grown x9 (by intro h; injection h; omega)
 replace X := cU X x9
 clear x9 b5
 refine aA rfl (aC rfl ?_)
 refine aA rfl (aS fC rfl (aO (dH _ _ _ _ _ _ _ _ _ b11 hs hB ok hbl (by omega)) ?_))
 rintro _ w16 ⟨r3, a18, sd19, rfl, hr20, ok, b17, x15⟩
 replace hs := hs.grown x15 (by intro g hg; injection hg; omega)
 replace b2 := b2.grown x15 (by intro h; injection h; omega)
 replace X := cU X x15
 clear x15 b11
 refine aA rfl (iD rfl rfl ?_)
 refine aA rfl (cO zP eV rfl rfl ?_)
 refine aA rfl (dO eV ?_)
 intro gD w22 egD bD x21 zgD
 have lgD : w.heap.size ≤ gD := Q7l X.size (Q7e egD.symm)
 have pgDhs := Q7l hs.1 (Q7e egD.symm)
 have ngDb2 := Nat.lt_of_lt_of_eq b2.lt egD.symm
 have ngDb17 := Nat.lt_of_lt_of_eq b17.lt egD.symm
 replace hs := hs.ext x21
 replace b2 := b2.ext x21
 replace b17 := b17.ext x21
 replace X := dE X x21
 refine aA rfl (aX bD eV rfl rfl rfl rfl rfl rfl ?_)
 intro w24 bE hg23 z25
 replace hs := hs.grown hg23 (by intro g hg; injection hg; omega)
 replace b2 := b2.grown hg23 (by intro h; injection h; omega)
 replace b17 := b17.grown hg23 (by intro h; injection h; omega)
 replace X := cV X hg23 (by intro g hg; injection hg; omega)
 clear hg23 bD
 refine aB ?_
 refine aQ ?_
 refine aE ?_
 refine aA rfl (aF fA rfl rfl ?_)
 refine aA rfl (aI bE cY rfl rfl ?_)
 refine aA rfl (cW aDP rfl (wJ _ _) (fun w27 hda x26 => ?_) (fun w27 hda x26 => ?_))
 replace hs := hs.ext x26
 replace b2 := b2.ext x26
 replace b17 := b17.ext x26
 replace bE := bE.ext x26
 replace X := dE X x26
 refine aB ?_
 refine aR rfl ?_
 refine aM ?_
 refine aA rfl (aC rfl ?_)
 refine aA rfl (aS fC rfl (aO (dH _ _ _ _ _ _ _ _ _ b17 hs hB ok hbl (by omega)) ?_))
 rintro _ w29 ⟨r4, a31, sd32, rfl, hr33, ok, b30, x28⟩
 replace hs := hs.grown x28 (by intro g hg; injection hg; omega)
 replace b2 := b2.grown x28 (by intro h; injection h; omega)
 replace bE := bE.grown x28 (by intro h; injection h; omega)
 replace X := cU X x28
 clear x28 b17
 refine aA rfl (aZ rfl rfl (dR (by omega)) ?_)
 refine aA rfl (aF iR rfl rfl ?_)
 refine aA rfl (aX bE cY rfl rfl rfl rfl rfl rfl ?_)
 intro w35 bF hg34 z36
 replace hs := hs.grown hg34 (by intro g hg; injection hg; omega)
 replace b2 := b2.grown hg34 (by intro h; injection h; omega)
 replace b30 := b30.grown hg34 (by intro h; injection h; omega)
 replace X := cV X hg34 (by intro g hg; injection hg; omega)
 clear hg34 bE
 refine aB ?_
 refine aP ?_
 refine aQ ?_
 refine aE ?_
 refine aA rfl (aF fA rfl rfl ?_)
 refine aA rfl (aI bF cY rfl rfl ?_)
 refine aA rfl (dK rfl rfl (fun hk3 => ?_) (fun hk3 => ?_))
 refine aB ?_
 refine aR rfl ?_
 refine aM ?_
 refine aA rfl (aF nK rfl rfl ?_)
 refine aA rfl (aX bF uX rfl rfl rfl rfl rfl rfl ?_)
 intro w38 bG hg37 z39
 replace hs := hs.grown hg37 (by intro g hg; injection hg; omega)
 replace b2 := b2.grown hg37 (by intro h; injection h; omega)
 replace b30 := b30.grown hg37 (by intro h; injection h; omega)
 replace X := cV X hg37 (by intro g hg; injection hg; omega)
 clear hg37 bF
 refine aB ?_
 refine aP ?_
 refine aE ?_
 refine aA rfl (aF fA rfl rfl ?_)
 refine aA rfl (aI bG cY rfl rfl ?_)
 refine aA rfl (aF iR rfl rfl ?_)
 refine aA rfl (aI bG cY rfl rfl ?_)
 first | (have hcs := iC r2 (z := 1 + r4) (by omega)) | (have hcs := iC r2 (z := 0) (by omega))
 refine aA rfl (aS uM rfl (aO (lK _ _ _ (by omega)) ?_))
 rintro _ w41 ⟨rfl, x40⟩
 replace hs := hs.ext x40
 replace b2 := b2.ext x40
 replace b30 := b30.ext x40
 replace bG := bG.ext x40
 replace X := dE X x40
 refine aA rfl (aZ rfl rfl (dR (by omega)) ?_)
 refine aA rfl (aC rfl ?_)
 refine aA rfl (aS fC rfl (aO (dH _ _ _ _ _ _ _ _ _ b30 hs hB ok hbl (by omega)) ?_))
 rintro _ w43 ⟨r5, a45, sd46, rfl, hr47, ok, b44, x42⟩
 replace hs := hs.grown x42 (by intro g hg; injection hg; omega)
 replace b2 := b2.grown x42 (by intro h; injection h; omega)
 replace bG := bG.grown x42 (by intro h; injection h; omega)
 replace X := cU X x42
 clear x42 b30
 refine aA rfl (aZ rfl rfl (dR (by omega)) ?_)
 refine aA rfl (aF eK rfl rfl ?_)
 refine aA rfl (aX bG cY rfl rfl rfl rfl rfl rfl ?_)
 intro w49 bH hg48 z50
 replace hs := hs.grown hg48 (by intro g hg; injection hg; omega)
 replace b2 := b2.grown hg48 (by intro h; injection h; omega)
 replace b44 := b44.grown hg48 (by intro h; injection h; omega)
 replace X := cV X hg48 (by intro g hg; injection hg; omega)
 clear hg48 bG
 refine aB ?_
 refine aE ?_
 refine aA rfl (bO bH eV rfl rfl ?_)
 refine aA rfl (aX b2 eV rfl rfl rfl rfl rfl rfl ?_)
 intro w52 b3 hg51 z53
 replace hs := hs.grown hg51 (by intro g hg; injection hg; omega)
 replace b44 := b44.grown hg51 (by intro h; injection h; omega)
 replace bH := bH.grown hg51 (by intro h; injection h; omega)
 replace X := cV X hg51 (by intro g hg; injection hg; omega)
 clear hg51 b2
 refine aB ?_
 refine aV ?_
 refine eC rfl rfl b3 eV rfl ?_
 · skip
   refine ⟨⟨_, _, _, _, _⟩, _, _, lA _ _ _ _ _, ?_, ok, b44, X⟩
   simp only; omega
 refine aB ?_
 refine aL rfl ?_
 refine aU ?_
 refine aP ?_
 refine aE ?_
 refine aA rfl (aF fA rfl rfl ?_)
 refine aA rfl (aI bF cY rfl rfl ?_)
 refine aA rfl (aF iR rfl rfl ?_)
 refine aA rfl (aI bF cY rfl rfl ?_)
 first | (have hcs := iC r2 (z := 1 + r4) (by omega)) | (have hcs := iC r2 (z := 0) (by omega))
 refine aA rfl (aS uM rfl (aO (lK _ _ _ (by omega)) ?_))
 rintro _ w55 ⟨rfl, x54⟩
 replace hs := hs.ext x54
 replace b2 := b2.ext x54
 replace b30 := b30.ext x54
 replace bF := bF.ext x54
 replace X := dE X x54
 refine aA rfl (aZ rfl rfl (dR (by omega)) ?_)
 refine aA rfl (aC rfl ?_)
 refine aA rfl (aS fC rfl (aO (dH _ _ _ _ _ _ _ _ _ b30 hs hB ok hbl (by omega)) ?_))
 rintro _ w57 ⟨r5, a59, sd60, rfl, hr61, ok, b58, x56⟩
 replace hs := hs.grown x56 (by intro g hg; injection hg; omega)
 replace b2 := b2.grown x56 (by intro h; injection h; omega)
 replace bF := bF.grown x56 (by intro h; injection h; omega)
 replace X := cU X x56
 clear x56 b30
 refine aA rfl (aZ rfl rfl (dR (by omega)) ?_)
 refine aA rfl (aF eK rfl rfl ?_)
 refine aA rfl (aX bF cY rfl rfl rfl rfl rfl rfl ?_)
 intro w63 bH hg62 z64
 replace hs := hs.grown hg62 (by intro g hg; injection hg; omega)
 replace b2 := b2.grown hg62 (by intro h; injection h; omega)
 replace b58 := b58.grown hg62 (by intro h; injection h; omega)
 replace X := cV X hg62 (by intro g hg; injection hg; omega)
 clear hg62 bF
 refine aB ?_
 refine aE ?_
 refine aA rfl (bO bH eV rfl rfl ?_)
 refine aA rfl (aX b2 eV rfl rfl rfl rfl rfl rfl ?_)
 intro w66 b3 hg65 z67
 replace hs := hs.grown hg65 (by intro g hg; injection hg; omega)
 replace b58 := b58.grown hg65 (by intro h; injection h; omega)
 replace bH := bH.grown hg65 (by intro h; injection h; omega)
 replace X := cV X hg65 (by intro g hg; injection hg; omega)
 clear hg65 b2
 refine aB ?_
 refine aV ?_
 refine eC rfl rfl b3 eV rfl ?_
 · skip
   refine ⟨⟨_, _, _, _, _⟩, _, _, lA _ _ _ _ _, ?_, ok, b58, X⟩
   simp only; omega
 replace hs := hs.ext x26
 replace b2 := b2.ext x26
 replace b17 := b17.ext x26
 replace bE := bE.ext x26
 replace X := dE X x26
 refine aB ?_
 refine aL rfl ?_
 refine aU ?_
 refine aP ?_
 refine aQ ?_
 refine aE ?_
 refine aA rfl (aF fA rfl rfl ?_)
 refine aA rfl (aI bE cY rfl rfl ?_)
 refine aA rfl (dK rfl rfl (fun hk3 => ?_) (fun hk3 => ?_))
 refine aB ?_
 refine aR rfl ?_
 refine aM ?_
 refine aA rfl (aF nK rfl rfl ?_)
 refine aA rfl (aX bE uX rfl rfl rfl rfl rfl rfl ?_)
 intro w69 bG hg68 z70
 replace hs := hs.grown hg68 (by intro g hg; injection hg; omega)
 replace b2 := b2.grown hg68 (by intro h; injection h; omega)
 replace b17 := b17.grown hg68 (by intro h; injection h; omega)
 replace X := cV X hg68 (by intro g hg; injection hg; omega)
 clear hg68 bE
 refine aB ?_
 refine aP ?_
 refine aE ?_
 refine aA rfl (aF fA rfl rfl ?_)
 refine aA rfl (aI bG cY rfl rfl ?_)
 refine aA rfl (aF iR rfl rfl ?_)
 refine aA rfl (aI bG cY rfl rfl ?_)
 first | (have hcs := iC r2 (z := 1 + r4) (by omega)) | (have hcs := iC r2 (z := 0) (by omega))
 refine aA rfl (aS uM rfl (aO (lK _ _ _ (by omega)) ?_))
 rintro _ w72 ⟨rfl, x71⟩
 replace hs := hs.ext x71
 replace b2 := b2.ext x71
 replace b17 := b17.ext x71
 replace bG := bG.ext x71
 replace X := dE X x71
 refine aA rfl (aZ rfl rfl (dR (by omega)) ?_)
 refine aA rfl (aC rfl ?_)
 refine aA rfl (aS fC rfl (aO (dH _ _ _ _ _ _ _ _ _ b17 hs hB ok hbl (by omega)) ?_))
 rintro _ w74 ⟨r5, a76, sd77, rfl, hr78, ok, b75, x73⟩
 replace hs := hs.grown x73 (by intro g hg; injection hg; omega)
 replace b2 := b2.grown x73 (by intro h; injection h; omega)
 replace bG := bG.grown x73 (by intro h; injection h; omega)
 replace X := cU X x73
 clear x73 b17
 refine aA rfl (aZ rfl rfl (dR (by omega)) ?_)
 refine aA rfl (aF eK rfl rfl ?_)
 refine aA rfl (aX bG cY rfl rfl rfl rfl rfl rfl ?_)
 intro w80 bH hg79 z81
 replace hs := hs.grown hg79 (by intro g hg; injection hg; omega)
 replace b2 := b2.grown hg79 (by intro h; injection h; omega)
 replace b75 := b75.grown hg79 (by intro h; injection h; omega)
 replace X := cV X hg79 (by intro g hg; injection hg; omega)
 clear hg79 bG
 refine aB ?_
 refine aE ?_
 refine aA rfl (bO bH eV rfl rfl ?_)
 refine aA rfl (aX b2 eV rfl rfl rfl rfl rfl rfl ?_)
 intro w83 b3 hg82 z84
 replace hs := hs.grown hg82 (by intro g hg; injection hg; omega)
 replace b75 := b75.grown hg82 (by intro h; injection h; omega)
 replace bH := bH.grown hg82 (by intro h; injection h; omega)
 replace X := cV X hg82 (by intro g hg; injection hg; omega)
 clear hg82 b2
 refine aB ?_
 refine aV ?_
 refine eC rfl rfl b3 eV rfl ?_
 · skip
   refine ⟨⟨_, _, _, _, _⟩, _, _, lA _ _ _ _ _, ?_, ok, b75, X⟩
   simp only; omega
 refine aB ?_
 refine aL rfl ?_
 refine aU ?_
 refine aP ?_
 refine aE ?_
 refine aA rfl (aF fA rfl rfl ?_)
 refine aA rfl (aI bE cY rfl rfl ?_)
 refine aA rfl (aF iR rfl rfl ?_)
 refine aA rfl (aI bE cY rfl rfl ?_)
 first | (have hcs := iC r2 (z := 1 + r4) (by omega)) | (have hcs := iC r2 (z := 0) (by omega))
 refine aA rfl (aS uM rfl (aO (lK _ _ _ (by omega)) ?_))
 rintro _ w86 ⟨rfl, x85⟩
 replace hs := hs.ext x85
 replace b2 := b2.ext x85
 replace b17 := b17.ext x85
 replace bE := bE.ext x85
 replace X := dE X x85
 refine aA rfl (aZ rfl rfl (dR (by omega)) ?_)
 refine aA rfl (aC rfl ?_)
 refine aA rfl (aS fC rfl (aO (dH _ _ _ _ _ _ _ _ _ b17 hs hB ok hbl (by omega)) ?_))
 rintro _ w88 ⟨r5, a90, sd91, rfl, hr92, ok, b89, x87⟩
 replace hs := hs.grown x87 (by intro g hg; injection hg; omega)
 replace b2 := b2.grown x87 (by intro h; injection h; omega)
 replace bE := bE.grown x87 (by intro h; injection h; omega)
 replace X := cU X x87
 clear x87 b17
 refine aA rfl (aZ rfl rfl (dR (by omega)) ?_)
 refine aA rfl (aF eK rfl rfl ?_)
 refine aA rfl (aX bE cY rfl rfl rfl rfl rfl rfl ?_)
 intro w94 bH hg93 z95
 replace hs := hs.grown hg93 (by intro g hg; injection hg; omega)
 replace b2 := b2.grown hg93 (by intro h; injection h; omega)
 replace b89 := b89.grown hg93 (by intro h; injection h; omega)
 replace X := cV X hg93 (by intro g hg; injection hg; omega)
 clear hg93 bE
 refine aB ?_
 refine aE ?_
 refine aA rfl (bO bH eV rfl rfl ?_)
 refine aA rfl (aX b2 eV rfl rfl rfl rfl rfl rfl ?_)
 intro w97 b3 hg96 z98
 replace hs := hs.grown hg96 (by intro g hg; injection hg; omega)
 replace b89 := b89.grown hg96 (by intro h; injection h; omega)
 replace bH := bH.grown hg96 (by intro h; injection h; omega)
 replace X := cV X hg96 (by intro g hg; injection hg; omega)
 clear hg96 b2
 refine aB ?_
 refine aV ?_
 refine eC rfl rfl b3 eV rfl ?_
 · skip
   refine ⟨⟨_, _, _, _, _⟩, _, _, lA _ _ _ _ _, ?_, ok, b89, X⟩
   simp only; omega
theorem aBT (A : Option Addr) (B c : Nat) (bs : List UInt8) (gS a : Nat) (sd : Int) (w : World) (q : Blk w gS 148 (iU A c bs a sd)) (hs : Sl B w A (bs.flatMap eB)) (hB : B ≤ gS) (ok : a ≤ bs.length ∧ 0 ≤ sd ∧ sd < 2147483647) (hbl : bs.length ≤ 1048576) :
   Calls Tryz.prog 145 #[.pointer (some ⟨gS, 0, none⟩)] w (fD fun v w' => ∃ (d : Desc) (a' : Nat) (sd' : Int), v = .agg d.cells.toArray ∧ True ∧ (a' ≤ bs.length ∧ 0 ≤ sd' ∧ sd' < 2147483647) ∧ Blk w' gS 148 (iU A c bs a' sd') ∧ w.grownBy w' (some gS)) := by
 have Bhs := hs.1
 have X := mC w (some gS)
 refine bI (args := [.pointer (some ⟨gS, 0, none⟩)]) Tryz.func145 Tryz.ntmps145 rfl rfl ?_
 refine aE ?_
 refine aA rfl (dO eV ?_)
 intro g2 w2 eg2 b2 x1 zg2
 have lg2 : w.heap.size ≤ g2 := Q7l X.size (Q7e eg2.symm)
 have ng2q := Nat.lt_of_lt_of_eq q.lt eg2.symm
 have pg2hs := Q7l hs.1 (Q7e eg2.symm)
 replace q := q.ext x1
 replace hs := hs.ext x1
 replace X := dE X x1
 refine aB ?_
 refine aE ?_
 refine aA rfl (aC rfl ?_)
 refine aA rfl (aS zV rfl (aO (qH _ _ _ _ _ _ _ _ q hs hB ok hbl) ?_))
 rintro _ w4 ⟨d, a6, sd7, rfl, hp, ok, b5, x3⟩
 replace hs := hs.grown x3 (by intro g hg; injection hg; omega)
 replace b2 := b2.grown x3 (by intro h; injection h; omega)
 replace X := cU X x3
 clear x3 q
 refine aA rfl (dO eV ?_)
 intro gD w9 egD bD x8 zgD
 have lgD : w.heap.size ≤ gD := Q7l X.size (Q7e egD.symm)
 have pgDhs := Q7l hs.1 (Q7e egD.symm)
 have ngDb2 := Nat.lt_of_lt_of_eq b2.lt egD.symm
 have ngDb5 := Nat.lt_of_lt_of_eq b5.lt egD.symm
 replace hs := hs.ext x8
 replace b2 := b2.ext x8
 replace b5 := b5.ext x8
 replace X := dE X x8
 refine aA rfl (aX bD eV rfl rfl rfl rfl rfl rfl ?_)
 intro w11 bE hg10 z12
 replace hs := hs.grown hg10 (by intro g hg; injection hg; omega)
 replace b2 := b2.grown hg10 (by intro h; injection h; omega)
 replace b5 := b5.grown hg10 (by intro h; injection h; omega)
 replace X := cV X hg10 (by intro g hg; injection hg; omega)
 clear hg10 bD
 refine aB ?_
 refine aQ ?_
 refine aE ?_
 refine aA rfl (aC rfl ?_)
 refine aA rfl (aS fC rfl (aO (dH _ _ _ _ _ _ _ _ _ b5 hs hB ok hbl (by omega)) ?_))
 rintro _ w14 ⟨rk, a16, sd17, rfl, hr18, ok, b15, x13⟩
 replace hs := hs.grown x13 (by intro g hg; injection hg; omega)
 replace b2 := b2.grown x13 (by intro h; injection h; omega)
 replace bE := bE.grown x13 (by intro h; injection h; omega)
 replace X := cU X x13
 clear x13 b5
 refine aB ?_
 refine aW ?_
 refine aE ?_
 refine aA rfl (iD rfl rfl ?_)
 refine aA rfl (aD rfl ?_)
 refine aB ?_
 refine lB rfl (fun h19 => ?_) (fun h19 => ?_)
 refine aM ?_
 refine aA rfl (aN dA cY rfl rfl rfl rfl rfl ?_)
 intro g20 w22 eg20 oL bbg20 x21 zg20
 replace oL := Own.low oL X.size
 replace hs := hs.ext x21
 replace b2 := b2.ext x21
 replace bE := bE.ext x21
 replace b15 := b15.ext x21
 replace X := dE X x21
 replace oL := oL.to (cs' := ([-1, 31, 32] : List Int).flatMap eI) rfl
 refine aA rfl (aC rfl ?_)
 refine aA rfl (aS fC rfl (aO (dH _ _ _ _ _ _ _ _ _ b15 hs hB ok hbl (by omega)) ?_))
 rintro _ w24 ⟨rr, a26, sd27, rfl, hr28, ok, b25, x23⟩
 replace hs := hs.grown x23 (by intro g hg; injection hg; omega)
 replace b2 := b2.grown x23 (by intro h; injection h; omega)
 replace bE := bE.grown x23 (by intro h; injection h; omega)
 replace oL := oL.grownBlk x23 (Own.neT oL b15 (by decide))
 replace X := cU X x23
 clear x23 b15
 obtain ⟨y, hy⟩ : ∃ y, ([-1, 31, 32] : List Int)[rr.toNat]? = some y := ⟨_, List.getElem?_eq_getElem (by simp; omega)⟩
 refine aA rfl (aT (oL).sl bL rfl dA rfl rfl rfl hy (by omega) ?_)
 refine aA rfl (cX (oL).sl bL hy cY rfl rfl rfl ?_)
 refine aA rfl (aF jN rfl rfl ?_)
 refine aA rfl (aX bE cY rfl rfl rfl rfl rfl rfl ?_)
 intro w30 bF hg29 z31
 replace hs := hs.grown hg29 (by intro g hg; injection hg; omega)
 replace b2 := b2.grown hg29 (by intro h; injection h; omega)
 replace oL := oL.grownBlk hg29 (Own.neT oL bE (by decide))
 replace b25 := b25.grown hg29 (by intro h; injection h; omega)
 replace X := cV X hg29 (by intro g hg; injection hg; omega)
 clear hg29 bE
 refine aB ?_
 refine dJ ?_
 refine aP ?_
 refine aE ?_
 refine aA rfl (bO bF eV rfl rfl ?_)
 refine aA rfl (aX b2 eV rfl rfl rfl rfl rfl rfl ?_)
 intro w33 b3 hg32 z34
 replace hs := hs.grown hg32 (by intro g hg; injection hg; omega)
 replace oL := oL.grownBlk hg32 (Own.neT oL b2 (by decide))
 replace b25 := b25.grown hg32 (by intro h; injection h; omega)
 replace bF := bF.grown hg32 (by intro h; injection h; omega)
 replace X := cV X hg32 (by intro g hg; injection hg; omega)
 clear hg32 b2
 refine aB ?_
 refine aV ?_
 refine eC rfl rfl b3 eV rfl ?_
 exact ⟨⟨_, _, _, _, _⟩, _, _, lA _ _ _ _ _, trivial, ok, b25, X⟩
 refine aE ?_
 refine aA rfl (iD rfl rfl ?_)
 refine aA rfl (aD rfl ?_)
 refine aB ?_
 refine lB rfl (fun h35 => ?_) (fun h35 => ?_)
 refine aM ?_
 refine aA rfl (aC rfl ?_)
 refine aA rfl (aS fC rfl (aO (dH _ _ _ _ _ _ _ _ _ b15 hs hB ok hbl (by omega)) ?_))
 rintro _ w37 ⟨r39, a40, sd41, rfl, hr42, ok, b38, x36⟩
 replace hs := hs.grown x36 (by intro g hg; injection hg; omega)
 replace b2 := b2.grown x36 (by intro h; injection h; omega)
 replace bE := bE.grown x36 (by intro h; injection h; omega)
 replace X := cU X x36
 clear x36 b15
 refine aA rfl (fZ rfl rfl (dR (by omega)) ?_)
 refine aA rfl (aF fA rfl rfl ?_)
 refine aA rfl (aX bE cY rfl rfl rfl rfl rfl rfl ?_)
 intro w44 bF hg43 z45
 replace hs := hs.grown hg43 (by intro g hg; injection hg; omega)
 replace b2 := b2.grown hg43 (by intro h; injection h; omega)
 replace b38 := b38.grown hg43 (by intro h; injection h; omega)
 replace X := cV X hg43 (by intro g hg; injection hg; omega)
 clear hg43 bE
 refine aB ?_
 refine dJ ?_
 refine aP ?_
 refine aE ?_
 refine aA rfl (bO bF eV rfl rfl ?_)
 refine aA rfl (aX b2 eV rfl rfl rfl rfl rfl rfl ?_)
 intro w47 b3 hg46 z48
 replace hs := hs.grown hg46 (by intro g hg; injection hg; omega)
 replace b38 := b38.grown hg46 (by intro h; injection h; omega)
 replace bF := bF.grown hg46 (by intro h; injection h; omega)
 replace X := cV X hg46 (by intro g hg; injection hg; omega)
 clear hg46 b2
 refine aB ?_
 refine aV ?_
 refine eC rfl rfl b3 eV rfl ?_
 exact ⟨⟨_, _, _, _, _⟩, _, _, lA _ _ _ _ _, trivial, ok, b38, X⟩
 refine aE ?_
 refine aA rfl (iD rfl rfl ?_)
 refine aA rfl (aD rfl ?_)
 refine aB ?_
 refine lB rfl (fun h49 => ?_) (fun h49 => ?_)
 refine aM ?_
 refine aA rfl (aN dA cY rfl rfl rfl rfl rfl ?_)
 intro g50 w52 eg50 oL bbg50 x51 zg50
 replace oL := Own.low oL X.size
 replace hs := hs.ext x51
 replace b2 := b2.ext x51
 replace bE := bE.ext x51
 replace b15 := b15.ext x51
 replace X := dE X x51
 replace oL := oL.to (cs' := ([-1, 0, 32, 33] : List Int).flatMap eI) rfl
 refine aA rfl (aC rfl ?_)
 refine aA rfl (aS fC rfl (aO (dH _ _ _ _ _ _ _ _ _ b15 hs hB ok hbl (by omega)) ?_))
 rintro _ w54 ⟨rr, a56, sd57, rfl, hr58, ok, b55, x53⟩
 replace hs := hs.grown x53 (by intro g hg; injection hg; omega)
 replace b2 := b2.grown x53 (by intro h; injection h; omega)
 replace bE := bE.grown x53 (by intro h; injection h; omega)
 replace oL := oL.grownBlk x53 (Own.neT oL b15 (by decide))
 replace X := cU X x53
 clear x53 b15
 obtain ⟨y, hy⟩ : ∃ y, ([-1, 0, 32, 33] : List Int)[rr.toNat]? = some y := ⟨_, List.getElem?_eq_getElem (by simp; omega)⟩
 refine aA rfl (aT (oL).sl bL rfl dA rfl rfl rfl hy (by omega) ?_)
 refine aA rfl (cX (oL).sl bL hy cY rfl rfl rfl ?_)
 refine aA rfl (aF iR rfl rfl ?_)
 refine aA rfl (aX bE cY rfl rfl rfl rfl rfl rfl ?_)
 intro w60 bF hg59 z61
 replace hs := hs.grown hg59 (by intro g hg; injection hg; omega)
 replace b2 := b2.grown hg59 (by intro h; injection h; omega)
 replace oL := oL.grownBlk hg59 (Own.neT oL bE (by decide))
 replace b55 := b55.grown hg59 (by intro h; injection h; omega)
 replace X := cV X hg59 (by intro g hg; injection hg; omega)
 clear hg59 bE
 refine aB ?_
 refine dJ ?_
 refine aP ?_
 refine aE ?_
 refine aA rfl (bO bF eV rfl rfl ?_)
 refine aA rfl (aX b2 eV rfl rfl rfl rfl rfl rfl ?_)
 intro w63 b3 hg62 z64
 replace hs := hs.grown hg62 (by intro g hg; injection hg; omega)
 replace oL := oL.grownBlk hg62 (Own.neT oL b2 (by decide))
 replace b55 := b55.grown hg62 (by intro h; injection h; omega)
 replace bF := bF.grown hg62 (by intro h; injection h; omega)
 replace X := cV X hg62 (by intro g hg; injection hg; omega)
 clear hg62 b2
 refine aB ?_
 refine aV ?_
 refine eC rfl rfl b3 eV rfl ?_
 exact ⟨⟨_, _, _, _, _⟩, _, _, lA _ _ _ _ _, trivial, ok, b55, X⟩
 refine aE ?_
 refine aA rfl (iD rfl rfl ?_)
 refine aA rfl (aD rfl ?_)
 refine aB ?_
 refine lB rfl (fun h65 => ?_) (fun h65 => ?_)
 refine aM ?_
 refine aA rfl (aF fA rfl rfl ?_)
 refine aA rfl (aI bE cY rfl rfl ?_)
 refine aA rfl (aF iR rfl rfl ?_)
 refine aA rfl (aI bE cY rfl rfl ?_)
 have hcs := iC d.kind (z := d.size) (by omega)
 refine aA rfl (aS uM rfl (aO (lK _ _ _ (by omega)) ?_))
 rintro _ w67 ⟨rfl, x66⟩
 replace hs := hs.ext x66
 replace b2 := b2.ext x66
 replace bE := bE.ext x66
 replace b15 := b15.ext x66
 replace X := dE X x66
 refine aA rfl (aZ rfl rfl (dR (by omega)) ?_)
 refine aA rfl (fZ rfl rfl (dR (by omega)) ?_)
 refine aA rfl (aN dA cY rfl rfl rfl rfl rfl ?_)
 intro g68 w70 eg68 oL bbg68 x69 zg68
 replace oL := Own.low oL X.size
 replace hs := hs.ext x69
 replace b2 := b2.ext x69
 replace bE := bE.ext x69
 replace b15 := b15.ext x69
 replace X := dE X x69
 replace oL := oL.to (cs' := ([0, qW d.kind d.size + 20 - 1, 1000, 1001] : List Int).flatMap eI) rfl
 refine aA rfl (aC rfl ?_)
 refine aA rfl (aS fC rfl (aO (dH _ _ _ _ _ _ _ _ _ b15 hs hB ok hbl (by omega)) ?_))
 rintro _ w72 ⟨rr, a74, sd75, rfl, hr76, ok, b73, x71⟩
 replace hs := hs.grown x71 (by intro g hg; injection hg; omega)
 replace b2 := b2.grown x71 (by intro h; injection h; omega)
 replace bE := bE.grown x71 (by intro h; injection h; omega)
 replace oL := oL.grownBlk x71 (Own.neT oL b15 (by decide))
 replace X := cU X x71
 clear x71 b15
 obtain ⟨y, hy⟩ : ∃ y, ([0, qW d.kind d.size + 20 - 1, 1000, 1001] : List Int)[rr.toNat]? = some y := ⟨_, List.getElem?_eq_getElem (by simp; omega)⟩
 refine aA rfl (aT (oL).sl bL rfl dA rfl rfl rfl hy (by omega) ?_)
 refine aA rfl (cX (oL).sl bL hy cY rfl rfl rfl ?_)
 refine aA rfl (aF eK rfl rfl ?_)
 refine aA rfl (aX bE cY rfl rfl rfl rfl rfl rfl ?_)
 intro w78 bF hg77 z79
 replace hs := hs.grown hg77 (by intro g hg; injection hg; omega)
 replace b2 := b2.grown hg77 (by intro h; injection h; omega)
 replace oL := oL.grownBlk hg77 (Own.neT oL bE (by decide))
 replace b73 := b73.grown hg77 (by intro h; injection h; omega)
 replace X := cV X hg77 (by intro g hg; injection hg; omega)
 clear hg77 bE
 refine aB ?_
 refine dJ ?_
 refine aP ?_
 refine aE ?_
 refine aA rfl (bO bF eV rfl rfl ?_)
 refine aA rfl (aX b2 eV rfl rfl rfl rfl rfl rfl ?_)
 intro w81 b3 hg80 z82
 replace hs := hs.grown hg80 (by intro g hg; injection hg; omega)
 replace oL := oL.grownBlk hg80 (Own.neT oL b2 (by decide))
 replace b73 := b73.grown hg80 (by intro h; injection h; omega)
 replace bF := bF.grown hg80 (by intro h; injection h; omega)
 replace X := cV X hg80 (by intro g hg; injection hg; omega)
 clear hg80 b2
 refine aB ?_
 refine aV ?_
 refine eC rfl rfl b3 eV rfl ?_
 exact ⟨⟨_, _, _, _, _⟩, _, _, lA _ _ _ _ _, trivial, ok, b73, X⟩
 refine aE ?_
 refine aA rfl (iD rfl rfl ?_)
 refine aA rfl (aD rfl ?_)
 refine aB ?_
 refine lB rfl (fun h83 => ?_) (fun h83 => ?_)
 refine aM ?_
 refine aA rfl (aF nK rfl rfl ?_)
 refine aA rfl (aI bE uX rfl rfl ?_)
 refine aA rfl (cD rfl ?_)
 refine aA rfl (aF nK rfl rfl ?_)
 refine aA rfl (aX bE uX rfl rfl rfl rfl rfl rfl ?_)
 intro w85 bF hg84 z86
 replace hs := hs.grown hg84 (by intro g hg; injection hg; omega)
 replace b2 := b2.grown hg84 (by intro h; injection h; omega)
 replace b15 := b15.grown hg84 (by intro h; injection h; omega)
 replace X := cV X hg84 (by intro g hg; injection hg; omega)
 clear hg84 bE
 refine aB ?_
 refine dJ ?_
 refine aP ?_
 refine aE ?_
 refine aA rfl (bO bF eV rfl rfl ?_)
 refine aA rfl (aX b2 eV rfl rfl rfl rfl rfl rfl ?_)
 intro w88 b3 hg87 z89
 replace hs := hs.grown hg87 (by intro g hg; injection hg; omega)
 replace b15 := b15.grown hg87 (by intro h; injection h; omega)
 replace bF := bF.grown hg87 (by intro h; injection h; omega)
 replace X := cV X hg87 (by intro g hg; injection hg; omega)
 clear hg87 b2
 refine aB ?_
 refine aV ?_
 refine eC rfl rfl b3 eV rfl ?_
 exact ⟨⟨_, _, _, _, _⟩, _, _, lA _ _ _ _ _, trivial, ok, b15, X⟩
 refine aU ?_
 refine dJ ?_
 refine aP ?_
 refine aE ?_
 refine aA rfl (bO bE eV rfl rfl ?_)
 refine aA rfl (aX b2 eV rfl rfl rfl rfl rfl rfl ?_)
 intro w91 b3 hg90 z92
 replace hs := hs.grown hg90 (by intro g hg; injection hg; omega)
 replace bE := bE.grown hg90 (by intro h; injection h; omega)
 replace b15 := b15.grown hg90 (by intro h; injection h; omega)
 replace X := cV X hg90 (by intro g hg; injection hg; omega)
 clear hg90 b2
 refine aB ?_
 refine aV ?_
 refine eC rfl rfl b3 eV rfl ?_
 exact ⟨⟨_, _, _, _, _⟩, _, _, lA _ _ _ _ _, trivial, ok, b15, X⟩
def smallM : MedlD := ⟨77, [⟨0, ⟨#[97]⟩, 100, false⟩, ⟨1, ⟨#[98]⟩, 50, false⟩], [⟨2, 2, [1]⟩, ⟨1, 2, [0]⟩], [⟨0, 0, 0, ⟨0, 3, 0, 200, false⟩⟩, ⟨0, 0, 1, ⟨1, 1, 0, 200, false⟩⟩, ⟨0, 1, 0, ⟨0, 0, 4, 200, true⟩⟩, ⟨0, 1, 1, ⟨1, 0, 2, 200, false⟩⟩, ⟨1, 0, 0, ⟨1, 2, 3, 300, true⟩⟩, ⟨1, 0, 1, ⟨0, 0, 0, 150, false⟩⟩]⟩
def zeroM : MedlI := ⟨0, none, [], 0, none, [], 0, none, [], 0⟩
def smallI : MedlI := ⟨77, none, [⟨0, ⟨#[97]⟩, 100, false⟩, ⟨1, ⟨#[98]⟩, 50, false⟩], 2, none, [⟨⟨2, 2, [1]⟩, none, 1⟩, ⟨⟨1, 2, [0]⟩, none, 1⟩], 2, none, [⟨0, 0, 0, ⟨0, 3, 0, 200, false⟩⟩, ⟨0, 0, 1, ⟨1, 1, 0, 200, false⟩⟩, ⟨0, 1, 0, ⟨0, 0, 4, 200, true⟩⟩, ⟨0, 1, 1, ⟨1, 0, 2, 200, false⟩⟩, ⟨1, 0, 0, ⟨1, 2, 3, 300, true⟩⟩, ⟨1, 0, 1, ⟨0, 0, 0, 150, false⟩⟩], 6⟩
theorem aG4 : smallI.small := ⟨by decide, by decide, fun x hx => by
 simp only [smallI, List.mem_cons, List.not_mem_nil, or_false] at hx
 rcases hx with rfl | rfl <;> decide, by decide, fun x hx => by
 simp only [smallI, List.mem_cons, List.not_mem_nil, or_false] at hx
 rcases hx with rfl | rfl <;> decide⟩
theorem aCY {m' : MedlI} (e : m'.d = smallM) : m'.small := by
 have h := aG4
 exact MedlI.small_of (m := smallI) (by rw [e]; rfl) h
theorem aG5  (w : World)  :
   Calls Tryz.prog 41 #[] w (fD fun v w' => ∃ m', v = .agg m'.cells.toArray ∧ m'.d = smallM ∧ MOwn w' w.heap.size 59 92 2 89 m' ∧ Ext w w') := by
 have X := Q7r w
 refine bI (args := []) Tryz.func41 Tryz.ntmps41 rfl rfl ?_
 refine aE ?_
 refine aA rfl (dO dP ?_)
 intro g0 w2 eg0 b0 x1 zg0
 have lg0 : w.heap.size ≤ g0 := Q7l X.size (Q7e eg0.symm)
 replace X := Q7x X x1
 refine aB ?_
 refine aE ?_
 refine aA rfl (cO aDI jF rfl rfl ?_)
 refine aA rfl (cO aDI jF rfl rfl ?_)
 refine aA rfl (aN jT jF rfl rfl rfl rfl rfl ?_)
 intro gN w4 egN oN bbgN x3 zgN
 replace oN := Own.low oN X.size
 replace b0 := b0.ext x3
 replace X := Q7x X x3
 replace oN := oN.to (cs' := ([⟨0, ⟨#[97]⟩, 100, false⟩, ⟨1, ⟨#[98]⟩, 50, false⟩] : List NodeI).flatMap NodeI.cells) rfl
 refine aA rfl (aN dA cY rfl rfl rfl rfl rfl ?_)
 intro g4 w6 eg4 o4 bbg4 x5 zg4
 replace o4 := Own.low o4 X.size
 replace b0 := b0.ext x5
 replace oN := oN.ext x5
 replace X := Q7x X x5
 replace o4 := o4.to (cs' := ([1] : List Int).flatMap eI) rfl
 refine aA rfl (cO aBC hH rfl rfl ?_)
 have U4 := fun g hg => (Own.lt o4 (g := g) hg).2
 refine aA rfl (aN dA cY rfl rfl rfl rfl rfl ?_)
 intro g6 w9 eg6 o6 bbg6 x7 zg6
 replace o6 := Own.low o6 X.size
 replace b0 := b0.ext x7
 replace oN := oN.ext x7
 replace o4 := o4.ext x7
 replace X := Q7x X x7
 replace o6 := o6.to (cs' := ([0] : List Int).flatMap eI) rfl
 refine aA rfl (cO aBC hH rfl rfl ?_)
 refine aA rfl (aN iA hH rfl rfl rfl rfl rfl ?_)
 intro gM w11 egM oM bbgM x10 zgM
 replace oM := Own.low oM X.size
 replace b0 := b0.ext x10
 replace oN := oN.ext x10
 replace o4 := o4.ext x10
 replace o6 := o6.ext x10
 replace X := Q7x X x10
 replace oM := oM.to (cs' := ([⟨⟨2, 2, [1]⟩, some ⟨g4, 0, none⟩, 1⟩, ⟨⟨1, 2, [0]⟩, some ⟨g6, 0, none⟩, 1⟩] : List ModeI).flatMap ModeI.cells) rfl
 refine aA rfl (cO zP eV rfl rfl ?_)
 refine aA rfl (cO oF dZ rfl rfl ?_)
 refine aA rfl (cO zP eV rfl rfl ?_)
 refine aA rfl (cO oF dZ rfl rfl ?_)
 refine aA rfl (cO zP eV rfl rfl ?_)
 refine aA rfl (cO oF dZ rfl rfl ?_)
 refine aA rfl (cO zP eV rfl rfl ?_)
 refine aA rfl (cO oF dZ rfl rfl ?_)
 refine aA rfl (cO zP eV rfl rfl ?_)
 refine aA rfl (cO oF dZ rfl rfl ?_)
 refine aA rfl (cO zP eV rfl rfl ?_)
 refine aA rfl (cO oF dZ rfl rfl ?_)
 refine aA rfl (aN eW dZ rfl rfl rfl rfl rfl ?_)
 intro gS w13 egS oS bbgS x12 zgS
 replace oS := Own.low oS X.size
 replace b0 := b0.ext x12
 replace oN := oN.ext x12
 replace o4 := o4.ext x12
 replace o6 := o6.ext x12
 replace oM := oM.ext x12
 replace X := Q7x X x12
 replace oS := oS.to (cs' := ([⟨0, 0, 0, ⟨0, 3, 0, 200, false⟩⟩, ⟨0, 0, 1, ⟨1, 1, 0, 200, false⟩⟩, ⟨0, 1, 0, ⟨0, 0, 4, 200, true⟩⟩, ⟨0, 1, 1, ⟨1, 0, 2, 200, false⟩⟩, ⟨1, 0, 0, ⟨1, 2, 3, 300, true⟩⟩, ⟨1, 0, 1, ⟨0, 0, 0, 150, false⟩⟩] : List SlotI).flatMap SlotI.cells) rfl
 refine aA rfl (cO qA dP rfl rfl ?_)
 refine aA rfl (aX b0 dP rfl rfl rfl rfl rfl rfl ?_)
 intro w15 b1 hg14 z16
 replace oN := oN.grownBlk hg14 (Own.neT oN b0 (by decide))
 replace o4 := o4.grownBlk hg14 (Own.neT o4 b0 (by decide))
 replace o6 := o6.grownBlk hg14 (Own.neT o6 b0 (by decide))
 replace oM := oM.grownBlk hg14 (Own.neT oM b0 (by decide))
 replace oS := oS.grownBlk hg14 (Own.neT oS b0 (by decide))
 replace X := X.grown hg14 X.size (by intro g hg; injection hg; omega)
 clear hg14 b0
 refine aB ?_
 refine aV ?_
 refine eC rfl rfl b1 dP rfl ?_
 · skip
   have hN := ((NOwn.nil_ (w := _)).snoc (x := ⟨⟨2, 2, [1]⟩, some ⟨g4, 0, none⟩, 1⟩) o4 (by show ([1] : List Int).length ≤ 9223372036854775807; decide)).snoc (x := ⟨⟨1, 2, [0]⟩, some ⟨g6, 0, none⟩, 1⟩) o6 (by show ([0] : List Int).length ≤ 9223372036854775807; decide)
   have hD := (Disj.nil_.snoc (x := ⟨⟨2, 2, [1]⟩, some ⟨g4, 0, none⟩, 1⟩) (fun y hy => by simp at hy)).snoc (x := ⟨⟨1, 2, [0]⟩, some ⟨g6, 0, none⟩, 1⟩) (fun y hy g hg e => by
     obtain rfl : y = ⟨⟨2, 2, [1]⟩, some ⟨g4, 0, none⟩, 1⟩ := by simpa using hy
     have h1 := U4 g hg
     have h2 : g6 = g := by injection e
     omega)
   exact ⟨⟨77, some ⟨gN, 0, none⟩, [⟨0, ⟨#[97]⟩, 100, false⟩, ⟨1, ⟨#[98]⟩, 50, false⟩], 2, some ⟨gM, 0, none⟩, [⟨⟨2, 2, [1]⟩, some ⟨g4, 0, none⟩, 1⟩, ⟨⟨1, 2, [0]⟩, some ⟨g6, 0, none⟩, 1⟩], 2, some ⟨gS, 0, none⟩, [⟨0, 0, 0, ⟨0, 3, 0, 200, false⟩⟩, ⟨0, 0, 1, ⟨1, 1, 0, 200, false⟩⟩, ⟨0, 1, 0, ⟨0, 0, 4, 200, true⟩⟩, ⟨0, 1, 1, ⟨1, 0, 2, 200, false⟩⟩, ⟨1, 0, 0, ⟨1, 2, 3, 300, true⟩⟩, ⟨1, 0, 1, ⟨0, 0, 0, 150, false⟩⟩], 6⟩, rfl, rfl, ⟨oN, oM, hN, hD, oS⟩, X⟩
def WZ (P : Program) (ops : Array Oper) (z : Nat) (I : World → Prop) (K : Act → World → Prop) : Nat → Array Bool → Act → World → Prop
 | 0, listed, a, w => listed = lS ops ops.size ∧ (listed.getD z true = false → I w) ∧ K a w
 | fuel + 1, listed, a, w => (listed.getD z true = false → I w) ∧ rdy ops ops.size listed ≠ [] ∧ ∀ i ∈ rdy ops ops.size listed, ∀ o, ops[i]? = some o →
     OpX P ops o a w fun u w' => WZ P ops z I K fuel (listed.setIfInBounds i true) (a.put o.dst u) w'
def aIg (ops : Array Oper) (z : Nat) (listed : Array Bool) (i : Nat) : Bool := rF ops ops.size listed i && (!(listed.getD z true) && yH ops z i)
section
variable {P : Program} {ops : Array Oper} {z : Nat} {I : World → Prop} {K : Act → World → Prop}
theorem WZ.inv : ∀ {fuel : Nat} {listed : Array Bool} {a : Act} {w : World}, WZ P ops z I K fuel listed a w → listed.getD z true = false → I w
 | 0, _, _, _, h => h.2.1
 | _ + 1, _, _, _, h => h.1
theorem aG6 {i : Nat} {oi : Oper} {v : Value} (hi : ops[i]? = some oi) (hsel : ∀ (j : Nat) (o : Oper) cs b, ops[j]? = some o → o.op ≠ .select cs b) :
   ∀ (fuel : Nat) (listed : Array Bool) (a : Act) (w : World),
     (∀ j oj, ops[j]? = some oj → j ≠ i → listed.getD j true = false → (∀ e ∈ oj.after, Region.binds .any e = true → e.on ≠ i) → oi.apart ops oj = true) →
     i ∈ rdy ops ops.size listed → listed.getD z true = false → yH ops z i = true → (∀ w, I w → OpX P ops oi a w fun u w' => u = v ∧ w' = w) →
     WZ P ops z I K fuel (listed.setIfInBounds i true) (a.put oi.dst v) w → WZ P ops z I K (fuel + 1) listed a w := by
 have here : ∀ (fuel : Nat) (listed : Array Bool) (a : Act) (w : World), listed.getD z true = false → z ≠ i → (∀ w, I w → OpX P ops oi a w fun u w' => u = v ∧ w' = w) →
     WZ P ops z I K fuel (listed.setIfInBounds i true) (a.put oi.dst v) w →
     OpX P ops oi a w fun u w' => WZ P ops z I K fuel (listed.setIfInBounds i true) (a.put oi.dst u) w' := by
   intro fuel listed a w hz hzi hy H
   refine OpX.mono (hy w (H.inv (by rw [getD_set_ne true (Ne.symm hzi)]; exact hz))) fun u w' ⟨h1, h2⟩ => ?_
   subst h1; subst h2; exact H
 have zne : ∀ (listed : Array Bool), i ∈ rdy ops ops.size listed → yH ops z i = true → z ≠ i := by
   intro listed hr he h6
   subst h6
   obtain ⟨ok, g1, e, g2, g3, g4⟩ := nR he
   obtain ⟨h1, o, h2, h3⟩ := mem_ready.1 (hM.1 hr).1
   rw [h2] at g1; injection g1 with g1; subst g1
   have h7 := h3 e g2 g3
   rw [g4] at h7
   rcases Nat.lt_or_ge z listed.size with h' | h'
   · simp [h'] at h1 h7; rw [h1] at h7; cases h7
   · simp [Array.getElem?_eq_none h'] at h7
 intro fuel
 induction fuel with
 | zero =>
   intro listed a w _ hr hz he hy H
   exfalso
   have hzi : z ≠ i := zne listed hr he
   have hzs : z < ops.size := by
     obtain ⟨ok, g1, _⟩ := nR he
     exact (Array.getElem?_eq_some_iff.1 g1).1
   have h2 : (listed.setIfInBounds i true).getD z true = listed.getD z true := getD_set_ne true (Ne.symm hzi)
   rw [H.1, nT z hzs, hz] at h2
   cases h2
 | succ fuel ih =>
   intro listed a w hfree hr hz he hy H
   have hzi : z ≠ i := zne listed hr he
   refine ⟨fun _ => H.inv (by rw [getD_set_ne true (Ne.symm hzi)]; exact hz), fun h => (by rw [h] at hr; cases hr), fun j hj oj hoj => ?_⟩
   by_cases hji : j = i
   · subst hji
     obtain rfl : oj = oi := by rw [hi] at hoj; injection hoj with ho; exact ho.symm
     exact here _ listed a w hz hzi hy H
   · obtain ⟨hj1, hj2⟩ := hM.1 hj
     obtain ⟨hi1, hi2⟩ := hM.1 hr
     have hex := H.2.2 j (hM.2 ⟨ready_mono hj1 hji, hj2⟩) oj hoj
     obtain ⟨hjun, oj', hoj', hall⟩ := mem_ready.1 hj1
     obtain rfl : oj' = oj := by rw [hoj] at hoj'; injection hoj' with ho; exact ho.symm
     have hnot : ∀ e ∈ oj'.after, Region.binds .any e = true → e.on ≠ i := fun e he hb heq => by
       have h1 := hall e he hb
       have h0 := (mem_ready.1 hi1).1
       rw [heq] at h1
       rcases Nat.lt_or_ge i listed.size with h' | h'
       · simp [h'] at h0 h1; rw [h0] at h1; cases h1
       · simp [Array.getElem?_eq_none h'] at h1
     have hjz : j ≠ z := by
       intro e
       subst e
       obtain ⟨ok, g1, e, g2, g3, g4⟩ := nR he
       rw [hoj] at g1; injection g1 with g1; subst g1
       exact hnot e g2 g3 g4
     have hap := hfree j oj' hoj hji hjun hnot
     obtain ⟨ha1, ha2, ha3⟩ := Oper.apart_spec hap
     refine OpX.mono ((OpX.put (fun cs b => hsel j oj' cs b hoj) ha1).1 hex) fun u w' hu => ?_
     refine ih _ _ _ ?_ (hM.2 ⟨ready_mono hi1 (Ne.symm hji), hi2⟩) (by rw [getD_set_ne true hjz]; exact hz) he (fun w hw => (OpX.put (fun cs b => hsel i oi cs b hi) ha3).2 (hy w hw)) ?_
     · intro k ok hk hki hun hno
       refine hfree k ok hk hki ?_ hno
       by_cases hjk : j = k
       · subst hjk; exact hjun
       · rw [getD_set_ne true hjk] at hun; exact hun
     · rw [Array.setIfInBounds_comm _ _ hji, ← Act.put_comm a v u ha2]
       exact hu
theorem aJU {Q : Exit → Act → World → Prop} (hK : ∀ a w, K a w → wpAny P .any ops Q 0 (lS ops ops.size) a w) :
   ∀ (fuel : Nat) (listed : Array Bool) (a : Act) (w : World), WZ P ops z I K fuel listed a w → wpAny P .any ops Q fuel listed a w := by
 intro fuel
 induction fuel with
 | zero => intro listed a w h; obtain ⟨rfl, _, h2⟩ := h; exact hK _ _ h2
 | succ fuel ih =>
   intro listed a w h
   obtain ⟨_, hne, hall⟩ := h
   obtain ⟨k, hk⟩ := List.exists_mem_of_ne_nil _ hne
   refine ⟨fun h0 => (by have := (hM.1 hk).1; rw [h0] at this; cases this), fun i hi => ?_⟩
   obtain ⟨hiun, oi, hoi, hedge⟩ := mem_ready.1 hi
   have him : i < ops.size := (Array.getElem?_eq_some_iff.1 hoi).1
   exact OpX.wpOp hoi (hall i (hM.2 ⟨hi, him⟩) oi hoi) fun v w' hv => ih _ _ _ hv
end
def WEZ (P : Program) (n : Nat) (ops : Array Oper) (z : Nat) (I : World → Prop) (K : Act → World → Prop) (fuel : Nat) (listed : Array Bool) (e : List (Nat × Value)) (w : World) : Prop :=
 ∀ a, Fits n e a → WZ P ops z I K fuel listed a w
section
variable {P : Program} {n : Nat} {ops : Array Oper} {z : Nat} {I : World → Prop} {K : Act → World → Prop} {fuel : Nat} {listed listed' : Array Bool} {e : List (Nat × Value)} {w : World}
theorem mE (i : Nat) {dst : Option Tmp} {op : Op} {ty : TypeId} {pos : String} {af : Array Edge} {v : Value} (hi : ops[i]? = some ⟨dst, op, ty, pos, af, none⟩) (hs : Region.noSelect ops = true) (hd : hU n dst = true)
   (ht : aIg ops z listed i = true) (hl : listed.setIfInBounds i true = listed') (hy : ∀ w, I w → OpWp P e op ty w fun u w' => u = v ∧ w' = w)
   (h : WEZ P n ops z I K fuel listed' (jE e dst v) w) : WEZ P n ops z I K (fuel + 1) listed e w := fun a ha => by
 simp only [aIg, rF, Bool.and_eq_true, Bool.not_eq_true'] at ht
 refine aG6 hi (Region.noSelect_spec hs) fuel listed a w (Region.free_spec hi ht.1.1) (by simpa using ht.1.2) ht.2.1 ht.2.2 (fun w hw => (hy w hw).opX ha) ?_
 rw [hl]
 exact h _ (ha.put dst v hd)
theorem kV (i : Nat) {dst : Option Tmp} {op : Op} {ty : TypeId} {pos : String} {af : Array Edge} (hi : ops[i]? = some ⟨dst, op, ty, pos, af, none⟩) (hd : hU n dst = true)
   (hr : rdy ops ops.size listed = [i]) (hl : listed.setIfInBounds i true = listed') (hI : listed.getD z true = false → I w) (hy : OpWp P e op ty w fun u w' => WEZ P n ops z I K fuel listed' (jE e dst u) w') : WEZ P n ops z I K (fuel + 1) listed e w := fun a ha => by
 refine ⟨hI, by rw [hr]; simp, fun j hj o ho => ?_⟩
 rw [hr] at hj
 obtain rfl : j = i := by simpa using hj
 obtain rfl : ⟨dst, op, ty, pos, af, none⟩ = o := by rw [hi] at ho; injection ho
 refine OpX.mono (OpWp.opX ha hy) fun u w' hu => ?_
 rw [hl]
 exact hu _ (ha.put dst u hd)
theorem aJV (i k : Nat) {listed'' : Array Bool} {dst : Option Tmp} {op : Op} {ty : TypeId} {pos : String} {af : Array Edge} {dst2 : Option Tmp} {op2 : Op} {ty2 : TypeId} {pos2 : String} {af2 : Array Edge} (hi : ops[i]? = some ⟨dst, op, ty, pos, af, none⟩) (hk : ops[k]? = some ⟨dst2, op2, ty2, pos2, af2, none⟩) (hd : hU n dst = true) (hd2 : hU n dst2 = true)
   (hr : rdy ops ops.size listed = [i, k]) (hl : listed.setIfInBounds i true = listed') (hl2 : listed.setIfInBounds k true = listed'') (hI : listed.getD z true = false → I w) (hy : OpWp P e op ty w fun u w' => WEZ P n ops z I K fuel listed' (jE e dst u) w')
   (hy2 : OpWp P e op2 ty2 w fun u w' => WEZ P n ops z I K fuel listed'' (jE e dst2 u) w') : WEZ P n ops z I K (fuel + 1) listed e w := fun a ha => by
 refine ⟨hI, by rw [hr]; simp, fun j hj o ho => ?_⟩
 rw [hr] at hj
 simp only [List.mem_cons, List.not_mem_nil, or_false] at hj
 rcases hj with rfl | rfl
 · obtain rfl : ⟨dst, op, ty, pos, af, none⟩ = o := by rw [hi] at ho; injection ho
   refine OpX.mono (OpWp.opX ha hy) fun u w' hu => ?_
   rw [hl]
   exact hu _ (ha.put dst u hd)
 · obtain rfl : ⟨dst2, op2, ty2, pos2, af2, none⟩ = o := by rw [hk] at ho; injection ho
   refine OpX.mono (OpWp.opX ha hy2) fun u w' hu => ?_
   rw [hl2]
   exact hu _ (ha.put dst2 u hd2)
theorem aEx (hl : listed = lS ops ops.size) (hI : listed.getD z true = false → I w) (h : ∀ a, Fits n e a → K a w) : WEZ P n ops z I K 0 listed e w := fun a ha => ⟨hl, hI, h a ha⟩
end
theorem aJW {P : Program} {n : Nat} {id : Nat} {l : List Oper} {e : List (Nat × Value)} {w : World} {Q : Exit → List (Nat × Value) → World → Prop} (z : Nat) (I : World → Prop)
   (hx : P.follows .mixedOrders = true)
   (h : WEZ P n l.toArray z I (fun a w => ∃ e', Fits n e' a ∧ Q .normal e' w) l.toArray.size (Array.replicate l.toArray.size false) e w.drew) : qI P n (.region id l.toArray true) e w Q := fun a ha => by
 refine wp_region_any hx ?_
 exact aJU (K := fun a w => ∃ e', Fits n e' a ∧ Q .normal e' w) (Q := fun x a' w' => ∃ e', Fits n e' a' ∧ Q x e' w') (fun a w ⟨e', hf, hk⟩ => ⟨vX _, e', hf, hk⟩) _ _ _ _ (h a ha)
section
variable {P : Program} {n : Nat} {ops : Array Oper} {z : Nat} {I : World → Prop} {K : Act → World → Prop} {fuel : Nat} {listed listed' : Array Bool} {e : List (Nat × Value)} {w : World}
end
end Go.Proofs.YtdoibplhbdkapaaGreatDoor
