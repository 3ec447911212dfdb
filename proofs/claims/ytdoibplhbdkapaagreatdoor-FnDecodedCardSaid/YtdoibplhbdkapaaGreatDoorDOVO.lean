/- The law FnDecoded answers true for all arguments that its row admits, and leaves what was there before as it was. No condition. -/
import Derived.Test.YtdoibplhbdkapaaGreatDoorDOP21
import Derived.Test.YtdoibplhbdkapaaGreatDoorDOP28
import Derived.Test.YtdoibplhbdkapaaGreatDoorDOP17
import Derived.Test.YtdoibplhbdkapaaGreatDoorDOP26
import Derived.Test.YtdoibplhbdkapaaGreatDoorTie
import Derived.Test.YtdoibplhbdkapaaGreatDoorCards
import Derived.Lay
import Derived.LaidOnce
import Derived.SevenTiedAt
/- The law FnDecoded answers true for all arguments that its row admits, and leaves what was there before as it was. No condition. -/
namespace Go.Proofs.YtdoibplhbdkapaaGreatDoor
open Go.RowKit
open Go.ChangeShapes Go.WideShapes Go.ChangeAt Go.RowKit
set_option linter.unusedVariables false
set_option linter.unusedSimpArgs false
set_option maxRecDepth 20000
set_option maxHeartbeats 1000000 in
theorem law_FnDecoded (A : Option Addr) (B c : Nat) (bs : List UInt8) (w : World) (hs : Sl B w A (bs.flatMap eB)) (hm0 : bs.length ≤ 9223372036854775807) :
   Calls Tryz.prog 5 #[.slice A bs.length c] w (fF fun v w' => v = .bool true ∧ Ext w w') := by
 have Bhs := hs.1
 have X := Q7r w
 refine bJ (args := [.slice A bs.length c]) Tryz.func5 Tryz.ntmps5 rfl rfl (aF (aA rfl (aE rfl (aB (aR (aF (aA rfl (aC rfl (aA rfl (cV aLc rfl (aK6 _ _ _ _) (fun w2 hbig x1 => ?_) (fun w2 hbig x1 => ?_)))))))))))
 replace hs := hs.ext x1
 replace X := Q7x X x1; clear x1
 refine aB (aQ rfl (aF (aA rfl (aE rfl (aB (aW (bN (aL rfl rfl ?_))))))))
 · skip
   first
   | exact ⟨rfl, X⟩
   | exact ⟨congrArg Value.bool (decide_eq_true rfl), X⟩
 replace hs := hs.ext x1
 replace X := Q7x X x1; clear x1
 have hb2 := of_decide_eq_false hbig
 have hbl : bs.length ≤ 1048576 := by omega
 refine aB (aM rfl (aV (aS (aF (aA rfl (aC rfl (aA rfl (aT aLh rfl (aP (aGU _ _ _ bs _ hs hbl) ?_)))))))))
 rintro _ wsD ⟨AD, cD, xD, rfl, ⟨hxDl, hxDc⟩, sD, xsD⟩
 replace hs := hs.ext xsD
 replace X := Q7x X xsD; clear xsD
 refine aA rfl (aE rfl (aB (aF (aA rfl (aC rfl (aA rfl (aT aLe rfl (aP (aJC _ _ _ xD _ sD (by omega) hxDc) ?_))))))))
 rintro _ w4 ⟨mY, rfl, eY, oY, x3⟩
 replace oY := MOwn.low oY X.size
 replace hs := hs.ext x3
 replace sD := sD.ext x3
 replace X := Q7x X x3; clear x3
 have zY := aAP eY
 refine aA rfl (aC rfl (aA rfl (cX rfl rfl (aA rfl (cX rfl rfl (aA rfl (dT dW ?_)))))))
 intro gY w9 egY b4 x7 zgY
 have lgY : w.heap.size ≤ gY := Q7l X.size (Q7e egY.symm)
 have pgYhs := Q7l hs.1 (Q7e egY.symm)
 have pgYsD := Q7l sD.1 (Q7e egY.symm)
 replace hs := hs.ext x7
 replace sD := sD.ext x7
 replace oY := oY.ext x7
 replace X := Q7x X x7; clear x7
 refine aA rfl (bK b4 dW rfl rfl rfl rfl rfl rfl ?_)
 intro w11 bY hg10 z12
 replace hs := hs.grown hg10 (by intro g hg; injection hg; omega)
 replace sD := sD.grown hg10 (by intro g hg; injection hg; omega)
 replace oY := oY.grownB b4 hg10 ⟨by decide, by decide, by decide, by decide⟩
 replace X := X.grown hg10 X.size (by intro g hg; injection hg; omega)
 clear hg10 b4
 refine aA rfl (aE rfl (aB (aF (aA rfl (aC rfl (aA rfl (aT aLg rfl (aP (aJB _ _ _ xD _ sD (by omega) hxDc) ?_))))))))
 rintro _ w14 ⟨mZ, rfl, eZ, oZ, x13⟩
 replace oZ := MOwn.low oZ X.size
 replace hs := hs.ext x13
 replace sD := sD.ext x13
 replace oY := oY.ext x13
 replace bY := bY.ext x13
 replace X := Q7x X x13
 have zZ := aAP eZ
 refine aA rfl (aC rfl (aA rfl (cX rfl rfl (aA rfl (cX rfl rfl (aA rfl (dT dW ?_)))))))
 intro gZ w18 egZ b6 x17 zgZ
 have lgZ : w.heap.size ≤ gZ := Q7l X.size (Q7e egZ.symm)
 have pgZhs := Q7l hs.1 (Q7e egZ.symm)
 have pgZsD := Q7l sD.1 (Q7e egZ.symm)
 have ngZbY := Nat.lt_of_lt_of_eq bY.lt egZ.symm
 replace hs := hs.ext x17
 replace sD := sD.ext x17
 replace oY := oY.ext x17
 replace bY := bY.ext x17
 replace oZ := oZ.ext x17
 replace X := Q7x X x17
 refine aA rfl (bK b6 dW rfl rfl rfl rfl rfl rfl ?_)
 intro w20 bZ hg19 z21
 replace hs := hs.grown hg19 (by intro g hg; injection hg; omega)
 replace sD := sD.grown hg19 (by intro g hg; injection hg; omega)
 replace oY := oY.grownB b6 hg19 ⟨by decide, by decide, by decide, by decide⟩
 replace bY := bY.grown hg19 (by intro h; injection h; omega)
 replace oZ := oZ.grownB b6 hg19 ⟨by decide, by decide, by decide, by decide⟩
 replace X := X.grown hg19 X.size (by intro g hg; injection hg; omega)
 clear hg19 b6
 refine aA rfl (aE rfl (aB (aF (aA rfl (aC rfl (aA rfl (aT aLf rfl (aP (aIj _ _ _ xD _ sD (by omega) hxDc) ?_))))))))
 rintro _ w23 ⟨rfl, x22⟩
 replace hs := hs.ext x22
 replace sD := sD.ext x22
 replace oY := oY.ext x22
 replace bY := bY.ext x22
 replace oZ := oZ.ext x22
 replace bZ := bZ.ext x22
 replace X := Q7x X x22
 refine aA rfl (aC rfl (aA rfl (cX rfl rfl (aA rfl (cX rfl rfl (aA rfl (aE rfl (aA rfl (aE rfl (aB (aF (aA rfl (aC rfl (aA rfl (aT aLi rfl (aP (aIk _ _ _ xD _ sD (by omega) hxDc) ?_))))))))))))))))
 rintro _ w25 ⟨rfl, x24⟩
 replace hs := hs.ext x24
 replace sD := sD.ext x24
 replace oY := oY.ext x24
 replace bY := bY.ext x24
 replace oZ := oZ.ext x24
 replace bZ := bZ.ext x24
 replace X := Q7x X x24
 refine aA rfl (aC rfl (aA rfl (cX rfl rfl (aA rfl (cX rfl rfl (aA rfl (aE rfl (aA rfl (aE rfl (aB (aF (aA rfl (aC rfl (aA rfl (aT aLj rfl (aP (aGV _ _ _ bs _ hs hbl) ?_))))))))))))))))
 rintro _ wsF ⟨AF, cF, yD, rfl, ⟨hyDl, hyDc⟩, sF, xsF⟩
 replace hs := hs.ext xsF
 replace sD := sD.ext xsF
 replace oY := oY.ext xsF
 replace bY := bY.ext xsF
 replace oZ := oZ.ext xsF
 replace bZ := bZ.ext xsF
 replace X := Q7x X xsF; clear xsF
 refine aA rfl (aE rfl (aB (aF (aA rfl (aC rfl (aA rfl (aT aI1 rfl (aP (aE7 _ _ _ yD _ sF (by omega) hyDc) ?_))))))))
 rintro _ w27 ⟨mU, rfl, eU, oU, x26⟩
 replace oU := MOwn.low oU X.size
 replace hs := hs.ext x26
 replace sD := sD.ext x26
 replace oY := oY.ext x26
 replace bY := bY.ext x26
 replace oZ := oZ.ext x26
 replace bZ := bZ.ext x26
 replace sF := sF.ext x26
 replace X := Q7x X x26
 have zU := aAO eU
 refine aA rfl (aC rfl (aA rfl (cX rfl rfl (aA rfl (cX rfl rfl (aA rfl (dT dW ?_)))))))
 intro gU w31 egU b9 x30 zgU
 have lgU : w.heap.size ≤ gU := Q7l X.size (Q7e egU.symm)
 have pgUhs := Q7l hs.1 (Q7e egU.symm)
 have pgUsD := Q7l sD.1 (Q7e egU.symm)
 have ngUbY := Nat.lt_of_lt_of_eq bY.lt egU.symm
 have ngUbZ := Nat.lt_of_lt_of_eq bZ.lt egU.symm
 have pgUsF := Q7l sF.1 (Q7e egU.symm)
 replace hs := hs.ext x30
 replace sD := sD.ext x30
 replace oY := oY.ext x30
 replace bY := bY.ext x30
 replace oZ := oZ.ext x30
 replace bZ := bZ.ext x30
 replace sF := sF.ext x30
 replace oU := oU.ext x30
 replace X := Q7x X x30
 refine aA rfl (bK b9 dW rfl rfl rfl rfl rfl rfl ?_)
 intro w33 bU hg32 z34
 replace hs := hs.grown hg32 (by intro g hg; injection hg; omega)
 replace sD := sD.grown hg32 (by intro g hg; injection hg; omega)
 replace oY := oY.grownB b9 hg32 ⟨by decide, by decide, by decide, by decide⟩
 replace bY := bY.grown hg32 (by intro h; injection h; omega)
 replace oZ := oZ.grownB b9 hg32 ⟨by decide, by decide, by decide, by decide⟩
 replace bZ := bZ.grown hg32 (by intro h; injection h; omega)
 replace sF := sF.grown hg32 (by intro g hg; injection hg; omega)
 replace oU := oU.grownB b9 hg32 ⟨by decide, by decide, by decide, by decide⟩
 replace X := X.grown hg32 X.size (by intro g hg; injection hg; omega)
 clear hg32 b9
 refine aA rfl (aE rfl (aB (aF (aA rfl (aC rfl (aA rfl (aT aLk rfl (aP (aIl _ _ _ yD _ sF (by omega) hyDc) ?_))))))))
 rintro _ w36 ⟨mV, rfl, eV, oV, x35⟩
 replace oV := MOwn.low oV X.size
 replace hs := hs.ext x35
 replace sD := sD.ext x35
 replace oY := oY.ext x35
 replace bY := bY.ext x35
 replace oZ := oZ.ext x35
 replace bZ := bZ.ext x35
 replace sF := sF.ext x35
 replace oU := oU.ext x35
 replace bU := bU.ext x35
 replace X := Q7x X x35
 have zV := aAO eV
 refine aA rfl (aC rfl (aA rfl (cX rfl rfl (aA rfl (cX rfl rfl (aA rfl (dT dW ?_)))))))
 intro gV w40 egV b8 x39 zgV
 have lgV : w.heap.size ≤ gV := Q7l X.size (Q7e egV.symm)
 have pgVhs := Q7l hs.1 (Q7e egV.symm)
 have pgVsD := Q7l sD.1 (Q7e egV.symm)
 have ngVbY := Nat.lt_of_lt_of_eq bY.lt egV.symm
 have ngVbZ := Nat.lt_of_lt_of_eq bZ.lt egV.symm
 have pgVsF := Q7l sF.1 (Q7e egV.symm)
 have ngVbU := Nat.lt_of_lt_of_eq bU.lt egV.symm
 replace hs := hs.ext x39
 replace sD := sD.ext x39
 replace oY := oY.ext x39
 replace bY := bY.ext x39
 replace oZ := oZ.ext x39
 replace bZ := bZ.ext x39
 replace sF := sF.ext x39
 replace oU := oU.ext x39
 replace bU := bU.ext x39
 replace oV := oV.ext x39
 replace X := Q7x X x39
 refine aA rfl (bK b8 dW rfl rfl rfl rfl rfl rfl ?_)
 intro w42 bV hg41 z43
 replace hs := hs.grown hg41 (by intro g hg; injection hg; omega)
 replace sD := sD.grown hg41 (by intro g hg; injection hg; omega)
 replace oY := oY.grownB b8 hg41 ⟨by decide, by decide, by decide, by decide⟩
 replace bY := bY.grown hg41 (by intro h; injection h; omega)
 replace oZ := oZ.grownB b8 hg41 ⟨by decide, by decide, by decide, by decide⟩
 replace bZ := bZ.grown hg41 (by intro h; injection h; omega)
 replace sF := sF.grown hg41 (by intro g hg; injection hg; omega)
 replace oU := oU.grownB b8 hg41 ⟨by decide, by decide, by decide, by decide⟩
 replace bU := bU.grown hg41 (by intro h; injection h; omega)
 replace oV := oV.grownB b8 hg41 ⟨by decide, by decide, by decide, by decide⟩
 replace X := X.grown hg41 X.size (by intro g hg; injection hg; omega)
 clear hg41 b8
 refine aA rfl (aE rfl (aB (aR (aF (aA rfl (aC rfl (aA rfl (aC rfl (aA rfl (gH rfl rfl (fun h44 => absurd h44 (by simp)) (fun h44 => aA rfl (aC rfl (aI rfl rfl rfl (dE bY dW rfl rfl (aI rfl rfl rfl (dE bZ dW rfl rfl (aI rfl rfl rfl (aT aI2 rfl (aP (zB mY mZ _ _ _ oY.med oZ.med (eZ.trans eY.symm) zY) ?_)))))))))))))))))))
 rintro _ w46 ⟨rfl, x45⟩
 replace hs := hs.ext x45
 replace sD := sD.ext x45
 replace oY := oY.ext x45
 replace bY := bY.ext x45
 replace oZ := oZ.ext x45
 replace bZ := bZ.ext x45
 replace sF := sF.ext x45
 replace oU := oU.ext x45
 replace bU := bU.ext x45
 replace oV := oV.ext x45
 replace bV := bV.ext x45
 replace X := Q7x X x45
 refine aI rfl rfl rfl (bP rfl (aA rfl (aK rfl rfl (aA rfl (aC rfl (aI rfl rfl rfl (aC rfl (aI rfl rfl rfl (aC rfl (aI rfl rfl rfl (gH rfl rfl (fun h47 => absurd h47 (by simp)) (fun h47 => aA rfl (aK rfl rfl (aA rfl (aC rfl (aI rfl rfl rfl (aC rfl (aI rfl rfl rfl (aC rfl (aI rfl rfl rfl (gH rfl rfl (fun h48 => absurd h48 (by simp)) (fun h48 => aA rfl (aK rfl rfl (aA rfl (aC rfl (aI rfl rfl rfl (aC rfl (aI rfl rfl rfl (aC rfl (aI rfl rfl rfl (gH rfl rfl (fun h49 => absurd h49 (by simp)) (fun h49 => aA rfl (aK rfl rfl (aA rfl (aC rfl (aI rfl rfl rfl (dE bU dW rfl rfl ?_)))))))))))))))))))))))))))))))))))))
 refine aI rfl rfl rfl (dE bV dW rfl rfl (aI rfl rfl rfl (aT aI2 rfl (aP (zB mU mV _ _ _ oU.med oV.med (eV.trans eU.symm) zU) ?_))))
 rintro _ w51 ⟨rfl, x50⟩
 replace hs := hs.ext x50
 replace sD := sD.ext x50
 replace oY := oY.ext x50
 replace bY := bY.ext x50
 replace oZ := oZ.ext x50
 replace bZ := bZ.ext x50
 replace sF := sF.ext x50
 replace oU := oU.ext x50
 replace bU := bU.ext x50
 replace oV := oV.ext x50
 replace bV := bV.ext x50
 replace X := Q7x X x50
 refine aI rfl rfl rfl (bP rfl (aA rfl (aK rfl rfl (aB (aM rfl (aV (aS (aR (aF (aA rfl (aC rfl (aA rfl (gH rfl rfl (fun hD => ?_) (fun hD => ?_))))))))))))))
 refine aB (aQ rfl (aF (aA rfl (aE rfl (aB (aW (bN (aL rfl rfl ?_))))))))
 · skip
   first
   | exact ⟨rfl, X⟩
   | exact ⟨congrArg Value.bool (decide_eq_true rfl), X⟩
 have hdq : tB xD = ((tB xD).1, 0) := Prod.ext rfl (by simpa using hD)
 obtain ⟨hI9, hE9, hN9⟩ := aIp hdq
 rw [← eY] at hI9 hE9 hN9
 rw [hN9]
 refine aB (aM rfl (aV (aS (aF (aA rfl (dE bY dW rfl rfl (aA rfl (aT aLd rfl (aP (aJs mY _ _ oY.med zY) ?_)))))))))
 rintro _ w53 ⟨AE, cE, rfl, oE, x52⟩
 replace oE := Own.low oE X.size
 replace hs := hs.ext x52
 replace sD := sD.ext x52
 replace oY := oY.ext x52
 replace bY := bY.ext x52
 replace oZ := oZ.ext x52
 replace bZ := bZ.ext x52
 replace sF := sF.ext x52
 replace oU := oU.ext x52
 replace bU := bU.ext x52
 replace oV := oV.ext x52
 replace bV := bV.ext x52
 replace X := Q7x X x52
 rw [hE9] at oE ⊢
 refine aA rfl (aC rfl (aA rfl (cX rfl rfl (aA rfl (cX rfl rfl (aA rfl (aE rfl (aA rfl (aE rfl (aB (aF (aA rfl (aC rfl (aA rfl (dP rfl rfl (fun h54 => aA rfl (aC rfl (aI rfl rfl rfl (aC rfl (aI rfl rfl rfl (aC rfl (aI rfl rfl rfl (aT aI0 rfl (aP (aAS _ _ _ _ _ _ _ _ (oE).sl sD (by show xD.length ≤ _; omega)) ?_))))))))) (fun h54 => absurd h54 (by simp)))))))))))))))))
 rintro _ w56 ⟨rfl, x55⟩
 replace hs := hs.ext x55
 replace sD := sD.ext x55
 replace oY := oY.ext x55
 replace bY := bY.ext x55
 replace oZ := oZ.ext x55
 replace bZ := bZ.ext x55
 replace sF := sF.ext x55
 replace oU := oU.ext x55
 replace bU := bU.ext x55
 replace oV := oV.ext x55
 replace bV := bV.ext x55
 replace oE := oE.ext x55
 replace X := Q7x X x55
 refine aA rfl (aK rfl rfl (aA rfl (aC rfl (aI rfl rfl rfl (dE bY dW rfl rfl (aI rfl rfl rfl (cV aFc rfl (uH mY _ _ oY.med zY) (fun w58 h9 x57 => ?_) (fun w58 h9 x57 => by rw [hI9] at h9; cases h9))))))))
 replace hs := hs.ext x57
 replace sD := sD.ext x57
 replace oY := oY.ext x57
 replace bY := bY.ext x57
 replace oZ := oZ.ext x57
 replace bZ := bZ.ext x57
 replace sF := sF.ext x57
 replace oU := oU.ext x57
 replace bU := bU.ext x57
 replace oV := oV.ext x57
 replace bV := bV.ext x57
 replace oE := oE.ext x57
 replace X := Q7x X x57
 refine aA rfl (aK rfl rfl (aA rfl (aC rfl (aI rfl rfl rfl (aC rfl (aI rfl rfl rfl (aG pL rfl rfl (aI rfl rfl rfl (aJ bY dB rfl rfl (aI rfl rfl rfl (jJ rfl rfl (aA rfl (aK rfl rfl (aA rfl (aE rfl (aB (aW (aL rfl rfl ?_))))))))))))))))))
 · skip
   first
   | exact ⟨rfl, X⟩
   | exact ⟨congrArg Value.bool (decide_eq_true rfl), X⟩
set_option maxRecDepth 100000
theorem fnDecoded_lifted (os : Os) (started : os.Started) (H : Type) (enc : TypeId × Value → H) :
   ReturnsInHanded {} Tryz.checked os 5 .any (fun w args => (Rows.fnDecodedSpec.pre enc Tryz.prog Tryz.f5 Rows.fnDecodedRow.domain false w args ∧ laidMetH Tryz.prog Rows.fnDecodedRow.laid w) ∧ sizedMet enc Tryz.prog Tryz.f5 (OpenSpec.ofChange Rows.fnDecodedSpec) false w args)
     (Rows.fnDecodedSpec.post enc Tryz.prog Tryz.f5 false true false false) := by
 refine returnsInHanded_of_change_and (C := Tryz.checked) (X := fun w _ => laidMetH Tryz.prog Rows.fnDecodedRow.laid w) (fun _ _ _ hh h => h.of_heap hh) law_own started (by kernel_rfl) Tryz.func5
   (ChangeSpec.witness_shaped (enc := enc) (C := Tryz.checked) (os := os) (X := fun w _ => laidMetH Tryz.prog Rows.fnDecodedRow.laid w) false (World.laidAll Tryz.prog os Rows.fnDecodedRow.laid) #[.slice none 0 0] 8 (World.laidAll_os _ _ _)
     (World.shaped_of_ZipB (by kernel_rfl) (by kernel_rfl)) (by kernel_rfl) (by kernel_rfl) (by kernel_rfl)
     (by rw [MakeChecks.laidMetH_plain _ _ _ (by kernel_rfl)]; exact laidMet_laidAll _ (by kernel_rfl) (by kernel_rfl))) ?_
 intro W pV args ds gs before hval0 hW _ _ hL _
 have hval : ∀ (j : Nat) t v, Tryz.f5.params[j]? = some t → args[j]? = some v → Value.okWide Tryz.prog W .any pV t v := hval0
 have hW' := hW
 obtain ⟨p, q, hA0, hV, rfl, hfz, hnd⟩ := hW
 have hA : DataW.TrodAll enc Tryz.prog W 0 (fun _ => true) true Tryz.f5.params.toList args.toList ds p := hA0
 rw [Tryz.params5] at hA hval
 obtain ⟨rfl, rfl⟩ := trodVars_none hV
 obtain ⟨v0, vs0, d0, ds0, p0, q0, hargs, rfl, rfl, h0, r0⟩ := trodAll_cons hA
 obtain ⟨rfl, rfl, rfl⟩ := trodAll_nil r0
 obtain rfl : args = #[v0] := by cases args; simp_all
 obtain ⟨a0, l0, k0, rfl⟩ := okWide_slice Tryz.underlying22 (hval 0 22 v0 rfl rfl)
 obtain ⟨m0, x0, t0⟩ := aIs rfl h0
 obtain ⟨Abs, bs, cbs, ebs, sbs, wbs, lbs⟩ := aIq (s := 1) Tryz.underlying22 (by kernel_rfl) tK (by omega) (fun _ _ _ h => aIr Tryz.underlying5 h) t0
 rw [ebs]
 refine Calls.mono (law_FnDecoded _ _ _ bs W sbs lbs) fun e W' h => ?_
 cases e <;> first | exact h.elim | skip
 obtain ⟨rfl, hb⟩ := h
 exact ⟨_, rfl, law_post law_laid (by kernel_rfl) rfl rfl Tryz.underlying4 (by rw [← ebs]; exact hW') rfl hb⟩
theorem fnDecoded_qa : Tryz.pinned.checked.prog.funcNamed Rows.fnDecodedRow.func = some 5 := by kernel_rfl
theorem fnDecoded_qb : joinedFacts Tryz.pinned.checked.prog 5 Tryz.f5 Rows.fnDecodedSpec Rows.fnDecodedRow = true := by kernel_rfl
theorem fnDecoded_qc : decide (Func.isInstance Tryz.pinned.checked.prog Tryz.f5 Rows.fnDecodedRow.origin Rows.fnDecodedRow.targs) = true := by kernel_rfl
theorem fnDecoded_holds : Rows.FnDecodedSaid :=
 OpenClaim.holds_of_wide 5 Tryz.f5 rfl rfl rfl rfl rfl rfl rfl ⟨rfl, rfl, rfl, rfl, rfl⟩ rfl rfl rfl rfl rfl fnDecoded_qa Tryz.func5 fnDecoded_qb
   (of_decide_eq_true fnDecoded_qc) (by unfold Func.isWrapper; rw [if_neg (of_decide_eq_false (by kernel_rfl))]; exact ⟨rfl, rfl⟩)
   (fun os started H enc _ => fnDecoded_lifted os started H enc)
theorem fnDecoded_card : Rows.FnDecodedCardSaid :=
 Claim7.holds_tied_plain_at .later [] [.data, .pinned] true (true, "9d3b8bcd3f057db7ce87d49064bbf274986517e6a2e4614acdb81aa3eaa2e189") false fnDecoded_holds (fun _ h => by cases h) (by kernel_rfl) (fun _ h => by cases h) fnDecoded_row_tie rfl ⟨rfl, rfl⟩ law_main rfl
   (fun f fn hf hfn => by
     obtain rfl : f = 5 := Option.some.inj ((show Tryz.prog.funcNamed "loop.example/g00833/laws.FnDecoded" = some 5 by kernel_rfl).symm.trans hf) |>.symm
     obtain rfl : fn = Tryz.f5 := (Option.some.inj (Tryz.func5.symm.trans hfn)).symm
     exact ⟨law_looks, fun j t ht => by
       rw [Tryz.params5] at ht
       have hm : t ∈ [22] := by simpa using Array.mem_of_getElem? ht
       have hall : ([22].all fun u => !Tryz.prog.wantsStandIn u) = true := by kernel_rfl
       exact (show Tryz.prog.wantsStandIn t = false by simpa using List.all_eq_true.1 hall t hm)⟩)
   (by kernel_rfl)
end Go.Proofs.YtdoibplhbdkapaaGreatDoor
