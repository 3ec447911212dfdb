/- Parts. No condition. -/
import Derived.Test.YtdoibplhbdkapaaGreatDoorDNP3
import Derived.Test.YtdoibplhbdkapaaGreatDoorDNP11
import Derived.Test.YtdoibplhbdkapaaGreatDoorDNP6
namespace Go.Proofs.YtdoibplhbdkapaaGreatDoor
open Go.RowKit
set_option linter.unusedVariables false
set_option linter.unusedSimpArgs false
section
variable {P : Program} {n : Nat} {fn : Func} {e : List (Nat × Value)} {w : World} {R : Value → World → Prop} {s b s' b' : Nat} {z z' cs vs cs' vs' : List Value} {g i g' i' : Nat} {T T' S S' : TypeId} {t u t' x y : Tmp} {v v1 v2 : Value}
end
set_option maxRecDepth 20000
set_option maxHeartbeats 2000000 in
theorem aFy (A : Option Addr) (B c : Nat) (bs : List UInt8) (w : World) (hs : Sl B w A (bs.flatMap eB)) (hbl : bs.length ≤ 1048576) :
   Calls Tryz.prog 12 #[.slice A bs.length c] w (fD fun v w' => ∃ (m : MedlI), v = .agg (MedlI.cells m).toArray ∧ aIj m ∧ MedF w.heap.size w'.heap.size w' m ∧ Ext w w') := by
 have Bhs := hs.1
 have X := Q7r w
 refine bI (args := [.slice A bs.length c]) Tryz.func12 Tryz.ntmps12 rfl rfl ?_
 refine aE ?_
 refine aA rfl (dO dP ?_)
 intro g2 w2 eg2 bR x1 zg2
 have lg2 : w.heap.size ≤ g2 := Q7l X.size (Q7e eg2.symm)
 have pg2hs := Q7l hs.1 (Q7e eg2.symm)
 replace hs := hs.ext x1
 replace X := Q7x X x1
 refine aB ?_
 refine aE ?_
 refine aA rfl (aC rfl ?_)
 refine aA rfl (aS aKm rfl (aO (aFb _ _ _ _ _ hs hbl) ?_))
 rintro _ w4 ⟨gS, a7, sd8, rfl, lgS0, ok, q, x3⟩
 have lgS : w.heap.size ≤ gS := Q7l X.size lgS0
 replace hs := hs.ext x3
 replace bR := bR.ext x3
 replace X := Q7x X x3
 have hB : B ≤ gS := by omega
 refine aA rfl (aD rfl ?_)
 refine aB ?_
 refine aQ ?_
 refine aE ?_
 refine aA rfl (aC rfl ?_)
 refine aA rfl (aS fC rfl (aO (dH _ _ _ _ _ _ _ _ _ q hs hB ok hbl (by omega)) ?_))
 rintro _ w10 ⟨r0, a11, sd12, rfl, hr13, ok, q, x9⟩
 replace hs := hs.grown x9 (by intro g hg; injection hg; omega)
 replace bR := bR.grown x9 (by intro h; injection h; omega)
 replace X := X.grown x9 X.size (by intro g hg; injection hg; omega)
 clear x9
 refine aA rfl (dK rfl rfl (fun h0 => ?_) (fun h0 => ?_))
 refine aB ?_
 refine aR rfl ?_
 refine aE ?_
 refine aA rfl (aN eW dZ rfl rfl rfl rfl rfl ?_)
 intro gS0 w15 egS0 oS bbgS0 x14 zgS0
 replace oS := Own.low oS X.size
 replace hs := hs.ext x14
 replace bR := bR.ext x14
 replace q := q.ext x14
 replace X := Q7x X x14
 refine aA rfl (aD rfl ?_)
 refine aB ?_
 refine aE ?_
 refine aA rfl (aN dA cY rfl rfl rfl rfl rfl ?_)
 intro g16 w18 eg16 oL bbg16 x17 zg16
 replace oL := Own.low oL X.size
 replace hs := hs.ext x17
 replace bR := bR.ext x17
 replace q := q.ext x17
 replace oS := oS.ext x17
 replace X := Q7x X x17
 replace oL := oL.to (cs' := ([7, 8] : List Int).flatMap eI) rfl
 refine aA rfl (aC rfl ?_)
 refine aA rfl (aS fC rfl (aO (dH _ _ _ _ _ _ _ _ _ q hs hB ok hbl (by omega)) ?_))
 rintro _ w20 ⟨rr, a22, sd23, rfl, hr24, ok, b21, x19⟩
 replace hs := hs.grown x19 (by intro g hg; injection hg; omega)
 replace bR := bR.grown x19 (by intro h; injection h; omega)
 replace oS := oS.grownBlk x19 (Own.neT oS q (by decide))
 replace oL := oL.grownBlk x19 (Own.neT oL q (by decide))
 replace X := X.grown x19 X.size (by intro g hg; injection hg; omega)
 clear x19 q
 obtain ⟨y, hy⟩ : ∃ y, ([7, 8] : List Int)[rr.toNat]? = some y := ⟨_, List.getElem?_eq_getElem (by simp; omega)⟩
 refine aA rfl (aT (oL).sl bL rfl dA rfl rfl rfl hy (by omega) ?_)
 refine aA rfl (cX (oL).sl bL hy cY rfl rfl rfl ?_)
 have hyb : y = 7 ∨ y = 8 := by simpa using List.mem_of_getElem? hy
 refine aA rfl (aD rfl ?_)
 refine aB ?_
 refine aQ ?_
 refine aE ?_
 refine aA rfl (aD rfl ?_)
 refine aB ?_
 refine aW ?_
 refine dD (G := Int × List SlotI × Nat × Option Addr × Nat) (fun ⟨i, yS, nS, AS, cS⟩ => [(2, .pointer (some ⟨g2, 0, none⟩)), (5, .int .i64 y), (3, .pointer (some ⟨gS, 0, none⟩)), (4, .slice AS nS cS), (6, .int .i64 i)]) (fun ⟨i, yS, nS, AS, cS⟩ wr => (0 ≤ i ∧ i ≤ y) ∧ nS = yS.length ∧ (nS : Int) = 15 * i ∧ (∃ a sd, (a ≤ bs.length ∧ 0 ≤ sd ∧ sd < 2147483647) ∧ Blk wr gS 148 (iU A c bs a sd)) ∧ Own wr w.heap.size 89 8 AS nS cS (yS.flatMap SlotI.cells) ∧ Sl B wr A (bs.flatMap eB) ∧ Blk wr g2 28 [.int .i64 0, .slice none 0 0, .slice none 0 0, .slice none 0 0] ∧ Ext w wr) (fun ⟨i, yS, nS, AS, cS⟩ => (y - i).toNat) (0, [], 0, some ⟨gS0, 0, none⟩, 0) (.cons rfl (.cons rfl (.cons rfl (.cons rfl (.cons rfl (.nil _)))))) ?_ ?_
 · exact ⟨(by omega), rfl, rfl, ⟨_, _, ok, b21⟩, oS, hs, bR, X⟩
 clear hs bR oS oL b21
 clear X
 rintro ⟨i, yS, nS, AS, cS⟩ wr ⟨hi0, hn, hni, qq, oS, hs, bR, X⟩
 obtain ⟨a, sd, ok, q⟩ := qq
 refine aQ ?_
 refine aE ?_
 refine aA rfl (aC rfl ?_)
 refine aA rfl (aC rfl ?_)
 refine aA rfl (cH rfl rfl (fun hi => ?_) (fun hi => ?_))
 refine aB ?_
 refine aR rfl ?_
 refine aU ?_
 refine aP ?_
 refine aQ ?_
 refine aW ?_
 refine aE ?_
 refine aA rfl (aD rfl ?_)
 refine aB ?_
 refine aW ?_
 refine dD (G := Int × List SlotI × Nat × Option Addr × Nat) (fun ⟨j, yS, nS, AS, cS⟩ => [(2, .pointer (some ⟨g2, 0, none⟩)), (5, .int .i64 y), (6, .int .i64 i), (21, .int .i64 i), (22, .int .i64 y), (3, .pointer (some ⟨gS, 0, none⟩)), (4, .slice AS nS cS), (7, .int .i64 j)]) (fun ⟨j, yS, nS, AS, cS⟩ wr => (0 ≤ j ∧ j ≤ 15) ∧ nS = yS.length ∧ (nS : Int) = 15 * i + j ∧ (∃ a sd, (a ≤ bs.length ∧ 0 ≤ sd ∧ sd < 2147483647) ∧ Blk wr gS 148 (iU A c bs a sd)) ∧ Own wr w.heap.size 89 8 AS nS cS (yS.flatMap SlotI.cells) ∧ Sl B wr A (bs.flatMap eB) ∧ Blk wr g2 28 [.int .i64 0, .slice none 0 0, .slice none 0 0, .slice none 0 0] ∧ Ext w wr) (fun ⟨j, yS, nS, AS, cS⟩ => (15 - j).toNat) (0, yS, nS, AS, cS) (.cons rfl (.cons rfl (.cons rfl (.cons rfl (.cons rfl (.cons rfl (.cons rfl (.cons rfl (.nil _))))))))) ?_ ?_
 · exact ⟨(by omega), hn, (by omega), ⟨_, _, ok, q⟩, oS, hs, bR, X⟩
 clear oS hs bR q
 clear X
 rintro ⟨j, yS, nS, AS, cS⟩ wr ⟨hj0, hn, hnj, qq, oS, hs, bR, X⟩
 obtain ⟨a, sd, ok, q⟩ := qq
 refine aQ ?_
 refine aE ?_
 refine aA rfl (aC rfl ?_)
 refine aA rfl (cH rfl rfl (fun hj => ?_) (fun hj => ?_))
 refine aB ?_
 refine aR rfl ?_
 refine aU ?_
 refine aP ?_
 refine aQ ?_
 refine aW ?_
 refine aM ?_
 refine aA rfl (aC rfl ?_)
 refine aA rfl (aC rfl ?_)
 refine aA rfl (aC rfl ?_)
 refine aA rfl (cO zP eV rfl rfl ?_)
 refine aA rfl (cO oF dZ rfl rfl ?_)
 refine aA rfl (aN eW dZ rfl rfl rfl rfl rfl ?_)
 intro g25 w27 eg25 oV bbg25 x26 zg25
 replace oV := Own.low oV X.size
 replace oS := oS.ext x26
 replace hs := hs.ext x26
 replace bR := bR.ext x26
 replace q := q.ext x26
 replace X := Q7x X x26
 refine aA rfl (cF (ts := #[]) oS X.size oV.sl (by first | rfl | simp) (by first | exact List.all_eq_true.1 rfl | simp [Value.oneCell']) eW dZ rfl rfl rfl rfl (by omega) (by omega) ?_)
 intro AoW coW w29 oW hg28
 replace hs := hs.grown hg28 (fun g hg => Q7l Bhs (Own.lt oS hg).1)
 replace bR := bR.grown hg28 (fun h => Own.neT oS bR (by decide) h.symm)
 replace q := q.grown hg28 (fun h => Own.neT oS q (by decide) h.symm)
 replace X := X.grown hg28 X.size (fun g hg => (Own.lt oS hg).1)
 clear hg28
 refine aA rfl (aD rfl ?_)
 refine aB ?_
 refine dJ ?_
 refine aP ?_
 refine aM ?_
 refine aA rfl (aC rfl ?_)
 refine aA rfl (aZ rfl rfl (dR (by omega)) ?_)
 refine aA rfl (aD rfl ?_)
 refine aB ?_
 refine aP ⟨(j + 1, yS ++ [⟨0, i, j, ⟨0, 1, 0, 160, false⟩⟩], nS + 1, AoW, coW), (.cons rfl (.cons rfl (.cons rfl (.cons rfl (.cons rfl (.cons rfl (.cons rfl (.cons rfl (.nil _))))))))), ?_, ?_⟩
 · exact ⟨(by omega), (by simp [hn]), (by omega), ⟨_, _, ok, q⟩, oW.to (kG SlotI.cells yS ⟨0, i, j, ⟨0, 1, 0, 160, false⟩⟩).symm, hs, bR, X⟩
 · first | omega | (dsimp only; omega)
 refine aB ?_
 refine aL rfl ?_
 refine dC ?_
 refine dB ?_
 refine dB ?_
 refine eA ?_
 refine dJ ?_
 refine aP ?_
 refine aM ?_
 refine aA rfl (aC rfl ?_)
 refine aA rfl (aZ rfl rfl (dR (by omega)) ?_)
 refine aA rfl (aD rfl ?_)
 refine aB ?_
 refine aP ⟨(i + 1, yS, nS, AS, cS), (.cons rfl (.cons rfl (.cons rfl (.cons rfl (.cons rfl (.nil _)))))), ?_, ?_⟩
 · exact ⟨(by omega), hn, (by omega), ⟨_, _, ok, q⟩, oS, hs, bR, X⟩
 · first | omega | (dsimp only; omega)
 refine aB ?_
 refine aL rfl ?_
 refine dC ?_
 refine dB ?_
 refine dB ?_
 refine eA ?_
 refine aP ?_
 refine aE ?_
 refine aA rfl (cO aDI jF rfl rfl ?_)
 refine aA rfl (aN jT jF rfl rfl rfl rfl rfl ?_)
 intro gN0 w31 egN0 oN0 bbgN0 x30 zgN0
 replace oN0 := Own.low oN0 X.size
 replace oS := oS.ext x30
 replace hs := hs.ext x30
 replace bR := bR.ext x30
 replace q := q.ext x30
 replace X := Q7x X x30
 replace oN0 := oN0.to (cs' := ([(⟨0, ⟨#[97]⟩, 0, false⟩ : NodeI)] : List NodeI).flatMap NodeI.cells) rfl
 refine aA rfl (aD rfl ?_)
 refine aB ?_
 refine aQ ?_
 refine aE ?_
 refine aA rfl (aD rfl ?_)
 refine aB ?_
 refine aW ?_
 refine dD (G := Int × List NodeI × Nat × Option Addr × Nat) (fun ⟨k, yN, nN, AN, cN⟩ => [(2, .pointer (some ⟨g2, 0, none⟩)), (4, .slice AS nS cS), (5, .int .i64 y), (3, .pointer (some ⟨gS, 0, none⟩)), (8, .slice AN nN cN), (9, .int .i64 k)]) (fun ⟨k, yN, nN, AN, cN⟩ wr => (1 ≤ k ∧ k ≤ 13) ∧ nN = yN.length ∧ (nN : Int) = k ∧ (∀ y ∈ yN, y.name.size ≤ 7) ∧ (∃ a sd, (a ≤ bs.length ∧ 0 ≤ sd ∧ sd < 2147483647) ∧ Blk wr gS 148 (iU A c bs a sd)) ∧ Own wr w.heap.size 59 4 AN nN cN (yN.flatMap NodeI.cells) ∧ Own wr w.heap.size 89 8 AS nS cS (yS.flatMap SlotI.cells) ∧ Sl B wr A (bs.flatMap eB) ∧ Blk wr g2 28 [.int .i64 0, .slice none 0 0, .slice none 0 0, .slice none 0 0] ∧ Ext w wr) (fun ⟨k, yN, nN, AN, cN⟩ => (13 - k).toNat) (1, [(⟨0, ⟨#[97]⟩, 0, false⟩ : NodeI)], 1, some ⟨gN0, 0, none⟩, 1) (.cons rfl (.cons rfl (.cons rfl (.cons rfl (.cons rfl (.cons rfl (.nil _))))))) ?_ ?_
 · exact ⟨(by omega), rfl, rfl, (fun y hy => by obtain rfl : y = (⟨0, ⟨#[97]⟩, 0, false⟩ : NodeI) := (by simpa using hy); decide), ⟨_, _, ok, q⟩, oN0, oS, hs, bR, X⟩
 clear oS hs bR q oN0
 clear X
 rintro ⟨k, yN, nN, AN, cN⟩ wr ⟨hk0, hnN, hnk, hnm, qq, oN, oS, hs, bR, X⟩
 obtain ⟨a, sd, ok, q⟩ := qq
 refine aQ ?_
 refine aE ?_
 refine aA rfl (aC rfl ?_)
 refine aA rfl (aC rfl ?_)
 refine aA rfl (aS fC rfl (aO (dH _ _ _ _ _ _ _ _ _ q hs hB ok hbl (by omega)) ?_))
 rintro _ w33 ⟨rz, a35, sd36, rfl, hr37, ok, b34, x32⟩
 replace oN := oN.grownBlk x32 (Own.neT oN q (by decide))
 replace oS := oS.grownBlk x32 (Own.neT oS q (by decide))
 replace hs := hs.grown x32 (by intro g hg; injection hg; omega)
 replace bR := bR.grown x32 (by intro h; injection h; omega)
 replace X := X.grown x32 X.size (by intro g hg; injection hg; omega)
 clear x32 q
 refine aA rfl (aZ rfl rfl (dR (by omega)) ?_)
 refine aA rfl (cH rfl rfl (fun hk => ?_) (fun hk => ?_))
 refine aB ?_
 refine aR rfl ?_
 refine aU ?_
 refine aP ?_
 refine aQ ?_
 refine aW ?_
 refine aM ?_
 refine aA rfl (aC rfl ?_)
 refine aA rfl (aC rfl ?_)
 refine aA rfl (aC rfl ?_)
 refine aA rfl (aS aGs rfl (aO (aIf _ _ (by omega)) ?_))
 rintro _ w39 ⟨rfl, x38⟩
 replace oN := oN.ext x38
 replace oS := oS.ext x38
 replace hs := hs.ext x38
 replace bR := bR.ext x38
 replace b34 := b34.ext x38
 replace X := Q7x X x38
 have hds := aA2 k
 refine aA rfl (xU rfl rfl (by show 1 + _ ≤ _; omega) ?_)
 refine aA rfl (cO aDI jF rfl rfl ?_)
 refine aA rfl (aN jT jF rfl rfl rfl rfl rfl ?_)
 intro g40 w42 eg40 oV bbg40 x41 zg40
 replace oV := Own.low oV X.size
 replace oN := oN.ext x41
 replace oS := oS.ext x41
 replace hs := hs.ext x41
 replace bR := bR.ext x41
 replace b34 := b34.ext x41
 replace X := Q7x X x41
 refine aA rfl (cF (ts := #[]) oN X.size oV.sl (by first | rfl | simp) (by first | exact List.all_eq_true.1 rfl | simp [Value.oneCell']) jT jF rfl rfl rfl rfl (by omega) (by omega) ?_)
 intro AoW coW w44 oW hg43
 replace oS := oS.grown hg43 (Own.neO oS oN (by decide))
 replace hs := hs.grown hg43 (fun g hg => Q7l Bhs (Own.lt oN hg).1)
 replace bR := bR.grown hg43 (fun h => Own.neT oN bR (by decide) h.symm)
 replace b34 := b34.grown hg43 (fun h => Own.neT oN b34 (by decide) h.symm)
 replace X := X.grown hg43 X.size (fun g hg => (Own.lt oN hg).1)
 clear hg43
 refine aA rfl (aD rfl ?_)
 refine aB ?_
 refine dJ ?_
 refine aP ?_
 refine aM ?_
 refine aA rfl (aC rfl ?_)
 refine aA rfl (aZ rfl rfl (dR (by omega)) ?_)
 refine aA rfl (aD rfl ?_)
 refine aB ?_
 refine aP ⟨(k + 1, yN ++ [⟨k, rK [110] ++ tV k, 0, true⟩], nN + 1, AoW, coW), (.cons rfl (.cons rfl (.cons rfl (.cons rfl (.cons rfl (.cons rfl (.nil _))))))), ?_, ?_⟩
 · skip
   exact ⟨(by omega), (by simp [hnN]), (by omega), (fun y hy => by
     rcases List.mem_append.1 hy with h | h
     · exact hnm y h
     · obtain rfl : y = ⟨k, rK [110] ++ tV k, 0, true⟩ := by simpa using h
       show (rK [110] ++ tV k).size ≤ 7; rw [ByteArray.size_append]; show 1 + _ ≤ 7; omega), ⟨_, _, ok, b34⟩, oW.to (kG NodeI.cells yN ⟨k, rK [110] ++ tV k, 0, true⟩).symm, oS, hs, bR, X⟩
 · first | omega | (dsimp only; omega)
 refine aB ?_
 refine aL rfl ?_
 refine dC ?_
 refine dB ?_
 refine dB ?_
 refine eA ?_
 refine aP ?_
 refine aE ?_
 refine aA rfl (aC rfl ?_)
 refine aA rfl (aC rfl ?_)
 refine aA rfl (cO aBC hH rfl rfl ?_)
 refine aA rfl (aN iA hH rfl rfl rfl rfl rfl ?_)
 intro gM w46 egM oM bbgM x45 zgM
 replace oM := Own.low oM X.size
 replace oN := oN.ext x45
 replace oS := oS.ext x45
 replace hs := hs.ext x45
 replace bR := bR.ext x45
 replace b34 := b34.ext x45
 replace X := Q7x X x45
 refine aA rfl (aC rfl ?_)
 refine aA rfl (cO qA dP rfl rfl ?_)
 refine aA rfl (aX bR dP rfl rfl rfl rfl rfl rfl ?_)
 intro w48 bZ hg47 z49
 replace oN := oN.grownBlk hg47 (Own.neT oN bR (by decide))
 replace oS := oS.grownBlk hg47 (Own.neT oS bR (by decide))
 replace hs := hs.grown hg47 (by intro g hg; injection hg; omega)
 replace b34 := b34.grown hg47 (by intro h; injection h; omega)
 replace oM := oM.grownBlk hg47 (Own.neT oM bR (by decide))
 replace X := X.grown hg47 X.size (by intro g hg; injection hg; omega)
 clear hg47 bR
 refine aB ?_
 refine aV ?_
 refine bU ?_
 refine eC rfl rfl bZ dP rfl ?_
 · skip
   subst hn; subst hnN
   exact ⟨⟨9, AN, yN, cN, some ⟨gM, 0, none⟩, [(⟨⟨y, 15, []⟩, none, 0⟩ : ModeI)], 1, AS, yS, cS⟩, rfl, ⟨⟨by show yN.length ≤ _; omega, by show 1 ≤ _; decide, fun x hx => by obtain rfl : x = (⟨⟨y, 15, []⟩, none, 0⟩ : ModeI) := (by simpa using hx); exact Nat.zero_le _, by show yS.length ≤ _; omega, fun x hx => Q7l (hnm x hx) (by decide)⟩, ⟨by show 1 ≤ 17; decide, fun x hx => by obtain rfl : x = (⟨⟨y, 15, []⟩, none, 0⟩ : ModeI) := (by simpa using hx); exact Nat.zero_le _, .inr ⟨by show yN.length ≤ 13; omega, by show 1 ≤ 2; decide⟩⟩⟩, ⟨oN.slF, oM.slF, (NOwn.snoc (lo := w.heap.size) (t := 2) (x := (⟨⟨y, 15, []⟩, none, 0⟩ : ModeI)) NOwn.nil_ (Own.nil_ _ _ _ _) (Nat.zero_le _)).slF, oS.slF, oN.cap⟩, X⟩
 refine aB ?_
 refine aL rfl ?_
 refine aU ?_
 refine aP ?_
 refine aE ?_
 refine aA rfl (aC rfl ?_)
 have pS := q.lt
 have pbR := bR.lt
 have Lhm := X.size
 refine aA rfl (aS aKn rfl (aO (aBg _ _ _ _ _ _ _ _ q hs hB ok hbl) ?_))
 rintro _ w51 ⟨m, a53, sd54, rfl, hdw, hm, ok, b52, x50⟩
 replace hs := hs.grown x50 (by intro g hg; injection hg; omega)
 replace bR := bR.grown x50 (by intro h; injection h; omega)
 replace X := X.grown x50 X.size (by intro g hg; injection hg; omega)
 clear x50 q
 refine aA rfl (aX bR dP rfl rfl rfl rfl rfl rfl ?_)
 intro w56 bZ hg55 z57
 replace hs := hs.grown hg55 (by intro g hg; injection hg; omega)
 replace b52 := b52.grown hg55 (by intro h; injection h; omega)
 replace hm := hm.grown hg55 (by omega)
 replace X := X.grown hg55 X.size (by intro g hg; injection hg; omega)
 clear hg55 bR
 refine aB ?_
 refine aV ?_
 refine eC rfl rfl bZ dP rfl ?_
 exact ⟨m, rfl, hdw, hm.up (by omega) hm.hB (Nat.le_refl _), X⟩
theorem aG9 (x : SlotI) (w : World)  :
   Calls Tryz.prog 260 #[.agg x.cells.toArray] w (fD fun v w' => v = .bool (fT x) ∧ Ext w w') := by
 have X := Q7r w
 refine bI (args := [.agg x.cells.toArray]) Tryz.func260 Tryz.ntmps260 rfl rfl ?_
 refine aE ?_
 refine aA rfl (eE rfl rfl ?_)
 intro g4 w3 eg4 b1 x2 zg4
 have lg4 : w.heap.size ≤ g4 := Q7l X.size (Q7e eg4.symm)
 replace X := Q7x X x2
 refine aA rfl (aD rfl ?_)
 refine aB ?_
 refine aE ?_
 refine aA rfl (aF gF rfl rfl ?_)
 refine aA rfl (aI b1 cY rfl rfl ?_)
 refine aA rfl (cW jW rfl (iM _ _ _ _) (fun w7 h5 x6 => ?_) (fun w7 h5 x6 => ?_))
 replace b1 := b1.ext x6
 replace X := Q7x X x6
 refine aA rfl (aC rfl ?_)
 refine aH rfl rfl rfl (aF jY rfl rfl ?_)
 refine aH rfl rfl rfl (aI b1 cY rfl rfl ?_)
 refine aH rfl rfl rfl (cW jW rfl (iM _ _ _ _) (fun w10 h8 x9 => ?_) (fun w10 h8 x9 => ?_))
 replace b1 := b1.ext x9
 replace X := Q7x X x9
 refine aA rfl (aJ rfl rfl ?_)
 refine aA rfl (aC rfl ?_)
 refine aH rfl rfl rfl (aF jO rfl rfl ?_)
 refine aH rfl rfl rfl (aI b1 cY rfl rfl ?_)
 refine aH rfl rfl rfl (cW jW rfl (iM _ _ _ _) (fun w13 h11 x12 => ?_) (fun w13 h11 x12 => ?_))
 replace b1 := b1.ext x12
 replace X := Q7x X x12
 refine aA rfl (aJ rfl rfl ?_)
 refine aA rfl (aC rfl ?_)
 refine aH rfl rfl rfl (aF fP rfl rfl ?_)
 refine aH rfl rfl rfl (bO b1 eV rfl rfl ?_)
 refine aH rfl rfl rfl (aS aJK rfl (aO (aFm _ _) ?_))
 rintro _ w15 ⟨rfl, x14⟩
 replace b1 := b1.ext x14
 replace X := Q7x X x14
 refine aA rfl (aJ rfl rfl ?_)
 refine aA rfl (aD rfl ?_)
 refine aB ?_
 refine aV ?_
 refine aK rfl rfl ?_
 · skip
   refine ⟨congrArg Value.bool ?_, X⟩
   simp [fT, *]
 replace b1 := b1.ext x12
 replace X := Q7x X x12
 refine aA rfl (aJ rfl rfl ?_)
 refine aA rfl (aC rfl ?_)
 refine aG rfl rfl rfl rfl ?_
 refine aG rfl rfl rfl rfl ?_
 refine aG rfl rfl rfl rfl ?_
 refine aA rfl (aJ rfl rfl ?_)
 refine aA rfl (aD rfl ?_)
 refine aB ?_
 refine aV ?_
 refine aK rfl rfl ?_
 · skip
   refine ⟨congrArg Value.bool ?_, X⟩
   simp [fT, *]
 replace b1 := b1.ext x9
 replace X := Q7x X x9
 refine aA rfl (aJ rfl rfl ?_)
 refine aA rfl (aC rfl ?_)
 refine aG rfl rfl rfl rfl ?_
 refine aG rfl rfl rfl rfl ?_
 refine aG rfl rfl rfl rfl ?_
 refine aA rfl (aJ rfl rfl ?_)
 refine aA rfl (aC rfl ?_)
 refine aG rfl rfl rfl rfl ?_
 refine aG rfl rfl rfl rfl ?_
 refine aG rfl rfl rfl rfl ?_
 refine aA rfl (aJ rfl rfl ?_)
 refine aA rfl (aD rfl ?_)
 refine aB ?_
 refine aV ?_
 refine aK rfl rfl ?_
 · skip
   refine ⟨congrArg Value.bool ?_, X⟩
   simp [fT, *]
 replace b1 := b1.ext x6
 replace X := Q7x X x6
 refine aA rfl (aC rfl ?_)
 refine aG rfl rfl rfl rfl ?_
 refine aG rfl rfl rfl rfl ?_
 refine aG rfl rfl rfl rfl ?_
 refine aA rfl (aJ rfl rfl ?_)
 refine aA rfl (aC rfl ?_)
 refine aG rfl rfl rfl rfl ?_
 refine aG rfl rfl rfl rfl ?_
 refine aG rfl rfl rfl rfl ?_
 refine aA rfl (aJ rfl rfl ?_)
 refine aA rfl (aC rfl ?_)
 refine aG rfl rfl rfl rfl ?_
 refine aG rfl rfl rfl rfl ?_
 refine aG rfl rfl rfl rfl ?_
 refine aA rfl (aJ rfl rfl ?_)
 refine aA rfl (aD rfl ?_)
 refine aB ?_
 refine aV ?_
 refine aK rfl rfl ?_
 · skip
   refine ⟨congrArg Value.bool ?_, X⟩
   simp [fT, *]
theorem aBh (x : SlotI) (w : World)  :
   Calls Tryz.prog 238 #[.agg x.cells.toArray] w (fD fun v w' => v = .bool (fT x) ∧ Ext w w') := by
 have X := Q7r w
 refine bI (args := [.agg x.cells.toArray]) Tryz.func238 Tryz.ntmps238 rfl rfl ?_
 refine aE ?_
 refine aA rfl (eE rfl rfl ?_)
 intro g4 w3 eg4 b1 x2 zg4
 have lg4 : w.heap.size ≤ g4 := Q7l X.size (Q7e eg4.symm)
 replace X := Q7x X x2
 refine aA rfl (aD rfl ?_)
 refine aB ?_
 refine aE ?_
 refine aA rfl (aF gF rfl rfl ?_)
 refine aA rfl (aI b1 cY rfl rfl ?_)
 refine aA rfl (cW mL rfl (jJ _ _ _ _) (fun w7 h5 x6 => ?_) (fun w7 h5 x6 => ?_))
 replace b1 := b1.ext x6
 replace X := Q7x X x6
 refine aA rfl (aC rfl ?_)
 refine aH rfl rfl rfl (aF jY rfl rfl ?_)
 refine aH rfl rfl rfl (aI b1 cY rfl rfl ?_)
 refine aH rfl rfl rfl (cW mL rfl (jJ _ _ _ _) (fun w10 h8 x9 => ?_) (fun w10 h8 x9 => ?_))
 replace b1 := b1.ext x9
 replace X := Q7x X x9
 refine aA rfl (aJ rfl rfl ?_)
 refine aA rfl (aC rfl ?_)
 refine aH rfl rfl rfl (aF jO rfl rfl ?_)
 refine aH rfl rfl rfl (aI b1 cY rfl rfl ?_)
 refine aH rfl rfl rfl (cW mL rfl (jJ _ _ _ _) (fun w13 h11 x12 => ?_) (fun w13 h11 x12 => ?_))
 replace b1 := b1.ext x12
 replace X := Q7x X x12
 refine aA rfl (aJ rfl rfl ?_)
 refine aA rfl (aC rfl ?_)
 refine aH rfl rfl rfl (aF fP rfl rfl ?_)
 refine aH rfl rfl rfl (bO b1 eV rfl rfl ?_)
 refine aH rfl rfl rfl (aS aGH rfl (aO (aA8 _ _) ?_))
 rintro _ w15 ⟨rfl, x14⟩
 replace b1 := b1.ext x14
 replace X := Q7x X x14
 refine aA rfl (aJ rfl rfl ?_)
 refine aA rfl (aD rfl ?_)
 refine aB ?_
 refine aV ?_
 refine aK rfl rfl ?_
 · skip
   refine ⟨congrArg Value.bool ?_, X⟩
   simp [fT, *]
 replace b1 := b1.ext x12
 replace X := Q7x X x12
 refine aA rfl (aJ rfl rfl ?_)
 refine aA rfl (aC rfl ?_)
 refine aG rfl rfl rfl rfl ?_
 refine aG rfl rfl rfl rfl ?_
 refine aG rfl rfl rfl rfl ?_
 refine aA rfl (aJ rfl rfl ?_)
 refine aA rfl (aD rfl ?_)
 refine aB ?_
 refine aV ?_
 refine aK rfl rfl ?_
 · skip
   refine ⟨congrArg Value.bool ?_, X⟩
   simp [fT, *]
 replace b1 := b1.ext x9
 replace X := Q7x X x9
 refine aA rfl (aJ rfl rfl ?_)
 refine aA rfl (aC rfl ?_)
 refine aG rfl rfl rfl rfl ?_
 refine aG rfl rfl rfl rfl ?_
 refine aG rfl rfl rfl rfl ?_
 refine aA rfl (aJ rfl rfl ?_)
 refine aA rfl (aC rfl ?_)
 refine aG rfl rfl rfl rfl ?_
 refine aG rfl rfl rfl rfl ?_
 refine aG rfl rfl rfl rfl ?_
 refine aA rfl (aJ rfl rfl ?_)
 refine aA rfl (aD rfl ?_)
 refine aB ?_
 refine aV ?_
 refine aK rfl rfl ?_
 · skip
   refine ⟨congrArg Value.bool ?_, X⟩
   simp [fT, *]
 replace b1 := b1.ext x6
 replace X := Q7x X x6
 refine aA rfl (aC rfl ?_)
 refine aG rfl rfl rfl rfl ?_
 refine aG rfl rfl rfl rfl ?_
 refine aG rfl rfl rfl rfl ?_
 refine aA rfl (aJ rfl rfl ?_)
 refine aA rfl (aC rfl ?_)
 refine aG rfl rfl rfl rfl ?_
 refine aG rfl rfl rfl rfl ?_
 refine aG rfl rfl rfl rfl ?_
 refine aA rfl (aJ rfl rfl ?_)
 refine aA rfl (aC rfl ?_)
 refine aG rfl rfl rfl rfl ?_
 refine aG rfl rfl rfl rfl ?_
 refine aG rfl rfl rfl rfl ?_
 refine aA rfl (aJ rfl rfl ?_)
 refine aA rfl (aD rfl ?_)
 refine aB ?_
 refine aV ?_
 refine aK rfl rfl ?_
 · skip
   refine ⟨congrArg Value.bool ?_, X⟩
   simp [fT, *]
theorem vH (a b : Int) (w : World)  :
   Calls Tryz.prog 265 #[.int .i64 a, .int .i64 b] w (fD fun v w' => v = .int .i64 (tP a b) ∧ Ext w w') := by
 have X := Q7r w
 refine bI (args := [.int .i64 a, .int .i64 b]) Tryz.func265 Tryz.ntmps265 rfl rfl ?_
 refine aE ?_
 refine aA rfl (aD rfl ?_)
 refine aB ?_
 refine aQ ?_
 refine aW ?_
 refine aE ?_
 refine aA rfl (aC rfl ?_)
 refine aA rfl (aC rfl ?_)
 refine aA rfl (cH rfl rfl (fun h1 => ?_) (fun h1 => ?_))
 refine aA rfl (aD rfl ?_)
 refine aB ?_
 refine aR rfl ?_
 refine aE ?_
 refine aA rfl (aD rfl ?_)
 refine aB ?_
 refine aV ?_
 refine dN ?_
 refine bU ?_
 refine aK rfl rfl ?_
 exact ⟨by simp [tP, *] <;> omega, X⟩
 refine aA rfl (aD rfl ?_)
 refine aB ?_
 refine aL rfl ?_
 refine aE ?_
 refine aA rfl (aC rfl ?_)
 refine aA rfl (aC rfl ?_)
 refine aA rfl (fX rfl rfl (fun h2 => ?_) (fun h2 => ?_))
 refine aA rfl (aD rfl ?_)
 refine aB ?_
 refine aR rfl ?_
 refine aE ?_
 refine aA rfl (aD rfl ?_)
 refine aB ?_
 refine aV ?_
 refine dN ?_
 refine bU ?_
 refine aK rfl rfl ?_
 exact ⟨by simp [tP, *] <;> omega, X⟩
 refine aA rfl (aD rfl ?_)
 refine aB ?_
 refine aL rfl ?_
 refine aU ?_
 refine dJ ?_
 refine aP ?_
 refine aE ?_
 refine aA rfl (aD rfl ?_)
 refine aB ?_
 refine aV ?_
 refine aK rfl rfl ?_
 exact ⟨by simp [tP, *] <;> omega, X⟩
theorem rH (a b : SlotI) (w : World)  :
   Calls Tryz.prog 239 #[.agg a.cells.toArray, .agg b.cells.toArray] w (fD fun v w' => v = .int .i64 (qC a b) ∧ Ext w w') := by
 have X := Q7r w
 refine bI (args := [.agg a.cells.toArray, .agg b.cells.toArray]) Tryz.func239 Tryz.ntmps239 rfl rfl ?_
 refine aE ?_
 refine aA rfl (eE rfl rfl ?_)
 intro g4 w3 eg4 b1 x2 zg4
 have lg4 : w.heap.size ≤ g4 := Q7l X.size (Q7e eg4.symm)
 replace X := Q7x X x2
 refine aA rfl (eE rfl rfl ?_)
 intro g8 w7 eg8 b5 x6 zg8
 have lg8 : w.heap.size ≤ g8 := Q7l X.size (Q7e eg8.symm)
 have ng8b1 := Nat.lt_of_lt_of_eq b1.lt eg8.symm
 replace b1 := b1.ext x6
 replace X := Q7x X x6
 refine aA rfl (aD rfl ?_)
 refine aB ?_
 refine aQ ?_
 refine aE ?_
 refine aA rfl (aF gF rfl rfl ?_)
 refine aA rfl (aI b1 cY rfl rfl ?_)
 refine aA rfl (aF gF rfl rfl ?_)
 refine aA rfl (aI b5 cY rfl rfl ?_)
 refine aA rfl (hP rfl rfl (fun h9 => ?_) (fun h9 => ?_))
 refine aB ?_
 refine aR rfl ?_
 refine aE ?_
 refine aA rfl (aF gF rfl rfl ?_)
 refine aA rfl (aI b1 cY rfl rfl ?_)
 refine aA rfl (aF gF rfl rfl ?_)
 refine aA rfl (aI b5 cY rfl rfl ?_)
 refine aA rfl (aS aDQ rfl (aO (vH _ _ _) ?_))
 rintro _ w11 ⟨rfl, x10⟩
 replace b1 := b1.ext x10
 replace b5 := b5.ext x10
 replace X := Q7x X x10
 refine aA rfl (aD rfl ?_)
 refine aB ?_
 refine aV ?_
 refine bU ?_
 refine aK rfl rfl ?_
 exact ⟨by simp [qC, *], X⟩
 refine aB ?_
 refine aL rfl ?_
 refine aU ?_
 refine aP ?_
 refine aQ ?_
 refine aE ?_
 refine aA rfl (aF jY rfl rfl ?_)
 refine aA rfl (aI b1 cY rfl rfl ?_)
 refine aA rfl (aF jY rfl rfl ?_)
 refine aA rfl (aI b5 cY rfl rfl ?_)
 refine aA rfl (hP rfl rfl (fun h12 => ?_) (fun h12 => ?_))
 refine aB ?_
 refine aR rfl ?_
 refine aE ?_
 refine aA rfl (aF jY rfl rfl ?_)
 refine aA rfl (aI b1 cY rfl rfl ?_)
 refine aA rfl (aF jY rfl rfl ?_)
 refine aA rfl (aI b5 cY rfl rfl ?_)
 refine aA rfl (aS aDQ rfl (aO (vH _ _ _) ?_))
 rintro _ w14 ⟨rfl, x13⟩
 replace b1 := b1.ext x13
 replace b5 := b5.ext x13
 replace X := Q7x X x13
 refine aA rfl (aD rfl ?_)
 refine aB ?_
 refine aV ?_
 refine bU ?_
 refine aK rfl rfl ?_
 exact ⟨by simp [qC, *], X⟩
 refine aB ?_
 refine aL rfl ?_
 refine aU ?_
 refine aP ?_
 refine aE ?_
 refine aA rfl (aF jO rfl rfl ?_)
 refine aA rfl (aI b1 cY rfl rfl ?_)
 refine aA rfl (aF jO rfl rfl ?_)
 refine aA rfl (aI b5 cY rfl rfl ?_)
 refine aA rfl (aS aDQ rfl (aO (vH _ _ _) ?_))
 rintro _ w16 ⟨rfl, x15⟩
 replace b1 := b1.ext x15
 replace b5 := b5.ext x15
 replace X := Q7x X x15
 refine aA rfl (aD rfl ?_)
 refine aB ?_
 refine aV ?_
 refine aK rfl rfl ?_
 exact ⟨by simp [qC, *], X⟩
theorem xH (a b : SlotI) (w : World)  :
   Calls Tryz.prog 261 #[.agg a.cells.toArray, .agg b.cells.toArray] w (fD fun v w' => v = .int .i64 (qC a b) ∧ Ext w w') := by
 have X := Q7r w
 refine bI (args := [.agg a.cells.toArray, .agg b.cells.toArray]) Tryz.func261 Tryz.ntmps261 rfl rfl ?_
 refine aE ?_
 refine aA rfl (eE rfl rfl ?_)
 intro g4 w3 eg4 b1 x2 zg4
 have lg4 : w.heap.size ≤ g4 := Q7l X.size (Q7e eg4.symm)
 replace X := Q7x X x2
 refine aA rfl (eE rfl rfl ?_)
 intro g8 w7 eg8 b5 x6 zg8
 have lg8 : w.heap.size ≤ g8 := Q7l X.size (Q7e eg8.symm)
 have ng8b1 := Nat.lt_of_lt_of_eq b1.lt eg8.symm
 replace b1 := b1.ext x6
 replace X := Q7x X x6
 refine aA rfl (aD rfl ?_)
 refine aB ?_
 refine aIi 16 mixed (by kernel_rfl) ?_
 refine jC 0 _ rfl (by kernel_rfl) rfl (by kernel_rfl) (listed' := #[true, false, false, false, false, false, false, false, false, false, false, false, false, false, false, false]) rfl (Up.ext _) (fun wq sq => aF gF rfl rfl ⟨rfl, Q7r _⟩) ?_
 refine jC 1 _ rfl (by kernel_rfl) rfl (by kernel_rfl) (listed' := #[true, true, false, false, false, false, false, false, false, false, false, false, false, false, false, false]) rfl (Up.ext _) (fun wq sq => aI (b1.ext sq) cY rfl rfl ⟨rfl, Q7r _⟩) ?_
 refine jC 2 _ rfl (by kernel_rfl) rfl (by kernel_rfl) (listed' := #[true, true, true, false, false, false, false, false, false, false, false, false, false, false, false, false]) rfl (Up.ext _) (fun wq sq => aF jY rfl rfl ⟨rfl, Q7r _⟩) ?_
 refine jC 3 _ rfl (by kernel_rfl) rfl (by kernel_rfl) (listed' := #[true, true, true, true, false, false, false, false, false, false, false, false, false, false, false, false]) rfl (Up.ext _) (fun wq sq => aI (b1.ext sq) cY rfl rfl ⟨rfl, Q7r _⟩) ?_
 refine jC 4 _ rfl (by kernel_rfl) rfl (by kernel_rfl) (listed' := #[true, true, true, true, true, false, false, false, false, false, false, false, false, false, false, false]) rfl (Up.ext _) (fun wq sq => aF jO rfl rfl ⟨rfl, Q7r _⟩) ?_
 refine jC 5 _ rfl (by kernel_rfl) rfl (by kernel_rfl) (listed' := #[true, true, true, true, true, true, false, false, false, false, false, false, false, false, false, false]) rfl (Up.ext _) (fun wq sq => aI (b1.ext sq) cY rfl rfl ⟨rfl, Q7r _⟩) ?_
 refine jC 7 _ rfl (by kernel_rfl) rfl (by kernel_rfl) (listed' := #[true, true, true, true, true, true, false, true, false, false, false, false, false, false, false, false]) rfl (Up.ext _) (fun wq sq => aF gF rfl rfl ⟨rfl, Q7r _⟩) ?_
 refine jC 8 _ rfl (by kernel_rfl) rfl (by kernel_rfl) (listed' := #[true, true, true, true, true, true, false, true, true, false, false, false, false, false, false, false]) rfl (Up.ext _) (fun wq sq => aI (b5.ext sq) cY rfl rfl ⟨rfl, Q7r _⟩) ?_
 refine jC 9 _ rfl (by kernel_rfl) rfl (by kernel_rfl) (listed' := #[true, true, true, true, true, true, false, true, true, true, false, false, false, false, false, false]) rfl (Up.ext _) (fun wq sq => aF jY rfl rfl ⟨rfl, Q7r _⟩) ?_
 refine jC 10 _ rfl (by kernel_rfl) rfl (by kernel_rfl) (listed' := #[true, true, true, true, true, true, false, true, true, true, true, false, false, false, false, false]) rfl (Up.ext _) (fun wq sq => aI (b5.ext sq) cY rfl rfl ⟨rfl, Q7r _⟩) ?_
 refine jC 11 _ rfl (by kernel_rfl) rfl (by kernel_rfl) (listed' := #[true, true, true, true, true, true, false, true, true, true, true, true, false, false, false, false]) rfl (Up.ext _) (fun wq sq => aF jO rfl rfl ⟨rfl, Q7r _⟩) ?_
 refine jC 12 _ rfl (by kernel_rfl) rfl (by kernel_rfl) (listed' := #[true, true, true, true, true, true, false, true, true, true, true, true, true, false, false, false]) rfl (Up.ext _) (fun wq sq => aI (b5.ext sq) cY rfl rfl ⟨rfl, Q7r _⟩) ?_
 refine aIh 6 13 (fun gA : Nat => Value.slice (some ⟨gA, 0, none⟩) 3 3) (fun gA wz => Own wz w.heap.size 2 1 (some ⟨gA, 0, none⟩) 3 3 ([a.mode, a.round, a.slot].flatMap eI)) 0 (fun gB : Nat => Value.slice (some ⟨gB, 0, none⟩) 3 3) (fun gB wz => Own wz w.heap.size 2 1 (some ⟨gB, 0, none⟩) 3 3 ([b.mode, b.round, b.slot].flatMap eI)) 0 rfl rfl rfl rfl (by kernel_rfl) (listed' := #[true, true, true, true, true, true, true, true, true, true, true, true, true, false, false, false]) (listed'' := #[true, true, true, true, true, true, false, true, true, true, true, true, true, true, false, false]) rfl rfl ⟨lT, fun _ _ _ h k => h.ext k, fun wq sq => aN dA cY rfl rfl rfl rfl rfl (fun g w' hg ho hb hx hz => ⟨g, rfl, Own.low ho (Q7l X.size (sq).size), hx⟩)⟩ ⟨lT, fun _ _ _ h k => h.ext k, fun wq sq => aN dA cY rfl rfl rfl rfl rfl (fun g w' hg ho hb hx hz => ⟨g, rfl, Own.low ho (Q7l X.size (sq).size), hx⟩)⟩ ?_ ?_
 intro gA
 refine jC 14 _ rfl (by kernel_rfl) rfl (by kernel_rfl) (listed' := #[true, true, true, true, true, true, true, true, true, true, true, true, true, false, true, false]) rfl (Up.and (Up.ext _) (fun _ _ h k => h.ext k)) (fun wq sq => aD rfl ⟨rfl, Q7r _⟩) ?_
 refine aHR 13 (fun gB : Nat => Value.slice (some ⟨gB, 0, none⟩) 3 3) (fun gB wz => Own wz w.heap.size 2 1 (some ⟨gB, 0, none⟩) 3 3 ([b.mode, b.round, b.slot].flatMap eI)) 0 rfl rfl (by kernel_rfl) (listed' := #[true, true, true, true, true, true, true, true, true, true, true, true, true, true, true, false]) rfl ⟨lT, fun _ _ _ h k => h.ext k, fun wq sq => aN dA cY rfl rfl rfl rfl rfl (fun g w' hg ho hb hx hz => ⟨g, rfl, Own.low ho (Q7l X.size (sq.1).size), hx⟩)⟩ ?_
 intro gB
 refine jC 15 _ rfl (by kernel_rfl) rfl (by kernel_rfl) (listed' := #[true, true, true, true, true, true, true, true, true, true, true, true, true, true, true, true]) rfl (Up.and (Up.and (Up.ext _) (fun _ _ h k => h.ext k)) (fun _ _ h k => h.ext k)) (fun wq sq => aD rfl ⟨rfl, Q7r _⟩) ?_
 refine aBb rfl (fun w9 sq a10 f11 => ⟨_, f11, ?_⟩)
 have xq := sq.1.1
 have oA := sq.1.2
 have oB := sq.2
 replace b1 := b1.ext xq
 replace b5 := b5.ext xq
 replace X := Q7x X xq; clear xq sq
 refine aB ?_
 refine aQ ?_
 refine aE ?_
 refine aA rfl (aD rfl ?_)
 refine aB ?_
 refine aW ?_
 refine dD (G := Nat) (fun k => [(5, .slice (some ⟨gA, 0, none⟩) 3 3), (6, .slice (some ⟨gB, 0, none⟩) 3 3), (7, .int .i64 (k : Nat))]) (fun k wr => k ≤ 3 ∧ (∀ i, i < k → [a.mode, a.round, a.slot][i]? = [b.mode, b.round, b.slot][i]?) ∧ Own wr w.heap.size 2 1 (some ⟨gA, 0, none⟩) 3 3 ([a.mode, a.round, a.slot].flatMap eI) ∧ Own wr w.heap.size 2 1 (some ⟨gB, 0, none⟩) 3 3 ([b.mode, b.round, b.slot].flatMap eI) ∧ Ext w wr) (fun k => 3 - k) 0 (.cons rfl (.cons rfl (.cons rfl (.nil _)))) ?_ ?_
 · exact ⟨by omega, fun i hi => by omega, oA, oB, X⟩
 clear oA oB
 clear X
 rintro k wr ⟨hk, hi, oA, oB, X⟩
 refine aQ ?_
 refine aE ?_
 refine aA rfl (aC rfl ?_)
 refine aA rfl (cH rfl rfl (fun h12 => ?_) (fun h12 => ?_))
 obtain ⟨x, hx⟩ : ∃ x, [a.mode, a.round, a.slot][k]? = some x := ⟨_, List.getElem?_eq_getElem (by simp; omega)⟩
 obtain ⟨y, hy⟩ : ∃ y, [b.mode, b.round, b.slot][k]? = some y := ⟨_, List.getElem?_eq_getElem (by simp; omega)⟩
 refine aB ?_
 refine aR rfl ?_
 refine aU ?_
 refine aP ?_
 refine aQ ?_
 refine aW ?_
 refine aQ ?_
 refine eO [false, false, false, false, false, false, false, false, false] mixed (by kernel_rfl) ?_
 refine cE rfl (fun wq sq => aC rfl ⟨rfl, Q7r _⟩) ?_
 refine cE rfl (fun wq sq => aC rfl ⟨rfl, Q7r _⟩) ?_
 refine cE rfl (fun wq sq => aT ((oA.ext sq)).sl bL rfl dA rfl rfl rfl hx rfl ⟨rfl, Q7r _⟩) ?_
 refine cE rfl (fun wq sq => cX ((oA.ext sq)).sl bL hx cY rfl rfl rfl ⟨rfl, Q7r _⟩) ?_
 refine cE rfl (fun wq sq => aC rfl ⟨rfl, Q7r _⟩) ?_
 refine cE rfl (fun wq sq => aC rfl ⟨rfl, Q7r _⟩) ?_
 refine cE rfl (fun wq sq => aT ((oB.ext sq)).sl bL rfl dA rfl rfl rfl hy rfl ⟨rfl, Q7r _⟩) ?_
 refine cE rfl (fun wq sq => cX ((oB.ext sq)).sl bL hy cY rfl rfl rfl ⟨rfl, Q7r _⟩) ?_
 refine uR rfl (fun wq sq => rW rfl rfl ⟨rfl, Q7r _⟩) (fun h13 => ?_) (fun h13 => ?_)
 refine dW (fun w14 sq => ?_)
 have xq := sq
 replace oA := oA.ext xq
 replace oB := oB.ext xq
 replace X := Q7x X xq; clear xq sq
 refine aB ?_
 refine aR rfl ?_
 refine aE ?_
 refine aA rfl (aD rfl ?_)
 refine aB ?_
 refine aV ?_
 refine bU ?_
 refine dN ?_
 refine bU ?_
 refine bU ?_
 refine dN ?_
 refine bU ?_
 refine aK rfl rfl ?_
 · skip
   refine ⟨congrArg (Value.int .i64) ?_, X⟩
   first | exact tA hi hx hy ‹_› | exact tB hi hx hy ‹_› | exact sZ hi (by omega)
 refine dW (fun w15 sq => ?_)
 have xq := sq
 replace oA := oA.ext xq
 replace oB := oB.ext xq
 replace X := Q7x X xq; clear xq sq
 refine aB ?_
 refine aL rfl ?_
 refine aU ?_
 refine aP ?_
 refine eO [false, false, false, false, false, false, false, false, false] mixed (by kernel_rfl) ?_
 refine cE rfl (fun wq sq => aC rfl ⟨rfl, Q7r _⟩) ?_
 refine cE rfl (fun wq sq => aC rfl ⟨rfl, Q7r _⟩) ?_
 refine cE rfl (fun wq sq => aT ((oA.ext sq)).sl bL rfl dA rfl rfl rfl hx rfl ⟨rfl, Q7r _⟩) ?_
 refine cE rfl (fun wq sq => cX ((oA.ext sq)).sl bL hx cY rfl rfl rfl ⟨rfl, Q7r _⟩) ?_
 refine cE rfl (fun wq sq => aC rfl ⟨rfl, Q7r _⟩) ?_
 refine cE rfl (fun wq sq => aC rfl ⟨rfl, Q7r _⟩) ?_
 refine cE rfl (fun wq sq => aT ((oB.ext sq)).sl bL rfl dA rfl rfl rfl hy rfl ⟨rfl, Q7r _⟩) ?_
 refine cE rfl (fun wq sq => cX ((oB.ext sq)).sl bL hy cY rfl rfl rfl ⟨rfl, Q7r _⟩) ?_
 refine uR rfl (fun wq sq => qR rfl rfl ⟨rfl, Q7r _⟩) (fun h16 => ?_) (fun h16 => ?_)
 refine dW (fun w17 sq => ?_)
 have xq := sq
 replace oA := oA.ext xq
 replace oB := oB.ext xq
 replace X := Q7x X xq; clear xq sq
 refine aB ?_
 refine aR rfl ?_
 refine aE ?_
 refine aA rfl (aD rfl ?_)
 refine aB ?_
 refine aV ?_
 refine dN ?_
 refine bU ?_
 refine bU ?_
 refine dN ?_
 refine bU ?_
 refine aK rfl rfl ?_
 · skip
   refine ⟨congrArg (Value.int .i64) ?_, X⟩
   first | exact tA hi hx hy ‹_› | exact tB hi hx hy ‹_› | exact sZ hi (by omega)
 refine dW (fun w18 sq => ?_)
 have xq := sq
 replace oA := oA.ext xq
 replace oB := oB.ext xq
 replace X := Q7x X xq; clear xq sq
 refine aB ?_
 refine aL rfl ?_
 refine aU ?_
 refine dJ ?_
 refine aP ?_
 refine aM ?_
 refine aA rfl (aC rfl ?_)
 refine aA rfl (aZ rfl rfl (dR (by omega)) ?_)
 refine aA rfl (aD rfl ?_)
 refine aB ?_
 refine aP ⟨k + 1, (.cons rfl (.cons rfl (.cons rfl (.nil _)))), ?_, ?_⟩
 · skip
   exact ⟨by omega, fun i hik => by
     by_cases e : i = k
     · subst e; rw [hx, hy]; congr 1; omega
     · exact hi i (by omega), oA, oB, X⟩
 · omega
 refine aB ?_
 refine aL rfl ?_
 refine dC ?_
 refine dB ?_
 refine dB ?_
 refine eA ?_
 refine aP ?_
 refine aE ?_
 refine aA rfl (aD rfl ?_)
 refine aB ?_
 refine aV ?_
 refine aK rfl rfl ?_
 · skip
   refine ⟨congrArg (Value.int .i64) ?_, X⟩
   first | exact tA hi hx hy ‹_› | exact tB hi hx hy ‹_› | exact sZ hi (by omega)
 intro gB
 refine aHR 6 (fun gA : Nat => Value.slice (some ⟨gA, 0, none⟩) 3 3) (fun gA wz => Own wz w.heap.size 2 1 (some ⟨gA, 0, none⟩) 3 3 ([a.mode, a.round, a.slot].flatMap eI)) 0 rfl rfl (by kernel_rfl) (listed' := #[true, true, true, true, true, true, true, true, true, true, true, true, true, true, false, false]) rfl ⟨lT, fun _ _ _ h k => h.ext k, fun wq sq => aN dA cY rfl rfl rfl rfl rfl (fun g w' hg ho hb hx hz => ⟨g, rfl, Own.low ho (Q7l X.size (sq.1).size), hx⟩)⟩ ?_
 intro gA
 refine jC 14 _ rfl (by kernel_rfl) rfl (by kernel_rfl) (listed' := #[true, true, true, true, true, true, true, true, true, true, true, true, true, true, true, false]) rfl (Up.and (Up.and (Up.ext _) (fun _ _ h k => h.ext k)) (fun _ _ h k => h.ext k)) (fun wq sq => aD rfl ⟨rfl, Q7r _⟩) ?_
 refine jC 15 _ rfl (by kernel_rfl) rfl (by kernel_rfl) (listed' := #[true, true, true, true, true, true, true, true, true, true, true, true, true, true, true, true]) rfl (Up.and (Up.and (Up.ext _) (fun _ _ h k => h.ext k)) (fun _ _ h k => h.ext k)) (fun wq sq => aD rfl ⟨rfl, Q7r _⟩) ?_
 refine aBb rfl (fun w19 sq a20 f21 => ⟨_, f21, ?_⟩)
 have xq := sq.1.1
 have oB := sq.1.2
 have oA := sq.2
 replace b1 := b1.ext xq
 replace b5 := b5.ext xq
 replace X := Q7x X xq; clear xq sq
 refine aB ?_
 refine aQ ?_
 refine aE ?_
 refine aA rfl (aD rfl ?_)
 refine aB ?_
 refine aW ?_
 refine dD (G := Nat) (fun k => [(5, .slice (some ⟨gA, 0, none⟩) 3 3), (6, .slice (some ⟨gB, 0, none⟩) 3 3), (7, .int .i64 (k : Nat))]) (fun k wr => k ≤ 3 ∧ (∀ i, i < k → [a.mode, a.round, a.slot][i]? = [b.mode, b.round, b.slot][i]?) ∧ Own wr w.heap.size 2 1 (some ⟨gA, 0, none⟩) 3 3 ([a.mode, a.round, a.slot].flatMap eI) ∧ Own wr w.heap.size 2 1 (some ⟨gB, 0, none⟩) 3 3 ([b.mode, b.round, b.slot].flatMap eI) ∧ Ext w wr) (fun k => 3 - k) 0 (.cons rfl (.cons rfl (.cons rfl (.nil _)))) ?_ ?_
 · exact ⟨by omega, fun i hi => by omega, oA, oB, X⟩
 clear oA oB
 clear X
 rintro k wr ⟨hk, hi, oA, oB, X⟩
 refine aQ ?_
 refine aE ?_
 refine aA rfl (aC rfl ?_)
 refine aA rfl (cH rfl rfl (fun h22 => ?_) (fun h22 => ?_))
 obtain ⟨x, hx⟩ : ∃ x, [a.mode, a.round, a.slot][k]? = some x := ⟨_, List.getElem?_eq_getElem (by simp; omega)⟩
 obtain ⟨y, hy⟩ : ∃ y, [b.mode, b.round, b.slot][k]? = some y := ⟨_, List.getElem?_eq_getElem (by simp; omega)⟩
 refine aB ?_
 refine aR rfl ?_
 refine aU ?_
 refine aP ?_
 refine aQ ?_
 refine aW ?_
 refine aQ ?_
 refine eO [false, false, false, false, false, false, false, false, false] mixed (by kernel_rfl) ?_
 refine cE rfl (fun wq sq => aC rfl ⟨rfl, Q7r _⟩) ?_
 refine cE rfl (fun wq sq => aC rfl ⟨rfl, Q7r _⟩) ?_
 refine cE rfl (fun wq sq => aT ((oA.ext sq)).sl bL rfl dA rfl rfl rfl hx rfl ⟨rfl, Q7r _⟩) ?_
 refine cE rfl (fun wq sq => cX ((oA.ext sq)).sl bL hx cY rfl rfl rfl ⟨rfl, Q7r _⟩) ?_
 refine cE rfl (fun wq sq => aC rfl ⟨rfl, Q7r _⟩) ?_
 refine cE rfl (fun wq sq => aC rfl ⟨rfl, Q7r _⟩) ?_
 refine cE rfl (fun wq sq => aT ((oB.ext sq)).sl bL rfl dA rfl rfl rfl hy rfl ⟨rfl, Q7r _⟩) ?_
 refine cE rfl (fun wq sq => cX ((oB.ext sq)).sl bL hy cY rfl rfl rfl ⟨rfl, Q7r _⟩) ?_
 refine uR rfl (fun wq sq => rW rfl rfl ⟨rfl, Q7r _⟩) (fun h23 => ?_) (fun h23 => ?_)
 refine dW (fun w24 sq => ?_)
 have xq := sq
 replace oA := oA.ext xq
 replace oB := oB.ext xq
 replace X := Q7x X xq; clear xq sq
 refine aB ?_
 refine aR rfl ?_
 refine aE ?_
 refine aA rfl (aD rfl ?_)
 refine aB ?_
 refine aV ?_
 refine bU ?_
 refine dN ?_
 refine bU ?_
 refine bU ?_
 refine dN ?_
 refine bU ?_
 refine aK rfl rfl ?_
 · skip
   refine ⟨congrArg (Value.int .i64) ?_, X⟩
   first | exact tA hi hx hy ‹_› | exact tB hi hx hy ‹_› | exact sZ hi (by omega)
 refine dW (fun w25 sq => ?_)
 have xq := sq
 replace oA := oA.ext xq
 replace oB := oB.ext xq
 replace X := Q7x X xq; clear xq sq
 refine aB ?_
 refine aL rfl ?_
 refine aU ?_
 refine aP ?_
 refine eO [false, false, false, false, false, false, false, false, false] mixed (by kernel_rfl) ?_
 refine cE rfl (fun wq sq => aC rfl ⟨rfl, Q7r _⟩) ?_
 refine cE rfl (fun wq sq => aC rfl ⟨rfl, Q7r _⟩) ?_
 refine cE rfl (fun wq sq => aT ((oA.ext sq)).sl bL rfl dA rfl rfl rfl hx rfl ⟨rfl, Q7r _⟩) ?_
 refine cE rfl (fun wq sq => cX ((oA.ext sq)).sl bL hx cY rfl rfl rfl ⟨rfl, Q7r _⟩) ?_
 refine cE rfl (fun wq sq => aC rfl ⟨rfl, Q7r _⟩) ?_
 refine cE rfl (fun wq sq => aC rfl ⟨rfl, Q7r _⟩) ?_
 refine cE rfl (fun wq sq => aT ((oB.ext sq)).sl bL rfl dA rfl rfl rfl hy rfl ⟨rfl, Q7r _⟩) ?_
 refine cE rfl (fun wq sq => cX ((oB.ext sq)).sl bL hy cY rfl rfl rfl ⟨rfl, Q7r _⟩) ?_
 refine uR rfl (fun wq sq => qR rfl rfl ⟨rfl, Q7r _⟩) (fun h26 => ?_) (fun h26 => ?_)
 refine dW (fun w27 sq => ?_)
 have xq := sq
 replace oA := oA.ext xq
 replace oB := oB.ext xq
 replace X := Q7x X xq; clear xq sq
 refine aB ?_
 refine aR rfl ?_
 refine aE ?_
 refine aA rfl (aD rfl ?_)
 refine aB ?_
 refine aV ?_
 refine dN ?_
 refine bU ?_
 refine bU ?_
 refine dN ?_
 refine bU ?_
 refine aK rfl rfl ?_
 · skip
   refine ⟨congrArg (Value.int .i64) ?_, X⟩
   first | exact tA hi hx hy ‹_› | exact tB hi hx hy ‹_› | exact sZ hi (by omega)
 refine dW (fun w28 sq => ?_)
 have xq := sq
 replace oA := oA.ext xq
 replace oB := oB.ext xq
 replace X := Q7x X xq; clear xq sq
 refine aB ?_
 refine aL rfl ?_
 refine aU ?_
 refine dJ ?_
 refine aP ?_
 refine aM ?_
 refine aA rfl (aC rfl ?_)
 refine aA rfl (aZ rfl rfl (dR (by omega)) ?_)
 refine aA rfl (aD rfl ?_)
 refine aB ?_
 refine aP ⟨k + 1, (.cons rfl (.cons rfl (.cons rfl (.nil _)))), ?_, ?_⟩
 · skip
   exact ⟨by omega, fun i hik => by
     by_cases e : i = k
     · subst e; rw [hx, hy]; congr 1; omega
     · exact hi i (by omega), oA, oB, X⟩
 · omega
 refine aB ?_
 refine aL rfl ?_
 refine dC ?_
 refine dB ?_
 refine dB ?_
 refine eA ?_
 refine aP ?_
 refine aE ?_
 refine aA rfl (aD rfl ?_)
 refine aB ?_
 refine aV ?_
 refine aK rfl rfl ?_
 · skip
   refine ⟨congrArg (Value.int .i64) ?_, X⟩
   first | exact tA hi hx hy ‹_› | exact tB hi hx hy ‹_› | exact sZ hi (by omega)
theorem aHa (A : Option Addr) (B c : Nat) (xs : List SlotI) (w : World) (hs : Sl B w A (xs.flatMap SlotI.cells)) (hl : xs.length ≤ 1048576) :
   Calls Tryz.prog 226 #[.slice A xs.length c] w (fD fun v w' => v = .bool (gR xs) ∧ Ext w w') := by
 have Bhs := hs.1
 have X := Q7r w
 refine bI (args := [.slice A xs.length c]) Tryz.func226 Tryz.ntmps226 rfl rfl ?_
 refine aE ?_
 refine aA rfl (aD rfl ?_)
 refine aB ?_
 refine aQ ?_
 refine aE ?_
 refine aA rfl (aC rfl ?_)
 refine aA rfl (cQ Tryz.underlying26 rfl ?_)
 refine aA rfl (fX rfl rfl (fun h120 => ?_) (fun h120 => ?_))
 refine aB ?_
 refine aR rfl ?_
 refine aE ?_
 refine aA rfl (aD rfl ?_)
 refine aB ?_
 refine aV ?_
 refine bU ?_
 refine aK rfl rfl ?_
 · skip
   refine ⟨congrArg Value.bool ?_, X⟩
   first
   | (rw [gR, decide_eq_false (by omega)]; simp; done)
   | (rw [gR, hi, bJ hk]; simp [eQ]; omega)
   | (rw [gR, hi, dx]; cases oH xs k <;> simp [eQ, *]; done)
   | (rw [gR, hi, dx, jG (by omega) hy]; simp [eQ, *]; omega)
 refine aB ?_
 refine aL rfl ?_
 refine aU ?_
 refine aP ?_
 refine aQ ?_
 refine aE ?_
 refine aA rfl (aD rfl ?_)
 refine aB ?_
 refine aW ?_
 refine dD (G := Nat) (fun k => [(0, .slice A xs.length c), (3, .int .i64 (k : Nat))]) (fun k wr => k ≤ xs.length ∧ eQ none xs = eQ (oH xs k) (xs.drop k) ∧ Sl B wr A (xs.flatMap SlotI.cells) ∧ Ext w wr) (fun k => xs.length - k) 0 (.cons rfl (.cons rfl (.nil _))) ?_ ?_
 · exact ⟨by omega, rfl, hs, X⟩
 clear hs
 clear X
 rintro k wr ⟨hk0, hi, hs, X⟩
 refine aQ ?_
 refine aE ?_
 refine aA rfl (aC rfl ?_)
 refine aA rfl (aC rfl ?_)
 refine aA rfl (cQ Tryz.underlying26 rfl ?_)
 refine aA rfl (cH rfl rfl (fun hk => ?_) (fun hk => ?_))
 obtain ⟨x, hx, dx⟩ := dM hk
 refine aB ?_
 refine aR rfl ?_
 refine aU ?_
 refine aP ?_
 refine aQ ?_
 refine aW ?_
 refine eO [false, false, false, false, false, false, false, false, false, false, false, false, false, false, false, false, false, false, false, false, false, false, false] mixed (by kernel_rfl) ?_
 refine cE rfl (fun wq sq => aC rfl ⟨rfl, Q7r _⟩) ?_
 refine cE rfl (fun wq sq => aC rfl ⟨rfl, Q7r _⟩) ?_
 refine cE rfl (fun wq sq => aT (hs.ext sq) SlotI.len rfl eW rfl rfl rfl hx rfl ⟨rfl, Q7r _⟩) ?_
 refine cE rfl (fun wq sq => dY (hs.ext sq) SlotI.len hx dZ rfl ⟨rfl, Q7r _⟩) ?_
 refine aGN rfl (fun wq sq => aS aJG rfl (aG9 _ _)) (fun h1 => ?_) (fun h1 => ?_)
 refine cE rfl (fun wq sq => cD rfl ⟨rfl, Q7r _⟩) ?_
 refine cE rfl (fun wq sq => aC rfl ⟨rfl, Q7r _⟩) ?_
 refine dT rfl rfl rfl (fun wq sq => aC rfl ⟨rfl, Q7r _⟩) ?_
 refine rG rfl rfl rfl (fun wq sq => qR rfl rfl ⟨rfl, Q7r _⟩) (fun hp => ?_) (fun hp => ?_)
 obtain ⟨y, hy⟩ : ∃ y, xs[k - 1]? = some y := ⟨_, List.getElem?_eq_getElem (by omega)⟩
 refine dT rfl rfl rfl (fun wq sq => aC rfl ⟨rfl, Q7r _⟩) ?_
 refine dT rfl rfl rfl (fun wq sq => aC rfl ⟨rfl, Q7r _⟩) ?_
 refine dT rfl rfl rfl (fun wq sq => aC rfl ⟨rfl, Q7r _⟩) ?_
 refine dT rfl rfl rfl (fun wq sq => fZ rfl rfl (dR (by omega)) ⟨rfl, Q7r _⟩) ?_
 refine dT rfl rfl rfl (fun wq sq => aT (hs.ext sq) SlotI.len rfl eW rfl rfl rfl hy (by omega) ⟨rfl, Q7r _⟩) ?_
 refine dT rfl rfl rfl (fun wq sq => dY (hs.ext sq) SlotI.len hy dZ rfl ⟨rfl, Q7r _⟩) ?_
 refine dT rfl rfl rfl (fun wq sq => aC rfl ⟨rfl, Q7r _⟩) ?_
 refine dT rfl rfl rfl (fun wq sq => aC rfl ⟨rfl, Q7r _⟩) ?_
 refine dT rfl rfl rfl (fun wq sq => aT (hs.ext sq) SlotI.len rfl eW rfl rfl rfl hx rfl ⟨rfl, Q7r _⟩) ?_
 refine dT rfl rfl rfl (fun wq sq => dY (hs.ext sq) SlotI.len hx dZ rfl ⟨rfl, Q7r _⟩) ?_
 refine dT rfl rfl rfl (fun wq sq => aS aJH rfl (xH _ _ _)) ?_
 refine rG rfl rfl rfl (fun wq sq => uJ rfl rfl ⟨rfl, Q7r _⟩) (fun h4 => ?_) (fun h4 => ?_)
 refine dT rfl rfl rfl (fun wq sq => aJ rfl rfl ⟨rfl, Q7r _⟩) ?_
 refine cE rfl (fun wq sq => aJ rfl rfl ⟨rfl, Q7r _⟩) ?_
 refine dW (fun w5 sq => ?_)
 have xq := sq
 replace hs := hs.ext xq
 replace X := Q7x X xq; clear xq sq
 refine aB ?_
 refine aR rfl ?_
 refine aE ?_
 refine aA rfl (aD rfl ?_)
 refine aB ?_
 refine aV ?_
 refine dN ?_
 refine bU ?_
 refine bU ?_
 refine dN ?_
 refine bU ?_
 refine aK rfl rfl ?_
 · skip
   refine ⟨congrArg Value.bool ?_, X⟩
   first
   | (rw [gR, decide_eq_false (by omega)]; simp; done)
   | (rw [gR, hi, bJ hk]; simp [eQ]; omega)
   | (rw [gR, hi, dx]; cases oH xs k <;> simp [eQ, *]; done)
   | (rw [gR, hi, dx, jG (by omega) hy]; simp [eQ, *]; omega)
 refine dT rfl rfl rfl (fun wq sq => aJ rfl rfl ⟨rfl, Q7r _⟩) ?_
 refine cE rfl (fun wq sq => aJ rfl rfl ⟨rfl, Q7r _⟩) ?_
 refine dW (fun w6 sq => ?_)
 have xq := sq
 replace hs := hs.ext xq
 replace X := Q7x X xq; clear xq sq
 refine aB ?_
 refine aL rfl ?_
 refine aU ?_
 refine dJ ?_
 refine aP ?_
 refine aM ?_
 refine aA rfl (aC rfl ?_)
 refine aA rfl (aZ rfl rfl (dR (by omega)) ?_)
 refine aA rfl (aD rfl ?_)
 refine aB ?_
 refine aP ⟨k + 1, (.cons rfl (.cons rfl (.nil _))), ?_, ?_⟩
 · skip
   exact ⟨by omega, (by
     rw [hi, dx, qX hx]
     first | (rw [qY ‹_›]; simp [eQ, *]; done) | (rw [jG (by omega) hy]; simp [eQ, *]; omega)), hs, X⟩
 · first | omega | (dsimp only; omega)
 refine dT rfl rfl rfl (fun wq sq => aC rfl ⟨rfl, Q7r _⟩) ?_
 refine dS rfl rfl rfl rfl ?_
 refine dS rfl rfl rfl rfl ?_
 refine dS rfl rfl rfl rfl ?_
 refine dS rfl rfl rfl rfl ?_
 refine dS rfl rfl rfl rfl ?_
 refine dS rfl rfl rfl rfl ?_
 refine dS rfl rfl rfl rfl ?_
 refine dS rfl rfl rfl rfl ?_
 refine dS rfl rfl rfl rfl ?_
 refine dS rfl rfl rfl rfl ?_
 refine dS rfl rfl rfl rfl ?_
 refine dT rfl rfl rfl (fun wq sq => aJ rfl rfl ⟨rfl, Q7r _⟩) ?_
 refine cE rfl (fun wq sq => aJ rfl rfl ⟨rfl, Q7r _⟩) ?_
 refine dW (fun w7 sq => ?_)
 have xq := sq
 replace hs := hs.ext xq
 replace X := Q7x X xq; clear xq sq
 refine aB ?_
 refine aL rfl ?_
 refine aU ?_
 refine dJ ?_
 refine aP ?_
 refine aM ?_
 refine aA rfl (aC rfl ?_)
 refine aA rfl (aZ rfl rfl (dR (by omega)) ?_)
 refine aA rfl (aD rfl ?_)
 refine aB ?_
 refine aP ⟨k + 1, (.cons rfl (.cons rfl (.nil _))), ?_, ?_⟩
 · skip
   exact ⟨by omega, (by
     rw [hi, dx, qX hx]
     first | (rw [qY ‹_›]; simp [eQ, *]; done) | (rw [jG (by omega) hy]; simp [eQ, *]; omega)), hs, X⟩
 · first | omega | (dsimp only; omega)
 refine cE rfl (fun wq sq => cD rfl ⟨rfl, Q7r _⟩) ?_
 refine cE rfl (fun wq sq => aC rfl ⟨rfl, Q7r _⟩) ?_
 refine dS rfl rfl rfl rfl ?_
 refine dS rfl rfl rfl rfl ?_
 refine dS rfl rfl rfl rfl ?_
 refine dS rfl rfl rfl rfl ?_
 refine dS rfl rfl rfl rfl ?_
 refine dS rfl rfl rfl rfl ?_
 refine dS rfl rfl rfl rfl ?_
 refine dS rfl rfl rfl rfl ?_
 refine dS rfl rfl rfl rfl ?_
 refine dS rfl rfl rfl rfl ?_
 refine dS rfl rfl rfl rfl ?_
 refine dS rfl rfl rfl rfl ?_
 refine dS rfl rfl rfl rfl ?_
 refine dS rfl rfl rfl rfl ?_
 refine dS rfl rfl rfl rfl ?_
 refine cE rfl (fun wq sq => aJ rfl rfl ⟨rfl, Q7r _⟩) ?_
 refine dW (fun w9 sq => ?_)
 have xq := sq
 replace hs := hs.ext xq
 replace X := Q7x X xq; clear xq sq
 refine aB ?_
 refine aR rfl ?_
 refine aE ?_
 refine aA rfl (aD rfl ?_)
 refine aB ?_
 refine aV ?_
 refine dN ?_
 refine bU ?_
 refine bU ?_
 refine dN ?_
 refine bU ?_
 refine aK rfl rfl ?_
 · skip
   refine ⟨congrArg Value.bool ?_, X⟩
   first
   | (rw [gR, decide_eq_false (by omega)]; simp; done)
   | (rw [gR, hi, bJ hk]; simp [eQ]; omega)
   | (rw [gR, hi, dx]; cases oH xs k <;> simp [eQ, *]; done)
   | (rw [gR, hi, dx, jG (by omega) hy]; simp [eQ, *]; omega)
 refine aB ?_
 refine aL rfl ?_
 refine dC ?_
 refine dB ?_
 refine dB ?_
 refine eA ?_
 refine aP ?_
 refine aE ?_
 refine aA rfl (aD rfl ?_)
 refine aB ?_
 refine aV ?_
 refine aK rfl rfl ?_
 · skip
   refine ⟨congrArg Value.bool ?_, X⟩
   first
   | (rw [gR, decide_eq_false (by omega)]; simp; done)
   | (rw [gR, hi, bJ hk]; simp [eQ]; omega)
   | (rw [gR, hi, dx]; cases oH xs k <;> simp [eQ, *]; done)
   | (rw [gR, hi, dx, jG (by omega) hy]; simp [eQ, *]; omega)
theorem xN (A : Option Addr) (B c : Nat) (xs : List SlotI) (w : World) (hs : Sl B w A (xs.flatMap SlotI.cells)) (hl : xs.length ≤ 1048576) :
   Calls Tryz.prog 165 #[.slice A xs.length c] w (fD fun v w' => v = .bool (gR xs) ∧ Ext w w') := by
 have Bhs := hs.1
 have X := Q7r w
 refine bI (args := [.slice A xs.length c]) Tryz.func165 Tryz.ntmps165 rfl rfl ?_
 refine aE ?_
 refine aA rfl (aD rfl ?_)
 refine aB ?_
 refine aQ ?_
 refine aE ?_
 refine aA rfl (aC rfl ?_)
 refine aA rfl (cQ Tryz.underlying26 rfl ?_)
 refine aA rfl (aC rfl ?_)
 refine aB ?_
 refine aW ?_
 refine dD (G := Nat) (fun k => [(0, .slice A xs.length c), (5, .slice A xs.length c), (6, .int .i64 (xs.length : Nat)), (7, .int .i64 (k : Nat))]) (fun k wr => k ≤ xs.length ∧ eQ none xs = eQ (oH xs k) (xs.drop k) ∧ Sl B wr A (xs.flatMap SlotI.cells) ∧ Ext w wr) (fun k => xs.length - k) 0 (.cons rfl (.cons rfl (.cons rfl (.cons rfl (.nil _))))) ?_ ?_
 · exact ⟨by omega, rfl, hs, X⟩
 clear hs
 clear X
 rintro k wr ⟨hk0, hi, hs, X⟩
 refine aE ?_
 refine aA rfl (cH rfl rfl (fun hk => ?_) (fun hk => ?_))
 obtain ⟨x, hx, dx⟩ := dM hk
 refine aB ?_
 refine aQ ?_
 refine aR rfl ?_
 refine aU ?_
 refine aP ?_
 refine aQ ?_
 refine aW ?_
 refine aE ?_
 refine aA rfl (aC rfl ?_)
 refine aA rfl (aT hs SlotI.len rfl eW rfl rfl rfl hx rfl ?_)
 refine aA rfl (dY hs SlotI.len hx dZ rfl ?_)
 refine aA rfl (dO dZ ?_)
 intro g4 w3 eg4 b1 x2 zg4
 have lg4 : w.heap.size ≤ g4 := Q7l X.size (Q7e eg4.symm)
 have pg4hs := Q7l hs.1 (Q7e eg4.symm)
 replace hs := hs.ext x2
 replace X := Q7x X x2
 refine aA rfl (aD rfl ?_)
 refine aA rfl (aX b1 dZ rfl rfl rfl rfl rfl rfl ?_)
 intro w6 b8 hg5 z7
 replace hs := hs.grown hg5 (by intro g hg; injection hg; omega)
 replace X := X.grown hg5 X.size (by intro g hg; injection hg; omega)
 clear hg5 b1
 refine aB ?_
 refine eO [false, false, false, false, false, false, false, false, false, false, false, false, false, false, false, false, false] mixed (by kernel_rfl) ?_
 refine cE rfl (fun wq sq => bO (b8.ext sq) dZ rfl rfl ⟨rfl, Q7r _⟩) ?_
 refine aGN rfl (fun wq sq => aS aJy rfl (aBh _ _)) (fun h9 => ?_) (fun h9 => ?_)
 refine cE rfl (fun wq sq => cD rfl ⟨rfl, Q7r _⟩) ?_
 refine cE rfl (fun wq sq => aC rfl ⟨rfl, Q7r _⟩) ?_
 refine dT rfl rfl rfl (fun wq sq => aC rfl ⟨rfl, Q7r _⟩) ?_
 refine rG rfl rfl rfl (fun wq sq => qR rfl rfl ⟨rfl, Q7r _⟩) (fun hp => ?_) (fun hp => ?_)
 obtain ⟨y, hy⟩ : ∃ y, xs[k - 1]? = some y := ⟨_, List.getElem?_eq_getElem (by omega)⟩
 refine dT rfl rfl rfl (fun wq sq => aC rfl ⟨rfl, Q7r _⟩) ?_
 refine dT rfl rfl rfl (fun wq sq => aC rfl ⟨rfl, Q7r _⟩) ?_
 refine dT rfl rfl rfl (fun wq sq => aC rfl ⟨rfl, Q7r _⟩) ?_
 refine dT rfl rfl rfl (fun wq sq => fZ rfl rfl (dR (by omega)) ⟨rfl, Q7r _⟩) ?_
 refine dT rfl rfl rfl (fun wq sq => aT (hs.ext sq) SlotI.len rfl eW rfl rfl rfl hy (by omega) ⟨rfl, Q7r _⟩) ?_
 refine dT rfl rfl rfl (fun wq sq => dY (hs.ext sq) SlotI.len hy dZ rfl ⟨rfl, Q7r _⟩) ?_
 refine dT rfl rfl rfl (fun wq sq => bO (b8.ext sq) dZ rfl rfl ⟨rfl, Q7r _⟩) ?_
 refine dT rfl rfl rfl (fun wq sq => aS aGI rfl (rH _ _ _)) ?_
 refine rG rfl rfl rfl (fun wq sq => uJ rfl rfl ⟨rfl, Q7r _⟩) (fun h12 => ?_) (fun h12 => ?_)
 refine dT rfl rfl rfl (fun wq sq => aJ rfl rfl ⟨rfl, Q7r _⟩) ?_
 refine cE rfl (fun wq sq => aJ rfl rfl ⟨rfl, Q7r _⟩) ?_
 refine dW (fun w13 sq => ?_)
 have xq := sq
 replace hs := hs.ext xq
 replace b8 := b8.ext xq
 replace X := Q7x X xq; clear xq sq
 refine aB ?_
 refine aR rfl ?_
 refine aE ?_
 refine aA rfl (aD rfl ?_)
 refine aB ?_
 refine aV ?_
 refine dN ?_
 refine bU ?_
 refine bU ?_
 refine dN ?_
 refine bU ?_
 refine aK rfl rfl ?_
 · skip
   refine ⟨congrArg Value.bool ?_, X⟩
   first
   | (rw [gR, decide_eq_false (by omega)]; simp; done)
   | (rw [gR, hi, bJ hk]; simp [eQ]; omega)
   | (rw [gR, hi, dx]; cases oH xs k <;> simp [eQ, *]; done)
   | (rw [gR, hi, dx, jG (by omega) hy]; simp [eQ, *]; omega)
 refine dT rfl rfl rfl (fun wq sq => aJ rfl rfl ⟨rfl, Q7r _⟩) ?_
 refine cE rfl (fun wq sq => aJ rfl rfl ⟨rfl, Q7r _⟩) ?_
 refine dW (fun w14 sq => ?_)
 have xq := sq
 replace hs := hs.ext xq
 replace b8 := b8.ext xq
 replace X := Q7x X xq; clear xq sq
 refine aB ?_
 refine aL rfl ?_
 refine aU ?_
 refine dJ ?_
 refine aP ?_
 refine aM ?_
 refine aA rfl (aZ rfl rfl (dR (by omega)) ?_)
 refine aA rfl (aC rfl ?_)
 refine aB ?_
 refine aP ⟨k + 1, (.cons rfl (.cons rfl (.cons rfl (.cons rfl (.nil _))))), ?_, ?_⟩
 · skip
   exact ⟨by omega, (by
     rw [hi, dx, qX hx]
     first | (rw [qY ‹_›]; simp [eQ, *]; done) | (rw [jG (by omega) hy]; simp [eQ, *]; omega)), hs, X⟩
 · first | omega | (dsimp only; omega)
 refine dT rfl rfl rfl (fun wq sq => aC rfl ⟨rfl, Q7r _⟩) ?_
 refine dS rfl rfl rfl rfl ?_
 refine dS rfl rfl rfl rfl ?_
 refine dS rfl rfl rfl rfl ?_
 refine dS rfl rfl rfl rfl ?_
 refine dS rfl rfl rfl rfl ?_
 refine dS rfl rfl rfl rfl ?_
 refine dS rfl rfl rfl rfl ?_
 refine dS rfl rfl rfl rfl ?_
 refine dT rfl rfl rfl (fun wq sq => aJ rfl rfl ⟨rfl, Q7r _⟩) ?_
 refine cE rfl (fun wq sq => aJ rfl rfl ⟨rfl, Q7r _⟩) ?_
 refine dW (fun w15 sq => ?_)
 have xq := sq
 replace hs := hs.ext xq
 replace b8 := b8.ext xq
 replace X := Q7x X xq; clear xq sq
 refine aB ?_
 refine aL rfl ?_
 refine aU ?_
 refine dJ ?_
 refine aP ?_
 refine aM ?_
 refine aA rfl (aZ rfl rfl (dR (by omega)) ?_)
 refine aA rfl (aC rfl ?_)
 refine aB ?_
 refine aP ⟨k + 1, (.cons rfl (.cons rfl (.cons rfl (.cons rfl (.nil _))))), ?_, ?_⟩
 · skip
   exact ⟨by omega, (by
     rw [hi, dx, qX hx]
     first | (rw [qY ‹_›]; simp [eQ, *]; done) | (rw [jG (by omega) hy]; simp [eQ, *]; omega)), hs, X⟩
 · first | omega | (dsimp only; omega)
 refine cE rfl (fun wq sq => cD rfl ⟨rfl, Q7r _⟩) ?_
 refine cE rfl (fun wq sq => aC rfl ⟨rfl, Q7r _⟩) ?_
 refine dS rfl rfl rfl rfl ?_
 refine dS rfl rfl rfl rfl ?_
 refine dS rfl rfl rfl rfl ?_
 refine dS rfl rfl rfl rfl ?_
 refine dS rfl rfl rfl rfl ?_
 refine dS rfl rfl rfl rfl ?_
 refine dS rfl rfl rfl rfl ?_
 refine dS rfl rfl rfl rfl ?_
 refine dS rfl rfl rfl rfl ?_
 refine dS rfl rfl rfl rfl ?_
 refine dS rfl rfl rfl rfl ?_
 refine dS rfl rfl rfl rfl ?_
 refine cE rfl (fun wq sq => aJ rfl rfl ⟨rfl, Q7r _⟩) ?_
 refine dW (fun w16 sq => ?_)
 have xq := sq
 replace hs := hs.ext xq
 replace b8 := b8.ext xq
 replace X := Q7x X xq; clear xq sq
 refine aB ?_
 refine aR rfl ?_
 refine aE ?_
 refine aA rfl (aD rfl ?_)
 refine aB ?_
 refine aV ?_
 refine dN ?_
 refine bU ?_
 refine bU ?_
 refine dN ?_
 refine bU ?_
 refine aK rfl rfl ?_
 · skip
   refine ⟨congrArg Value.bool ?_, X⟩
   first
   | (rw [gR, decide_eq_false (by omega)]; simp; done)
   | (rw [gR, hi, bJ hk]; simp [eQ]; omega)
   | (rw [gR, hi, dx]; cases oH xs k <;> simp [eQ, *]; done)
   | (rw [gR, hi, dx, jG (by omega) hy]; simp [eQ, *]; omega)
 refine aB ?_
 refine aQ ?_
 refine aL rfl ?_
 refine dC ?_
 refine dB ?_
 refine dB ?_
 refine eA ?_
 refine aP ?_
 refine aE ?_
 refine aA rfl (aC rfl ?_)
 refine aA rfl (cQ Tryz.underlying26 rfl ?_)
 refine aA rfl (pM rfl rfl ?_)
 refine aA rfl (aD rfl ?_)
 refine aB ?_
 refine aV ?_
 refine aK rfl rfl ?_
 · skip
   refine ⟨congrArg Value.bool ?_, X⟩
   first
   | (rw [gR, decide_eq_false (by omega)]; simp; done)
   | (rw [gR, hi, bJ hk]; simp [eQ]; omega)
   | (rw [gR, hi, dx]; cases oH xs k <;> simp [eQ, *]; done)
   | (rw [gR, hi, dx, jG (by omega) hy]; simp [eQ, *]; omega)
end Go.Proofs.YtdoibplhbdkapaaGreatDoor
