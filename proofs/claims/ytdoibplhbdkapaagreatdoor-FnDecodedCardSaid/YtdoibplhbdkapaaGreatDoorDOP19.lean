/- Parts. No condition. -/
import Derived.Test.YtdoibplhbdkapaaGreatDoorDOP18
import Derived.Test.YtdoibplhbdkapaaGreatDoorDOP12
import Derived.Test.YtdoibplhbdkapaaGreatDoorDOP5
import Derived.Test.YtdoibplhbdkapaaGreatDoorDOP4
import Derived.Test.YtdoibplhbdkapaaGreatDoorDOP9
namespace Go.Proofs.YtdoibplhbdkapaaGreatDoor
open Go.RowKit
set_option linter.unusedVariables false
set_option linter.unusedSimpArgs false
set_option maxRecDepth 20000
theorem aGM (A : Option Addr) (B c : Nat) (a : Nat) (w : World) (hs : Sl B w A (([(a : Int)] : List Int).flatMap eI)) (ha : a < 4294967296) :
   Calls Tryz.prog 244 #[.slice A 1 c] w (fF fun v w' => v = .bool true ∧ Ext w w') := by
 have Bhs := hs.1
 have X := Q7r w
 refine bJ (args := [.slice A 1 c]) Tryz.func244 Tryz.ntmps244 rfl rfl (aF (aA rfl (aE rfl (aB (aR (aF (aA rfl (aE rfl (aB (aX (dG (G := Nat) (fun k => [(0, .slice A 1 c), (3, .int .i64 (k : Nat))]) (fun k wr => k ≤ 1 ∧ Sl B wr A (([(a : Int)] : List Int).flatMap eI) ∧ Ext w wr) (fun k => 1 - k) 0 (.cons rfl (.cons rfl (.nil _))) ?_ ?_)))))))))))
 · exact ⟨by omega, hs, X⟩
 clear hs
 clear X
 rintro k wr ⟨hk0, hs, X⟩
 refine aR (aF (aA rfl (aC rfl (aA rfl (aC rfl (aA rfl (bO Tryz.underlying30 rfl (aA rfl (cU rfl rfl (fun hk => ?_) (fun hk => ?_))))))))))
 have hk00 : k = 0 := by omega
 refine aB (aQ rfl (aV (aS (aR (aX (aF (aA rfl (aC rfl (aA rfl (aC rfl (aA rfl (aU hs bI rfl cQ rfl rfl rfl (show ([(a : Int)] : List Int)[k]? = some (a : Int) by rw [hk00]; rfl) rfl (aA rfl (bS hs bI (show ([(a : Int)] : List Int)[k]? = some (a : Int) by rw [hk00]; rfl) dB rfl rfl rfl (aA rfl (cV kC rfl (iQ _ _ _ _) (fun w2 hin x1 => ?_) (fun w2 hin x1 => by (have : iF (a : Int) 0 4294967295 = true := eO.2 (by omega); rw [this] at hin; cases hin))))))))))))))))))
 replace hs := hs.ext x1
 replace X := Q7x X x1; clear x1
 refine aA rfl (bP rfl (aB (aM rfl (aV (dO (aS (aN (aA rfl (aC rfl (aA rfl (aY rfl rfl (dM (by omega)) (aA rfl (aE rfl (aB (aS ⟨k + 1, (.cons rfl (.cons rfl (.nil _))), ?_, ?_⟩)))))))))))))))
 · exact ⟨by omega, hs, X⟩
 · first | omega | (dsimp only; omega)
 exact aB (aM rfl (dD (dC (dC (eG (aS (aF (aA rfl (aE rfl (aB (aW (aL rfl rfl ⟨by rfl, X⟩))))))))))))
theorem yT (a : Nat) (w : World) (ha : a < 4294967296) :
   Calls Tryz.prog 180 #[.int .i64 (a : Nat)] w (fF fun v w' => ∃ A' c', v = .tuple #[.slice A' (lM a 32).length c', .int .i64 0] ∧ Own w' w.heap.size 2 1 A' (lM a 32).length c' ((lM a 32).flatMap eI) ∧ Ext w w') := by
 have X := Q7r w
 refine bJ (args := [.int .i64 (a : Nat)]) Tryz.func180 Tryz.ntmps180 rfl rfl (aF (aA rfl (aE rfl (aA rfl (aE rfl (aB (aR (aF (aA rfl (aC rfl (aA rfl (aO cQ dB rfl rfl rfl rfl rfl ?_))))))))))))
 intro g1 w3 eg1 oB bbg1 x2 zg1
 replace oB := Own.low oB X.size
 replace X := Q7x X x2; clear x2
 replace oB := oB.to (cs' := ([(a : Int)] : List Int).flatMap eI) rfl
 refine aA rfl (aT aKz rfl (aP (aGM _ _ _ _ _ (oB).sl ha) ?_))
 rintro _ w5 ⟨rfl, x4⟩
 replace oB := oB.ext x4
 replace X := Q7x X x4; clear x4
 refine aA rfl (bP rfl (aB (aM rfl (aV (aS (aF (aA rfl (aO cQ dB rfl rfl rfl rfl rfl ?_))))))))
 intro gO w7 egO oO bbgO x6 zgO
 replace oO := Own.low oO X.size
 replace X := Q7x X x6; clear x6
 refine aA rfl (aE rfl (aB (aR (aF (aA rfl (aE rfl (aB (aX (dG (G := Nat × Nat × Option Addr × Nat) (fun ⟨k, n1, A1, c1⟩ => [(0, .int .i64 (a : Nat)), (2, .slice none 0 0), (3, .int .i64 0), (4, .slice A1 n1 c1), (5, .int .i64 (k : Nat))]) (fun ⟨k, n1, A1, c1⟩ wr => k ≤ 32 ∧ n1 = (lM a k).length ∧ Own wr w.heap.size 2 1 A1 n1 c1 ((lM a k).flatMap eI) ∧ Ext w wr) (fun ⟨k, n1, A1, c1⟩ => 32 - k) (0, 0, some ⟨gO, 0, none⟩, 0) (.cons rfl (.cons rfl (.cons rfl (.cons rfl (.cons rfl (.nil _)))))) ?_ ?_)))))))))
 · exact ⟨by omega, rfl, oO, X⟩
 clear oO
 clear X
 rintro ⟨k, n1, A1, c1⟩ wr ⟨hk0, hn1, oO, X⟩
 refine aR (aF (aA rfl (aC rfl (aA rfl (cU rfl rfl (fun hk => ?_) (fun hk => ?_))))))
 refine aB (aQ rfl (aV (aS (aR (aX (aF (aA rfl (aC rfl (aA rfl (aC rfl (aA rfl (cV aEv rfl (aAy _ _ _ ha (by omega)) (fun w9 hb0 x8 => ?_) (fun w9 hb0 x8 => ?_)))))))))))))
 replace oO := oO.ext x8
 replace X := Q7x X x8; clear x8
 have hb : a.testBit k = true := by simpa [pE] using hb0
 have hml := xP a k
 refine aB (aQ rfl (aN (aA rfl (aC rfl (aA rfl (aC rfl (aA rfl (aO cQ dB rfl rfl rfl rfl rfl ?_))))))))
 intro g10 w12 eg10 oV bbg10 x11 zg10
 replace oV := Own.low oV X.size
 replace oO := oO.ext x11
 replace X := Q7x X x11
 replace oV := oV.to (cs' := ([(k : Int)] : List Int).flatMap eI) rfl
 refine aA rfl (cH (ts := #[]) oO X.size oV.sl (by first | rfl | simp) (by first | exact List.all_eq_true.1 rfl | simp [Value.oneCell']) cQ dB rfl rfl rfl rfl (by omega) (by omega) ?_)
 intro AoN coN w14 oN hg13
 replace X := X.grown hg13 X.size (fun g hg => (Own.lt oO hg).1)
 clear hg13
 refine aA rfl (aE rfl (aB (dO (aS (aN (aA rfl (aC rfl (aA rfl (aY rfl rfl (dM (by omega)) (aA rfl (aE rfl (aB (aS ⟨(k + 1, n1 + 1, AoN, coN), (.cons rfl (.cons rfl (.cons rfl (.cons rfl (.cons rfl (.nil _)))))), ?_, ?_⟩)))))))))))))
 · exact ⟨by omega, (by rw [aBv hb]; simp [hn1]), oN.to (by rw [aBv hb, List.flatMap_append]), X⟩
 · first | omega | (dsimp only; omega)
 replace oO := oO.ext x8
 replace X := Q7x X x8; clear x8
 have hb : a.testBit k = false := by simpa [pE] using hb0
 refine aB (aM rfl (aV (dO (aS (aN (aA rfl (aC rfl (aA rfl (aY rfl rfl (dM (by omega)) (aA rfl (aE rfl (aB (aS ⟨(k + 1, n1, A1, c1), (.cons rfl (.cons rfl (.cons rfl (.cons rfl (.cons rfl (.nil _)))))), ?_, ?_⟩)))))))))))))
 · exact ⟨by omega, (by rw [aC0 hb]; simp [hn1]), oO.to (by rw [aC0 hb]), X⟩
 · first | omega | (dsimp only; omega)
 refine aB (aM rfl (dD (dC (dC (eG (aS (aF (aA rfl (aC rfl (aA rfl (aE rfl (aA rfl (aE rfl (aB (aW (fD rfl rfl rfl ?_))))))))))))))))
 · skip
   rw [show k = 32 by omega] at oO hn1
   rw [← hn1]
   exact ⟨A1, c1, rfl, oO, X⟩
theorem wP (a b c d : Int) (e : Bool) : Value.agg #[.int .i64 a, .int .i64 b, .int .i64 c, .int .i64 d, .bool e] = Value.agg (Desc.cells ⟨a, b, c, d, e⟩).toArray := rfl
theorem uJ (A : Option Addr) (B c : Nat) (bs : List UInt8) (gS a : Nat) (sd : Int) (w : World) (q : Blk w gS 148 (lH A c bs a sd)) (hs : Sl B w A (bs.flatMap eB)) (hB : B ≤ gS) (ok : a ≤ bs.length ∧ 0 ≤ sd ∧ sd < 2147483647) (hbl : bs.length ≤ 1048576) :
   Calls Tryz.prog 182 #[.pointer (some ⟨gS, 0, none⟩)] w (fF fun v w' => ∃ (d : Desc) (a' : Nat) (sd' : Int), v = .agg d.cells.toArray ∧ ((0 ≤ d.size ∧ d.size ≤ 5) ∧ (0 ≤ d.kind ∧ d.kind ≤ 3) ∧ (0 ≤ d.node ∧ d.node ≤ 3) ∧ (0 ≤ d.duration ∧ d.duration ≤ 2000)) ∧ (a' ≤ bs.length ∧ 0 ≤ sd' ∧ sd' < 2147483647) ∧ Blk w' gS 148 (lH A c bs a' sd') ∧ w.grownBy w' (some gS)) := by
 have Bhs := hs.1
 have X := pJ w (some gS)
 refine bJ (args := [.pointer (some ⟨gS, 0, none⟩)]) Tryz.func182 Tryz.ntmps182 rfl rfl (aF (aA rfl (dT fU ?_)))
 intro g2 w2 eg2 b2 x1 zg2
 have lg2 : w.heap.size ≤ g2 := Q7l X.size (Q7e eg2.symm)
 have ng2q := Nat.lt_of_lt_of_eq q.lt eg2.symm
 have pg2hs := Q7l hs.1 (Q7e eg2.symm)
 replace q := q.ext x1
 replace hs := hs.ext x1
 replace X := dU X x1; clear x1
 refine aB (aF (aA rfl (aC rfl (aA rfl (aT fS rfl (aP (dN _ _ _ _ _ _ _ _ _ q hs hB ok hbl (by omega)) ?_))))))
 rintro _ w4 ⟨r1, a6, sd7, rfl, hr8, ok, b5, x3⟩
 replace hs := hs.grown x3 (by intro g hg; injection hg; omega)
 replace b2 := b2.grown x3 (by intro h; injection h; omega)
 replace X := dI X x3
 clear x3 q
 refine aA rfl (aC rfl (aA rfl (aT fS rfl (aP (dN _ _ _ _ _ _ _ _ _ b5 hs hB ok hbl (by omega)) ?_))))
 rintro _ w10 ⟨r2, a12, sd13, rfl, hr14, ok, b11, x9⟩
 replace hs := hs.grown x9 (by intro g hg; injection hg; omega)
 replace b2 := b2.grown x9 (by intro h; injection h; omega)
 replace X := dI X x9
 clear x9 b5
 refine aA rfl (aC rfl (aA rfl (aT fS rfl (aP (dN _ _ _ _ _ _ _ _ _ b11 hs hB ok hbl (by omega)) ?_))))
 rintro _ w16 ⟨r3, a18, sd19, rfl, hr20, ok, b17, x15⟩
 replace hs := hs.grown x15 (by intro g hg; injection hg; omega)
 replace b2 := b2.grown x15 (by intro h; injection h; omega)
 replace X := dI X x15
 clear x15 b11
 refine aA rfl (jJ rfl rfl (aA rfl (dA aCt fU rfl rfl (aA rfl (dT fU ?_)))))
 intro gD w22 egD bD x21 zgD
 have lgD : w.heap.size ≤ gD := Q7l X.size (Q7e egD.symm)
 have pgDhs := Q7l hs.1 (Q7e egD.symm)
 have ngDb2 := Nat.lt_of_lt_of_eq b2.lt egD.symm
 have ngDb17 := Nat.lt_of_lt_of_eq b17.lt egD.symm
 replace hs := hs.ext x21
 replace b2 := b2.ext x21
 replace b17 := b17.ext x21
 replace X := dU X x21
 refine aA rfl (bK bD fU rfl rfl rfl rfl rfl rfl ?_)
 intro w24 bE hg23 z25
 replace hs := hs.grown hg23 (by intro g hg; injection hg; omega)
 replace b2 := b2.grown hg23 (by intro h; injection h; omega)
 replace b17 := b17.grown hg23 (by intro h; injection h; omega)
 replace X := dV X hg23 (by intro g hg; injection hg; omega)
 clear hg23 bD
 refine aB (aR (aF (aA rfl (aG fM rfl rfl (aA rfl (aJ bE dB rfl rfl (aA rfl (cV aEw rfl (yF _ _) (fun w27 hda x26 => ?_) (fun w27 hda x26 => ?_)))))))))
 replace hs := hs.ext x26
 replace b2 := b2.ext x26
 replace b17 := b17.ext x26
 replace bE := bE.ext x26
 replace X := dU X x26
 refine aB (aQ rfl (aN (aA rfl (aC rfl (aA rfl (aT fS rfl (aP (dN _ _ _ _ _ _ _ _ _ b17 hs hB ok hbl (by omega)) ?_)))))))
 rintro _ w29 ⟨r4, a31, sd32, rfl, hr33, ok, b30, x28⟩
 replace hs := hs.grown x28 (by intro g hg; injection hg; omega)
 replace b2 := b2.grown x28 (by intro h; injection h; omega)
 replace bE := bE.grown x28 (by intro h; injection h; omega)
 replace X := dI X x28
 clear x28 b17
 refine aA rfl (aY rfl rfl (dM (by omega)) (aA rfl (aG jP rfl rfl (aA rfl (bK bE dB rfl rfl rfl rfl rfl rfl ?_)))))
 intro w35 bF hg34 z36
 replace hs := hs.grown hg34 (by intro g hg; injection hg; omega)
 replace b2 := b2.grown hg34 (by intro h; injection h; omega)
 replace b30 := b30.grown hg34 (by intro h; injection h; omega)
 replace X := dV X hg34 (by intro g hg; injection hg; omega)
 clear hg34 bE
 refine aB (aS (aR (aF (aA rfl (aG fM rfl rfl (aA rfl (aJ bF dB rfl rfl (aA rfl (dP rfl rfl (fun hk3 => ?_) (fun hk3 => ?_))))))))))
 refine aB (aQ rfl (aN (aA rfl (aG sQ rfl rfl (aA rfl (bK bF xO rfl rfl rfl rfl rfl rfl ?_))))))
 intro w38 bG hg37 z39
 replace hs := hs.grown hg37 (by intro g hg; injection hg; omega)
 replace b2 := b2.grown hg37 (by intro h; injection h; omega)
 replace b30 := b30.grown hg37 (by intro h; injection h; omega)
 replace X := dV X hg37 (by intro g hg; injection hg; omega)
 clear hg37 bF
 refine aB (aS (aF (aA rfl (aG fM rfl rfl (aA rfl (aJ bG dB rfl rfl (aA rfl (aG jP rfl rfl (aA rfl (aJ bG dB rfl rfl ?_))))))))))
 first | (have hcs := iS r2 (z := 1 + r4) (by omega)) | (have hcs := iS r2 (z := 0) (by omega))
 refine aA rfl (aT yB rfl (aP (nL _ _ _ (by omega)) ?_))
 rintro _ w41 ⟨rfl, x40⟩
 replace hs := hs.ext x40
 replace b2 := b2.ext x40
 replace b30 := b30.ext x40
 replace bG := bG.ext x40
 replace X := dU X x40
 refine aA rfl (aY rfl rfl (dM (by omega)) (aA rfl (aC rfl (aA rfl (aT fS rfl (aP (dN _ _ _ _ _ _ _ _ _ b30 hs hB ok hbl (by omega)) ?_))))))
 rintro _ w43 ⟨r5, a45, sd46, rfl, hr47, ok, b44, x42⟩
 replace hs := hs.grown x42 (by intro g hg; injection hg; omega)
 replace b2 := b2.grown x42 (by intro h; injection h; omega)
 replace bG := bG.grown x42 (by intro h; injection h; omega)
 replace X := dI X x42
 clear x42 b30
 refine aA rfl (aY rfl rfl (dM (by omega)) (aA rfl (aG fC rfl rfl (aA rfl (bK bG dB rfl rfl rfl rfl rfl rfl ?_)))))
 intro w49 bH hg48 z50
 replace hs := hs.grown hg48 (by intro g hg; injection hg; omega)
 replace b2 := b2.grown hg48 (by intro h; injection h; omega)
 replace b44 := b44.grown hg48 (by intro h; injection h; omega)
 replace X := dV X hg48 (by intro g hg; injection hg; omega)
 clear hg48 bG
 refine aB (aF (aA rfl (dE bH fU rfl rfl (aA rfl (bK b2 fU rfl rfl rfl rfl rfl rfl ?_)))))
 intro w52 b3 hg51 z53
 replace hs := hs.grown hg51 (by intro g hg; injection hg; omega)
 replace b44 := b44.grown hg51 (by intro h; injection h; omega)
 replace bH := bH.grown hg51 (by intro h; injection h; omega)
 replace X := dV X hg51 (by intro g hg; injection hg; omega)
 clear hg51 b2
 refine aB (aW (kG rfl rfl b3 fU rfl ?_))
 · skip
   refine ⟨⟨_, _, _, _, _⟩, _, _, wP _ _ _ _ _, ?_, ok, b44, X⟩
   simp only; omega
 refine aB (aM rfl (aV (aS (aF (aA rfl (aG fM rfl rfl (aA rfl (aJ bF dB rfl rfl (aA rfl (aG jP rfl rfl (aA rfl (aJ bF dB rfl rfl ?_))))))))))))
 first | (have hcs := iS r2 (z := 1 + r4) (by omega)) | (have hcs := iS r2 (z := 0) (by omega))
 refine aA rfl (aT yB rfl (aP (nL _ _ _ (by omega)) ?_))
 rintro _ w55 ⟨rfl, x54⟩
 replace hs := hs.ext x54
 replace b2 := b2.ext x54
 replace b30 := b30.ext x54
 replace bF := bF.ext x54
 replace X := dU X x54
 refine aA rfl (aY rfl rfl (dM (by omega)) (aA rfl (aC rfl (aA rfl (aT fS rfl (aP (dN _ _ _ _ _ _ _ _ _ b30 hs hB ok hbl (by omega)) ?_))))))
 rintro _ w57 ⟨r5, a59, sd60, rfl, hr61, ok, b58, x56⟩
 replace hs := hs.grown x56 (by intro g hg; injection hg; omega)
 replace b2 := b2.grown x56 (by intro h; injection h; omega)
 replace bF := bF.grown x56 (by intro h; injection h; omega)
 replace X := dI X x56
 clear x56 b30
 refine aA rfl (aY rfl rfl (dM (by omega)) (aA rfl (aG fC rfl rfl (aA rfl (bK bF dB rfl rfl rfl rfl rfl rfl ?_)))))
 intro w63 bH hg62 z64
 replace hs := hs.grown hg62 (by intro g hg; injection hg; omega)
 replace b2 := b2.grown hg62 (by intro h; injection h; omega)
 replace b58 := b58.grown hg62 (by intro h; injection h; omega)
 replace X := dV X hg62 (by intro g hg; injection hg; omega)
 clear hg62 bF
 refine aB (aF (aA rfl (dE bH fU rfl rfl (aA rfl (bK b2 fU rfl rfl rfl rfl rfl rfl ?_)))))
 intro w66 b3 hg65 z67
 replace hs := hs.grown hg65 (by intro g hg; injection hg; omega)
 replace b58 := b58.grown hg65 (by intro h; injection h; omega)
 replace bH := bH.grown hg65 (by intro h; injection h; omega)
 replace X := dV X hg65 (by intro g hg; injection hg; omega)
 clear hg65 b2
 refine aB (aW (kG rfl rfl b3 fU rfl ?_))
 · skip
   refine ⟨⟨_, _, _, _, _⟩, _, _, wP _ _ _ _ _, ?_, ok, b58, X⟩
   simp only; omega
 replace hs := hs.ext x26
 replace b2 := b2.ext x26
 replace b17 := b17.ext x26
 replace bE := bE.ext x26
 replace X := dU X x26
 refine aB (aM rfl (aV (aS (aR (aF (aA rfl (aG fM rfl rfl (aA rfl (aJ bE dB rfl rfl (aA rfl (dP rfl rfl (fun hk3 => ?_) (fun hk3 => ?_))))))))))))
 refine aB (aQ rfl (aN (aA rfl (aG sQ rfl rfl (aA rfl (bK bE xO rfl rfl rfl rfl rfl rfl ?_))))))
 intro w69 bG hg68 z70
 replace hs := hs.grown hg68 (by intro g hg; injection hg; omega)
 replace b2 := b2.grown hg68 (by intro h; injection h; omega)
 replace b17 := b17.grown hg68 (by intro h; injection h; omega)
 replace X := dV X hg68 (by intro g hg; injection hg; omega)
 clear hg68 bE
 refine aB (aS (aF (aA rfl (aG fM rfl rfl (aA rfl (aJ bG dB rfl rfl (aA rfl (aG jP rfl rfl (aA rfl (aJ bG dB rfl rfl ?_))))))))))
 first | (have hcs := iS r2 (z := 1 + r4) (by omega)) | (have hcs := iS r2 (z := 0) (by omega))
 refine aA rfl (aT yB rfl (aP (nL _ _ _ (by omega)) ?_))
 rintro _ w72 ⟨rfl, x71⟩
 replace hs := hs.ext x71
 replace b2 := b2.ext x71
 replace b17 := b17.ext x71
 replace bG := bG.ext x71
 replace X := dU X x71
 refine aA rfl (aY rfl rfl (dM (by omega)) (aA rfl (aC rfl (aA rfl (aT fS rfl (aP (dN _ _ _ _ _ _ _ _ _ b17 hs hB ok hbl (by omega)) ?_))))))
 rintro _ w74 ⟨r5, a76, sd77, rfl, hr78, ok, b75, x73⟩
 replace hs := hs.grown x73 (by intro g hg; injection hg; omega)
 replace b2 := b2.grown x73 (by intro h; injection h; omega)
 replace bG := bG.grown x73 (by intro h; injection h; omega)
 replace X := dI X x73
 clear x73 b17
 refine aA rfl (aY rfl rfl (dM (by omega)) (aA rfl (aG fC rfl rfl (aA rfl (bK bG dB rfl rfl rfl rfl rfl rfl ?_)))))
 intro w80 bH hg79 z81
 replace hs := hs.grown hg79 (by intro g hg; injection hg; omega)
 replace b2 := b2.grown hg79 (by intro h; injection h; omega)
 replace b75 := b75.grown hg79 (by intro h; injection h; omega)
 replace X := dV X hg79 (by intro g hg; injection hg; omega)
 clear hg79 bG
 refine aB (aF (aA rfl (dE bH fU rfl rfl (aA rfl (bK b2 fU rfl rfl rfl rfl rfl rfl ?_)))))
 intro w83 b3 hg82 z84
 replace hs := hs.grown hg82 (by intro g hg; injection hg; omega)
 replace b75 := b75.grown hg82 (by intro h; injection h; omega)
 replace bH := bH.grown hg82 (by intro h; injection h; omega)
 replace X := dV X hg82 (by intro g hg; injection hg; omega)
 clear hg82 b2
 refine aB (aW (kG rfl rfl b3 fU rfl ?_))
 · skip
   refine ⟨⟨_, _, _, _, _⟩, _, _, wP _ _ _ _ _, ?_, ok, b75, X⟩
   simp only; omega
 refine aB (aM rfl (aV (aS (aF (aA rfl (aG fM rfl rfl (aA rfl (aJ bE dB rfl rfl (aA rfl (aG jP rfl rfl (aA rfl (aJ bE dB rfl rfl ?_))))))))))))
 first | (have hcs := iS r2 (z := 1 + r4) (by omega)) | (have hcs := iS r2 (z := 0) (by omega))
 refine aA rfl (aT yB rfl (aP (nL _ _ _ (by omega)) ?_))
 rintro _ w86 ⟨rfl, x85⟩
 replace hs := hs.ext x85
 replace b2 := b2.ext x85
 replace b17 := b17.ext x85
 replace bE := bE.ext x85
 replace X := dU X x85
 refine aA rfl (aY rfl rfl (dM (by omega)) (aA rfl (aC rfl (aA rfl (aT fS rfl (aP (dN _ _ _ _ _ _ _ _ _ b17 hs hB ok hbl (by omega)) ?_))))))
 rintro _ w88 ⟨r5, a90, sd91, rfl, hr92, ok, b89, x87⟩
 replace hs := hs.grown x87 (by intro g hg; injection hg; omega)
 replace b2 := b2.grown x87 (by intro h; injection h; omega)
 replace bE := bE.grown x87 (by intro h; injection h; omega)
 replace X := dI X x87
 clear x87 b17
 refine aA rfl (aY rfl rfl (dM (by omega)) (aA rfl (aG fC rfl rfl (aA rfl (bK bE dB rfl rfl rfl rfl rfl rfl ?_)))))
 intro w94 bH hg93 z95
 replace hs := hs.grown hg93 (by intro g hg; injection hg; omega)
 replace b2 := b2.grown hg93 (by intro h; injection h; omega)
 replace b89 := b89.grown hg93 (by intro h; injection h; omega)
 replace X := dV X hg93 (by intro g hg; injection hg; omega)
 clear hg93 bE
 refine aB (aF (aA rfl (dE bH fU rfl rfl (aA rfl (bK b2 fU rfl rfl rfl rfl rfl rfl ?_)))))
 intro w97 b3 hg96 z98
 replace hs := hs.grown hg96 (by intro g hg; injection hg; omega)
 replace b89 := b89.grown hg96 (by intro h; injection h; omega)
 replace bH := bH.grown hg96 (by intro h; injection h; omega)
 replace X := dV X hg96 (by intro g hg; injection hg; omega)
 clear hg96 b2
 refine aB (aW (kG rfl rfl b3 fU rfl ?_))
 · skip
   refine ⟨⟨_, _, _, _, _⟩, _, _, wP _ _ _ _ _, ?_, ok, b89, X⟩
   simp only; omega
def smallM : MedlD := ⟨77, [⟨0, ⟨#[97]⟩, 100, false⟩, ⟨1, ⟨#[98]⟩, 50, false⟩], [⟨2, 2, [1]⟩, ⟨1, 2, [0]⟩], [⟨0, 0, 0, ⟨0, 3, 0, 200, false⟩⟩, ⟨0, 0, 1, ⟨1, 1, 0, 200, false⟩⟩, ⟨0, 1, 0, ⟨0, 0, 4, 200, true⟩⟩, ⟨0, 1, 1, ⟨1, 0, 2, 200, false⟩⟩, ⟨1, 0, 0, ⟨1, 2, 3, 300, true⟩⟩, ⟨1, 0, 1, ⟨0, 0, 0, 150, false⟩⟩]⟩
def zeroM : MedlI := ⟨0, none, [], 0, none, [], 0, none, [], 0⟩
def smallI : MedlI := ⟨77, none, [⟨0, ⟨#[97]⟩, 100, false⟩, ⟨1, ⟨#[98]⟩, 50, false⟩], 2, none, [⟨⟨2, 2, [1]⟩, none, 1⟩, ⟨⟨1, 2, [0]⟩, none, 1⟩], 2, none, [⟨0, 0, 0, ⟨0, 3, 0, 200, false⟩⟩, ⟨0, 0, 1, ⟨1, 1, 0, 200, false⟩⟩, ⟨0, 1, 0, ⟨0, 0, 4, 200, true⟩⟩, ⟨0, 1, 1, ⟨1, 0, 2, 200, false⟩⟩, ⟨1, 0, 0, ⟨1, 2, 3, 300, true⟩⟩, ⟨1, 0, 1, ⟨0, 0, 0, 150, false⟩⟩], 6⟩
theorem aGN : smallI.small := ⟨by decide, by decide, fun x hx => by
 simp only [smallI, List.mem_cons, List.not_mem_nil, or_false] at hx
 rcases hx with rfl | rfl <;> decide, by decide, fun x hx => by
 simp only [smallI, List.mem_cons, List.not_mem_nil, or_false] at hx
 rcases hx with rfl | rfl <;> decide⟩
theorem aC2 {m' : MedlI} (e : m'.d = smallM) : m'.small := by
 have h := aGN
 exact MedlI.small_of (m := smallI) (by rw [e]; rfl) h
theorem aGO  (w : World)  :
   Calls Tryz.prog 41 #[] w (fF fun v w' => ∃ m', v = .agg m'.cells.toArray ∧ m'.d = smallM ∧ MOwn w' w.heap.size 59 92 2 89 m' ∧ Ext w w') := by
 have X := Q7r w
 refine bJ (args := []) Tryz.func41 Tryz.ntmps41 rfl rfl (aF (aA rfl (dT dW ?_)))
 intro g0 w2 eg0 b0 x1 zg0
 have lg0 : w.heap.size ≤ g0 := Q7l X.size (Q7e eg0.symm)
 replace X := Q7x X x1; clear x1
 refine aB (aF (aA rfl (dA aHe kE rfl rfl (aA rfl (dA aHe kE rfl rfl (aA rfl (aO lO kE rfl rfl rfl rfl rfl ?_)))))))
 intro gN w4 egN oN bbgN x3 zgN
 replace oN := Own.low oN X.size
 replace b0 := b0.ext x3
 replace X := Q7x X x3; clear x3
 replace oN := oN.to (cs' := ([⟨0, ⟨#[97]⟩, 100, false⟩, ⟨1, ⟨#[98]⟩, 50, false⟩] : List NodeI).flatMap NodeI.cells) rfl
 refine aA rfl (aO cQ dB rfl rfl rfl rfl rfl ?_)
 intro g4 w6 eg4 o4 bbg4 x5 zg4
 replace o4 := Own.low o4 X.size
 replace b0 := b0.ext x5
 replace oN := oN.ext x5
 replace X := Q7x X x5; clear x5
 replace o4 := o4.to (cs' := ([1] : List Int).flatMap eI) rfl
 refine aA rfl (dA aF3 iO rfl rfl ?_)
 have U4 := fun g hg => (Own.lt o4 (g := g) hg).2
 refine aA rfl (aO cQ dB rfl rfl rfl rfl rfl ?_)
 intro g6 w9 eg6 o6 bbg6 x7 zg6
 replace o6 := Own.low o6 X.size
 replace b0 := b0.ext x7
 replace oN := oN.ext x7
 replace o4 := o4.ext x7
 replace X := Q7x X x7; clear x7
 replace o6 := o6.to (cs' := ([0] : List Int).flatMap eI) rfl
 refine aA rfl (dA aF3 iO rfl rfl (aA rfl (aO kX iO rfl rfl rfl rfl rfl ?_)))
 intro gM w11 egM oM bbgM x10 zgM
 replace oM := Own.low oM X.size
 replace b0 := b0.ext x10
 replace oN := oN.ext x10
 replace o4 := o4.ext x10
 replace o6 := o6.ext x10
 replace X := Q7x X x10
 replace oM := oM.to (cs' := ([⟨⟨2, 2, [1]⟩, some ⟨g4, 0, none⟩, 1⟩, ⟨⟨1, 2, [0]⟩, some ⟨g6, 0, none⟩, 1⟩] : List ModeI).flatMap ModeI.cells) rfl
 refine aA rfl (dA aCt fU rfl rfl (aA rfl (dA qY eQ rfl rfl (aA rfl (dA aCt fU rfl rfl (aA rfl (dA qY eQ rfl rfl (aA rfl (dA aCt fU rfl rfl (aA rfl (dA qY eQ rfl rfl (aA rfl (dA aCt fU rfl rfl (aA rfl (dA qY eQ rfl rfl (aA rfl (dA aCt fU rfl rfl (aA rfl (dA qY eQ rfl rfl (aA rfl (dA aCt fU rfl rfl (aA rfl (dA qY eQ rfl rfl (aA rfl (aO gF eQ rfl rfl rfl rfl rfl ?_)))))))))))))))))))))))))
 intro gS w13 egS oS bbgS x12 zgS
 replace oS := Own.low oS X.size
 replace b0 := b0.ext x12
 replace oN := oN.ext x12
 replace o4 := o4.ext x12
 replace o6 := o6.ext x12
 replace oM := oM.ext x12
 replace X := Q7x X x12
 replace oS := oS.to (cs' := ([⟨0, 0, 0, ⟨0, 3, 0, 200, false⟩⟩, ⟨0, 0, 1, ⟨1, 1, 0, 200, false⟩⟩, ⟨0, 1, 0, ⟨0, 0, 4, 200, true⟩⟩, ⟨0, 1, 1, ⟨1, 0, 2, 200, false⟩⟩, ⟨1, 0, 0, ⟨1, 2, 3, 300, true⟩⟩, ⟨1, 0, 1, ⟨0, 0, 0, 150, false⟩⟩] : List SlotI).flatMap SlotI.cells) rfl
 refine aA rfl (dA nJ dW rfl rfl (aA rfl (bK b0 dW rfl rfl rfl rfl rfl rfl ?_)))
 intro w15 b1 hg14 z16
 replace oN := oN.grownBlk hg14 (Own.neT oN b0 (by decide))
 replace o4 := o4.grownBlk hg14 (Own.neT o4 b0 (by decide))
 replace o6 := o6.grownBlk hg14 (Own.neT o6 b0 (by decide))
 replace oM := oM.grownBlk hg14 (Own.neT oM b0 (by decide))
 replace oS := oS.grownBlk hg14 (Own.neT oS b0 (by decide))
 replace X := X.grown hg14 X.size (by intro g hg; injection hg; omega)
 clear hg14 b0
 refine aB (aW (kG rfl rfl b1 dW rfl ?_))
 · skip
   have hN := ((NOwn.nil_ (w := _)).snoc (x := ⟨⟨2, 2, [1]⟩, some ⟨g4, 0, none⟩, 1⟩) o4 (by show ([1] : List Int).length ≤ 9223372036854775807; decide)).snoc (x := ⟨⟨1, 2, [0]⟩, some ⟨g6, 0, none⟩, 1⟩) o6 (by show ([0] : List Int).length ≤ 9223372036854775807; decide)
   have hD := (Disj.nil_.snoc (x := ⟨⟨2, 2, [1]⟩, some ⟨g4, 0, none⟩, 1⟩) (fun y hy => by simp at hy)).snoc (x := ⟨⟨1, 2, [0]⟩, some ⟨g6, 0, none⟩, 1⟩) (fun y hy g hg e => by
     obtain rfl : y = ⟨⟨2, 2, [1]⟩, some ⟨g4, 0, none⟩, 1⟩ := by simpa using hy
     have h1 := U4 g hg
     have h2 : g6 = g := by injection e
     omega)
   exact ⟨⟨77, some ⟨gN, 0, none⟩, [⟨0, ⟨#[97]⟩, 100, false⟩, ⟨1, ⟨#[98]⟩, 50, false⟩], 2, some ⟨gM, 0, none⟩, [⟨⟨2, 2, [1]⟩, some ⟨g4, 0, none⟩, 1⟩, ⟨⟨1, 2, [0]⟩, some ⟨g6, 0, none⟩, 1⟩], 2, some ⟨gS, 0, none⟩, [⟨0, 0, 0, ⟨0, 3, 0, 200, false⟩⟩, ⟨0, 0, 1, ⟨1, 1, 0, 200, false⟩⟩, ⟨0, 1, 0, ⟨0, 0, 4, 200, true⟩⟩, ⟨0, 1, 1, ⟨1, 0, 2, 200, false⟩⟩, ⟨1, 0, 0, ⟨1, 2, 3, 300, true⟩⟩, ⟨1, 0, 1, ⟨0, 0, 0, 150, false⟩⟩], 6⟩, rfl, rfl, ⟨oN, oM, hN, hD, oS⟩, X⟩
abbrev wQ (d : Desc) : Prop := (0 ≤ d.node ∧ d.node ≤ 31) ∧ (0 ≤ d.kind ∧ d.kind ≤ 3) ∧ (0 ≤ d.size ∧ d.size ≤ 32) ∧ (0 ≤ d.duration ∧ d.duration ≤ 1000)
abbrev aJv (x : SlotI) : Prop := (0 ≤ x.mode ∧ x.mode ≤ 15) ∧ (0 ≤ x.round ∧ x.round ≤ 7) ∧ (0 ≤ x.slot ∧ x.slot ≤ 63) ∧ wQ x.desc
abbrev aIc (x : NodeI) : Prop := (0 ≤ x.id ∧ x.id ≤ 31) ∧ (0 ≤ x.drift ∧ x.drift ≤ 1000) ∧ x.name.size ≤ 7
abbrev aJw (x : Mode) : Prop := (0 ≤ x.rounds ∧ x.rounds ≤ 255) ∧ (0 ≤ x.slots ∧ x.slots ≤ 255) ∧ x.next.length ≤ 5 ∧ ∀ v ∈ x.next, 0 ≤ v ∧ v ≤ 255
abbrev aE0 (d : MedlD) : Prop := (0 ≤ d.id ∧ d.id ≤ 16777215) ∧ (d.ns.length ≤ 32 ∧ ∀ x ∈ d.ns, aIc x) ∧ (d.ms.length ≤ 16 ∧ ∀ x ∈ d.ms, aJw x) ∧ (d.ss.length ≤ 140 ∧ ∀ x ∈ d.ss, aJv x)
end Go.Proofs.YtdoibplhbdkapaaGreatDoor
