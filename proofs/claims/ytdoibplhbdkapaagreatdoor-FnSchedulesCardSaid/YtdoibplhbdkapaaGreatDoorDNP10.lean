/- Parts. No condition. -/
import Derived.Test.YtdoibplhbdkapaaGreatDoorDNP4
import Derived.Test.YtdoibplhbdkapaaGreatDoorDNP8
import Derived.Test.YtdoibplhbdkapaaGreatDoorDNP3
namespace Go.Proofs.YtdoibplhbdkapaaGreatDoor
open Go.RowKit
set_option linter.unusedVariables false
set_option linter.unusedSimpArgs false
set_option maxRecDepth 20000
def aJZ (x : ModeI) : Prop := (1 ≤ x.m.rounds ∧ x.m.rounds ≤ 3) ∧ (1 ≤ x.m.slots ∧ x.m.slots ≤ 4) ∧ x.m.next.length ≤ 4 ∧ ∀ z ∈ x.m.next, 0 ≤ z ∧ z ≤ 3
theorem aC1 {α : Type} {xs : List α} {k : Nat} {x' y : α} (h : y ∈ xs.set k x') : y = x' ∨ ∃ i, i ≠ k ∧ xs[i]? = some y := by
 obtain ⟨i, hi⟩ := List.mem_iff_getElem?.1 h
 rw [List.getElem?_set] at hi
 split at hi
 · rename_i e
   split at hi
   · injection hi with hi; exact .inl hi.symm
   · cases hi
 · rename_i e; exact .inr ⟨i, fun e2 => e e2.symm, hi⟩
theorem aAz {α : Type} {xs : List α} {k : Nat} {y : α} : y ∈ xs.eraseIdx k ↔ ∃ i, i ≠ k ∧ xs[i]? = some y := List.mem_eraseIdx_iff_getElem?
theorem NOwn.erase {w : World} {lo : Nat} {t : TypeId} {xs : List ModeI} (h : NOwn w lo t xs) (k : Nat) : NOwn w lo t (xs.eraseIdx k) := fun y hy => h y (List.mem_of_mem_eraseIdx hy)
theorem NOwn.put {w : World} {lo : Nat} {t : TypeId} {xs : List ModeI} {k : Nat} {x' : ModeI} (h : NOwn w lo t (xs.eraseIdx k)) (hx : Own w lo t 1 x'.A x'.m.next.length x'.c (x'.m.next.flatMap eI)) (hl : x'.m.next.length ≤ 9223372036854775807) : NOwn w lo t (xs.set k x') := fun y hy => by
 rcases aC1 hy with rfl | h2
 · exact ⟨hx, hl⟩
 · exact h y (aAz.2 h2)
theorem NOwn.same {w : World} {lo : Nat} {t : TypeId} {xs : List ModeI} {k : Nat} {x x' : ModeI} (h : NOwn w lo t xs) (hx : xs[k]? = some x) (h1 : x'.A = x.A) (h2 : x'.c = x.c) (h3 : x'.m.next = x.m.next) : NOwn w lo t (xs.set k x') :=
 NOwn.put (h.erase k) (by rw [h1, h2, h3]; exact (h x (List.mem_of_getElem? hx)).1) (by rw [h3]; exact (h x (List.mem_of_getElem? hx)).2)
theorem Disj.erase {xs : List ModeI} {k : Nat} {x : ModeI} (hd : Disj xs) (hx : xs[k]? = some x) : ∀ y ∈ xs.eraseIdx k, ∀ g, x.blk = some g → y.blk ≠ some g := fun y hy g hg => by
 obtain ⟨i, h1, h2⟩ := aAz.1 hy
 exact hd k i x y hx h2 (fun e => h1 e.symm) g hg
theorem qK {xs : List ModeI} {k b : Nat} {x' : ModeI} (h : ∀ y ∈ xs, y.m.next.length ≤ b) (h2 : x'.m.next.length ≤ b) : ∀ y ∈ xs.set k x', y.m.next.length ≤ b := fun y hy => by
 rcases List.mem_or_eq_of_mem_set hy with h1 | rfl
 · exact h y h1
 · exact h2
theorem aEz (A : Option Addr) (B c : Nat) (bs : List UInt8) (gS a : Nat) (sd : Int) (w : World) (q : Blk w gS 148 (iU A c bs a sd)) (hs : Sl B w A (bs.flatMap eB)) (hB : B ≤ gS) (ok : a ≤ bs.length ∧ 0 ≤ sd ∧ sd < 2147483647) (hbl : bs.length ≤ 1048576) :
   Calls Tryz.prog 214 #[.pointer (some ⟨gS, 0, none⟩)] w (fD fun v w' => ∃ A' c' xs a' sd', v = .slice A' (List.length xs) c' ∧ ((1 ≤ xs.length ∧ xs.length ≤ 4) ∧ ∀ x ∈ xs, aJZ x) ∧ Disj xs ∧ Own w' w.heap.size 92 3 A' xs.length c' (xs.flatMap ModeI.cells) ∧ NOwn w' w.heap.size 2 xs ∧ (a' ≤ bs.length ∧ 0 ≤ sd' ∧ sd' < 2147483647) ∧ Blk w' gS 148 (iU A c bs a' sd') ∧ w.grownBy w' (some gS)) := by
 have Bhs := hs.1
 have X := mC w (some gS)
 refine bI (args := [.pointer (some ⟨gS, 0, none⟩)]) Tryz.func214 Tryz.ntmps214 rfl rfl ?_
 refine aE ?_
 refine aA rfl (aD rfl ?_)
 refine aB ?_
 refine aE ?_
 refine aA rfl (aN iA hH rfl rfl rfl rfl rfl ?_)
 intro gO w2 egO oT bbgO x1 zgO
 replace oT := Own.low oT X.size
 replace q := q.ext x1
 replace hs := hs.ext x1
 replace X := dE X x1
 refine aA rfl (aD rfl ?_)
 refine aB ?_
 refine aE ?_
 refine aA rfl (aC rfl ?_)
 refine aA rfl (aS fC rfl (aO (dH _ _ _ _ _ _ _ _ _ q hs hB ok hbl (by omega)) ?_))
 rintro _ w4 ⟨r0, a6, sd7, rfl, hr8, ok, b5, x3⟩
 replace hs := hs.grown x3 (by intro g hg; injection hg; omega)
 replace oT := oT.grownBlk x3 (Own.neT oT q (by decide))
 replace X := cU X x3
 clear x3 q
 refine aA rfl (aZ rfl rfl (dR (by omega)) ?_)
 refine aA rfl (aD rfl ?_)
 refine aB ?_
 refine aQ ?_
 refine aE ?_
 refine aA rfl (aD rfl ?_)
 refine aB ?_
 refine aW ?_
 refine dD (G := Int × List ModeI × Nat × Option Addr × Nat) (fun ⟨i, ys, n1, A1, c1⟩ => [(2, .slice none 0 0), (4, .int .i64 (1 + r0)), (0, .pointer (some ⟨gS, 0, none⟩)), (3, .slice A1 n1 c1), (5, .int .i64 i)]) (fun ⟨i, ys, n1, A1, c1⟩ wr => (0 ≤ i ∧ i ≤ 1 + r0) ∧ n1 = ys.length ∧ (n1 : Int) = i ∧ (∀ y ∈ ys, aJZ y) ∧ Disj ys ∧ (∃ a sd, (a ≤ bs.length ∧ 0 ≤ sd ∧ sd < 2147483647) ∧ Blk wr gS 148 (iU A c bs a sd)) ∧ Own wr w.heap.size 92 3 A1 n1 c1 (ys.flatMap ModeI.cells) ∧ NOwn wr w.heap.size 2 ys ∧ Sl B wr A (bs.flatMap eB) ∧ w.grownBy wr (some gS)) (fun ⟨i, ys, n1, A1, c1⟩ => (1 + r0 - i).toNat) (0, [], 0, some ⟨gO, 0, none⟩, 0) (.cons rfl (.cons rfl (.cons rfl (.cons rfl (.cons rfl (.nil _)))))) ?_ ?_
 · exact ⟨(by omega), rfl, rfl, (fun y hy => by simp at hy), Disj.nil_, ⟨_, _, ok, b5⟩, oT, NOwn.nil_, hs, X⟩
 clear hs oT b5
 clear X
 rintro ⟨i, ys, n1, A1, c1⟩ wr ⟨hi0, hn, hni, hsm, hd, qq, oT, oN, hs, X⟩
 obtain ⟨a, sd, ok, q⟩ := qq
 refine aQ ?_
 refine aE ?_
 refine aA rfl (aC rfl ?_)
 refine aA rfl (aC rfl ?_)
 refine aA rfl (cH rfl rfl (fun hi1 => ?_) (fun hi1 => ?_))
 refine aB ?_
 refine aR rfl ?_
 refine aU ?_
 refine aP ?_
 refine aQ ?_
 refine aW ?_
 refine aE ?_
 have UB := fun y hy g hg => (Own.lt (oN y hy).1 (g := g) hg).2
 refine aA rfl (aN dA cY rfl rfl rfl rfl rfl ?_)
 intro gL w10 egL oL bbgL x9 zgL
 replace oL := Own.low oL X.size
 replace oT := oT.ext x9
 replace oN := oN.ext x9
 replace hs := hs.ext x9
 replace q := q.ext x9
 replace X := dE X x9
 refine aA rfl (aD rfl ?_)
 refine aB ?_
 refine aQ ?_
 refine aE ?_
 refine aA rfl (aD rfl ?_)
 refine aB ?_
 refine aW ?_
 refine dD (G := Int × List Int × Nat × Option Addr × Nat) (fun ⟨j, zs, n2, A2, c2⟩ => [(2, .slice none 0 0), (3, .slice A1 n1 c1), (4, .int .i64 (1 + r0)), (5, .int .i64 i), (12, .int .i64 i), (13, .int .i64 (1 + r0)), (0, .pointer (some ⟨gS, 0, none⟩)), (6, .slice A2 n2 c2), (7, .int .i64 j)]) (fun ⟨j, zs, n2, A2, c2⟩ wr => (0 ≤ j ∧ j ≤ 1 + r0) ∧ n2 = zs.length ∧ (n2 : Int) ≤ j ∧ (∀ z ∈ zs, 0 ≤ z ∧ z ≤ 3) ∧ (∀ y ∈ ys, ∀ g, (Value.slice A2 n2 c2).ownBlock = some g → y.blk ≠ some g) ∧ (∃ a sd, (a ≤ bs.length ∧ 0 ≤ sd ∧ sd < 2147483647) ∧ Blk wr gS 148 (iU A c bs a sd)) ∧ Own wr w.heap.size 2 1 A2 n2 c2 (zs.flatMap eI) ∧ Own wr w.heap.size 92 3 A1 n1 c1 (ys.flatMap ModeI.cells) ∧ NOwn wr w.heap.size 2 ys ∧ Sl B wr A (bs.flatMap eB) ∧ w.grownBy wr (some gS)) (fun ⟨j, zs, n2, A2, c2⟩ => (1 + r0 - j).toNat) (0, [], 0, some ⟨gL, 0, none⟩, 0) (.cons rfl (.cons rfl (.cons rfl (.cons rfl (.cons rfl (.cons rfl (.cons rfl (.cons rfl (.cons rfl (.nil _)))))))))) ?_ ?_
 · skip
   exact ⟨(by omega), rfl, (by show ((0 : Nat) : Int) ≤ 0; omega), (fun y hy => by simp at hy), (fun y hy g hg e => by
     have h1 := UB y hy g e
     have h2 : gL = g := by injection hg
     omega), ⟨_, _, ok, q⟩, oL, oT, oN, hs, X⟩
 clear oT oN hs q oL
 clear X
 rintro ⟨j, zs, n2, A2, c2⟩ wr ⟨hj0, hnz, hnj, hz, hsp, qq, oL, oT, oN, hs, X⟩
 obtain ⟨a, sd, ok, q⟩ := qq
 refine aQ ?_
 refine aE ?_
 refine aA rfl (aC rfl ?_)
 refine aA rfl (aC rfl ?_)
 refine aA rfl (cH rfl rfl (fun hj1 => ?_) (fun hj1 => ?_))
 refine aB ?_
 refine aR rfl ?_
 refine aU ?_
 refine aP ?_
 refine aQ ?_
 refine aW ?_
 refine aE ?_
 refine aA rfl (aC rfl ?_)
 refine aA rfl (aC rfl ?_)
 refine aA rfl (hP rfl rfl (fun hne => ?_) (fun hne => ?_))
 refine aA rfl (aC rfl ?_)
 refine aH rfl rfl rfl (aC rfl ?_)
 refine aH rfl rfl rfl (aS fC rfl (aO (dH _ _ _ _ _ _ _ _ _ q hs hB ok hbl (by omega)) ?_))
 rintro _ w12 ⟨rb, a14, sd15, rfl, hr16, ok, b13, x11⟩
 replace oL := oL.grownBlk x11 (Own.neT oL q (by decide))
 replace oT := oT.grownBlk x11 (Own.neT oT q (by decide))
 replace oN := oN.grownB q x11 (by decide)
 replace hs := hs.grown x11 (by intro g hg; injection hg; omega)
 replace X := cU X x11
 clear x11 q
 refine aH rfl rfl rfl (dK rfl rfl (fun hb => ?_) (fun hb => ?_))
 refine aA rfl (aJ rfl rfl ?_)
 refine aB ?_
 refine aR rfl ?_
 refine aM ?_
 refine aA rfl (aC rfl ?_)
 refine aA rfl (aC rfl ?_)
 refine aA rfl (aN dA cY rfl rfl rfl rfl rfl ?_)
 intro g17 w19 eg17 oV bbg17 x18 zg17
 replace oV := Own.low oV X.size
 replace oL := oL.ext x18
 replace oT := oT.ext x18
 replace oN := oN.ext x18
 replace hs := hs.ext x18
 replace b13 := b13.ext x18
 replace X := dE X x18
 have UB := fun y hy g hg => (Own.lt (oN y hy).1 (g := g) hg).2
 refine aA rfl (pB (ts := #[]) oL X.size oV.sl (by first | rfl | simp) (by first | exact List.all_eq_true.1 rfl | simp [Value.oneCell']) dA cY rfl rfl rfl rfl (by omega) (by omega) ?_)
 intro AoM coM w21 oM hg20 hW
 replace oT := oT.grown hg20 (Own.neO oT oL (by decide))
 replace oN := oN.grownX hg20 hsp
 replace hs := hs.grown hg20 (fun g hg => Q7l Bhs (Own.lt oL hg).1)
 replace b13 := b13.grown hg20 (fun h => Own.neT oL b13 (by decide) h.symm)
 replace X := cV X hg20 (fun g hg => (Own.lt oL hg).1)
 clear hg20
 have hsp2 := fun y hy => nL (hsp y hy) hW (UB y hy)
 refine aA rfl (aD rfl ?_)
 refine aB ?_
 refine dJ ?_
 refine aP ?_
 refine aM ?_
 refine aA rfl (aC rfl ?_)
 refine aA rfl (aZ rfl rfl (dR (by omega)) ?_)
 refine aA rfl (aD rfl ?_)
 refine aB ?_
 refine aP ⟨(j + 1, zs ++ [j], n2 + 1, AoM, coM), (.cons rfl (.cons rfl (.cons rfl (.cons rfl (.cons rfl (.cons rfl (.cons rfl (.cons rfl (.cons rfl (.nil _)))))))))), ?_, ?_⟩
 · skip
   exact ⟨(by omega), (by simp [hnz]), (by omega), (fun y hy => by
     rcases List.mem_append.1 hy with h | h
     · exact hz y h
     · obtain rfl : y = j := by simpa using h
       omega), hsp2, ⟨_, _, ok, b13⟩, oM.to (kG eI zs j).symm, oT, oN, hs, X⟩
 · first | omega | (dsimp only; omega)
 refine aA rfl (aJ rfl rfl ?_)
 refine aB ?_
 refine aL rfl ?_
 refine aU ?_
 refine dJ ?_
 refine aP ?_
 refine aM ?_
 refine aA rfl (aC rfl ?_)
 refine aA rfl (aZ rfl rfl (dR (by omega)) ?_)
 refine aA rfl (aD rfl ?_)
 refine aB ?_
 refine aP ⟨(j + 1, zs, n2, A2, c2), (.cons rfl (.cons rfl (.cons rfl (.cons rfl (.cons rfl (.cons rfl (.cons rfl (.cons rfl (.cons rfl (.nil _)))))))))), ?_, ?_⟩
 · exact ⟨(by omega), hnz, (by omega), hz, hsp, ⟨_, _, ok, b13⟩, oL, oT, oN, hs, X⟩
 · first | omega | (dsimp only; omega)
 refine aA rfl (aC rfl ?_)
 refine aG rfl rfl rfl rfl ?_
 refine aG rfl rfl rfl rfl ?_
 refine aG rfl rfl rfl rfl ?_
 refine aA rfl (aJ rfl rfl ?_)
 refine aB ?_
 refine aL rfl ?_
 refine aU ?_
 refine dJ ?_
 refine aP ?_
 refine aM ?_
 refine aA rfl (aC rfl ?_)
 refine aA rfl (aZ rfl rfl (dR (by omega)) ?_)
 refine aA rfl (aD rfl ?_)
 refine aB ?_
 refine aP ⟨(j + 1, zs, n2, A2, c2), (.cons rfl (.cons rfl (.cons rfl (.cons rfl (.cons rfl (.cons rfl (.cons rfl (.cons rfl (.cons rfl (.nil _)))))))))), ?_, ?_⟩
 · exact ⟨(by omega), hnz, (by omega), hz, hsp, ⟨_, _, ok, q⟩, oL, oT, oN, hs, X⟩
 · first | omega | (dsimp only; omega)
 refine aB ?_
 refine aL rfl ?_
 refine dC ?_
 refine dB ?_
 refine dB ?_
 refine eA ?_
 refine aP ?_
 refine aM ?_
 refine aA rfl (aC rfl ?_)
 refine aA rfl (aC rfl ?_)
 subst hnz
 refine aA rfl (aS fC rfl (aO (dH _ _ _ _ _ _ _ _ _ q hs hB ok hbl (by omega)) ?_))
 rintro _ w23 ⟨r1, a25, sd26, rfl, hr27, ok, b24, x22⟩
 replace oL := oL.grownBlk x22 (Own.neT oL q (by decide))
 replace oT := oT.grownBlk x22 (Own.neT oT q (by decide))
 replace oN := oN.grownB q x22 (by decide)
 replace hs := hs.grown x22 (by intro g hg; injection hg; omega)
 replace X := cU X x22
 clear x22 q
 refine aA rfl (aZ rfl rfl (dR (by omega)) ?_)
 refine aA rfl (aC rfl ?_)
 refine aA rfl (aS fC rfl (aO (dH _ _ _ _ _ _ _ _ _ b24 hs hB ok hbl (by omega)) ?_))
 rintro _ w29 ⟨r2, a31, sd32, rfl, hr33, ok, b30, x28⟩
 replace oL := oL.grownBlk x28 (Own.neT oL b24 (by decide))
 replace oT := oT.grownBlk x28 (Own.neT oT b24 (by decide))
 replace oN := oN.grownB b24 x28 (by decide)
 replace hs := hs.grown x28 (by intro g hg; injection hg; omega)
 replace X := cU X x28
 clear x28 b24
 refine aA rfl (aZ rfl rfl (dR (by omega)) ?_)
 refine aA rfl (aC rfl ?_)
 refine aA rfl (cO aBC hH rfl rfl ?_)
 refine aA rfl (aN iA hH rfl rfl rfl rfl rfl ?_)
 intro g34 w36 eg34 oV bbg34 x35 zg34
 replace oV := Own.low oV X.size
 replace oL := oL.ext x35
 replace oT := oT.ext x35
 replace oN := oN.ext x35
 replace hs := hs.ext x35
 replace b30 := b30.ext x35
 replace X := dE X x35
 refine aA rfl (cF (ts := #[]) oT X.size oV.sl (by first | rfl | simp) (by first | exact List.all_eq_true.1 rfl | simp [Value.oneCell']) iA hH rfl rfl rfl rfl (by omega) (by omega) ?_)
 intro AoU coU w38 oU hg37
 replace oL := oL.grown hg37 (Own.neO oL oT (by decide))
 replace oN := oN.grownO oT hg37 (by decide)
 replace hs := hs.grown hg37 (fun g hg => Q7l Bhs (Own.lt oT hg).1)
 replace b30 := b30.grown hg37 (fun h => Own.neT oT b30 (by decide) h.symm)
 replace X := cV X hg37 (fun g hg => (Own.lt oT hg).1)
 clear hg37
 refine aA rfl (aD rfl ?_)
 refine aB ?_
 refine dJ ?_
 refine aP ?_
 refine aM ?_
 refine aA rfl (aC rfl ?_)
 refine aA rfl (aZ rfl rfl (dR (by omega)) ?_)
 refine aA rfl (aD rfl ?_)
 refine aB ?_
 refine aP ⟨(i + 1, ys ++ [⟨⟨1 + r1, 1 + r2, zs⟩, A2, c2⟩], n1 + 1, AoU, coU), (.cons rfl (.cons rfl (.cons rfl (.cons rfl (.cons rfl (.nil _)))))), ?_, ?_⟩
 · skip
   exact ⟨(by omega), (by simp [hn]), (by omega), (fun y hy => by
     rcases List.mem_append.1 hy with h | h
     · exact hsm y h
     · obtain rfl : y = ⟨⟨1 + r1, 1 + r2, zs⟩, A2, c2⟩ := by simpa using h
       exact ⟨by show 1 ≤ 1 + r1 ∧ 1 + r1 ≤ 3; omega, by show 1 ≤ 1 + r2 ∧ 1 + r2 ≤ 4; omega, by show zs.length ≤ 4; omega, hz⟩), (hd.snoc (x := ⟨⟨1 + r1, 1 + r2, zs⟩, A2, c2⟩) (fun y hy g hg e => hsp y hy g e hg)), ⟨_, _, ok, b30⟩, oU.to (kG ModeI.cells ys ⟨⟨1 + r1, 1 + r2, zs⟩, A2, c2⟩).symm, oN.snoc (x := ⟨⟨1 + r1, 1 + r2, zs⟩, A2, c2⟩) oL (by show zs.length ≤ _; omega), hs, X⟩
 · first | omega | (dsimp only; omega)
 refine aB ?_
 refine aL rfl ?_
 refine dC ?_
 refine dB ?_
 refine dB ?_
 refine eA ?_
 refine aP ?_
 refine aE ?_
 refine aA rfl (aC rfl ?_)
 refine aA rfl (aD rfl ?_)
 refine aB ?_
 refine aV ?_
 refine aK rfl rfl ?_
 · skip
   subst hn
   exact ⟨A1, c1, ys, _, _, rfl, ⟨by omega, hsm⟩, hd, oT, oN, ok, q, X⟩
theorem aBf (A : Option Addr) (B c : Nat) (bs : List UInt8) (gS a : Nat) (sd : Int) (w : World) (q : Blk w gS 148 (iU A c bs a sd)) (hs : Sl B w A (bs.flatMap eB)) (hB : B ≤ gS) (ok : a ≤ bs.length ∧ 0 ≤ sd ∧ sd < 2147483647) (hbl : bs.length ≤ 1048576) :
   Calls Tryz.prog 144 #[.pointer (some ⟨gS, 0, none⟩)] w (fD fun v w' => ∃ A' c' xs a' sd', v = .slice A' (List.length xs) c' ∧ (xs.length ≤ 17 ∧ ∀ x ∈ xs, x.m.next.length ≤ 5) ∧ Own w' w.heap.size 92 3 A' xs.length c' (xs.flatMap ModeI.cells) ∧ NOwn w' w.heap.size 2 xs ∧ (a' ≤ bs.length ∧ 0 ≤ sd' ∧ sd' < 2147483647) ∧ Blk w' gS 148 (iU A c bs a' sd') ∧ w.grownBy w' (some gS)) := by
 have Bhs := hs.1
 have X := mC w (some gS)
 refine bI (args := [.pointer (some ⟨gS, 0, none⟩)]) Tryz.func144 Tryz.ntmps144 rfl rfl ?_
 refine aE ?_
 refine aA rfl (aD rfl ?_)
 refine aB ?_
 refine aE ?_
 refine aA rfl (aC rfl ?_)
 have LoT := X.size
 refine aA rfl (aS aJd rfl (aO (aEz _ _ _ _ _ _ _ _ q hs hB ok hbl) ?_))
 rintro _ w2 ⟨AT, cT, ys, a4, sd5, rfl, hyl, hd, oT, oTn, ok, b3, x1⟩
 replace hs := hs.grown x1 (by intro g hg; injection hg; omega)
 replace X := cU X x1
 clear x1 q
 replace oT := Own.low oT LoT
 replace oTn := NOwn.low oTn LoT
 have hyl0 := hyl.1
 have hnl4 : ∀ y ∈ ys, y.m.next.length ≤ 4 := fun y hy => (hyl.2 y hy).2.2.1
 have hnl : ∀ y ∈ ys, y.m.next.length ≤ 5 := fun y hy => Nat.le_succ_of_le (hnl4 y hy)
 refine aA rfl (aD rfl ?_)
 refine aB ?_
 refine aE ?_
 refine aA rfl (aC rfl ?_)
 refine aA rfl (aC rfl ?_)
 refine aA rfl (cQ Tryz.underlying25 rfl ?_)
 refine aA rfl (aS fC rfl (aO (dH _ _ _ _ _ _ _ _ _ b3 hs hB ok hbl (by omega)) ?_))
 rintro _ w7 ⟨rk, a9, sd10, rfl, hr11, ok, b8, x6⟩
 replace hs := hs.grown x6 (by intro g hg; injection hg; omega)
 replace oT := oT.grownBlk x6 (Own.neT oT b3 (by decide))
 replace oTn := oTn.grownB b3 x6 (by decide)
 replace X := cU X x6
 clear x6 b3
 refine aA rfl (aD rfl ?_)
 refine aB ?_
 refine aQ ?_
 refine aE ?_
 refine aA rfl (aC rfl ?_)
 refine aA rfl (aS fC rfl (aO (dH _ _ _ _ _ _ _ _ _ b8 hs hB ok hbl (by omega)) ?_))
 rintro _ w13 ⟨r24, a15, sd16, rfl, hr17, ok, b14, x12⟩
 replace hs := hs.grown x12 (by intro g hg; injection hg; omega)
 replace oT := oT.grownBlk x12 (Own.neT oT b8 (by decide))
 replace oTn := oTn.grownB b8 x12 (by decide)
 replace X := cU X x12
 clear x12 b8
 refine aB ?_
 refine aW ?_
 refine aE ?_
 refine aA rfl (dK rfl rfl (fun h18 => ?_) (fun h18 => ?_))
 refine aA rfl (aD rfl ?_)
 refine aB ?_
 refine aR rfl ?_
 refine aM ?_
 refine aA rfl (aC rfl ?_)
 refine aA rfl (aC rfl ?_)
 refine aA rfl (aN dA cY rfl rfl rfl rfl rfl ?_)
 intro g19 w21 eg19 oL bbg19 x20 zg19
 replace oL := Own.low oL X.size
 replace hs := hs.ext x20
 replace oT := oT.ext x20
 replace oTn := oTn.ext x20
 replace b14 := b14.ext x20
 replace X := dE X x20
 replace oL := oL.to (cs' := ([0, 8, 9] : List Int).flatMap eI) rfl
 refine aA rfl (aC rfl ?_)
 refine aA rfl (aS fC rfl (aO (dH _ _ _ _ _ _ _ _ _ b14 hs hB ok hbl (by omega)) ?_))
 rintro _ w23 ⟨rr, a25, sd26, rfl, hr27, ok, b24, x22⟩
 replace hs := hs.grown x22 (by intro g hg; injection hg; omega)
 replace oT := oT.grownBlk x22 (Own.neT oT b14 (by decide))
 replace oTn := oTn.grownB b14 x22 (by decide)
 replace oL := oL.grownBlk x22 (Own.neT oL b14 (by decide))
 replace X := cU X x22
 clear x22 b14
 obtain ⟨y, hy⟩ : ∃ y, ([0, 8, 9] : List Int)[rr.toNat]? = some y := ⟨_, List.getElem?_eq_getElem (by simp; omega)⟩
 obtain ⟨x, hx⟩ : ∃ x, ys[rk.toNat]? = some x := ⟨_, List.getElem?_eq_getElem (by omega)⟩
 refine aA rfl (aT (oL).sl bL rfl dA rfl rfl rfl hy (by omega) ?_)
 refine aA rfl (cX (oL).sl bL hy cY rfl rfl rfl ?_)
 refine aA rfl (aT (oT).sl ModeI.len rfl iA rfl rfl rfl hx (by omega) ?_)
 refine aA rfl (bK iS rfl ?_)
 refine aA rfl (jP oT cY rfl rfl rfl rfl (by omega) (by omega) rfl ?_)
 intro w29 oU hg28 z30
 replace hs := hs.grown hg28 (fun g hg => Q7l Bhs (Own.lt oT hg).1)
 replace oTn := oTn.grownO oT hg28 (by decide)
 replace oL := oL.grown hg28 (Own.neO oL oT (by decide))
 replace b24 := b24.grown hg28 (fun h => Own.neT oT b24 (by decide) h.symm)
 replace X : w.grownBy w29 (some gS) := by first | exact cU X hg28 | exact cV X hg28 (fun g hg => (Own.lt oT hg).1)
 clear hg28 z30
 obtain ⟨zs, hzl, hzn, oR, oRn⟩ : ∃ zs : List ModeI, zs.length = ys.length ∧ (∀ y ∈ zs, y.m.next.length ≤ 5) ∧ Own _ w.heap.size 92 3 AT ys.length cT (zs.flatMap ModeI.cells) ∧ NOwn _ w.heap.size 2 zs := ⟨ys.set rk.toNat ⟨⟨y, x.m.slots, x.m.next⟩, x.A, x.c⟩, List.length_set .., qK hnl (hnl x (List.mem_of_getElem? hx)), oU.to (gH (x := x) (x' := ⟨⟨y, x.m.slots, x.m.next⟩, x.A, x.c⟩) (vs := [.int .i64 y]) ModeI.len (f := 0) (rfl) (by omega) ys rk.toNat hx), oTn.same hx rfl rfl rfl⟩
 refine aB ?_
 refine dJ ?_
 refine aP ?_
 refine aE ?_
 refine aA rfl (aC rfl ?_)
 refine aA rfl (aD rfl ?_)
 refine aB ?_
 refine aV ?_
 refine aK rfl rfl ?_
 · skip
   first
   | (exact ⟨_, _, zs, _, _, by rw [hzl], ⟨by omega, hzn⟩, by rw [hzl]; exact oR, oRn, ok, b24, X⟩)
   | (exact ⟨_, _, List.replicate 17 ⟨⟨0, 0, []⟩, none, 0⟩, _, _, rfl, ⟨by decide, fun x hx => by obtain rfl := List.eq_of_mem_replicate hx; exact Nat.zero_le _⟩, oZ, fun x hx => by obtain rfl := List.eq_of_mem_replicate hx; exact ⟨Own.nil_ _ _ _ _, Nat.zero_le _⟩, ok, b24, X⟩)
   | (exact ⟨none, 0, [], _, _, rfl, ⟨Nat.zero_le _, fun x hx => by simp at hx⟩, Own.nil_ _ _ _ _, NOwn.nil_, ok, b24, X⟩)
   | (exact ⟨_, _, ys, _, _, rfl, ⟨by omega, hnl⟩, oT, oTn, ok, b24, X⟩)
 refine aA rfl (aD rfl ?_)
 refine aB ?_
 refine aL rfl ?_
 refine aE ?_
 refine aA rfl (dK rfl rfl (fun h31 => ?_) (fun h31 => ?_))
 refine aA rfl (aD rfl ?_)
 refine aB ?_
 refine aR rfl ?_
 refine aM ?_
 refine aA rfl (aC rfl ?_)
 refine aA rfl (aC rfl ?_)
 refine aA rfl (aN dA cY rfl rfl rfl rfl rfl ?_)
 intro g32 w34 eg32 oL bbg32 x33 zg32
 replace oL := Own.low oL X.size
 replace hs := hs.ext x33
 replace oT := oT.ext x33
 replace oTn := oTn.ext x33
 replace b14 := b14.ext x33
 replace X := dE X x33
 replace oL := oL.to (cs' := ([0, 16, 17] : List Int).flatMap eI) rfl
 refine aA rfl (aC rfl ?_)
 refine aA rfl (aS fC rfl (aO (dH _ _ _ _ _ _ _ _ _ b14 hs hB ok hbl (by omega)) ?_))
 rintro _ w36 ⟨rr, a38, sd39, rfl, hr40, ok, b37, x35⟩
 replace hs := hs.grown x35 (by intro g hg; injection hg; omega)
 replace oT := oT.grownBlk x35 (Own.neT oT b14 (by decide))
 replace oTn := oTn.grownB b14 x35 (by decide)
 replace oL := oL.grownBlk x35 (Own.neT oL b14 (by decide))
 replace X := cU X x35
 clear x35 b14
 obtain ⟨y, hy⟩ : ∃ y, ([0, 16, 17] : List Int)[rr.toNat]? = some y := ⟨_, List.getElem?_eq_getElem (by simp; omega)⟩
 obtain ⟨x, hx⟩ : ∃ x, ys[rk.toNat]? = some x := ⟨_, List.getElem?_eq_getElem (by omega)⟩
 refine aA rfl (aT (oL).sl bL rfl dA rfl rfl rfl hy (by omega) ?_)
 refine aA rfl (cX (oL).sl bL hy cY rfl rfl rfl ?_)
 refine aA rfl (aT (oT).sl ModeI.len rfl iA rfl rfl rfl hx (by omega) ?_)
 refine aA rfl (bK fU rfl ?_)
 refine aA rfl (jP oT cY rfl rfl rfl rfl (by omega) (by omega) rfl ?_)
 intro w42 oU hg41 z43
 replace hs := hs.grown hg41 (fun g hg => Q7l Bhs (Own.lt oT hg).1)
 replace oTn := oTn.grownO oT hg41 (by decide)
 replace oL := oL.grown hg41 (Own.neO oL oT (by decide))
 replace b37 := b37.grown hg41 (fun h => Own.neT oT b37 (by decide) h.symm)
 replace X : w.grownBy w42 (some gS) := by first | exact cU X hg41 | exact cV X hg41 (fun g hg => (Own.lt oT hg).1)
 clear hg41 z43
 obtain ⟨zs, hzl, hzn, oR, oRn⟩ : ∃ zs : List ModeI, zs.length = ys.length ∧ (∀ y ∈ zs, y.m.next.length ≤ 5) ∧ Own _ w.heap.size 92 3 AT ys.length cT (zs.flatMap ModeI.cells) ∧ NOwn _ w.heap.size 2 zs := ⟨ys.set rk.toNat ⟨⟨x.m.rounds, y, x.m.next⟩, x.A, x.c⟩, List.length_set .., qK hnl (hnl x (List.mem_of_getElem? hx)), oU.to (gH (x := x) (x' := ⟨⟨x.m.rounds, y, x.m.next⟩, x.A, x.c⟩) (vs := [.int .i64 y]) ModeI.len (f := 1) (rfl) (by omega) ys rk.toNat hx), oTn.same hx rfl rfl rfl⟩
 refine aB ?_
 refine dJ ?_
 refine aP ?_
 refine aE ?_
 refine aA rfl (aC rfl ?_)
 refine aA rfl (aD rfl ?_)
 refine aB ?_
 refine aV ?_
 refine aK rfl rfl ?_
 · skip
   first
   | (exact ⟨_, _, zs, _, _, by rw [hzl], ⟨by omega, hzn⟩, by rw [hzl]; exact oR, oRn, ok, b37, X⟩)
   | (exact ⟨_, _, List.replicate 17 ⟨⟨0, 0, []⟩, none, 0⟩, _, _, rfl, ⟨by decide, fun x hx => by obtain rfl := List.eq_of_mem_replicate hx; exact Nat.zero_le _⟩, oZ, fun x hx => by obtain rfl := List.eq_of_mem_replicate hx; exact ⟨Own.nil_ _ _ _ _, Nat.zero_le _⟩, ok, b37, X⟩)
   | (exact ⟨none, 0, [], _, _, rfl, ⟨Nat.zero_le _, fun x hx => by simp at hx⟩, Own.nil_ _ _ _ _, NOwn.nil_, ok, b37, X⟩)
   | (exact ⟨_, _, ys, _, _, rfl, ⟨by omega, hnl⟩, oT, oTn, ok, b37, X⟩)
 refine aA rfl (aD rfl ?_)
 refine aB ?_
 refine aL rfl ?_
 refine aE ?_
 refine aA rfl (dK rfl rfl (fun h44 => ?_) (fun h44 => ?_))
 refine aA rfl (aD rfl ?_)
 refine aB ?_
 refine aR rfl ?_
 refine aJW 19 (fun wz => Own wz w.heap.size 92 3 AT ys.length cT (ys.flatMap ModeI.cells)) mixed ?_
 obtain ⟨w45, ew45⟩ : ∃ wy, wy = World.drew w13 := ⟨_, rfl⟩
 rw [← ew45]
 have xd : Ext w13 w45 := ew45 ▸ Ext.drew w13
 replace hs := hs.ext xd
 replace oT := oT.ext xd
 replace oTn := oTn.ext xd
 replace b14 := b14.ext xd
 replace X := dE X xd; clear xd ew45
 obtain ⟨x, hx⟩ : ∃ x, ys[rk.toNat]? = some x := ⟨_, List.getElem?_eq_getElem (by omega)⟩
 have oX := (oTn x (List.mem_of_getElem? hx)).1
 have oE := oTn.erase rk.toNat
 have hde := hd.erase hx
 have hxl := hnl4 x (List.mem_of_getElem? hx)
 refine mE 0 rfl (by kernel_rfl) rfl (by kernel_rfl) (listed' := #[true, false, false, false, false, false, false, false, false, false, false, false, false, false, false, false, false, false, false, false]) rfl (fun wq sq => aC rfl ⟨rfl, rfl⟩) ?_
 refine mE 1 rfl (by kernel_rfl) rfl (by kernel_rfl) (listed' := #[true, true, false, false, false, false, false, false, false, false, false, false, false, false, false, false, false, false, false, false]) rfl (fun wq sq => aC rfl ⟨rfl, rfl⟩) ?_
 refine mE 2 rfl (by kernel_rfl) rfl (by kernel_rfl) (listed' := #[true, true, true, false, false, false, false, false, false, false, false, false, false, false, false, false, false, false, false, false]) rfl (fun wq sq => aC rfl ⟨rfl, rfl⟩) ?_
 refine mE 3 rfl (by kernel_rfl) rfl (by kernel_rfl) (listed' := #[true, true, true, true, false, false, false, false, false, false, false, false, false, false, false, false, false, false, false, false]) rfl (fun wq sq => aC rfl ⟨rfl, rfl⟩) ?_
 refine mE 4 rfl (by kernel_rfl) rfl (by kernel_rfl) (listed' := #[true, true, true, true, true, false, false, false, false, false, false, false, false, false, false, false, false, false, false, false]) rfl (fun wq sq => aT (sq).sl ModeI.len rfl iA rfl rfl rfl hx (by omega) ⟨rfl, rfl⟩) ?_
 refine mE 5 rfl (by kernel_rfl) rfl (by kernel_rfl) (listed' := #[true, true, true, true, true, true, false, false, false, false, false, false, false, false, false, false, false, false, false, false]) rfl (fun wq sq => bK jD rfl ⟨rfl, rfl⟩) ?_
 refine mE 6 rfl (by kernel_rfl) rfl (by kernel_rfl) (listed' := #[true, true, true, true, true, true, true, false, false, false, false, false, false, false, false, false, false, false, false, false]) rfl (fun wq sq => dQ (sq).sl ModeI.len hx kQ rfl rfl rfl ⟨rfl, rfl⟩) ?_
 refine mE 7 rfl (by kernel_rfl) rfl (by kernel_rfl) (listed' := #[true, true, true, true, true, true, true, true, false, false, false, false, false, false, false, false, false, false, false, false]) rfl (fun wq sq => aC rfl ⟨rfl, rfl⟩) ?_
 refine mE 8 rfl (by kernel_rfl) rfl (by kernel_rfl) (listed' := #[true, true, true, true, true, true, true, true, true, false, false, false, false, false, false, false, false, false, false, false]) rfl (fun wq sq => aC rfl ⟨rfl, rfl⟩) ?_
 refine mE 9 rfl (by kernel_rfl) rfl (by kernel_rfl) (listed' := #[true, true, true, true, true, true, true, true, true, true, false, false, false, false, false, false, false, false, false, false]) rfl (fun wq sq => cQ Tryz.underlying25 rfl ⟨rfl, rfl⟩) ?_
 refine mE 11 rfl (by kernel_rfl) rfl (by kernel_rfl) (listed' := #[true, true, true, true, true, true, true, true, true, true, false, true, false, false, false, false, false, false, false, false]) rfl (fun wq sq => aC rfl ⟨rfl, rfl⟩) ?_
 refine aJV 10 12 rfl rfl rfl rfl (by kernel_rfl) (listed' := #[true, true, true, true, true, true, true, true, true, true, true, true, false, false, false, false, false, false, false, false]) (listed'' := #[true, true, true, true, true, true, true, true, true, true, false, true, true, false, false, false, false, false, false, false]) rfl rfl (fun _ => oT) ?_ ?_
 refine (aN dA cY rfl rfl rfl rfl rfl ?_)
 intro g46 w48 eg46 oL bbg46 x47 zg46
 replace oL := Own.low oL X.size
 replace hs := hs.ext x47
 replace oT := oT.ext x47
 replace b14 := b14.ext x47
 replace oX := oX.ext x47
 replace oE := oE.ext x47
 replace X := dE X x47
 replace oL := oL.to (cs' := ([rk, (ys.length : Nat), 0] : List Int).flatMap eI) rfl
 refine kV 12 rfl rfl (by kernel_rfl) (listed' := #[true, true, true, true, true, true, true, true, true, true, true, true, true, false, false, false, false, false, false, false]) rfl (fun _ => oT) (aS fC rfl (aO (dH _ _ _ _ _ _ _ _ _ b14 hs hB ok hbl (by omega)) ?_))
 rintro _ w50 ⟨rr, a52, sd53, rfl, hr54, ok, b51, x49⟩
 replace hs := hs.grown x49 (by intro g hg; injection hg; omega)
 replace oT := oT.grownBlk x49 (Own.neT oT b14 (by decide))
 replace oX := oX.grownBlk x49 (Own.neT oX b14 (by decide))
 replace oE := oE.grownB b14 x49 (by decide)
 replace oL := oL.grownBlk x49 (Own.neT oL b14 (by decide))
 replace X := cU X x49
 clear x49 b14
 obtain ⟨y, hy⟩ : ∃ y, ([rk, (ys.length : Nat), 0] : List Int)[rr.toNat]? = some y := ⟨_, List.getElem?_eq_getElem (by simp; omega)⟩
 refine kV 13 rfl rfl (by kernel_rfl) (listed' := #[true, true, true, true, true, true, true, true, true, true, true, true, true, true, false, false, false, false, false, false]) rfl (fun _ => oT) (aT (oL).sl bL rfl dA rfl rfl rfl hy (by omega) ?_)
 refine kV 14 rfl rfl (by kernel_rfl) (listed' := #[true, true, true, true, true, true, true, true, true, true, true, true, true, true, true, false, false, false, false, false]) rfl (fun _ => oT) (cX (oL).sl bL hy cY rfl rfl rfl ?_)
 clear oL
 refine kV 15 rfl rfl (by kernel_rfl) (listed' := #[true, true, true, true, true, true, true, true, true, true, true, true, true, true, true, true, false, false, false, false]) rfl (fun _ => oT) (aN dA cY rfl rfl rfl rfl rfl ?_)
 intro g55 w57 eg55 oV bbg55 x56 zg55
 replace oV := Own.low oV X.size
 replace hs := hs.ext x56
 replace oT := oT.ext x56
 replace oX := oX.ext x56
 replace oE := oE.ext x56
 replace b51 := b51.ext x56
 replace X := dE X x56
 refine kV 16 rfl rfl (by kernel_rfl) (listed' := #[true, true, true, true, true, true, true, true, true, true, true, true, true, true, true, true, true, false, false, false]) rfl (fun _ => oT) (cF (ts := #[]) oX X.size oV.sl (by first | rfl | simp) (by first | exact List.all_eq_true.1 rfl | simp [Value.oneCell']) dA cY rfl rfl rfl rfl (by omega) (by omega) ?_)
 intro AoY coY w59 oY hg58
 replace hs := hs.grown hg58 (fun g hg => Q7l Bhs (Own.lt oX hg).1)
 replace oT := oT.grown hg58 (Own.neO oT oX (by decide))
 replace oE := oE.grownX hg58 hde
 replace b51 := b51.grown hg58 (fun h => Own.neT oX b51 (by decide) h.symm)
 replace X := cV X hg58 (fun g hg => (Own.lt oX hg).1)
 clear hg58
 refine kV 17 rfl rfl (by kernel_rfl) (listed' := #[true, true, true, true, true, true, true, true, true, true, true, true, true, true, true, true, true, true, false, false]) rfl (fun _ => oT) (aT (oT).sl ModeI.len rfl iA rfl rfl rfl hx (by omega) ?_)
 refine kV 18 rfl rfl (by kernel_rfl) (listed' := #[true, true, true, true, true, true, true, true, true, true, true, true, true, true, true, true, true, true, true, false]) rfl (fun _ => oT) (bK jD rfl ?_)
 refine kV 19 rfl rfl (by kernel_rfl) (listed' := #[true, true, true, true, true, true, true, true, true, true, true, true, true, true, true, true, true, true, true, true]) rfl (fun _ => oT) (jP oT kQ rfl rfl rfl rfl (by omega) (by omega) rfl ?_)
 intro w61 oU hg60 z62
 replace hs := hs.grown hg60 (fun g hg => Q7l Bhs (Own.lt oT hg).1)
 replace oE := oE.grownO oT hg60 (by decide)
 replace b51 := b51.grown hg60 (fun h => Own.neT oT b51 (by decide) h.symm)
 replace oY := oY.grown hg60 (Own.neO oY oT (by decide))
 replace X : w.grownBy w61 (some gS) := by first | exact cU X hg60 | exact cV X hg60 (fun g hg => (Own.lt oT hg).1)
 clear hg60 z62
 replace oY := oY.to (kG eI x.m.next y).symm
 obtain ⟨zs, hzl, hzn, oR, oRn⟩ : ∃ zs : List ModeI, zs.length = ys.length ∧ (∀ y ∈ zs, y.m.next.length ≤ 5) ∧ Own _ w.heap.size 92 3 AT ys.length cT (zs.flatMap ModeI.cells) ∧ NOwn _ w.heap.size 2 zs := ⟨ys.set rk.toNat ⟨⟨x.m.rounds, x.m.slots, x.m.next ++ [y]⟩, AoY, coY⟩, List.length_set .., qK hnl (by show (x.m.next ++ [y]).length ≤ 5; rw [List.length_append]; simp; omega), oU.to (gH (x := x) (x' := ⟨⟨x.m.rounds, x.m.slots, x.m.next ++ [y]⟩, AoY, coY⟩) (vs := [.slice AoY (x.m.next.length + 1) coY]) ModeI.len (f := 2) (by simp [ModeI.cells]) (by omega) ys rk.toNat hx), NOwn.put oE (x' := ⟨⟨x.m.rounds, x.m.slots, x.m.next ++ [y]⟩, AoY, coY⟩) (by show Own _ _ _ _ _ (x.m.next ++ [y]).length _ _; rw [List.length_append]; exact oY) (by show (x.m.next ++ [y]).length ≤ _; rw [List.length_append]; simp; omega)⟩
 refine aEx rfl (fun h => absurd h (by decide)) (fun aj fj => ⟨_, fj, ?_⟩)
 refine dJ ?_
 refine aP ?_
 refine aE ?_
 refine aA rfl (aC rfl ?_)
 refine aA rfl (aD rfl ?_)
 refine aB ?_
 refine aV ?_
 refine aK rfl rfl ?_
 · skip
   first
   | (exact ⟨_, _, zs, _, _, by rw [hzl], ⟨by omega, hzn⟩, by rw [hzl]; exact oR, oRn, ok, b51, X⟩)
   | (exact ⟨_, _, List.replicate 17 ⟨⟨0, 0, []⟩, none, 0⟩, _, _, rfl, ⟨by decide, fun x hx => by obtain rfl := List.eq_of_mem_replicate hx; exact Nat.zero_le _⟩, oZ, fun x hx => by obtain rfl := List.eq_of_mem_replicate hx; exact ⟨Own.nil_ _ _ _ _, Nat.zero_le _⟩, ok, b51, X⟩)
   | (exact ⟨none, 0, [], _, _, rfl, ⟨Nat.zero_le _, fun x hx => by simp at hx⟩, Own.nil_ _ _ _ _, NOwn.nil_, ok, b51, X⟩)
   | (exact ⟨_, _, ys, _, _, rfl, ⟨by omega, hnl⟩, oT, oTn, ok, b51, X⟩)
 refine (aS fC rfl (aO (dH _ _ _ _ _ _ _ _ _ b14 hs hB ok hbl (by omega)) ?_))
 rintro _ w65 ⟨rr, a67, sd68, rfl, hr69, ok, b66, x63⟩
 replace hs := hs.grown x63 (by intro g hg; injection hg; omega)
 replace oT := oT.grownBlk x63 (Own.neT oT b14 (by decide))
 replace oX := oX.grownBlk x63 (Own.neT oX b14 (by decide))
 replace oE := oE.grownB b14 x63 (by decide)
 replace X := cU X x63
 clear x63 b14
 refine kV 10 rfl rfl (by kernel_rfl) (listed' := #[true, true, true, true, true, true, true, true, true, true, true, true, true, false, false, false, false, false, false, false]) rfl (fun _ => oT) (aN dA cY rfl rfl rfl rfl rfl ?_)
 intro g70 w72 eg70 oL bbg70 x71 zg70
 replace oL := Own.low oL X.size
 replace hs := hs.ext x71
 replace oT := oT.ext x71
 replace oX := oX.ext x71
 replace oE := oE.ext x71
 replace b66 := b66.ext x71
 replace X := dE X x71
 replace oL := oL.to (cs' := ([rk, (ys.length : Nat), 0] : List Int).flatMap eI) rfl
 obtain ⟨y, hy⟩ : ∃ y, ([rk, (ys.length : Nat), 0] : List Int)[rr.toNat]? = some y := ⟨_, List.getElem?_eq_getElem (by simp; omega)⟩
 refine kV 13 rfl rfl (by kernel_rfl) (listed' := #[true, true, true, true, true, true, true, true, true, true, true, true, true, true, false, false, false, false, false, false]) rfl (fun _ => oT) (aT (oL).sl bL rfl dA rfl rfl rfl hy (by omega) ?_)
 refine kV 14 rfl rfl (by kernel_rfl) (listed' := #[true, true, true, true, true, true, true, true, true, true, true, true, true, true, true, false, false, false, false, false]) rfl (fun _ => oT) (cX (oL).sl bL hy cY rfl rfl rfl ?_)
 clear oL
 refine kV 15 rfl rfl (by kernel_rfl) (listed' := #[true, true, true, true, true, true, true, true, true, true, true, true, true, true, true, true, false, false, false, false]) rfl (fun _ => oT) (aN dA cY rfl rfl rfl rfl rfl ?_)
 intro g73 w75 eg73 oV bbg73 x74 zg73
 replace oV := Own.low oV X.size
 replace hs := hs.ext x74
 replace oT := oT.ext x74
 replace oX := oX.ext x74
 replace oE := oE.ext x74
 replace b66 := b66.ext x74
 replace X := dE X x74
 refine kV 16 rfl rfl (by kernel_rfl) (listed' := #[true, true, true, true, true, true, true, true, true, true, true, true, true, true, true, true, true, false, false, false]) rfl (fun _ => oT) (cF (ts := #[]) oX X.size oV.sl (by first | rfl | simp) (by first | exact List.all_eq_true.1 rfl | simp [Value.oneCell']) dA cY rfl rfl rfl rfl (by omega) (by omega) ?_)
 intro AoY coY w77 oY hg76
 replace hs := hs.grown hg76 (fun g hg => Q7l Bhs (Own.lt oX hg).1)
 replace oT := oT.grown hg76 (Own.neO oT oX (by decide))
 replace oE := oE.grownX hg76 hde
 replace b66 := b66.grown hg76 (fun h => Own.neT oX b66 (by decide) h.symm)
 replace X := cV X hg76 (fun g hg => (Own.lt oX hg).1)
 clear hg76
 refine kV 17 rfl rfl (by kernel_rfl) (listed' := #[true, true, true, true, true, true, true, true, true, true, true, true, true, true, true, true, true, true, false, false]) rfl (fun _ => oT) (aT (oT).sl ModeI.len rfl iA rfl rfl rfl hx (by omega) ?_)
 refine kV 18 rfl rfl (by kernel_rfl) (listed' := #[true, true, true, true, true, true, true, true, true, true, true, true, true, true, true, true, true, true, true, false]) rfl (fun _ => oT) (bK jD rfl ?_)
 refine kV 19 rfl rfl (by kernel_rfl) (listed' := #[true, true, true, true, true, true, true, true, true, true, true, true, true, true, true, true, true, true, true, true]) rfl (fun _ => oT) (jP oT kQ rfl rfl rfl rfl (by omega) (by omega) rfl ?_)
 intro w79 oU hg78 z80
 replace hs := hs.grown hg78 (fun g hg => Q7l Bhs (Own.lt oT hg).1)
 replace oE := oE.grownO oT hg78 (by decide)
 replace b66 := b66.grown hg78 (fun h => Own.neT oT b66 (by decide) h.symm)
 replace oY := oY.grown hg78 (Own.neO oY oT (by decide))
 replace X : w.grownBy w79 (some gS) := by first | exact cU X hg78 | exact cV X hg78 (fun g hg => (Own.lt oT hg).1)
 clear hg78 z80
 replace oY := oY.to (kG eI x.m.next y).symm
 obtain ⟨zs, hzl, hzn, oR, oRn⟩ : ∃ zs : List ModeI, zs.length = ys.length ∧ (∀ y ∈ zs, y.m.next.length ≤ 5) ∧ Own _ w.heap.size 92 3 AT ys.length cT (zs.flatMap ModeI.cells) ∧ NOwn _ w.heap.size 2 zs := ⟨ys.set rk.toNat ⟨⟨x.m.rounds, x.m.slots, x.m.next ++ [y]⟩, AoY, coY⟩, List.length_set .., qK hnl (by show (x.m.next ++ [y]).length ≤ 5; rw [List.length_append]; simp; omega), oU.to (gH (x := x) (x' := ⟨⟨x.m.rounds, x.m.slots, x.m.next ++ [y]⟩, AoY, coY⟩) (vs := [.slice AoY (x.m.next.length + 1) coY]) ModeI.len (f := 2) (by simp [ModeI.cells]) (by omega) ys rk.toNat hx), NOwn.put oE (x' := ⟨⟨x.m.rounds, x.m.slots, x.m.next ++ [y]⟩, AoY, coY⟩) (by show Own _ _ _ _ _ (x.m.next ++ [y]).length _ _; rw [List.length_append]; exact oY) (by show (x.m.next ++ [y]).length ≤ _; rw [List.length_append]; simp; omega)⟩
 refine aEx rfl (fun h => absurd h (by decide)) (fun aj fj => ⟨_, fj, ?_⟩)
 refine dJ ?_
 refine aP ?_
 refine aE ?_
 refine aA rfl (aC rfl ?_)
 refine aA rfl (aD rfl ?_)
 refine aB ?_
 refine aV ?_
 refine aK rfl rfl ?_
 · skip
   first
   | (exact ⟨_, _, zs, _, _, by rw [hzl], ⟨by omega, hzn⟩, by rw [hzl]; exact oR, oRn, ok, b66, X⟩)
   | (exact ⟨_, _, List.replicate 17 ⟨⟨0, 0, []⟩, none, 0⟩, _, _, rfl, ⟨by decide, fun x hx => by obtain rfl := List.eq_of_mem_replicate hx; exact Nat.zero_le _⟩, oZ, fun x hx => by obtain rfl := List.eq_of_mem_replicate hx; exact ⟨Own.nil_ _ _ _ _, Nat.zero_le _⟩, ok, b66, X⟩)
   | (exact ⟨none, 0, [], _, _, rfl, ⟨Nat.zero_le _, fun x hx => by simp at hx⟩, Own.nil_ _ _ _ _, NOwn.nil_, ok, b66, X⟩)
   | (exact ⟨_, _, ys, _, _, rfl, ⟨by omega, hnl⟩, oT, oTn, ok, b66, X⟩)
 refine aA rfl (aD rfl ?_)
 refine aB ?_
 refine aL rfl ?_
 refine aE ?_
 refine aA rfl (dK rfl rfl (fun h81 => ?_) (fun h81 => ?_))
 refine aA rfl (aD rfl ?_)
 refine aB ?_
 refine aR rfl ?_
 refine aM ?_
 refine aA rfl (aD rfl ?_)
 refine aB ?_
 refine dJ ?_
 refine aP ?_
 refine aE ?_
 refine aA rfl (aC rfl ?_)
 refine aA rfl (aD rfl ?_)
 refine aB ?_
 refine aV ?_
 refine aK rfl rfl ?_
 · skip
   first
   | (exact ⟨_, _, zs, _, _, by rw [hzl], ⟨by omega, hzn⟩, by rw [hzl]; exact oR, oRn, ok, b14, X⟩)
   | (exact ⟨_, _, List.replicate 17 ⟨⟨0, 0, []⟩, none, 0⟩, _, _, rfl, ⟨by decide, fun x hx => by obtain rfl := List.eq_of_mem_replicate hx; exact Nat.zero_le _⟩, oZ, fun x hx => by obtain rfl := List.eq_of_mem_replicate hx; exact ⟨Own.nil_ _ _ _ _, Nat.zero_le _⟩, ok, b14, X⟩)
   | (exact ⟨none, 0, [], _, _, rfl, ⟨Nat.zero_le _, fun x hx => by simp at hx⟩, Own.nil_ _ _ _ _, NOwn.nil_, ok, b14, X⟩)
   | (exact ⟨_, _, ys, _, _, rfl, ⟨by omega, hnl⟩, oT, oTn, ok, b14, X⟩)
 refine aA rfl (aD rfl ?_)
 refine aB ?_
 refine aL rfl ?_
 refine aE ?_
 refine aA rfl (dK rfl rfl (fun h82 => ?_) (fun h82 => ?_))
 refine aA rfl (aD rfl ?_)
 refine aB ?_
 refine aR rfl ?_
 refine aM ?_
 refine aA rfl (aHB iA hH rfl rfl rfl rfl (show _ = ((17 : Nat) : Int) from rfl) (show _ = ((17 : Nat) : Int) from rfl) (by omega) (by omega) ?_)
 intro gZ w84 egZ oZ x83
 replace oZ := Own.low oZ X.size
 replace hs := hs.ext x83
 replace oT := oT.ext x83
 replace oTn := oTn.ext x83
 replace b14 := b14.ext x83
 replace X := dE X x83
 replace oZ := oZ.to (cs' := (List.replicate 17 (⟨⟨0, 0, []⟩, none, 0⟩ : ModeI)).flatMap ModeI.cells) rfl
 refine aA rfl (aD rfl ?_)
 refine aB ?_
 refine dJ ?_
 refine aP ?_
 refine aE ?_
 refine aA rfl (aC rfl ?_)
 refine aA rfl (aD rfl ?_)
 refine aB ?_
 refine aV ?_
 refine aK rfl rfl ?_
 · skip
   first
   | (exact ⟨_, _, zs, _, _, by rw [hzl], ⟨by omega, hzn⟩, by rw [hzl]; exact oR, oRn, ok, b14, X⟩)
   | (exact ⟨_, _, List.replicate 17 ⟨⟨0, 0, []⟩, none, 0⟩, _, _, rfl, ⟨by decide, fun x hx => by obtain rfl := List.eq_of_mem_replicate hx; exact Nat.zero_le _⟩, oZ, fun x hx => by obtain rfl := List.eq_of_mem_replicate hx; exact ⟨Own.nil_ _ _ _ _, Nat.zero_le _⟩, ok, b14, X⟩)
   | (exact ⟨none, 0, [], _, _, rfl, ⟨Nat.zero_le _, fun x hx => by simp at hx⟩, Own.nil_ _ _ _ _, NOwn.nil_, ok, b14, X⟩)
   | (exact ⟨_, _, ys, _, _, rfl, ⟨by omega, hnl⟩, oT, oTn, ok, b14, X⟩)
 refine aA rfl (aD rfl ?_)
 refine aB ?_
 refine aL rfl ?_
 refine aU ?_
 refine dJ ?_
 refine aP ?_
 refine aE ?_
 refine aA rfl (aC rfl ?_)
 refine aA rfl (aD rfl ?_)
 refine aB ?_
 refine aV ?_
 refine aK rfl rfl ?_
 · skip
   first
   | (exact ⟨_, _, zs, _, _, by rw [hzl], ⟨by omega, hzn⟩, by rw [hzl]; exact oR, oRn, ok, b14, X⟩)
   | (exact ⟨_, _, List.replicate 17 ⟨⟨0, 0, []⟩, none, 0⟩, _, _, rfl, ⟨by decide, fun x hx => by obtain rfl := List.eq_of_mem_replicate hx; exact Nat.zero_le _⟩, oZ, fun x hx => by obtain rfl := List.eq_of_mem_replicate hx; exact ⟨Own.nil_ _ _ _ _, Nat.zero_le _⟩, ok, b14, X⟩)
   | (exact ⟨none, 0, [], _, _, rfl, ⟨Nat.zero_le _, fun x hx => by simp at hx⟩, Own.nil_ _ _ _ _, NOwn.nil_, ok, b14, X⟩)
   | (exact ⟨_, _, ys, _, _, rfl, ⟨by omega, hnl⟩, oT, oTn, ok, b14, X⟩)
end Go.Proofs.YtdoibplhbdkapaaGreatDoor
