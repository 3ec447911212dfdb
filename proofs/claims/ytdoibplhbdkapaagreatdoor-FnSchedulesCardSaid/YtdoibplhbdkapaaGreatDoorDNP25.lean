/- Parts. No condition. -/
import Derived.Test.YtdoibplhbdkapaaGreatDoorDNP23
import Derived.Test.YtdoibplhbdkapaaGreatDoorDNP24
import Derived.Test.YtdoibplhbdkapaaGreatDoorDNP5
import Derived.Test.YtdoibplhbdkapaaGreatDoorDNP4
import Derived.Lib.AppendZeros
import Derived.Test.YtdoibplhbdkapaaGreatDoorDNP14
import Derived.Test.YtdoibplhbdkapaaGreatDoorDNP18
import Derived.Test.YtdoibplhbdkapaaGreatDoorDNP22
import Derived.Test.YtdoibplhbdkapaaGreatDoorDNP3
namespace Go.Proofs.YtdoibplhbdkapaaGreatDoor
open Go.RowKit
set_option linter.unusedVariables false
set_option linter.unusedSimpArgs false
set_option maxRecDepth 20000
def aAv (xs : List Int) : MedlD × Int := if (iZ xs).2 ≠ 0 then (zeroM.d, (iZ xs).2) else jM (iZ xs).1
theorem aE5 {xs : List Int} (h : (iZ xs).2 = 0) : rL (iZ xs).1 = true := by
 unfold iZ at h ⊢
 split at h
 · rename_i hI
   rw [if_pos hI]
   unfold lN at h ⊢
   split at h
   · exact absurd h (by decide)
   · rename_i h1
     rw [if_neg h1]
     split at h
     · rename_i h2
       rw [if_pos h2]
       have h3 := aGb (xR hI)
       simp only [rL, Bool.and_eq_true, decide_eq_true_eq]
       exact ⟨by have := h2.1; omega, List.all_eq_true.2 fun x hx => eD.2 (h3 x hx)⟩
     · exact absurd h (by decide)
 · exact absurd h (by decide)
theorem MOwn.grownX {w w' : World} {lo : Nat} {tN tM tI tS : TypeId} {m : MedlI} {row : Option Nat} (h : MOwn w lo tN tM tI tS m) (hg : w.grownBy w' row) (hr : ∀ g, row = some g → g < lo) : MOwn w' lo tN tM tI tS m :=
 ⟨h.on.grown hg (fun g hg2 e => absurd (hr g hg2) (Nat.not_lt.2 (Own.lt h.on e).1)), h.om.grown hg (fun g hg2 e => absurd (hr g hg2) (Nat.not_lt.2 (Own.lt h.om e).1)),
  h.ox.grownX hg (fun x hx g hg2 e => absurd (hr g hg2) (Nat.not_lt.2 (Own.lt (h.ox x hx).1 e).1)), h.od, h.os.grown hg (fun g hg2 e => absurd (hr g hg2) (Nat.not_lt.2 (Own.lt h.os e).1))⟩
theorem aGf (A : Option Addr) (B c : Nat) (xs : List Int) (w : World) (hs : Sl B w A (xs.flatMap eI)) (hl : xs.length ≤ 1048576) (hcap : xs.length ≤ c) :
   Calls Tryz.prog 20 #[.slice A xs.length c] w (fD fun v w' => ∃ m', v = .tuple #[.agg m'.cells.toArray, .int .i64 (aAv xs).2] ∧ m'.d = (aAv xs).1 ∧ MOwn w' w.heap.size 59 92 2 89 m' ∧ Ext w w') := by
 have Bhs := hs.1
 have X := Q7r w
 refine bI (args := [.slice A xs.length c]) Tryz.func20 Tryz.ntmps20 rfl rfl ?_
 refine aE ?_
 refine aA rfl (dO dP ?_)
 intro g2 w2 eg2 b2 x1 zg2
 have lg2 : w.heap.size ≤ g2 := Q7l X.size (Q7e eg2.symm)
 have pg2hs := Q7l hs.1 (Q7e eg2.symm)
 replace hs := hs.ext x1
 replace X := Q7x X x1
 refine aA rfl (aD rfl ?_)
 refine aB ?_
 refine aE ?_
 refine aA rfl (aC rfl ?_)
 refine aA rfl (aS aKt rfl (aO (aHC _ _ _ _ _ hs hl hcap) ?_))
 rintro _ w4 ⟨A5, c6, rfl, oD, x3⟩
 replace oD := Own.low oD X.size
 replace hs := hs.ext x3
 replace b2 := b2.ext x3
 replace X := Q7x X x3
 refine aA rfl (aC rfl ?_)
 refine aA rfl (dG rfl rfl ?_)
 refine aA rfl (dG rfl rfl ?_)
 refine aA rfl (aD rfl ?_)
 refine aA rfl (aD rfl ?_)
 refine aB ?_
 refine aQ ?_
 refine aE ?_
 refine aA rfl (aC rfl ?_)
 refine aA rfl (hP rfl rfl (fun hD => ?_) (fun hD => ?_))
 refine aB ?_
 refine aR rfl ?_
 refine aE ?_
 refine aA rfl (cO qA dP rfl rfl ?_)
 refine aA rfl (aC rfl ?_)
 refine aA rfl (aX b2 dP rfl rfl rfl rfl rfl rfl ?_)
 intro w9 b5 hg7 z10
 replace hs := hs.grown hg7 (by intro g hg; injection hg; omega)
 replace oD := oD.grownBlk hg7 (Own.neT oD b2 (by decide))
 replace X := X.grown hg7 X.size (by intro g hg; injection hg; omega)
 clear hg7 b2
 refine aA rfl (aD rfl ?_)
 refine aB ?_
 refine aV ?_
 refine bU ?_
 refine fV rfl rfl b5 dP rfl rfl ?_
 · skip
   have e : aAv xs = (zeroM.d, (iZ xs).2) := by rw [aAv, if_pos hD]
   rw [e]; exact ⟨zeroM, rfl, rfl, iI _ _ _ _ _ _, X⟩
 refine aB ?_
 refine aL rfl ?_
 refine aU ?_
 refine aP ?_
 refine aE ?_
 refine aA rfl (aC rfl ?_)
 refine aA rfl (aS aH2 rfl (aO (aEk _ _ _ (iZ xs).1 _ oD.sl (aGd xs) oD.cap) ?_))
 rintro _ w12 ⟨mR, rfl, eR, oR, x11⟩
 replace oR := MOwn.low oR X.size
 replace hs := hs.ext x11
 replace b2 := b2.ext x11
 replace oD := oD.ext x11
 replace X := Q7x X x11
 refine aA rfl (dG rfl rfl ?_)
 refine aA rfl (dG rfl rfl ?_)
 refine aA rfl (aX b2 dP rfl rfl rfl rfl rfl rfl ?_)
 intro w16 b5 hg15 z17
 replace hs := hs.grown hg15 (by intro g hg; injection hg; omega)
 replace oD := oD.grownBlk hg15 (Own.neT oD b2 (by decide))
 replace oR := oR.grownB b2 hg15 ⟨by decide, by decide, by decide, by decide⟩
 replace X := X.grown hg15 X.size (by intro g hg; injection hg; omega)
 clear hg15 b2
 refine aA rfl (aD rfl ?_)
 refine aB ?_
 refine aV ?_
 refine fV rfl rfl b5 dP rfl rfl ?_
 · skip
   have hD0 : (iZ xs).2 = 0 := by simpa using hD
   have e : aAv xs = jM (iZ xs).1 := by rw [aAv, if_neg (by simpa using hD)]
   have e9 : kF (iZ xs).1 = jM (iZ xs).1 := by rw [kF, if_pos (aE5 hD0)]
   rw [e9] at eR ⊢
   rw [e]; exact ⟨mR, rfl, eR, oR, X⟩
section
variable {P : Program} {e : List (Nat × Value)} {ty : TypeId} {w : World} {K : Value → World → Prop} {x y : Operand} {t tn el : TypeId} {s b : Nat} {z : List Value} {a : Bool}
theorem aGg {A : Option Addr} {l c : Nat} (ht : P.underlying t = some (.slice el)) (hx : fF e x = some (.slice A l c)) (h : K (.int .i64 c) w) : OpWp P e (.call ⟨.builtin .cap, #[x], #[t]⟩) ty w K := fun ρ d p a g hρ => by
 have h1 := hρ _ _ hx
 simp [execOp, resolve, invoke, builtin, h1, Builtin.cap_, run_underlying ht, upto, goInt]; exact h
theorem aDE {n : Nat} {k kn : IntKind} (ht : xM P t = some (el, s)) (htn : P.underlying tn = some (.int kn)) (hi : nI P el = some (a, s, b, z)) (hzl : Nat.beq z.length s = true) (h0 : Nat.blt 0 s = true)
   (hx : fF e x = some (.slice none 0 0)) (hy : fF e y = some (.int k (n : Int))) (hn : 0 < n) (hm : n ≤ 9223372036854775807) (hb : n * b ≤ 281474976710656)
   (h : ∀ g c w' cs, g = w.heap.size → Own w' w.heap.size el s (some ⟨g, 0, none⟩) n c cs → Ext w w' → K (.slice (some ⟨g, 0, none⟩) n c) w') : OpWp P e (.call ⟨.builtin .append, #[x, y], #[t, tn]⟩) ty w K := fun ρ d p af g hρ => by
 have g1 := hρ _ _ hx; have g2 := hρ _ _ hy
 obtain ⟨ti, hu, hti, hts⟩ := nX ht
 obtain ⟨d', i', zv, hd, hi', hz, ha, hs, hb', hzv⟩ := kC hi
 obtain rfl : ti = i' := by rw [hti] at hi'; injection hi'
 have hzl' : z.length = s := Nat.eq_of_beq_eq_true hzl
 have h0' : 0 < s := by simpa using h0
 have hzc : zv.cells.size = s := by rw [← hzl', ← hzv]; simp
 have hr := Go.Lib.run_append_nil_zeros (P := P) w t tn ty el ti zv k kn hu htn hti hz n hn (by rw [hts]; exact h0') (by omega) (by rw [hb']; exact hb)
 simp only [execOp, resolve, invoke, builtin, Sem.run_bind, Sem.run_pure, Result.andThen_ok, List.map_toArray, List.map_cons, List.map_nil, g1, g2, hr, upto]
 have hge := grownCap_ge w n 0 el
 have hcm : grownCap w n 0 el ≤ maxLen := grownCap_le_maxLen w n 0 el (by unfold maxLen; omega)
 refine h w.heap.size _ _ (Builtin.zeroCells zv.cells n).toList rfl ⟨by rw [Array.length_toList, size_zeroCells, hzc], .inr ⟨w.heap.size, _, _, rfl, Nat.le_refl _, heap_alloc_new w.drew _, hge, hcm, ?_, ?_⟩⟩ ?_
 · simp only [Array.size_append, size_zeroCells, hzc, ← Nat.add_mul]
   congr 1; omega
 · simp only [Array.toList_append]
   have e1 : n * s = (Builtin.zeroCells zv.cells n).toList.length := by rw [Array.length_toList, size_zeroCells, hzc]
   rw [e1]; exact List.take_left
 · exact (Ext.drew w).trans (Ext.alloc w.drew _)
end
theorem aE6 (n : Nat) (w : World) (hn : n ≤ 1048576) :
   Calls Tryz.prog 216 #[.slice none 0 0, .int .i64 (n : Nat)] w (fD fun v w' => ∃ A' c', v = .slice A' 0 c' ∧ Own w' w.heap.size 2 1 A' 0 c' [] ∧ Ext w w') := by
 have X := Q7r w
 refine bI (args := [.slice none 0 0, .int .i64 (n : Nat)]) Tryz.func216 Tryz.ntmps216 rfl rfl ?_
 refine aE ?_
 refine aA rfl (aD rfl ?_)
 refine aB ?_
 refine aQ ?_
 refine aE ?_
 refine aA rfl (aC rfl ?_)
 refine aA rfl (cH rfl rfl (fun h1 => absurd h1 (by omega)) (fun h1 => ?_))
 refine aB ?_
 refine aL rfl ?_
 refine aU ?_
 refine aP ?_
 refine aQ ?_
 refine aE ?_
 refine aA rfl (aC rfl ?_)
 refine aA rfl (aC rfl ?_)
 refine aA rfl (aGg Tryz.underlying30 rfl ?_)
 refine aA rfl (aC rfl ?_)
 refine aA rfl (cQ Tryz.underlying30 rfl ?_)
 refine aA rfl (fZ rfl rfl (dR (by omega)) ?_)
 refine aA rfl (fZ rfl rfl (show IntKind.i64.wrap _ = ((n : Nat) : Int) by rw [dR (by omega)]; omega) ?_)
 refine aA rfl (aD rfl ?_)
 refine aB ?_
 refine aE ?_
 refine aA rfl (aC rfl ?_)
 refine aA rfl (fX rfl rfl (fun hp => ?_) (fun hp => ?_))
 refine aB ?_
 refine aR rfl ?_
 refine aM ?_
 refine aA rfl (aC rfl ?_)
 refine aA rfl (aC rfl ?_)
 refine aA rfl (aGg Tryz.underlying30 rfl ?_)
 refine aA rfl (pC dA rfl rfl (show _ = ((0 : Nat) : Int) from rfl) (Nat.le_refl _) ?_)
 refine aA rfl (aC rfl ?_)
 refine aA rfl (aDE (n := n) dA Tryz.underlying3 cY rfl rfl rfl rfl (by omega) (by omega) (by omega) ?_)
 intro gZ cZ wZ csZ eZ oZ xZ
 replace X := Q7x X xZ
 refine aA rfl (aC rfl ?_)
 refine aA rfl (cQ Tryz.underlying30 rfl ?_)
 refine aA rfl (pC dA rfl rfl (show _ = ((0 : Nat) : Int) from rfl) (Nat.zero_le _) ?_)
 have oY := Own.pre oZ (Nat.zero_le n)
 refine aA rfl (aD rfl ?_)
 refine aB ?_
 refine aP ?_
 refine aE ?_
 refine aA rfl (aC rfl ?_)
 refine aA rfl (aD rfl ?_)
 refine aB ?_
 refine aV ?_
 refine aK rfl rfl ?_
 · skip
   first
   | (exact ⟨_, _, rfl, oY.to (by simp), X⟩)
   | (exact ⟨none, 0, rfl, Own.nil_ _ _ _ _, X⟩)
 refine aB ?_
 refine aL rfl ?_
 refine aU ?_
 refine aP ?_
 refine aE ?_
 refine aA rfl (aC rfl ?_)
 refine aA rfl (aD rfl ?_)
 refine aB ?_
 refine aV ?_
 refine aK rfl rfl ?_
 · skip
   first
   | (exact ⟨_, _, rfl, oY.to (by simp), X⟩)
   | (exact ⟨none, 0, rfl, Own.nil_ _ _ _ _, X⟩)
theorem aGh (A : Option Addr) (B B2 c : Nat) (rs : List ModeI) (w : World) (hs : Sl B w A (rs.flatMap pP)) (hn : Nexts B2 w rs) (hl : rs.length ≤ 1000) (hL : (qL rs).length ≤ 1048576) :
   Calls Tryz.prog 146 #[.slice A rs.length c] w (fD fun v w' => ∃ A' c', v = .slice A' (qL rs).length c' ∧ Own w' w.heap.size 2 1 A' (qL rs).length c' ((qL rs).flatMap eI) ∧ Ext w w') := by
 have hle := fun k => aHd rs k
 have Bhs := hs.1
 have Bhn := hn.1
 have X := Q7r w
 refine bI (args := [.slice A rs.length c]) Tryz.func146 Tryz.ntmps146 rfl rfl ?_
 refine aE ?_
 refine aA rfl (aD rfl ?_)
 refine aB ?_
 refine aE ?_
 refine aA rfl (aD rfl ?_)
 refine aB ?_
 refine aQ ?_
 refine aE ?_
 refine aA rfl (aC rfl ?_)
 refine aA rfl (cQ Tryz.underlying107 rfl ?_)
 refine aA rfl (aC rfl ?_)
 refine aB ?_
 refine aW ?_
 refine dD (G := Nat × Int) (fun ⟨k, t⟩ => [(0, .slice A rs.length c), (2, .slice none 0 0), (9, .slice A rs.length c), (10, .int .i64 (rs.length : Nat)), (3, .int .i64 t), (11, .int .i64 (k : Nat))]) (fun ⟨k, t⟩ wr => k ≤ rs.length ∧ t = ((qL (rs.take k)).length : Int) ∧ Sl B wr A (rs.flatMap pP) ∧ Nexts B2 wr rs ∧ Ext w wr) (fun ⟨k, t⟩ => rs.length - k) (0, 0) (.cons rfl (.cons rfl (.cons rfl (.cons rfl (.cons rfl (.cons rfl (.nil _))))))) ?_ ?_
 · exact ⟨by omega, rfl, hs, hn, X⟩
 clear hs hn
 clear X
 rintro ⟨k, t⟩ wr ⟨hk0, ht, hs, hn, X⟩
 refine aE ?_
 refine aA rfl (cH rfl rfl (fun hk => ?_) (fun hk => ?_))
 obtain ⟨x, hx, dx⟩ := dM hk
 have hlk := hle k
 have hlk1 := hle (k + 1)
 rw [pQ hx, List.length_append] at hlk1
 refine aB ?_
 refine aQ ?_
 refine aR rfl ?_
 refine aU ?_
 refine aP ?_
 refine aQ ?_
 refine aW ?_
 refine aE ?_
 refine aA rfl (aT hs iP rfl rJ rfl rfl rfl hx rfl ?_)
 refine aA rfl (cX hs iP hx kQ rfl rfl rfl ?_)
 refine aA rfl (aD rfl ?_)
 refine aB ?_
 refine aE ?_
 refine aA rfl (aC rfl ?_)
 refine aA rfl (aC rfl ?_)
 refine aA rfl (cQ Tryz.underlying30 rfl ?_)
 refine aA rfl (aZ rfl rfl (dR (by omega)) ?_)
 refine aA rfl (aD rfl ?_)
 refine aB ?_
 refine aE ?_
 refine aA rfl (aC rfl ?_)
 refine aA rfl (cH rfl rfl (fun h1 => absurd h1 (by omega)) (fun h1 => ?_))
 refine aB ?_
 refine aL rfl ?_
 refine aU ?_
 refine dJ ?_
 refine aP ?_
 refine aM ?_
 refine aA rfl (aZ rfl rfl (dR (by omega)) ?_)
 refine aA rfl (aC rfl ?_)
 refine aB ?_
 refine aP ⟨(k + 1, t + (x.m.next.length : Int)), (.cons rfl (.cons rfl (.cons rfl (.cons rfl (.cons rfl (.cons rfl (.nil _))))))), ?_, ?_⟩
 · exact ⟨by omega, (by rw [pQ hx, List.length_append]; omega), hs, hn, X⟩
 · first | omega | (dsimp only; omega)
 have hkk : k = rs.length := by omega
 refine aB ?_
 refine aQ ?_
 refine aL rfl ?_
 refine dC ?_
 refine dB ?_
 refine dB ?_
 refine eA ?_
 refine aP ?_
 refine aE ?_
 refine aA rfl (aC rfl ?_)
 subst ht
 refine aA rfl (aS aJe rfl (aO (aE6 (qL (rs.take k)).length _ (by have := hle k; omega)) ?_))
 rintro _ w3 ⟨AG, cG, rfl, oG, x2⟩
 replace oG := Own.low oG X.size
 replace hs := hs.ext x2
 replace hn := hn.ext x2
 replace X := Q7x X x2
 refine aA rfl (aD rfl ?_)
 refine aB ?_
 refine aQ ?_
 refine aE ?_
 refine aA rfl (aC rfl ?_)
 refine aA rfl (cQ Tryz.underlying107 rfl ?_)
 refine aA rfl (aC rfl ?_)
 refine aB ?_
 refine aW ?_
 refine dD (G := Nat × Nat × Option Addr × Nat) (fun ⟨j, n1, A1, c1⟩ => [(2, .slice none 0 0), (25, .slice A rs.length c), (26, .int .i64 (rs.length : Nat)), (6, .slice A1 n1 c1), (27, .int .i64 (j : Nat))]) (fun ⟨j, n1, A1, c1⟩ wr => j ≤ rs.length ∧ n1 = (qL (rs.take j)).length ∧ Own wr w.heap.size 2 1 A1 n1 c1 ((qL (rs.take j)).flatMap eI) ∧ Sl B wr A (rs.flatMap pP) ∧ Nexts B2 wr rs ∧ Ext w wr) (fun ⟨j, n1, A1, c1⟩ => rs.length - j) (0, 0, AG, cG) (.cons rfl (.cons rfl (.cons rfl (.cons rfl (.cons rfl (.nil _)))))) ?_ ?_
 · exact ⟨by omega, rfl, oG, hs, hn, X⟩
 clear hs hn oG
 clear X
 rintro ⟨j, n1, A1, c1⟩ wr ⟨hj0, hn1, oO, hs, hn, X⟩
 refine aE ?_
 refine aA rfl (cH rfl rfl (fun hj => ?_) (fun hj => ?_))
 obtain ⟨y, hy, dy⟩ := dM hj
 have hlj := hle (j + 1)
 rw [pQ hy, List.length_append] at hlj
 refine aB ?_
 refine aQ ?_
 refine aR rfl ?_
 refine aU ?_
 refine aP ?_
 refine aQ ?_
 refine aW ?_
 refine aE ?_
 refine aA rfl (aT hs iP rfl rJ rfl rfl rfl hy rfl ?_)
 have hny := hn.at_ hy
 refine aA rfl (cX hs iP hy kQ rfl rfl rfl ?_)
 refine aA rfl (aD rfl ?_)
 refine aB ?_
 refine aM ?_
 refine aA rfl (aC rfl ?_)
 refine aA rfl (aC rfl ?_)
 refine aA rfl (cF (ts := #[]) oO X.size hny (fB bL _) (eF _) dA cY rfl rfl rfl rfl (by omega) (by omega) ?_)
 intro AoN coN w5 oN hg4
 replace hs := hs.grown hg4 (fun g hg => Q7l Bhs (Own.lt oO hg).1)
 replace hn := hn.grown hg4 (fun g hg => Q7l Bhn (Own.lt oO hg).1)
 replace hny := hny.grown hg4 (fun g hg => Q7l Bhn (Own.lt oO hg).1)
 replace X := X.grown hg4 X.size (fun g hg => (Own.lt oO hg).1)
 clear hg4
 refine aA rfl (aD rfl ?_)
 refine aB ?_
 refine dJ ?_
 refine aP ?_
 refine aM ?_
 refine aA rfl (aZ rfl rfl (dR (by omega)) ?_)
 refine aA rfl (aC rfl ?_)
 refine aB ?_
 refine aP ⟨(j + 1, n1 + y.m.next.length, AoN, coN), (.cons rfl (.cons rfl (.cons rfl (.cons rfl (.cons rfl (.nil _)))))), ?_, ?_⟩
 · exact ⟨by omega, (by rw [pQ hy, List.length_append]; omega), oN.to (by rw [pQ hy, List.flatMap_append]), hs, hn, X⟩
 · first | omega | (dsimp only; omega)
 refine aB ?_
 refine aQ ?_
 refine aL rfl ?_
 refine dC ?_
 refine dB ?_
 refine dB ?_
 refine eA ?_
 refine aP ?_
 refine aE ?_
 refine aA rfl (aC rfl ?_)
 refine aA rfl (aD rfl ?_)
 refine aB ?_
 refine aV ?_
 refine aK rfl rfl ?_
 · skip
   rw [show j = rs.length by omega, List.take_length] at oO hn1
   rw [← hn1]; exact ⟨A1, c1, rfl, oO, X⟩
theorem aBx (z : Int) (w : World) (hz : 1 ≤ z ∧ z ≤ 16777215) :
   Calls Tryz.prog 147 #[.int .i64 z] w (fD fun v w' => ∃ A' c', v = .slice A' 3 c' ∧ Own w' w.heap.size 2 1 A' 3 c' ((idB z).flatMap eI) ∧ Ext w w') := by
 have X := Q7r w
 refine bI (args := [.int .i64 z]) Tryz.func147 Tryz.ntmps147 rfl rfl ?_
 refine aE ?_
 refine aA rfl (aD rfl ?_)
 refine aB ?_
 refine aE ?_
 refine aA rfl (aC rfl ?_)
 refine aA rfl (qU rfl rfl (by omega) (aJ0 (by omega)) ?_)
 refine aA rfl (aC rfl ?_)
 refine aA rfl (qU rfl rfl (by omega) (aKH (by omega)) ?_)
 refine aA rfl (qT rfl rfl (aFB (by omega)) ?_)
 refine aA rfl (aC rfl ?_)
 refine aA rfl (qT rfl rfl (aFB (by omega)) ?_)
 refine aA rfl (aN dA cY rfl rfl rfl rfl rfl ?_)
 intro g1 w3 eg1 oS bbg1 x2 zg1
 replace oS := Own.low oS X.size
 replace X := Q7x X x2
 refine aA rfl (aD rfl ?_)
 refine aB ?_
 refine aV ?_
 refine aK rfl rfl ?_
 exact ⟨_, _, rfl, oS.to rfl, X⟩
theorem zL (m : MedlI) (B : Nat) (w : World) (hm : Med B w m) (hz : m.small) (hI : iY m.d = true) :
   Calls Tryz.prog 71 #[.agg m.cells.toArray] w (fD fun v w' => ∃ A' c', v = .slice A' (fR m.d).length c' ∧ Own w' w.heap.size 2 1 A' (fR m.d).length c' ((fR m.d).flatMap eI) ∧ Ext w w') := by
 have hls := hz.ls
 have hlm := hz.lm
 have hln := hz.ln
 have wf := kK.1 hI
 have hid := eD.1 wf.id
 have hid1 : 1 ≤ m.id ∧ m.id ≤ 16777215 := hid
 have hL1 : (mW m.ns).length ≤ 353 := aC7 wf.nt
 have hL2 : (mV (m.ms.map (·.m)) m.ms.length).length ≤ 305 := by have h := aC8 wf.mt; rwa [show m.d.ms.length = m.ms.length from List.length_map ..] at h
 have hL3 : (vI m.ss).length = 1 + 7 * m.ss.length := uS (Nat.le_refl _)
 have hL4 : m.ss.length ≤ 120 := mT wf.st
 have hNt : dV m.ns = true := wf.nt
 have hSt : gR m.ss = true := wf.st
 have eS : fR m.d = idB m.id ++ mW m.ns ++ (mV (m.ms.map (·.m)) m.ms.length) ++ vI m.ss := by unfold fR; rw [show m.d.ms.length = m.ms.length from List.length_map ..]; rfl
 have Bhm := hm.1
 have X := Q7r w
 refine bI (args := [.agg m.cells.toArray]) Tryz.func71 Tryz.ntmps71 rfl rfl ?_
 refine aE ?_
 refine aA rfl (eE rfl rfl ?_)
 intro g4 w3 eg4 b1 x2 zg4
 have lg4 : w.heap.size ≤ g4 := Q7l X.size (Q7e eg4.symm)
 have pg4hm := Q7l hm.1 (Q7e eg4.symm)
 replace hm := hm.ext x2
 replace X := Q7x X x2
 refine aA rfl (aD rfl ?_)
 refine aB ?_
 refine aE ?_
 refine aA rfl (aF mA rfl rfl ?_)
 refine aA rfl (aI b1 cY rfl rfl ?_)
 refine aA rfl (iE rfl rfl (by omega) (xW (by omega)) ?_)
 refine aA rfl (aF mA rfl rfl ?_)
 refine aA rfl (aI b1 cY rfl rfl ?_)
 refine aA rfl (iE rfl rfl (by omega) (xW (by omega)) ?_)
 refine aA rfl (fN rfl rfl (by omega) (sV (by omega)) ?_)
 refine aA rfl (aF mA rfl rfl ?_)
 refine aA rfl (aI b1 cY rfl rfl ?_)
 refine aA rfl (fN rfl rfl (by omega) (sV (by omega)) ?_)
 refine aA rfl (aN dA cY rfl rfl rfl rfl rfl ?_)
 intro g5 w7 eg5 o1 bbg5 x6 zg5
 replace o1 := Own.low o1 X.size
 replace hm := hm.ext x6
 replace b1 := b1.ext x6
 replace X := Q7x X x6
 replace o1 := o1.to (cs' := (idB m.id).flatMap eI) rfl
 refine aA rfl (aD rfl ?_)
 refine aB ?_
 refine aE ?_
 refine aA rfl (aC rfl ?_)
 refine aA rfl (aF kP rfl rfl ?_)
 refine aA rfl (aI b1 vV rfl rfl ?_)
 refine aA rfl (aS aIW rfl (aO (aDq _ _ _ m.ns _ hm.sn hNt) ?_))
 rintro _ w9 ⟨A10, c11, rfl, oA, x8⟩
 replace oA := Own.low oA X.size
 replace hm := hm.ext x8
 replace b1 := b1.ext x8
 replace o1 := o1.ext x8
 replace X := Q7x X x8
 refine aA rfl (cF (ts := #[]) o1 X.size oA.sl (fB bL _) (eF _) dA cY rfl rfl rfl rfl (by omega) (by omega) ?_)
 intro Ao2 co2 w13 o2 hg12
 replace hm := hm.grown hg12 (fun g hg => Q7l Bhm (Own.lt o1 hg).1)
 replace b1 := b1.grown hg12 (fun h => Own.neT o1 b1 (by decide) h.symm)
 replace X := X.grown hg12 X.size (fun g hg => (Own.lt o1 hg).1)
 clear hg12
 refine aA rfl (aD rfl ?_)
 refine aB ?_
 refine aE ?_
 refine aA rfl (aC rfl ?_)
 refine aA rfl (aF fO rfl rfl ?_)
 refine aA rfl (aI b1 mK rfl rfl ?_)
 refine aA rfl (aS aIX rfl (aO (aC6 _ _ _ _ m.ms _ hm.sm hm.sx hlm hz.lx) ?_))
 rintro _ w15 ⟨A16, c17, rfl, oB, x14⟩
 replace oB := Own.low oB X.size
 replace hm := hm.ext x14
 replace b1 := b1.ext x14
 replace o2 := o2.ext x14
 replace X := Q7x X x14
 refine aA rfl (cF (ts := #[]) o2 X.size oB.sl (fB bL _) (eF _) dA cY rfl rfl rfl rfl (by omega) (by omega) ?_)
 intro Ao3 co3 w19 o3 hg18
 replace hm := hm.grown hg18 (fun g hg => Q7l Bhm (Own.lt o2 hg).1)
 replace b1 := b1.grown hg18 (fun h => Own.neT o2 b1 (by decide) h.symm)
 replace X := X.grown hg18 X.size (fun g hg => (Own.lt o2 hg).1)
 clear hg18
 refine aA rfl (aD rfl ?_)
 refine aB ?_
 refine aE ?_
 refine aA rfl (aC rfl ?_)
 refine aA rfl (aF dU rfl rfl ?_)
 refine aA rfl (aI b1 iF rfl rfl ?_)
 refine aA rfl (aS aIY rfl (aO (aC3 _ _ _ m.ss _ hm.ss hSt) ?_))
 rintro _ w21 ⟨A22, c23, rfl, oC, x20⟩
 replace oC := Own.low oC X.size
 replace hm := hm.ext x20
 replace b1 := b1.ext x20
 replace o3 := o3.ext x20
 replace X := Q7x X x20
 refine aA rfl (cF (ts := #[]) o3 X.size oC.sl (by rw [fB bL, hL3]) (eF _) dA cY rfl rfl rfl rfl (by omega) (by omega) ?_)
 intro Ao4 co4 w25 o4 hg24
 replace hm := hm.grown hg24 (fun g hg => Q7l Bhm (Own.lt o3 hg).1)
 replace b1 := b1.grown hg24 (fun h => Own.neT o3 b1 (by decide) h.symm)
 replace X := X.grown hg24 X.size (fun g hg => (Own.lt o3 hg).1)
 clear hg24
 refine aA rfl (aD rfl ?_)
 refine aB ?_
 refine aV ?_
 refine aK rfl rfl ?_
 · skip
   have e1 : (fR m.d).length = 3 + (mW m.ns).length + (mV (m.ms.map (·.m)) m.ms.length).length + (1 + 7 * m.ss.length) := by rw [eS, List.length_append, List.length_append, List.length_append, hL3]; rfl
   rw [e1]
   exact ⟨_, _, rfl, o4.to (by rw [eS, List.flatMap_append, List.flatMap_append, List.flatMap_append]), X⟩
theorem rI (m : MedlI) (B : Nat) (w : World) (hm : Med B w m) (hz : m.small) (hI : iY m.d = true) :
   Calls Tryz.prog 68 #[.agg m.cells.toArray] w (fD fun v w' => ∃ A' c', v = .slice A' (fR m.d).length c' ∧ Own w' w.heap.size 2 1 A' (fR m.d).length c' ((fR m.d).flatMap eI) ∧ Ext w w') := by
 have hls := hz.ls
 have hlm := hz.lm
 have hln := hz.ln
 have wf := kK.1 hI
 have hid := eD.1 wf.id
 have hid1 : 1 ≤ m.id ∧ m.id ≤ 16777215 := hid
 have hL1 : (mW m.ns).length ≤ 353 := aC7 wf.nt
 have hL2 : (mV (m.ms.map (·.m)) m.ms.length).length ≤ 305 := by have h := aC8 wf.mt; rwa [show m.d.ms.length = m.ms.length from List.length_map ..] at h
 have hL3 : (vI m.ss).length = 1 + 7 * m.ss.length := uS (Nat.le_refl _)
 have hL4 : m.ss.length ≤ 120 := mT wf.st
 have hNt : dV m.ns = true := wf.nt
 have hSt : gR m.ss = true := wf.st
 have eS : fR m.d = idB m.id ++ mW m.ns ++ (mV (m.ms.map (·.m)) m.ms.length) ++ vI m.ss := by unfold fR; rw [show m.d.ms.length = m.ms.length from List.length_map ..]; rfl
 have Bhm := hm.1
 have X := Q7r w
 refine bI (args := [.agg m.cells.toArray]) Tryz.func68 Tryz.ntmps68 rfl rfl ?_
 refine aE ?_
 refine aA rfl (eE rfl rfl ?_)
 intro gM w2 egM bM x1 zgM
 have lgM : w.heap.size ≤ gM := Q7l X.size (Q7e egM.symm)
 have pgMhm := Q7l hm.1 (Q7e egM.symm)
 replace hm := hm.ext x1
 replace X := Q7x X x1
 refine aA rfl (aD rfl ?_)
 refine aB ?_
 refine vY (fun wz => Blk wz gM 28 m.cells) mixed ?_
 obtain ⟨w3, ew3⟩ : ∃ wy, wy = World.drew w2 := ⟨_, rfl⟩
 rw [← ew3]
 have xd : Ext w2 w3 := ew3 ▸ Ext.drew w2
 replace hm := hm.ext xd
 replace bM := bM.ext xd
 replace X := Q7x X xd; clear xd ew3
 refine dI 0 rfl (by kernel_rfl) rfl (by kernel_rfl) (listed' := #[true, false, false, false, false, false, false, false, false, false, false, false, false, false, false]) rfl (fun wq sq => aF mA rfl rfl ⟨rfl, rfl⟩) ?_
 refine dI 1 rfl (by kernel_rfl) rfl (by kernel_rfl) (listed' := #[true, true, false, false, false, false, false, false, false, false, false, false, false, false, false]) rfl (fun wq sq => aI sq cY rfl rfl ⟨rfl, rfl⟩) ?_
 refine dI 3 rfl (by kernel_rfl) rfl (by kernel_rfl) (listed' := #[true, true, false, true, false, false, false, false, false, false, false, false, false, false, false]) rfl (fun wq sq => aF kP rfl rfl ⟨rfl, rfl⟩) ?_
 refine dI 4 rfl (by kernel_rfl) rfl (by kernel_rfl) (listed' := #[true, true, false, true, true, false, false, false, false, false, false, false, false, false, false]) rfl (fun wq sq => aI sq vV rfl rfl ⟨rfl, rfl⟩) ?_
 refine dI 6 rfl (by kernel_rfl) rfl (by kernel_rfl) (listed' := #[true, true, false, true, true, false, true, false, false, false, false, false, false, false, false]) rfl (fun wq sq => aF fO rfl rfl ⟨rfl, rfl⟩) ?_
 refine dI 7 rfl (by kernel_rfl) rfl (by kernel_rfl) (listed' := #[true, true, false, true, true, false, true, true, false, false, false, false, false, false, false]) rfl (fun wq sq => aI sq mK rfl rfl ⟨rfl, rfl⟩) ?_
 refine dI 9 rfl (by kernel_rfl) rfl (by kernel_rfl) (listed' := #[true, true, false, true, true, false, true, true, false, true, false, false, false, false, false]) rfl (fun wq sq => aF dU rfl rfl ⟨rfl, rfl⟩) ?_
 refine dI 10 rfl (by kernel_rfl) rfl (by kernel_rfl) (listed' := #[true, true, false, true, true, false, true, true, false, true, true, false, false, false, false]) rfl (fun wq sq => aI sq iF rfl rfl ⟨rfl, rfl⟩) ?_
 refine fM 2 rfl rfl (by kernel_rfl) (listed' := #[true, true, true, true, true, false, true, true, false, true, true, false, false, false, false]) rfl bM (aS aGx rfl (aO (aBx m.id _ hid1) ?_))
 rintro _ w5 ⟨A1, c1, rfl, o1, x4⟩
 replace o1 := Own.low o1 X.size
 replace hm := hm.ext x4
 replace bM := bM.ext x4
 replace X := Q7x X x4
 refine fM 5 rfl rfl (by kernel_rfl) (listed' := #[true, true, true, true, true, true, true, true, false, true, true, false, false, false, false]) rfl bM (aS aDK rfl (aO (mJ _ _ _ m.ns _ hm.sn hNt) ?_))
 rintro _ w7 ⟨A2, c2, rfl, o2, x6⟩
 replace o2 := Own.low o2 X.size
 replace hm := hm.ext x6
 replace bM := bM.ext x6
 replace o1 := o1.ext x6
 replace X := Q7x X x6
 refine fM 8 rfl rfl (by kernel_rfl) (listed' := #[true, true, true, true, true, true, true, true, true, true, true, false, false, false, false]) rfl bM (aS aIT rfl (aO (vK _ _ _ _ m.ms _ hm.sm hm.sx hlm hz.lx) ?_))
 rintro _ w9 ⟨A3, c3, rfl, o3, x8⟩
 replace o3 := Own.low o3 X.size
 replace hm := hm.ext x8
 replace bM := bM.ext x8
 replace o1 := o1.ext x8
 replace o2 := o2.ext x8
 replace X := Q7x X x8
 refine fM 11 rfl rfl (by kernel_rfl) (listed' := #[true, true, true, true, true, true, true, true, true, true, true, true, false, false, false]) rfl bM (aS aIU rfl (aO (vJ _ _ _ m.ss _ hm.ss hSt) ?_))
 rintro _ w11 ⟨A4, c4, rfl, o4, x10⟩
 replace o4 := Own.low o4 X.size
 replace hm := hm.ext x10
 replace bM := bM.ext x10
 replace o1 := o1.ext x10
 replace o2 := o2.ext x10
 replace o3 := o3.ext x10
 replace X := Q7x X x10
 refine fM 12 rfl rfl (by kernel_rfl) (listed' := #[true, true, true, true, true, true, true, true, true, true, true, true, true, false, false]) rfl bM (aN rJ kQ rfl rfl rfl rfl rfl ?_)
 intro gQ w13 egQ oQ bbgQ x12 zgQ
 replace oQ := Own.low oQ X.size
 replace hm := hm.ext x12
 replace bM := bM.ext x12
 replace o1 := o1.ext x12
 replace o2 := o2.ext x12
 replace o3 := o3.ext x12
 replace o4 := o4.ext x12
 replace X := Q7x X x12
 replace oQ := oQ.to (cs' := ([(kS A1 c1 (idB m.id)), (kS A2 c2 (mW m.ns)), (kS A3 c3 (mV (m.ms.map (·.m)) m.ms.length)), (kS A4 c4 (vI m.ss))] : List ModeI).flatMap pP) (by
   have h4 : (vI m.ss).length = 1 + 7 * m.ss.length := hL3
   show _ = [Value.slice A1 (idB m.id).length c1, Value.slice A2 (mW m.ns).length c2, Value.slice A3 (mV (m.ms.map (·.m)) m.ms.length).length c3, Value.slice A4 (vI m.ss).length c4]
   rw [h4]; rfl)
 have hnx : Nexts _ _ [(kS A1 c1 (idB m.id)), (kS A2 c2 (mW m.ns)), (kS A3 c3 (mV (m.ms.map (·.m)) m.ms.length)), (kS A4 c4 (vI m.ss))] := ⟨Nat.le_refl _, fun x hx => by
   simp only [List.mem_cons, List.not_mem_nil, or_false] at hx
   rcases hx with rfl | rfl | rfl | rfl
   · exact ⟨o1.sl, by show (idB m.id).length ≤ _; simp [idB]⟩
   · exact ⟨o2.sl, by show (mW m.ns).length ≤ _; omega⟩
   · exact ⟨o3.sl, by show (mV (m.ms.map (·.m)) m.ms.length).length ≤ _; omega⟩
   · exact ⟨o4.sl, by show (vI m.ss).length ≤ _; omega⟩⟩
 have hsum : qL [(kS A1 c1 (idB m.id)), (kS A2 c2 (mW m.ns)), (kS A3 c3 (mV (m.ms.map (·.m)) m.ms.length)), (kS A4 c4 (vI m.ss))] = fR m.d := by rw [eS]; simp [qL, kS]
 refine fM 13 rfl rfl (by kernel_rfl) (listed' := #[true, true, true, true, true, true, true, true, true, true, true, true, true, true, false]) rfl bM (aS aIS rfl (aO (aGh _ _ _ _ [(kS A1 c1 (idB m.id)), (kS A2 c2 (mW m.ns)), (kS A3 c3 (mV (m.ms.map (·.m)) m.ms.length)), (kS A4 c4 (vI m.ss))] _ oQ.sl hnx (by show 4 ≤ 1000; omega) (by rw [hsum]; have := aD6 hI; omega)) ?_))
 rintro _ w15 ⟨A16, c17, rfl, oR, x14⟩
 replace oR := Own.low oR X.size
 replace hm := hm.ext x14
 replace bM := bM.ext x14
 replace o1 := o1.ext x14
 replace o2 := o2.ext x14
 replace o3 := o3.ext x14
 replace o4 := o4.ext x14
 replace oQ := oQ.ext x14
 replace X := Q7x X x14
 refine dI 14 rfl (by kernel_rfl) rfl (by kernel_rfl) (listed' := #[true, true, true, true, true, true, true, true, true, true, true, true, true, true, true]) rfl (fun wq sq => aD rfl ⟨rfl, rfl⟩) ?_
 refine kA rfl bM (fun aj fj => ⟨_, fj, ?_⟩)
 refine aV ?_
 refine aK rfl rfl ?_
 · skip
   rw [hsum] at oR ⊢
   exact ⟨_, _, rfl, oR, X⟩
theorem aHD (m : MedlI) (B : Nat) (w : World) (hm : Med B w m) (hz : m.small) :
   Calls Tryz.prog 16 #[.agg m.cells.toArray] w (fD fun v w' => ∃ A' c', v = .tuple #[.slice A' (lG m.d).1.length c', .int .i64 (lG m.d).2] ∧ Own w' w.heap.size 2 1 A' (lG m.d).1.length c' ((lG m.d).1.flatMap eI) ∧ Ext w w') := by
 have Bhm := hm.1
 have X := Q7r w
 refine bI (args := [.agg m.cells.toArray]) Tryz.func16 Tryz.ntmps16 rfl rfl ?_
 refine aE ?_
 refine aA rfl (eE rfl rfl ?_)
 intro g4 w3 eg4 b1 x2 zg4
 have lg4 : w.heap.size ≤ g4 := Q7l X.size (Q7e eg4.symm)
 have pg4hm := Q7l hm.1 (Q7e eg4.symm)
 replace hm := hm.ext x2
 replace X := Q7x X x2
 refine aA rfl (aD rfl ?_)
 refine aA rfl (aD rfl ?_)
 refine aB ?_
 refine aQ ?_
 refine aE ?_
 refine aA rfl (bO b1 dP rfl rfl ?_)
 refine aA rfl (cW aH7 rfl (aAQ m _ _ hm hz) (fun w6 hI x5 => ?_) (fun w6 hI x5 => ?_))
 replace hm := hm.ext x5
 replace b1 := b1.ext x5
 replace X := Q7x X x5
 refine aA rfl (cD rfl ?_)
 refine aB ?_
 refine aL rfl ?_
 refine aU ?_
 refine aP ?_
 refine aE ?_
 refine aA rfl (bO b1 dP rfl rfl ?_)
 refine aA rfl (aS aH8 rfl (aO (zL m _ _ hm hz hI) ?_))
 rintro _ w9 ⟨A10, c11, rfl, oR, x7⟩
 replace oR := Own.low oR X.size
 replace hm := hm.ext x7
 replace b1 := b1.ext x7
 replace X := Q7x X x7
 refine aA rfl (aD rfl ?_)
 refine aA rfl (aD rfl ?_)
 refine aB ?_
 refine aV ?_
 refine fL rfl rfl rfl ?_
 · skip
   first
   | (have e : lG m.d = ([], 1) := by rw [lG, if_neg (by simp [hI])]
      rw [e]; exact ⟨none, 0, rfl, Own.nil_ _ _ _ _, X⟩)
   | (have e : lG m.d = (fR m.d, 0) := by rw [lG, if_pos hI]
      rw [e]; exact ⟨_, _, rfl, oR, X⟩)
 replace hm := hm.ext x5
 replace b1 := b1.ext x5
 replace X := Q7x X x5
 refine aA rfl (cD rfl ?_)
 refine aB ?_
 refine aR rfl ?_
 refine aE ?_
 refine aA rfl (aD rfl ?_)
 refine aA rfl (aD rfl ?_)
 refine aB ?_
 refine aV ?_
 refine bU ?_
 refine fL rfl rfl rfl ?_
 · skip
   first
   | (have e : lG m.d = ([], 1) := by rw [lG, if_neg (by simp [hI])]
      rw [e]; exact ⟨none, 0, rfl, Own.nil_ _ _ _ _, X⟩)
   | (have e : lG m.d = (fR m.d, 0) := by rw [lG, if_pos hI]
      rw [e]; exact ⟨_, _, rfl, oR, X⟩)
theorem aHE (m : MedlI) (B : Nat) (w : World) (hm : Med B w m) (hz : m.small) :
   Calls Tryz.prog 15 #[.agg m.cells.toArray] w (fD fun v w' => ∃ A' c', v = .tuple #[.slice A' (lG m.d).1.length c', .int .i64 (lG m.d).2] ∧ Own w' w.heap.size 2 1 A' (lG m.d).1.length c' ((lG m.d).1.flatMap eI) ∧ Ext w w') := by
 have Bhm := hm.1
 have X := Q7r w
 refine bI (args := [.agg m.cells.toArray]) Tryz.func15 Tryz.ntmps15 rfl rfl ?_
 refine aE ?_
 refine aA rfl (eE rfl rfl ?_)
 intro g4 w3 eg4 b1 x2 zg4
 have lg4 : w.heap.size ≤ g4 := Q7l X.size (Q7e eg4.symm)
 have pg4hm := Q7l hm.1 (Q7e eg4.symm)
 replace hm := hm.ext x2
 replace X := Q7x X x2
 refine aA rfl (aD rfl ?_)
 refine aA rfl (aD rfl ?_)
 refine aB ?_
 refine aQ ?_
 refine aE ?_
 refine aA rfl (bO b1 dP rfl rfl ?_)
 refine aA rfl (cW aEp rfl (sW m _ _ hm hz) (fun w6 hI x5 => ?_) (fun w6 hI x5 => ?_))
 replace hm := hm.ext x5
 replace b1 := b1.ext x5
 replace X := Q7x X x5
 refine aA rfl (cD rfl ?_)
 refine aB ?_
 refine aL rfl ?_
 refine aU ?_
 refine aP ?_
 refine aE ?_
 refine aA rfl (bO b1 dP rfl rfl ?_)
 refine aA rfl (aS aH5 rfl (aO (rI m _ _ hm hz hI) ?_))
 rintro _ w9 ⟨A10, c11, rfl, oR, x7⟩
 replace oR := Own.low oR X.size
 replace hm := hm.ext x7
 replace b1 := b1.ext x7
 replace X := Q7x X x7
 refine aA rfl (aD rfl ?_)
 refine aA rfl (aD rfl ?_)
 refine aB ?_
 refine aV ?_
 refine fL rfl rfl rfl ?_
 · skip
   first
   | (have e : lG m.d = ([], 1) := by rw [lG, if_neg (by simp [hI])]
      rw [e]; exact ⟨none, 0, rfl, Own.nil_ _ _ _ _, X⟩)
   | (have e : lG m.d = (fR m.d, 0) := by rw [lG, if_pos hI]
      rw [e]; exact ⟨_, _, rfl, oR, X⟩)
 replace hm := hm.ext x5
 replace b1 := b1.ext x5
 replace X := Q7x X x5
 refine aA rfl (cD rfl ?_)
 refine aB ?_
 refine aR rfl ?_
 refine aE ?_
 refine aA rfl (aD rfl ?_)
 refine aA rfl (aD rfl ?_)
 refine aB ?_
 refine aV ?_
 refine bU ?_
 refine fL rfl rfl rfl ?_
 · skip
   first
   | (have e : lG m.d = ([], 1) := by rw [lG, if_neg (by simp [hI])]
      rw [e]; exact ⟨none, 0, rfl, Own.nil_ _ _ _ _, X⟩)
   | (have e : lG m.d = (fR m.d, 0) := by rw [lG, if_pos hI]
      rw [e]; exact ⟨_, _, rfl, oR, X⟩)
theorem zN {n : Int} : ∀ (l : List Int) (y : Option Int), eT n y l = true → ∀ x ∈ l, 0 ≤ x ∧ x ≤ n - 1
 | [], _, _, x, hx => by simp at hx
 | a :: r, none, h, x, hx => by
   simp only [eT, Bool.and_eq_true] at h
   rcases List.mem_cons.1 hx with rfl | h2
   · exact eD.1 h.1
   · exact zN r _ h.2 x h2
 | a :: r, some z, h, x, hx => by
   simp only [eT, Bool.and_eq_true] at h
   rcases List.mem_cons.1 hx with rfl | h2
   · exact eD.1 h.1.1
   · exact zN r _ h.2 x h2
def byt (l : List Int) : Prop := ∀ x ∈ l, 0 ≤ x ∧ x ≤ 255
theorem uW : byt [] := fun x hx => by simp at hx
theorem fW {x : Int} {l : List Int} (h : 0 ≤ x ∧ x ≤ 255) (hl : byt l) : byt (x :: l) := fun y hy => by
 rcases List.mem_cons.1 hy with rfl | h2
 · exact h
 · exact hl y h2
theorem sX {a b : List Int} (h1 : byt a) (h2 : byt b) : byt (a ++ b) := fun y hy => (List.mem_append.1 hy).elim (h1 y) (h2 y)
theorem zO {α : Type} {f : α → List Int} {l : List α} (h : ∀ x ∈ l, byt (f x)) : byt (l.flatMap f) := fun y hy => by
 obtain ⟨x, hx, hy2⟩ := List.mem_flatMap.1 hy
 exact h x hx y hy2
theorem aIB {z : Int} (h : 0 ≤ z ∧ z ≤ 16777215) : byt (idB z) := fW (by omega) (fW (by omega) (fW (by omega) uW))
theorem aGi (x : NodeI) : byt (nE x) := fun y hy => by
 obtain ⟨b, _, rfl⟩ := List.mem_map.1 hy
 have := b.toNat_lt; omega
theorem aGj {x : NodeI} (h : eL x = true) : byt (gW x) := by
 have h1 := mN h
 have h2 := lL h
 refine sX ?_ (aGi x)
 exact fW (by omega) (fW (by omega) (fW (by omega) (fW (by split <;> omega) (fW (by omega) uW))))
theorem aIC {xs : List NodeI} (h : dV xs = true) : byt (mW xs) := by
 have h1 := sJ h
 unfold mW ntP
 rw [List.take_length]
 exact fW (by omega) (zO fun x hx => aGj (kX h x hx))
theorem aID {ms : List Mode} (h : jH ms = true) : byt (mV ms ms.length) := by
 have hl := qD h
 unfold mV
 rw [List.take_length]
 refine fW (by omega) (zO fun x hx => ?_)
 obtain ⟨k, hk⟩ := List.mem_iff_getElem?.1 hx
 obtain ⟨h1, h2, h3⟩ := tE (yC h hk)
 have h4 := uC h3
 refine sX (fW (by omega) (fW (by omega) (fW (by omega) uW))) fun y hy => ?_
 have h5 := zN _ _ h3 y hy
 omega
theorem aIE {xs : List SlotI} (h : gR xs = true) : byt (vI xs) := by
 have hl := mT h
 unfold vI stP
 rw [List.take_length]
 refine fW (by omega) (zO fun x hx => ?_)
 have h1 := sQ (aAl h x hx)
 have h2 := sP h1.2.2.2
 exact sX (fW (by omega) (fW (by omega) uW)) (fW (by omega) (fW (by omega) (fW (by omega) (fW (by omega) (fW (by split <;> omega) uW)))))
theorem xY {d : MedlD} (h : iY d = true) : byt (fR d) := by
 have wf := kK.1 h
 have hid := eD.1 wf.id
 exact sX (sX (sX (aIB (by omega)) (aIC wf.nt)) (aID wf.mt)) (aIE wf.st)
def kT (d : MedlD) : List Int × Int := if iY d = true then (if (fR d).length ≤ 868 then (uE (fR d), 0) else ([], 3)) else ([], 1)
theorem sD (m : MedlI) : (kT m.d).1.length ≤ 1048576 := by
 unfold kT; split
 · split
   · have h1 := xP (fR m.d)
     have h2 := aAE (fR m.d).length
     simp only; omega
   · exact Nat.zero_le _
 · exact Nat.zero_le _
theorem aIF (m : MedlI) (B : Nat) (w : World) (hm : Med B w m) (hz : m.small) :
   Calls Tryz.prog 13 #[.agg m.cells.toArray] w (fD fun v w' => ∃ A' c', v = .tuple #[.slice A' (kT m.d).1.length c', .int .i64 (kT m.d).2] ∧ Own w' w.heap.size 2 1 A' (kT m.d).1.length c' ((kT m.d).1.flatMap eI) ∧ Ext w w') := by
 have Bhm := hm.1
 have X := Q7r w
 refine bI (args := [.agg m.cells.toArray]) Tryz.func13 Tryz.ntmps13 rfl rfl ?_
 refine aE ?_
 refine aA rfl (eE rfl rfl ?_)
 intro g4 w3 eg4 b1 x2 zg4
 have lg4 : w.heap.size ≤ g4 := Q7l X.size (Q7e eg4.symm)
 have pg4hm := Q7l hm.1 (Q7e eg4.symm)
 replace hm := hm.ext x2
 replace X := Q7x X x2
 refine aA rfl (aD rfl ?_)
 refine aA rfl (aD rfl ?_)
 refine aB ?_
 refine aQ ?_
 refine aE ?_
 refine aA rfl (bO b1 dP rfl rfl ?_)
 refine aA rfl (cW aEp rfl (sW m _ _ hm hz) (fun w6 hI x5 => ?_) (fun w6 hI x5 => ?_))
 replace hm := hm.ext x5
 replace b1 := b1.ext x5
 replace X := Q7x X x5
 refine aA rfl (cD rfl ?_)
 refine aB ?_
 refine aL rfl ?_
 refine aU ?_
 refine aP ?_
 refine aE ?_
 refine aA rfl (bO b1 dP rfl rfl ?_)
 refine aA rfl (aS aH5 rfl (aO (rI m _ _ hm hz hI) ?_))
 rintro _ w9 ⟨A10, c11, rfl, oR, x7⟩
 replace oR := Own.low oR X.size
 replace hm := hm.ext x7
 replace b1 := b1.ext x7
 replace X := Q7x X x7
 refine aA rfl (aD rfl ?_)
 refine aB ?_
 refine aQ ?_
 refine aE ?_
 refine aA rfl (aC rfl ?_)
 refine aA rfl (cQ Tryz.underlying30 rfl ?_)
 refine aA rfl (fX rfl rfl (fun hG => ?_) (fun hG => ?_))
 have hGn : ¬ (fR m.d).length ≤ 868 := by omega
 refine aB ?_
 refine aR rfl ?_
 refine aE ?_
 refine aA rfl (aD rfl ?_)
 refine aA rfl (aD rfl ?_)
 refine aB ?_
 refine aV ?_
 refine bU ?_
 refine fL rfl rfl rfl ?_
 · skip
   have e : kT m.d = ([], 3) := by rw [kT, if_pos hI, if_neg hGn]
   rw [e]; exact ⟨none, 0, rfl, Own.nil_ _ _ _ _, X⟩
 have hGp : (fR m.d).length ≤ 868 := by omega
 refine aB ?_
 refine aL rfl ?_
 refine aU ?_
 refine aP ?_
 refine aE ?_
 refine aA rfl (aC rfl ?_)
 refine aA rfl (aS aH6 rfl (aO (aAS _ _ _ (fR m.d) _ oR.sl (by omega) (xY hI) oR.cap (zJ oR.sl (by omega))) ?_))
 rintro _ w13 ⟨AJ, cJ, rfl, oJ, x12⟩
 replace oJ := Own.low oJ X.size
 replace hm := hm.ext x12
 replace b1 := b1.ext x12
 replace oR := oR.ext x12
 replace X := Q7x X x12
 refine aA rfl (aD rfl ?_)
 refine aA rfl (aD rfl ?_)
 refine aB ?_
 refine aV ?_
 refine fL rfl rfl rfl ?_
 · skip
   have e : kT m.d = (uE (fR m.d), 0) := by rw [kT, if_pos hI, if_pos hGp]
   rw [e]; exact ⟨_, _, rfl, oJ, X⟩
 replace hm := hm.ext x5
 replace b1 := b1.ext x5
 replace X := Q7x X x5
 refine aA rfl (cD rfl ?_)
 refine aB ?_
 refine aR rfl ?_
 refine aE ?_
 refine aA rfl (aD rfl ?_)
 refine aA rfl (aD rfl ?_)
 refine aB ?_
 refine aV ?_
 refine bU ?_
 refine fL rfl rfl rfl ?_
 · skip
   have e : kT m.d = ([], 1) := by rw [kT, if_neg (by rw [hI]; decide)]
   rw [e]; exact ⟨none, 0, rfl, Own.nil_ _ _ _ _, X⟩
theorem aIG (m : MedlI) (B : Nat) (w : World) (hm : Med B w m) (hz : m.small) :
   Calls Tryz.prog 14 #[.agg m.cells.toArray] w (fD fun v w' => ∃ A' c', v = .tuple #[.slice A' (kT m.d).1.length c', .int .i64 (kT m.d).2] ∧ Own w' w.heap.size 2 1 A' (kT m.d).1.length c' ((kT m.d).1.flatMap eI) ∧ Ext w w') := by
 have Bhm := hm.1
 have X := Q7r w
 refine bI (args := [.agg m.cells.toArray]) Tryz.func14 Tryz.ntmps14 rfl rfl ?_
 refine aE ?_
 refine aA rfl (eE rfl rfl ?_)
 intro g4 w3 eg4 b1 x2 zg4
 have lg4 : w.heap.size ≤ g4 := Q7l X.size (Q7e eg4.symm)
 have pg4hm := Q7l hm.1 (Q7e eg4.symm)
 replace hm := hm.ext x2
 replace X := Q7x X x2
 refine aA rfl (aD rfl ?_)
 refine aA rfl (aD rfl ?_)
 refine aB ?_
 refine aQ ?_
 refine aE ?_
 refine aA rfl (bO b1 dP rfl rfl ?_)
 refine aA rfl (cW aH7 rfl (aAQ m _ _ hm hz) (fun w6 hI x5 => ?_) (fun w6 hI x5 => ?_))
 replace hm := hm.ext x5
 replace b1 := b1.ext x5
 replace X := Q7x X x5
 refine aA rfl (cD rfl ?_)
 refine aB ?_
 refine aL rfl ?_
 refine aU ?_
 refine aP ?_
 refine aE ?_
 refine aA rfl (bO b1 dP rfl rfl ?_)
 refine aA rfl (aS aH8 rfl (aO (zL m _ _ hm hz hI) ?_))
 rintro _ w9 ⟨A10, c11, rfl, oR, x7⟩
 replace oR := Own.low oR X.size
 replace hm := hm.ext x7
 replace b1 := b1.ext x7
 replace X := Q7x X x7
 refine aA rfl (aD rfl ?_)
 refine aB ?_
 refine aQ ?_
 refine aE ?_
 refine aA rfl (aC rfl ?_)
 refine aA rfl (cQ Tryz.underlying30 rfl ?_)
 refine aA rfl (cW aKo rfl (aIA _ _) (fun w13 hG x12 => ?_) (fun w13 hG x12 => ?_))
 replace hm := hm.ext x12
 replace b1 := b1.ext x12
 replace oR := oR.ext x12
 replace X := Q7x X x12
 have hGp : (fR m.d).length ≤ 868 := by have := eD.1 hG; omega
 refine aA rfl (cD rfl ?_)
 refine aB ?_
 refine aL rfl ?_
 refine aU ?_
 refine aP ?_
 refine aE ?_
 refine aA rfl (aC rfl ?_)
 refine aA rfl (aS aKp rfl (aO (aDD _ _ _ (fR m.d) _ oR.sl (by omega) (xY hI) oR.cap) ?_))
 rintro _ w15 ⟨AJ, cJ, rfl, oJ, x14⟩
 replace oJ := Own.low oJ X.size
 replace hm := hm.ext x14
 replace b1 := b1.ext x14
 replace oR := oR.ext x14
 replace X := Q7x X x14
 refine aA rfl (aD rfl ?_)
 refine aA rfl (aD rfl ?_)
 refine aB ?_
 refine aV ?_
 refine fL rfl rfl rfl ?_
 · skip
   have e : kT m.d = (uE (fR m.d), 0) := by rw [kT, if_pos hI, if_pos hGp]
   rw [e]; exact ⟨_, _, rfl, oJ, X⟩
 replace hm := hm.ext x12
 replace b1 := b1.ext x12
 replace oR := oR.ext x12
 replace X := Q7x X x12
 have hGn : ¬ (fR m.d).length ≤ 868 := fun h => by rw [eD.2 ⟨by omega, by omega⟩] at hG; cases hG
 refine aA rfl (cD rfl ?_)
 refine aB ?_
 refine aR rfl ?_
 refine aE ?_
 refine aA rfl (aD rfl ?_)
 refine aA rfl (aD rfl ?_)
 refine aB ?_
 refine aV ?_
 refine bU ?_
 refine fL rfl rfl rfl ?_
 · skip
   have e : kT m.d = ([], 3) := by rw [kT, if_pos hI, if_neg hGn]
   rw [e]; exact ⟨none, 0, rfl, Own.nil_ _ _ _ _, X⟩
 replace hm := hm.ext x5
 replace b1 := b1.ext x5
 replace X := Q7x X x5
 refine aA rfl (cD rfl ?_)
 refine aB ?_
 refine aR rfl ?_
 refine aE ?_
 refine aA rfl (aD rfl ?_)
 refine aA rfl (aD rfl ?_)
 refine aB ?_
 refine aV ?_
 refine bU ?_
 refine fL rfl rfl rfl ?_
 · skip
   have e : kT m.d = ([], 1) := by rw [kT, if_neg (by rw [hI]; decide)]
   rw [e]; exact ⟨none, 0, rfl, Own.nil_ _ _ _ _, X⟩
theorem aKb (A : Option Addr) (c : Nat) (bs : List UInt8) (w : World)  :
   Calls Tryz.prog 11 #[.slice A bs.length c] w (fD fun v w' => v = .bool (decide ((4096 : Int) < bs.length)) ∧ Ext w w') := by
 have X := Q7r w
 refine bI (args := [.slice A bs.length c]) Tryz.func11 Tryz.ntmps11 rfl rfl ?_
 refine aE ?_
 refine aA rfl (aD rfl ?_)
 refine aB ?_
 refine aE ?_
 refine aA rfl (aC rfl ?_)
 refine aA rfl (cQ Tryz.underlying22 rfl ?_)
 refine aA rfl (qR rfl rfl ?_)
 refine aA rfl (aD rfl ?_)
 refine aB ?_
 refine aV ?_
 refine aK rfl rfl ?_
 exact ⟨by rfl, X⟩
theorem uL (A A' : Option Addr) (B B' c c' : Nat) (xs : List Int) (w : World) (hs : Sl B w A (xs.flatMap eI)) (ht : Sl B' w A' (xs.flatMap eI)) (hl : xs.length ≤ 1048576) :
   Calls Tryz.prog 17 #[.slice A xs.length c, .slice A' xs.length c'] w (fD fun v w' => v = .bool true ∧ Ext w w') := by
 have Bhs := hs.1
 have Bht := ht.1
 have X := Q7r w
 refine bI (args := [.slice A xs.length c, .slice A' xs.length c']) Tryz.func17 Tryz.ntmps17 rfl rfl ?_
 refine aE ?_
 refine aA rfl (aD rfl ?_)
 refine aB ?_
 refine aQ ?_
 refine aE ?_
 refine aA rfl (aC rfl ?_)
 refine aA rfl (cQ Tryz.underlying30 rfl ?_)
 refine aA rfl (aC rfl ?_)
 refine aA rfl (cQ Tryz.underlying30 rfl ?_)
 refine aA rfl (hP rfl rfl (fun h1 => absurd h1 (by simp)) (fun h1 => ?_))
 refine aB ?_
 refine aL rfl ?_
 refine aU ?_
 refine aP ?_
 refine aQ ?_
 refine aE ?_
 refine aA rfl (aD rfl ?_)
 refine aB ?_
 refine aW ?_
 refine dD (G := Nat) (fun k => [(0, .slice A xs.length c), (1, .slice A' xs.length c'), (5, .int .i64 (k : Nat))]) (fun k wr => k ≤ xs.length ∧ Sl B wr A (xs.flatMap eI) ∧ Sl B' wr A' (xs.flatMap eI) ∧ Ext w wr) (fun k => xs.length - k) 0 (.cons rfl (.cons rfl (.cons rfl (.nil _)))) ?_ ?_
 · exact ⟨by omega, hs, ht, X⟩
 clear hs ht
 clear X
 rintro k wr ⟨hk0, hs, ht, X⟩
 refine aQ ?_
 refine aE ?_
 refine aA rfl (aC rfl ?_)
 refine aA rfl (aC rfl ?_)
 refine aA rfl (cQ Tryz.underlying30 rfl ?_)
 refine aA rfl (cH rfl rfl (fun hk => ?_) (fun hk => ?_))
 obtain ⟨x, hx, dx⟩ := dM hk
 refine aB ?_
 refine aR rfl ?_
 refine aU ?_
 refine aP ?_
 refine aQ ?_
 refine aW ?_
 refine eO [false, false, false, false, false, false, false, false, false] mixed (by kernel_rfl) ?_
 refine cE rfl (fun wq sq => aC rfl ⟨rfl, Q7r _⟩) ?_
 refine cE rfl (fun wq sq => aC rfl ⟨rfl, Q7r _⟩) ?_
 refine cE rfl (fun wq sq => aT (hs.ext sq) bL rfl dA rfl rfl rfl hx rfl ⟨rfl, Q7r _⟩) ?_
 refine cE rfl (fun wq sq => cX (hs.ext sq) bL hx cY rfl rfl rfl ⟨rfl, Q7r _⟩) ?_
 refine cE rfl (fun wq sq => aC rfl ⟨rfl, Q7r _⟩) ?_
 refine cE rfl (fun wq sq => aC rfl ⟨rfl, Q7r _⟩) ?_
 refine cE rfl (fun wq sq => aT (ht.ext sq) bL rfl dA rfl rfl rfl hx rfl ⟨rfl, Q7r _⟩) ?_
 refine cE rfl (fun wq sq => cX (ht.ext sq) bL hx cY rfl rfl rfl ⟨rfl, Q7r _⟩) ?_
 refine uR rfl (fun wq sq => qS rfl rfl ⟨rfl, Q7r _⟩) (fun h2 => absurd h2 (by simp)) (fun h2 => ?_)
 refine dW (fun w3 sq => ?_)
 have xq := sq
 replace hs := hs.ext xq
 replace ht := ht.ext xq
 replace X := Q7x X xq; clear xq sq
 refine aB ?_
 refine aL rfl ?_
 refine aU ?_
 refine dJ ?_
 refine aP ?_
 refine aM ?_
 refine aA rfl (aC rfl ?_)
 refine aA rfl (aZ rfl rfl (dR (by omega)) ?_)
 refine aA rfl (aD rfl ?_)
 refine aB ?_
 refine aP ⟨k + 1, (.cons rfl (.cons rfl (.cons rfl (.nil _)))), ?_, ?_⟩
 · exact ⟨by omega, hs, ht, X⟩
 · omega
 refine aB ?_
 refine aL rfl ?_
 refine dC ?_
 refine dB ?_
 refine dB ?_
 refine eA ?_
 refine aP ?_
 refine aE ?_
 refine aA rfl (aD rfl ?_)
 refine aB ?_
 refine aV ?_
 refine aK rfl rfl ?_
 exact ⟨by rfl, X⟩
end Go.Proofs.YtdoibplhbdkapaaGreatDoor
