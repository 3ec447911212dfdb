/- Parts. No condition. -/
import Derived.Test.YtdoibplhbdkapaaGreatDoorDNP3
import Derived.Test.YtdoibplhbdkapaaGreatDoorDNP14
import Derived.Test.YtdoibplhbdkapaaGreatDoorDNP13
import Derived.Test.YtdoibplhbdkapaaGreatDoorDNP4
import Derived.Test.YtdoibplhbdkapaaGreatDoorDNP7
namespace Go.Proofs.YtdoibplhbdkapaaGreatDoor
open Go.RowKit
set_option linter.unusedVariables false
set_option linter.unusedSimpArgs false
set_option maxRecDepth 20000
theorem lX (A : Option Addr) (B c : Nat) (xs : List Int) (gC a : Nat) (bad : Bool) (w : World) (q : Blk w gC 166 (uT A c xs a bad)) (hs : Sl B w A (xs.flatMap eI)) (hl : xs.length ≤ 1048576) (ha : a ≤ xs.length) (hB : B ≤ gC) :
   Calls Tryz.prog 160 #[.pointer (some ⟨gC, 0, none⟩)] w (fD fun v w' => v = .int .i64 (nV xs a) ∧ Blk w' gC 166 (uT A c xs (gU xs a) (eU xs a bad)) ∧ w.grownBy w' (some gC)) := by
 have Bhs := hs.1
 have X := mC w (some gC)
 refine bI (args := [.pointer (some ⟨gC, 0, none⟩)]) Tryz.func160 Tryz.ntmps160 rfl rfl ?_
 refine aE ?_
 refine aA rfl (aD rfl ?_)
 refine aB ?_
 refine aQ ?_
 refine eO [false, false, false, false, false, false, false, false, false, false] mixed (by kernel_rfl) ?_
 refine cE rfl (fun wq sq => aC rfl ⟨rfl, Q7r _⟩) ?_
 refine cE rfl (fun wq sq => dF rfl ⟨rfl, Q7r _⟩) ?_
 refine cE rfl (fun wq sq => aF jU rfl rfl ⟨rfl, Q7r _⟩) ?_
 refine cE rfl (fun wq sq => aI (q.ext sq) ti3 rfl rfl ⟨rfl, Q7r _⟩) ?_
 refine cE rfl (fun wq sq => aC rfl ⟨rfl, Q7r _⟩) ?_
 refine cE rfl (fun wq sq => dF rfl ⟨rfl, Q7r _⟩) ?_
 refine cE rfl (fun wq sq => aF zR rfl rfl ⟨rfl, Q7r _⟩) ?_
 refine cE rfl (fun wq sq => aI (q.ext sq) kQ rfl rfl ⟨rfl, Q7r _⟩) ?_
 refine cE rfl (fun wq sq => cQ Tryz.underlying30 rfl ⟨rfl, Q7r _⟩) ?_
 refine uR rfl (fun wq sq => iD rfl rfl ⟨rfl, Q7r _⟩) (fun he => ?_) (fun he => ?_)
 refine dW (fun w1 sq => ?_)
 have xq := sq
 replace q := q.ext xq
 replace hs := hs.ext xq
 replace X := dE X xq; clear xq sq
 refine aB ?_
 refine aR rfl ?_
 refine aE ?_
 refine aA rfl (aC rfl ?_)
 refine aA rfl (dF rfl ?_)
 refine aA rfl (aF iT rfl rfl ?_)
 refine aA rfl (aX q uX rfl rfl rfl rfl rfl rfl ?_)
 intro w3 q2 hg2 z4
 replace hs := hs.grown hg2 (by intro g hg; injection hg; omega)
 replace X := cU X hg2
 clear hg2 q
 refine aB ?_
 refine aE ?_
 refine aA rfl (aD rfl ?_)
 refine aB ?_
 refine aV ?_
 refine bU ?_
 refine aK rfl rfl ?_
 · skip
   first
   | (have e1 : nV xs a = 0 := by unfold nV; rw [if_pos (by omega)]
      have e2 : gU xs a = a := by unfold gU; rw [if_pos (by omega)]
      have e3 : eU xs a bad = true := by unfold eU; rw [if_pos (by omega)]
      rw [e1, e2, e3]; exact ⟨rfl, q2, X⟩)
   | (have e1 : nV xs a = x := by unfold nV; rw [if_neg (by omega), List.getD_eq_getElem?_getD, hx]; rfl
      have e2 : gU xs a = a + 1 := by unfold gU; rw [if_neg (by omega)]
      have e3 : eU xs a bad = bad := by unfold eU; rw [if_neg (by omega)]
      rw [e1, e2, e3]; exact ⟨rfl, q2, X⟩)
 obtain ⟨x, hx, dx⟩ := jZ (xs := xs) (k := a) (by omega)
 refine dW (fun w5 sq => ?_)
 have xq := sq
 replace q := q.ext xq
 replace hs := hs.ext xq
 replace X := dE X xq; clear xq sq
 refine aB ?_
 refine aL rfl ?_
 refine aU ?_
 refine aP ?_
 refine aE ?_
 refine aA rfl (aC rfl ?_)
 refine aA rfl (dF rfl ?_)
 refine aA rfl (aF jU rfl rfl ?_)
 refine aA rfl (aI q ti3 rfl rfl ?_)
 refine aA rfl (aZ rfl rfl (dR (by omega)) ?_)
 refine aA rfl (dF rfl ?_)
 refine aA rfl (aF jU rfl rfl ?_)
 refine aA rfl (aX q ti3 rfl rfl rfl rfl rfl rfl ?_)
 intro w7 q2 hg6 z8
 replace hs := hs.grown hg6 (by intro g hg; injection hg; omega)
 replace X := cU X hg6
 clear hg6 q
 refine aB ?_
 refine eO [false, false, false, false, false, false, false, false, false, false, false, false] mixed (by kernel_rfl) ?_
 refine cE rfl (fun wq sq => aC rfl ⟨rfl, Q7r _⟩) ?_
 refine cE rfl (fun wq sq => dF rfl ⟨rfl, Q7r _⟩) ?_
 refine cE rfl (fun wq sq => aF zR rfl rfl ⟨rfl, Q7r _⟩) ?_
 refine cE rfl (fun wq sq => aI (q2.ext sq) kQ rfl rfl ⟨rfl, Q7r _⟩) ?_
 refine cE rfl (fun wq sq => aC rfl ⟨rfl, Q7r _⟩) ?_
 refine cE rfl (fun wq sq => dF rfl ⟨rfl, Q7r _⟩) ?_
 refine cE rfl (fun wq sq => aF jU rfl rfl ⟨rfl, Q7r _⟩) ?_
 refine cE rfl (fun wq sq => aI (q2.ext sq) ti3 rfl rfl ⟨rfl, Q7r _⟩) ?_
 refine cE rfl (fun wq sq => fZ rfl rfl (dR (by omega)) ⟨rfl, Q7r _⟩) ?_
 refine cE rfl (fun wq sq => aT (hs.ext sq) bL rfl dA rfl rfl rfl hx (by omega) ⟨rfl, Q7r _⟩) ?_
 refine cE rfl (fun wq sq => cX (hs.ext sq) bL hx cY rfl rfl rfl ⟨rfl, Q7r _⟩) ?_
 refine cE rfl (fun wq sq => aD rfl ⟨rfl, Q7r _⟩) ?_
 refine dW (fun w9 sq => ?_)
 have xq := sq
 replace hs := hs.ext xq
 replace q2 := q2.ext xq
 replace X := dE X xq; clear xq sq
 refine aB ?_
 refine aV ?_
 refine aK rfl rfl ?_
 · skip
   first
   | (have e1 : nV xs a = 0 := by unfold nV; rw [if_pos (by omega)]
      have e2 : gU xs a = a := by unfold gU; rw [if_pos (by omega)]
      have e3 : eU xs a bad = true := by unfold eU; rw [if_pos (by omega)]
      rw [e1, e2, e3]; exact ⟨rfl, q2, X⟩)
   | (have e1 : nV xs a = x := by unfold nV; rw [if_neg (by omega), List.getD_eq_getElem?_getD, hx]; rfl
      have e2 : gU xs a = a + 1 := by unfold gU; rw [if_neg (by omega)]
      have e3 : eU xs a bad = bad := by unfold eU; rw [if_neg (by omega)]
      rw [e1, e2, e3]; exact ⟨rfl, q2, X⟩)
theorem aDp (A : Option Addr) (B c : Nat) (xs : List Int) (gC a : Nat) (bad : Bool) (z : Int) (w : World) (q : Blk w gC 166 (uT A c xs a bad)) (hs : Sl B w A (xs.flatMap eI)) (hl : xs.length ≤ 1048576) (ha : a ≤ xs.length) (hB : B ≤ gC) (hz0 : 0 ≤ z ∧ z ≤ 1048576) :
   Calls Tryz.prog 161 #[.pointer (some ⟨gC, 0, none⟩), .int .i64 z] w (fD fun v w' => ∃ A' c', v = .slice A' (iH xs z.toNat a bad).1.length c' ∧ Own w' w.heap.size 2 1 A' (iH xs z.toNat a bad).1.length c' ((iH xs z.toNat a bad).1.flatMap eI) ∧ Blk w' gC 166 (uT A c xs (iH xs z.toNat a bad).2.1 (iH xs z.toNat a bad).2.2) ∧ w.grownBy w' (some gC)) := by
 have Bhs := hs.1
 have X := mC w (some gC)
 refine bI (args := [.pointer (some ⟨gC, 0, none⟩), .int .i64 z]) Tryz.func161 Tryz.ntmps161 rfl rfl ?_
 refine aE ?_
 refine aA rfl (aD rfl ?_)
 refine aB ?_
 refine aE ?_
 refine aA rfl (aN dA cY rfl rfl rfl rfl rfl ?_)
 intro gO w2 egO oO bbgO x1 zgO
 replace oO := Own.low oO X.size
 replace q := q.ext x1
 replace hs := hs.ext x1
 replace X := dE X x1
 refine aA rfl (aD rfl ?_)
 refine aB ?_
 refine aQ ?_
 refine aW ?_
 refine dD (G := Nat × List Int × Nat × Bool × Nat × Option Addr × Nat × Int) (fun ⟨k, ys, a1, b1, n1, A1, c1, tm⟩ => [(0, .pointer (some ⟨gC, 0, none⟩)), (4, .slice none 0 0), (1, .int .i64 tm), (5, .slice A1 n1 c1)]) (fun ⟨k, ys, a1, b1, n1, A1, c1, tm⟩ wr => k ≤ z.toNat ∧ tm = z - k ∧ a1 ≤ xs.length ∧ (n1 = ys.length ∧ n1 ≤ k) ∧ iH xs z.toNat a bad = (ys ++ (iH xs (z.toNat - k) a1 b1).1, (iH xs (z.toNat - k) a1 b1).2) ∧ Blk wr gC 166 (uT A c xs a1 b1) ∧ Own wr w.heap.size 2 1 A1 n1 c1 (ys.flatMap eI) ∧ Sl B wr A (xs.flatMap eI) ∧ w.grownBy wr (some gC)) (fun ⟨k, ys, a1, b1, n1, A1, c1, tm⟩ => z.toNat - k) (0, [], a, bad, 0, some ⟨gO, 0, none⟩, 0, z) (.cons rfl (.cons rfl (.cons rfl (.cons rfl (.nil _))))) ?_ ?_
 · exact ⟨by omega, by omega, ha, ⟨rfl, by omega⟩, rfl, q, oO, hs, X⟩
 clear q hs oO
 clear X
 rintro ⟨k, ys, a1, b1, n1, A1, c1, tm⟩ wr ⟨hk0, htm, ha1, hn, hi, q, oO, hs, X⟩
 refine aQ ?_
 refine aE ?_
 refine aA rfl (aC rfl ?_)
 refine aA rfl (fX rfl rfl (fun hk => ?_) (fun hk => ?_))
 refine aA rfl (aC rfl ?_)
 refine aH rfl rfl rfl (aC rfl ?_)
 refine aH rfl rfl rfl (dF rfl ?_)
 refine aH rfl rfl rfl (aF iT rfl rfl ?_)
 refine aH rfl rfl rfl (aI q uX rfl rfl ?_)
 refine aH rfl rfl rfl (cD rfl ?_)
 refine aA rfl (aJ rfl rfl ?_)
 refine aB ?_
 refine lB rfl (fun h3 => ?_) (fun h3 => ?_)
 refine aU ?_
 refine aP ?_
 refine aQ ?_
 refine aW ?_
 refine aM ?_
 refine aA rfl (aC rfl ?_)
 refine aA rfl (aC rfl ?_)
 refine aA rfl (aS mB rfl (aO (lX _ _ _ _ _ _ _ _ q hs hl ha1 hB) ?_))
 rintro _ w5 ⟨rfl, q2, x4⟩
 replace oO := oO.grownBlk x4 (Own.neT oO q (by decide))
 replace hs := hs.grown x4 (by intro g hg; injection hg; omega)
 replace X := cU X x4
 clear x4 q
 refine aA rfl (aN dA cY rfl rfl rfl rfl rfl ?_)
 intro g6 w9 eg6 oT bbg6 x7 zg6
 replace oT := Own.low oT X.size
 replace oO := oO.ext x7
 replace hs := hs.ext x7
 replace q2 := q2.ext x7
 replace X := dE X x7
 refine aA rfl (cF (ts := #[]) oO X.size oT.sl (by first | rfl | simp) (by first | exact List.all_eq_true.1 rfl | simp [Value.oneCell']) dA cY rfl rfl rfl rfl (by omega) (by omega) ?_)
 intro AoN coN w11 oN hg10
 replace hs := hs.grown hg10 (fun g hg => Q7l Bhs (Own.lt oO hg).1)
 replace q2 := q2.grown hg10 (fun h => Own.neT oO q2 (by decide) h.symm)
 replace X := cV X hg10 (fun g hg => (Own.lt oO hg).1)
 clear hg10
 refine aA rfl (aD rfl ?_)
 refine aB ?_
 refine dJ ?_
 refine aP ?_
 refine aM ?_
 refine aA rfl (aC rfl ?_)
 refine aA rfl (fZ rfl rfl (dR (by omega)) ?_)
 refine aA rfl (aD rfl ?_)
 refine aB ?_
 refine aP ⟨(k + 1, ys ++ [nV xs a1], gU xs a1, eU xs a1 b1, n1 + 1, AoN, coN, tm - 1), (.cons rfl (.cons rfl (.cons rfl (.cons rfl (.nil _))))), ?_, ?_⟩
 · skip
   exact ⟨by omega, by omega, fG ha1, ⟨by simp [hn.1], by omega⟩, (by
     have hb : b1 = false := by simpa using ‹(!b1) = true›
     rw [hi, aDa xs (show 0 < z.toNat - k by omega) hb, show z.toNat - k - 1 = z.toNat - (k + 1) by omega]; simp), q2, oN.to (kG eI ys _).symm, hs, X⟩
 · first | omega | (dsimp only; omega)
 refine dC ?_
 refine dB ?_
 refine dB ?_
 refine eA ?_
 refine aP ?_
 refine aE ?_
 refine aA rfl (aC rfl ?_)
 refine aA rfl (aD rfl ?_)
 refine aB ?_
 refine aV ?_
 refine aK rfl rfl ?_
 · skip
   have hst : z.toNat - k = 0 ∨ b1 = true := by
     first
     | (left; omega)
     | (right; simpa using ‹(!b1) = false›)
   rw [hi, yP xs _ _ hst, List.append_nil, ← hn.1]
   exact ⟨_, _, rfl, oO, q, X⟩
 refine aA rfl (aC rfl ?_)
 refine aG rfl rfl rfl rfl ?_
 refine aG rfl rfl rfl rfl ?_
 refine aG rfl rfl rfl rfl ?_
 refine aG rfl rfl rfl rfl ?_
 refine aG rfl rfl rfl rfl ?_
 refine aA rfl (aJ rfl rfl ?_)
 refine aB ?_
 refine aL rfl ?_
 refine dC ?_
 refine dB ?_
 refine dB ?_
 refine eA ?_
 refine aP ?_
 refine aE ?_
 refine aA rfl (aC rfl ?_)
 refine aA rfl (aD rfl ?_)
 refine aB ?_
 refine aV ?_
 refine aK rfl rfl ?_
 · skip
   have hst : z.toNat - k = 0 ∨ b1 = true := by
     first
     | (left; omega)
     | (right; simpa using ‹(!b1) = false›)
   rw [hi, yP xs _ _ hst, List.append_nil, ← hn.1]
   exact ⟨_, _, rfl, oO, q, X⟩
theorem uI (A : Option Addr) (B c : Nat) (xs : List Int) (w : World) (hs : Sl B w A (xs.flatMap eI)) (hl : xs.length ≤ 1048576) :
   Calls Tryz.prog 74 #[.slice A xs.length c] w (fD fun v w' => v = .bool (rL xs) ∧ Ext w w') := by
 have Bhs := hs.1
 have X := Q7r w
 refine bI (args := [.slice A xs.length c]) Tryz.func74 Tryz.ntmps74 rfl rfl ?_
 refine aE ?_
 refine aA rfl (aD rfl ?_)
 refine aB ?_
 refine aE ?_
 refine aA rfl (aC rfl ?_)
 refine aA rfl (cQ Tryz.underlying30 rfl ?_)
 refine aA rfl (xV rfl rfl (fun hm => ?_) (fun hm => ?_))
 refine aA rfl (aC rfl ?_)
 refine aH rfl rfl rfl (aC rfl ?_)
 refine aH rfl rfl rfl (aS aIZ rfl (aO (aB1 _ _ _ _ _ _ _ hs hl) ?_))
 rintro _ w2 ⟨rfl, x1⟩
 replace hs := hs.ext x1
 replace X := Q7x X x1
 refine aA rfl (aJ rfl rfl ?_)
 refine aA rfl (aD rfl ?_)
 refine aB ?_
 refine aV ?_
 refine aK rfl rfl ?_
 · skip
   refine ⟨congrArg Value.bool ?_, X⟩
   first | (rw [rL, decide_eq_false (by omega)]; rfl) | (rw [rL, decide_eq_true (by omega)]; simp [*])
 refine aA rfl (aC rfl ?_)
 refine aG rfl rfl rfl rfl ?_
 refine aG rfl rfl rfl rfl ?_
 refine aA rfl (aJ rfl rfl ?_)
 refine aA rfl (aD rfl ?_)
 refine aB ?_
 refine aV ?_
 refine aK rfl rfl ?_
 · skip
   refine ⟨congrArg Value.bool ?_, X⟩
   first | (rw [rL, decide_eq_false (by omega)]; rfl) | (rw [rL, decide_eq_true (by omega)]; simp [*])
def aAt (s : ByteArray) (k : Int) : List NodeI → Int
 | [] => -1
 | x :: r => if x.name = s then k else aAt s (k + 1) r
theorem aCl (s : ByteArray) : ∀ (xs : List NodeI) (k : Int), 0 ≤ k → decide (0 ≤ aAt s k xs) = iO s xs
 | [], k, h => by simp [aAt, iO]
 | x :: r, k, h => by
   rw [aAt]
   by_cases e : x.name = s
   · rw [if_pos e]; simp [iO, e, h]
   · rw [if_neg e, aCl s r (k + 1) (by omega)]; simp [iO, e]
theorem aHz (A : Option Addr) (B c : Nat) (xs : List NodeI) (w : World) (hs : Sl B w A (xs.flatMap NodeI.cells)) (hl : xs.length ≤ 1048576) (hm : ∀ x ∈ xs, x.name.size ≤ 9223372036854775807) :
   Calls Tryz.prog 224 #[.slice A xs.length c] w (fD fun v w' => v = .bool (dV xs) ∧ Ext w w') := by
 have Bhs := hs.1
 have X := Q7r w
 refine bI (args := [.slice A xs.length c]) Tryz.func224 Tryz.ntmps224 rfl rfl ?_
 refine aE ?_
 refine aA rfl (aD rfl ?_)
 refine aB ?_
 refine aQ ?_
 refine aE ?_
 refine aA rfl (aC rfl ?_)
 refine aA rfl (cQ Tryz.underlying24 rfl ?_)
 refine aA rfl (cW jW rfl (iM _ _ _ _) (fun w2 hB x1 => ?_) (fun w2 hB x1 => ?_))
 replace hs := hs.ext x1
 replace X := Q7x X x1
 refine aA rfl (cD rfl ?_)
 refine aB ?_
 refine aL rfl ?_
 refine aU ?_
 refine aP ?_
 refine aQ ?_
 refine aE ?_
 refine aA rfl (aD rfl ?_)
 refine aB ?_
 refine aW ?_
 refine dD (G := Nat) (fun k => [(0, .slice A xs.length c), (3, .int .i64 (k : Nat))]) (fun k wr => k ≤ xs.length ∧ iJ none [] xs = iJ (pK xs k) (xs.take k) (xs.drop k) ∧ Sl B wr A (xs.flatMap NodeI.cells) ∧ Ext w wr) (fun k => xs.length - k) 0 (.cons rfl (.cons rfl (.nil _))) ?_ ?_
 · exact ⟨by omega, rfl, hs, X⟩
 clear hs
 clear X
 rintro k wr ⟨hk0, hi, hs, X⟩
 refine aQ ?_
 refine aE ?_
 refine aA rfl (aC rfl ?_)
 refine aA rfl (aC rfl ?_)
 refine aA rfl (cQ Tryz.underlying24 rfl ?_)
 refine aA rfl (cH rfl rfl (fun hk => ?_) (fun hk => ?_))
 obtain ⟨x, hx, dx⟩ := dM hk
 have hmx := hm x (List.mem_of_getElem? hx)
 refine aB ?_
 refine aR rfl ?_
 refine aU ?_
 refine aP ?_
 refine aQ ?_
 refine aW ?_
 refine aQ ?_
 refine eO [false, false, false, false, false, false, false, false, false, false, false, false, false, false, false, false, false, false, false, false, false, false, false, false] mixed (by kernel_rfl) ?_
 refine cE rfl (fun wq sq => aC rfl ⟨rfl, Q7r _⟩) ?_
 refine cE rfl (fun wq sq => aC rfl ⟨rfl, Q7r _⟩) ?_
 refine cE rfl (fun wq sq => aT (hs.ext sq) NodeI.len rfl jT rfl rfl rfl hx rfl ⟨rfl, Q7r _⟩) ?_
 refine cE rfl (fun wq sq => dY (hs.ext sq) NodeI.len hx jF rfl ⟨rfl, Q7r _⟩) ?_
 refine aGN rfl (fun wq sq => aS aJE rfl (aFo _ _ hmx)) (fun h3 => ?_) (fun h3 => ?_)
 refine cE rfl (fun wq sq => cD rfl ⟨rfl, Q7r _⟩) ?_
 refine cE rfl (fun wq sq => aC rfl ⟨rfl, Q7r _⟩) ?_
 refine dT rfl rfl rfl (fun wq sq => aC rfl ⟨rfl, Q7r _⟩) ?_
 refine rG rfl rfl rfl (fun wq sq => qR rfl rfl ⟨rfl, Q7r _⟩) (fun hp => ?_) (fun hp => ?_)
 obtain ⟨y, hy⟩ : ∃ y, xs[k - 1]? = some y := ⟨_, List.getElem?_eq_getElem (by omega)⟩
 refine dT rfl rfl rfl (fun wq sq => aC rfl ⟨rfl, Q7r _⟩) ?_
 refine dT rfl rfl rfl (fun wq sq => aC rfl ⟨rfl, Q7r _⟩) ?_
 refine dT rfl rfl rfl (fun wq sq => aC rfl ⟨rfl, Q7r _⟩) ?_
 refine dT rfl rfl rfl (fun wq sq => aT (hs.ext sq) NodeI.len rfl jT rfl rfl rfl hx rfl ⟨rfl, Q7r _⟩) ?_
 refine dT rfl rfl rfl (fun wq sq => bK lD rfl ⟨rfl, Q7r _⟩) ?_
 refine dT rfl rfl rfl (fun wq sq => dQ (hs.ext sq) NodeI.len hx cY rfl rfl rfl ⟨rfl, Q7r _⟩) ?_
 refine dT rfl rfl rfl (fun wq sq => aC rfl ⟨rfl, Q7r _⟩) ?_
 refine dT rfl rfl rfl (fun wq sq => aC rfl ⟨rfl, Q7r _⟩) ?_
 refine dT rfl rfl rfl (fun wq sq => fZ rfl rfl (dR (by omega)) ⟨rfl, Q7r _⟩) ?_
 refine dT rfl rfl rfl (fun wq sq => aT (hs.ext sq) NodeI.len rfl jT rfl rfl rfl hy (by omega) ⟨rfl, Q7r _⟩) ?_
 refine dT rfl rfl rfl (fun wq sq => bK lD rfl ⟨rfl, Q7r _⟩) ?_
 refine dT rfl rfl rfl (fun wq sq => dQ (hs.ext sq) NodeI.len hy cY rfl rfl rfl ⟨rfl, Q7r _⟩) ?_
 refine rG rfl rfl rfl (fun wq sq => pM rfl rfl ⟨rfl, Q7r _⟩) (fun h6 => ?_) (fun h6 => ?_)
 refine dT rfl rfl rfl (fun wq sq => aJ rfl rfl ⟨rfl, Q7r _⟩) ?_
 refine cE rfl (fun wq sq => aJ rfl rfl ⟨rfl, Q7r _⟩) ?_
 refine dW (fun w7 sq => ?_)
 have xq := sq
 replace hs := hs.ext xq
 replace X := Q7x X xq; clear xq sq
 refine aB ?_
 refine aR rfl ?_
 refine aE ?_
 refine aA rfl (aD rfl ?_)
 refine aB ?_
 refine aV ?_
 refine bU ?_
 refine dN ?_
 refine bU ?_
 refine bU ?_
 refine dN ?_
 refine bU ?_
 refine aK rfl rfl ?_
 · skip
   refine ⟨congrArg Value.bool ?_, X⟩
   first
   | (rw [dV, hB]; rfl)
   | (rw [dV, hB, hi, bJ hk, fJ]; rfl)
   | (rw [dV, hi, bJ hk, fJ, hZ]; rw [Bool.eq_iff_iff]; simp; done)
   | (rw [dV, hi, bJ hk, fJ, hZ]; rw [Bool.eq_iff_iff]; simp; omega)
   | (rw [dV, hi, dx, lE (by assumption), Bool.and_false]; done)
   | (rw [dV, hi, dx, iL (by assumption), Bool.and_false]; done)
   | (rw [dV, hi, dx, eH (by omega) hy, lF (by omega), Bool.and_false]; done)
   | (have hnm := lR hz ‹_›
      rw [dV, hi, dx, iL hnm, Bool.and_false])
 refine dT rfl rfl rfl (fun wq sq => aJ rfl rfl ⟨rfl, Q7r _⟩) ?_
 refine cE rfl (fun wq sq => aJ rfl rfl ⟨rfl, Q7r _⟩) ?_
 refine dW (fun w9 sq => ?_)
 have xq := sq
 replace hs := hs.ext xq
 replace X := Q7x X xq; clear xq sq
 refine aB ?_
 refine aL rfl ?_
 refine aU ?_
 refine aP ?_
 refine aE ?_
 refine aA rfl (aD rfl ?_)
 refine aB ?_
 refine aW ?_
 refine dD (G := Nat) (fun j => [(0, .slice A xs.length c), (3, .int .i64 (k : Nat)), (9, .int .i64 (k : Nat)), (10, .slice A xs.length c), (11, .int .i64 (xs.length : Nat)), (15, .slice A xs.length c), (16, .int .i64 (k : Nat)), (22, .int .i64 (k : Nat)), (25, .slice A xs.length c), (26, .int .i64 (k : Nat)), (30, .slice A xs.length c), (31, .int .i64 (k : Nat)), (4, .int .i64 (j : Nat))]) (fun j wr => j ≤ k ∧ iO x.name (xs.take k) = iO x.name ((xs.take k).drop j) ∧ Sl B wr A (xs.flatMap NodeI.cells) ∧ Ext w wr) (fun j => k - j) 0 (.cons rfl (.cons rfl (.cons rfl (.cons rfl (.cons rfl (.cons rfl (.cons rfl (.cons rfl (.cons rfl (.cons rfl (.cons rfl (.cons rfl (.cons rfl (.nil _)))))))))))))) ?_ ?_
 · exact ⟨by omega, rfl, hs, X⟩
 clear hs
 clear X
 rintro j wr ⟨hj0, hj2, hs, X⟩
 refine aQ ?_
 refine aE ?_
 refine aA rfl (aC rfl ?_)
 refine aA rfl (aC rfl ?_)
 refine aA rfl (cH rfl rfl (fun hj => ?_) (fun hj => ?_))
 have hq : (xs.take k).length = k := by simp; omega
 obtain ⟨z, hz, dz⟩ := dM (xs := xs.take k) (k := j) (by omega)
 have hz2 : xs[j]? = some z := by
   rw [List.getElem?_take] at hz
   split at hz <;> simp_all
 refine aB ?_
 refine aR rfl ?_
 refine aU ?_
 refine aP ?_
 refine aQ ?_
 refine aW ?_
 refine eO [false, false, false, false, false, false, false, false, false, false, false] mixed (by kernel_rfl) ?_
 refine cE rfl (fun wq sq => aC rfl ⟨rfl, Q7r _⟩) ?_
 refine cE rfl (fun wq sq => aC rfl ⟨rfl, Q7r _⟩) ?_
 refine cE rfl (fun wq sq => aT (hs.ext sq) NodeI.len rfl jT rfl rfl rfl hz2 rfl ⟨rfl, Q7r _⟩) ?_
 refine cE rfl (fun wq sq => bK gV rfl ⟨rfl, Q7r _⟩) ?_
 refine cE rfl (fun wq sq => dQ (hs.ext sq) NodeI.len hz2 yA rfl rfl rfl ⟨rfl, Q7r _⟩) ?_
 refine cE rfl (fun wq sq => aC rfl ⟨rfl, Q7r _⟩) ?_
 refine cE rfl (fun wq sq => aC rfl ⟨rfl, Q7r _⟩) ?_
 refine cE rfl (fun wq sq => aT (hs.ext sq) NodeI.len rfl jT rfl rfl rfl hx rfl ⟨rfl, Q7r _⟩) ?_
 refine cE rfl (fun wq sq => bK gV rfl ⟨rfl, Q7r _⟩) ?_
 refine cE rfl (fun wq sq => dQ (hs.ext sq) NodeI.len hx yA rfl rfl rfl ⟨rfl, Q7r _⟩) ?_
 refine uR rfl (fun wq sq => xS rfl rfl ⟨rfl, Q7r _⟩) (fun he => ?_) (fun he => ?_)
 refine dW (fun w10 sq => ?_)
 have xq := sq
 replace hs := hs.ext xq
 replace X := Q7x X xq; clear xq sq
 refine aB ?_
 refine aR rfl ?_
 refine aE ?_
 refine aA rfl (aD rfl ?_)
 refine aB ?_
 refine aV ?_
 refine dN ?_
 refine bU ?_
 refine bU ?_
 refine dN ?_
 refine dN ?_
 refine bU ?_
 refine bU ?_
 refine dN ?_
 refine bU ?_
 refine aK rfl rfl ?_
 · skip
   refine ⟨congrArg Value.bool ?_, X⟩
   first
   | (rw [dV, hB]; rfl)
   | (rw [dV, hB, hi, bJ hk, fJ]; rfl)
   | (rw [dV, hi, bJ hk, fJ, hZ]; rw [Bool.eq_iff_iff]; simp; done)
   | (rw [dV, hi, bJ hk, fJ, hZ]; rw [Bool.eq_iff_iff]; simp; omega)
   | (rw [dV, hi, dx, lE (by assumption), Bool.and_false]; done)
   | (rw [dV, hi, dx, iL (by assumption), Bool.and_false]; done)
   | (rw [dV, hi, dx, eH (by omega) hy, lF (by omega), Bool.and_false]; done)
   | (have hnm := lR hz ‹_›
      rw [dV, hi, dx, iL hnm, Bool.and_false])
 refine dW (fun w11 sq => ?_)
 have xq := sq
 replace hs := hs.ext xq
 replace X := Q7x X xq; clear xq sq
 refine aB ?_
 refine aL rfl ?_
 refine aU ?_
 refine dJ ?_
 refine aP ?_
 refine aM ?_
 refine aA rfl (aC rfl ?_)
 refine aA rfl (aZ rfl rfl (dR (by omega)) ?_)
 refine aA rfl (aD rfl ?_)
 refine aB ?_
 refine aP ⟨j + 1, (.cons rfl (.cons rfl (.cons rfl (.cons rfl (.cons rfl (.cons rfl (.cons rfl (.cons rfl (.cons rfl (.cons rfl (.cons rfl (.cons rfl (.cons rfl (.nil _)))))))))))))), ?_, ?_⟩
 · exact ⟨by omega, (by rw [hj2, dz]; simp [iO, *]), hs, X⟩
 · first | omega | (dsimp only; omega)
 refine aB ?_
 refine aL rfl ?_
 refine dC ?_
 refine dB ?_
 refine dB ?_
 refine eA ?_
 refine dJ ?_
 refine aP ?_
 refine aM ?_
 refine aA rfl (aC rfl ?_)
 refine aA rfl (aZ rfl rfl (dR (by omega)) ?_)
 refine aA rfl (aD rfl ?_)
 refine aB ?_
 refine aP ⟨k + 1, (.cons rfl (.cons rfl (.nil _))), ?_, ?_⟩
 · skip
   exact ⟨by omega, (by
     have hpx : pK xs (k + 1) = some x := kH hx
     have htk : xs.take (k + 1) = xs.take k ++ [x] := by rw [List.take_add_one, hx]; rfl
     rw [hi, dx, hpx, htk]
     have hnm : iO x.name (xs.take k) = false := by rw [hj2, List.drop_eq_nil_of_le (by simp; omega)]; rfl
     first | rw [kI ‹_›, aBL (by assumption) hnm] | rw [eH (by omega) hy, aBM (by assumption) (by omega) hnm]), hs, X⟩
 · first | omega | (dsimp only; omega)
 refine dT rfl rfl rfl (fun wq sq => aC rfl ⟨rfl, Q7r _⟩) ?_
 refine dS rfl rfl rfl rfl ?_
 refine dS rfl rfl rfl rfl ?_
 refine dS rfl rfl rfl rfl ?_
 refine dS rfl rfl rfl rfl ?_
 refine dS rfl rfl rfl rfl ?_
 refine dS rfl rfl rfl rfl ?_
 refine dS rfl rfl rfl rfl ?_
 refine dS rfl rfl rfl rfl ?_
 refine dS rfl rfl rfl rfl ?_
 refine dS rfl rfl rfl rfl ?_
 refine dS rfl rfl rfl rfl ?_
 refine dS rfl rfl rfl rfl ?_
 refine dT rfl rfl rfl (fun wq sq => aJ rfl rfl ⟨rfl, Q7r _⟩) ?_
 refine cE rfl (fun wq sq => aJ rfl rfl ⟨rfl, Q7r _⟩) ?_
 refine dW (fun w12 sq => ?_)
 have xq := sq
 replace hs := hs.ext xq
 replace X := Q7x X xq; clear xq sq
 refine aB ?_
 refine aL rfl ?_
 refine aU ?_
 refine aP ?_
 refine aE ?_
 refine aA rfl (aD rfl ?_)
 refine aB ?_
 refine aW ?_
 refine dD (G := Nat) (fun j => [(0, .slice A xs.length c), (3, .int .i64 (k : Nat)), (9, .int .i64 (k : Nat)), (10, .slice A xs.length c), (11, .int .i64 (xs.length : Nat)), (15, .slice A xs.length c), (16, .int .i64 (k : Nat)), (22, .int .i64 (k : Nat)), (4, .int .i64 (j : Nat))]) (fun j wr => j ≤ k ∧ iO x.name (xs.take k) = iO x.name ((xs.take k).drop j) ∧ Sl B wr A (xs.flatMap NodeI.cells) ∧ Ext w wr) (fun j => k - j) 0 (.cons rfl (.cons rfl (.cons rfl (.cons rfl (.cons rfl (.cons rfl (.cons rfl (.cons rfl (.cons rfl (.nil _)))))))))) ?_ ?_
 · exact ⟨by omega, rfl, hs, X⟩
 clear hs
 clear X
 rintro j wr ⟨hj0, hj2, hs, X⟩
 refine aQ ?_
 refine aE ?_
 refine aA rfl (aC rfl ?_)
 refine aA rfl (aC rfl ?_)
 refine aA rfl (cH rfl rfl (fun hj => ?_) (fun hj => ?_))
 have hq : (xs.take k).length = k := by simp; omega
 obtain ⟨z, hz, dz⟩ := dM (xs := xs.take k) (k := j) (by omega)
 have hz2 : xs[j]? = some z := by
   rw [List.getElem?_take] at hz
   split at hz <;> simp_all
 refine aB ?_
 refine aR rfl ?_
 refine aU ?_
 refine aP ?_
 refine aQ ?_
 refine aW ?_
 refine eO [false, false, false, false, false, false, false, false, false, false, false] mixed (by kernel_rfl) ?_
 refine cE rfl (fun wq sq => aC rfl ⟨rfl, Q7r _⟩) ?_
 refine cE rfl (fun wq sq => aC rfl ⟨rfl, Q7r _⟩) ?_
 refine cE rfl (fun wq sq => aT (hs.ext sq) NodeI.len rfl jT rfl rfl rfl hz2 rfl ⟨rfl, Q7r _⟩) ?_
 refine cE rfl (fun wq sq => bK gV rfl ⟨rfl, Q7r _⟩) ?_
 refine cE rfl (fun wq sq => dQ (hs.ext sq) NodeI.len hz2 yA rfl rfl rfl ⟨rfl, Q7r _⟩) ?_
 refine cE rfl (fun wq sq => aC rfl ⟨rfl, Q7r _⟩) ?_
 refine cE rfl (fun wq sq => aC rfl ⟨rfl, Q7r _⟩) ?_
 refine cE rfl (fun wq sq => aT (hs.ext sq) NodeI.len rfl jT rfl rfl rfl hx rfl ⟨rfl, Q7r _⟩) ?_
 refine cE rfl (fun wq sq => bK gV rfl ⟨rfl, Q7r _⟩) ?_
 refine cE rfl (fun wq sq => dQ (hs.ext sq) NodeI.len hx yA rfl rfl rfl ⟨rfl, Q7r _⟩) ?_
 refine uR rfl (fun wq sq => xS rfl rfl ⟨rfl, Q7r _⟩) (fun he => ?_) (fun he => ?_)
 refine dW (fun w13 sq => ?_)
 have xq := sq
 replace hs := hs.ext xq
 replace X := Q7x X xq; clear xq sq
 refine aB ?_
 refine aR rfl ?_
 refine aE ?_
 refine aA rfl (aD rfl ?_)
 refine aB ?_
 refine aV ?_
 refine dN ?_
 refine bU ?_
 refine bU ?_
 refine dN ?_
 refine dN ?_
 refine bU ?_
 refine bU ?_
 refine dN ?_
 refine bU ?_
 refine aK rfl rfl ?_
 · skip
   refine ⟨congrArg Value.bool ?_, X⟩
   first
   | (rw [dV, hB]; rfl)
   | (rw [dV, hB, hi, bJ hk, fJ]; rfl)
   | (rw [dV, hi, bJ hk, fJ, hZ]; rw [Bool.eq_iff_iff]; simp; done)
   | (rw [dV, hi, bJ hk, fJ, hZ]; rw [Bool.eq_iff_iff]; simp; omega)
   | (rw [dV, hi, dx, lE (by assumption), Bool.and_false]; done)
   | (rw [dV, hi, dx, iL (by assumption), Bool.and_false]; done)
   | (rw [dV, hi, dx, eH (by omega) hy, lF (by omega), Bool.and_false]; done)
   | (have hnm := lR hz ‹_›
      rw [dV, hi, dx, iL hnm, Bool.and_false])
 refine dW (fun w14 sq => ?_)
 have xq := sq
 replace hs := hs.ext xq
 replace X := Q7x X xq; clear xq sq
 refine aB ?_
 refine aL rfl ?_
 refine aU ?_
 refine dJ ?_
 refine aP ?_
 refine aM ?_
 refine aA rfl (aC rfl ?_)
 refine aA rfl (aZ rfl rfl (dR (by omega)) ?_)
 refine aA rfl (aD rfl ?_)
 refine aB ?_
 refine aP ⟨j + 1, (.cons rfl (.cons rfl (.cons rfl (.cons rfl (.cons rfl (.cons rfl (.cons rfl (.cons rfl (.cons rfl (.nil _)))))))))), ?_, ?_⟩
 · exact ⟨by omega, (by rw [hj2, dz]; simp [iO, *]), hs, X⟩
 · first | omega | (dsimp only; omega)
 refine aB ?_
 refine aL rfl ?_
 refine dC ?_
 refine dB ?_
 refine dB ?_
 refine eA ?_
 refine dJ ?_
 refine aP ?_
 refine aM ?_
 refine aA rfl (aC rfl ?_)
 refine aA rfl (aZ rfl rfl (dR (by omega)) ?_)
 refine aA rfl (aD rfl ?_)
 refine aB ?_
 refine aP ⟨k + 1, (.cons rfl (.cons rfl (.nil _))), ?_, ?_⟩
 · skip
   exact ⟨by omega, (by
     have hpx : pK xs (k + 1) = some x := kH hx
     have htk : xs.take (k + 1) = xs.take k ++ [x] := by rw [List.take_add_one, hx]; rfl
     rw [hi, dx, hpx, htk]
     have hnm : iO x.name (xs.take k) = false := by rw [hj2, List.drop_eq_nil_of_le (by simp; omega)]; rfl
     first | rw [kI ‹_›, aBL (by assumption) hnm] | rw [eH (by omega) hy, aBM (by assumption) (by omega) hnm]), hs, X⟩
 · first | omega | (dsimp only; omega)
 refine cE rfl (fun wq sq => cD rfl ⟨rfl, Q7r _⟩) ?_
 refine cE rfl (fun wq sq => aC rfl ⟨rfl, Q7r _⟩) ?_
 refine dS rfl rfl rfl rfl ?_
 refine dS rfl rfl rfl rfl ?_
 refine dS rfl rfl rfl rfl ?_
 refine dS rfl rfl rfl rfl ?_
 refine dS rfl rfl rfl rfl ?_
 refine dS rfl rfl rfl rfl ?_
 refine dS rfl rfl rfl rfl ?_
 refine dS rfl rfl rfl rfl ?_
 refine dS rfl rfl rfl rfl ?_
 refine dS rfl rfl rfl rfl ?_
 refine dS rfl rfl rfl rfl ?_
 refine dS rfl rfl rfl rfl ?_
 refine dS rfl rfl rfl rfl ?_
 refine dS rfl rfl rfl rfl ?_
 refine dS rfl rfl rfl rfl ?_
 refine dS rfl rfl rfl rfl ?_
 refine cE rfl (fun wq sq => aJ rfl rfl ⟨rfl, Q7r _⟩) ?_
 refine dW (fun w15 sq => ?_)
 have xq := sq
 replace hs := hs.ext xq
 replace X := Q7x X xq; clear xq sq
 refine aB ?_
 refine aR rfl ?_
 refine aE ?_
 refine aA rfl (aD rfl ?_)
 refine aB ?_
 refine aV ?_
 refine bU ?_
 refine dN ?_
 refine bU ?_
 refine bU ?_
 refine dN ?_
 refine bU ?_
 refine aK rfl rfl ?_
 · skip
   refine ⟨congrArg Value.bool ?_, X⟩
   first
   | (rw [dV, hB]; rfl)
   | (rw [dV, hB, hi, bJ hk, fJ]; rfl)
   | (rw [dV, hi, bJ hk, fJ, hZ]; rw [Bool.eq_iff_iff]; simp; done)
   | (rw [dV, hi, bJ hk, fJ, hZ]; rw [Bool.eq_iff_iff]; simp; omega)
   | (rw [dV, hi, dx, lE (by assumption), Bool.and_false]; done)
   | (rw [dV, hi, dx, iL (by assumption), Bool.and_false]; done)
   | (rw [dV, hi, dx, eH (by omega) hy, lF (by omega), Bool.and_false]; done)
   | (have hnm := lR hz ‹_›
      rw [dV, hi, dx, iL hnm, Bool.and_false])
 refine aB ?_
 refine aL rfl ?_
 refine dC ?_
 refine dB ?_
 refine dB ?_
 refine eA ?_
 refine aP ?_
 refine aE ?_
 refine aA rfl (aD rfl ?_)
 refine aB ?_
 refine aV ?_
 refine aK rfl rfl ?_
 · skip
   refine ⟨congrArg Value.bool ?_, X⟩
   first
   | (rw [dV, hB]; rfl)
   | (rw [dV, hB, hi, bJ hk, fJ]; rfl)
   | (rw [dV, hi, bJ hk, fJ, hZ]; rw [Bool.eq_iff_iff]; simp; done)
   | (rw [dV, hi, bJ hk, fJ, hZ]; rw [Bool.eq_iff_iff]; simp; omega)
   | (rw [dV, hi, dx, lE (by assumption), Bool.and_false]; done)
   | (rw [dV, hi, dx, iL (by assumption), Bool.and_false]; done)
   | (rw [dV, hi, dx, eH (by omega) hy, lF (by omega), Bool.and_false]; done)
   | (have hnm := lR hz ‹_›
      rw [dV, hi, dx, iL hnm, Bool.and_false])
 replace hs := hs.ext x1
 replace X := Q7x X x1
 refine aA rfl (cD rfl ?_)
 refine aB ?_
 refine aR rfl ?_
 refine aE ?_
 refine aA rfl (aD rfl ?_)
 refine aB ?_
 refine aV ?_
 refine bU ?_
 refine aK rfl rfl ?_
 · skip
   refine ⟨congrArg Value.bool ?_, X⟩
   first
   | (rw [dV, hB]; rfl)
   | (rw [dV, hB, hi, bJ hk, fJ]; rfl)
   | (rw [dV, hi, bJ hk, fJ, hZ]; rw [Bool.eq_iff_iff]; simp; done)
   | (rw [dV, hi, bJ hk, fJ, hZ]; rw [Bool.eq_iff_iff]; simp; omega)
   | (rw [dV, hi, dx, lE (by assumption), Bool.and_false]; done)
   | (rw [dV, hi, dx, iL (by assumption), Bool.and_false]; done)
   | (rw [dV, hi, dx, eH (by omega) hy, lF (by omega), Bool.and_false]; done)
   | (have hnm := lR hz ‹_›
      rw [dV, hi, dx, iL hnm, Bool.and_false])
theorem aFY (y : NodeI) (gx : Nat) (x : NodeI) (w : World) (q : Blk w gx 59 x.cells) :
   Calls Tryz.prog 199 #[.agg y.cells.toArray, .pointer (some ⟨gx, 0, none⟩)] w (fD fun v w' => v = .bool (decide (y.name = x.name)) ∧ Ext w w') := by
 have X := Q7r w
 refine bI (args := [.agg y.cells.toArray, .pointer (some ⟨gx, 0, none⟩)]) Tryz.func199 Tryz.ntmps199 rfl rfl ?_
 refine aE ?_
 refine aA rfl (eE rfl rfl ?_)
 intro g4 w3 eg4 b1 x2 zg4
 have lg4 : w.heap.size ≤ g4 := Q7l X.size (Q7e eg4.symm)
 have ng4q := Nat.lt_of_lt_of_eq q.lt eg4.symm
 replace q := q.ext x2
 replace X := Q7x X x2
 refine aA rfl (aD rfl ?_)
 refine aB ?_
 refine aE ?_
 refine aA rfl (aF gV rfl rfl ?_)
 refine aA rfl (aI b1 yA rfl rfl ?_)
 refine aA rfl (aF gV rfl rfl ?_)
 refine aA rfl (aI q yA rfl rfl ?_)
 refine aA rfl (xS rfl rfl ?_)
 refine aA rfl (aD rfl ?_)
 refine aB ?_
 refine aV ?_
 refine aK rfl rfl ?_
 exact ⟨by rfl, X⟩
theorem aIt (A : Option Addr) (B c : Nat) (xs : List NodeI) (gx : Nat) (x : NodeI) (w : World) (hs : Sl B w A (xs.flatMap NodeI.cells)) (hl : xs.length ≤ 1048576) (q : Blk w gx 59 x.cells) :
   Calls Tryz.prog 249 #[.slice A xs.length c, .func (.func 199) #[] #[.pointer (some ⟨gx, 0, none⟩)]] w (fD fun v w' => v = .int .i64 (aAt x.name 0 xs) ∧ Ext w w') := by
 have Bhs := hs.1
 have X := Q7r w
 refine bI (args := [.slice A xs.length c, .func (.func 199) #[] #[.pointer (some ⟨gx, 0, none⟩)]]) Tryz.func249 Tryz.ntmps249 rfl rfl ?_
 refine aE ?_
 refine aA rfl (aD rfl ?_)
 refine aB ?_
 refine aQ ?_
 refine aE ?_
 refine aA rfl (aC rfl ?_)
 refine aA rfl (cQ Tryz.underlying24 rfl ?_)
 refine aA rfl (aC rfl ?_)
 refine aB ?_
 refine aW ?_
 refine dD (G := Nat) (fun k => [(0, .slice A xs.length c), (1, .func (.func 199) #[] #[.pointer (some ⟨gx, 0, none⟩)]), (7, .int .i64 (xs.length : Nat)), (8, .int .i64 (k : Nat))]) (fun k wr => k ≤ xs.length ∧ aAt x.name 0 xs = aAt x.name k (xs.drop k) ∧ Sl B wr A (xs.flatMap NodeI.cells) ∧ Blk wr gx 59 x.cells ∧ Ext w wr) (fun k => xs.length - k) 0 (.cons rfl (.cons rfl (.cons rfl (.cons rfl (.nil _))))) ?_ ?_
 · exact ⟨by omega, rfl, hs, q, X⟩
 clear hs q
 clear X
 rintro k wr ⟨hk0, hi, hs, q, X⟩
 refine aE ?_
 refine aA rfl (cH rfl rfl (fun hk => ?_) (fun hk => ?_))
 obtain ⟨y, hx, dx⟩ := dM hk
 refine aB ?_
 refine aQ ?_
 refine aR rfl ?_
 refine aU ?_
 refine aP ?_
 refine aQ ?_
 refine aW ?_
 refine aE ?_
 refine aA rfl (aC rfl ?_)
 refine aA rfl (aD rfl ?_)
 refine aB ?_
 refine aE ?_
 refine aA rfl (aC rfl ?_)
 refine aA rfl (aC rfl ?_)
 refine aA rfl (aC rfl ?_)
 refine aA rfl (aT hs NodeI.len rfl jT rfl rfl rfl hx rfl ?_)
 refine aA rfl (dY hs NodeI.len hx jF rfl ?_)
 refine aA rfl (uN aJb rfl rfl (aFY _ _ _ _ q) (fun w2 hF x1 => ?_) (fun w2 hF x1 => ?_))
 replace hs := hs.ext x1
 replace q := q.ext x1
 replace X := Q7x X x1
 refine aB ?_
 refine aR rfl ?_
 refine aE ?_
 refine aA rfl (aC rfl ?_)
 refine aA rfl (aD rfl ?_)
 refine aB ?_
 refine aV ?_
 refine dN ?_
 refine bU ?_
 refine bU ?_
 refine dN ?_
 refine bU ?_
 refine aK rfl rfl ?_
 · skip
   refine ⟨congrArg (Value.int .i64) ?_, X⟩
   first | (rw [hi, bJ hk]; rfl) | (rw [hi, dx, aAt, if_pos (by simpa using hF)])
 replace hs := hs.ext x1
 replace q := q.ext x1
 replace X := Q7x X x1
 refine aB ?_
 refine aL rfl ?_
 refine aU ?_
 refine dJ ?_
 refine aP ?_
 refine aM ?_
 refine aA rfl (aZ rfl rfl (dR (by omega)) ?_)
 refine aA rfl (aC rfl ?_)
 refine aB ?_
 refine aP ⟨k + 1, (.cons rfl (.cons rfl (.cons rfl (.cons rfl (.nil _))))), ?_, ?_⟩
 · exact ⟨by omega, (by rw [hi, dx, aAt, if_neg (by simpa using hF)]; rfl), hs, q, X⟩
 · first | omega | (dsimp only; omega)
 refine aB ?_
 refine aQ ?_
 refine aL rfl ?_
 refine dC ?_
 refine dB ?_
 refine dB ?_
 refine eA ?_
 refine aP ?_
 refine aE ?_
 refine aA rfl (aD rfl ?_)
 refine aB ?_
 refine aV ?_
 refine aK rfl rfl ?_
 · skip
   refine ⟨congrArg (Value.int .i64) ?_, X⟩
   first | (rw [hi, bJ hk]; rfl) | (rw [hi, dx, aAt, if_pos (by simpa using hF)])
theorem aHW (A : Option Addr) (B c : Nat) (xs : List NodeI) (gx : Nat) (x : NodeI) (w : World) (hs : Sl B w A (xs.flatMap NodeI.cells)) (hl : xs.length ≤ 1048576) (q : Blk w gx 59 x.cells) :
   Calls Tryz.prog 198 #[.slice A xs.length c, .func (.func 199) #[] #[.pointer (some ⟨gx, 0, none⟩)]] w (fD fun v w' => v = .bool (iO x.name xs) ∧ Ext w w') := by
 have Bhs := hs.1
 have X := Q7r w
 refine bI (args := [.slice A xs.length c, .func (.func 199) #[] #[.pointer (some ⟨gx, 0, none⟩)]]) Tryz.func198 Tryz.ntmps198 rfl rfl ?_
 refine aE ?_
 refine aA rfl (aD rfl ?_)
 refine aB ?_
 refine aE ?_
 refine aA rfl (aC rfl ?_)
 refine aA rfl (aC rfl ?_)
 refine aA rfl (aS aJB rfl (aO (aIt _ _ _ _ gx x _ hs hl q) ?_))
 rintro _ w2 ⟨rfl, x1⟩
 replace hs := hs.ext x1
 replace q := q.ext x1
 replace X := Q7x X x1
 refine aA rfl (uJ rfl rfl ?_)
 refine aA rfl (aD rfl ?_)
 refine aB ?_
 refine aV ?_
 refine aK rfl rfl ?_
 exact ⟨congrArg Value.bool (aCl x.name xs 0 (by omega)), X⟩
theorem aBp (A : Option Addr) (B c : Nat) (xs : List NodeI) (hcap : xs.length ≤ c) (w : World) (hs : Sl B w A (xs.flatMap NodeI.cells)) (hl : xs.length ≤ 1048576) (hm : ∀ x ∈ xs, x.name.size ≤ 9223372036854775807) :
   Calls Tryz.prog 113 #[.slice A xs.length c] w (fD fun v w' => v = .bool (dV xs) ∧ Ext w w') := by
 have Bhs := hs.1
 have X := Q7r w
 refine bI (args := [.slice A xs.length c]) Tryz.func113 Tryz.ntmps113 rfl rfl ?_
 refine aE ?_
 refine aA rfl (aD rfl ?_)
 refine aB ?_
 refine aQ ?_
 refine aE ?_
 refine aA rfl (aC rfl ?_)
 refine aA rfl (cQ Tryz.underlying24 rfl ?_)
 refine aA rfl (aC rfl ?_)
 refine aB ?_
 refine aW ?_
 refine dD (G := Nat) (fun k => [(0, .slice A xs.length c), (5, .slice A xs.length c), (6, .int .i64 (xs.length : Nat)), (7, .int .i64 (k : Nat))]) (fun k wr => k ≤ xs.length ∧ iJ none [] xs = iJ (pK xs k) (xs.take k) (xs.drop k) ∧ Sl B wr A (xs.flatMap NodeI.cells) ∧ Ext w wr) (fun k => xs.length - k) 0 (.cons rfl (.cons rfl (.cons rfl (.cons rfl (.nil _))))) ?_ ?_
 · exact ⟨by omega, rfl, hs, X⟩
 clear hs
 clear X
 rintro k wr ⟨hk0, hi, hs, X⟩
 refine aE ?_
 refine aA rfl (cH rfl rfl (fun hk => ?_) (fun hk => ?_))
 obtain ⟨x, hx, dx⟩ := dM hk
 have hmx := hm x (List.mem_of_getElem? hx)
 refine aB ?_
 refine aQ ?_
 refine aR rfl ?_
 refine aU ?_
 refine aP ?_
 refine aQ ?_
 refine aW ?_
 refine aE ?_
 refine aA rfl (aC rfl ?_)
 refine aA rfl (aT hs NodeI.len rfl jT rfl rfl rfl hx rfl ?_)
 refine aA rfl (dY hs NodeI.len hx jF rfl ?_)
 refine aA rfl (dO jF ?_)
 intro gX w2 egX bX x1 zgX
 have lgX : w.heap.size ≤ gX := Q7l X.size (Q7e egX.symm)
 have pgXhs := Q7l hs.1 (Q7e egX.symm)
 replace hs := hs.ext x1
 replace X := Q7x X x1
 refine aA rfl (aD rfl ?_)
 refine aA rfl (aX bX jF rfl rfl rfl rfl rfl rfl ?_)
 intro w4 bY hg3 z5
 replace hs := hs.grown hg3 (by intro g hg; injection hg; omega)
 replace X := X.grown hg3 X.size (by intro g hg; injection hg; omega)
 clear hg3 bX
 refine aB ?_
 refine aQ ?_
 refine eO [false, false, false, false, false, false, false, false, false, false, false, false, false, false, false, false, false, false] mixed (by kernel_rfl) ?_
 refine cE rfl (fun wq sq => bO (bY.ext sq) jF rfl rfl ⟨rfl, Q7r _⟩) ?_
 refine aGN rfl (fun wq sq => aS aJa rfl (aFp _ _ hmx)) (fun h6 => ?_) (fun h6 => ?_)
 refine cE rfl (fun wq sq => cD rfl ⟨rfl, Q7r _⟩) ?_
 refine cE rfl (fun wq sq => aC rfl ⟨rfl, Q7r _⟩) ?_
 refine dT rfl rfl rfl (fun wq sq => aC rfl ⟨rfl, Q7r _⟩) ?_
 refine rG rfl rfl rfl (fun wq sq => qR rfl rfl ⟨rfl, Q7r _⟩) (fun hp => ?_) (fun hp => ?_)
 obtain ⟨y, hy⟩ : ∃ y, xs[k - 1]? = some y := ⟨_, List.getElem?_eq_getElem (by omega)⟩
 refine dT rfl rfl rfl (fun wq sq => aC rfl ⟨rfl, Q7r _⟩) ?_
 refine dT rfl rfl rfl (fun wq sq => aC rfl ⟨rfl, Q7r _⟩) ?_
 refine dT rfl rfl rfl (fun wq sq => aC rfl ⟨rfl, Q7r _⟩) ?_
 refine dT rfl rfl rfl (fun wq sq => fZ rfl rfl (dR (by omega)) ⟨rfl, Q7r _⟩) ?_
 refine dT rfl rfl rfl (fun wq sq => aT (hs.ext sq) NodeI.len rfl jT rfl rfl rfl hy (by omega) ⟨rfl, Q7r _⟩) ?_
 refine dT rfl rfl rfl (fun wq sq => bK lD rfl ⟨rfl, Q7r _⟩) ?_
 refine dT rfl rfl rfl (fun wq sq => dQ (hs.ext sq) NodeI.len hy cY rfl rfl rfl ⟨rfl, Q7r _⟩) ?_
 refine dT rfl rfl rfl (fun wq sq => aF lD rfl rfl ⟨rfl, Q7r _⟩) ?_
 refine dT rfl rfl rfl (fun wq sq => aI (bY.ext sq) cY rfl rfl ⟨rfl, Q7r _⟩) ?_
 refine rG rfl rfl rfl (fun wq sq => uJ rfl rfl ⟨rfl, Q7r _⟩) (fun h10 => ?_) (fun h10 => ?_)
 refine dT rfl rfl rfl (fun wq sq => aJ rfl rfl ⟨rfl, Q7r _⟩) ?_
 refine cE rfl (fun wq sq => aJ rfl rfl ⟨rfl, Q7r _⟩) ?_
 refine dW (fun w11 sq => ?_)
 have xq := sq
 replace hs := hs.ext xq
 replace bY := bY.ext xq
 replace X := Q7x X xq; clear xq sq
 refine aB ?_
 refine aR rfl ?_
 refine aE ?_
 refine aA rfl (aD rfl ?_)
 refine aB ?_
 refine aV ?_
 refine bU ?_
 refine dN ?_
 refine bU ?_
 refine bU ?_
 refine dN ?_
 refine bU ?_
 refine aK rfl rfl ?_
 · skip
   refine ⟨congrArg Value.bool ?_, X⟩
   first
   | (rw [dV, hB]; rfl)
   | (rw [dV, hB, hi, bJ hk, fJ]; rfl)
   | (rw [dV, hi, bJ hk, fJ, hZ]; rw [Bool.eq_iff_iff]; simp; done)
   | (rw [dV, hi, bJ hk, fJ, hZ]; rw [Bool.eq_iff_iff]; simp; omega)
   | (rw [dV, hi, dx, lE (by assumption), Bool.and_false]; done)
   | (rw [dV, hi, dx, iL (by assumption), Bool.and_false]; done)
   | (rw [dV, hi, dx, eH (by omega) hy, lF (by omega), Bool.and_false]; done)
 refine dT rfl rfl rfl (fun wq sq => aJ rfl rfl ⟨rfl, Q7r _⟩) ?_
 refine cE rfl (fun wq sq => aJ rfl rfl ⟨rfl, Q7r _⟩) ?_
 refine dW (fun w12 sq => ?_)
 have xq := sq
 replace hs := hs.ext xq
 replace bY := bY.ext xq
 replace X := Q7x X xq; clear xq sq
 refine aB ?_
 refine aL rfl ?_
 refine aU ?_
 refine aP ?_
 refine aE ?_
 refine aA rfl (aC rfl ?_)
 refine aA rfl (aC rfl ?_)
 refine aA rfl (aAX jT hs NodeI.len rfl rfl rfl (by omega) ?_)
 intro Aq hq
 refine aA rfl (mS rfl ?_)
 refine aA rfl (cW aGF rfl (by have := aHW Aq B c (xs.take k) gX x _ hq (by simp; omega) bY; rw [show (xs.take k).length = k by simp; omega] at this; exact this) (fun w14 hc x13 => ?_) (fun w14 hc x13 => ?_))
 replace hs := hs.ext x13
 replace bY := bY.ext x13
 replace hq := hq.ext x13
 replace X := Q7x X x13
 refine aB ?_
 refine aR rfl ?_
 refine aE ?_
 refine aA rfl (aD rfl ?_)
 refine aB ?_
 refine aV ?_
 refine dN ?_
 refine bU ?_
 refine bU ?_
 refine dN ?_
 refine bU ?_
 refine aK rfl rfl ?_
 · skip
   refine ⟨congrArg Value.bool ?_, X⟩
   first
   | (rw [dV, hB]; rfl)
   | (rw [dV, hB, hi, bJ hk, fJ]; rfl)
   | (rw [dV, hi, bJ hk, fJ, hZ]; rw [Bool.eq_iff_iff]; simp; done)
   | (rw [dV, hi, bJ hk, fJ, hZ]; rw [Bool.eq_iff_iff]; simp; omega)
   | (rw [dV, hi, dx, lE (by assumption), Bool.and_false]; done)
   | (rw [dV, hi, dx, iL (by assumption), Bool.and_false]; done)
   | (rw [dV, hi, dx, eH (by omega) hy, lF (by omega), Bool.and_false]; done)
 replace hs := hs.ext x13
 replace bY := bY.ext x13
 replace hq := hq.ext x13
 replace X := Q7x X x13
 refine aB ?_
 refine aL rfl ?_
 refine aU ?_
 refine dJ ?_
 refine aP ?_
 refine aM ?_
 refine aA rfl (aZ rfl rfl (dR (by omega)) ?_)
 refine aA rfl (aC rfl ?_)
 refine aB ?_
 refine aP ⟨k + 1, (.cons rfl (.cons rfl (.cons rfl (.cons rfl (.nil _))))), ?_, ?_⟩
 · skip
   exact ⟨by omega, (by
     have hpx : pK xs (k + 1) = some x := kH hx
     have htk : xs.take (k + 1) = xs.take k ++ [x] := by rw [List.take_add_one, hx]; rfl
     rw [hi, dx, hpx, htk]
     have hnm : iO x.name (xs.take k) = false := hc
     first | rw [kI ‹_›, aBL (by assumption) hnm] | rw [eH (by omega) hy, aBM (by assumption) (by omega) hnm]), hs, X⟩
 · first | omega | (dsimp only; omega)
 refine dT rfl rfl rfl (fun wq sq => aC rfl ⟨rfl, Q7r _⟩) ?_
 refine dS rfl rfl rfl rfl ?_
 refine dS rfl rfl rfl rfl ?_
 refine dS rfl rfl rfl rfl ?_
 refine dS rfl rfl rfl rfl ?_
 refine dS rfl rfl rfl rfl ?_
 refine dS rfl rfl rfl rfl ?_
 refine dS rfl rfl rfl rfl ?_
 refine dS rfl rfl rfl rfl ?_
 refine dS rfl rfl rfl rfl ?_
 refine dT rfl rfl rfl (fun wq sq => aJ rfl rfl ⟨rfl, Q7r _⟩) ?_
 refine cE rfl (fun wq sq => aJ rfl rfl ⟨rfl, Q7r _⟩) ?_
 refine dW (fun w15 sq => ?_)
 have xq := sq
 replace hs := hs.ext xq
 replace bY := bY.ext xq
 replace X := Q7x X xq; clear xq sq
 refine aB ?_
 refine aL rfl ?_
 refine aU ?_
 refine aP ?_
 refine aE ?_
 refine aA rfl (aC rfl ?_)
 refine aA rfl (aC rfl ?_)
 refine aA rfl (aAX jT hs NodeI.len rfl rfl rfl (by omega) ?_)
 intro Aq hq
 refine aA rfl (mS rfl ?_)
 refine aA rfl (cW aGF rfl (by have := aHW Aq B c (xs.take k) gX x _ hq (by simp; omega) bY; rw [show (xs.take k).length = k by simp; omega] at this; exact this) (fun w17 hc x16 => ?_) (fun w17 hc x16 => ?_))
 replace hs := hs.ext x16
 replace bY := bY.ext x16
 replace hq := hq.ext x16
 replace X := Q7x X x16
 refine aB ?_
 refine aR rfl ?_
 refine aE ?_
 refine aA rfl (aD rfl ?_)
 refine aB ?_
 refine aV ?_
 refine dN ?_
 refine bU ?_
 refine bU ?_
 refine dN ?_
 refine bU ?_
 refine aK rfl rfl ?_
 · skip
   refine ⟨congrArg Value.bool ?_, X⟩
   first
   | (rw [dV, hB]; rfl)
   | (rw [dV, hB, hi, bJ hk, fJ]; rfl)
   | (rw [dV, hi, bJ hk, fJ, hZ]; rw [Bool.eq_iff_iff]; simp; done)
   | (rw [dV, hi, bJ hk, fJ, hZ]; rw [Bool.eq_iff_iff]; simp; omega)
   | (rw [dV, hi, dx, lE (by assumption), Bool.and_false]; done)
   | (rw [dV, hi, dx, iL (by assumption), Bool.and_false]; done)
   | (rw [dV, hi, dx, eH (by omega) hy, lF (by omega), Bool.and_false]; done)
 replace hs := hs.ext x16
 replace bY := bY.ext x16
 replace hq := hq.ext x16
 replace X := Q7x X x16
 refine aB ?_
 refine aL rfl ?_
 refine aU ?_
 refine dJ ?_
 refine aP ?_
 refine aM ?_
 refine aA rfl (aZ rfl rfl (dR (by omega)) ?_)
 refine aA rfl (aC rfl ?_)
 refine aB ?_
 refine aP ⟨k + 1, (.cons rfl (.cons rfl (.cons rfl (.cons rfl (.nil _))))), ?_, ?_⟩
 · skip
   exact ⟨by omega, (by
     have hpx : pK xs (k + 1) = some x := kH hx
     have htk : xs.take (k + 1) = xs.take k ++ [x] := by rw [List.take_add_one, hx]; rfl
     rw [hi, dx, hpx, htk]
     have hnm : iO x.name (xs.take k) = false := hc
     first | rw [kI ‹_›, aBL (by assumption) hnm] | rw [eH (by omega) hy, aBM (by assumption) (by omega) hnm]), hs, X⟩
 · first | omega | (dsimp only; omega)
 refine cE rfl (fun wq sq => cD rfl ⟨rfl, Q7r _⟩) ?_
 refine cE rfl (fun wq sq => aC rfl ⟨rfl, Q7r _⟩) ?_
 refine dS rfl rfl rfl rfl ?_
 refine dS rfl rfl rfl rfl ?_
 refine dS rfl rfl rfl rfl ?_
 refine dS rfl rfl rfl rfl ?_
 refine dS rfl rfl rfl rfl ?_
 refine dS rfl rfl rfl rfl ?_
 refine dS rfl rfl rfl rfl ?_
 refine dS rfl rfl rfl rfl ?_
 refine dS rfl rfl rfl rfl ?_
 refine dS rfl rfl rfl rfl ?_
 refine dS rfl rfl rfl rfl ?_
 refine dS rfl rfl rfl rfl ?_
 refine dS rfl rfl rfl rfl ?_
 refine cE rfl (fun wq sq => aJ rfl rfl ⟨rfl, Q7r _⟩) ?_
 refine dW (fun w18 sq => ?_)
 have xq := sq
 replace hs := hs.ext xq
 replace bY := bY.ext xq
 replace X := Q7x X xq; clear xq sq
 refine aB ?_
 refine aR rfl ?_
 refine aE ?_
 refine aA rfl (aD rfl ?_)
 refine aB ?_
 refine aV ?_
 refine bU ?_
 refine dN ?_
 refine bU ?_
 refine bU ?_
 refine dN ?_
 refine bU ?_
 refine aK rfl rfl ?_
 · skip
   refine ⟨congrArg Value.bool ?_, X⟩
   first
   | (rw [dV, hB]; rfl)
   | (rw [dV, hB, hi, bJ hk, fJ]; rfl)
   | (rw [dV, hi, bJ hk, fJ, hZ]; rw [Bool.eq_iff_iff]; simp; done)
   | (rw [dV, hi, bJ hk, fJ, hZ]; rw [Bool.eq_iff_iff]; simp; omega)
   | (rw [dV, hi, dx, lE (by assumption), Bool.and_false]; done)
   | (rw [dV, hi, dx, iL (by assumption), Bool.and_false]; done)
   | (rw [dV, hi, dx, eH (by omega) hy, lF (by omega), Bool.and_false]; done)
 refine aB ?_
 refine aQ ?_
 refine aL rfl ?_
 refine dC ?_
 refine dB ?_
 refine dB ?_
 refine eA ?_
 refine aP ?_
 refine aE ?_
 refine aA rfl (aC rfl ?_)
 refine aA rfl (cQ Tryz.underlying24 rfl ?_)
 refine aA rfl (lC rfl rfl (fun h19 => ?_) (fun h19 => ?_))
 refine aA rfl (aC rfl ?_)
 refine aH rfl rfl rfl (aC rfl ?_)
 refine aH rfl rfl rfl (cQ Tryz.underlying24 rfl ?_)
 refine aH rfl rfl rfl (pM rfl rfl ?_)
 refine aA rfl (aJ rfl rfl ?_)
 refine aA rfl (aD rfl ?_)
 refine aB ?_
 refine aV ?_
 refine aK rfl rfl ?_
 · skip
   refine ⟨congrArg Value.bool ?_, X⟩
   first
   | (rw [dV, hB]; rfl)
   | (rw [dV, hB, hi, bJ hk, fJ]; rfl)
   | (rw [dV, hi, bJ hk, fJ, hZ]; rw [Bool.eq_iff_iff]; simp; done)
   | (rw [dV, hi, bJ hk, fJ, hZ]; rw [Bool.eq_iff_iff]; simp; omega)
   | (rw [dV, hi, dx, lE (by assumption), Bool.and_false]; done)
   | (rw [dV, hi, dx, iL (by assumption), Bool.and_false]; done)
   | (rw [dV, hi, dx, eH (by omega) hy, lF (by omega), Bool.and_false]; done)
 refine aA rfl (aC rfl ?_)
 refine aG rfl rfl rfl rfl ?_
 refine aG rfl rfl rfl rfl ?_
 refine aG rfl rfl rfl rfl ?_
 refine aA rfl (aJ rfl rfl ?_)
 refine aA rfl (aD rfl ?_)
 refine aB ?_
 refine aV ?_
 refine aK rfl rfl ?_
 · skip
   refine ⟨congrArg Value.bool ?_, X⟩
   first
   | (rw [dV, hB]; rfl)
   | (rw [dV, hB, hi, bJ hk, fJ]; rfl)
   | (rw [dV, hi, bJ hk, fJ, hZ]; rw [Bool.eq_iff_iff]; simp; done)
   | (rw [dV, hi, bJ hk, fJ, hZ]; rw [Bool.eq_iff_iff]; simp; omega)
   | (rw [dV, hi, dx, lE (by assumption), Bool.and_false]; done)
   | (rw [dV, hi, dx, iL (by assumption), Bool.and_false]; done)
   | (rw [dV, hi, dx, eH (by omega) hy, lF (by omega), Bool.and_false]; done)
end Go.Proofs.YtdoibplhbdkapaaGreatDoor
