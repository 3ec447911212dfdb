/- Parts. No condition. -/
import Derived.Test.YtdoibplhbdkapaaGreatDoorDOP4
import Derived.Test.YtdoibplhbdkapaaGreatDoorDOP17
import Derived.Test.YtdoibplhbdkapaaGreatDoorDOP10
import Derived.Test.YtdoibplhbdkapaaGreatDoorDOP9
import Derived.Test.YtdoibplhbdkapaaGreatDoorDOP3
import Derived.Test.YtdoibplhbdkapaaGreatDoorDOP11
namespace Go.Proofs.YtdoibplhbdkapaaGreatDoor
open Go.RowKit
set_option linter.unusedVariables false
set_option linter.unusedSimpArgs false
set_option maxRecDepth 20000
theorem aBu (A : Option Addr) (B c : Nat) (bs : List UInt8) (w : World) (hs : Sl B w A (bs.flatMap eB)) (hbl : bs.length ≤ 1048576) :
   Calls Tryz.prog 64 #[.slice A bs.length c] w (fF fun v w' => ∃ gS a sd, v = .pointer (some ⟨gS, 0, none⟩) ∧ w.heap.size ≤ gS ∧ (a ≤ bs.length ∧ 0 ≤ sd ∧ sd < 2147483647) ∧ Blk w' gS 148 (lH A c bs a sd) ∧ Ext w w') := by
 have Bhs := hs.1
 have X := Q7r w
 refine bJ (args := [.slice A bs.length c]) Tryz.func64 Tryz.ntmps64 rfl rfl (aF (aA rfl (aE rfl (aB (aF (aA rfl (aC rfl (aA rfl (dA aLb aLa rfl rfl (aA rfl (eX rfl rfl ?_)))))))))))
 intro gS w2 egS q x1 zgS
 have lgS : w.heap.size ≤ gS := Q7l X.size (Q7e egS.symm)
 have pgShs := Q7l hs.1 (Q7e egS.symm)
 replace hs := hs.ext x1
 replace X := Q7x X x1; clear x1
 have q : Blk _ gS 148 (lH A c bs 0 40009) := q
 refine aA rfl (aE rfl (aB (aR (aF (aA rfl (aE rfl (aB (aX (dG (G := Nat × Int) (fun ⟨k, s⟩ => [(0, .slice A bs.length c), (3, .pointer (some ⟨gS, 0, none⟩)), (4, .int .i64 (k : Nat))]) (fun ⟨k, s⟩ wr => k ≤ bs.length ∧ (0 ≤ s ∧ s < 2147483647) ∧ Blk wr gS 148 (lH A c bs 0 s) ∧ Sl B wr A (bs.flatMap eB) ∧ Ext w wr) (fun ⟨k, s⟩ => bs.length - k) (0, 40009) (.cons rfl (.cons rfl (.cons rfl (.nil _)))) ?_ ?_)))))))))
 · exact ⟨by omega, (by omega), q, hs, X⟩
 clear hs q
 clear X
 rintro ⟨k, s⟩ wr ⟨hk0, hs0, q, hs, X⟩
 refine aR (aF (aA rfl (aC rfl (aA rfl (aC rfl (aA rfl (bO Tryz.underlying22 rfl (aA rfl (cU rfl rfl (fun hk => ?_) (fun hk => ?_))))))))))
 obtain ⟨x, hx, dx⟩ := dR hk
 have hxb := aIT x
 refine aA rfl (aC rfl (aI rfl rfl rfl (aC rfl (aI rfl rfl rfl (cU rfl rfl (fun hk2 => ?_) (fun hk2 => ?_))))))
 refine aA rfl (aK rfl rfl (aB (aQ rfl (aV (aS (aR (aX (aBX [false, false, false, false, false, false, false, false, false, false, false, false, false, false, false] mixed (by kernel_rfl) (cO rfl (fun wq sq => aC rfl ⟨rfl, Q7r _⟩) (cO rfl (fun wq sq => aC rfl ⟨rfl, Q7r _⟩) (cO rfl (fun wq sq => dJ rfl ⟨rfl, Q7r _⟩) (cO rfl (fun wq sq => aG uA rfl rfl ⟨rfl, Q7r _⟩) (cO rfl (fun wq sq => aJ (q.ext sq) dB rfl rfl ⟨rfl, Q7r _⟩) (cO rfl (fun wq sq => fO rfl rfl (dM (by omega)) ⟨rfl, Q7r _⟩) (cO rfl (fun wq sq => aC rfl ⟨rfl, Q7r _⟩) (cO rfl (fun wq sq => aC rfl ⟨rfl, Q7r _⟩) (cO rfl (fun wq sq => aU (hs.ext sq) tK rfl aCs rfl rfl rfl hx rfl ⟨rfl, Q7r _⟩) ?_)))))))))))))))))
 refine cO rfl (fun wq sq => bS (hs.ext sq) tK hx ti5 rfl rfl rfl ⟨rfl, Q7r _⟩) (cO rfl (fun wq sq => jC Tryz.underlying5 Tryz.underlying2 rfl (dM (by omega)) ⟨rfl, Q7r _⟩) (cO rfl (fun wq sq => aY rfl rfl (dM (by omega)) ⟨rfl, Q7r _⟩) (cO rfl (fun wq sq => fK rfl rfl (by omega) (qZ (by omega)) ⟨rfl, Q7r _⟩) (cO rfl (fun wq sq => dJ rfl ⟨rfl, Q7r _⟩) (cO rfl (fun wq sq => aG uA rfl rfl ⟨rfl, Q7r _⟩) (dX (fun w3 sq => ?_)))))))
 have xq := sq
 replace q := q.ext xq
 replace hs := hs.ext xq
 replace X := Q7x X xq; clear xq sq
 refine aA rfl (bK q dB rfl rfl rfl rfl rfl rfl ?_)
 intro w5 q2 hg4 z6
 replace hs := hs.grown hg4 (by intro g hg; injection hg; omega)
 replace X := X.grown hg4 X.size (by intro g hg; injection hg; omega)
 clear hg4 q
 refine aB (dO (aS (aN (aA rfl (aC rfl (aA rfl (aY rfl rfl (dM (by omega)) (aA rfl (aE rfl (aB (aS ⟨(k + 1, (s * 53 + (x.toNat : Int)) % 2147483647), (.cons rfl (.cons rfl (.cons rfl (.nil _)))), ?_, ?_⟩)))))))))))
 · exact ⟨by omega, (by omega), q2, hs, X⟩
 · first | omega | (dsimp only; omega)
 exact aA rfl (aK rfl rfl (aB (aM rfl (dD (dC (dC (eG (aS (aF (aA rfl (aC rfl (aA rfl (aE rfl (aB (aW (aL rfl rfl ⟨gS, 0, s, rfl, lgS, by omega, q, X⟩))))))))))))))))
 exact aA rfl (aC rfl (aH rfl rfl rfl rfl (aH rfl rfl rfl rfl (aA rfl (aK rfl rfl (aB (aM rfl (dD (dC (dC (eG (aS (aF (aA rfl (aC rfl (aA rfl (aE rfl (aB (aW (aL rfl rfl ⟨gS, 0, s, rfl, lgS, by omega, q, X⟩))))))))))))))))))))
theorem dN (A : Option Addr) (B c : Nat) (bs : List UInt8) (gS a : Nat) (sd : Int) (n : Int) (w : World) (q : Blk w gS 148 (lH A c bs a sd)) (hs : Sl B w A (bs.flatMap eB)) (hB : B ≤ gS) (ok : a ≤ bs.length ∧ 0 ≤ sd ∧ sd < 2147483647) (hbl : bs.length ≤ 1048576) (hn : n ≤ 9223372036854775807) :
   Calls Tryz.prog 65 #[.pointer (some ⟨gS, 0, none⟩), .int .i64 n] w (fF fun v w' => ∃ r a' sd', v = .int .i64 r ∧ (0 ≤ r ∧ (1 < n → r < n) ∧ (n ≤ 1 → r = 0)) ∧ (a' ≤ bs.length ∧ 0 ≤ sd' ∧ sd' < 2147483647) ∧ Blk w' gS 148 (lH A c bs a' sd') ∧ w.grownBy w' (some gS)) := by
 obtain ⟨ok1, ok2, ok3⟩ := ok
 have hs1 : 0 ≤ (sd * 48271 + 17) % 2147483647 ∧ (sd * 48271 + 17) % 2147483647 < 2147483647 := by omega
 have Bhs := hs.1
 have X := pJ w (some gS)
 refine bJ (args := [.pointer (some ⟨gS, 0, none⟩), .int .i64 n]) Tryz.func65 Tryz.ntmps65 rfl rfl (aF (aA rfl (aE rfl (aB (aR (aF (aA rfl (aC rfl (aA rfl (aAc rfl rfl (fun hn1 => ?_) (fun hn1 => ?_)))))))))))
 refine aB (aQ rfl (aF (aA rfl (aE rfl (aB (aW (bN (aL rfl rfl ?_))))))))
 · skip
   first
   | (exact ⟨0, a, sd, rfl, by omega, by omega, q, X⟩)
   | (have hr := fun y (hy : 0 ≤ y) => And.intro (Int.emod_nonneg y (show n ≠ 0 by omega)) (Int.emod_lt_of_pos y (show 0 < n by omega))
      first
      | (exact ⟨_, a, s1, rfl, by have := hr y1 (by omega); omega, by omega, q2, X⟩)
      | (exact ⟨_, a + 1, s1, rfl, by have := hr (y1 + (x.toNat : Int)) (by omega); omega, by omega, q3, X⟩)
      | (exact ⟨_, a + 1, s1, rfl, by have := hr (x.toNat : Int) (by omega); omega, by omega, q3, X⟩))
 refine aB (aM rfl (aV (aS (aF (aA rfl (aC rfl (aA rfl (aC rfl (aA rfl (dJ rfl (aA rfl (aG uA rfl rfl (aA rfl (aJ q dB rfl rfl (aA rfl (fO rfl rfl (dM (by omega)) (aA rfl (aY rfl rfl (dM (by omega)) (aA rfl (fK rfl rfl (by omega) (qZ (by omega)) (aA rfl (dJ rfl (aA rfl (aG uA rfl rfl (aA rfl (bK q dB rfl rfl rfl rfl rfl rfl ?_))))))))))))))))))))))))))
 intro w2 q2 hg1 z3
 replace hs := hs.grown hg1 (by intro g hg; injection hg; omega)
 replace X := dI X hg1
 clear hg1 q
 refine aB (aF (aA rfl (aC rfl (aA rfl (dJ rfl (aA rfl (aG uA rfl rfl (aA rfl (aJ q2 dB rfl rfl (aA rfl (gK rfl rfl (by omega) (vK (by omega)) ?_)))))))))))
 generalize (sd * 48271 + 17) % 2147483647 = s1 at *
 have hs2 : 0 ≤ s1 / 23 ∧ s1 / 23 ≤ 93368854 := by omega
 generalize s1 / 23 = y1 at *
 refine aA rfl (aE rfl (aB (aR (eK [false, false, false, false, false, false, false, false, false, false] mixed (by kernel_rfl) (cO rfl (fun wq sq => aC rfl ⟨rfl, Q7r _⟩) (cO rfl (fun wq sq => dJ rfl ⟨rfl, Q7r _⟩) (cO rfl (fun wq sq => aG rJ rfl rfl ⟨rfl, Q7r _⟩) (cO rfl (fun wq sq => aJ (q2.ext sq) ti3 rfl rfl ⟨rfl, Q7r _⟩) (cO rfl (fun wq sq => aC rfl ⟨rfl, Q7r _⟩) (cO rfl (fun wq sq => dJ rfl ⟨rfl, Q7r _⟩) (cO rfl (fun wq sq => aG aAY rfl rfl ⟨rfl, Q7r _⟩) (cO rfl (fun wq sq => aJ (q2.ext sq) aJI rfl rfl ⟨rfl, Q7r _⟩) (cO rfl (fun wq sq => bO Tryz.underlying22 rfl ⟨rfl, Q7r _⟩) (uZ rfl (fun wq sq => tF rfl rfl ⟨rfl, Q7r _⟩) (fun hlt => ?_) (fun hlt => ?_)))))))))))))))
 obtain ⟨x, hx, dx⟩ := eL (xs := bs) (k := a) (by omega)
 have hxb := aIT x
 refine dX (fun w4 sq => ?_)
 have xq := sq
 replace hs := hs.ext xq
 replace q2 := q2.ext xq
 replace X := dU X xq; clear xq sq
 refine aB (aQ rfl (eK [false, false, false, false, false, false, false, false, false, false, false, false, false, false] mixed (by kernel_rfl) (cO rfl (fun wq sq => aC rfl ⟨rfl, Q7r _⟩) (cO rfl (fun wq sq => aC rfl ⟨rfl, Q7r _⟩) (cO rfl (fun wq sq => dJ rfl ⟨rfl, Q7r _⟩) (cO rfl (fun wq sq => aG aAY rfl rfl ⟨rfl, Q7r _⟩) (cO rfl (fun wq sq => aJ (q2.ext sq) aJI rfl rfl ⟨rfl, Q7r _⟩) (cO rfl (fun wq sq => aC rfl ⟨rfl, Q7r _⟩) (cO rfl (fun wq sq => dJ rfl ⟨rfl, Q7r _⟩) (cO rfl (fun wq sq => aG rJ rfl rfl ⟨rfl, Q7r _⟩) (cO rfl (fun wq sq => aJ (q2.ext sq) ti3 rfl rfl ⟨rfl, Q7r _⟩) (cO rfl (fun wq sq => aU (hs.ext sq) tK rfl aCs rfl rfl rfl hx rfl ⟨rfl, Q7r _⟩) ?_))))))))))))
 refine cO rfl (fun wq sq => bS (hs.ext sq) tK hx ti5 rfl rfl rfl ⟨rfl, Q7r _⟩) (cO rfl (fun wq sq => jC Tryz.underlying5 Tryz.underlying2 rfl (dM (by omega)) ⟨rfl, Q7r _⟩) (cO rfl (fun wq sq => aY rfl rfl (dM (by omega)) ⟨rfl, Q7r _⟩) (cO rfl (fun wq sq => aE rfl ⟨rfl, Q7r _⟩) (dX (fun w5 sq => ?_)))))
 have xq := sq
 replace hs := hs.ext xq
 replace q2 := q2.ext xq
 replace X := dU X xq; clear xq sq
 refine aB (aF (aA rfl (aC rfl (aA rfl (dJ rfl (aA rfl (aG rJ rfl rfl (aA rfl (aJ q2 ti3 rfl rfl (aA rfl (aY rfl rfl (dM (by omega)) (aA rfl (dJ rfl (aA rfl (aG rJ rfl rfl (aA rfl (bK q2 ti3 rfl rfl rfl rfl rfl rfl ?_)))))))))))))))))
 intro w7 q3 hg6 z8
 replace hs := hs.grown hg6 (by intro g hg; injection hg; omega)
 replace X : w.grownBy w7 (some gS) := by first | exact dI X hg6 | exact dV X hg6 (by intro g hg; injection hg; omega)
 clear hg6 q2
 refine aB (aF (aA rfl (aC rfl (aA rfl (aAc rfl rfl (fun h9 => ?_) (fun h9 => ?_))))))
 refine aA rfl (aC rfl (aI rfl rfl rfl (aC rfl (aI rfl rfl rfl (dJ rfl (aI rfl rfl rfl (aG rJ rfl rfl (aI rfl rfl rfl (aJ q3 ti3 rfl rfl (aI rfl rfl rfl (fK rfl rfl (by omega) (qZ (by omega)) (aI rfl rfl rfl (dP rfl rfl (fun h10 => ?_) (fun h10 => ?_))))))))))))))
 refine aA rfl (aK rfl rfl (aB (aQ rfl (aBX [false, false, false, false, false, false, false, false, false, false, false, false, false] mixed (by kernel_rfl) (cO rfl (fun wq sq => aC rfl ⟨rfl, Q7r _⟩) (cO rfl (fun wq sq => dJ rfl ⟨rfl, Q7r _⟩) (cO rfl (fun wq sq => aG aAY rfl rfl ⟨rfl, Q7r _⟩) (cO rfl (fun wq sq => aJ (q3.ext sq) aJI rfl rfl ⟨rfl, Q7r _⟩) (cO rfl (fun wq sq => aC rfl ⟨rfl, Q7r _⟩) (cO rfl (fun wq sq => dJ rfl ⟨rfl, Q7r _⟩) (cO rfl (fun wq sq => aG rJ rfl rfl ⟨rfl, Q7r _⟩) (cO rfl (fun wq sq => aJ (q3.ext sq) ti3 rfl rfl ⟨rfl, Q7r _⟩) (cO rfl (fun wq sq => fZ rfl rfl (dM (by omega)) ⟨rfl, Q7r _⟩) ?_)))))))))))))
 refine cO rfl (fun wq sq => aU (hs.ext sq) tK rfl aCs rfl rfl rfl hx (by omega) ⟨rfl, Q7r _⟩) (cO rfl (fun wq sq => bS (hs.ext sq) tK hx ti5 rfl rfl rfl ⟨rfl, Q7r _⟩) (cO rfl (fun wq sq => jC Tryz.underlying5 Tryz.underlying2 rfl (dM (by omega)) ⟨rfl, Q7r _⟩) (cO rfl (fun wq sq => aE rfl ⟨rfl, Q7r _⟩) (dX (fun w11 sq => ?_)))))
 have xq := sq
 replace hs := hs.ext xq
 replace q3 := q3.ext xq
 replace X := dU X xq; clear xq sq
 refine aB (aS (aF (aA rfl (aC rfl (aA rfl (aC rfl (aA rfl (fK rfl rfl (by omega) (qZ (by omega)) (aA rfl (aE rfl (aB (aW (aL rfl rfl ?_)))))))))))))
 · skip
   first
   | (exact ⟨0, a, sd, rfl, by omega, by omega, q, X⟩)
   | (have hr := fun y (hy : 0 ≤ y) => And.intro (Int.emod_nonneg y (show n ≠ 0 by omega)) (Int.emod_lt_of_pos y (show 0 < n by omega))
      first
      | (exact ⟨_, a, s1, rfl, by have := hr y1 (by omega); omega, by omega, q2, X⟩)
      | (exact ⟨_, a + 1, s1, rfl, by have := hr (y1 + (x.toNat : Int)) (by omega); omega, by omega, q3, X⟩)
      | (exact ⟨_, a + 1, s1, rfl, by have := hr (x.toNat : Int) (by omega); omega, by omega, q3, X⟩))
 refine aA rfl (aK rfl rfl (aB (aM rfl (aV (aS (aF (aA rfl (aC rfl (aA rfl (aC rfl (aA rfl (fK rfl rfl (by omega) (qZ (by omega)) (aA rfl (aE rfl (aB (aW (aL rfl rfl ?_)))))))))))))))))
 · skip
   first
   | (exact ⟨0, a, sd, rfl, by omega, by omega, q, X⟩)
   | (have hr := fun y (hy : 0 ≤ y) => And.intro (Int.emod_nonneg y (show n ≠ 0 by omega)) (Int.emod_lt_of_pos y (show 0 < n by omega))
      first
      | (exact ⟨_, a, s1, rfl, by have := hr y1 (by omega); omega, by omega, q2, X⟩)
      | (exact ⟨_, a + 1, s1, rfl, by have := hr (y1 + (x.toNat : Int)) (by omega); omega, by omega, q3, X⟩)
      | (exact ⟨_, a + 1, s1, rfl, by have := hr (x.toNat : Int) (by omega); omega, by omega, q3, X⟩))
 refine aA rfl (aC rfl (aH rfl rfl rfl rfl (aH rfl rfl rfl rfl (aH rfl rfl rfl rfl (aH rfl rfl rfl rfl (aH rfl rfl rfl rfl (aH rfl rfl rfl rfl (aA rfl (aK rfl rfl (aB (aM rfl (aV (aS (aF (aA rfl (aC rfl (aA rfl (aC rfl (aA rfl (fK rfl rfl (by omega) (qZ (by omega)) (aA rfl (aE rfl (aB (aW (aL rfl rfl ?_)))))))))))))))))))))))))
 · skip
   first
   | (exact ⟨0, a, sd, rfl, by omega, by omega, q, X⟩)
   | (have hr := fun y (hy : 0 ≤ y) => And.intro (Int.emod_nonneg y (show n ≠ 0 by omega)) (Int.emod_lt_of_pos y (show 0 < n by omega))
      first
      | (exact ⟨_, a, s1, rfl, by have := hr y1 (by omega); omega, by omega, q2, X⟩)
      | (exact ⟨_, a + 1, s1, rfl, by have := hr (y1 + (x.toNat : Int)) (by omega); omega, by omega, q3, X⟩)
      | (exact ⟨_, a + 1, s1, rfl, by have := hr (x.toNat : Int) (by omega); omega, by omega, q3, X⟩))
 refine dX (fun w12 sq => ?_)
 have xq := sq
 replace hs := hs.ext xq
 replace q2 := q2.ext xq
 replace X := dU X xq; clear xq sq
 refine aB (aM rfl (aV (aS (aF (aA rfl (aC rfl (aA rfl (aC rfl (aA rfl (fK rfl rfl (by omega) (qZ (by omega)) (aA rfl (aE rfl (aB (aW (aL rfl rfl ?_)))))))))))))))
 · skip
   first
   | (exact ⟨0, a, sd, rfl, by omega, by omega, q, X⟩)
   | (have hr := fun y (hy : 0 ≤ y) => And.intro (Int.emod_nonneg y (show n ≠ 0 by omega)) (Int.emod_lt_of_pos y (show 0 < n by omega))
      first
      | (exact ⟨_, a, s1, rfl, by have := hr y1 (by omega); omega, by omega, q2, X⟩)
      | (exact ⟨_, a + 1, s1, rfl, by have := hr (y1 + (x.toNat : Int)) (by omega); omega, by omega, q3, X⟩)
      | (exact ⟨_, a + 1, s1, rfl, by have := hr (x.toNat : Int) (by omega); omega, by omega, q3, X⟩))
def WZ (P : Program) (ops : Array Oper) (z : Nat) (I : World → Prop) (K : Act → World → Prop) : Nat → Array Bool → Act → World → Prop
 | 0, listed, a, w => listed = nQ ops ops.size ∧ (listed.getD z true = false → I w) ∧ K a w
 | fuel + 1, listed, a, w => (listed.getD z true = false → I w) ∧ rdy ops ops.size listed ≠ [] ∧ ∀ i ∈ rdy ops ops.size listed, ∀ o, ops[i]? = some o →
     OpX P ops o a w fun u w' => WZ P ops z I K fuel (listed.setIfInBounds i true) (a.put o.dst u) w'
section
variable {P : Program} {ops : Array Oper} {z : Nat} {I : World → Prop} {K : Act → World → Prop}
theorem WZ.inv : ∀ {fuel : Nat} {listed : Array Bool} {a : Act} {w : World}, WZ P ops z I K fuel listed a w → listed.getD z true = false → I w
 | 0, _, _, _, h => h.2.1
 | _ + 1, _, _, _, h => h.1
end
section
variable {P : Program} {n : Nat} {ops : Array Oper} {z : Nat} {I : World → Prop} {K : Act → World → Prop} {fuel : Nat} {listed listed' : Array Bool} {e : List (Nat × Value)} {w : World}
end
section
variable {P : Program} {n : Nat} {ops : Array Oper} {z : Nat} {I : World → Prop} {K : Act → World → Prop} {fuel : Nat} {listed listed' : Array Bool} {e : List (Nat × Value)} {w : World}
end
theorem aK2 {k : Nat} : ((UInt8.ofNat (48 + k % 10)).toNat : Int) = 48 + (k : Int) % 10 := by
 have : k % 10 < 10 := Nat.mod_lt _ (by omega)
 rw [UInt8.toNat_ofNat']
 omega
theorem wu8 {n : Int} (h : 0 ≤ n ∧ n ≤ 255) : IntKind.u8.wrap n = n := by
 simp only [IntKind.wrap, IntKind.bits, IntKind.signed]
 simp
 omega
theorem Win.trans {lo hi : Nat} {a b c : World} (h : Win lo hi a b) (k : Win lo hi b c) : Win lo hi a c :=
 ⟨k.os.trans h.os, k.tape.trans h.tape, k.output.trans h.output, Q7l h.size k.size, fun i hi' ho => (k.block i (Nat.lt_of_lt_of_le hi' h.size) ho).trans (h.block i hi' ho)⟩
theorem NOwn.grownX {w w' : World} {lo : Nat} {t : TypeId} {xs : List ModeI} {row : Option Nat} (h : NOwn w lo t xs) (hg : w.grownBy w' row) (hr : ∀ x ∈ xs, ∀ g, row = some g → x.blk ≠ some g) : NOwn w' lo t xs :=
 fun x hx => ⟨(h x hx).1.grown hg (hr x hx), (h x hx).2⟩
theorem Disj.not {xs : List ModeI} (h : Disj xs) {i k : Nat} {x y : ModeI} (hx : xs[i]? = some x) (hy : xs[k]? = some y) (hik : i ≠ k) (g : Nat) (hg : y.blk = some g) : x.blk ≠ some g := fun e => h k i y x hy hx (fun e => hik e.symm) g hg e
def Kep (ts : List TypeId) (w w' : World) : Prop := w.heap.size ≤ w'.heap.size ∧ ∀ (k : Nat) (cur : Array Value) (t : TypeId) (e : Nat × Nat), w.heap[k]? = some (Obj.cells cur t e) → t ∉ ts → w'.heap[k]? = some (Obj.cells cur t e)
section
variable {ts : List TypeId} {w w' w'' : World} {lo hi lo' n c s g : Nat} {t : TypeId} {A : Option Addr} {cs : List Value} {xs : List ModeI}
theorem Kep.refl : Kep ts w w := ⟨Nat.le_refl _, fun _ _ _ _ h _ => h⟩
theorem Kep.trans (h : Kep ts w w') (k : Kep ts w' w'') : Kep ts w w'' := ⟨Q7l h.1 k.1, fun i cur t e hi ht => k.2 i cur t e (h.2 i cur t e hi ht) ht⟩
theorem Own.kep (h : Own w lo t s A n c cs) (k : Kep ts w w') (ht : t ∉ ts) : Own w' lo t s A n c cs := by
 refine ⟨h.1, ?_⟩
 rcases h.2 with h2 | ⟨g, cap, cur, hv, hlo, hh, r⟩
 · exact .inl h2
 · exact .inr ⟨g, cap, cur, hv, hlo, k.2 _ _ _ _ hh ht, r⟩
theorem Blk.kep (h : Blk w g t cs) (k : Kep ts w w') (ht : t ∉ ts) : Blk w' g t cs := k.2 _ _ _ _ h ht
theorem NOwn.kep (h : NOwn w lo t xs) (k : Kep ts w w') (ht : t ∉ ts) : NOwn w' lo t xs := fun x hx => ⟨(h x hx).1.kep k ht, (h x hx).2⟩
structure WinK (lo hi : Nat) (ts : List TypeId) (w w' : World) : Prop where
 win : Win lo hi w w'
 kep : Kep ts w w'
theorem WinK.refl (lo hi : Nat) (ts : List TypeId) (w : World) : WinK lo hi ts w w := ⟨Win.refl lo hi w, Kep.refl⟩
end
def vW (xs : List Int) : List Int × Int := if nU xs = true then (if xs.length ≤ 868 then (vM xs, 0) else ([], 3)) else ([], 2)
theorem aGJ (xs : List Int) : (vW xs).1.length ≤ 1100 ∧ ((vW xs).2 = 0 → 5 ≤ (vW xs).1.length) := by
 have h1 := sM xs
 have h2 : xs.length ≤ 868 → nB xs.length ≤ 31 := fun h => by unfold nB; split <;> omega
 have h3 := aEk xs.length
 unfold vW
 split
 · split
   · rename_i h; have := h2 h; exact ⟨by show (vM xs).length ≤ _; omega, fun _ => by show 5 ≤ (vM xs).length; omega⟩
   · exact ⟨Nat.zero_le _, fun h => absurd h (by decide)⟩
 · exact ⟨Nat.zero_le _, fun h => absurd h (by decide)⟩
theorem aJt (A : Option Addr) (B c : Nat) (xs : List Int) (w : World) (hs : Sl B w A (xs.flatMap eI)) (hl : xs.length ≤ 1048576) (hcap : xs.length ≤ c) :
   Calls Tryz.prog 243 #[.slice A xs.length c] w (fF fun v w' => ∃ A' c', v = .tuple #[.slice A' (vW xs).1.length c', .int .i64 (vW xs).2] ∧ Own w' w.heap.size 2 1 A' (vW xs).1.length c' ((vW xs).1.flatMap eI) ∧ Ext w w') := by
 have Bhs := hs.1
 have X := Q7r w
 refine bJ (args := [.slice A xs.length c]) Tryz.func243 Tryz.ntmps243 rfl rfl (aF (aA rfl (aE rfl (aA rfl (aE rfl (aB (aR (aF (aA rfl (aC rfl (aA rfl (cV aFf rfl (rY _ _ _ _ _ hs hl) (fun w2 hI x1 => ?_) (fun w2 hI x1 => ?_)))))))))))))
 replace hs := hs.ext x1
 replace X := Q7x X x1; clear x1
 have hbm := qO hI
 refine aA rfl (bP rfl (aB (aM rfl (aV (aS (aR (aF (aA rfl (aC rfl (aA rfl (bO Tryz.underlying30 rfl (aA rfl (cV aI6 rfl (aGD _ _) (fun w4 hG x3 => ?_) (fun w4 hG x3 => ?_))))))))))))))
 replace hs := hs.ext x3
 replace X := Q7x X x3; clear x3
 have hGp : xs.length ≤ 868 := by have := eO.1 hG; omega
 refine aA rfl (bP rfl (aB (aM rfl (aV (aS (aF (aA rfl (aC rfl (aA rfl (aT aFd rfl (aP (rX _ _ _ xs _ hs (by omega) hbm hcap) ?_)))))))))))
 rintro _ w6 ⟨AJ, cJ, rfl, oJ, x5⟩
 replace oJ := Own.low oJ X.size
 replace hs := hs.ext x5
 replace X := Q7x X x5; clear x5
 refine aA rfl (aE rfl (aA rfl (aE rfl (aB (aW (fD rfl rfl rfl ?_))))))
 · skip
   have e : vW xs = (vM xs, 0) := by rw [vW, if_pos hI, if_pos hGp]
   rw [e]; exact ⟨_, _, rfl, oJ, X⟩
 replace hs := hs.ext x3
 replace X := Q7x X x3; clear x3
 have hGn : ¬ xs.length ≤ 868 := fun h => by rw [eO.2 ⟨by omega, by omega⟩] at hG; cases hG
 refine aA rfl (bP rfl (aB (aQ rfl (aF (aA rfl (aE rfl (aA rfl (aE rfl (aB (aW (bN (fD rfl rfl rfl ?_))))))))))))
 · skip
   have e : vW xs = ([], 3) := by rw [vW, if_pos hI, if_neg hGn]
   rw [e]; exact ⟨none, 0, rfl, Own.nil_ _ _ _ _, X⟩
 replace hs := hs.ext x1
 replace X := Q7x X x1; clear x1
 refine aA rfl (bP rfl (aB (aQ rfl (aF (aA rfl (aE rfl (aA rfl (aE rfl (aB (aW (bN (fD rfl rfl rfl ?_))))))))))))
 · skip
   have e : vW xs = ([], 2) := by rw [vW, if_neg (by rw [hI]; decide)]
   rw [e]; exact ⟨none, 0, rfl, Own.nil_ _ _ _ _, X⟩
theorem pR (A : Option Addr) (B c : Nat) (bs : List UInt8) (gS a : Nat) (sd : Int) (n : Int) (w : World) (q : Blk w gS 148 (lH A c bs a sd)) (hs : Sl B w A (bs.flatMap eB)) (hB : B ≤ gS) (ok : a ≤ bs.length ∧ 0 ≤ sd ∧ sd < 2147483647) (hbl : bs.length ≤ 1048576) (hn1 : 0 ≤ n ∧ n ≤ 80) :
   Calls Tryz.prog 104 #[.pointer (some ⟨gS, 0, none⟩), .int .i64 n] w (fF fun v w' => ∃ A' c' xs a' sd', v = .slice A' (List.length xs) c' ∧ xs.length ≤ 1100 ∧ Own w' w.heap.size 2 1 A' xs.length c' (xs.flatMap eI) ∧ (a' ≤ bs.length ∧ 0 ≤ sd' ∧ sd' < 2147483647) ∧ Blk w' gS 148 (lH A c bs a' sd') ∧ w.grownBy w' (some gS)) := by
 have Bhs := hs.1
 have X := pJ w (some gS)
 refine bJ (args := [.pointer (some ⟨gS, 0, none⟩), .int .i64 n]) Tryz.func104 Tryz.ntmps104 rfl rfl (aF (aA rfl (aE rfl (aB (aF (aA rfl (aO cQ dB rfl rfl rfl rfl rfl ?_)))))))
 intro gI w2 egI oI bbgI x1 zgI
 replace oI := Own.low oI X.size
 replace q := q.ext x1
 replace hs := hs.ext x1
 replace X := dU X x1; clear x1
 refine aA rfl (aE rfl (aB (aR (aF (aA rfl (aC rfl (aA rfl (aC rfl (aA rfl (aY rfl rfl (dM (by omega)) (aA rfl (aT fS rfl (aP (dN _ _ _ _ _ _ _ _ _ q hs hB ok hbl (by omega)) ?_)))))))))))))
 rintro _ w4 ⟨r0, a6, sd7, rfl, hr8, ok, b5, x3⟩
 replace hs := hs.grown x3 (by intro g hg; injection hg; omega)
 replace oI := oI.grownBlk x3 (Own.neT oI q (by decide))
 replace X := dI X x3
 clear x3 q
 refine aA rfl (aE rfl (aB (aX (dG (G := Int × List Int × Nat × Option Addr × Nat) (fun ⟨t, zs, n1, A1, c1⟩ => [(4, .slice none 0 0), (0, .pointer (some ⟨gS, 0, none⟩)), (5, .slice A1 n1 c1), (6, .int .i64 t)]) (fun ⟨t, zs, n1, A1, c1⟩ wr => (0 ≤ t ∧ t ≤ 80) ∧ n1 = zs.length ∧ (n1 : Int) + t ≤ 80 ∧ (∃ a sd, (a ≤ bs.length ∧ 0 ≤ sd ∧ sd < 2147483647) ∧ Blk wr gS 148 (lH A c bs a sd)) ∧ Own wr w.heap.size 2 1 A1 n1 c1 (zs.flatMap eI) ∧ Sl B wr A (bs.flatMap eB) ∧ w.grownBy wr (some gS)) (fun ⟨t, zs, n1, A1, c1⟩ => t.toNat) (r0, [], 0, some ⟨gI, 0, none⟩, 0) (.cons rfl (.cons rfl (.cons rfl (.cons rfl (.nil _))))) ?_ ?_))))
 · exact ⟨(by omega), rfl, (by show ((0 : Nat) : Int) + _ ≤ _; omega), ⟨_, _, ok, b5⟩, oI, hs, X⟩
 clear hs oI b5
 clear X
 rintro ⟨t, zs, n1, A1, c1⟩ wr ⟨ht0, hn, hnt, qq, oO, hs, X⟩
 obtain ⟨a, sd, ok, q⟩ := qq
 refine aR (aF (aA rfl (aC rfl (aA rfl (fG rfl rfl (fun hk => ?_) (fun hk => ?_))))))
 refine aB (aQ rfl (aV (aS (aR (aX (aN (aA rfl (aC rfl (aA rfl (aC rfl (aA rfl (aT fS rfl (aP (dN _ _ _ _ _ _ _ _ _ q hs hB ok hbl (by omega)) ?_)))))))))))))
 rintro _ w10 ⟨rb, a12, sd13, rfl, hr14, ok, b11, x9⟩
 replace oO := oO.grownBlk x9 (Own.neT oO q (by decide))
 replace hs := hs.grown x9 (by intro g hg; injection hg; omega)
 replace X := dI X x9
 clear x9 q
 refine aA rfl (aO cQ dB rfl rfl rfl rfl rfl ?_)
 intro g15 w17 eg15 oV bbg15 x16 zg15
 replace oV := Own.low oV X.size
 replace oO := oO.ext x16
 replace hs := hs.ext x16
 replace b11 := b11.ext x16
 replace X := dU X x16
 refine aA rfl (cH (ts := #[]) oO X.size oV.sl (by first | rfl | simp) (by first | exact List.all_eq_true.1 rfl | simp [Value.oneCell']) cQ dB rfl rfl rfl rfl (by omega) (by omega) ?_)
 intro AoN coN w19 oN hg18
 replace hs := hs.grown hg18 (fun g hg => Q7l Bhs (Own.lt oO hg).1)
 replace b11 := b11.grown hg18 (fun h => Own.neT oO b11 (by decide) h.symm)
 replace X := dV X hg18 (fun g hg => (Own.lt oO hg).1)
 clear hg18
 refine aA rfl (aE rfl (aB (dO (aS (aN (aA rfl (aC rfl (aA rfl (fZ rfl rfl (dM (by omega)) (aA rfl (aE rfl (aB (aS ⟨(t - 1, zs ++ [rb], n1 + 1, AoN, coN), (.cons rfl (.cons rfl (.cons rfl (.cons rfl (.nil _))))), ?_, ?_⟩)))))))))))))
 · exact ⟨(by omega), (by simp [hn]), (by omega), ⟨_, _, ok, b11⟩, oN.to (lI eI zs rb).symm, hs, X⟩
 · first | omega | (dsimp only; omega)
 refine aB (aM rfl (dD (dC (dC (eG (aS (aR (aF (aA rfl (aC rfl (aA rfl (aT fS rfl (aP (dN _ _ _ _ _ _ _ _ _ q hs hB ok hbl (by omega)) ?_)))))))))))))
 rintro _ w21 ⟨r40, a23, sd24, rfl, hr25, ok, b22, x20⟩
 replace oO := oO.grownBlk x20 (Own.neT oO q (by decide))
 replace hs := hs.grown x20 (by intro g hg; injection hg; omega)
 replace X := dI X x20
 clear x20 q
 refine aB (aX (aF (aA rfl (dP rfl rfl (fun h26 => ?_) (fun h26 => ?_)))))
 refine aA rfl (aE rfl (aB (aQ rfl (aN (aA rfl (aC rfl (aA rfl (aO cQ dB rfl rfl rfl rfl rfl ?_))))))))
 intro g27 w29 eg27 oL bbg27 x28 zg27
 replace oL := Own.low oL X.size
 replace oO := oO.ext x28
 replace hs := hs.ext x28
 replace b22 := b22.ext x28
 replace X := dU X x28
 replace oL := oL.to (cs' := ([256, -1] : List Int).flatMap eI) rfl
 refine aA rfl (aC rfl (aA rfl (aT fS rfl (aP (dN _ _ _ _ _ _ _ _ _ b22 hs hB ok hbl (by omega)) ?_))))
 rintro _ w31 ⟨rr, a33, sd34, rfl, hr35, ok, b32, x30⟩
 replace oO := oO.grownBlk x30 (Own.neT oO b22 (by decide))
 replace hs := hs.grown x30 (by intro g hg; injection hg; omega)
 replace oL := oL.grownBlk x30 (Own.neT oL b22 (by decide))
 replace X := dI X x30
 clear x30 b22
 obtain ⟨y, hy⟩ : ∃ y, ([256, -1] : List Int)[rr.toNat]? = some y := ⟨_, List.getElem?_eq_getElem (by simp; omega)⟩
 refine aA rfl (aU (oL).sl bI rfl cQ rfl rfl rfl hy (by omega) (aA rfl (bS (oL).sl bI hy dB rfl rfl rfl ?_)))
 clear oL
 refine aA rfl (aO cQ dB rfl rfl rfl rfl rfl ?_)
 intro g36 w38 eg36 oV bbg36 x37 zg36
 replace oV := Own.low oV X.size
 replace oO := oO.ext x37
 replace hs := hs.ext x37
 replace b32 := b32.ext x37
 replace X := dU X x37
 refine aA rfl (cH (ts := #[]) oO X.size oV.sl (by first | rfl | simp) (by first | exact List.all_eq_true.1 rfl | simp [Value.oneCell']) cQ dB rfl rfl rfl rfl (by omega) (by omega) ?_)
 intro AoU coU w40 oU hg39
 replace hs := hs.grown hg39 (fun g hg => Q7l Bhs (Own.lt oO hg).1)
 replace b32 := b32.grown hg39 (fun h => Own.neT oO b32 (by decide) h.symm)
 replace X := dV X hg39 (fun g hg => (Own.lt oO hg).1)
 clear hg39
 refine aA rfl (aE rfl (aB (dO (aS (aF (aA rfl (aC rfl (aA rfl (aE rfl (aB (aW (aL rfl rfl ?_))))))))))))
 · skip
   first
   | (exact ⟨_, _, List.replicate (1024 + r1).toNat (0 : Int), _, _, by rw [List.length_replicate], by rw [List.length_replicate]; omega, by rw [List.length_replicate]; exact oM, ok, b32, X⟩)
   | (subst hn; exact ⟨_, _, zs ++ [y], _, _, by rw [List.length_append]; rfl, by rw [List.length_append]; simp; omega, by rw [List.length_append]; exact oU.to (lI eI zs y).symm, ok, b32, X⟩)
   | (subst hn; exact ⟨A1, c1, zs, _, _, rfl, by omega, oO, ok, b32, X⟩)
 refine aA rfl (aE rfl (aB (aM rfl (aF (aA rfl (dP rfl rfl (fun h41 => ?_) (fun h41 => ?_)))))))
 refine aA rfl (aE rfl (aB (aQ rfl (aN (aA rfl (aC rfl (aA rfl (aT fS rfl (aP (dN _ _ _ _ _ _ _ _ _ b22 hs hB ok hbl (by omega)) ?_)))))))))
 rintro _ w43 ⟨r1, a45, sd46, rfl, hr47, ok, b44, x42⟩
 replace oO := oO.grownBlk x42 (Own.neT oO b22 (by decide))
 replace hs := hs.grown x42 (by intro g hg; injection hg; omega)
 replace X := dI X x42
 clear x42 b22
 refine aA rfl (aY rfl rfl (dM (by omega)) (aA rfl (aE2 cQ dB rfl rfl rfl rfl (show _ = (((1024 + r1).toNat : Nat) : Int) by omega) (show _ = (((1024 + r1).toNat : Nat) : Int) by omega) (by omega) (by omega) ?_)))
 intro gM w49 egM oM x48
 replace oM := Own.low oM X.size
 replace oO := oO.ext x48
 replace hs := hs.ext x48
 replace b44 := b44.ext x48
 replace X := dU X x48
 replace oM := oM.to (cs' := (List.replicate (1024 + r1).toNat (0 : Int)).flatMap eI) (by rw [← aBD]; rfl)
 refine aA rfl (aE rfl (aB (dO (aS (aF (aA rfl (aC rfl (aA rfl (aE rfl (aB (aW (aL rfl rfl ?_))))))))))))
 · skip
   first
   | (exact ⟨_, _, List.replicate (1024 + r1).toNat (0 : Int), _, _, by rw [List.length_replicate], by rw [List.length_replicate]; omega, by rw [List.length_replicate]; exact oM, ok, b44, X⟩)
   | (subst hn; exact ⟨_, _, zs ++ [y], _, _, by rw [List.length_append]; rfl, by rw [List.length_append]; simp; omega, by rw [List.length_append]; exact oU.to (lI eI zs y).symm, ok, b44, X⟩)
   | (subst hn; exact ⟨A1, c1, zs, _, _, rfl, by omega, oO, ok, b44, X⟩)
 refine aA rfl (aE rfl (aB (aM rfl (aV (dO (aS (aF (aA rfl (aC rfl (aA rfl (aE rfl (aB (aW (aL rfl rfl ?_))))))))))))))
 · skip
   first
   | (exact ⟨_, _, List.replicate (1024 + r1).toNat (0 : Int), _, _, by rw [List.length_replicate], by rw [List.length_replicate]; omega, by rw [List.length_replicate]; exact oM, ok, b22, X⟩)
   | (subst hn; exact ⟨_, _, zs ++ [y], _, _, by rw [List.length_append]; rfl, by rw [List.length_append]; simp; omega, by rw [List.length_append]; exact oU.to (lI eI zs y).symm, ok, b22, X⟩)
   | (subst hn; exact ⟨A1, c1, zs, _, _, rfl, by omega, oO, ok, b22, X⟩)
set_option maxHeartbeats 2000000 in
theorem aCY (A : Option Addr) (B c : Nat) (bs : List UInt8) (gS a : Nat) (sd : Int) (w : World) (q : Blk w gS 148 (lH A c bs a sd)) (hs : Sl B w A (bs.flatMap eB)) (hB : B ≤ gS) (ok : a ≤ bs.length ∧ 0 ≤ sd ∧ sd < 2147483647) (hbl : bs.length ≤ 1048576) :
   Calls Tryz.prog 177 #[.pointer (some ⟨gS, 0, none⟩)] w (fF fun v w' => ∃ A' c' ys a' sd', v = .slice A' (List.length ys) c' ∧ (ys.length ≤ 3000 ∧ ys.length ≤ c') ∧ Sl w'.heap.size w' A' (ys.flatMap eI) ∧ (a' ≤ bs.length ∧ 0 ≤ sd' ∧ sd' < 2147483647) ∧ Blk w' gS 148 (lH A c bs a' sd') ∧ w.grownBy w' (some gS)) := by
 have Bhs := hs.1
 have X := pJ w (some gS)
 refine bJ (args := [.pointer (some ⟨gS, 0, none⟩)]) Tryz.func177 Tryz.ntmps177 rfl rfl (aF (aA rfl (aE rfl (aB (aF (aA rfl (aC rfl ?_)))))))
 have LoZ := X.size
 refine aA rfl (aT aEo rfl (aP (pR _ _ _ _ _ _ _ _ _ q hs hB ok hbl (by omega)) ?_))
 rintro _ w2 ⟨AZ, cZ, zs, a4, sd5, rfl, hzl, oZ, ok, b3, x1⟩
 replace hs := hs.grown x1 (by intro g hg; injection hg; omega)
 replace X := dI X x1
 clear x1 q
 replace oZ := Own.low oZ LoZ
 refine aA rfl (aT aKy rfl (aP (aJt _ _ _ zs _ oZ.sl (by omega) oZ.cap) ?_))
 rintro _ w9 ⟨AI, cI, rfl, oI, x7⟩
 replace oI := Own.low oI X.size
 replace hs := hs.ext x7
 replace b3 := b3.ext x7
 replace oZ := oZ.ext x7
 replace X := dU X x7; clear x7
 have hil := aGJ zs
 obtain ⟨im, him⟩ : ∃ l, l = (vW zs).1 := ⟨_, rfl⟩
 rw [← him] at oI hil ⊢
 clear oZ
 refine aA rfl (aC rfl (aA rfl (cX rfl rfl (aA rfl (cX rfl rfl (aA rfl (aE rfl (aA rfl (aE rfl (aB (aR (aF (aA rfl (aC rfl (aA rfl (gH rfl rfl (fun hC => ?_) (fun hC => ?_)))))))))))))))))
 refine aB (aQ rfl (aF (aA rfl (aC rfl ?_))))
 have LoY := X.size
 refine aA rfl (aT aEo rfl (aP (pR _ _ _ _ _ _ _ _ _ b3 hs hB ok hbl (by omega)) ?_))
 rintro _ w11 ⟨AY, cY, ys2, a13, sd14, rfl, hyl2, oY, ok, b12, x10⟩
 replace hs := hs.grown x10 (by intro g hg; injection hg; omega)
 replace oI := oI.grownBlk x10 (Own.neT oI b3 (by decide))
 replace X := dI X x10
 clear x10 b3
 replace oY := Own.low oY LoY
 exact aA rfl (aE rfl (aB (aW (bN (aL rfl rfl (⟨_, _, ys2, _, _, rfl, ⟨by omega, oY.cap⟩, oY.sl, ok, b12, X⟩))))))
 have him5 : 5 ≤ im.length := hil.2 (by simpa using hC)
 refine aB (aM rfl (aV (aS (aR (aF (aA rfl (aC rfl (aA rfl (aT fS rfl (aP (dN _ _ _ _ _ _ _ _ _ b3 hs hB ok hbl (by omega)) ?_))))))))))
 rintro _ w17 ⟨r8, a19, sd20, rfl, hr21, ok, b18, x16⟩
 replace hs := hs.grown x16 (by intro g hg; injection hg; omega)
 replace oI := oI.grownBlk x16 (Own.neT oI b3 (by decide))
 replace X := dI X x16
 clear x16 b3
 refine aB (aX (aF (aA rfl (dP rfl rfl (fun h22 => ?_) (fun h22 => ?_)))))
 refine aA rfl (aE rfl (aB (aQ rfl (aN (aA rfl (aC rfl (aA rfl (aC rfl (aA rfl (aC rfl (aA rfl (bO Tryz.underlying30 rfl (aA rfl (aT fS rfl (aP (dN _ _ _ _ _ _ _ _ _ b18 hs hB ok hbl (by omega)) ?_)))))))))))))))
 rintro _ w24 ⟨ri, a26, sd27, rfl, hr28, ok, b25, x23⟩
 replace hs := hs.grown x23 (by intro g hg; injection hg; omega)
 replace oI := oI.grownBlk x23 (Own.neT oI b18 (by decide))
 replace X := dI X x23
 clear x23 b18
 refine aA rfl (aC rfl (aA rfl (aT fS rfl (aP (dN _ _ _ _ _ _ _ _ _ b25 hs hB ok hbl (by omega)) ?_))))
 rintro _ w30 ⟨rv, a32, sd33, rfl, hr34, ok, b31, x29⟩
 replace hs := hs.grown x29 (by intro g hg; injection hg; omega)
 replace oI := oI.grownBlk x29 (Own.neT oI b25 (by decide))
 replace X := dI X x29
 clear x29 b25
 obtain ⟨x, hx⟩ : ∃ x, im[ri.toNat]? = some x := ⟨_, List.getElem?_eq_getElem (by omega)⟩
 refine aA rfl (aU (oI).sl bI rfl cQ rfl rfl rfl hx (by omega) (aA rfl (pO oI dB rfl rfl rfl rfl (by omega) (by omega) rfl ?_)))
 intro w36 oU hg35 z37
 replace hs := hs.grown hg35 (fun g hg => Q7l Bhs (Own.lt oI hg).1)
 replace b31 := b31.grown hg35 (fun h => Own.neT oI b31 (by decide) h.symm)
 replace X : w.grownBy w36 (some gS) := by first | exact dI X hg35 | exact dV X hg35 (fun g hg => (Own.lt oI hg).1)
 clear hg35 z37
 obtain ⟨im2, hlim2, oim2⟩ : ∃ l : List Int, l.length = im.length ∧ Own _ w.heap.size 2 1 AI im.length cI (l.flatMap eI) := ⟨im.set ri.toNat rv, List.length_set .., oU.to (nH (x := x) (x' := rv) (vs := [.int .i64 rv]) bI (f := 0) rfl (by omega) im ri.toNat hx)⟩
 exact aB (dO (aS (aF (aA rfl (aC rfl (aA rfl (aE rfl (aB (aW (aL rfl rfl (⟨AI, cI, im2, _, _, (by rw [hlim2] <;> rfl), ⟨by omega, by rw [hlim2]; exact oim2.cap⟩, oim2.sl, ok, b31, X⟩)))))))))))
 refine aA rfl (aE rfl (aB (aM rfl (aF (aA rfl (dP rfl rfl (fun h38 => ?_) (fun h38 => ?_)))))))
 refine aA rfl (aE rfl (aB (aQ rfl (aF (aA rfl (aC rfl (aA rfl (aC rfl (aA rfl (aC rfl (aA rfl (bO Tryz.underlying30 rfl (aA rfl (aY rfl rfl (dM (by omega)) (aA rfl (aT fS rfl (aP (dN _ _ _ _ _ _ _ _ _ b18 hs hB ok hbl (by omega)) ?_)))))))))))))))))
 rintro _ w40 ⟨rk, a42, sd43, rfl, hr44, ok, b41, x39⟩
 replace hs := hs.grown x39 (by intro g hg; injection hg; omega)
 replace oI := oI.grownBlk x39 (Own.neT oI b18 (by decide))
 replace X := dI X x39
 clear x39 b18
 refine aA rfl (iL cQ rfl rfl (show _ = ((rk.toNat : Nat) : Int) by omega) (Q7l (by omega) (Own.cap oI)) ?_)
 have oG := Own.pre oI (show rk.toNat ≤ im.length by omega)
 refine aA rfl (aE rfl (aB (aW (dL (bN (aL rfl rfl ?_))))))
 · skip
   have hlt : (im.take rk.toNat).length = rk.toNat := by rw [List.length_take]; omega
   exact ⟨AI, cI, im.take rk.toNat, _, _, (by rw [hlt] <;> rfl), ⟨by omega, by rw [hlt]; exact oG.cap⟩, (oG.to (mK (enc := eI) bI im rk.toNat)).sl, ok, b41, X⟩
 refine aA rfl (aE rfl (aB (aM rfl (aF (aA rfl (dP rfl rfl (fun h46 => ?_) (fun h46 => ?_)))))))
 have hcI := oI.cap
 have sI := oI.sl
 clear oI
 refine aA rfl (aE rfl (aB (aQ rfl (aF (aA rfl (aC rfl (aA rfl (bO Tryz.underlying30 rfl (aA rfl (fG rfl rfl (fun h47 => ?_) (fun h47 => ?_)))))))))))
 refine aB (aQ rfl (aF (aA rfl (aC rfl (aA rfl (kI cQ sI bI rfl rfl (show (33 : Int) = ((33 : Nat) : Int) from rfl) rfl (by omega) hcI ?_))))))
 intro Ap p
 refine aA rfl (aE rfl (aB (aW (dL (bN (aL rfl rfl ?_))))))
 · skip
   have hlt : (im.drop 33).length = im.length - 33 := List.length_drop ..
   exact ⟨Ap, cI - 33, im.drop 33, _, _, (by rw [hlt] <;> rfl), ⟨by omega, by omega⟩, p.more p.1 (Nat.le_refl _), ok, b18, X⟩
 exact aB (aM rfl (aV (dO (aS (aF (aA rfl (aC rfl (aA rfl (aE rfl (aB (aW (aL rfl rfl (⟨AI, cI, im, _, _, rfl, ⟨by omega, hcI⟩, sI.more sI.1 (Nat.le_refl _), ok, b18, X⟩)))))))))))))
 have hcI := oI.cap
 have sI := oI.sl
 clear oI
 refine aA rfl (aE rfl (aB (aM rfl (aF (aA rfl (dP rfl rfl (fun h48 => ?_) (fun h48 => ?_)))))))
 refine aA rfl (aE rfl (aB (aQ rfl (aF ?_))))
 have LX := X.size
 have LSI := sI.1
 refine aA rfl (aO cQ dB rfl rfl rfl rfl rfl ?_)
 intro g49 w51 eg49 oL bbg49 x50 zg49
 replace oL := Own.low oL (Nat.le_refl _)
 replace hs := hs.ext x50
 replace b18 := b18.ext x50
 replace sI := sI.ext x50
 replace X := dU X x50
 replace oL := oL.to (cs' := ([0, 128] : List Int).flatMap eI) rfl
 refine aA rfl (aO cQ dB rfl rfl rfl rfl rfl ?_)
 intro g52 w54 eg52 oM bbg52 x53 zg52
 replace oM := Own.low oM X.size
 replace hs := hs.ext x53
 replace b18 := b18.ext x53
 replace sI := sI.ext x53
 replace oL := oL.ext x53
 replace X := dU X x53
 replace oM := oM.to (cs' := ([0, 0, 0] : List Int).flatMap eI) rfl
 refine aA rfl (cH (ts := #[]) oL (by omega) oM.sl rfl (dY [0, 0, 0]) cQ dB rfl rfl rfl rfl (by omega) (by omega) ?_)
 intro AoN coN w56 oN hg55
 replace hs := hs.grown hg55 (fun g hg => Q7l (Q7l Bhs LX) (Own.lt oL hg).1)
 replace b18 := b18.grown hg55 (fun h => Own.neT oL b18 (by decide) h.symm)
 replace sI := sI.grown hg55 (fun g hg => Q7l LSI (Own.lt oL hg).1)
 replace X := dV X hg55 (fun g hg => (Q7l LX (Own.lt oL hg).1))
 clear hg55
 replace oN := oN.to (cs' := ([0, 128, 0, 0, 0] : List Int).flatMap eI) rfl
 refine aA rfl (aE rfl (aB (aF (aA rfl (aC rfl (aA rfl (yE cQ (oN).sl bI rfl rfl (show (2 : Int) = ((2 : Nat) : Int) from rfl) (by have := oN.cap; omega) ?_)))))))
 intro Ap2 p2
 refine aA rfl (aT uB rfl (aP (kR 0 _ _ _ _ [0, 128] _ p2 rfl (by decide) (by decide) (by decide)) ?_))
 rintro _ w58 ⟨rfl, x57⟩
 replace hs := hs.ext x57
 replace b18 := b18.ext x57
 replace sI := sI.ext x57
 replace oN := oN.ext x57
 replace p2 := p2.ext x57
 replace X := dU X x57
 have hck := nP (k := 0) [0, 128] (by decide)
 refine aA rfl (aE rfl (aB (aF (aA rfl (aC rfl (aA rfl (gK rfl rfl (by omega) (vK (by omega)) (aA rfl (aC rfl (aA rfl (gK rfl rfl (by omega) (vK (by omega)) (aA rfl (fK rfl rfl (by omega) (qZ (by omega)) (aA rfl (aC rfl (aA rfl (fK rfl rfl (by omega) (qZ (by omega)) ?_)))))))))))))))))
 have LX2 := X.size
 have LSQ := sI.1
 refine aA rfl (aO cQ dB rfl rfl rfl rfl rfl ?_)
 intro g59 w61 eg59 oQ bbg59 x60 zg59
 replace oQ := Own.low oQ (Nat.le_refl _)
 replace hs := hs.ext x60
 replace b18 := b18.ext x60
 replace sI := sI.ext x60
 replace X := dU X x60
 refine aA rfl (aC rfl (aA rfl (kI cQ sI bI rfl rfl (show (5 : Int) = ((5 : Nat) : Int) from rfl) rfl (by omega) hcI ?_)))
 intro Ap5 p5
 refine aA rfl (cH (ts := #[]) oQ (by omega) p5 (by rw [eW bI, List.length_drop]) (dY _) cQ dB rfl rfl rfl rfl (by omega) (by omega) ?_)
 intro AoR coR w63 oR hg62
 replace hs := hs.grown hg62 (fun g hg => Q7l (Q7l Bhs LX2) (Own.lt oQ hg).1)
 replace b18 := b18.grown hg62 (fun h => Own.neT oQ b18 (by decide) h.symm)
 replace sI := sI.grown hg62 (fun g hg => Q7l LSQ (Own.lt oQ hg).1)
 replace p5 := p5.grown hg62 (fun g hg => Q7l LSQ (Own.lt oQ hg).1)
 replace X := dV X hg62 (fun g hg => (Q7l LX2 (Own.lt oQ hg).1))
 clear hg62
 refine aA rfl (aE rfl (aB (aW (dL (bN (aL rfl rfl ?_))))))
 · skip
   have hlt : ([0, 128] ++ nX 0 [0, 128] ++ im.drop 5).length = 5 + (im.length - 5) := by rw [List.length_append, List.length_drop]; rfl
   exact ⟨_, _, [0, 128] ++ nX 0 [0, 128] ++ im.drop 5, _, _, (by rw [hlt] <;> rfl), ⟨by omega, by rw [hlt]; exact oR.cap⟩, (oR.to (by rw [List.flatMap_append]; rfl)).sl, ok, b18, X⟩
 refine aA rfl (aE rfl (aB (aM rfl (aF (aA rfl (dP rfl rfl (fun h64 => ?_) (fun h64 => ?_)))))))
 refine aA rfl (aE rfl (aB (aQ rfl (aF (aA rfl (aO cQ dB rfl rfl rfl rfl rfl ?_))))))
 intro g65 w67 eg65 oL bbg65 x66 zg65
 replace oL := Own.low oL X.size
 replace hs := hs.ext x66
 replace b18 := b18.ext x66
 replace sI := sI.ext x66
 replace X := dU X x66
 replace oL := oL.to (cs' := ([0, 1, 7] : List Int).flatMap eI) rfl
 refine aA rfl (aT uB rfl (aP (kR 0 _ _ _ _ [0, 1, 7] _ oL.sl rfl (by decide) (by decide) (by decide)) ?_))
 rintro _ w69 ⟨rfl, x68⟩
 replace hs := hs.ext x68
 replace b18 := b18.ext x68
 replace sI := sI.ext x68
 replace oL := oL.ext x68
 replace X := dU X x68
 have hck := nP (k := 0) [0, 1, 7] (by decide)
 refine aA rfl (aE rfl (aB (aF (aA rfl (aC rfl (aA rfl (gK rfl rfl (by omega) (vK (by omega)) (aA rfl (aC rfl (aA rfl (gK rfl rfl (by omega) (vK (by omega)) (aA rfl (fK rfl rfl (by omega) (qZ (by omega)) (aA rfl (aC rfl (aA rfl (fK rfl rfl (by omega) (qZ (by omega)) (aA rfl (aO cQ dB rfl rfl rfl rfl rfl ?_)))))))))))))))))))
 intro g70 w72 eg70 oR bbg70 x71 zg70
 replace oR := Own.low oR X.size
 replace hs := hs.ext x71
 replace b18 := b18.ext x71
 replace sI := sI.ext x71
 replace oL := oL.ext x71
 replace X := dU X x71
 exact aA rfl (aE rfl (aB (aW (dL (bN (aL rfl rfl (⟨_, _, [0, 1, 7] ++ nX 0 [0, 1, 7], _, _, rfl, ⟨by decide, oR.cap⟩, (oR.to rfl).sl, ok, b18, X⟩)))))))
 exact aA rfl (aE rfl (aB (aM rfl (aV (dO (aS (aF (aA rfl (aC rfl (aA rfl (aE rfl (aB (aW (aL rfl rfl (⟨AI, cI, im, _, _, rfl, ⟨by omega, hcI⟩, sI.more sI.1 (Nat.le_refl _), ok, b18, X⟩)))))))))))))))
section
variable {P : Program} {e : List (Nat × Value)} {ty : TypeId} {w : World} {K : Value → World → Prop} {x y lo hi : Operand} {t : TypeId} {s : ByteArray} {k : IntKind} {m : Int}
end
def eS (s : ByteArray) : List Value := [.string s]
def aGK (n : Int) : ByteArray := zD [UInt8.ofNat (48 + n.toNat % 10)]
def zP (n : Int) : ByteArray := if n < 10 then aGK n else aGK (n / 10) ++ aGK (n % 10)
theorem uI (n : Int) : (aGK n).size = 1 := rfl
theorem aFx (n : Int) : 1 ≤ (zP n).size ∧ (zP n).size ≤ 2 := by
 unfold zP; split
 · rw [uI]; omega
 · rw [ByteArray.size_append, uI, uI]; omega
theorem aGL {n : Int} (h : 0 ≤ n ∧ n < 10) : IntKind.u8.wrap (48 + n) = ((UInt8.ofNat (48 + n.toNat % 10)).toNat : Int) := by rw [aK2, wu8 (by omega)]; omega
def aCZ (x : NodeI) : Prop := ((0 ≤ x.id ∧ x.id ≤ 20) ∧ 0 ≤ x.drift ∧ x.drift ≤ 1000) ∧ x.name.size ≤ 7
def lM (a k : Nat) : List Int := ((List.range k).filter fun i => a.testBit i).map Int.ofNat
theorem aBv {a k : Nat} (h : a.testBit k = true) : lM a (k + 1) = lM a k ++ [(k : Int)] := by
 unfold lM
 rw [List.range_succ, List.filter_append, List.map_append, List.filter_cons_of_pos (by simpa using h)]; rfl
theorem aC0 {a k : Nat} (h : a.testBit k = false) : lM a (k + 1) = lM a k := by
 unfold lM
 rw [List.range_succ, List.filter_append, List.map_append, List.filter_cons_of_neg (by simp [h])]; simp
theorem xP (a k : Nat) : (lM a k).length ≤ k := by
 unfold lM
 rw [List.length_map]
 have := List.length_filter_le (fun i => a.testBit i) (List.range k)
 rw [List.length_range] at this; exact this
theorem aBw {a k : Nat} (h : a.testBit k = true) (hk : k < 32) : 1 ≤ (lM a 32).length := by
 have h1 : (k : Int) ∈ lM a 32 := List.mem_map.2 ⟨k, List.mem_filter.2 ⟨List.mem_range.2 hk, by simpa using h⟩, rfl⟩
 exact List.length_pos_of_mem h1
theorem aEZ {ns : List NodeI} {x : NodeI} (hx : x ∈ ns) (hp : x.passive = false) : (iM ns).testBit x.id.toNat = true := by
 unfold iM
 rw [xE]
 simp only [Nat.zero_testBit, Bool.false_or, List.any_eq_true, Bool.and_eq_true, decide_eq_true_eq]
 exact ⟨x, hx, by simp [hp], rfl⟩
theorem aC1 {l : List NodeI} (h : ∀ x ∈ l, 0 ≤ x.id ∧ x.id ≤ 31) : iM l < 4294967296 := aAg l 0 (by omega) fun x hx => h x hx
theorem aJu (n : Int) (w : World) (hn : 0 ≤ n ∧ n < 10) :
   Calls Tryz.prog 66 #[.int .i64 n] w (fF fun v w' => v = .string (aGK n) ∧ Ext w w') := by
 have X := Q7r w
 refine bJ (args := [.int .i64 n]) Tryz.func66 Tryz.ntmps66 rfl rfl (aF (aA rfl (aE rfl (aB (aR (aF (aA rfl (aC rfl (aA rfl (cU rfl rfl (fun h1 => aB (aQ rfl (aF (aA rfl (aC rfl (aA rfl (aY rfl rfl (dM (by omega)) (aA rfl (jC Tryz.underlying2 Tryz.underlying5 rfl (aGL hn) (aA rfl (aO aCs ti5 rfl rfl rfl rfl rfl ?_))))))))))) (fun h1 => absurd h1 (by omega))))))))))))
 intro g2 w4 eg2 oB bbg2 x3 zg2
 replace oB := Own.low oB X.size
 replace X := Q7x X x3; clear x3
 replace oB := oB.to (cs' := ([UInt8.ofNat (48 + n.toNat % 10)] : List UInt8).flatMap eB) rfl
 exact aA rfl (uR Tryz.underlying22 Tryz.underlying5 Tryz.underlying9 (oB).sl rfl rfl (aA rfl (aE rfl (aB (aW (bN (aL rfl rfl ⟨rfl, X⟩)))))))
theorem aK3 (n : Int) (w : World) (hn : 0 ≤ n ∧ n < 100) :
   Calls Tryz.prog 66 #[.int .i64 n] w (fF fun v w' => v = .string (zP n) ∧ Ext w w') := by
 have X := Q7r w
 refine bJ (args := [.int .i64 n]) Tryz.func66 Tryz.ntmps66 rfl rfl (aF (aA rfl (aE rfl (aB (aR (aF (aA rfl (aC rfl (aA rfl (cU rfl rfl (fun h1 => ?_) (fun h1 => ?_)))))))))))
 refine aB (aQ rfl (aF (aA rfl (aC rfl (aA rfl (aY rfl rfl (dM (by omega)) (aA rfl (jC Tryz.underlying2 Tryz.underlying5 rfl (aGL (by omega)) (aA rfl (aO aCs ti5 rfl rfl rfl rfl rfl ?_))))))))))
 intro g1 w3 eg1 oB bbg1 x2 zg1
 replace oB := Own.low oB X.size
 replace X := Q7x X x2; clear x2
 replace oB := oB.to (cs' := ([UInt8.ofNat (48 + n.toNat % 10)] : List UInt8).flatMap eB) rfl
 refine aA rfl (uR Tryz.underlying22 Tryz.underlying5 Tryz.underlying9 (oB).sl rfl rfl (aA rfl (aE rfl (aB (aW (bN (aL rfl rfl ?_)))))))
 · skip
   first
   | (rw [zP, if_pos h1]; exact ⟨rfl, X⟩)
   | (rw [zP, if_neg h1]; exact ⟨rfl, X⟩)
 refine aB (aM rfl (aV (aS (eK [false, false, false, false, false, false, false, true, false, false, false] mixed (by kernel_rfl) (cO rfl (fun wq sq => aC rfl ⟨rfl, Q7r _⟩) (cO rfl (fun wq sq => gK rfl rfl (by omega) (vK (by omega)) ⟨rfl, Q7r _⟩) (cO rfl (fun wq sq => aT aI4 rfl (aJu _ _ (by omega))) (cO rfl (fun wq sq => aC rfl ⟨rfl, Q7r _⟩) (cO rfl (fun wq sq => fK rfl rfl (by omega) (qZ (by omega)) ⟨rfl, Q7r _⟩) (cO rfl (fun wq sq => aY rfl rfl (dM (by omega)) ⟨rfl, Q7r _⟩) (cO rfl (fun wq sq => jC Tryz.underlying2 Tryz.underlying5 rfl (aGL (by omega)) ⟨rfl, Q7r _⟩) (zL (fun g4 : Nat => Value.slice (some ⟨g4, 0, none⟩) 1 1) (fun g4 wz => Own wz w.heap.size 5 1 (some ⟨g4, 0, none⟩) 1 1 (([UInt8.ofNat (48 + (n % 10).toNat % 10)] : List UInt8).flatMap eB)) 0 rfl ⟨lT, fun _ _ _ h k => h.ext k, fun wq sq => aO aCs ti5 rfl rfl rfl rfl rfl (fun g w' hg ho hb hx hz => ⟨g, rfl, Own.low ho (Q7l X.size (sq).size), hx⟩)⟩ ?_))))))))))))
 intro g4
 refine cO rfl (fun wq sq => uR Tryz.underlying22 Tryz.underlying5 Tryz.underlying9 (sq.2).sl rfl rfl ⟨rfl, Q7r _⟩) (cO rfl (fun wq sq => aB6 rfl rfl (by rw [uI]; show _ + 1 ≤ _; omega) ⟨rfl, Q7r _⟩) (cO rfl (fun wq sq => aE rfl ⟨rfl, Q7r _⟩) (dX (fun w5 sq => ?_))))
 have xq := sq.1
 have oB := sq.2
 replace X := Q7x X xq; clear xq sq
 refine aB (aW (aL rfl rfl ?_))
 · skip
   first
   | (rw [zP, if_pos h1]; exact ⟨rfl, X⟩)
   | (rw [zP, if_neg h1]; exact ⟨rfl, X⟩)
theorem aFy (A : Option Addr) (B c : Nat) (bs : List UInt8) (gS a : Nat) (sd : Int) (w : World) (q : Blk w gS 148 (lH A c bs a sd)) (hs : Sl B w A (bs.flatMap eB)) (hB : B ≤ gS) (ok : a ≤ bs.length ∧ 0 ≤ sd ∧ sd < 2147483647) (hbl : bs.length ≤ 1048576) :
   Calls Tryz.prog 179 #[.pointer (some ⟨gS, 0, none⟩)] w (fF fun v w' => ∃ A' c' xs a' sd', v = .slice A' (List.length xs) c' ∧ ((1 ≤ xs.length ∧ xs.length ≤ 4) ∧ ∀ x ∈ xs, aCZ x) ∧ Own w' w.heap.size 59 4 A' xs.length c' (xs.flatMap NodeI.cells) ∧ (a' ≤ bs.length ∧ 0 ≤ sd' ∧ sd' < 2147483647) ∧ Blk w' gS 148 (lH A c bs a' sd') ∧ w.grownBy w' (some gS)) := by
 have Bhs := hs.1
 have X := pJ w (some gS)
 refine bJ (args := [.pointer (some ⟨gS, 0, none⟩)]) Tryz.func179 Tryz.ntmps179 rfl rfl (aF (aA rfl (aE rfl (aB (aF (aA rfl (aO lO kE rfl rfl rfl rfl rfl ?_)))))))
 intro gO w2 egO oI bbgO x1 zgO
 replace oI := Own.low oI X.size
 replace q := q.ext x1
 replace hs := hs.ext x1
 replace X := dU X x1; clear x1
 refine aA rfl (aE rfl (aB (aF (aA rfl (aC rfl (aA rfl (aT fS rfl (aP (dN _ _ _ _ _ _ _ _ _ q hs hB ok hbl (by omega)) ?_))))))))
 rintro _ w4 ⟨r0, a6, sd7, rfl, hr8, ok, b5, x3⟩
 replace hs := hs.grown x3 (by intro g hg; injection hg; omega)
 replace oI := oI.grownBlk x3 (Own.neT oI q (by decide))
 replace X := dI X x3
 clear x3 q
 refine aA rfl (aE rfl (aB (aR (aF (aA rfl (aC rfl (aA rfl (aT fS rfl (aP (dN _ _ _ _ _ _ _ _ _ b5 hs hB ok hbl (by omega)) ?_)))))))))
 rintro _ w10 ⟨r4, a12, sd13, rfl, hr14, ok, b11, x9⟩
 replace hs := hs.grown x9 (by intro g hg; injection hg; omega)
 replace oI := oI.grownBlk x9 (Own.neT oI b5 (by decide))
 replace X := dI X x9
 clear x9 b5
 refine aA rfl (aY rfl rfl (dM (by omega)) (aA rfl (aE rfl (aB (aX (dG (G := Int × Int × List NodeI × Nat × Option Addr × Nat) (fun ⟨t, id, ys, n1, A1, c1⟩ => [(2, .slice none 0 0), (0, .pointer (some ⟨gS, 0, none⟩)), (3, .slice A1 n1 c1), (4, .int .i64 id), (5, .int .i64 t)]) (fun ⟨t, id, ys, n1, A1, c1⟩ wr => (0 ≤ t ∧ t ≤ 4) ∧ (0 ≤ id ∧ id + 3 * t ≤ 13) ∧ n1 = ys.length ∧ (n1 : Int) + t = 1 + r4 ∧ (∀ y ∈ ys, aCZ y) ∧ (∃ a sd, (a ≤ bs.length ∧ 0 ≤ sd ∧ sd < 2147483647) ∧ Blk wr gS 148 (lH A c bs a sd)) ∧ Own wr w.heap.size 59 4 A1 n1 c1 (ys.flatMap NodeI.cells) ∧ Sl B wr A (bs.flatMap eB) ∧ w.grownBy wr (some gS)) (fun ⟨t, id, ys, n1, A1, c1⟩ => t.toNat) (1 + r4, r0, [], 0, some ⟨gO, 0, none⟩, 0) (.cons rfl (.cons rfl (.cons rfl (.cons rfl (.cons rfl (.nil _)))))) ?_ ?_))))))
 · exact ⟨(by omega), (by omega), rfl, (by show ((0 : Nat) : Int) + _ = _; omega), (fun y hy => by simp at hy), ⟨_, _, ok, b11⟩, oI, hs, X⟩
 clear hs oI b11
 clear X
 rintro ⟨t, id, ys, n1, A1, c1⟩ wr ⟨ht0, hid, hn, hnt, hsm, qq, oO, hs, X⟩
 obtain ⟨a, sd, ok, q⟩ := qq
 refine aR (aF (aA rfl (aC rfl (aA rfl (fG rfl rfl (fun hp => ?_) (fun hp => ?_))))))
 refine aB (aQ rfl (aV (aS (aR (aX (aF (aA rfl (aC rfl (aA rfl (aC rfl (aA rfl (aC rfl (aA rfl (aT aI4 rfl (aP (aK3 _ _ (by omega)) ?_)))))))))))))))
 rintro _ w16 ⟨rfl, x15⟩
 replace oO := oO.ext x15
 replace hs := hs.ext x15
 replace q := q.ext x15
 replace X := dU X x15
 have hds := aFx id
 refine aA rfl (aB6 rfl rfl (by show 1 + _ ≤ _; omega) (aA rfl (aC rfl (aA rfl (aT fS rfl (aP (dN _ _ _ _ _ _ _ _ _ q hs hB ok hbl (by omega)) ?_))))))
 rintro _ w18 ⟨r2, a20, sd21, rfl, hr22, ok, b19, x17⟩
 replace oO := oO.grownBlk x17 (Own.neT oO q (by decide))
 replace hs := hs.grown x17 (by intro g hg; injection hg; omega)
 replace X := dI X x17
 clear x17 q
 refine aA rfl (aC rfl (aA rfl (aT fS rfl (aP (dN _ _ _ _ _ _ _ _ _ b19 hs hB ok hbl (by omega)) ?_))))
 rintro _ w24 ⟨r5, a26, sd27, rfl, hr28, ok, b25, x23⟩
 replace oO := oO.grownBlk x23 (Own.neT oO b19 (by decide))
 replace hs := hs.grown x23 (by intro g hg; injection hg; omega)
 replace X := dI X x23
 clear x23 b19
 refine aA rfl (jJ rfl rfl (aA rfl (dA aHe kE rfl rfl (aA rfl (aO lO kE rfl rfl rfl rfl rfl ?_)))))
 intro g29 w31 eg29 oV bbg29 x30 zg29
 replace oV := Own.low oV X.size
 replace oO := oO.ext x30
 replace hs := hs.ext x30
 replace b25 := b25.ext x30
 replace X := dU X x30
 refine aA rfl (cH (ts := #[]) oO X.size oV.sl (by first | rfl | simp) (by first | exact List.all_eq_true.1 rfl | simp [Value.oneCell']) lO kE rfl rfl rfl rfl (by omega) (by omega) ?_)
 intro AoN coN w33 oN hg32
 replace hs := hs.grown hg32 (fun g hg => Q7l Bhs (Own.lt oO hg).1)
 replace b25 := b25.grown hg32 (fun h => Own.neT oO b25 (by decide) h.symm)
 replace X := dV X hg32 (fun g hg => (Own.lt oO hg).1)
 clear hg32
 refine aA rfl (aE rfl (aB (aN (aA rfl (aC rfl (aA rfl (aY rfl rfl (dM (by omega)) (aA rfl (aC rfl (aA rfl (aT fS rfl (aP (dN _ _ _ _ _ _ _ _ _ b25 hs hB ok hbl (by omega)) ?_))))))))))))
 rintro _ w35 ⟨r3, a37, sd38, rfl, hr39, ok, b36, x34⟩
 replace hs := hs.grown x34 (by intro g hg; injection hg; omega)
 replace oN := oN.grownBlk x34 (Own.neT oN b25 (by decide))
 replace X := dI X x34
 clear x34 b25
 refine aA rfl (aY rfl rfl (dM (by omega)) (aA rfl (aE rfl (aB (dO (aS (aN (aA rfl (aC rfl (aA rfl (fZ rfl rfl (dM (by omega)) (aA rfl (aE rfl (aB ?_))))))))))))))
 refine aS ⟨(t - 1, id + 1 + r3, ys ++ [⟨id, zD [110] ++ zP id, r2, decide (r5 = 0)⟩], n1 + 1, AoN, coN), (.cons rfl (.cons rfl (.cons rfl (.cons rfl (.cons rfl (.nil _)))))), ?_, ?_⟩
 · skip
   exact ⟨(by omega), (by omega), (by simp [hn]), (by omega), (fun y hy => by
     rcases List.mem_append.1 hy with h | h
     · exact hsm y h
     · obtain rfl : y = ⟨id, zD [110] ++ zP id, r2, decide (r5 = 0)⟩ := by simpa using h
       exact ⟨by show (0 ≤ id ∧ id ≤ 20) ∧ 0 ≤ r2 ∧ r2 ≤ 1000; omega, by show (zD [110] ++ zP id).size ≤ 7; rw [ByteArray.size_append]; show 1 + _ ≤ 7; omega⟩), ⟨_, _, ok, b36⟩, oN.to (lI NodeI.cells ys ⟨id, zD [110] ++ zP id, r2, decide (r5 = 0)⟩).symm, hs, X⟩
 · first | omega | (dsimp only; omega)
 refine aB (aM rfl (dD (dC (dC (eG (aS (aF (aA rfl (aC rfl (aA rfl (aE rfl (aB (aW (aL rfl rfl ?_))))))))))))))
 · skip
   subst hn
   exact ⟨A1, c1, ys, _, _, rfl, ⟨by omega, hsm⟩, oO, ok, q, X⟩
end Go.Proofs.YtdoibplhbdkapaaGreatDoor
