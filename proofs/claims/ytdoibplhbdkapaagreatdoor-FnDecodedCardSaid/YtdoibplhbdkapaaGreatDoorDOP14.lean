/- Parts. No condition. -/
import Derived.Test.YtdoibplhbdkapaaGreatDoorDOP10
import Derived.Lib.AppendZeros
import Derived.Test.YtdoibplhbdkapaaGreatDoorDOP9
import Derived.Test.YtdoibplhbdkapaaGreatDoorDOP7
namespace Go.Proofs.YtdoibplhbdkapaaGreatDoor
open Go.RowKit
set_option linter.unusedVariables false
set_option linter.unusedSimpArgs false
section
variable {P : Program} {e : List (Nat × Value)} {ty : TypeId} {w : World} {K : Value → World → Prop} {x y : Operand} {t tn el : TypeId} {s b : Nat} {z : List Value} {a : Bool}
theorem aGF {A : Option Addr} {l c : Nat} (ht : P.underlying t = some (.slice el)) (hx : fV e x = some (.slice A l c)) (h : K (.int .i64 c) w) : OpWp P e (.call ⟨.builtin .cap, #[x], #[t]⟩) ty w K := fun ρ d p a g hρ => by
 have h1 := hρ _ _ hx
 simp [execOp, resolve, invoke, builtin, h1, Builtin.cap_, run_underlying ht, upto, goInt]; exact h
theorem aDR {n : Nat} {k kn : IntKind} (ht : elO P t = some (el, s)) (htn : P.underlying tn = some (.int kn)) (hi : pN P el = some (a, s, b, z)) (hzl : Nat.beq z.length s = true) (h0 : Nat.blt 0 s = true)
   (hx : fV e x = some (.slice none 0 0)) (hy : fV e y = some (.int k (n : Int))) (hn : 0 < n) (hm : n ≤ 9223372036854775807) (hb : n * b ≤ 281474976710656)
   (h : ∀ g c w' cs, g = w.heap.size → Own w' w.heap.size el s (some ⟨g, 0, none⟩) n c cs → Ext w w' → K (.slice (some ⟨g, 0, none⟩) n c) w') : OpWp P e (.call ⟨.builtin .append, #[x, y], #[t, tn]⟩) ty w K := fun ρ d p af g hρ => by
 have g1 := hρ _ _ hx; have g2 := hρ _ _ hy
 obtain ⟨ti, hu, hti, hts⟩ := pW ht
 obtain ⟨d', i', zv, hd, hi', hz, ha, hs, hb', hzv⟩ := kS hi
 obtain rfl : ti = i' := by rw [hti] at hi'; injection hi'
 have hzl' : z.length = s := Nat.eq_of_beq_eq_true hzl
 have h0' : 0 < s := by simpa using h0
 have hzc : zv.cells.size = s := by rw [← hzl', ← hzv]; simp
 have hr := Go.Lib.run_append_nil_zeros (P := P) w t tn ty el ti zv k kn hu htn hti hz n hn (by rw [hts]; exact h0') (by omega) (by rw [hb']; exact hb)
 simp only [execOp, resolve, invoke, builtin, Sem.run_bind, Sem.run_pure, Result.andThen_ok, List.map_toArray, List.map_cons, List.map_nil, g1, g2, hr, upto]
 have hge := grownCap_ge w n 0 el
 have hcm : grownCap w n 0 el ≤ maxLen := grownCap_le_maxLen w n 0 el (by unfold maxLen; omega)
 refine h w.heap.size _ _ (Builtin.zeroCells zv.cells n).toList rfl ⟨by rw [Array.length_toList, size_zeroCells, hzc], .inr ⟨w.heap.size, _, _, rfl, Nat.le_refl _, heap_alloc_new w.drew _, hge, hcm, ?_, ?_⟩⟩ ?_
 · simp only [Array.size_append, size_zeroCells, hzc, ← Nat.add_mul]
   congr 1; omega
 · simp only [Array.toList_append]
   have e1 : n * s = (Builtin.zeroCells zv.cells n).toList.length := by rw [Array.length_toList, size_zeroCells, hzc]
   rw [e1]; exact List.take_left
 · exact (Ext.drew w).trans (Ext.alloc w.drew _)
end
set_option maxRecDepth 20000
theorem aFs (n : Nat) (w : World) (hn : n ≤ 1048576) :
   Calls Tryz.prog 216 #[.slice none 0 0, .int .i64 (n : Nat)] w (fF fun v w' => ∃ A' c', v = .slice A' 0 c' ∧ Own w' w.heap.size 2 1 A' 0 c' [] ∧ Ext w w') := by
 have X := Q7r w
 refine bJ (args := [.slice none 0 0, .int .i64 (n : Nat)]) Tryz.func216 Tryz.ntmps216 rfl rfl (aF (aA rfl (aE rfl (aB (aR (aF (aA rfl (aC rfl (aA rfl (cU rfl rfl (fun h1 => absurd h1 (by omega)) (fun h1 => aB (aM rfl (aV (aS (aR (aF (aA rfl (aC rfl (aA rfl (aC rfl (aA rfl (aGF Tryz.underlying30 rfl (aA rfl (aC rfl (aA rfl (bO Tryz.underlying30 rfl (aA rfl (fZ rfl rfl (dM (by omega)) (aA rfl (fZ rfl rfl (show IntKind.i64.wrap _ = ((n : Nat) : Int) by rw [dM (by omega)]; omega) (aA rfl (aE rfl (aB (aF (aA rfl (aC rfl (aA rfl (fG rfl rfl (fun hp => ?_) (fun hp => ?_)))))))))))))))))))))))))))))))))))))))
 refine aB (aQ rfl (aN (aA rfl (aC rfl (aA rfl (aC rfl (aA rfl (aGF Tryz.underlying30 rfl (aA rfl (iL cQ rfl rfl (show _ = ((0 : Nat) : Int) from rfl) (Nat.le_refl _) (aA rfl (aC rfl (aA rfl (aDR (n := n) cQ Tryz.underlying3 dB rfl rfl rfl rfl (by omega) (by omega) (by omega) ?_))))))))))))))
 intro gZ cZ wZ csZ eZ oZ xZ
 replace X := Q7x X xZ
 refine aA rfl (aC rfl (aA rfl (bO Tryz.underlying30 rfl (aA rfl (iL cQ rfl rfl (show _ = ((0 : Nat) : Int) from rfl) (Nat.zero_le _) ?_)))))
 have oY := Own.pre oZ (Nat.zero_le n)
 refine aA rfl (aE rfl (aB (aS (aF (aA rfl (aC rfl (aA rfl (aE rfl (aB (aW (aL rfl rfl ?_)))))))))))
 · skip
   first
   | (exact ⟨_, _, rfl, oY.to (by simp), X⟩)
   | (exact ⟨none, 0, rfl, Own.nil_ _ _ _ _, X⟩)
 refine aB (aM rfl (aV (aS (aF (aA rfl (aC rfl (aA rfl (aE rfl (aB (aW (aL rfl rfl ?_)))))))))))
 · skip
   first
   | (exact ⟨_, _, rfl, oY.to (by simp), X⟩)
   | (exact ⟨none, 0, rfl, Own.nil_ _ _ _ _, X⟩)
theorem aGG (A : Option Addr) (B B2 c : Nat) (rs : List ModeI) (w : World) (hs : Sl B w A (rs.flatMap rQ)) (hn : Nexts B2 w rs) (hl : rs.length ≤ 1000) (hL : (sV rs).length ≤ 1048576) :
   Calls Tryz.prog 146 #[.slice A rs.length c] w (fF fun v w' => ∃ A' c', v = .slice A' (sV rs).length c' ∧ Own w' w.heap.size 2 1 A' (sV rs).length c' ((sV rs).flatMap eI) ∧ Ext w w') := by
 have hle := fun k => aIK rs k
 have Bhs := hs.1
 have Bhn := hn.1
 have X := Q7r w
 refine bJ (args := [.slice A rs.length c]) Tryz.func146 Tryz.ntmps146 rfl rfl (aF (aA rfl (aE rfl (aB (aF (aA rfl (aE rfl (aB (aR (aF (aA rfl (aC rfl (aA rfl (bO Tryz.underlying107 rfl (aA rfl (aC rfl (aB (aX (dG (G := Nat × Int) (fun ⟨k, t⟩ => [(0, .slice A rs.length c), (2, .slice none 0 0), (9, .slice A rs.length c), (10, .int .i64 (rs.length : Nat)), (3, .int .i64 t), (11, .int .i64 (k : Nat))]) (fun ⟨k, t⟩ wr => k ≤ rs.length ∧ t = ((sV (rs.take k)).length : Int) ∧ Sl B wr A (rs.flatMap rQ) ∧ Nexts B2 wr rs ∧ Ext w wr) (fun ⟨k, t⟩ => rs.length - k) (0, 0) (.cons rfl (.cons rfl (.cons rfl (.cons rfl (.cons rfl (.cons rfl (.nil _))))))) ?_ ?_)))))))))))))))))))
 · exact ⟨by omega, rfl, hs, hn, X⟩
 clear hs hn
 clear X
 rintro ⟨k, t⟩ wr ⟨hk0, ht, hs, hn, X⟩
 refine aF (aA rfl (cU rfl rfl (fun hk => ?_) (fun hk => ?_)))
 obtain ⟨x, hx, dx⟩ := dR hk
 have hlk := hle k
 have hlk1 := hle (k + 1)
 rw [rR hx, List.length_append] at hlk1
 refine aB (aR (aQ rfl (aV (aS (aR (aX (aF (aA rfl (aU hs jH rfl sX rfl rfl rfl hx rfl (aA rfl (bS hs jH hx mD rfl rfl rfl (aA rfl (aE rfl (aB (aF (aA rfl (aC rfl (aA rfl (aC rfl (aA rfl (bO Tryz.underlying30 rfl (aA rfl (aY rfl rfl (dM (by omega)) (aA rfl (aE rfl (aB (aF (aA rfl (aC rfl (aA rfl (cU rfl rfl (fun h1 => absurd h1 (by omega)) (fun h1 => aB (aM rfl (aV (dO (aS (aN (aA rfl (aY rfl rfl (dM (by omega)) (aA rfl (aC rfl (aB (aS ⟨(k + 1, t + (x.m.next.length : Int)), (.cons rfl (.cons rfl (.cons rfl (.cons rfl (.cons rfl (.cons rfl (.nil _))))))), ?_, ?_⟩)))))))))))))))))))))))))))))))))))))))))))
 · exact ⟨by omega, (by rw [rR hx, List.length_append]; omega), hs, hn, X⟩
 · first | omega | (dsimp only; omega)
 have hkk : k = rs.length := by omega
 refine aB (aR (aM rfl (dD (dC (dC (eG (aS (aF (aA rfl (aC rfl ?_))))))))))
 subst ht
 refine aA rfl (aT aKg rfl (aP (aFs (sV (rs.take k)).length _ (by have := hle k; omega)) ?_))
 rintro _ w3 ⟨AG, cG, rfl, oG, x2⟩
 replace oG := Own.low oG X.size
 replace hs := hs.ext x2
 replace hn := hn.ext x2
 replace X := Q7x X x2; clear x2
 refine aA rfl (aE rfl (aB (aR (aF (aA rfl (aC rfl (aA rfl (bO Tryz.underlying107 rfl (aA rfl (aC rfl (aB (aX (dG (G := Nat × Nat × Option Addr × Nat) (fun ⟨j, n1, A1, c1⟩ => [(2, .slice none 0 0), (25, .slice A rs.length c), (26, .int .i64 (rs.length : Nat)), (6, .slice A1 n1 c1), (27, .int .i64 (j : Nat))]) (fun ⟨j, n1, A1, c1⟩ wr => j ≤ rs.length ∧ n1 = (sV (rs.take j)).length ∧ Own wr w.heap.size 2 1 A1 n1 c1 ((sV (rs.take j)).flatMap eI) ∧ Sl B wr A (rs.flatMap rQ) ∧ Nexts B2 wr rs ∧ Ext w wr) (fun ⟨j, n1, A1, c1⟩ => rs.length - j) (0, 0, AG, cG) (.cons rfl (.cons rfl (.cons rfl (.cons rfl (.cons rfl (.nil _)))))) ?_ ?_)))))))))))))
 · exact ⟨by omega, rfl, oG, hs, hn, X⟩
 clear hs hn oG
 clear X
 rintro ⟨j, n1, A1, c1⟩ wr ⟨hj0, hn1, oO, hs, hn, X⟩
 refine aF (aA rfl (cU rfl rfl (fun hj => ?_) (fun hj => ?_)))
 obtain ⟨y, hy, dy⟩ := dR hj
 have hlj := hle (j + 1)
 rw [rR hy, List.length_append] at hlj
 refine aB (aR (aQ rfl (aV (aS (aR (aX (aF (aA rfl (aU hs jH rfl sX rfl rfl rfl hy rfl ?_)))))))))
 have hny := hn.at_ hy
 refine aA rfl (bS hs jH hy mD rfl rfl rfl (aA rfl (aE rfl (aB (aN (aA rfl (aC rfl (aA rfl (aC rfl (aA rfl (cH (ts := #[]) oO X.size hny (eW bI _) (dY _) cQ dB rfl rfl rfl rfl (by omega) (by omega) ?_)))))))))))
 intro AoN coN w5 oN hg4
 replace hs := hs.grown hg4 (fun g hg => Q7l Bhs (Own.lt oO hg).1)
 replace hn := hn.grown hg4 (fun g hg => Q7l Bhn (Own.lt oO hg).1)
 replace hny := hny.grown hg4 (fun g hg => Q7l Bhn (Own.lt oO hg).1)
 replace X := X.grown hg4 X.size (fun g hg => (Own.lt oO hg).1)
 clear hg4
 refine aA rfl (aE rfl (aB (dO (aS (aN (aA rfl (aY rfl rfl (dM (by omega)) (aA rfl (aC rfl (aB (aS ⟨(j + 1, n1 + y.m.next.length, AoN, coN), (.cons rfl (.cons rfl (.cons rfl (.cons rfl (.cons rfl (.nil _)))))), ?_, ?_⟩)))))))))))
 · exact ⟨by omega, (by rw [rR hy, List.length_append]; omega), oN.to (by rw [rR hy, List.flatMap_append]), hs, hn, X⟩
 · first | omega | (dsimp only; omega)
 refine aB (aR (aM rfl (dD (dC (dC (eG (aS (aF (aA rfl (aC rfl (aA rfl (aE rfl (aB (aW (aL rfl rfl ?_)))))))))))))))
 · skip
   rw [show j = rs.length by omega, List.take_length] at oO hn1
   rw [← hn1]; exact ⟨A1, c1, rfl, oO, X⟩
theorem aFt (A : Option Addr) (B c : Nat) (xs : List SlotI) (m r s : Int) (w : World) (hs : Sl B w A (xs.flatMap SlotI.cells)) (hl : xs.length ≤ 1048576) :
   Calls Tryz.prog 107 #[.slice A xs.length c, .int .i64 m, .int .i64 r, .int .i64 s] w (fF fun v w' => v = .int .i64 (iC (nA m r s) 0 xs) ∧ Ext w w') := by
 have Bhs := hs.1
 have X := Q7r w
 refine bJ (args := [.slice A xs.length c, .int .i64 m, .int .i64 r, .int .i64 s]) Tryz.func107 Tryz.ntmps107 rfl rfl (aF (aA rfl (aE rfl (aB (aR (aF (aA rfl (aE rfl (aB (aX (dG (G := Nat) (fun k => [(0, .slice A xs.length c), (1, .int .i64 m), (2, .int .i64 r), (3, .int .i64 s), (9, .int .i64 (k : Nat))]) (fun k wr => k ≤ xs.length ∧ (iC (nA m r s) 0 xs) = iC (nA m r s) (k : Int) (xs.drop k) ∧ Sl B wr A (xs.flatMap SlotI.cells) ∧ Ext w wr) (fun k => xs.length - k) 0 (.cons rfl (.cons rfl (.cons rfl (.cons rfl (.cons rfl (.nil _)))))) ?_ ?_)))))))))))
 · exact ⟨by omega, rfl, hs, X⟩
 clear hs
 clear X
 rintro k wr ⟨hk0, hi, hs, X⟩
 refine aR (aF (aA rfl (aC rfl (aA rfl (aC rfl (aA rfl (bO Tryz.underlying26 rfl (aA rfl (cU rfl rfl (fun hk => ?_) (fun hk => ?_))))))))))
 obtain ⟨x, hx, dx⟩ := dR hk
 refine aB (aQ rfl (aV (aS (aR (aX (aF (aA rfl (aC rfl (aA rfl (aC rfl (aA rfl (aU hs SlotI.len rfl gF rfl rfl rfl hx rfl (aA rfl (dF iA rfl (aA rfl (eF hs SlotI.len hx dB rfl rfl rfl (aA rfl (aC rfl (aA rfl (dP rfl rfl (fun h1 => ?_) (fun h1 => ?_)))))))))))))))))))))
 refine aA rfl (aC rfl (aI rfl rfl rfl (aC rfl (aI rfl rfl rfl (aC rfl (aI rfl rfl rfl (aU hs SlotI.len rfl gF rfl rfl rfl hx rfl (aI rfl rfl rfl (dF kP rfl (aI rfl rfl rfl (eF hs SlotI.len hx dB rfl rfl rfl (aI rfl rfl rfl (aC rfl (aI rfl rfl rfl (dP rfl rfl (fun h2 => ?_) (fun h2 => ?_))))))))))))))))
 refine aA rfl (aK rfl rfl (aA rfl (aC rfl (aI rfl rfl rfl (aC rfl (aI rfl rfl rfl (aC rfl (aI rfl rfl rfl (aU hs SlotI.len rfl gF rfl rfl rfl hx rfl (aI rfl rfl rfl (dF kB rfl (aI rfl rfl rfl (eF hs SlotI.len hx dB rfl rfl rfl (aI rfl rfl rfl (aC rfl (aI rfl rfl rfl (dP rfl rfl (fun h3 => ?_) (fun h3 => ?_))))))))))))))))))
 refine aA rfl (aK rfl rfl (aB (aQ rfl (aF (aA rfl (aC rfl (aA rfl (aE rfl (aB (aW (dL (bN (bN (dL (bN (aL rfl rfl ?_))))))))))))))))
 · skip
   refine ⟨congrArg (Value.int .i64) ?_, X⟩
   first
   | (rw [hi, bL hk]; rfl)
   | (rw [hi, dx, iC, if_pos (by simp [nA, *])])
 refine aA rfl (aK rfl rfl (aB (aM rfl (aV (dO (aS (aN (aA rfl (aC rfl (aA rfl (aY rfl rfl (dM (by omega)) (aA rfl (aE rfl (aB (aS ⟨k + 1, (.cons rfl (.cons rfl (.cons rfl (.cons rfl (.cons rfl (.nil _)))))), ?_, ?_⟩)))))))))))))))
 · exact ⟨by omega, (by rw [hi, dx, iC, if_neg (by simp [nA, *])]; rfl), hs, X⟩
 · first | omega | (dsimp only; omega)
 refine aA rfl (aK rfl rfl (aA rfl (aC rfl (aH rfl rfl rfl rfl (aH rfl rfl rfl rfl (aH rfl rfl rfl rfl (aH rfl rfl rfl rfl (aH rfl rfl rfl rfl (aH rfl rfl rfl rfl (aH rfl rfl rfl rfl (aA rfl (aK rfl rfl (aB (aM rfl (aV (dO (aS (aN (aA rfl (aC rfl (aA rfl (aY rfl rfl (dM (by omega)) (aA rfl (aE rfl (aB (aS ⟨k + 1, (.cons rfl (.cons rfl (.cons rfl (.cons rfl (.cons rfl (.nil _)))))), ?_, ?_⟩))))))))))))))))))))))))))
 · exact ⟨by omega, (by rw [hi, dx, iC, if_neg (by simp [nA, *])]; rfl), hs, X⟩
 · first | omega | (dsimp only; omega)
 refine aA rfl (aC rfl (aH rfl rfl rfl rfl (aH rfl rfl rfl rfl (aH rfl rfl rfl rfl (aH rfl rfl rfl rfl (aH rfl rfl rfl rfl (aH rfl rfl rfl rfl (aH rfl rfl rfl rfl (aA rfl (aK rfl rfl (aA rfl (aC rfl (aH rfl rfl rfl rfl (aH rfl rfl rfl rfl (aH rfl rfl rfl rfl (aH rfl rfl rfl rfl (aH rfl rfl rfl rfl (aH rfl rfl rfl rfl (aH rfl rfl rfl rfl (aA rfl (aK rfl rfl (aB (aM rfl (aV (dO (aS (aN (aA rfl (aC rfl (aA rfl (aY rfl rfl (dM (by omega)) (aA rfl (aE rfl (aB (aS ⟨k + 1, (.cons rfl (.cons rfl (.cons rfl (.cons rfl (.cons rfl (.nil _)))))), ?_, ?_⟩)))))))))))))))))))))))))))))))))))
 · exact ⟨by omega, (by rw [hi, dx, iC, if_neg (by simp [nA, *])]; rfl), hs, X⟩
 · first | omega | (dsimp only; omega)
 refine aB (aM rfl (dD (dC (dC (eG (aS (aF (aA rfl (aE rfl (aB (aW (aL rfl rfl ?_))))))))))))
 · skip
   refine ⟨congrArg (Value.int .i64) ?_, X⟩
   first
   | (rw [hi, bL hk]; rfl)
   | (rw [hi, dx, iC, if_pos (by simp [nA, *])])
theorem aCT (x : SlotI) (g1 g2 g3 : Nat) (m r s : Int) (w : World) (q1 : Blk w g1 2 [.int .i64 m]) (q2 : Blk w g2 2 [.int .i64 r]) (q3 : Blk w g3 2 [.int .i64 s]) :
   Calls Tryz.prog 191 #[.agg x.cells.toArray, .pointer (some ⟨g1, 0, none⟩), .pointer (some ⟨g2, 0, none⟩), .pointer (some ⟨g3, 0, none⟩)] w (fF fun v w' => v = .bool (nA m r s x) ∧ Ext w w') := by
 have X := Q7r w
 refine bJ (args := [.agg x.cells.toArray, .pointer (some ⟨g1, 0, none⟩), .pointer (some ⟨g2, 0, none⟩), .pointer (some ⟨g3, 0, none⟩)]) Tryz.func191 Tryz.ntmps191 rfl rfl (aF (aA rfl (eX rfl rfl ?_)))
 intro g4 w3 eg4 b1 x2 zg4
 have lg4 : w.heap.size ≤ g4 := Q7l X.size (Q7e eg4.symm)
 have ng4q1 := Nat.lt_of_lt_of_eq q1.lt eg4.symm
 have ng4q2 := Nat.lt_of_lt_of_eq q2.lt eg4.symm
 have ng4q3 := Nat.lt_of_lt_of_eq q3.lt eg4.symm
 replace q1 := q1.ext x2
 replace q2 := q2.ext x2
 replace q3 := q3.ext x2
 replace X := Q7x X x2; clear x2
 refine aA rfl (aE rfl (aB (aF (aA rfl (aG iA rfl rfl (aA rfl (aJ b1 dB rfl rfl (aA rfl (aJ q1 dB rfl rfl (aA rfl (dP rfl rfl (fun h5 => ?_) (fun h5 => ?_))))))))))))
 refine aA rfl (aC rfl (aI rfl rfl rfl (aG kP rfl rfl (aI rfl rfl rfl (aJ b1 dB rfl rfl (aI rfl rfl rfl (aJ q2 dB rfl rfl (aI rfl rfl rfl (dP rfl rfl (fun h6 => ?_) (fun h6 => ?_))))))))))
 exact aA rfl (aK rfl rfl (aA rfl (aC rfl (aI rfl rfl rfl (aG kB rfl rfl (aI rfl rfl rfl (aJ b1 dB rfl rfl (aI rfl rfl rfl (aJ q3 dB rfl rfl (aI rfl rfl rfl (jJ rfl rfl (aA rfl (aK rfl rfl (aA rfl (aE rfl (aB (aW (aL rfl rfl ⟨by simp [nA, *], X⟩))))))))))))))))))
 exact aA rfl (aK rfl rfl (aA rfl (aC rfl (aH rfl rfl rfl rfl (aH rfl rfl rfl rfl (aH rfl rfl rfl rfl (aH rfl rfl rfl rfl (aA rfl (aK rfl rfl (aA rfl (aE rfl (aB (aW (aL rfl rfl ⟨by simp [nA, *], X⟩))))))))))))))
 exact aA rfl (aC rfl (aH rfl rfl rfl rfl (aH rfl rfl rfl rfl (aH rfl rfl rfl rfl (aH rfl rfl rfl rfl (aA rfl (aK rfl rfl (aA rfl (aC rfl (aH rfl rfl rfl rfl (aH rfl rfl rfl rfl (aH rfl rfl rfl rfl (aH rfl rfl rfl rfl (aA rfl (aK rfl rfl (aA rfl (aE rfl (aB (aW (aL rfl rfl ⟨by simp [nA, *], X⟩))))))))))))))))))))
theorem aCU (A : Option Addr) (B c : Nat) (xs : List SlotI) (g1 g2 g3 : Nat) (m r s : Int) (w : World) (hs : Sl B w A (xs.flatMap SlotI.cells)) (q1 : Blk w g1 2 [.int .i64 m]) (q2 : Blk w g2 2 [.int .i64 r]) (q3 : Blk w g3 2 [.int .i64 s]) (hl : xs.length ≤ 1048576) :
   Calls Tryz.prog 190 #[.slice A xs.length c, .func (.func 191) #[] #[.pointer (some ⟨g1, 0, none⟩), .pointer (some ⟨g2, 0, none⟩), .pointer (some ⟨g3, 0, none⟩)]] w (fF fun v w' => v = .int .i64 (iC (nA m r s) 0 xs) ∧ Ext w w') := by
 have Bhs := hs.1
 have X := Q7r w
 refine bJ (args := [.slice A xs.length c, .func (.func 191) #[] #[.pointer (some ⟨g1, 0, none⟩), .pointer (some ⟨g2, 0, none⟩), .pointer (some ⟨g3, 0, none⟩)]]) Tryz.func190 Tryz.ntmps190 rfl rfl (aF (aA rfl (aE rfl (aB (aR (aF (aA rfl (aC rfl (aA rfl (bO Tryz.underlying26 rfl (aA rfl (aC rfl (aB (aX (dG (G := Nat) (fun k => [(0, .slice A xs.length c), (1, .func (.func 191) #[] #[.pointer (some ⟨g1, 0, none⟩), .pointer (some ⟨g2, 0, none⟩), .pointer (some ⟨g3, 0, none⟩)]), (7, .int .i64 (xs.length : Nat)), (8, .int .i64 (k : Nat))]) (fun k wr => k ≤ xs.length ∧ (iC (nA m r s) 0 xs) = iC (nA m r s) (k : Int) (xs.drop k) ∧ Sl B wr A (xs.flatMap SlotI.cells) ∧ Blk wr g1 2 [.int .i64 m] ∧ Blk wr g2 2 [.int .i64 r] ∧ Blk wr g3 2 [.int .i64 s] ∧ Ext w wr) (fun k => xs.length - k) 0 (.cons rfl (.cons rfl (.cons rfl (.cons rfl (.nil _))))) ?_ ?_)))))))))))))))
 · exact ⟨by omega, rfl, hs, q1, q2, q3, X⟩
 clear hs q1 q2 q3
 clear X
 rintro k wr ⟨hk0, hi, hs, q1, q2, q3, X⟩
 refine aF (aA rfl (cU rfl rfl (fun hk => ?_) (fun hk => ?_)))
 obtain ⟨x, hx, dx⟩ := dR hk
 refine aB (aR (aQ rfl (aV (aS (aR (aX (aF (aA rfl (aC rfl (aA rfl (aE rfl (aB (aF (aA rfl (aC rfl (aA rfl (aC rfl (aA rfl (aC rfl (aA rfl (aU hs SlotI.len rfl gF rfl rfl rfl hx rfl (aA rfl (eE hs SlotI.len hx eQ rfl (aA rfl (wF aKb rfl rfl (aCT _ _ _ _ _ _ _ _ q1 q2 q3) (fun w3 h1 x2 => ?_) (fun w3 h1 x2 => ?_))))))))))))))))))))))))))
 replace hs := hs.ext x2
 replace q1 := q1.ext x2
 replace q2 := q2.ext x2
 replace q3 := q3.ext x2
 replace X := Q7x X x2; clear x2
 refine aB (aQ rfl (aF (aA rfl (aC rfl (aA rfl (aE rfl (aB (aW (dL (bN (bN (dL (bN (aL rfl rfl ?_))))))))))))))
 · skip
   refine ⟨congrArg (Value.int .i64) ?_, X⟩
   first
   | (rw [hi, bL hk]; rfl)
   | (rw [hi, dx, iC, if_pos (by simp [*])])
 replace hs := hs.ext x2
 replace q1 := q1.ext x2
 replace q2 := q2.ext x2
 replace q3 := q3.ext x2
 replace X := Q7x X x2; clear x2
 refine aB (aM rfl (aV (dO (aS (aN (aA rfl (aY rfl rfl (dM (by omega)) (aA rfl (aC rfl (aB (aS ⟨k + 1, (.cons rfl (.cons rfl (.cons rfl (.cons rfl (.nil _))))), ?_, ?_⟩)))))))))))
 · exact ⟨by omega, (by rw [hi, dx, iC, if_neg (by simp [*])]; rfl), hs, q1, q2, q3, X⟩
 · first | omega | (dsimp only; omega)
 refine aB (aR (aM rfl (dD (dC (dC (eG (aS (aF (aA rfl (aE rfl (aB (aW (aL rfl rfl ?_)))))))))))))
 · skip
   refine ⟨congrArg (Value.int .i64) ?_, X⟩
   first
   | (rw [hi, bL hk]; rfl)
   | (rw [hi, dx, iC, if_pos (by simp [*])])
theorem aDS (A : Option Addr) (B c : Nat) (xs : List SlotI) (m r s : Int) (w : World) (hs : Sl B w A (xs.flatMap SlotI.cells)) (hl : xs.length ≤ 1048576) :
   Calls Tryz.prog 106 #[.slice A xs.length c, .int .i64 m, .int .i64 r, .int .i64 s] w (fF fun v w' => v = .int .i64 (iC (nA m r s) 0 xs) ∧ Ext w w') := by
 have Bhs := hs.1
 have X := Q7r w
 refine bJ (args := [.slice A xs.length c, .int .i64 m, .int .i64 r, .int .i64 s]) Tryz.func106 Tryz.ntmps106 rfl rfl (aF (aA rfl (eX rfl rfl ?_)))
 intro g4 w3 eg4 b1 x2 zg4
 have lg4 : w.heap.size ≤ g4 := Q7l X.size (Q7e eg4.symm)
 have pg4hs := Q7l hs.1 (Q7e eg4.symm)
 replace hs := hs.ext x2
 replace X := Q7x X x2; clear x2
 refine aA rfl (eX rfl rfl ?_)
 intro g8 w7 eg8 b5 x6 zg8
 have lg8 : w.heap.size ≤ g8 := Q7l X.size (Q7e eg8.symm)
 have pg8hs := Q7l hs.1 (Q7e eg8.symm)
 have ng8b1 := Nat.lt_of_lt_of_eq b1.lt eg8.symm
 replace hs := hs.ext x6
 replace b1 := b1.ext x6
 replace X := Q7x X x6; clear x6
 refine aA rfl (eX rfl rfl ?_)
 intro g12 w11 eg12 b9 x10 zg12
 have lg12 : w.heap.size ≤ g12 := Q7l X.size (Q7e eg12.symm)
 have pg12hs := Q7l hs.1 (Q7e eg12.symm)
 have ng12b1 := Nat.lt_of_lt_of_eq b1.lt eg12.symm
 have ng12b5 := Nat.lt_of_lt_of_eq b5.lt eg12.symm
 replace hs := hs.ext x10
 replace b1 := b1.ext x10
 replace b5 := b5.ext x10
 replace X := Q7x X x10
 refine aA rfl (aE rfl (aB (aF (aA rfl (aC rfl (aA rfl (nR rfl (aA rfl (aT aHw rfl (aP (aCU _ _ _ _ _ _ _ _ _ _ _ hs b1 b5 b9 hl) ?_))))))))))
 rintro _ w14 ⟨rfl, x13⟩
 replace hs := hs.ext x13
 replace b1 := b1.ext x13
 replace b5 := b5.ext x13
 replace b9 := b9.ext x13
 replace X := Q7x X x13
 exact aA rfl (aE rfl (aB (aW (aL rfl rfl ⟨by rfl, X⟩))))
end Go.Proofs.YtdoibplhbdkapaaGreatDoor
