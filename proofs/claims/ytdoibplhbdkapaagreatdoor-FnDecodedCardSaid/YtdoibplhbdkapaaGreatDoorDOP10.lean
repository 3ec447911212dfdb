/- Parts. No condition. -/
import Derived.Test.YtdoibplhbdkapaaGreatDoorDOP6
import Derived.Test.YtdoibplhbdkapaaGreatDoorDOP9
import Derived.Test.YtdoibplhbdkapaaGreatDoorDOP4
import Derived.Laws.StructEq
namespace Go.Proofs.YtdoibplhbdkapaaGreatDoor
open Go.RowKit
set_option linter.unusedVariables false
set_option linter.unusedSimpArgs false
set_option maxRecDepth 20000
theorem aH4 {P : Program} {e : List (Nat × Value)} {ty : TypeId} {w : World} {K : Value → World → Prop} {x y : Operand} {t t' : TypeId} {k : IntKind} {m n : Int} (hx : fV e x = some (.int k m)) (hy : fV e y = some (.int k n)) (hh : m < n) (h : K (.bool true) w) : OpWp P e (.binOp .lss t x y t') ty w K :=
 tF hx hy (by rw [decide_eq_true hh]; exact h)
theorem aH5 {P : Program} {e : List (Nat × Value)} {ty : TypeId} {w : World} {K : Value → World → Prop} {x y : Operand} {t t' : TypeId} {k : IntKind} {m n : Int} (hx : fV e x = some (.int k m)) (hy : fV e y = some (.int k n)) (hh : ¬ m < n) (h : K (.bool false) w) : OpWp P e (.binOp .lss t x y t') ty w K :=
 tF hx hy (by rw [decide_eq_false hh]; exact h)
theorem aKX {z : Int} (h : 0 ≤ z ∧ z ≤ 1099511627776) : lN .and .i64 z 255 = z % 256 := by
 obtain ⟨n, rfl⟩ : ∃ n : Nat, z = (n : Int) := ⟨z.toNat, by omega⟩
 have h1 := tV (a := n) (b := 255) (by omega) (by omega)
 rw [show ((255 : Nat) : Int) = 255 from rfl] at h1
 rw [h1, show n &&& 255 = n % 256 from Nat.and_two_pow_sub_one_eq_mod n 8]; omega
def vA (A : Option Addr) (xs : List Int) : List ModeI := if xs.length = 0 then [lL none 0 []] else chs A 33 xs (cN 33 xs.length)
theorem aET {n : Nat} (h : n ≠ 0) : cN 33 n = nS n := by
 unfold cN nS; rw [if_neg h, show n + 33 - 1 = n + 32 by omega]
theorem aAt (A : Option Addr) (xs : List Int) : (vA A xs).length = nS xs.length := by
 unfold vA
 split
 · rename_i h; rw [h]; rfl
 · rename_i h; rw [aAm, aET h]
theorem aGr {A : Option Addr} {d : Nat} {xs : List Int} {m k : Nat} (h : k < m) : (chs A d xs m)[k]? = some (uE A d xs k) := by
 unfold chs; rw [List.getElem?_map, List.getElem?_range h]; rfl
theorem aAu (A : Option Addr) (xs : List Int) {k : Nat} (h : k < nS xs.length) : ∃ pA pc, (vA A xs)[k]? = some (lL pA pc (eH xs k)) ∧ (eH xs k).length ≤ pc := by
 unfold vA
 split
 · rename_i h0
   rw [h0] at h
   have hk : k = 0 := by have h2 : k < 1 := h; omega
   subst hk
   have e : xs = [] := List.eq_nil_of_length_eq_zero h0
   subst e
   exact ⟨none, 0, rfl, Nat.le_refl _⟩
 · rename_i h0
   rw [aGr (by rw [aET h0]; exact h)]
   refine ⟨_, _, rfl, ?_⟩
   rw [jT]; exact Nat.le_refl _
theorem aBp {B : Nat} {w : World} {A : Option Addr} {d : Nat} {xs : List Int} (hs : Sl B w A (xs.flatMap eI)) (hl : xs.length ≤ 1048576) (m : Nat) : Nexts B w (chs A d xs m) := ⟨hs.1, fun x hx => by
 obtain ⟨k, _, rfl⟩ := List.mem_map.1 hx
 exact ⟨(hs.dropI _).takeI _, by rw [aBi]; omega⟩⟩
theorem aAv {B : Nat} {w : World} {A : Option Addr} {xs : List Int} (hs : Sl B w A (xs.flatMap eI)) (hl : xs.length ≤ 1048576) : Nexts B w (vA A xs) := by
 unfold vA
 split
 · refine ⟨hs.1, fun x hx => ?_⟩
   obtain rfl : x = lL none 0 [] := by simpa using hx
   exact ⟨Sl.nil_ hs.1 _, Nat.zero_le _⟩
 · exact aBp hs hl _
theorem aGs {xs : List Int} (h : xs.length = 0) (A : Option Addr) : (vA A xs).flatMap rQ = [.slice none 0 0] := by unfold vA; rw [if_pos h]; rfl
theorem kL {xs : List Int} (hb : ∀ x ∈ xs, 0 ≤ x ∧ x ≤ 255) (k : Nat) : ∀ x ∈ eH xs k, 0 ≤ x ∧ x ≤ 255 := fun x hx => hb x (List.mem_of_mem_drop (List.mem_of_mem_take hx))
theorem aDN {xs : List Int} (hb : ∀ x ∈ xs, 0 ≤ x ∧ x ≤ 255) (k : Nat) : ∀ x ∈ xs.take k, 0 ≤ x ∧ x ≤ 255 := fun x hx => hb x (List.mem_of_mem_take hx)
theorem qO {xs : List Int} (h : nU xs = true) : ∀ x ∈ xs, 0 ≤ x ∧ x ≤ 255 := fun x hx => by
 obtain ⟨k, hk⟩ := List.mem_iff_getElem?.1 hx
 exact iE h hk
theorem aGt (xs : List Int) (k : Nat) : (xs.drop (min xs.length (33 * k))).take (min xs.length (min xs.length (33 * k) + 33) - min xs.length (33 * k)) = eH xs k := by
 unfold eH
 by_cases h : 33 * k ≤ xs.length
 · rw [Nat.min_eq_right h]
   by_cases h2 : 33 * k + 33 ≤ xs.length
   · rw [Nat.min_eq_right h2, show 33 * k + 33 - 33 * k = 33 by omega]
   · rw [Nat.min_eq_left (by omega), List.take_of_length_le (by simp), List.take_of_length_le (by simp; omega)]
 · have e : min xs.length (33 * k) = xs.length := by omega
   rw [e, List.drop_length, List.drop_of_length_le (by omega)]; simp
theorem aBq (xs : List Int) (k : Nat) : min xs.length (min xs.length (33 * k) + 33) - min xs.length (33 * k) = (eH xs k).length := by rw [jT]; omega
theorem vT {xs : List Int} {k : Nat} (h : (eH xs k).length < 5) : pK xs k = true := by rw [pK, decide_eq_true h]; rfl
theorem pM {xs : List Int} {k : Nat} (h : ¬ (eH xs k).length < 5) : pK xs k = !decide (nX k ((eH xs k).take ((eH xs k).length - 3)) = (eH xs k).drop ((eH xs k).length - 3)) := by rw [pK, decide_eq_false h]; rfl
theorem aIP {l : List Int} {x y z : Int} (h3 : 3 ≤ l.length) (hx : l[l.length - 3]? = some x) (hy : l[l.length - 2]? = some y) (hz : l[l.length - 1]? = some z) : l.drop (l.length - 3) = [x, y, z] := by
 have e0 : (l.drop (l.length - 3))[0]? = some x := by rw [List.getElem?_drop]; exact hx
 have e1 : (l.drop (l.length - 3))[1]? = some y := by rw [List.getElem?_drop, show l.length - 3 + 1 = l.length - 2 by omega]; exact hy
 have e2 : (l.drop (l.length - 3))[2]? = some z := by rw [List.getElem?_drop, show l.length - 3 + 2 = l.length - 1 by omega]; exact hz
 have el : (l.drop (l.length - 3)).length = 3 := by simp; omega
 generalize l.drop (l.length - 3) = d at *
 match d, el with
 | [a, b, c], _ =>
   simp at e0 e1 e2
   rw [e0, e1, e2]
theorem aEU (A : Option Addr) (n c d : Nat) (w : World) (hd : 1 ≤ d) :
   Calls Tryz.prog 152 #[.slice A n c, .int .i64 (d : Nat)] w (fF fun v w' => ∃ gs gn, v = .func (.func 220) #[] #[.pointer (some ⟨gs, 0, none⟩), .pointer (some ⟨gn, 0, none⟩)] ∧ Blk w' gs 30 [.slice A n c] ∧ Blk w' gn 3 [.int .i64 (d : Nat)] ∧ Ext w w') := by
 have X := Q7r w
 refine bJ (args := [.slice A n c, .int .i64 (d : Nat)]) Tryz.func152 Tryz.ntmps152 rfl rfl (aF (aA rfl (eX rfl rfl ?_)))
 intro gs w2 egs q1 x1 zgs
 have lgs : w.heap.size ≤ gs := Q7l X.size (Q7e egs.symm)
 replace X := Q7x X x1; clear x1
 refine aA rfl (eX rfl rfl ?_)
 intro gn w4 egn q2 x3 zgn
 have lgn : w.heap.size ≤ gn := Q7l X.size (Q7e egn.symm)
 have ngnq1 := Nat.lt_of_lt_of_eq q1.lt egn.symm
 replace q1 := q1.ext x3
 replace X := Q7x X x3; clear x3
 exact aA rfl (aE rfl (aB (aR (aF (aA rfl (aJ q2 ti3 rfl rfl (aA rfl (cU rfl rfl (fun h5 => absurd h5 (by omega)) (fun h5 => aB (aM rfl (aV (aS (aF (aA rfl (nR rfl (aA rfl (aE rfl (aB (aW (aL rfl rfl ⟨gs, gn, rfl, q1, q2, X⟩))))))))))))))))))))
theorem aBr (gs gn d c : Nat) (A : Option Addr) (xs : List Int) (w : World) (q1 : Blk w gs 30 [.slice A xs.length c]) (q2 : Blk w gn 3 [.int .i64 (d : Nat)]) (hd : 1 ≤ d ∧ d ≤ 1000) (hl : xs.length ≤ 1048576) (hc : xs.length ≤ c) :
   Calls Tryz.prog 151 #[.func (.func 220) #[] #[.pointer (some ⟨gs, 0, none⟩), .pointer (some ⟨gn, 0, none⟩)]] w (fF fun v w' => ∃ A' c', v = .slice A' (cN d xs.length) c' ∧ Own w' w.heap.size 30 1 A' (cN d xs.length) c' ((chs A d xs (cN d xs.length)).flatMap rQ) ∧ Ext w w') := by
 have X := Q7r w
 refine bJ (args := [.func (.func 220) #[] #[.pointer (some ⟨gs, 0, none⟩), .pointer (some ⟨gn, 0, none⟩)]]) Tryz.func151 Tryz.ntmps151 rfl rfl (aF (aA rfl (aE rfl (aB (aF (aA rfl (aC rfl (aA rfl (aT aKi rfl (aP (aDK gs gn d c A xs _ q1 q2 hd hl hc) ?_))))))))))
 rintro _ wA ⟨AL, cL, rfl, oL, xA⟩
 replace oL := Own.low oL X.size
 replace q1 := q1.ext xA
 replace q2 := q2.ext xA
 replace X := Q7x X xA; clear xA
 exact aA rfl (aE rfl (aB (aW (aL rfl rfl ⟨AL, cL, rfl, oL, X⟩))))
theorem vU (A : Option Addr) (c : Nat) (xs : List Int) (w : World) (hl : xs.length ≤ 1048576) (hc : xs.length ≤ c) :
   Calls Tryz.prog 85 #[.slice A xs.length c] w (fF fun v w' => ∃ A' c', v = .slice A' (nS xs.length) c' ∧ Own w' w.heap.size 30 1 A' (nS xs.length) c' ((vA A xs).flatMap rQ) ∧ Ext w w') := by
 have X := Q7r w
 refine bJ (args := [.slice A xs.length c]) Tryz.func85 Tryz.ntmps85 rfl rfl (aF (aA rfl (aE rfl (aB (aR (aF (aA rfl (aC rfl (aA rfl (bO Tryz.underlying30 rfl (aA rfl (dP rfl rfl (fun h0 => ?_) (fun h0 => ?_)))))))))))))
 refine aB (aQ rfl (aF (aA rfl (aO sX mD rfl rfl rfl rfl rfl ?_))))
 intro gO w2 egO oO bbgO x1 zgO
 replace oO := Own.low oO X.size
 replace X := Q7x X x1; clear x1
 refine aA rfl (aE rfl (aB (aW (bN (aL rfl rfl ?_)))))
 · skip
   have h00 : xs.length = 0 := by omega
   have e : nS xs.length = 1 := by rw [h00]; rfl
   exact ⟨_, _, by rw [e], by rw [e, aGs h00]; exact oO.to rfl, X⟩
 refine aB (aM rfl (aV (aS (aF (aA rfl (aC rfl (aA rfl (aT aHq rfl (aP (aEU A xs.length c 33 _ (by omega)) ?_)))))))))
 rintro _ wK ⟨gs, gn, rfl, q1, q2, xK⟩
 replace X := Q7x X xK; clear xK
 refine aA rfl (aT aHp rfl (aP (aBr gs gn 33 c A xs _ q1 q2 (by omega) hl hc) ?_))
 rintro _ wL ⟨AL, cL, rfl, oL, xL⟩
 replace oL := Own.low oL X.size
 replace X := Q7x X xL; clear xL
 refine aA rfl (aE rfl (aB (aW (aL rfl rfl ?_))))
 · skip
   have h00 : xs.length ≠ 0 := by omega
   rw [aET h00] at oL ⊢
   exact ⟨AL, cL, rfl, oL.to (by unfold vA; rw [if_neg h00, aET h00]), X⟩
theorem aH6 (z : Int) (w : World) (hz : 0 ≤ z ∧ z < 16777216) :
   Calls Tryz.prog 147 #[.int .i64 z] w (fF fun v w' => ∃ A' c', v = .slice A' 3 c' ∧ Own w' w.heap.size 2 1 A' 3 c' ((id3 z).flatMap eI) ∧ Ext w w') := by
 have X := Q7r w
 refine bJ (args := [.int .i64 z]) Tryz.func147 Tryz.ntmps147 rfl rfl (aF (aA rfl (aE rfl (aB (aF (aA rfl (aC rfl (aA rfl (sB rfl rfl (by omega) (aJF 65536 hz.1 (by omega) rfl) (aA rfl (aC rfl (aA rfl (sB rfl rfl (by omega) (aJF 256 hz.1 (by omega) rfl) (aA rfl (sA rfl rfl (aKX (by omega)) (aA rfl (aC rfl (aA rfl (sA rfl rfl (aKX (by omega)) (aA rfl (aO cQ dB rfl rfl rfl rfl rfl ?_)))))))))))))))))))))
 intro g1 w3 eg1 oS bbg1 x2 zg1
 replace oS := Own.low oS X.size
 replace X := Q7x X x2; clear x2
 exact aA rfl (aE rfl (aB (aW (aL rfl rfl ⟨_, _, rfl, oS.to rfl, X⟩))))
theorem aBY (k : Nat) (A : Option Addr) (B c : Nat) (xs : List Int) (w : World) (hs : Sl B w A (xs.flatMap eI)) (hl : xs.length ≤ 100000) (hb : ∀ x ∈ xs, 0 ≤ x ∧ x ≤ 255) (hk : k ≤ 100000) :
   Calls Tryz.prog 153 #[.int .i64 (k : Nat), .slice A xs.length c] w (fF fun v w' => ∃ A' c', v = .slice A' 3 c' ∧ Own w' w.heap.size 2 1 A' 3 c' ((nX k xs).flatMap eI) ∧ Ext w w') := by
 have Bhs := hs.1
 have X := Q7r w
 refine bJ (args := [.int .i64 (k : Nat), .slice A xs.length c]) Tryz.func153 Tryz.ntmps153 rfl rfl (aF (aA rfl (aE rfl (aB (aF (aA rfl (aT aKk rfl (aP (aF8 _) ?_))))))))
 rintro _ w2 ⟨rfl, x1⟩
 replace hs := hs.ext x1
 replace X := Q7x X x1; clear x1
 refine aA rfl (aC rfl (aA rfl (aY rfl rfl (dM (by omega)) (aA rfl (aC rfl (aA rfl (aT aKm rfl (aP (aHN _ _ _ xs _ hs (by omega) hb) ?_))))))))
 rintro _ w4 ⟨AB, cB, rfl, oB, x3⟩
 replace oB := Own.low oB X.size
 replace hs := hs.ext x3
 replace X := Q7x X x3; clear x3
 refine aA rfl (aT aKl rfl (aP (aKQ _ _ _ (mJ xs) ((k : Int) + 1) _ (oB).sl (by rw [rH]; omega) (by omega) (fun b hb => aDq b hb)) ?_))
 rintro _ w6 ⟨rfl, x5⟩
 replace hs := hs.ext x5
 replace oB := oB.ext x5
 replace X := Q7x X x5; clear x5
 refine aA rfl (aT aHo rfl (aP (aH6 (aF0 k xs) _ (nP xs (by omega))) ?_))
 rintro _ w9 ⟨AT, cT, rfl, oT, x7⟩
 replace oT := Own.low oT X.size
 replace hs := hs.ext x7
 replace oB := oB.ext x7
 replace X := Q7x X x7; clear x7
 exact aA rfl (aE rfl (aB (aW (aL rfl rfl ⟨_, _, rfl, oT, X⟩))))
theorem mN (k n : Nat) (A : Option Addr) (B c : Nat) (xs : List Int) (w : World) (hs : Sl B w A (xs.flatMap eI)) (en : xs.length = n) (hl : xs.length ≤ 100000) (hb : ∀ x ∈ xs, 0 ≤ x ∧ x ≤ 255) (hk : k ≤ 100000) :
   Calls Tryz.prog 153 #[.int .i64 (k : Nat), .slice A n c] w (fF fun v w' => ∃ A' c', v = .slice A' 3 c' ∧ Own w' w.heap.size 2 1 A' 3 c' ((nX k xs).flatMap eI) ∧ Ext w w') := by
 subst en; exact aBY k A B c xs w hs hl hb hk
theorem aDO (k : Nat) (A : Option Addr) (B c : Nat) (xs : List Int) (w : World) (hs : Sl B w A (xs.flatMap eI)) (hl : xs.length ≤ 100000) (hb : ∀ x ∈ xs, 0 ≤ x ∧ x ≤ 255) (hk : k ≤ 100000) :
   Calls Tryz.prog 158 #[.int .i64 (k : Nat), .slice A xs.length c] w (fF fun v w' => v = .int .i64 (aF0 k xs) ∧ Ext w w') := by
 have Bhs := hs.1
 have X := Q7r w
 refine bJ (args := [.int .i64 (k : Nat), .slice A xs.length c]) Tryz.func158 Tryz.ntmps158 rfl rfl (aF (aA rfl (aE rfl (aB (aF (aA rfl (aT aKt rfl (aP (aF9 _) ?_))))))))
 rintro _ w2 ⟨rfl, x1⟩
 replace hs := hs.ext x1
 replace X := Q7x X x1; clear x1
 refine aA rfl (aC rfl (aA rfl (aY rfl rfl (dM (by omega)) (aA rfl (aC rfl (aA rfl (aT aKu rfl (aP (aF7 _ _ _ xs _ hs (by omega) hb) ?_))))))))
 rintro _ w4 ⟨AB, cB, rfl, oB, x3⟩
 replace oB := Own.low oB X.size
 replace hs := hs.ext x3
 replace X := Q7x X x3; clear x3
 refine aA rfl (aT aKs rfl (aP (aGa _ _ _ (mJ xs) ((k : Int) + 1) _ (oB).sl (by rw [rH]; omega) (by omega) (fun b hb => aDq b hb)) ?_))
 rintro _ w6 ⟨rfl, x5⟩
 replace hs := hs.ext x5
 replace oB := oB.ext x5
 replace X := Q7x X x5; clear x5
 exact aA rfl (aE rfl (aB (aW (aL rfl rfl ⟨by rfl, X⟩))))
theorem kR (k n : Nat) (A : Option Addr) (B c : Nat) (xs : List Int) (w : World) (hs : Sl B w A (xs.flatMap eI)) (en : xs.length = n) (hl : xs.length ≤ 100000) (hb : ∀ x ∈ xs, 0 ≤ x ∧ x ≤ 255) (hk : k ≤ 100000) :
   Calls Tryz.prog 158 #[.int .i64 (k : Nat), .slice A n c] w (fF fun v w' => v = .int .i64 (aF0 k xs) ∧ Ext w w') := by
 subst en; exact aDO k A B c xs w hs hl hb hk
theorem rW (A : Option Addr) (B c : Nat) (xs : List Int) (k : Nat) (w : World) (hs : Sl B w A (xs.flatMap eI)) (hl : xs.length ≤ 1048576) (hc : xs.length ≤ c) (hk : k ≤ 100000) :
   Calls Tryz.prog 101 #[.slice A xs.length c, .int .i64 (k : Nat)] w (fF fun v w' => ∃ A' c', v = .slice A' (eH xs k).length c' ∧ (eH xs k).length ≤ c' ∧ Sl B w' A' ((eH xs k).flatMap eI) ∧ Ext w w') := by
 have Bhs := hs.1
 have X := Q7r w
 refine bJ (args := [.slice A xs.length c, .int .i64 (k : Nat)]) Tryz.func101 Tryz.ntmps101 rfl rfl (aF (aA rfl (aE rfl (aB (aF (aA rfl (aC rfl (aA rfl (bO Tryz.underlying30 rfl (aA rfl (aC rfl (aA rfl (fO rfl rfl (show IntKind.i64.wrap _ = ((33 * k : Nat) : Int) from (dM (by omega)).trans (by omega)) (aA rfl (aAC rfl rfl (aA rfl (aE rfl (aB (aF (aA rfl (aC rfl (aA rfl (aC rfl (aA rfl (aC rfl (aA rfl (bO Tryz.underlying30 rfl (aA rfl (aC rfl (aA rfl (aY rfl rfl (dM (by omega)) (aA rfl (aAC rfl rfl (aA rfl (kZ cQ hs bI rfl rfl rfl (show _ = ((min xs.length (33 * k) : Nat) : Int) by omega) (show _ = ((min xs.length (min xs.length (33 * k) + 33) : Nat) : Int) by omega) (by omega) (by omega) ?_)))))))))))))))))))))))))))))))))))
 intro Ap pS
 refine aA rfl (aE rfl (aB (aW (aL rfl rfl ?_))))
 · skip
   rw [aGt] at pS
   rw [aBq]
   exact ⟨Ap, _, rfl, by rw [← aBq]; omega, pS, X⟩
section
variable {P : Program} {e : List (Nat × Value)} {ty t t' el : TypeId} {w : World} {K : Value → World → Prop} {x y : Operand} {A : Option Addr} {n c : Nat}
end
theorem Own.pre {w : World} {lo n c s h : Nat} {t : TypeId} {A : Option Addr} {cs : List Value} (o : Own w lo t s A n c cs) (hh : h ≤ n) : Own w lo t s A h c (cs.take (h * s)) := by
 have hl : (cs.take (h * s)).length = h * s := by
   rw [List.length_take, o.1]
   exact Nat.min_eq_left (Nat.mul_le_mul_right s hh)
 refine ⟨hl, ?_⟩
 rcases o.2 with ⟨h1, h2⟩ | ⟨g, cap, cur, hv, hlo, hg, hnc, hm, hs, hc⟩
 · simp only [Value.slice.injEq] at h1
   obtain ⟨rfl, h3, rfl⟩ := h1
   left
   have h4 : h = 0 := by omega
   subst h4
   exact ⟨rfl, rfl⟩
 · simp only [Value.slice.injEq] at hv
   obtain ⟨rfl, _, rfl⟩ := hv
   right
   refine ⟨g, c, cur, rfl, hlo, hg, by omega, hm, hs, ?_⟩
   rw [← hc, List.take_take, Nat.min_eq_left (Nat.mul_le_mul_right s hh)]
section
variable {P : Program} {n : Nat} {fn : Func} {R : Value → World → Prop} {e : List (Nat × Value)} {w : World}
end
section
variable {P : Program} {e : List (Nat × Value)} {ty t t' : TypeId} {w : World} {K : Value → World → Prop} {x y : Operand} {a : Array Value}
theorem aEV (hx : fV e x = some (.agg a)) (hy : fV e y = some (.agg a)) (hm : P.eqGuardType P.depth t = false) (he : ∀ w, (Op.equalIn 10000 t (.agg a) (.agg a)).run P w = .ok true w) (h : K (.bool false) w) : OpWp P e (.binOp .neq t x y t') ty w K := fun ρ d p af g hρ => by
 have g1 := hρ _ _ hx; have g2 := hρ _ _ hy
 have h3 := run_eqGuard_agg (P := P) w .neq t x y a a hm
 have h4 := run_neq_struct (P := P) w t a a
 rw [he] at h4
 simp only [execOp, g1, g2, Sem.run_bind, h3, Result.andThen_ok, h4, Bool.not_true]
 simpa [upto] using h
end
section
variable {P : Program} {e : List (Nat × Value)} {w : World} {K : Value → World → Prop} {ty t el : TypeId} {x hi : Operand} {s n c h : Nat} {A : Option Addr} {k2 : IntKind} {m2 : Int}
theorem iL (ht : elO P t = some (el, s)) (hx : fV e x = some (.slice A n c)) (h2 : fV e hi = some (.int k2 m2)) (e2 : m2 = (h : Int))
   (hc : h ≤ c) (hK : K (.slice A h c) w) : OpWp P e (.slice t x none (some hi) none) ty w K := fun ρ d p a g hρ => by
 have g0 := hρ _ _ hx; have g2 := hρ _ _ h2
 obtain ⟨hu, hsz⟩ := uX ht
 subst e2
 have hr := run_slice_h (P := P) (w := w) t A n c hu k2 (h : Int) (by omega) (by omega)
 simp only [execOp, g0, Option.map_some, Option.map_none, g2, Sem.run_bind, run_sliceAt_slice w t _ _ _ _ hu, hr, hsz, Result.andThen_ok, Sem.run_pure, upto, sliced, Int.toNat_natCast]
 have e1 : (if c = 0 then A else A.map (·.add (0 * s))) = A := by split <;> simp [aA2]
 simpa [aA2] using hK
end
theorem aCN (A : Option Addr) (B c n : Nat) (xs : List Int) (A2 : Option Addr) (B2 c2 n2 : Nat) (ys : List Int) (w : World) (hs : Sl B w A (xs.flatMap eI)) (h2 : Sl B2 w A2 (ys.flatMap eI)) (hl : xs.length ≤ 1048576) (e1 : xs.length = n) (e2 : ys.length = n2) :
   Calls Tryz.prog 168 #[.slice A n c, .slice A2 n2 c2] w (fF fun v w' => v = .bool (decide (xs = ys)) ∧ Ext w w') := by
 subst e1; subst e2; exact aDz A B c xs A2 B2 c2 ys w hs h2 hl
theorem jB (k : Nat) (xs : List Int) : (nX k xs).length = 3 := rfl
theorem aH7 {xs : List Int} {z : Int} : vF xs z = true ↔ z ∈ xs := by simp [vF, List.any_eq_true]
theorem aH8 {xs : List Int} {k : Nat} : ((k : Nat) : Int) ∈ zR xs ↔ k < nS xs.length ∧ pK xs k = true := by
 unfold zR xG
 rw [List.mem_map]
 constructor
 · rintro ⟨j, hj, e⟩
   have e2 : j = k := by omega
   subst e2
   have h := List.mem_filter.1 hj
   exact ⟨List.mem_range.1 h.1, h.2⟩
 · rintro ⟨h1, h2⟩
   exact ⟨k, List.mem_filter.2 ⟨List.mem_range.2 h1, h2⟩, rfl⟩
theorem aGu {xs : List Int} (h : vF (zR xs) 0 = false) : pK xs 0 = false := by
 cases hb : pK xs 0 with
 | false => rfl
 | true =>
   have h1 : ((0 : Nat) : Int) ∈ zR xs := aH8.2 ⟨aEl _, hb⟩
   have h2 := aH7.2 h1
   rw [show ((0 : Nat) : Int) = 0 from rfl, h] at h2; cases h2
theorem aEW {xs : List Int} (h : xs.length ≤ 1048576) : (zR xs).length ≤ 1048576 := by
 have h1 := aIB xs (nS xs.length)
 have h2 := aDu xs.length
 unfold zR; omega
def idV (p : List Int) : Int := p.getD 2 0 * 65536 + p.getD 3 0 * 256 + p.getD 4 0
def iU (xs : List Int) : Int × Int := if nU xs = true then (if vF (zR xs) 0 = true then (0, 7) else if (eH xs 0).length < 8 ∨ (eH xs 0).getD 0 0 ≠ 0 then (0, 6) else if idV (eH xs 0) = 0 then (0, 6) else (idV (eH xs 0), 0)) else (0, 2)
theorem iH {p : List Int} {k : Nat} {x : Int} (h : p[k]? = some x) : p.getD k 0 = x := by rw [List.getD_eq_getElem?_getD, h]; rfl
theorem uG {p : List Int} {k : Nat} {x : Int} (h8 : 8 ≤ p.length) (hk : k < 3) (h : p[2 + k]? = some x) : ((p.drop 2).take (p.length - 3 - 2))[k]? = some x := by
 rw [List.getElem?_take, if_pos (by omega), List.getElem?_drop]; exact h
theorem aBs (A : Option Addr) (B c : Nat) (xs : List Int) (w : World) (hs : Sl B w A (xs.flatMap eI)) (hl : xs.length ≤ 1024) (hb : ∀ x ∈ xs, 0 ≤ x ∧ x ≤ 255) (hc : xs.length ≤ c) (hn : Nexts B w (vA A xs)) :
   Calls Tryz.prog 84 #[.slice A xs.length c] w (fF fun v w' => ∃ A' c', v = .slice A' (zR xs).length c' ∧ Own w' w.heap.size 2 1 A' (zR xs).length c' ((zR xs).flatMap eI) ∧ Ext w w') := by
 have hnS := aDu xs.length
 have Bhs := hs.1
 have Bhn := hn.1
 have X := Q7r w
 refine bJ (args := [.slice A xs.length c]) Tryz.func84 Tryz.ntmps84 rfl rfl (aF (aA rfl (aE rfl (aB (aF (aA rfl (aO cQ dB rfl rfl rfl rfl rfl ?_)))))))
 intro gO w2 egO oO bbgO x1 zgO
 replace oO := Own.low oO X.size
 replace hs := hs.ext x1
 replace hn := hn.ext x1
 replace X := Q7x X x1; clear x1
 refine aA rfl (aE rfl (aB (aR (aF (aA rfl (aC rfl (aA rfl (aT aHk rfl (aP (vU A c xs _ (by omega) hc) ?_)))))))))
 rintro _ w4 ⟨AR, cR, rfl, oR, x3⟩
 replace oR := Own.low oR X.size
 replace hs := hs.ext x3
 replace hn := hn.ext x3
 replace oO := oO.ext x3
 replace X := Q7x X x3; clear x3
 refine aA rfl (bO Tryz.underlying107 rfl (aA rfl (aC rfl (aB (aX (dG (G := Nat × Nat × Option Addr × Nat) (fun ⟨k, n1, A1, c1⟩ => [(2, .slice none 0 0), (9, .slice AR (nS xs.length) cR), (10, .int .i64 ((nS xs.length) : Nat)), (3, .slice A1 n1 c1), (11, .int .i64 (k : Nat))]) (fun ⟨k, n1, A1, c1⟩ wr => k ≤ nS xs.length ∧ n1 ≤ k ∧ n1 = (xG xs k).length ∧ Own wr w.heap.size 2 1 A1 n1 c1 ((xG xs k).flatMap eI) ∧ Sl B wr A (xs.flatMap eI) ∧ Nexts B wr (vA A xs) ∧ Own wr w.heap.size 30 1 AR (nS xs.length) cR ((vA A xs).flatMap rQ) ∧ Ext w wr) (fun ⟨k, n1, A1, c1⟩ => nS xs.length - k) (0, 0, some ⟨gO, 0, none⟩, 0) (.cons rfl (.cons rfl (.cons rfl (.cons rfl (.cons rfl (.nil _)))))) ?_ ?_))))))
 · exact ⟨(Nat.zero_le _), (Nat.le_refl _), rfl, oO, hs, hn, oR, X⟩
 clear hs hn oO oR
 clear X
 rintro ⟨k, n1, A1, c1⟩ wr ⟨hk0, hnk, hn1, oO, hs, hn, oR, X⟩
 refine aF (aA rfl (cU rfl rfl (fun hk => ?_) (fun hk => ?_)))
 obtain ⟨pA, pc, hx, hpc⟩ := aAu A xs (k := k) (by omega)
 have hpl := jT xs k
 have hrl : (lL pA pc (eH xs k)).m.next.length = (eH xs k).length := rfl
 have hrc : (lL pA pc (eH xs k)).c = pc := rfl
 refine aB (aR (aQ rfl (aV (aS (aR (aX (aF (aA rfl (aC rfl (aA rfl (aU (oR).sl jH rfl sX rfl (aAt A xs).symm rfl hx rfl (aA rfl (bS (oR).sl jH hx mD rfl rfl rfl ?_)))))))))))))
 have hp : Sl B _ pA ((eH xs k).flatMap eI) := hn.at_ hx
 refine aA rfl (aE rfl (aA rfl (aE rfl (aB (aF (aA rfl (aC rfl (aA rfl (bO Tryz.underlying30 rfl (aA rfl (fZ rfl rfl (dM (by omega)) ?_)))))))))))
 by_cases hq : ((eH xs k).length : Int) - 3 < 2
 refine aA rfl (aE rfl (aB (tT (fun wz => Sl B wz pA ((eH xs k).flatMap eI)) mixed ?_)))
 obtain ⟨w5, ew5⟩ : ∃ wy, wy = World.drew wr := ⟨_, rfl⟩
 rw [← ew5]
 have xd : Ext wr w5 := ew5 ▸ Ext.drew wr
 replace oO := oO.ext xd
 replace hs := hs.ext xd
 replace hn := hn.ext xd
 replace oR := oR.ext xd
 replace hp := hp.ext xd
 replace X := Q7x X xd; clear xd ew5
 refine dH 0 rfl (by kernel_rfl) rfl (by kernel_rfl) (listed' := #[true, false, false, false, false, false, false, false, false, false, false, false, false, false]) rfl (fun wq sq => aC rfl ⟨rfl, rfl⟩) (dH 1 rfl (by kernel_rfl) rfl (by kernel_rfl) (listed' := #[true, true, false, false, false, false, false, false, false, false, false, false, false, false]) rfl (fun wq sq => aH4 rfl rfl hq ⟨rfl, rfl⟩) (dH 2 rfl (by kernel_rfl) rfl (by kernel_rfl) (listed' := #[true, true, true, false, false, false, false, false, false, false, false, false, false, false]) rfl (fun wq sq => aC rfl ⟨rfl, rfl⟩) (fQ 3 rfl (by kernel_rfl) rfl (by kernel_rfl) (listed' := #[true, true, true, true, false, false, false, false, false, false, false, false, false, false]) rfl rfl rfl rfl ?_)))
 refine fQ 4 rfl (by kernel_rfl) rfl (by kernel_rfl) (listed' := #[true, true, true, true, true, false, false, false, false, false, false, false, false, false]) rfl rfl rfl rfl (fQ 5 rfl (by kernel_rfl) rfl (by kernel_rfl) (listed' := #[true, true, true, true, true, true, false, false, false, false, false, false, false, false]) rfl rfl rfl rfl (fQ 6 rfl (by kernel_rfl) rfl (by kernel_rfl) (listed' := #[true, true, true, true, true, true, true, false, false, false, false, false, false, false]) rfl rfl rfl rfl (fQ 7 rfl (by kernel_rfl) rfl (by kernel_rfl) (listed' := #[true, true, true, true, true, true, true, true, false, false, false, false, false, false]) rfl rfl rfl rfl ?_)))
 refine fQ 8 rfl (by kernel_rfl) rfl (by kernel_rfl) (listed' := #[true, true, true, true, true, true, true, true, true, false, false, false, false, false]) rfl rfl rfl rfl (fQ 9 rfl (by kernel_rfl) rfl (by kernel_rfl) (listed' := #[true, true, true, true, true, true, true, true, true, true, false, false, false, false]) rfl rfl rfl rfl (fQ 10 rfl (by kernel_rfl) rfl (by kernel_rfl) (listed' := #[true, true, true, true, true, true, true, true, true, true, true, false, false, false]) rfl rfl rfl rfl (fQ 11 rfl (by kernel_rfl) rfl (by kernel_rfl) (listed' := #[true, true, true, true, true, true, true, true, true, true, true, true, false, false]) rfl rfl rfl rfl ?_)))
 refine fQ 12 rfl (by kernel_rfl) rfl (by kernel_rfl) (listed' := #[true, true, true, true, true, true, true, true, true, true, true, true, true, false]) rfl rfl rfl rfl (dH 13 rfl (by kernel_rfl) rfl (by kernel_rfl) (listed' := #[true, true, true, true, true, true, true, true, true, true, true, true, true, true]) rfl (fun wq sq => aK rfl rfl ⟨rfl, rfl⟩) (jE rfl hp (fun aj fj => ⟨_, fj, aQ rfl (aN ?_)⟩)))
 have hbk : pK xs k = true := vT (by omega)
 refine aA rfl (aC rfl (aA rfl (aC rfl (aA rfl (aO cQ dB rfl rfl rfl rfl rfl ?_)))))
 intro g6 w9 eg6 oV bbg6 x7 zg6
 replace oV := Own.low oV X.size
 replace oO := oO.ext x7
 replace hs := hs.ext x7
 replace hn := hn.ext x7
 replace oR := oR.ext x7
 replace hp := hp.ext x7
 replace X := Q7x X x7; clear x7
 refine aA rfl (cH (ts := #[]) oO X.size oV.sl rfl (dY [(k : Int)]) cQ dB rfl rfl rfl rfl (by omega) (by omega) ?_)
 intro AoN coN w11 oN hg10
 replace hs := hs.grown hg10 (fun g hg => Q7l Bhs (Own.lt oO hg).1)
 replace hn := hn.grown hg10 (fun g hg => Q7l Bhn (Own.lt oO hg).1)
 replace oR := oR.grown hg10 (Own.neO oR oO (by decide))
 replace hp := hp.grown hg10 (fun g hg => Q7l Bhs (Own.lt oO hg).1)
 replace X := X.grown hg10 X.size (fun g hg => (Own.lt oO hg).1)
 clear hg10
 refine aA rfl (aE rfl (aB (dO (aS (aN (aA rfl (aY rfl rfl (dM (by omega)) (aA rfl (aC rfl (aB (aS ⟨(k + 1, n1 + 1, AoN, coN), (.cons rfl (.cons rfl (.cons rfl (.cons rfl (.cons rfl (.nil _)))))), ?_, ?_⟩)))))))))))
 · exact ⟨(by omega), (by omega), (by rw [gJ, if_pos hbk]; simp [hn1]), (oN.to (by rw [gJ, if_pos hbk, List.flatMap_append]; rfl)), hs, hn, oR, X⟩
 · first | omega | (dsimp only; omega)
 refine aA rfl (aE rfl (aB (tT (fun wz => Sl B wz pA ((eH xs k).flatMap eI)) mixed ?_)))
 obtain ⟨w12, ew12⟩ : ∃ wy, wy = World.drew wr := ⟨_, rfl⟩
 rw [← ew12]
 have xd : Ext wr w12 := ew12 ▸ Ext.drew wr
 replace oO := oO.ext xd
 replace hs := hs.ext xd
 replace hn := hn.ext xd
 replace oR := oR.ext xd
 replace hp := hp.ext xd
 replace X := Q7x X xd; clear xd ew12
 refine dH 0 rfl (by kernel_rfl) rfl (by kernel_rfl) (listed' := #[true, false, false, false, false, false, false, false, false, false, false, false, false, false]) rfl (fun wq sq => aC rfl ⟨rfl, rfl⟩) (dH 1 rfl (by kernel_rfl) rfl (by kernel_rfl) (listed' := #[true, true, false, false, false, false, false, false, false, false, false, false, false, false]) rfl (fun wq sq => aH5 rfl rfl hq ⟨rfl, rfl⟩) (dH 2 rfl (by kernel_rfl) rfl (by kernel_rfl) (listed' := #[true, true, true, false, false, false, false, false, false, false, false, false, false, false]) rfl (fun wq sq => aC rfl ⟨rfl, rfl⟩) (gW 3 rfl (by kernel_rfl) rfl (by kernel_rfl) (listed' := #[true, true, true, true, false, false, false, false, false, false, false, false, false, false]) rfl rfl rfl (fun wq sq => aC rfl ⟨rfl, rfl⟩) ?_)))
 refine gW 4 rfl (by kernel_rfl) rfl (by kernel_rfl) (listed' := #[true, true, true, true, true, false, false, false, false, false, false, false, false, false]) rfl rfl rfl (fun wq sq => aC rfl ⟨rfl, rfl⟩) (gW 5 rfl (by kernel_rfl) rfl (by kernel_rfl) (listed' := #[true, true, true, true, true, true, false, false, false, false, false, false, false, false]) rfl rfl rfl (fun wq sq => aC rfl ⟨rfl, rfl⟩) (gW 6 rfl (by kernel_rfl) rfl (by kernel_rfl) (listed' := #[true, true, true, true, true, true, true, false, false, false, false, false, false, false]) rfl rfl rfl (fun wq sq => iL (h := (eH xs k).length - 3) cQ rfl rfl (by omega) (by omega) ⟨rfl, rfl⟩) ?_))
 refine gW 8 rfl (by kernel_rfl) rfl (by kernel_rfl) (listed' := #[true, true, true, true, true, true, true, false, true, false, false, false, false, false]) rfl rfl rfl (fun wq sq => aC rfl ⟨rfl, rfl⟩) (gW 9 rfl (by kernel_rfl) rfl (by kernel_rfl) (listed' := #[true, true, true, true, true, true, true, false, true, true, false, false, false, false]) rfl rfl rfl (fun wq sq => aC rfl ⟨rfl, rfl⟩) (gW 10 rfl (by kernel_rfl) rfl (by kernel_rfl) (listed' := #[true, true, true, true, true, true, true, false, true, true, true, false, false, false]) rfl rfl rfl (fun wq sq => wI (l := (eH xs k).length - 3) cQ rfl rfl (by omega) (by omega) ⟨rfl, rfl⟩) ?_))
 refine uY 7 rfl rfl (by kernel_rfl) (listed' := #[true, true, true, true, true, true, true, true, true, true, true, false, false, false]) rfl rfl rfl hp (aT aA1 rfl (aP (mN k _ _ _ _ ((eH xs k).take ((eH xs k).length - 3)) _ (hp.takeI _) (by rw [List.length_take]; omega) (by rw [List.length_take, jT]; omega) (aDN (kL hb k) _) (by omega)) ?_))
 rintro _ w14 ⟨AK, cK, rfl, oK, x13⟩
 replace oK := Own.low oK X.size
 replace oO := oO.ext x13
 replace hs := hs.ext x13
 replace hn := hn.ext x13
 replace oR := oR.ext x13
 replace hp := hp.ext x13
 replace X := Q7x X x13
 refine uY 11 rfl rfl (by kernel_rfl) (listed' := #[true, true, true, true, true, true, true, true, true, true, true, true, false, false]) rfl rfl rfl hp (cV aEt rfl (aCN _ _ _ _ (nX k ((eH xs k).take ((eH xs k).length - 3))) _ _ _ _ ((eH xs k).drop ((eH xs k).length - 3)) _ oK.sl (hp.dropX _ hpc) (by rw [jB]; omega) (jB _ _) (by rw [List.length_drop]; rfl)) (fun w16 he x15 => ?_) (fun w16 he x15 => ?_))
 replace oO := oO.ext x15
 replace hs := hs.ext x15
 replace hn := hn.ext x15
 replace oR := oR.ext x15
 replace hp := hp.ext x15
 replace oK := oK.ext x15
 replace X := Q7x X x15
 refine gW 12 rfl (by kernel_rfl) rfl (by kernel_rfl) (listed' := #[true, true, true, true, true, true, true, true, true, true, true, true, true, false]) rfl rfl rfl (fun wq sq => bP rfl ⟨rfl, rfl⟩) (dH 13 rfl (by kernel_rfl) rfl (by kernel_rfl) (listed' := #[true, true, true, true, true, true, true, true, true, true, true, true, true, true]) rfl (fun wq sq => aK rfl rfl ⟨rfl, rfl⟩) (jE rfl hp (fun aj fj => ⟨_, fj, aM rfl (aV (dO (aS (aN ?_))))⟩)))
 have hbk : pK xs k = false := by rw [pM (by omega), he]; rfl
 refine aA rfl (aY rfl rfl (dM (by omega)) (aA rfl (aC rfl (aB (aS ⟨(k + 1, n1, A1, c1), (.cons rfl (.cons rfl (.cons rfl (.cons rfl (.cons rfl (.nil _)))))), ?_, ?_⟩)))))
 · exact ⟨(by omega), (by omega), (by rw [gJ, if_neg (by rw [hbk]; decide)]; exact hn1), (oO.to (by rw [gJ, if_neg (by rw [hbk]; decide)])), hs, hn, oR, X⟩
 · first | omega | (dsimp only; omega)
 replace oO := oO.ext x15
 replace hs := hs.ext x15
 replace hn := hn.ext x15
 replace oR := oR.ext x15
 replace hp := hp.ext x15
 replace oK := oK.ext x15
 replace X := Q7x X x15
 refine gW 12 rfl (by kernel_rfl) rfl (by kernel_rfl) (listed' := #[true, true, true, true, true, true, true, true, true, true, true, true, true, false]) rfl rfl rfl (fun wq sq => bP rfl ⟨rfl, rfl⟩) (dH 13 rfl (by kernel_rfl) rfl (by kernel_rfl) (listed' := #[true, true, true, true, true, true, true, true, true, true, true, true, true, true]) rfl (fun wq sq => aK rfl rfl ⟨rfl, rfl⟩) (jE rfl hp (fun aj fj => ⟨_, fj, aQ rfl (aN ?_)⟩)))
 have hbk : pK xs k = true := by rw [pM (by omega), he]; rfl
 refine aA rfl (aC rfl (aA rfl (aC rfl (aA rfl (aO cQ dB rfl rfl rfl rfl rfl ?_)))))
 intro g17 w19 eg17 oV bbg17 x18 zg17
 replace oV := Own.low oV X.size
 replace oO := oO.ext x18
 replace hs := hs.ext x18
 replace hn := hn.ext x18
 replace oR := oR.ext x18
 replace hp := hp.ext x18
 replace X := Q7x X x18
 refine aA rfl (cH (ts := #[]) oO X.size oV.sl rfl (dY [(k : Int)]) cQ dB rfl rfl rfl rfl (by omega) (by omega) ?_)
 intro AoN coN w21 oN hg20
 replace hs := hs.grown hg20 (fun g hg => Q7l Bhs (Own.lt oO hg).1)
 replace hn := hn.grown hg20 (fun g hg => Q7l Bhn (Own.lt oO hg).1)
 replace oR := oR.grown hg20 (Own.neO oR oO (by decide))
 replace hp := hp.grown hg20 (fun g hg => Q7l Bhs (Own.lt oO hg).1)
 replace X := X.grown hg20 X.size (fun g hg => (Own.lt oO hg).1)
 clear hg20
 refine aA rfl (aE rfl (aB (dO (aS (aN (aA rfl (aY rfl rfl (dM (by omega)) (aA rfl (aC rfl (aB (aS ⟨(k + 1, n1 + 1, AoN, coN), (.cons rfl (.cons rfl (.cons rfl (.cons rfl (.cons rfl (.nil _)))))), ?_, ?_⟩)))))))))))
 · exact ⟨(by omega), (by omega), (by rw [gJ, if_pos hbk]; simp [hn1]), (oN.to (by rw [gJ, if_pos hbk, List.flatMap_append]; rfl)), hs, hn, oR, X⟩
 · first | omega | (dsimp only; omega)
 refine aB (aR (aM rfl (dD (dC (dC (eG (aS (aF (aA rfl (aC rfl (aA rfl (aE rfl (aB (aW (aL rfl rfl ?_)))))))))))))))
 · skip
   have hkE : k = nS xs.length := by omega
   rw [hkE] at oO hn1
   unfold zR
   rw [← hn1]; exact ⟨A1, c1, rfl, oO, X⟩
theorem wO (A : Option Addr) (B c : Nat) (xs : List Int) (w : World) (hs : Sl B w A (xs.flatMap eI)) (hl : xs.length ≤ 1024) (hb : ∀ x ∈ xs, 0 ≤ x ∧ x ≤ 255) (hc : xs.length ≤ c) :
   Calls Tryz.prog 100 #[.slice A xs.length c] w (fF fun v w' => ∃ A' c', v = .slice A' (zR xs).length c' ∧ Own w' w.heap.size 2 1 A' (zR xs).length c' ((zR xs).flatMap eI) ∧ Ext w w') := by
 have hnS := aDu xs.length
 have Bhs := hs.1
 have X := Q7r w
 refine bJ (args := [.slice A xs.length c]) Tryz.func100 Tryz.ntmps100 rfl rfl (aF (aA rfl (aE rfl (aB (aF (aA rfl (aO cQ dB rfl rfl rfl rfl rfl ?_)))))))
 intro gO w2 egO oO bbgO x1 zgO
 replace oO := Own.low oO X.size
 replace hs := hs.ext x1
 replace X := Q7x X x1; clear x1
 refine aA rfl (aE rfl (aB (aR (aF (aA rfl (aE rfl (aB (aX (dG (G := Nat × Nat × Option Addr × Nat) (fun ⟨k, n1, A1, c1⟩ => [(0, .slice A xs.length c), (2, .slice none 0 0), (3, .slice A1 n1 c1), (4, .int .i64 (k : Nat))]) (fun ⟨k, n1, A1, c1⟩ wr => k ≤ nS xs.length ∧ n1 ≤ k ∧ n1 = (xG xs k).length ∧ Own wr w.heap.size 2 1 A1 n1 c1 ((xG xs k).flatMap eI) ∧ Sl B wr A (xs.flatMap eI) ∧ Ext w wr) (fun ⟨k, n1, A1, c1⟩ => nS xs.length - k) (0, 0, some ⟨gO, 0, none⟩, 0) (.cons rfl (.cons rfl (.cons rfl (.cons rfl (.nil _))))) ?_ ?_)))))))))
 · exact ⟨(Nat.zero_le _), (Nat.le_refl _), rfl, oO, hs, X⟩
 clear hs oO
 clear X
 rintro ⟨k, n1, A1, c1⟩ wr ⟨hk0, hnk, hn1, oO, hs, X⟩
 refine aR (aF (aA rfl (aC rfl (aA rfl (dP rfl rfl (fun h0 => ?_) (fun h0 => ?_))))))
 have hkS := (aDt (n := xs.length) (k := k)).2 (.inl (by omega))
 refine aA rfl (aC rfl (aH rfl rfl rfl rfl (aH rfl rfl rfl rfl (aH rfl rfl rfl rfl (aH rfl rfl rfl rfl (aH rfl rfl rfl rfl (aA rfl (aK rfl rfl (aB (aQ rfl (aV (aS (aR (aX (aF (aA rfl (aC rfl (aA rfl (aC rfl (aA rfl (aT aCu rfl (aP (rW A B c xs k _ hs (by omega) hc (by omega)) ?_))))))))))))))))))))))
 rintro _ wS ⟨pA, pc, rfl, hpc, hp, xS⟩
 replace hs := hs.ext xS
 replace oO := oO.ext xS
 replace X := Q7x X xS; clear xS
 have hpl := jT xs k
 refine aA rfl (aE rfl (aB (aF (aA rfl (aC rfl (aA rfl (bO Tryz.underlying30 rfl (aA rfl (fZ rfl rfl (dM (by omega)) (aA rfl (aE rfl (aB (eK [false, false, false, false, false, false, false, false, false, false, false, false, false, false, false, false, false, false, false, false, false, false, false, false, false, false, false, false] mixed (by kernel_rfl) (cO rfl (fun wq sq => aC rfl ⟨rfl, Q7r _⟩) (uZ rfl (fun wq sq => tF rfl rfl ⟨rfl, Q7r _⟩) (fun hq => ?_) (fun hq => ?_))))))))))))))))
 refine cO rfl (fun wq sq => aC rfl ⟨rfl, Q7r _⟩) (dK rfl rfl rfl rfl (dK rfl rfl rfl rfl (dK rfl rfl rfl rfl (dK rfl rfl rfl rfl (dK rfl rfl rfl rfl (dK rfl rfl rfl rfl (dK rfl rfl rfl rfl (dK rfl rfl rfl rfl (dK rfl rfl rfl rfl (dK rfl rfl rfl rfl (dK rfl rfl rfl rfl (dK rfl rfl rfl rfl (dK rfl rfl rfl rfl (dK rfl rfl rfl rfl (dK rfl rfl rfl rfl (dK rfl rfl rfl rfl (dK rfl rfl rfl rfl (dK rfl rfl rfl rfl (dK rfl rfl rfl rfl (dK rfl rfl rfl rfl (dK rfl rfl rfl rfl (dK rfl rfl rfl rfl (dK rfl rfl rfl rfl (dK rfl rfl rfl rfl (cO rfl (fun wq sq => aK rfl rfl ⟨rfl, Q7r _⟩) (dX (fun w3 sq => ?_)))))))))))))))))))))))))))
 have xq := sq
 replace oO := oO.ext xq
 replace hs := hs.ext xq
 replace hp := hp.ext xq
 replace X := Q7x X xq; clear xq sq
 refine aB (aQ rfl (aN ?_))
 have hbk : pK xs k = true := vT (by omega)
 refine aA rfl (aC rfl (aA rfl (aC rfl (aA rfl (aO cQ dB rfl rfl rfl rfl rfl ?_)))))
 intro g4 w6 eg4 oV bbg4 x5 zg4
 replace oV := Own.low oV X.size
 replace oO := oO.ext x5
 replace hs := hs.ext x5
 replace hp := hp.ext x5
 replace X := Q7x X x5; clear x5
 refine aA rfl (cH (ts := #[]) oO X.size oV.sl rfl (dY [(k : Int)]) cQ dB rfl rfl rfl rfl (by omega) (by omega) ?_)
 intro AoN coN w9 oN hg7
 replace hs := hs.grown hg7 (fun g hg => Q7l Bhs (Own.lt oO hg).1)
 replace hp := hp.grown hg7 (fun g hg => Q7l Bhs (Own.lt oO hg).1)
 replace X := X.grown hg7 X.size (fun g hg => (Own.lt oO hg).1)
 clear hg7
 refine aA rfl (aE rfl (aB (dO (aS (aN (aA rfl (aC rfl (aA rfl (aY rfl rfl (dM (by omega)) (aA rfl (aE rfl (aB (aS ⟨(k + 1, n1 + 1, AoN, coN), (.cons rfl (.cons rfl (.cons rfl (.cons rfl (.nil _))))), ?_, ?_⟩)))))))))))))
 · exact ⟨(by omega), (by omega), (by rw [gJ, if_pos hbk]; simp [hn1]), (oN.to (by rw [gJ, if_pos hbk, List.flatMap_append]; rfl)), hs, X⟩
 · first | omega | (dsimp only; omega)
 obtain ⟨b0, hb0, _⟩ := eL (xs := (eH xs k)) (k := (eH xs k).length - 3) (by omega)
 obtain ⟨b1, hb1, _⟩ := eL (xs := (eH xs k)) (k := (eH xs k).length - 2) (by omega)
 obtain ⟨b2, hb2, _⟩ := eL (xs := (eH xs k)) (k := (eH xs k).length - 1) (by omega)
 have hr0 := kL hb k b0 (List.mem_of_getElem? hb0)
 have hr1 := kL hb k b1 (List.mem_of_getElem? hb1)
 have hr2 := kL hb k b2 (List.mem_of_getElem? hb2)
 have hd3 := aIP (l := (eH xs k)) (by omega) hb0 hb1 hb2
 have hck := nP (k := k) ((eH xs k).take ((eH xs k).length - 3)) (by omega)
 refine cO rfl (fun wq sq => aC rfl ⟨rfl, Q7r _⟩) (dQ rfl rfl rfl (fun wq sq => aC rfl ⟨rfl, Q7r _⟩) (dQ rfl rfl rfl (fun wq sq => aC rfl ⟨rfl, Q7r _⟩) (dQ rfl rfl rfl (fun wq sq => aC rfl ⟨rfl, Q7r _⟩) (dQ rfl rfl rfl (fun wq sq => iL (h := (eH xs k).length - 3) cQ rfl rfl (by omega) (by omega) ⟨rfl, Q7r _⟩) (dQ rfl rfl rfl (fun wq sq => aT uB rfl (kR k _ _ _ _ ((eH xs k).take ((eH xs k).length - 3)) _ ((hp.ext sq).takeI _) (by rw [List.length_take]; omega) (by rw [List.length_take, jT]; omega) (aDN (kL hb k) _) (by omega))) (dQ rfl rfl rfl (fun wq sq => aC rfl ⟨rfl, Q7r _⟩) (dQ rfl rfl rfl (fun wq sq => aC rfl ⟨rfl, Q7r _⟩) ?_)))))))
 refine dQ rfl rfl rfl (fun wq sq => aU (hp.ext sq) bI rfl cQ rfl rfl rfl hb0 (by omega) ⟨rfl, Q7r _⟩) (dQ rfl rfl rfl (fun wq sq => bS (hp.ext sq) bI hb0 dB rfl rfl rfl ⟨rfl, Q7r _⟩) (dQ rfl rfl rfl (fun wq sq => fO rfl rfl (dM (by omega)) ⟨rfl, Q7r _⟩) (dQ rfl rfl rfl (fun wq sq => aC rfl ⟨rfl, Q7r _⟩) (dQ rfl rfl rfl (fun wq sq => aC rfl ⟨rfl, Q7r _⟩) (dQ rfl rfl rfl (fun wq sq => aY rfl rfl (dM (by omega)) ⟨rfl, Q7r _⟩) (dQ rfl rfl rfl (fun wq sq => aU (hp.ext sq) bI rfl cQ rfl rfl rfl hb1 (by omega) ⟨rfl, Q7r _⟩) (dQ rfl rfl rfl (fun wq sq => bS (hp.ext sq) bI hb1 dB rfl rfl rfl ⟨rfl, Q7r _⟩) ?_)))))))
 refine dQ rfl rfl rfl (fun wq sq => fO rfl rfl (dM (by omega)) ⟨rfl, Q7r _⟩) (dQ rfl rfl rfl (fun wq sq => aY rfl rfl (dM (by omega)) ⟨rfl, Q7r _⟩) (dQ rfl rfl rfl (fun wq sq => aC rfl ⟨rfl, Q7r _⟩) (dQ rfl rfl rfl (fun wq sq => aC rfl ⟨rfl, Q7r _⟩) (dQ rfl rfl rfl (fun wq sq => aY rfl rfl (dM (by omega)) ⟨rfl, Q7r _⟩) (dQ rfl rfl rfl (fun wq sq => aU (hp.ext sq) bI rfl cQ rfl rfl rfl hb2 (by omega) ⟨rfl, Q7r _⟩) (dQ rfl rfl rfl (fun wq sq => bS (hp.ext sq) bI hb2 dB rfl rfl rfl ⟨rfl, Q7r _⟩) (dQ rfl rfl rfl (fun wq sq => aY rfl rfl (dM (by omega)) ⟨rfl, Q7r _⟩) (qN rfl rfl rfl (fun wq sq => nE rfl rfl ⟨rfl, Q7r _⟩) (fun hne => ?_) (fun hne => ?_)))))))))
 refine cO rfl (fun wq sq => aK rfl rfl ⟨rfl, Q7r _⟩) (dX (fun w10 sq => ?_))
 have xq := sq
 replace oO := oO.ext xq
 replace hs := hs.ext xq
 replace hp := hp.ext xq
 replace X := Q7x X xq; clear xq sq
 refine aB (aQ rfl (aN ?_))
 have hbk : pK xs k = true := by rw [pM (by omega), hd3, decide_eq_false (p := nX k ((eH xs k).take ((eH xs k).length - 3)) = [b0, b1, b2]) (fun e => hne ((aCq hck hr0 hr1 hr2).1 e))]; rfl
 refine aA rfl (aC rfl (aA rfl (aC rfl (aA rfl (aO cQ dB rfl rfl rfl rfl rfl ?_)))))
 intro g11 w13 eg11 oV bbg11 x12 zg11
 replace oV := Own.low oV X.size
 replace oO := oO.ext x12
 replace hs := hs.ext x12
 replace hp := hp.ext x12
 replace X := Q7x X x12
 refine aA rfl (cH (ts := #[]) oO X.size oV.sl rfl (dY [(k : Int)]) cQ dB rfl rfl rfl rfl (by omega) (by omega) ?_)
 intro AoN coN w15 oN hg14
 replace hs := hs.grown hg14 (fun g hg => Q7l Bhs (Own.lt oO hg).1)
 replace hp := hp.grown hg14 (fun g hg => Q7l Bhs (Own.lt oO hg).1)
 replace X := X.grown hg14 X.size (fun g hg => (Own.lt oO hg).1)
 clear hg14
 refine aA rfl (aE rfl (aB (dO (aS (aN (aA rfl (aC rfl (aA rfl (aY rfl rfl (dM (by omega)) (aA rfl (aE rfl (aB (aS ⟨(k + 1, n1 + 1, AoN, coN), (.cons rfl (.cons rfl (.cons rfl (.cons rfl (.nil _))))), ?_, ?_⟩)))))))))))))
 · exact ⟨(by omega), (by omega), (by rw [gJ, if_pos hbk]; simp [hn1]), (oN.to (by rw [gJ, if_pos hbk, List.flatMap_append]; rfl)), hs, X⟩
 · first | omega | (dsimp only; omega)
 refine cO rfl (fun wq sq => aK rfl rfl ⟨rfl, Q7r _⟩) (dX (fun w16 sq => ?_))
 have xq := sq
 replace oO := oO.ext xq
 replace hs := hs.ext xq
 replace hp := hp.ext xq
 replace X := Q7x X xq; clear xq sq
 refine aB (aM rfl (aV (dO (aS (aN ?_)))))
 have hbk : pK xs k = false := by rw [pM (by omega), hd3, decide_eq_true (p := nX k ((eH xs k).take ((eH xs k).length - 3)) = [b0, b1, b2]) ((aCq hck hr0 hr1 hr2).2 (by omega))]; rfl
 refine aA rfl (aC rfl (aA rfl (aY rfl rfl (dM (by omega)) (aA rfl (aE rfl (aB (aS ⟨(k + 1, n1, A1, c1), (.cons rfl (.cons rfl (.cons rfl (.cons rfl (.nil _))))), ?_, ?_⟩)))))))
 · exact ⟨(by omega), (by omega), (by rw [gJ, if_neg (by rw [hbk]; decide)]; exact hn1), (oO.to (by rw [gJ, if_neg (by rw [hbk]; decide)])), hs, X⟩
 · first | omega | (dsimp only; omega)
 refine aA rfl (aC rfl (aI rfl rfl rfl (aC rfl (aI rfl rfl rfl (fO rfl rfl (show IntKind.i64.wrap _ = ((33 * k : Nat) : Int) from (dM (by omega)).trans (by omega)) (aI rfl rfl rfl (aC rfl (aI rfl rfl rfl (bO Tryz.underlying30 rfl (aI rfl rfl rfl (cU rfl rfl (fun hk => ?_) (fun hk => ?_))))))))))))
 have hkS := (aDt (n := xs.length) (k := k)).2 (.inr (by omega))
 refine aA rfl (aK rfl rfl (aB (aQ rfl (aV (aS (aR (aX (aF (aA rfl (aC rfl (aA rfl (aC rfl (aA rfl (aT aCu rfl (aP (rW A B c xs k _ hs (by omega) hc (by omega)) ?_)))))))))))))))
 rintro _ wS ⟨pA, pc, rfl, hpc, hp, xS⟩
 replace hs := hs.ext xS
 replace oO := oO.ext xS
 replace X := Q7x X xS; clear xS
 have hpl := jT xs k
 refine aA rfl (aE rfl (aB (aF (aA rfl (aC rfl (aA rfl (bO Tryz.underlying30 rfl (aA rfl (fZ rfl rfl (dM (by omega)) (aA rfl (aE rfl (aB (eK [false, false, false, false, false, false, false, false, false, false, false, false, false, false, false, false, false, false, false, false, false, false, false, false, false, false, false, false] mixed (by kernel_rfl) (cO rfl (fun wq sq => aC rfl ⟨rfl, Q7r _⟩) (uZ rfl (fun wq sq => tF rfl rfl ⟨rfl, Q7r _⟩) (fun hq => ?_) (fun hq => ?_))))))))))))))))
 refine cO rfl (fun wq sq => aC rfl ⟨rfl, Q7r _⟩) (dK rfl rfl rfl rfl (dK rfl rfl rfl rfl (dK rfl rfl rfl rfl (dK rfl rfl rfl rfl (dK rfl rfl rfl rfl (dK rfl rfl rfl rfl (dK rfl rfl rfl rfl (dK rfl rfl rfl rfl (dK rfl rfl rfl rfl (dK rfl rfl rfl rfl (dK rfl rfl rfl rfl (dK rfl rfl rfl rfl (dK rfl rfl rfl rfl (dK rfl rfl rfl rfl (dK rfl rfl rfl rfl (dK rfl rfl rfl rfl (dK rfl rfl rfl rfl (dK rfl rfl rfl rfl (dK rfl rfl rfl rfl (dK rfl rfl rfl rfl (dK rfl rfl rfl rfl (dK rfl rfl rfl rfl (dK rfl rfl rfl rfl (dK rfl rfl rfl rfl (cO rfl (fun wq sq => aK rfl rfl ⟨rfl, Q7r _⟩) (dX (fun w17 sq => ?_)))))))))))))))))))))))))))
 have xq := sq
 replace oO := oO.ext xq
 replace hs := hs.ext xq
 replace hp := hp.ext xq
 replace X := Q7x X xq; clear xq sq
 refine aB (aQ rfl (aN ?_))
 have hbk : pK xs k = true := vT (by omega)
 refine aA rfl (aC rfl (aA rfl (aC rfl (aA rfl (aO cQ dB rfl rfl rfl rfl rfl ?_)))))
 intro g18 w20 eg18 oV bbg18 x19 zg18
 replace oV := Own.low oV X.size
 replace oO := oO.ext x19
 replace hs := hs.ext x19
 replace hp := hp.ext x19
 replace X := Q7x X x19
 refine aA rfl (cH (ts := #[]) oO X.size oV.sl rfl (dY [(k : Int)]) cQ dB rfl rfl rfl rfl (by omega) (by omega) ?_)
 intro AoN coN w22 oN hg21
 replace hs := hs.grown hg21 (fun g hg => Q7l Bhs (Own.lt oO hg).1)
 replace hp := hp.grown hg21 (fun g hg => Q7l Bhs (Own.lt oO hg).1)
 replace X := X.grown hg21 X.size (fun g hg => (Own.lt oO hg).1)
 clear hg21
 refine aA rfl (aE rfl (aB (dO (aS (aN (aA rfl (aC rfl (aA rfl (aY rfl rfl (dM (by omega)) (aA rfl (aE rfl (aB (aS ⟨(k + 1, n1 + 1, AoN, coN), (.cons rfl (.cons rfl (.cons rfl (.cons rfl (.nil _))))), ?_, ?_⟩)))))))))))))
 · exact ⟨(by omega), (by omega), (by rw [gJ, if_pos hbk]; simp [hn1]), (oN.to (by rw [gJ, if_pos hbk, List.flatMap_append]; rfl)), hs, X⟩
 · first | omega | (dsimp only; omega)
 obtain ⟨b0, hb0, _⟩ := eL (xs := (eH xs k)) (k := (eH xs k).length - 3) (by omega)
 obtain ⟨b1, hb1, _⟩ := eL (xs := (eH xs k)) (k := (eH xs k).length - 2) (by omega)
 obtain ⟨b2, hb2, _⟩ := eL (xs := (eH xs k)) (k := (eH xs k).length - 1) (by omega)
 have hr0 := kL hb k b0 (List.mem_of_getElem? hb0)
 have hr1 := kL hb k b1 (List.mem_of_getElem? hb1)
 have hr2 := kL hb k b2 (List.mem_of_getElem? hb2)
 have hd3 := aIP (l := (eH xs k)) (by omega) hb0 hb1 hb2
 have hck := nP (k := k) ((eH xs k).take ((eH xs k).length - 3)) (by omega)
 refine cO rfl (fun wq sq => aC rfl ⟨rfl, Q7r _⟩) (dQ rfl rfl rfl (fun wq sq => aC rfl ⟨rfl, Q7r _⟩) (dQ rfl rfl rfl (fun wq sq => aC rfl ⟨rfl, Q7r _⟩) (dQ rfl rfl rfl (fun wq sq => aC rfl ⟨rfl, Q7r _⟩) (dQ rfl rfl rfl (fun wq sq => iL (h := (eH xs k).length - 3) cQ rfl rfl (by omega) (by omega) ⟨rfl, Q7r _⟩) (dQ rfl rfl rfl (fun wq sq => aT uB rfl (kR k _ _ _ _ ((eH xs k).take ((eH xs k).length - 3)) _ ((hp.ext sq).takeI _) (by rw [List.length_take]; omega) (by rw [List.length_take, jT]; omega) (aDN (kL hb k) _) (by omega))) (dQ rfl rfl rfl (fun wq sq => aC rfl ⟨rfl, Q7r _⟩) (dQ rfl rfl rfl (fun wq sq => aC rfl ⟨rfl, Q7r _⟩) ?_)))))))
 refine dQ rfl rfl rfl (fun wq sq => aU (hp.ext sq) bI rfl cQ rfl rfl rfl hb0 (by omega) ⟨rfl, Q7r _⟩) (dQ rfl rfl rfl (fun wq sq => bS (hp.ext sq) bI hb0 dB rfl rfl rfl ⟨rfl, Q7r _⟩) (dQ rfl rfl rfl (fun wq sq => fO rfl rfl (dM (by omega)) ⟨rfl, Q7r _⟩) (dQ rfl rfl rfl (fun wq sq => aC rfl ⟨rfl, Q7r _⟩) (dQ rfl rfl rfl (fun wq sq => aC rfl ⟨rfl, Q7r _⟩) (dQ rfl rfl rfl (fun wq sq => aY rfl rfl (dM (by omega)) ⟨rfl, Q7r _⟩) (dQ rfl rfl rfl (fun wq sq => aU (hp.ext sq) bI rfl cQ rfl rfl rfl hb1 (by omega) ⟨rfl, Q7r _⟩) (dQ rfl rfl rfl (fun wq sq => bS (hp.ext sq) bI hb1 dB rfl rfl rfl ⟨rfl, Q7r _⟩) ?_)))))))
 refine dQ rfl rfl rfl (fun wq sq => fO rfl rfl (dM (by omega)) ⟨rfl, Q7r _⟩) (dQ rfl rfl rfl (fun wq sq => aY rfl rfl (dM (by omega)) ⟨rfl, Q7r _⟩) (dQ rfl rfl rfl (fun wq sq => aC rfl ⟨rfl, Q7r _⟩) (dQ rfl rfl rfl (fun wq sq => aC rfl ⟨rfl, Q7r _⟩) (dQ rfl rfl rfl (fun wq sq => aY rfl rfl (dM (by omega)) ⟨rfl, Q7r _⟩) (dQ rfl rfl rfl (fun wq sq => aU (hp.ext sq) bI rfl cQ rfl rfl rfl hb2 (by omega) ⟨rfl, Q7r _⟩) (dQ rfl rfl rfl (fun wq sq => bS (hp.ext sq) bI hb2 dB rfl rfl rfl ⟨rfl, Q7r _⟩) (dQ rfl rfl rfl (fun wq sq => aY rfl rfl (dM (by omega)) ⟨rfl, Q7r _⟩) (qN rfl rfl rfl (fun wq sq => nE rfl rfl ⟨rfl, Q7r _⟩) (fun hne => ?_) (fun hne => ?_)))))))))
 refine cO rfl (fun wq sq => aK rfl rfl ⟨rfl, Q7r _⟩) (dX (fun w23 sq => ?_))
 have xq := sq
 replace oO := oO.ext xq
 replace hs := hs.ext xq
 replace hp := hp.ext xq
 replace X := Q7x X xq; clear xq sq
 refine aB (aQ rfl (aN ?_))
 have hbk : pK xs k = true := by rw [pM (by omega), hd3, decide_eq_false (p := nX k ((eH xs k).take ((eH xs k).length - 3)) = [b0, b1, b2]) (fun e => hne ((aCq hck hr0 hr1 hr2).1 e))]; rfl
 refine aA rfl (aC rfl (aA rfl (aC rfl (aA rfl (aO cQ dB rfl rfl rfl rfl rfl ?_)))))
 intro g24 w26 eg24 oV bbg24 x25 zg24
 replace oV := Own.low oV X.size
 replace oO := oO.ext x25
 replace hs := hs.ext x25
 replace hp := hp.ext x25
 replace X := Q7x X x25
 refine aA rfl (cH (ts := #[]) oO X.size oV.sl rfl (dY [(k : Int)]) cQ dB rfl rfl rfl rfl (by omega) (by omega) ?_)
 intro AoN coN w28 oN hg27
 replace hs := hs.grown hg27 (fun g hg => Q7l Bhs (Own.lt oO hg).1)
 replace hp := hp.grown hg27 (fun g hg => Q7l Bhs (Own.lt oO hg).1)
 replace X := X.grown hg27 X.size (fun g hg => (Own.lt oO hg).1)
 clear hg27
 refine aA rfl (aE rfl (aB (dO (aS (aN (aA rfl (aC rfl (aA rfl (aY rfl rfl (dM (by omega)) (aA rfl (aE rfl (aB (aS ⟨(k + 1, n1 + 1, AoN, coN), (.cons rfl (.cons rfl (.cons rfl (.cons rfl (.nil _))))), ?_, ?_⟩)))))))))))))
 · exact ⟨(by omega), (by omega), (by rw [gJ, if_pos hbk]; simp [hn1]), (oN.to (by rw [gJ, if_pos hbk, List.flatMap_append]; rfl)), hs, X⟩
 · first | omega | (dsimp only; omega)
 refine cO rfl (fun wq sq => aK rfl rfl ⟨rfl, Q7r _⟩) (dX (fun w29 sq => ?_))
 have xq := sq
 replace oO := oO.ext xq
 replace hs := hs.ext xq
 replace hp := hp.ext xq
 replace X := Q7x X xq; clear xq sq
 refine aB (aM rfl (aV (dO (aS (aN ?_)))))
 have hbk : pK xs k = false := by rw [pM (by omega), hd3, decide_eq_true (p := nX k ((eH xs k).take ((eH xs k).length - 3)) = [b0, b1, b2]) ((aCq hck hr0 hr1 hr2).2 (by omega))]; rfl
 refine aA rfl (aC rfl (aA rfl (aY rfl rfl (dM (by omega)) (aA rfl (aE rfl (aB (aS ⟨(k + 1, n1, A1, c1), (.cons rfl (.cons rfl (.cons rfl (.cons rfl (.nil _))))), ?_, ?_⟩)))))))
 · exact ⟨(by omega), (by omega), (by rw [gJ, if_neg (by rw [hbk]; decide)]; exact hn1), (oO.to (by rw [gJ, if_neg (by rw [hbk]; decide)])), hs, X⟩
 · first | omega | (dsimp only; omega)
 have hkN : ¬ k < nS xs.length := fun h => by have := (aDt (n := xs.length)).1 h; omega
 refine aA rfl (aK rfl rfl (aB (aM rfl (dD (dC (dC (eG (aS (aF (aA rfl (aC rfl (aA rfl (aE rfl (aB (aW (aL rfl rfl ?_))))))))))))))))
 · skip
   have hkE : k = nS xs.length := by omega
   rw [hkE] at oO hn1
   unfold zR
   rw [← hn1]; exact ⟨A1, c1, rfl, oO, X⟩
end Go.Proofs.YtdoibplhbdkapaaGreatDoor
