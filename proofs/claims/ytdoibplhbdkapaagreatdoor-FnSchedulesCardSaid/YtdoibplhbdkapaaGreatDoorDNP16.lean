/- Parts. No condition. -/
import Derived.Test.YtdoibplhbdkapaaGreatDoorDNP15
import Derived.Test.YtdoibplhbdkapaaGreatDoorDNP4
import Derived.Test.YtdoibplhbdkapaaGreatDoorDNP14
namespace Go.Proofs.YtdoibplhbdkapaaGreatDoor
open Go.RowKit
set_option linter.unusedVariables false
set_option linter.unusedSimpArgs false
set_option maxRecDepth 20000
theorem aIp {W W' : World} {g : Nat} {t : TypeId} {cs : List Value} {row : Option Nat} (h : Blk W g t cs) (hrow : ∀ r, row = some r → ∃ o : Obj, W.heap[r]? = some o ∧ o.isCells = false) : some g ≠ row := fun e => by
 obtain ⟨o, ho, hc⟩ := hrow g e.symm
 rw [show W.heap[g]? = _ from h] at ho
 cases ho; cases hc
theorem aFP {W : World} {lo n c s : Nat} {t : TypeId} {A : Option Addr} {cs : List Value} {row : Option Nat} (h : Own W lo t s A n c cs) (hrow : ∀ r, row = some r → ∃ o : Obj, W.heap[r]? = some o ∧ o.isCells = false) : ∀ g, row = some g → (Value.slice A n c).ownBlock ≠ some g := fun g e e2 => by
 obtain ⟨o, ho, hc⟩ := hrow g e
 rcases h.2 with ⟨h1, _⟩ | ⟨g', cap, cur, h1, _, hg, _⟩
 · rw [h1] at e2; cases e2
 · rw [h1] at e2
   have e3 : g' = g := by simpa [Value.ownBlock] using e2
   subst e3
   rw [hg] at ho; cases ho; cases hc
theorem aEN {W : World} {lo n c s : Nat} {t : TypeId} {A : Option Addr} {cs : List Value} (h : Own W lo t s A n c cs) : ∀ (j : Nat) (o : Obj), (Value.slice A n c).ownBlock = some j → W.heap[j]? = some o → o.isCells = true := fun j o e2 ho => by
 rcases h.2 with ⟨h1, _⟩ | ⟨g', cap, cur, h1, _, hg, _⟩
 · rw [h1] at e2; cases e2
 · rw [h1] at e2
   have e3 : g' = j := by simpa [Value.ownBlock] using e2
   subst e3
   rw [hg] at ho; cases ho; rfl
def aIq (n0 gb : Nat) (w : World) (s : List ModeI) (W : World) : Prop := (∃ A c, Blk W gb 107 [.slice A s.length c] ∧ Own W n0 30 1 A s.length c (s.flatMap pP)) ∧ Below n0 w W
theorem aEO {n0 gb B : Nat} {w : World} (hn : n0 ≤ w.heap.size) (hB : n0 ≤ B) : OwnFrom B (aIq n0 gb w) := fun s W W' row h hg hr => by
 obtain ⟨⟨A, c, h1, h2⟩, h3⟩ := h
 have hr2 : ∀ r, row = some r → ∃ o : Obj, W.heap[r]? = some o ∧ o.isCells = false := fun r e => (hr r e).2
 exact ⟨⟨A, c, h1.grown hg (aIp (W' := W') h1 hr2), h2.grown hg (aFP h2 hr2)⟩, ownFrom_below hn hB s W W' row h3 hg hr⟩
theorem aEP (n0 gs gn d c : Nat) (A : Option Addr) (xs : List Int) (w : World) (q1 : Blk w gs 30 [.slice A xs.length c]) (q2 : Blk w gn 3 [.int .i64 (d : Nat)]) (hn0 : n0 = w.heap.size) (hd : 1 ≤ d ∧ d ≤ 1000) (hl : xs.length ≤ 1048576) (hc : xs.length ≤ c) :
   SeqStopsK Fence.wide 1 Tryz.prog 220 #[.pointer (some ⟨gs, 0, none⟩), .pointer (some ⟨gn, 0, none⟩)] (fun x : ModeI => #[Value.slice x.A x.m.next.length x.c]) (Below n0) (fun ps => ps = chs A d xs (cN d xs.length)) (fun _ => True) (cN d xs.length) w := fun l J Jx W hW hJ hJx hY h0 => by
 have h1 := q1.lt
 have h2 := q2.lt
 refine aFK .w (Calls.mono (aFO l n0 gs gn d c A xs J Jx W (q1.below hW h1) (q2.below hW h2) ⟨hJ, h0⟩ (by rw [hn0]; exact hW.size) (by omega) (by omega) hd hl hc hY) fun e W' h => ?_)
 cases e <;> first | exact h.elim | skip
 refine ⟨⟨_, rfl⟩, ?_⟩
 rcases h with h | ⟨pre, h⟩
 · exact .inl ⟨_, rfl, h⟩
 · exact .inr ⟨pre, trivial, h⟩
theorem aHq (x : ModeI) : ∀ u ∈ pP x, u.oneCell' = true := fun u hu => by
 obtain rfl : u = _ := by simpa [pP] using hu
 rfl
set_option maxHeartbeats 1000000 in
theorem aCg (gs gn d c : Nat) (A : Option Addr) (xs : List Int) (w : World) (q1 : Blk w gs 30 [.slice A xs.length c]) (q2 : Blk w gn 3 [.int .i64 (d : Nat)]) (hd : 1 ≤ d ∧ d ≤ 1000) (hl : xs.length ≤ 1048576) (hc : xs.length ≤ c) :
   Calls Tryz.prog 219 #[.slice none 0 0, .func (.func 220) #[] #[.pointer (some ⟨gs, 0, none⟩), .pointer (some ⟨gn, 0, none⟩)]] w
     (fD fun v w' => ∃ A' c', v = .slice A' (cN d xs.length) c' ∧ Own w' w.heap.size 30 1 A' (cN d xs.length) c' ((chs A d xs (cN d xs.length)).flatMap pP) ∧ Ext w w') := by
 obtain ⟨n0, hn0⟩ : ∃ n0, n0 = w.heap.size := ⟨_, rfl⟩
 have hN := aJ4 (d := d) (n := xs.length) hd.1
 refine callsIn_wide.1 (callsIn_of_wp_marks (n := 2) Tryz.func219 rfl trivial ?_)
 refine wpIn_seq ?_
 have hf0 : FitsD [] 13 (sO 0 [.slice none 0 0, .func (.func 220) #[] #[.pointer (some ⟨gs, 0, none⟩), .pointer (some ⟨gn, 0, none⟩)]]) { tmps := #[.slice none 0 0, .func (.func 220) #[] #[.pointer (some ⟨gs, 0, none⟩), .pointer (some ⟨gn, 0, none⟩)]] ++ Array.replicate (Tryz.f219.ntmps - 2) undef, defers := [] } := by
   refine ⟨rfl, by rw [Tryz.ntmps219]; rfl, fun t v ht => ?_⟩
   obtain ⟨_, h2⟩ := yG _ 0 t v ht
   simp only [Nat.sub_zero] at h2
   match t, h2 with
   | 0, h2 => simpa using h2
   | 1, h2 => simpa using h2
   | t + 2, h2 => simp at h2
 refine wpIn_region_lit ((?_ : yX Fence.wide 2 Tryz.prog 13 [] _ _ _ w (fun e1 w1 => lk e1 2 = some (.pointer (some ⟨w.heap.size, 0, none⟩)) ∧ lk e1 1 = some (.func (.func 220) #[] #[.pointer (some ⟨gs, 0, none⟩), .pointer (some ⟨gn, 0, none⟩)]) ∧ Blk w1 w.heap.size 107 [.slice none 0 0] ∧ Ext w w1)) _ _ hf0 ?_)
 · refine fE .w rfl rfl (eE rfl rfl ?_)
   intro g w1 eg b1 x1 z1
   subst eg
   refine fE .w rfl rfl (aD rfl ?_)
   exact pY ⟨rfl, rfl, b1, x1⟩
 rintro e1 a1 w1 hf1 ⟨k2, k1, b1, x1⟩
 have hz1 : n0 < w1.heap.size := by rw [hn0]; exact b1.lt
 refine wpIn_seq ?_
 refine wpIn_seq ?_
 refine wpIn_region_lit ((?_ : yX Fence.wide 2 Tryz.prog 13 [] _ _ e1 w1 (fun e2 w2 => lk e2 2 = some (.pointer (some ⟨w.heap.size, 0, none⟩)) ∧ lk e2 6 = some (.func (.func 220) #[] #[.pointer (some ⟨gs, 0, none⟩), .pointer (some ⟨gn, 0, none⟩)]) ∧ w2 = w1)) _ _ hf1 ?_)
 · refine fE .w rfl rfl (aC k1 ?_)
   exact pY ⟨by rw [jE, qJ, if_neg (by decide)]; exact k2, by rw [jE, qJ, if_pos rfl], rfl⟩
 rintro e2 a2 w2 hf2 ⟨k2, k6, rfl⟩
 refine wpIn_block ?_
 have hseq := (aEP n0 gs gn d c A xs w q1 q2 hn0 hd hl hc)
 refine wpIn_rangeFunc_ownF (n := 2) rfl (by decide) (gf := 220) (lb := #[.pointer (some ⟨gs, 0, none⟩), .pointer (some ⟨gn, 0, none⟩)]) (hf2.knows (.tmp 6) _ k6) trivial aJh hseq (hKt := belowK_t) (hKb := belowK_b (by omega)) (hb0 := x1) (fun _ => rfl)
   (aIq n0 w.heap.size w) (fun _ _ _ => False) (aEO (by omega) (by omega)) (fun _ _ _ _ _ h _ _ => h) ⟨⟨none, 0, b1, Own.nil_ _ _ _ _⟩, by rw [hn0]; exact x1⟩
   (fun x => ({ tmps := a2.tmps.setIfInBounds 7 (Value.slice x.A x.m.next.length x.c), defers := [] } : Act).put (some 5) (Value.slice x.A x.m.next.length x.c))
   ?_ ?_ ?_ ?_
 · intro l x W K hK
   have e0 : ∀ (T : Array Value) (u : Value), (#[7].zip #[u]).foldl (fun t (p, v) => t.setIfInBounds p v) T = T.setIfInBounds 7 u := fun T u => by simp
   rw [e0]
   have e7 : (({ tmps := a2.tmps.setIfInBounds 7 (Value.slice x.A x.m.next.length x.c), defers := [] } : Act).eval (.tmp 7)) = Value.slice x.A x.m.next.length x.c := by
     show (a2.tmps.setIfInBounds 7 _).getD 7 undef = _
     simp [Array.getD_eq_getD_getElem?, hf2.2.1]
   refine wpIn_region_lit (l := [_]) (wpListIn_plain rfl fun K' hK' => ⟨fun f _ => trivial, ?_⟩)
   rw [Oper.semAt_eq _ _ _ (fun c h => by cases h)]
   unfold execOp
   simp only [Sem.run_pure, Oper.uponIn_value, e7]
   exact hK' _ _ (wpListIn_nil hK)
 · -- one round
   intro l pre x W hI hlen
   obtain ⟨⟨A1, c1, bB, oO⟩, hbel⟩ := hI
   have hs0 : n0 ≤ W.heap.size := by have := hbel.size; omega
   have hgB := bB.lt
   obtain ⟨vx, hvx⟩ : ∃ vx, vx = Value.slice x.A x.m.next.length x.c := ⟨_, rfl⟩
   rw [← hvx]
   have hfx : FitsD [] 13 [(5, vx), (2, .pointer (some ⟨w.heap.size, 0, none⟩))] (({ tmps := a2.tmps.setIfInBounds 7 vx, defers := [] } : Act).put (some 5) vx) := by
     have hsz := hf2.2.1
     have h2 := hf2.2.2 2 _ k2
     refine ⟨rfl, by simp [Act.put, hsz], fun t v ht => ?_⟩
     rw [qJ] at ht
     split at ht
     · rename_i h5; subst h5
       injection ht with ht; subst ht
       simp [Act.put, hsz, Array.getD_eq_getD_getElem?]
     · rw [qJ] at ht
       split at ht
       · rename_i h5 h6; subst h6
         injection ht with ht; subst ht
         simp only [Act.put]
         simp only [Array.getD_eq_getD_getElem?] at h2 ⊢
         rw [Array.getElem?_setIfInBounds_ne (by decide), Array.getElem?_setIfInBounds_ne (by decide)]
         exact h2
       · cases ht
   refine wpIn_block (wpIn_region_lit ((?_ : yX (Fence.wide.inRound l) 0 Tryz.prog 13 [] _ _ _ W (fun _ W' => KeepsOthers W W' ∧ Below n0 W W' ∧ aIq n0 w.heap.size w (pre ++ [x]) W')) _ _ hfx fun e' a' w' _ h => h))
   subst hvx
   have hr := WideF.r l
   refine fE hr rfl rfl (aI bB aGn rfl rfl ?_)
   refine fE hr rfl rfl (aC rfl ?_)
   refine fE hr rfl rfl (aN rJ kQ rfl rfl rfl rfl rfl ?_)
   intro gT W1 egT oT bT xT zT
   have bB1 := bB.ext xT
   have oO1 := oO.ext xT
   have hb1 : Below n0 W W1 := Below.mono xT hs0
   have hk1 : KeepsOthers W W1 := KeepsOthers.of_grownBy (aAH xT) (fun j o e => by cases e)
   have oT1 : Own W1 W.heap.size 30 1 (some ⟨gT, 0, none⟩) 1 1 (pP x) := oT.to rfl
   refine fE hr rfl rfl (cF (ts := #[]) oO1 (by have := xT.size; omega) oT1.sl rfl (aHq x) rJ kQ rfl rfl rfl rfl (by omega) (by omega) ?_)
   intro A2 c2 W2 oA hgA
   have hne : some w.heap.size ≠ (Value.slice A1 pre.length c1).ownBlock := fun e => Own.neT oO1 bB1 (by decide) e.symm
   have bB2 := bB1.grown hgA hne
   have hb2 : Below n0 W W2 := hb1.grown hgA (by have := xT.size; omega) (fun k e => (Own.lt oO1 e).1)
   have hk2 : KeepsOthers W W2 := hk1.trans (KeepsOthers.of_grownBy hgA (aEN oO1))
   refine fE hr rfl rfl (aX bB2 aGn rfl rfl rfl rfl rfl rfl ?_)
   intro W3 bB3 hg3 z3
   have oA3 := oA.grown hg3 (fun g e => by injection e with e; subst e; exact Own.neT oA bB2 (by decide))
   have hb3 : Below n0 W W3 := hb2.grown hg3 (by have := hgA.size; have := xT.size; omega) (fun k e => by injection e; omega)
   have hk3 : KeepsOthers W W3 := hk2.trans (KeepsOthers.of_grownBy hg3 (fun j o e ho => by injection e with e; subst e; rw [show W2.heap[w.heap.size]? = _ from bB2] at ho; cases ho; rfl))
   refine pY ⟨hk3, hb3, ⟨A2, c2, ?_, ?_⟩, hbel.trans hb3⟩
   · rw [List.length_append]; exact bB3
   · rw [List.length_append, List.flatMap_append]; exact oA3.to (by simp)
 · -- behind the loop
   intro D ps W hD hS hI hK
   subst hS
   obtain ⟨⟨A1, c1, bB, oO⟩, hbel⟩ := hI
   rw [xQ] at bB oO
   have hf3 : FitsD [{ target := .collected D, args := #[] }] 13 e2 { a2 with defers := { target := .collected D, args := #[] } :: a2.defers } := ⟨by rw [hf2.1], hf2.2.1, hf2.2.2⟩
   show ((Code.seq _ _).wpIn _ _ _ _ _ _)
   refine wpIn_seq ?_
   refine wpIn_region_lit ((?_ : yX Fence.wide 2 Tryz.prog 13 _ _ _ e2 W (fun e4 w4 => lk e4 4 = some (.slice A1 (cN d xs.length) c1) ∧ w4 = W)) _ _ hf3 ?_)
   · refine fE .w rfl rfl (aI bB aGn k2 rfl ?_)
     refine fE .w rfl rfl (aD rfl ?_)
     exact pY ⟨rfl, rfl⟩
   rintro e4 a4 w4 hf4 ⟨k4, rfl⟩
   refine wpIn_ret ?_
   show LeavesInM _ _ _ _ _ _ a4.defers .returning w4
   rw [hf4.1]
   refine ⟨by simp, .inl ⟨_, _, rfl, run_takeDeferred hK, ?_⟩⟩
   have hgD := grownBy_putObj' w4 D (.deferred none)
   have hrow : ∀ r, some D = some r → ∃ o : Obj, w4.heap[r]? = some o ∧ o.isCells = false := fun r e => by injection e with e; subst e; exact ⟨_, hK, rfl⟩
   have h4 := hf4.2.2 4 _ k4
   refine ⟨_, results_tmp rfl _ _ _, A1, c1, h4, ?_, ?_⟩
   · rw [← hn0]; exact oO.grown hgD (aFP oO hrow)
   · have := hbel.grown hgD (by have := hbel.size; omega) (fun k e => by injection e; omega)
     rwa [hn0] at this
 · intro D c' pre W hD hS hI hK
   exact hI.elim
theorem aHr {P : Program} {e : List (Nat × Value)} {ty : TypeId} {w : World} {K : Value → World → Prop} {x y : Operand} {t t' : TypeId} {k : IntKind} {m n : Int} (hx : fF e x = some (.int k m)) (hy : fF e y = some (.int k n)) (hh : m < n) (h : K (.bool true) w) : OpWp P e (.binOp .lss t x y t') ty w K :=
 rW hx hy (by rw [decide_eq_true hh]; exact h)
theorem aHs {P : Program} {e : List (Nat × Value)} {ty : TypeId} {w : World} {K : Value → World → Prop} {x y : Operand} {t t' : TypeId} {k : IntKind} {m n : Int} (hx : fF e x = some (.int k m)) (hy : fF e y = some (.int k n)) (hh : ¬ m < n) (h : K (.bool false) w) : OpWp P e (.binOp .lss t x y t') ty w K :=
 rW hx hy (by rw [decide_eq_false hh]; exact h)
theorem aJ5 {z : Int} (h : 0 ≤ z ∧ z ≤ 1099511627776) : kW .and .i64 z 255 = z % 256 := by
 obtain ⟨n, rfl⟩ : ∃ n : Nat, z = (n : Int) := ⟨z.toNat, by omega⟩
 have h1 := sG (a := n) (b := 255) (by omega) (by omega)
 rw [show ((255 : Nat) : Int) = 255 from rfl] at h1
 rw [h1, show n &&& 255 = n % 256 from Nat.and_two_pow_sub_one_eq_mod n 8]; omega
def tK (A : Option Addr) (xs : List Int) : List ModeI := if xs.length = 0 then [kS none 0 []] else chs A 33 xs (cN 33 xs.length)
theorem aEc {n : Nat} (h : n ≠ 0) : cN 33 n = nS n := by
 unfold cN nS; rw [if_neg h, show n + 33 - 1 = n + 32 by omega]
theorem yZ (A : Option Addr) (xs : List Int) : (tK A xs).length = nS xs.length := by
 unfold tK
 split
 · rename_i h; rw [h]; rfl
 · rename_i h; rw [xQ, aEc h]
theorem aFQ {A : Option Addr} {d : Nat} {xs : List Int} {m k : Nat} (h : k < m) : (chs A d xs m)[k]? = some (rV A d xs k) := by
 unfold chs; rw [List.getElem?_map, List.getElem?_range h]; rfl
theorem zA (A : Option Addr) (xs : List Int) {k : Nat} (h : k < nS xs.length) : ∃ pA pc, (tK A xs)[k]? = some (kS pA pc (fS xs k)) ∧ (fS xs k).length ≤ pc := by
 unfold tK
 split
 · rename_i h0
   rw [h0] at h
   have hk : k = 0 := by have h2 : k < 1 := h; omega
   subst hk
   have e : xs = [] := List.eq_nil_of_length_eq_zero h0
   subst e
   exact ⟨none, 0, rfl, Nat.le_refl _⟩
 · rename_i h0
   rw [aFQ (by rw [aEc h0]; exact h)]
   refine ⟨_, _, rfl, ?_⟩
   rw [rU]; exact Nat.le_refl _
theorem aAI {B : Nat} {w : World} {A : Option Addr} {d : Nat} {xs : List Int} (hs : Sl B w A (xs.flatMap eI)) (hl : xs.length ≤ 1048576) (m : Nat) : Nexts B w (chs A d xs m) := ⟨hs.1, fun x hx => by
 obtain ⟨k, _, rfl⟩ := List.mem_map.1 hx
 exact ⟨(hs.dropI _).takeI _, by rw [yY]; omega⟩⟩
theorem zB {B : Nat} {w : World} {A : Option Addr} {xs : List Int} (hs : Sl B w A (xs.flatMap eI)) (hl : xs.length ≤ 1048576) : Nexts B w (tK A xs) := by
 unfold tK
 split
 · refine ⟨hs.1, fun x hx => ?_⟩
   obtain rfl : x = kS none 0 [] := by simpa using hx
   exact ⟨Sl.nil_ hs.1 _, Nat.zero_le _⟩
 · exact aAI hs hl _
theorem aFR {xs : List Int} (h : xs.length = 0) (A : Option Addr) : (tK A xs).flatMap pP = [.slice none 0 0] := by unfold tK; rw [if_pos h]; rfl
theorem vO {xs : List Int} (hb : ∀ x ∈ xs, 0 ≤ x ∧ x ≤ 255) (k : Nat) : ∀ x ∈ fS xs k, 0 ≤ x ∧ x ≤ 255 := fun x hx => hb x (List.mem_of_mem_drop (List.mem_of_mem_take hx))
theorem aIr {xs : List Int} (hb : ∀ x ∈ xs, 0 ≤ x ∧ x ≤ 255) (k : Nat) : ∀ x ∈ xs.take k, 0 ≤ x ∧ x ≤ 255 := fun x hx => hb x (List.mem_of_mem_take hx)
theorem xR {xs : List Int} (h : rL xs = true) : ∀ x ∈ xs, 0 ≤ x ∧ x ≤ 255 := fun x hx => by
 obtain ⟨k, hk⟩ := List.mem_iff_getElem?.1 hx
 exact uO h hk
theorem aDj {xs : List Int} {k : Nat} (h : (fS xs k).length < 5) : rQ xs k = true := by rw [rQ, decide_eq_true h]; rfl
theorem aAJ {xs : List Int} {k : Nat} (h : ¬ (fS xs k).length < 5) : rQ xs k = !decide (qO k ((fS xs k).take ((fS xs k).length - 3)) = (fS xs k).drop ((fS xs k).length - 3)) := by rw [rQ, decide_eq_false h]; rfl
theorem aEd (A : Option Addr) (n c d : Nat) (w : World) (hd : 1 ≤ d) :
   Calls Tryz.prog 152 #[.slice A n c, .int .i64 (d : Nat)] w (fD fun v w' => ∃ gs gn, v = .func (.func 220) #[] #[.pointer (some ⟨gs, 0, none⟩), .pointer (some ⟨gn, 0, none⟩)] ∧ Blk w' gs 30 [.slice A n c] ∧ Blk w' gn 3 [.int .i64 (d : Nat)] ∧ Ext w w') := by
 have X := Q7r w
 refine bI (args := [.slice A n c, .int .i64 (d : Nat)]) Tryz.func152 Tryz.ntmps152 rfl rfl ?_
 refine aE ?_
 refine aA rfl (eE rfl rfl ?_)
 intro gs w2 egs q1 x1 zgs
 have lgs : w.heap.size ≤ gs := Q7l X.size (Q7e egs.symm)
 replace X := Q7x X x1
 refine aA rfl (eE rfl rfl ?_)
 intro gn w4 egn q2 x3 zgn
 have lgn : w.heap.size ≤ gn := Q7l X.size (Q7e egn.symm)
 have ngnq1 := Nat.lt_of_lt_of_eq q1.lt egn.symm
 replace q1 := q1.ext x3
 replace X := Q7x X x3
 refine aA rfl (aD rfl ?_)
 refine aB ?_
 refine aQ ?_
 refine aE ?_
 refine aA rfl (aI q2 ti3 rfl rfl ?_)
 refine aA rfl (cH rfl rfl (fun h5 => absurd h5 (by omega)) (fun h5 => ?_))
 refine aB ?_
 refine aL rfl ?_
 refine aU ?_
 refine aP ?_
 refine aE ?_
 refine aA rfl (mS rfl ?_)
 refine aA rfl (aD rfl ?_)
 refine aB ?_
 refine aV ?_
 refine aK rfl rfl ?_
 exact ⟨gs, gn, rfl, q1, q2, X⟩
theorem aAK (gs gn d c : Nat) (A : Option Addr) (xs : List Int) (w : World) (q1 : Blk w gs 30 [.slice A xs.length c]) (q2 : Blk w gn 3 [.int .i64 (d : Nat)]) (hd : 1 ≤ d ∧ d ≤ 1000) (hl : xs.length ≤ 1048576) (hc : xs.length ≤ c) :
   Calls Tryz.prog 151 #[.func (.func 220) #[] #[.pointer (some ⟨gs, 0, none⟩), .pointer (some ⟨gn, 0, none⟩)]] w (fD fun v w' => ∃ A' c', v = .slice A' (cN d xs.length) c' ∧ Own w' w.heap.size 30 1 A' (cN d xs.length) c' ((chs A d xs (cN d xs.length)).flatMap pP) ∧ Ext w w') := by
 have X := Q7r w
 refine bI (args := [.func (.func 220) #[] #[.pointer (some ⟨gs, 0, none⟩), .pointer (some ⟨gn, 0, none⟩)]]) Tryz.func151 Tryz.ntmps151 rfl rfl ?_
 refine aE ?_
 refine aA rfl (aD rfl ?_)
 refine aB ?_
 refine aE ?_
 refine aA rfl (aC rfl ?_)
 refine aA rfl (aS aJg rfl (aO (aCg gs gn d c A xs _ q1 q2 hd hl hc) ?_))
 rintro _ wA ⟨AL, cL, rfl, oL, xA⟩
 replace oL := Own.low oL X.size
 replace q1 := q1.ext xA
 replace q2 := q2.ext xA
 replace X := Q7x X xA; clear xA
 refine aA rfl (aD rfl ?_)
 refine aB ?_
 refine aV ?_
 refine aK rfl rfl ?_
 exact ⟨AL, cL, rfl, oL, X⟩
theorem uH (A : Option Addr) (c : Nat) (xs : List Int) (w : World) (hl : xs.length ≤ 1048576) (hc : xs.length ≤ c) :
   Calls Tryz.prog 85 #[.slice A xs.length c] w (fD fun v w' => ∃ A' c', v = .slice A' (nS xs.length) c' ∧ Own w' w.heap.size 30 1 A' (nS xs.length) c' ((tK A xs).flatMap pP) ∧ Ext w w') := by
 have X := Q7r w
 refine bI (args := [.slice A xs.length c]) Tryz.func85 Tryz.ntmps85 rfl rfl ?_
 refine aE ?_
 refine aA rfl (aD rfl ?_)
 refine aB ?_
 refine aQ ?_
 refine aE ?_
 refine aA rfl (aC rfl ?_)
 refine aA rfl (cQ Tryz.underlying30 rfl ?_)
 refine aA rfl (dK rfl rfl (fun h0 => ?_) (fun h0 => ?_))
 refine aB ?_
 refine aR rfl ?_
 refine aE ?_
 refine aA rfl (aN rJ kQ rfl rfl rfl rfl rfl ?_)
 intro gO w2 egO oO bbgO x1 zgO
 replace oO := Own.low oO X.size
 replace X := Q7x X x1
 refine aA rfl (aD rfl ?_)
 refine aB ?_
 refine aV ?_
 refine bU ?_
 refine aK rfl rfl ?_
 · skip
   have h00 : xs.length = 0 := by omega
   have e : nS xs.length = 1 := by rw [h00]; rfl
   exact ⟨_, _, by rw [e], by rw [e, aFR h00]; exact oO.to rfl, X⟩
 refine aB ?_
 refine aL rfl ?_
 refine aU ?_
 refine aP ?_
 refine aE ?_
 refine aA rfl (aC rfl ?_)
 refine aA rfl (aS aGz rfl (aO (aEd A xs.length c 33 _ (by omega)) ?_))
 rintro _ wK ⟨gs, gn, rfl, q1, q2, xK⟩
 replace X := Q7x X xK; clear xK
 refine aA rfl (aS aGy rfl (aO (aAK gs gn 33 c A xs _ q1 q2 (by omega) hl hc) ?_))
 rintro _ wL ⟨AL, cL, rfl, oL, xL⟩
 replace oL := Own.low oL X.size
 replace X := Q7x X xL; clear xL
 refine aA rfl (aD rfl ?_)
 refine aB ?_
 refine aV ?_
 refine aK rfl rfl ?_
 · skip
   have h00 : xs.length ≠ 0 := by omega
   rw [aEc h00] at oL ⊢
   exact ⟨AL, cL, rfl, oL.to (by unfold tK; rw [if_neg h00, aEc h00]), X⟩
theorem aHt (z : Int) (w : World) (hz : 0 ≤ z ∧ z < 16777216) :
   Calls Tryz.prog 147 #[.int .i64 z] w (fD fun v w' => ∃ A' c', v = .slice A' 3 c' ∧ Own w' w.heap.size 2 1 A' 3 c' ((id3 z).flatMap eI) ∧ Ext w w') := by
 have X := Q7r w
 refine bI (args := [.int .i64 z]) Tryz.func147 Tryz.ntmps147 rfl rfl ?_
 refine aE ?_
 refine aA rfl (aD rfl ?_)
 refine aB ?_
 refine aE ?_
 refine aA rfl (aC rfl ?_)
 refine aA rfl (qU rfl rfl (by omega) (aIl 65536 hz.1 (by omega) rfl) ?_)
 refine aA rfl (aC rfl ?_)
 refine aA rfl (qU rfl rfl (by omega) (aIl 256 hz.1 (by omega) rfl) ?_)
 refine aA rfl (qT rfl rfl (aJ5 (by omega)) ?_)
 refine aA rfl (aC rfl ?_)
 refine aA rfl (qT rfl rfl (aJ5 (by omega)) ?_)
 refine aA rfl (aN dA cY rfl rfl rfl rfl rfl ?_)
 intro g1 w3 eg1 oS bbg1 x2 zg1
 replace oS := Own.low oS X.size
 replace X := Q7x X x2
 refine aA rfl (aD rfl ?_)
 refine aB ?_
 refine aV ?_
 refine aK rfl rfl ?_
 exact ⟨_, _, rfl, oS.to rfl, X⟩
theorem aBn (k : Nat) (A : Option Addr) (B c : Nat) (xs : List Int) (w : World) (hs : Sl B w A (xs.flatMap eI)) (hl : xs.length ≤ 100000) (hb : ∀ x ∈ xs, 0 ≤ x ∧ x ≤ 255) (hk : k ≤ 100000) :
   Calls Tryz.prog 153 #[.int .i64 (k : Nat), .slice A xs.length c] w (fD fun v w' => ∃ A' c', v = .slice A' 3 c' ∧ Own w' w.heap.size 2 1 A' 3 c' ((qO k xs).flatMap eI) ∧ Ext w w') := by
 have Bhs := hs.1
 have X := Q7r w
 refine bI (args := [.int .i64 (k : Nat), .slice A xs.length c]) Tryz.func153 Tryz.ntmps153 rfl rfl ?_
 refine aE ?_
 refine aA rfl (aD rfl ?_)
 refine aB ?_
 refine aE ?_
 refine aA rfl (aS aJi rfl (aO (aEJ _) ?_))
 rintro _ w2 ⟨rfl, x1⟩
 replace hs := hs.ext x1
 replace X := Q7x X x1
 refine aA rfl (aC rfl ?_)
 refine aA rfl (aZ rfl rfl (dR (by omega)) ?_)
 refine aA rfl (aC rfl ?_)
 refine aA rfl (aS aJk rfl (aO (aFJ _ _ _ xs _ hs (by omega) hb) ?_))
 rintro _ w4 ⟨AB, cB, rfl, oB, x3⟩
 replace oB := Own.low oB X.size
 replace hs := hs.ext x3
 replace X := Q7x X x3
 refine aA rfl (aS aJj rfl (aO (aIm _ _ _ (lM xs) ((k : Int) + 1) _ (oB).sl (by rw [pW]; omega) (by omega) (fun b hb => aCb b hb)) ?_))
 rintro _ w6 ⟨rfl, x5⟩
 replace hs := hs.ext x5
 replace oB := oB.ext x5
 replace X := Q7x X x5
 refine aA rfl (aS aGx rfl (aO (aHt (aEE k xs) _ (sS xs (by omega))) ?_))
 rintro _ w9 ⟨AT, cT, rfl, oT, x7⟩
 replace oT := Own.low oT X.size
 replace hs := hs.ext x7
 replace oB := oB.ext x7
 replace X := Q7x X x7
 refine aA rfl (aD rfl ?_)
 refine aB ?_
 refine aV ?_
 refine aK rfl rfl ?_
 exact ⟨_, _, rfl, oT, X⟩
theorem lV (k n : Nat) (A : Option Addr) (B c : Nat) (xs : List Int) (w : World) (hs : Sl B w A (xs.flatMap eI)) (en : xs.length = n) (hl : xs.length ≤ 100000) (hb : ∀ x ∈ xs, 0 ≤ x ∧ x ≤ 255) (hk : k ≤ 100000) :
   Calls Tryz.prog 153 #[.int .i64 (k : Nat), .slice A n c] w (fD fun v w' => ∃ A' c', v = .slice A' 3 c' ∧ Own w' w.heap.size 2 1 A' 3 c' ((qO k xs).flatMap eI) ∧ Ext w w') := by
 subst en; exact aBn k A B c xs w hs hl hb hk
theorem aDk (k : Nat) (A : Option Addr) (B c : Nat) (xs : List Int) (w : World) (hs : Sl B w A (xs.flatMap eI)) (hl : xs.length ≤ 100000) (hb : ∀ x ∈ xs, 0 ≤ x ∧ x ≤ 255) (hk : k ≤ 100000) :
   Calls Tryz.prog 158 #[.int .i64 (k : Nat), .slice A xs.length c] w (fD fun v w' => v = .int .i64 (aEE k xs) ∧ Ext w w') := by
 have Bhs := hs.1
 have X := Q7r w
 refine bI (args := [.int .i64 (k : Nat), .slice A xs.length c]) Tryz.func158 Tryz.ntmps158 rfl rfl ?_
 refine aE ?_
 refine aA rfl (aD rfl ?_)
 refine aB ?_
 refine aE ?_
 refine aA rfl (aS aJv rfl (aO (aEK _) ?_))
 rintro _ w2 ⟨rfl, x1⟩
 replace hs := hs.ext x1
 replace X := Q7x X x1
 refine aA rfl (aC rfl ?_)
 refine aA rfl (aZ rfl rfl (dR (by omega)) ?_)
 refine aA rfl (aC rfl ?_)
 refine aA rfl (aS aJw rfl (aO (aEI _ _ _ xs _ hs (by omega) hb) ?_))
 rintro _ w4 ⟨AB, cB, rfl, oB, x3⟩
 replace oB := Own.low oB X.size
 replace hs := hs.ext x3
 replace X := Q7x X x3
 refine aA rfl (aS aJu rfl (aO (aEL _ _ _ (lM xs) ((k : Int) + 1) _ (oB).sl (by rw [pW]; omega) (by omega) (fun b hb => aCb b hb)) ?_))
 rintro _ w6 ⟨rfl, x5⟩
 replace hs := hs.ext x5
 replace oB := oB.ext x5
 replace X := Q7x X x5
 refine aA rfl (aD rfl ?_)
 refine aB ?_
 refine aV ?_
 refine aK rfl rfl ?_
 exact ⟨by rfl, X⟩
theorem qP (k n : Nat) (A : Option Addr) (B c : Nat) (xs : List Int) (w : World) (hs : Sl B w A (xs.flatMap eI)) (en : xs.length = n) (hl : xs.length ≤ 100000) (hb : ∀ x ∈ xs, 0 ≤ x ∧ x ≤ 255) (hk : k ≤ 100000) :
   Calls Tryz.prog 158 #[.int .i64 (k : Nat), .slice A n c] w (fD fun v w' => v = .int .i64 (aEE k xs) ∧ Ext w w') := by
 subst en; exact aDk k A B c xs w hs hl hb hk
theorem aCh (A : Option Addr) (B c n : Nat) (xs : List Int) (A2 : Option Addr) (B2 c2 n2 : Nat) (ys : List Int) (w : World) (hs : Sl B w A (xs.flatMap eI)) (h2 : Sl B2 w A2 (ys.flatMap eI)) (hl : xs.length ≤ 1048576) (e1 : xs.length = n) (e2 : ys.length = n2) :
   Calls Tryz.prog 168 #[.slice A n c, .slice A2 n2 c2] w (fD fun v w' => v = .bool (decide (xs = ys)) ∧ Ext w w') := by
 subst e1; subst e2; exact aCe A B c xs A2 B2 c2 ys w hs h2 hl
theorem iQ (k : Nat) (xs : List Int) : (qO k xs).length = 3 := rfl
theorem aHu {xs : List Int} {z : Int} : tQ xs z = true ↔ z ∈ xs := by simp [tQ, List.any_eq_true]
theorem aHv {xs : List Int} {k : Nat} : ((k : Nat) : Int) ∈ dmg xs ↔ k < nS xs.length ∧ rQ xs k = true := by
 unfold dmg xJ
 rw [List.mem_map]
 constructor
 · rintro ⟨j, hj, e⟩
   have e2 : j = k := by omega
   subst e2
   have h := List.mem_filter.1 hj
   exact ⟨List.mem_range.1 h.1, h.2⟩
 · rintro ⟨h1, h2⟩
   exact ⟨k, List.mem_filter.2 ⟨List.mem_range.2 h1, h2⟩, rfl⟩
theorem aFS {xs : List Int} (h : tQ (dmg xs) 0 = false) : rQ xs 0 = false := by
 cases hb : rQ xs 0 with
 | false => rfl
 | true =>
   have h1 : ((0 : Nat) : Int) ∈ dmg xs := aHv.2 ⟨aFD _, hb⟩
   have h2 := aHu.2 h1
   rw [show ((0 : Nat) : Int) = 0 from rfl, h] at h2; cases h2
theorem aHw {xs : List Int} (h : xs.length ≤ 1048576) : (dmg xs).length ≤ 1048576 := by
 have h1 := aHm xs (nS xs.length)
 have h2 := aFE xs.length
 unfold dmg; omega
def idV (p : List Int) : Int := p.getD 2 0 * 65536 + p.getD 3 0 * 256 + p.getD 4 0
def mI (xs : List Int) : Int × Int := if rL xs = true then (if tQ (dmg xs) 0 = true then (0, 7) else if (fS xs 0).length < 8 ∨ (fS xs 0).getD 0 0 ≠ 0 then (0, 6) else if idV (fS xs 0) = 0 then (0, 6) else (idV (fS xs 0), 0)) else (0, 2)
theorem qQ {p : List Int} {k : Nat} {x : Int} (h : p[k]? = some x) : p.getD k 0 = x := by rw [List.getD_eq_getElem?_getD, h]; rfl
theorem sU {p : List Int} {k : Nat} {x : Int} (h8 : 8 ≤ p.length) (hk : k < 3) (h : p[2 + k]? = some x) : ((p.drop 2).take (p.length - 3 - 2))[k]? = some x := by
 rw [List.getElem?_take, if_pos (by omega), List.getElem?_drop]; exact h
theorem aAL (A : Option Addr) (B c : Nat) (xs : List Int) (w : World) (hs : Sl B w A (xs.flatMap eI)) (hl : xs.length ≤ 1024) (hb : ∀ x ∈ xs, 0 ≤ x ∧ x ≤ 255) (hc : xs.length ≤ c) (hn : Nexts B w (tK A xs)) :
   Calls Tryz.prog 84 #[.slice A xs.length c] w (fD fun v w' => ∃ A' c', v = .slice A' (dmg xs).length c' ∧ Own w' w.heap.size 2 1 A' (dmg xs).length c' ((dmg xs).flatMap eI) ∧ Ext w w') := by
 have hnS := aFE xs.length
 have Bhs := hs.1
 have Bhn := hn.1
 have X := Q7r w
 refine bI (args := [.slice A xs.length c]) Tryz.func84 Tryz.ntmps84 rfl rfl ?_
 refine aE ?_
 refine aA rfl (aD rfl ?_)
 refine aB ?_
 refine aE ?_
 refine aA rfl (aN dA cY rfl rfl rfl rfl rfl ?_)
 intro gO w2 egO oO bbgO x1 zgO
 replace oO := Own.low oO X.size
 replace hs := hs.ext x1
 replace hn := hn.ext x1
 replace X := Q7x X x1
 refine aA rfl (aD rfl ?_)
 refine aB ?_
 refine aQ ?_
 refine aE ?_
 refine aA rfl (aC rfl ?_)
 refine aA rfl (aS aGu rfl (aO (uH A c xs _ (by omega) hc) ?_))
 rintro _ w4 ⟨AR, cR, rfl, oR, x3⟩
 replace oR := Own.low oR X.size
 replace hs := hs.ext x3
 replace hn := hn.ext x3
 replace oO := oO.ext x3
 replace X := Q7x X x3
 refine aA rfl (cQ Tryz.underlying107 rfl ?_)
 refine aA rfl (aC rfl ?_)
 refine aB ?_
 refine aW ?_
 refine dD (G := Nat × Nat × Option Addr × Nat) (fun ⟨k, n1, A1, c1⟩ => [(2, .slice none 0 0), (9, .slice AR (nS xs.length) cR), (10, .int .i64 ((nS xs.length) : Nat)), (3, .slice A1 n1 c1), (11, .int .i64 (k : Nat))]) (fun ⟨k, n1, A1, c1⟩ wr => k ≤ nS xs.length ∧ n1 ≤ k ∧ n1 = (xJ xs k).length ∧ Own wr w.heap.size 2 1 A1 n1 c1 ((xJ xs k).flatMap eI) ∧ Sl B wr A (xs.flatMap eI) ∧ Nexts B wr (tK A xs) ∧ Own wr w.heap.size 30 1 AR (nS xs.length) cR ((tK A xs).flatMap pP) ∧ Ext w wr) (fun ⟨k, n1, A1, c1⟩ => nS xs.length - k) (0, 0, some ⟨gO, 0, none⟩, 0) (.cons rfl (.cons rfl (.cons rfl (.cons rfl (.cons rfl (.nil _)))))) ?_ ?_
 · exact ⟨(Nat.zero_le _), (Nat.le_refl _), rfl, oO, hs, hn, oR, X⟩
 clear hs hn oO oR
 clear X
 rintro ⟨k, n1, A1, c1⟩ wr ⟨hk0, hnk, hn1, oO, hs, hn, oR, X⟩
 refine aE ?_
 refine aA rfl (cH rfl rfl (fun hk => ?_) (fun hk => ?_))
 obtain ⟨pA, pc, hx, hpc⟩ := zA A xs (k := k) (by omega)
 have hpl := rU xs k
 have hrl : (kS pA pc (fS xs k)).m.next.length = (fS xs k).length := rfl
 have hrc : (kS pA pc (fS xs k)).c = pc := rfl
 refine aB ?_
 refine aQ ?_
 refine aR rfl ?_
 refine aU ?_
 refine aP ?_
 refine aQ ?_
 refine aW ?_
 refine aE ?_
 refine aA rfl (aC rfl ?_)
 refine aA rfl (aT (oR).sl iP rfl rJ rfl (yZ A xs).symm rfl hx rfl ?_)
 refine aA rfl (cX (oR).sl iP hx kQ rfl rfl rfl ?_)
 have hp : Sl B _ pA ((fS xs k).flatMap eI) := hn.at_ hx
 refine aA rfl (aD rfl ?_)
 refine aA rfl (aD rfl ?_)
 refine aB ?_
 refine aE ?_
 refine aA rfl (aC rfl ?_)
 refine aA rfl (cQ Tryz.underlying30 rfl ?_)
 refine aA rfl (fZ rfl rfl (dR (by omega)) ?_)
 by_cases hq : ((fS xs k).length : Int) - 3 < 2
 refine aA rfl (aD rfl ?_)
 refine aB ?_
 refine vY (fun wz => Sl B wz pA ((fS xs k).flatMap eI)) mixed ?_
 obtain ⟨w5, ew5⟩ : ∃ wy, wy = World.drew wr := ⟨_, rfl⟩
 rw [← ew5]
 have xd : Ext wr w5 := ew5 ▸ Ext.drew wr
 replace oO := oO.ext xd
 replace hs := hs.ext xd
 replace hn := hn.ext xd
 replace oR := oR.ext xd
 replace hp := hp.ext xd
 replace X := Q7x X xd; clear xd ew5
 refine dI 0 rfl (by kernel_rfl) rfl (by kernel_rfl) (listed' := #[true, false, false, false, false, false, false, false, false, false, false, false, false, false]) rfl (fun wq sq => aC rfl ⟨rfl, rfl⟩) ?_
 refine dI 1 rfl (by kernel_rfl) rfl (by kernel_rfl) (listed' := #[true, true, false, false, false, false, false, false, false, false, false, false, false, false]) rfl (fun wq sq => aHr rfl rfl hq ⟨rfl, rfl⟩) ?_
 refine dI 2 rfl (by kernel_rfl) rfl (by kernel_rfl) (listed' := #[true, true, true, false, false, false, false, false, false, false, false, false, false, false]) rfl (fun wq sq => aC rfl ⟨rfl, rfl⟩) ?_
 refine iV 3 rfl (by kernel_rfl) rfl (by kernel_rfl) (listed' := #[true, true, true, true, false, false, false, false, false, false, false, false, false, false]) rfl rfl rfl rfl ?_
 refine iV 4 rfl (by kernel_rfl) rfl (by kernel_rfl) (listed' := #[true, true, true, true, true, false, false, false, false, false, false, false, false, false]) rfl rfl rfl rfl ?_
 refine iV 5 rfl (by kernel_rfl) rfl (by kernel_rfl) (listed' := #[true, true, true, true, true, true, false, false, false, false, false, false, false, false]) rfl rfl rfl rfl ?_
 refine iV 6 rfl (by kernel_rfl) rfl (by kernel_rfl) (listed' := #[true, true, true, true, true, true, true, false, false, false, false, false, false, false]) rfl rfl rfl rfl ?_
 refine iV 7 rfl (by kernel_rfl) rfl (by kernel_rfl) (listed' := #[true, true, true, true, true, true, true, true, false, false, false, false, false, false]) rfl rfl rfl rfl ?_
 refine iV 8 rfl (by kernel_rfl) rfl (by kernel_rfl) (listed' := #[true, true, true, true, true, true, true, true, true, false, false, false, false, false]) rfl rfl rfl rfl ?_
 refine iV 9 rfl (by kernel_rfl) rfl (by kernel_rfl) (listed' := #[true, true, true, true, true, true, true, true, true, true, false, false, false, false]) rfl rfl rfl rfl ?_
 refine iV 10 rfl (by kernel_rfl) rfl (by kernel_rfl) (listed' := #[true, true, true, true, true, true, true, true, true, true, true, false, false, false]) rfl rfl rfl rfl ?_
 refine iV 11 rfl (by kernel_rfl) rfl (by kernel_rfl) (listed' := #[true, true, true, true, true, true, true, true, true, true, true, true, false, false]) rfl rfl rfl rfl ?_
 refine iV 12 rfl (by kernel_rfl) rfl (by kernel_rfl) (listed' := #[true, true, true, true, true, true, true, true, true, true, true, true, true, false]) rfl rfl rfl rfl ?_
 refine dI 13 rfl (by kernel_rfl) rfl (by kernel_rfl) (listed' := #[true, true, true, true, true, true, true, true, true, true, true, true, true, true]) rfl (fun wq sq => aJ rfl rfl ⟨rfl, rfl⟩) ?_
 refine kA rfl hp (fun aj fj => ⟨_, fj, ?_⟩)
 refine aR rfl ?_
 refine aM ?_
 have hbk : rQ xs k = true := aDj (by omega)
 refine aA rfl (aC rfl ?_)
 refine aA rfl (aC rfl ?_)
 refine aA rfl (aN dA cY rfl rfl rfl rfl rfl ?_)
 intro g6 w9 eg6 oV bbg6 x7 zg6
 replace oV := Own.low oV X.size
 replace oO := oO.ext x7
 replace hs := hs.ext x7
 replace hn := hn.ext x7
 replace oR := oR.ext x7
 replace hp := hp.ext x7
 replace X := Q7x X x7
 refine aA rfl (cF (ts := #[]) oO X.size oV.sl rfl (eF [(k : Int)]) dA cY rfl rfl rfl rfl (by omega) (by omega) ?_)
 intro AoN coN w11 oN hg10
 replace hs := hs.grown hg10 (fun g hg => Q7l Bhs (Own.lt oO hg).1)
 replace hn := hn.grown hg10 (fun g hg => Q7l Bhn (Own.lt oO hg).1)
 replace oR := oR.grown hg10 (Own.neO oR oO (by decide))
 replace hp := hp.grown hg10 (fun g hg => Q7l Bhs (Own.lt oO hg).1)
 replace X := X.grown hg10 X.size (fun g hg => (Own.lt oO hg).1)
 clear hg10
 refine aA rfl (aD rfl ?_)
 refine aB ?_
 refine dJ ?_
 refine aP ?_
 refine aM ?_
 refine aA rfl (aZ rfl rfl (dR (by omega)) ?_)
 refine aA rfl (aC rfl ?_)
 refine aB ?_
 refine aP ⟨(k + 1, n1 + 1, AoN, coN), (.cons rfl (.cons rfl (.cons rfl (.cons rfl (.cons rfl (.nil _)))))), ?_, ?_⟩
 · exact ⟨(by omega), (by omega), (by rw [nP, if_pos hbk]; simp [hn1]), (oN.to (by rw [nP, if_pos hbk, List.flatMap_append]; rfl)), hs, hn, oR, X⟩
 · first | omega | (dsimp only; omega)
 refine aA rfl (aD rfl ?_)
 refine aB ?_
 refine vY (fun wz => Sl B wz pA ((fS xs k).flatMap eI)) mixed ?_
 obtain ⟨w12, ew12⟩ : ∃ wy, wy = World.drew wr := ⟨_, rfl⟩
 rw [← ew12]
 have xd : Ext wr w12 := ew12 ▸ Ext.drew wr
 replace oO := oO.ext xd
 replace hs := hs.ext xd
 replace hn := hn.ext xd
 replace oR := oR.ext xd
 replace hp := hp.ext xd
 replace X := Q7x X xd; clear xd ew12
 refine dI 0 rfl (by kernel_rfl) rfl (by kernel_rfl) (listed' := #[true, false, false, false, false, false, false, false, false, false, false, false, false, false]) rfl (fun wq sq => aC rfl ⟨rfl, rfl⟩) ?_
 refine dI 1 rfl (by kernel_rfl) rfl (by kernel_rfl) (listed' := #[true, true, false, false, false, false, false, false, false, false, false, false, false, false]) rfl (fun wq sq => aHs rfl rfl hq ⟨rfl, rfl⟩) ?_
 refine dI 2 rfl (by kernel_rfl) rfl (by kernel_rfl) (listed' := #[true, true, true, false, false, false, false, false, false, false, false, false, false, false]) rfl (fun wq sq => aC rfl ⟨rfl, rfl⟩) ?_
 refine jI 3 rfl (by kernel_rfl) rfl (by kernel_rfl) (listed' := #[true, true, true, true, false, false, false, false, false, false, false, false, false, false]) rfl rfl rfl (fun wq sq => aC rfl ⟨rfl, rfl⟩) ?_
 refine jI 4 rfl (by kernel_rfl) rfl (by kernel_rfl) (listed' := #[true, true, true, true, true, false, false, false, false, false, false, false, false, false]) rfl rfl rfl (fun wq sq => aC rfl ⟨rfl, rfl⟩) ?_
 refine jI 5 rfl (by kernel_rfl) rfl (by kernel_rfl) (listed' := #[true, true, true, true, true, true, false, false, false, false, false, false, false, false]) rfl rfl rfl (fun wq sq => aC rfl ⟨rfl, rfl⟩) ?_
 refine jI 6 rfl (by kernel_rfl) rfl (by kernel_rfl) (listed' := #[true, true, true, true, true, true, true, false, false, false, false, false, false, false]) rfl rfl rfl (fun wq sq => pC (h := (fS xs k).length - 3) dA rfl rfl (by omega) (by omega) ⟨rfl, rfl⟩) ?_
 refine jI 8 rfl (by kernel_rfl) rfl (by kernel_rfl) (listed' := #[true, true, true, true, true, true, true, false, true, false, false, false, false, false]) rfl rfl rfl (fun wq sq => aC rfl ⟨rfl, rfl⟩) ?_
 refine jI 9 rfl (by kernel_rfl) rfl (by kernel_rfl) (listed' := #[true, true, true, true, true, true, true, false, true, true, false, false, false, false]) rfl rfl rfl (fun wq sq => aC rfl ⟨rfl, rfl⟩) ?_
 refine jI 10 rfl (by kernel_rfl) rfl (by kernel_rfl) (listed' := #[true, true, true, true, true, true, true, false, true, true, true, false, false, false]) rfl rfl rfl (fun wq sq => uG (l := (fS xs k).length - 3) dA rfl rfl (by omega) (by omega) ⟨rfl, rfl⟩) ?_
 refine aEs 7 rfl rfl (by kernel_rfl) (listed' := #[true, true, true, true, true, true, true, true, true, true, true, false, false, false]) rfl rfl rfl hp (aS zU rfl (aO (lV k _ _ _ _ ((fS xs k).take ((fS xs k).length - 3)) _ (hp.takeI _) (by rw [List.length_take]; omega) (by rw [List.length_take, rU]; omega) (aIr (vO hb k) _) (by omega)) ?_))
 rintro _ w14 ⟨AK, cK, rfl, oK, x13⟩
 replace oK := Own.low oK X.size
 replace oO := oO.ext x13
 replace hs := hs.ext x13
 replace hn := hn.ext x13
 replace oR := oR.ext x13
 replace hp := hp.ext x13
 replace X := Q7x X x13
 refine aEs 11 rfl rfl (by kernel_rfl) (listed' := #[true, true, true, true, true, true, true, true, true, true, true, true, false, false]) rfl rfl rfl hp (cW aDN rfl (aCh _ _ _ _ (qO k ((fS xs k).take ((fS xs k).length - 3))) _ _ _ _ ((fS xs k).drop ((fS xs k).length - 3)) _ oK.sl (hp.dropX _ hpc) (by rw [iQ]; omega) (iQ _ _) (by rw [List.length_drop]; rfl)) (fun w16 he x15 => ?_) (fun w16 he x15 => ?_))
 replace oO := oO.ext x15
 replace hs := hs.ext x15
 replace hn := hn.ext x15
 replace oR := oR.ext x15
 replace hp := hp.ext x15
 replace oK := oK.ext x15
 replace X := Q7x X x15
 refine jI 12 rfl (by kernel_rfl) rfl (by kernel_rfl) (listed' := #[true, true, true, true, true, true, true, true, true, true, true, true, true, false]) rfl rfl rfl (fun wq sq => cD rfl ⟨rfl, rfl⟩) ?_
 refine dI 13 rfl (by kernel_rfl) rfl (by kernel_rfl) (listed' := #[true, true, true, true, true, true, true, true, true, true, true, true, true, true]) rfl (fun wq sq => aJ rfl rfl ⟨rfl, rfl⟩) ?_
 refine kA rfl hp (fun aj fj => ⟨_, fj, ?_⟩)
 refine aL rfl ?_
 refine aU ?_
 refine dJ ?_
 refine aP ?_
 refine aM ?_
 have hbk : rQ xs k = false := by rw [aAJ (by omega), he]; rfl
 refine aA rfl (aZ rfl rfl (dR (by omega)) ?_)
 refine aA rfl (aC rfl ?_)
 refine aB ?_
 refine aP ⟨(k + 1, n1, A1, c1), (.cons rfl (.cons rfl (.cons rfl (.cons rfl (.cons rfl (.nil _)))))), ?_, ?_⟩
 · exact ⟨(by omega), (by omega), (by rw [nP, if_neg (by rw [hbk]; decide)]; exact hn1), (oO.to (by rw [nP, if_neg (by rw [hbk]; decide)])), hs, hn, oR, X⟩
 · first | omega | (dsimp only; omega)
 replace oO := oO.ext x15
 replace hs := hs.ext x15
 replace hn := hn.ext x15
 replace oR := oR.ext x15
 replace hp := hp.ext x15
 replace oK := oK.ext x15
 replace X := Q7x X x15
 refine jI 12 rfl (by kernel_rfl) rfl (by kernel_rfl) (listed' := #[true, true, true, true, true, true, true, true, true, true, true, true, true, false]) rfl rfl rfl (fun wq sq => cD rfl ⟨rfl, rfl⟩) ?_
 refine dI 13 rfl (by kernel_rfl) rfl (by kernel_rfl) (listed' := #[true, true, true, true, true, true, true, true, true, true, true, true, true, true]) rfl (fun wq sq => aJ rfl rfl ⟨rfl, rfl⟩) ?_
 refine kA rfl hp (fun aj fj => ⟨_, fj, ?_⟩)
 refine aR rfl ?_
 refine aM ?_
 have hbk : rQ xs k = true := by rw [aAJ (by omega), he]; rfl
 refine aA rfl (aC rfl ?_)
 refine aA rfl (aC rfl ?_)
 refine aA rfl (aN dA cY rfl rfl rfl rfl rfl ?_)
 intro g17 w19 eg17 oV bbg17 x18 zg17
 replace oV := Own.low oV X.size
 replace oO := oO.ext x18
 replace hs := hs.ext x18
 replace hn := hn.ext x18
 replace oR := oR.ext x18
 replace hp := hp.ext x18
 replace X := Q7x X x18
 refine aA rfl (cF (ts := #[]) oO X.size oV.sl rfl (eF [(k : Int)]) dA cY rfl rfl rfl rfl (by omega) (by omega) ?_)
 intro AoN coN w21 oN hg20
 replace hs := hs.grown hg20 (fun g hg => Q7l Bhs (Own.lt oO hg).1)
 replace hn := hn.grown hg20 (fun g hg => Q7l Bhn (Own.lt oO hg).1)
 replace oR := oR.grown hg20 (Own.neO oR oO (by decide))
 replace hp := hp.grown hg20 (fun g hg => Q7l Bhs (Own.lt oO hg).1)
 replace X := X.grown hg20 X.size (fun g hg => (Own.lt oO hg).1)
 clear hg20
 refine aA rfl (aD rfl ?_)
 refine aB ?_
 refine dJ ?_
 refine aP ?_
 refine aM ?_
 refine aA rfl (aZ rfl rfl (dR (by omega)) ?_)
 refine aA rfl (aC rfl ?_)
 refine aB ?_
 refine aP ⟨(k + 1, n1 + 1, AoN, coN), (.cons rfl (.cons rfl (.cons rfl (.cons rfl (.cons rfl (.nil _)))))), ?_, ?_⟩
 · exact ⟨(by omega), (by omega), (by rw [nP, if_pos hbk]; simp [hn1]), (oN.to (by rw [nP, if_pos hbk, List.flatMap_append]; rfl)), hs, hn, oR, X⟩
 · first | omega | (dsimp only; omega)
 refine aB ?_
 refine aQ ?_
 refine aL rfl ?_
 refine dC ?_
 refine dB ?_
 refine dB ?_
 refine eA ?_
 refine aP ?_
 refine aE ?_
 refine aA rfl (aC rfl ?_)
 refine aA rfl (aD rfl ?_)
 refine aB ?_
 refine aV ?_
 refine aK rfl rfl ?_
 · skip
   have hkE : k = nS xs.length := by omega
   rw [hkE] at oO hn1
   unfold dmg
   rw [← hn1]; exact ⟨A1, c1, rfl, oO, X⟩
def aAs (l : List Int) : ByteArray := ⟨(l.map fun x => x.toNat.toUInt8).toArray⟩
theorem vP (l : List Int) : (aAs l).data.toList = l.map fun x => x.toNat.toUInt8 := by simp [aAs]
def tL (l : List Int) : ByteArray := ⟨(l.flatMap fun x => (Utf8.encode x).data.toList).toArray⟩
theorem pZ (l : List Int) : (tL l).data.toList = l.flatMap fun x => (Utf8.encode x).data.toList := by simp [tL]
theorem aDl {a b : ByteArray} (h : a.data.toList = b.data.toList) : a = b := by
 cases a; cases b
 simp only at h
 congr 1
 exact Array.toList_inj.1 h
theorem aEQ {l : List Int} {k : Nat} {x : Int} (h : l[k]? = some x) : tL (l.take (k + 1)) = tL (l.take k) ++ Utf8.encode x := by
 apply aDl
 rw [pZ, List.take_add_one, h, ByteArray.data_append, Array.toList_append, pZ]
 simp [List.flatMap_append]
theorem aHx {x : Int} (h : 0 ≤ x ∧ x ≤ 127) : (Utf8.encode x).data.toList = [x.toNat.toUInt8] := by
 have hv : Utf8.valid x = true := by simp only [Utf8.valid, Bool.or_eq_true, Bool.and_eq_true, decide_eq_true_eq]; omega
 unfold Utf8.encode
 simp only [hv, if_true]
 rw [if_pos (by omega)]
theorem aFT {x : Int} (h : 128 ≤ x ∧ x ≤ 255) : ∃ b c : UInt8, (Utf8.encode x).data.toList = [b, c] ∧ fY b = false := by
 have hv : Utf8.valid x = true := by simp only [Utf8.valid, Bool.or_eq_true, Bool.and_eq_true, decide_eq_true_eq]; omega
 unfold Utf8.encode
 simp only [hv, if_true]
 rw [if_neg (by omega), if_pos (by omega)]
 refine ⟨_, _, rfl, ?_⟩
 have e : (UInt8.ofNat (192 + x.toNat / 64)).toNat = 192 + x.toNat / 64 := by
   rw [UInt8.toNat_ofNat']; omega
 show ((decide (97 ≤ (UInt8.ofNat (192 + x.toNat / 64)).toNat) && decide ((UInt8.ofNat (192 + x.toNat / 64)).toNat ≤ 122)) || (decide (48 ≤ (UInt8.ofNat (192 + x.toNat / 64)).toNat) && decide ((UInt8.ofNat (192 + x.toNat / 64)).toNat ≤ 57))) = false
 rw [e, decide_eq_false (p := 192 + x.toNat / 64 ≤ 122) (by omega), decide_eq_false (p := 192 + x.toNat / 64 ≤ 57) (by omega)]
 simp
theorem aCi (x : Int) : (Utf8.encode x).size ≤ 4 := by
 unfold Utf8.encode
 simp only []
 split
 · split <;> (try split) <;> (try split) <;> simp [ByteArray.size]
 · split <;> (try split) <;> (try split) <;> simp [ByteArray.size]
theorem vQ : ∀ (l : List Int), (tL l).size ≤ 4 * l.length
 | [] => by simp [tL, ByteArray.size]
 | x :: r => by
   have h1 := vQ r
   have h2 := aCi x
   rw [ByteArray.size, ← Array.length_toList, pZ] at h1 ⊢
   rw [ByteArray.size, ← Array.length_toList] at h2
   rw [List.flatMap_cons, List.length_append, List.length_cons]; omega
theorem aCj : ∀ (l : List Int), (∀ x ∈ l, 0 ≤ x ∧ x ≤ 127) → l.flatMap (fun x => (Utf8.encode x).data.toList) = l.map fun x => x.toNat.toUInt8
 | [], _ => rfl
 | x :: r, h => by rw [List.flatMap_cons, List.map_cons, aHx (h x (by simp)), aCj r fun y hy => h y (by simp [hy])]; rfl
theorem aER {l : List Int} (hb : ∀ x ∈ l, 0 ≤ x ∧ x ≤ 255) : tL l = aAs l ∨ (eJ (tL l) = false ∧ eJ (aAs l) = false) := by
 by_cases h : ∀ x ∈ l, x ≤ 127
 · left
   apply aDl
   rw [pZ, vP]
   exact aCj l fun x hx => ⟨(hb x hx).1, h x hx⟩
 · right
   obtain ⟨x, h1⟩ := Classical.not_forall.1 h
   obtain ⟨h1, h2⟩ := Classical.not_imp.1 h1
   have hx := hb x h1
   constructor
   · obtain ⟨b, c, e, hn⟩ := aFT (x := x) (by omega)
     have hm : b ∈ (tL l).data.toList := by
       rw [pZ]; exact List.mem_flatMap.2 ⟨x, h1, by rw [e]; simp⟩
     have : (tL l).data.toList.all fY = false := by
       rw [Bool.eq_false_iff]
       intro hall
       rw [List.all_eq_true.1 hall b hm] at hn; cases hn
     rw [eJ, this]; rfl
   · have hm : x.toNat.toUInt8 ∈ (aAs l).data.toList := by
       rw [vP]; exact List.mem_map.2 ⟨x, h1, rfl⟩
     have hn : fY x.toNat.toUInt8 = false := by
       have e : (x.toNat.toUInt8).toNat = x.toNat := by
         show (UInt8.ofNat x.toNat).toNat = _
         rw [UInt8.toNat_ofNat']; omega
       unfold fY
       rw [e, decide_eq_false (p := x.toNat ≤ 122) (by omega), decide_eq_false (p := x.toNat ≤ 57) (by omega)]; simp
     have : (aAs l).data.toList.all fY = false := by
       rw [Bool.eq_false_iff]
       intro hall
       rw [List.all_eq_true.1 hall _ hm] at hn; cases hn
     rw [eJ, this]; rfl
def wO (xs : List Int) (a : Nat) : NodeI := ⟨xs.getD a 0, aAs ((xs.drop (a + 5)).take (xs.getD (a + 4) 0).toNat), 256 * xs.getD (a + 1) 0 + xs.getD (a + 2) 0, decide (xs.getD (a + 3) 0 = 1)⟩
def nmL (xs : List Int) (a : Nat) : Nat := (xs.getD (a + 4) 0).toNat
def nH (xs : List Int) : Nat → Nat → Option (List NodeI × Nat)
 | 0, a => some ([], a)
 | n + 1, a => if a + 5 ≤ xs.length ∧ a + 5 + nmL xs a ≤ xs.length then (nH xs n (a + 5 + nmL xs a)).map fun r => (wO xs a :: r.1, r.2) else none
def lW (xs : List Int) : Option (List NodeI × Nat) := if xs.length = 0 then none else match nH xs (xs.getD 0 0).toNat 1 with
 | some r => if dV r.1 = true ∧ mW r.1 = xs.take r.2 then some r else none
 | none => none
theorem aEe (xs : List Int) : ∀ (n a : Nat) (r : List NodeI × Nat), nH xs n a = some r → a ≤ xs.length → r.2 ≤ xs.length ∧ a ≤ r.2 ∧ r.1.length = n
 | 0, a, r, h, ha => by simp [nH] at h; subst h; exact ⟨ha, Nat.le_refl _, rfl⟩
 | n + 1, a, r, h, ha => by
   rw [nH] at h
   split at h
   · rename_i h1
     cases h2 : nH xs n (a + 5 + nmL xs a) with
     | none => rw [h2] at h; simp at h
     | some q =>
       rw [h2] at h
       simp only [Option.map_some, Option.some.injEq] at h
       obtain ⟨h3, h4, h5⟩ := aEe xs n _ q h2 h1.2
       rw [← h]
       exact ⟨h3, by show a ≤ q.2; omega, by simp [h5]⟩
   · cases h
theorem aES {xs : List Int} {rem a : Nat} (hr : 0 < rem) (h : a + 5 + nmL xs a ≤ xs.length) : nH xs rem a = (nH xs (rem - 1) (a + 5 + nmL xs a)).map fun r => (wO xs a :: r.1, r.2) := by
 obtain ⟨r, rfl⟩ : ∃ r, rem = r + 1 := ⟨rem - 1, by omega⟩
 rw [nH, if_pos ⟨by omega, h⟩]; rfl
theorem aDm {xs : List Int} {rem a : Nat} (hr : 0 < rem) (h : xs.length < a + 5 + nmL xs a) : nH xs rem a = none := by
 obtain ⟨r, rfl⟩ : ∃ r, rem = r + 1 := ⟨rem - 1, by omega⟩
 rw [nH, if_neg (by omega)]
theorem aET {xs : List Int} (h : xs.length = 0) : lW xs = none := by rw [lW, if_pos h]
theorem aFU {xs : List Int} (h : xs.length ≠ 0) (hp : nH xs (xs.getD 0 0).toNat 1 = none) : lW xs = none := by rw [lW, if_neg h, hp]
theorem aCk {xs : List Int} {r : List NodeI × Nat} (h : xs.length ≠ 0) (hp : nH xs (xs.getD 0 0).toNat 1 = some r) (ht : dV r.1 = true) (hb : mW r.1 = xs.take r.2) : lW xs = some r := by rw [lW, if_neg h, hp]; simp [ht, hb]
theorem aEf {xs : List Int} {r : List NodeI × Nat} (h : xs.length ≠ 0) (hp : nH xs (xs.getD 0 0).toNat 1 = some r) (ht : dV r.1 = false) : lW xs = none := by rw [lW, if_neg h, hp]; simp [ht]
theorem aFV {xs : List Int} {r : List NodeI × Nat} (h : xs.length ≠ 0) (hp : nH xs (xs.getD 0 0).toNat 1 = some r) (hb : mW r.1 ≠ xs.take r.2) : lW xs = none := by rw [lW, if_neg h, hp]; simp [hb]
theorem aDn {xs : List Int} {r : List NodeI × Nat} (h : lW xs = some r) : dV r.1 = true ∧ mW r.1 = xs.take r.2 ∧ r.2 ≤ xs.length := by
 unfold lW at h
 split at h
 · cases h
 · rename_i h0
   split at h
   · rename_i q hq
     split at h
     · rename_i h1
       injection h with h; subst h
       exact ⟨h1.1, h1.2, (aEe xs _ 1 _ hq (by omega)).1⟩
     · cases h
   · cases h
def RdN (o : Option (List NodeI × Nat)) (ys : List NodeI) (sz : Int) (ok : Bool) : Prop := match o with
 | none => ys = [] ∧ sz = 0 ∧ ok = false
 | some r => ys = r.1 ∧ sz = (r.2 : Int) ∧ ok = true
theorem RdN.f {o : Option (List NodeI × Nat)} {ys : List NodeI} {sz : Int} (h : RdN o ys sz false) : o = none ∧ ys = [] ∧ sz = 0 := by
 cases o with
 | none => exact ⟨rfl, h.1, h.2.1⟩
 | some r => exact absurd h.2.2 (by decide)
theorem RdN.t {o : Option (List NodeI × Nat)} {ys : List NodeI} {sz : Int} (h : RdN o ys sz true) : ∃ r, o = some r ∧ ys = r.1 ∧ sz = (r.2 : Int) := by
 cases o with
 | none => exact absurd h.2.2 (by decide)
 | some r => exact ⟨r, rfl, h.1, h.2.1⟩
def c4 (xs : List Int) (a : Nat) : Nat := gU xs (gU xs (gU xs (gU xs a)))
def b4 (xs : List Int) (a : Nat) (b : Bool) : Bool := eU xs (gU xs (gU xs (gU xs a))) (eU xs (gU xs (gU xs a)) (eU xs (gU xs a) (eU xs a b)))
def mG (xs : List Int) (a : Nat) : List Int × Nat × Bool := iH xs (nV xs (c4 xs a)).toNat (gU xs (c4 xs a)) (eU xs (c4 xs a) (b4 xs a false))
def wP (xs : List Int) (a : Nat) : NodeI := ⟨nV xs a, tL (mG xs a).1, 256 * nV xs (gU xs a) + nV xs (gU xs (gU xs a)), decide (nV xs (gU xs (gU xs (gU xs a))) = 1)⟩
theorem aHy {xs : List Int} {a : Nat} (ha : a ≤ xs.length) : (mG xs a).2.1 ≤ xs.length := yO xs _ _ _ (fG (fG (fG (fG (fG ha)))))
theorem aFW {xs : List Int} (hb : rL xs = true) (a : Nat) : (mG xs a).1.length ≤ 255 := by
 have h1 := nU hb (c4 xs a)
 exact Q7l (vM xs _ _ _) (by omega)
theorem aAM {xs : List Int} {a : Nat} (h : a + 5 + nmL xs a ≤ xs.length) :
   mG xs a = ((xs.drop (a + 5)).take (nmL xs a), a + 5 + nmL xs a, false) ∧ nV xs a = xs.getD a 0 ∧ nV xs (gU xs a) = xs.getD (a + 1) 0 ∧ nV xs (gU xs (gU xs a)) = xs.getD (a + 2) 0 ∧ nV xs (gU xs (gU xs (gU xs a))) = xs.getD (a + 3) 0 := by
 obtain ⟨h1, h2, h3⟩ := mZ (show a < xs.length by omega) false
 obtain ⟨h4, h5, h6⟩ := mZ (show a + 1 < xs.length by omega) false
 obtain ⟨h7, h8, h9⟩ := mZ (show a + 1 + 1 < xs.length by omega) false
 obtain ⟨h10, h11, h12⟩ := mZ (show a + 1 + 1 + 1 < xs.length by omega) false
 obtain ⟨h13, h14, h15⟩ := mZ (show a + 1 + 1 + 1 + 1 < xs.length by omega) false
 have e4 : c4 xs a = a + 4 := by unfold c4; rw [h1, h4, h7, h10]
 have e5 : b4 xs a false = false := by unfold b4; rw [h1, h4, h7, h2, h5, h8, h11]
 refine ⟨?_, h3, by rw [h1, h6], by rw [h1, h4, h9], by rw [h1, h4, h7, h12]⟩
 unfold mG
 rw [e4, e5, h13, h14, h15]
 exact qM xs _ _ h
theorem aDo {xs : List Int} {a : Nat} (ha : a ≤ xs.length) (h : xs.length < a + 5 + nmL xs a) : (mG xs a).2.2 = true := by
 unfold mG
 by_cases e : eU xs (c4 xs a) (b4 xs a false) = true
 · rw [e]; exact pR xs _ _
 · have e0 : ¬ a = xs.length := fun h => e (by
     have : eU xs a false = true := by unfold eU; rw [if_pos h]
     unfold b4; rw [this, iB, iB, iB, iB])
   obtain ⟨h1, h2, h3⟩ := mZ (show a < xs.length by omega) false
   have e1 : ¬ a + 1 = xs.length := fun h => e (by
     have : eU xs (a + 1) (eU xs a false) = true := by unfold eU; rw [if_pos h]
     unfold b4; rw [h1, this, iB, iB, iB])
   obtain ⟨h4, h5, h6⟩ := mZ (show a + 1 < xs.length by omega) false
   have e2 : ¬ a + 1 + 1 = xs.length := fun h => e (by
     have : eU xs (a + 1 + 1) (eU xs (a + 1) (eU xs a false)) = true := by unfold eU; rw [if_pos h]
     unfold b4; rw [h1, h4, this, iB, iB])
   obtain ⟨h7, h8, h9⟩ := mZ (show a + 1 + 1 < xs.length by omega) false
   have e3 : ¬ a + 1 + 1 + 1 = xs.length := fun h => e (by
     have : eU xs (a + 1 + 1 + 1) (eU xs (a + 1 + 1) (eU xs (a + 1) (eU xs a false))) = true := by unfold eU; rw [if_pos h]
     unfold b4; rw [h1, h4, h7, this, iB])
   obtain ⟨h10, h11, h12⟩ := mZ (show a + 1 + 1 + 1 < xs.length by omega) false
   have e4 : c4 xs a = a + 4 := by unfold c4; rw [h1, h4, h7, h10]
   have e5 : ¬ a + 1 + 1 + 1 + 1 = xs.length := fun h => e (by
     rw [e4]; unfold eU; rw [if_pos h])
   obtain ⟨h13, h14, h15⟩ := mZ (show a + 1 + 1 + 1 + 1 < xs.length by omega) false
   have e6 : b4 xs a false = false := by unfold b4; rw [h1, h4, h7, h2, h5, h8, h11]
   rw [e4, e6, h13, h14, h15]
   exact pJ xs _ _ (by omega) (by show xs.length < a + 5 + nmL xs a; exact h)
def RelN (ys zs : List NodeI) : Prop := ys = zs ∨ ((∃ y ∈ ys, eL y = false) ∧ ∃ z ∈ zs, eL z = false)
theorem RelN.snoc {ys zs : List NodeI} {y z : NodeI} (h : RelN ys zs) (h2 : y = z ∨ (eL y = false ∧ eL z = false)) : RelN (ys ++ [y]) (zs ++ [z]) := by
 rcases h with h | ⟨⟨u, hu, hu2⟩, v, hv, hv2⟩
 · rcases h2 with h2 | ⟨h2, h3⟩
   · left; rw [h, h2]
   · right; exact ⟨⟨y, by simp, h2⟩, z, by simp, h3⟩
 · right; exact ⟨⟨u, by simp [hu], hu2⟩, v, by simp [hv], hv2⟩
theorem aFX {ys : List NodeI} (h : ∃ y ∈ ys, eL y = false) : dV ys = false := by
 obtain ⟨y, h1, h2⟩ := h
 rw [Bool.eq_false_iff]
 intro h3
 rw [kX h3 y h1] at h2; cases h2
theorem aEU {xs : List Int} (hb : rL xs = true) {a : Nat} (h : a + 5 + nmL xs a ≤ xs.length) : wP xs a = wO xs a ∨ (eL (wP xs a) = false ∧ eL (wO xs a) = false) := by
 obtain ⟨e, h1, h2, h3, h4⟩ := aAM h
 have hl : ∀ x ∈ (xs.drop (a + 5)).take (nmL xs a), 0 ≤ x ∧ x ≤ 255 := fun x hx => by
   obtain ⟨k, hk⟩ := List.mem_iff_getElem?.1 (List.mem_of_mem_drop (List.mem_of_mem_take hx))
   exact uO hb hk
 have e1 : wP xs a = ⟨xs.getD a 0, tL ((xs.drop (a + 5)).take (nmL xs a)), 256 * xs.getD (a + 1) 0 + xs.getD (a + 2) 0, decide (xs.getD (a + 3) 0 = 1)⟩ := by
   unfold wP; rw [e, h1, h2, h3, h4]
 rw [e1]
 rcases aER hl with h5 | ⟨h5, h6⟩
 · left; rw [h5]; rfl
 · right
   unfold wO
   change eJ (aAs ((xs.drop (a + 5)).take (nmL xs a))) = false at h6
   constructor
   · simp only [eL, h5, Bool.and_false, Bool.false_and]
   · have h7 : eJ (aAs ((xs.drop (a + 5)).take (xs.getD (a + 4) 0).toNat)) = false := h6
     simp only [eL, h7, Bool.and_false, Bool.false_and]
def HgN (xs : List Int) (rem a : Nat) (b : Bool) (ys : List NodeI) : Prop :=
 (b = false → xs.length ≠ 0 ∧ ∃ zs, RelN ys zs ∧ nH xs (xs.getD 0 0).toNat 1 = (nH xs rem a).map fun r => (zs ++ r.1, r.2)) ∧ (b = true → lW xs = none)
theorem HgN.start (xs : List Int) : HgN xs (nV xs 0).toNat (gU xs 0) (eU xs 0 false) [] := by
 by_cases h : xs.length = 0
 · have e : eU xs 0 false = true := by unfold eU; rw [if_pos h.symm]
   rw [e]
   exact ⟨fun hh => (by cases hh), fun _ => aET h⟩
 · obtain ⟨h1, h2, h3⟩ := mZ (xs := xs) (a := 0) (by omega) false
   rw [h1, h2, h3]
   refine ⟨fun _ => ⟨h, [], .inl rfl, ?_⟩, fun hh => (by cases hh)⟩
   cases nH xs (xs.getD 0 0).toNat (0 + 1) <;> simp
theorem HgN.step {xs : List Int} {rem a : Nat} {ys : List NodeI} (hB : rL xs = true) (h : HgN xs rem a false ys) (hr : 0 < rem) (ha : a ≤ xs.length) :
   HgN xs (rem - 1) (mG xs a).2.1 (mG xs a).2.2 (ys ++ [wP xs a]) := by
 obtain ⟨h3, zs, h4, h5⟩ := h.1 rfl
 by_cases hg : a + 5 + nmL xs a ≤ xs.length
 · obtain ⟨e, _⟩ := aAM hg
   rw [e]
   refine ⟨fun _ => ⟨h3, zs ++ [wO xs a], h4.snoc (aEU hB hg), ?_⟩, fun hb => by cases hb⟩
   rw [h5, aES hr hg]
   cases nH xs (rem - 1) (a + 5 + nmL xs a) <;> simp
 · have e := aDo ha (by omega)
   rw [e]
   refine ⟨fun hb => (by cases hb), fun _ => aFU h3 ?_⟩
   rw [h5, aDm hr (by omega)]; rfl
theorem HgN.stop {xs : List Int} {a : Nat} {ys : List NodeI} (h : HgN xs 0 a false ys) : (dV ys = false → lW xs = none) ∧ (dV ys = true → mW ys ≠ xs.take a → lW xs = none) ∧ (dV ys = true → mW ys = xs.take a → lW xs = some (ys, a)) := by
 obtain ⟨h3, zs, h4, h5⟩ := h.1 rfl
 have h6 : nH xs (xs.getD 0 0).toNat 1 = some (zs, a) := by rw [h5]; simp [nH]
 rcases h4 with rfl | ⟨h7, h8⟩
 · exact ⟨fun h => aEf h3 h6 h, fun _ h => aFV h3 h6 h, fun h1 h2 => aCk h3 h6 h1 h2⟩
 · have h9 := aFX h7
   exact ⟨fun _ => aEf h3 h6 (aFX h8), fun h => (by rw [h9] at h; cases h), fun h => (by rw [h9] at h; cases h)⟩
section
variable {P : Program} {n : Nat} {ops : Array Oper} {K : List (Nat × Value) → World → Prop} {l : List Oper} {fl : List Bool} {e : List (Nat × Value)} {S : World → Prop}
end
theorem aEV {P : Program} {e : List (Nat × Value)} {w : World} {K : Value → World → Prop} {ty : TypeId} {x : Operand} {src dst : TypeId} {k k1 : IntKind} {n : Int} (hs : P.underlying src = some (.int k1)) (hd : P.underlying dst = some .string) (hx : fF e x = some (.int k n)) (h : K (.string (Utf8.encode n)) w) : OpWp P e (.convert src dst x) ty w K := fun ρ d p a g hρ => by
 have h1 := hρ _ _ hx
 simp [execOp, h1, convert, run_underlying hs, run_underlying hd, Conv.intToString, upto]; exact h
theorem aKK {n : Int} (h : 0 ≤ n ∧ n ≤ 255) : IntKind.i32.wrap n = n := by
 have h1 : n % 4294967296 = n := by omega
 simp [IntKind.wrap, IntKind.bits, IntKind.signed, h1]; omega
theorem aEg {xs : List Int} (hb : rL xs = true) : ∀ (n a : Nat) (bad : Bool), ∀ x ∈ (iH xs n a bad).1, 0 ≤ x ∧ x ≤ 255
 | 0, a, bad, x, hx => by simp [iH] at hx
 | n + 1, a, true, x, hx => by simp [iH] at hx
 | n + 1, a, false, x, hx => by
   simp only [iH] at hx
   rcases List.mem_cons.1 hx with rfl | h
   · exact nU hb a
   · exact aEg hb n _ _ x h
theorem aIs {xs : List Int} {a k : Nat} {z : Int} (hb : rL xs = true) (h : (mG xs a).1[k]? = some z) : 0 ≤ z ∧ z ≤ 255 := aEg hb _ _ _ z (List.mem_of_getElem? h)
end Go.Proofs.YtdoibplhbdkapaaGreatDoor
