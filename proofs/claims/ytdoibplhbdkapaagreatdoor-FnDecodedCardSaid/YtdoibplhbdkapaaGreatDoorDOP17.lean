/- Parts. No condition. -/
import Derived.Test.YtdoibplhbdkapaaGreatDoorDOP16
import Derived.Test.YtdoibplhbdkapaaGreatDoorDOP9
import Derived.Test.YtdoibplhbdkapaaGreatDoorDOP13
import Derived.Test.YtdoibplhbdkapaaGreatDoorDOP14
import Derived.Test.YtdoibplhbdkapaaGreatDoorDOP12
import Derived.Test.YtdoibplhbdkapaaGreatDoorDOP3
namespace Go.Proofs.YtdoibplhbdkapaaGreatDoor
open Go.RowKit
set_option linter.unusedVariables false
set_option linter.unusedSimpArgs false
set_option maxRecDepth 20000
theorem aK0 (m : MedlI) (B : Nat) (w : World) (hm : Med B w m) (hz : m.small) :
   Calls Tryz.prog 154 #[.agg m.cells.toArray] w (fF fun v w' => v = .int .i64 (aBe m.d) ∧ Ext w w') := by
 have hls := hz.ls
 have hlm := hz.lm
 have hln := hz.ln
 have hl := hls
 have Bhm := hm.1
 have X := Q7r w
 refine bJ (args := [.agg m.cells.toArray]) Tryz.func154 Tryz.ntmps154 rfl rfl (aF (aA rfl (eX rfl rfl ?_)))
 intro g4 w3 eg4 b1 x2 zg4
 have lg4 : w.heap.size ≤ g4 := Q7l X.size (Q7e eg4.symm)
 have pg4hm := Q7l hm.1 (Q7e eg4.symm)
 replace hm := hm.ext x2
 replace X := Q7x X x2; clear x2
 refine aA rfl (aE rfl (aB (aR (aX (aF (aA rfl (aG pL rfl rfl (aA rfl (aJ b1 dB rfl rfl (aA rfl (cV kC rfl (iQ _ _ _ _) (fun w6 hI x5 => ?_) (fun w6 hI x5 => ?_))))))))))))
 replace hm := hm.ext x5
 replace b1 := b1.ext x5
 replace X := Q7x X x5; clear x5
 refine aA rfl (bP rfl (aA rfl (aE rfl (aB (aM rfl (aF (aA rfl (aG lY rfl rfl (aA rfl (aJ b1 zS rfl rfl (aA rfl (cV aHz rfl (aEX _ _ _ _ _ hm.sn hln (fun x hx => by have := hz.lz x hx; omega)) (fun w9 hN x7 => ?_) (fun w9 hN x7 => ?_)))))))))))))
 replace hm := hm.ext x7
 replace b1 := b1.ext x7
 replace X := Q7x X x7; clear x7
 refine aA rfl (bP rfl (aA rfl (aE rfl (aB (aM rfl (aF (aA rfl (aG jF rfl rfl (aA rfl (aJ b1 tZ rfl rfl (aA rfl (cV aHA rfl (aFj _ _ _ _ _ _ hm.sm hm.sx hlm hz.lx) (fun w11 hT x10 => ?_) (fun w11 hT x10 => ?_)))))))))))))
 replace hm := hm.ext x10
 replace b1 := b1.ext x10
 replace X := Q7x X x10
 refine aA rfl (bP rfl (aA rfl (aE rfl (aB (aM rfl (aF (aA rfl (aG fI rfl rfl (aA rfl (aJ b1 kY rfl rfl (aA rfl (cV aHB rfl (aFh _ _ _ _ _ hm.ss hl) (fun w13 hS x12 => ?_) (fun w13 hS x12 => ?_)))))))))))))
 replace hm := hm.ext x12
 replace b1 := b1.ext x12
 replace X := Q7x X x12
 have hok := aBf hS
 refine aA rfl (bP rfl (aA rfl (aE rfl (aB (aM rfl (aF (aA rfl (dE b1 dW rfl rfl (aA rfl (cV aKn rfl (aBk m _ _ hm hz hT hS) (fun w15 hC x14 => ?_) (fun w15 hC x14 => ?_)))))))))))
 replace hm := hm.ext x14
 replace b1 := b1.ext x14
 replace X := Q7x X x14
 refine aA rfl (bP rfl (aA rfl (aE rfl (aB (aM rfl (aF (aA rfl (dE b1 dW rfl rfl (aA rfl (cV aKo rfl (aB3 m _ _ hm hz hok hN) (fun w17 hE x16 => ?_) (fun w17 hE x16 => ?_)))))))))))
 replace hm := hm.ext x16
 replace b1 := b1.ext x16
 replace X := Q7x X x16
 refine aA rfl (bP rfl (aA rfl (aE rfl (aB (aM rfl (aF (aA rfl (dE b1 dW rfl rfl (aA rfl (cV aKp rfl (aAz m _ _ hm hz) (fun w19 hD x18 => ?_) (fun w19 hD x18 => ?_)))))))))))
 replace hm := hm.ext x18
 replace b1 := b1.ext x18
 replace X := Q7x X x18
 refine aA rfl (bP rfl (aA rfl (aE rfl (aB (aM rfl (aV (dO (aS (aR (aF (aA rfl (aE rfl (aB (aX ?_))))))))))))))
 refine dG (G := Nat) (fun k => [(1, .pointer (some ⟨g4, 0, none⟩)), (3, .int .i64 (k : Nat))]) (fun k wr => k ≤ m.ms.length ∧ sU m.d = ((List.range m.ms.length).drop k).all (fun (i : Nat) => decide (cyc m.ss i ≤ 32000)) ∧ Med B wr m ∧ Blk wr g4 28 m.cells ∧ Ext w wr) (fun k => m.ms.length - k) 0 (.cons rfl (.cons rfl (.nil _))) ?_ ?_
 · exact ⟨by omega, aDJ, hm, b1, X⟩
 clear hm b1
 clear X
 rintro k wr ⟨hk0, hi, hm, b1, X⟩
 refine aR (aF (aA rfl (aC rfl (aA rfl (aG jF rfl rfl (aA rfl (aJ b1 tZ rfl rfl (aA rfl (bO Tryz.underlying25 rfl (aA rfl (cU rfl rfl (fun hk => ?_) (fun hk => ?_))))))))))))
 refine aB (aQ rfl (aV (aS (aR (aX (aF (aA rfl (dE b1 dW rfl rfl (aA rfl (aC rfl (aA rfl (aT aKq rfl (aP (aDU _ _ (k : Int) _ hm hz hok) ?_)))))))))))))
 rintro _ w21 ⟨rfl, x20⟩
 replace hm := hm.ext x20
 replace b1 := b1.ext x20
 replace X := Q7x X x20
 refine aA rfl (fG rfl rfl (fun hc => ?_) (fun hc => ?_))
 have hSh : sU m.d = false := by rw [hi, qJ (by omega), decide_eq_false (show ¬ cyc m.ss k ≤ 32000 by omega)]; rfl
 refine aB (aQ rfl (aF (aA rfl (aE rfl (aB (aW (dL (bN (bN (dL (bN (aL rfl rfl ?_))))))))))))
 · skip
   refine ⟨congrArg (Value.int .i64) ?_, X⟩
   rw [lG]
   try clear hi
   try clear hi2
   simp [*]
 refine aB (aM rfl (aV (dO (aS (aN (aA rfl (aC rfl (aA rfl (aY rfl rfl (dM (by omega)) (aA rfl (aE rfl (aB (aS ⟨k + 1, (.cons rfl (.cons rfl (.nil _))), ?_, ?_⟩)))))))))))))
 · exact ⟨by omega, (by rw [hi, qJ (by omega), decide_eq_true (show cyc m.ss k ≤ 32000 by omega)]; rfl), hm, b1, X⟩
 · first | omega | (dsimp only; omega)
 have hSh : sU m.d = true := by rw [hi, yO hk]
 refine aB (aM rfl (dD (dC (dC (eG (aS (aR (aF (aA rfl (dE b1 dW rfl rfl (aA rfl (cV aKr rfl (aCW m _ _ hm hz hok hN hT) (fun w23 hV x22 => ?_) (fun w23 hV x22 => ?_)))))))))))))
 replace hm := hm.ext x22
 replace b1 := b1.ext x22
 replace X := Q7x X x22
 refine aA rfl (bP rfl (aB (aM rfl (aV (aS (aR (aF (aA rfl (aE rfl (aB (aX (dG (G := Nat) (fun j => [(1, .pointer (some ⟨g4, 0, none⟩)), (4, .int .i64 (j : Nat))]) (fun j wr => j ≤ m.ss.length ∧ sZ m.ss = sZ (m.ss.drop j) ∧ Med B wr m ∧ Blk wr g4 28 m.cells ∧ Ext w wr) (fun j => m.ss.length - j) 0 (.cons rfl (.cons rfl (.nil _))) ?_ ?_))))))))))))
 · exact ⟨by omega, rfl, hm, b1, X⟩
 clear hm b1
 clear X
 rintro j wr ⟨hj0, hi2, hm, b1, X⟩
 refine aR (aF (aA rfl (aC rfl (aA rfl (aG fI rfl rfl (aA rfl (aJ b1 kY rfl rfl (aA rfl (bO Tryz.underlying26 rfl (aA rfl (cU rfl rfl (fun hj => ?_) (fun hj => ?_))))))))))))
 obtain ⟨x, hx, dx⟩ := dR hj
 refine aB (aQ rfl (aV (aS (aR (aX (aF (aA rfl (aG fI rfl rfl (aA rfl (aJ b1 kY rfl rfl (aA rfl (aC rfl (aA rfl (aU hm.ss SlotI.len rfl gF rfl rfl rfl hx rfl (aA rfl (dF iN rfl (aA rfl (dF fM rfl (aA rfl (sE hm.ss SlotI.len hx dB rfl rfl rfl (aA rfl (dP rfl rfl (fun hc3 => ?_) (fun hc3 => ?_)))))))))))))))))))))))
 refine aA rfl (aC rfl (aI rfl rfl rfl (aG fI rfl rfl (aI rfl rfl rfl (aJ b1 kY rfl rfl (aI rfl rfl rfl (aC rfl (aI rfl rfl rfl (aU hm.ss SlotI.len rfl gF rfl rfl rfl hx rfl (aI rfl rfl rfl (dF iA rfl (aI rfl rfl rfl (eF hm.ss SlotI.len hx dB rfl rfl rfl (aI rfl rfl rfl (gH rfl rfl (fun hc4 => ?_) (fun hc4 => ?_))))))))))))))))
 have hCo : sZ m.ss = true := by rw [hi2, dx]; simp [sZ, *]
 refine aA rfl (aK rfl rfl (aB (aQ rfl (aF (aA rfl (aE rfl (aB (aW (dL (bN (bN (dL (bN (aL rfl rfl ?_))))))))))))))
 · skip
   refine ⟨congrArg (Value.int .i64) ?_, X⟩
   rw [lG]
   try clear hi
   try clear hi2
   simp [*]
 refine aA rfl (aK rfl rfl (aB (aM rfl (aV (dO (aS (aN (aA rfl (aC rfl (aA rfl (aY rfl rfl (dM (by omega)) (aA rfl (aE rfl (aB (aS ⟨j + 1, (.cons rfl (.cons rfl (.nil _))), ?_, ?_⟩)))))))))))))))
 · exact ⟨by omega, (by rw [hi2, dx]; simp [sZ, *]), hm, b1, X⟩
 · first | omega | (dsimp only; omega)
 refine aA rfl (aC rfl (aH rfl rfl rfl rfl (aH rfl rfl rfl rfl (aH rfl rfl rfl rfl (aH rfl rfl rfl rfl (aH rfl rfl rfl rfl (aH rfl rfl rfl rfl (aH rfl rfl rfl rfl (aA rfl (aK rfl rfl (aB (aM rfl (aV (dO (aS (aN (aA rfl (aC rfl (aA rfl (aY rfl rfl (dM (by omega)) (aA rfl (aE rfl (aB (aS ⟨j + 1, (.cons rfl (.cons rfl (.nil _))), ?_, ?_⟩))))))))))))))))))))))))
 · exact ⟨by omega, (by rw [hi2, dx]; simp [sZ, *]), hm, b1, X⟩
 · first | omega | (dsimp only; omega)
 have hCo : sZ m.ss = false := by rw [hi2, bL hj]; rfl
 refine aB (aM rfl (dD (dC (dC (eG (aS (aF (aA rfl (aE rfl (aB (aW (aL rfl rfl ?_))))))))))))
 · skip
   refine ⟨congrArg (Value.int .i64) ?_, X⟩
   rw [lG]
   try clear hi
   try clear hi2
   simp [*]
 replace hm := hm.ext x22
 replace b1 := b1.ext x22
 replace X := Q7x X x22
 refine aA rfl (bP rfl (aB (aQ rfl (aF (aA rfl (aE rfl (aB (aW (bN (aL rfl rfl ?_))))))))))
 · skip
   refine ⟨congrArg (Value.int .i64) ?_, X⟩
   rw [lG]
   try clear hi
   try clear hi2
   simp [*]
 replace hm := hm.ext x18
 replace b1 := b1.ext x18
 replace X := Q7x X x18
 refine aA rfl (bP rfl (aA rfl (aE rfl (aB (aQ rfl (aF (aA rfl (aE rfl (aB (aW (dL (bN (aL rfl rfl ?_)))))))))))))
 · skip
   refine ⟨congrArg (Value.int .i64) ?_, X⟩
   rw [lG]
   try clear hi
   try clear hi2
   simp [*]
 replace hm := hm.ext x16
 replace b1 := b1.ext x16
 replace X := Q7x X x16
 refine aA rfl (bP rfl (aA rfl (aE rfl (aB (aQ rfl (aF (aA rfl (aE rfl (aB (aW (dL (bN (aL rfl rfl ?_)))))))))))))
 · skip
   refine ⟨congrArg (Value.int .i64) ?_, X⟩
   rw [lG]
   try clear hi
   try clear hi2
   simp [*]
 replace hm := hm.ext x14
 replace b1 := b1.ext x14
 replace X := Q7x X x14
 refine aA rfl (bP rfl (aA rfl (aE rfl (aB (aQ rfl (aF (aA rfl (aE rfl (aB (aW (dL (bN (aL rfl rfl ?_)))))))))))))
 · skip
   refine ⟨congrArg (Value.int .i64) ?_, X⟩
   rw [lG]
   try clear hi
   try clear hi2
   simp [*]
 replace hm := hm.ext x12
 replace b1 := b1.ext x12
 replace X := Q7x X x12
 refine aA rfl (bP rfl (aA rfl (aE rfl (aB (aQ rfl (aF (aA rfl (aE rfl (aB (aW (dL (bN (aL rfl rfl ?_)))))))))))))
 · skip
   refine ⟨congrArg (Value.int .i64) ?_, X⟩
   rw [lG]
   try clear hi
   try clear hi2
   simp [*]
 replace hm := hm.ext x10
 replace b1 := b1.ext x10
 replace X := Q7x X x10
 refine aA rfl (bP rfl (aA rfl (aE rfl (aB (aQ rfl (aF (aA rfl (aE rfl (aB (aW (dL (bN (aL rfl rfl ?_)))))))))))))
 · skip
   refine ⟨congrArg (Value.int .i64) ?_, X⟩
   rw [lG]
   try clear hi
   try clear hi2
   simp [*]
 replace hm := hm.ext x7
 replace b1 := b1.ext x7
 replace X := Q7x X x7; clear x7
 refine aA rfl (bP rfl (aA rfl (aE rfl (aB (aQ rfl (aF (aA rfl (aE rfl (aB (aW (dL (bN (aL rfl rfl ?_)))))))))))))
 · skip
   refine ⟨congrArg (Value.int .i64) ?_, X⟩
   rw [lG]
   try clear hi
   try clear hi2
   simp [*]
 replace hm := hm.ext x5
 replace b1 := b1.ext x5
 replace X := Q7x X x5; clear x5
 refine aA rfl (bP rfl (aA rfl (aE rfl (aB (aQ rfl (aF (aA rfl (aE rfl (aB (aW (dL (bN (aL rfl rfl ?_)))))))))))))
 · skip
   refine ⟨congrArg (Value.int .i64) ?_, X⟩
   rw [lG]
   try clear hi
   try clear hi2
   simp [*]
theorem aJn (A : Option Addr) (B c : Nat) (xs : List SlotI) (F : FuncId) (cv : List Value) (p : SlotI → Bool) (S : World → Prop) (w : World) (hs : Sl B w A (xs.flatMap SlotI.cells)) (hl : xs.length ≤ 1048576) (entG : bQ Tryz.prog F) (hS : Kept S w) (hf : ∀ (x : SlotI) (w1 : World), S w1 → x ∈ xs → Calls Tryz.prog F (.agg x.cells.toArray :: cv).toArray w1 (fF fun v w2 => v = .bool (p x) ∧ Ext w1 w2)) :
   Calls Tryz.prog 190 #[.slice A xs.length c, .func (.func F) #[] cv.toArray] w (fF fun v w' => v = .int .i64 (iC p 0 xs) ∧ Ext w w') := by
 have Bhs := hs.1
 have X := Q7r w
 refine bJ (args := [.slice A xs.length c, .func (.func F) #[] cv.toArray]) Tryz.func190 Tryz.ntmps190 rfl rfl (aF (aA rfl (aE rfl (aB (aR (aF (aA rfl (aC rfl (aA rfl (bO Tryz.underlying26 rfl (aA rfl (aC rfl (aB (aX (dG (G := Nat) (fun k => [(0, .slice A xs.length c), (1, .func (.func F) #[] cv.toArray), (7, .int .i64 (xs.length : Nat)), (8, .int .i64 (k : Nat))]) (fun k wr => k ≤ xs.length ∧ iC p 0 xs = iC p (k : Int) (xs.drop k) ∧ Sl B wr A (xs.flatMap SlotI.cells) ∧ Kept S wr ∧ Ext w wr) (fun k => xs.length - k) 0 (.cons rfl (.cons rfl (.cons rfl (.cons rfl (.nil _))))) ?_ ?_)))))))))))))))
 · exact ⟨by omega, rfl, hs, hS, X⟩
 clear hs hS
 clear X
 rintro k wr ⟨hk0, hi, hs, hS, X⟩
 refine aF (aA rfl (cU rfl rfl (fun hk => ?_) (fun hk => ?_)))
 obtain ⟨x, hx, dx⟩ := dR hk
 refine aB (aR (aQ rfl (aV (aS (aR (aX (aF (aA rfl (aC rfl (aA rfl (aE rfl (aB (aF (aA rfl (aC rfl (aA rfl (aC rfl (aA rfl (aC rfl (aA rfl (aU hs SlotI.len rfl gF rfl rfl rfl hx rfl (aA rfl (eE hs SlotI.len hx eQ rfl (aA rfl (wF entG rfl rfl (hf x _ hS.h (List.mem_of_getElem? hx)) (fun w2 hF x1 => ?_) (fun w2 hF x1 => ?_))))))))))))))))))))))))))
 replace hs := hs.ext x1
 replace hS := hS.ext x1
 replace X := Q7x X x1; clear x1
 refine aB (aQ rfl (aF (aA rfl (aC rfl (aA rfl (aE rfl (aB (aW (dL (bN (bN (dL (bN (aL rfl rfl ?_))))))))))))))
 · skip
   refine ⟨congrArg (Value.int .i64) ?_, X⟩
   first | (rw [hi, bL hk]; rfl) | (rw [hi, dx, iC, if_pos hF])
 replace hs := hs.ext x1
 replace hS := hS.ext x1
 replace X := Q7x X x1; clear x1
 refine aB (aM rfl (aV (dO (aS (aN (aA rfl (aY rfl rfl (dM (by omega)) (aA rfl (aC rfl (aB (aS ⟨k + 1, (.cons rfl (.cons rfl (.cons rfl (.cons rfl (.nil _))))), ?_, ?_⟩)))))))))))
 · exact ⟨by omega, (by rw [hi, dx, iC, if_neg (by simp [*])]; rfl), hs, hS, X⟩
 · first | omega | (dsimp only; omega)
 refine aB (aR (aM rfl (dD (dC (dC (eG (aS (aF (aA rfl (aE rfl (aB (aW (aL rfl rfl ?_)))))))))))))
 · skip
   refine ⟨congrArg (Value.int .i64) ?_, X⟩
   first | (rw [hi, bL hk]; rfl) | (rw [hi, dx, iC, if_pos hF])
theorem aIS (A : Option Addr) (B c : Nat) (xs : List SlotI) (F : FuncId) (cv : List Value) (p : SlotI → Bool) (S : World → Prop) (w : World) (hs : Sl B w A (xs.flatMap SlotI.cells)) (hl : xs.length ≤ 1048576) (entG : bQ Tryz.prog F) (hS : Kept S w) (hf : ∀ (x : SlotI) (w1 : World), S w1 → x ∈ xs → Calls Tryz.prog F (.agg x.cells.toArray :: cv).toArray w1 (fF fun v w2 => v = .bool (p x) ∧ Ext w1 w2)) :
   Calls Tryz.prog 186 #[.slice A xs.length c, .func (.func F) #[] cv.toArray] w (fF fun v w' => v = .bool (xs.any p) ∧ Ext w w') := by
 have Bhs := hs.1
 have X := Q7r w
 refine bJ (args := [.slice A xs.length c, .func (.func F) #[] cv.toArray]) Tryz.func186 Tryz.ntmps186 rfl rfl (aF (aA rfl (aE rfl (aB (aF (aA rfl (aC rfl (aA rfl (aC rfl (aA rfl (aT aHw rfl (aP (aJn _ _ _ _ F cv p S _ hs hl entG hS hf) ?_))))))))))))
 rintro _ w2 ⟨rfl, x1⟩
 replace hs := hs.ext x1
 replace hS := hS.ext x1
 replace X := Q7x X x1; clear x1
 exact aA rfl (vX rfl rfl (aA rfl (aE rfl (aB (aW (aL rfl rfl ⟨congrArg Value.bool (aBR p xs 0 (by omega)), X⟩))))))
theorem aDV (x : SlotI) (gM : Nat) (m : MedlI) (B : Nat) (w : World) (hm : Med B w m) (hz : m.small) (bM : Blk w gM 28 m.cells) (hN : eC m.ns = true) (hx : hP x = true) :
   Calls Tryz.prog 183 #[.agg x.cells.toArray, .pointer (some ⟨gM, 0, none⟩)] w (fF fun v w' => v = .bool (!pE (iM m.ns) x.desc.node) ∧ Ext w w') := by
 have hls := hz.ls
 have hlm := hz.lm
 have hln := hz.ln
 have hac := aAh hN
 have hxs := aBP hx
 have Bhm := hm.1
 have X := Q7r w
 refine bJ (args := [.agg x.cells.toArray, .pointer (some ⟨gM, 0, none⟩)]) Tryz.func183 Tryz.ntmps183 rfl rfl (aF (aA rfl (eX rfl rfl ?_)))
 intro g4 w3 eg4 b1 x2 zg4
 have lg4 : w.heap.size ≤ g4 := Q7l X.size (Q7e eg4.symm)
 have pg4hm := Q7l hm.1 (Q7e eg4.symm)
 have ng4bM := Nat.lt_of_lt_of_eq bM.lt eg4.symm
 replace hm := hm.ext x2
 replace bM := bM.ext x2
 replace X := Q7x X x2; clear x2
 refine aA rfl (aE rfl (aB (eK [false, false, false, false, false, false, false, false, false] mixed (by kernel_rfl) (cO rfl (fun wq sq => aG lY rfl rfl ⟨rfl, Q7r _⟩) (cO rfl (fun wq sq => aJ (bM.ext sq) zS rfl rfl ⟨rfl, Q7r _⟩) (cO rfl (fun wq sq => aT aHm rfl (tE _ _ _ m.ns _ (hm.ext sq).sn hln (xN hN))) (cO rfl (fun wq sq => aG iN rfl rfl ⟨rfl, Q7r _⟩) (cO rfl (fun wq sq => aG kA rfl rfl ⟨rfl, Q7r _⟩) (cO rfl (fun wq sq => aJ (b1.ext sq) dB rfl rfl ⟨rfl, Q7r _⟩) (cO rfl (fun wq sq => aT aJN rfl (aKZ _ _ _ hac hxs.2.1)) (cO rfl (fun wq sq => bP rfl ⟨rfl, Q7r _⟩) (cO rfl (fun wq sq => aE rfl ⟨rfl, Q7r _⟩) ?_))))))))))))
 refine dX (fun w5 sq => ?_)
 have xq := sq
 replace hm := hm.ext xq
 replace bM := bM.ext xq
 replace b1 := b1.ext xq
 replace X := Q7x X xq; clear xq sq
 exact aB (aW (aL rfl rfl ⟨by rfl, X⟩))
theorem aJo (x : SlotI) (w : World)  :
   Calls Tryz.prog 184 #[.agg x.cells.toArray] w (fF fun v w' => v = .bool (decide (x.desc.kind = 3) && decide (x.mode ≠ 0)) ∧ Ext w w') := by
 have X := Q7r w
 refine bJ (args := [.agg x.cells.toArray]) Tryz.func184 Tryz.ntmps184 rfl rfl (aF (aA rfl (eX rfl rfl ?_)))
 intro g4 w3 eg4 b1 x2 zg4
 have lg4 : w.heap.size ≤ g4 := Q7l X.size (Q7e eg4.symm)
 replace X := Q7x X x2; clear x2
 refine aA rfl (aE rfl (aB (aF (aA rfl (aG iN rfl rfl (aA rfl (aG fM rfl rfl (aA rfl (aJ b1 dB rfl rfl (aA rfl (dP rfl rfl (fun h5 => ?_) (fun h5 => ?_))))))))))))
 exact aA rfl (aC rfl (aI rfl rfl rfl (aG iA rfl rfl (aI rfl rfl rfl (aJ b1 dB rfl rfl (aI rfl rfl rfl (nE rfl rfl (aA rfl (aK rfl rfl (aA rfl (aE rfl (aB (aW (aL rfl rfl ⟨by simp [*], X⟩))))))))))))))
 exact aA rfl (aC rfl (aH rfl rfl rfl rfl (aH rfl rfl rfl rfl (aH rfl rfl rfl rfl (aA rfl (aK rfl rfl (aA rfl (aE rfl (aB (aW (aL rfl rfl ⟨by simp [*], X⟩)))))))))))
theorem aK1 (m : MedlI) (B : Nat) (w : World) (hm : Med B w m) (hz : m.small) :
   Calls Tryz.prog 105 #[.agg m.cells.toArray] w (fF fun v w' => v = .int .i64 (aBe m.d) ∧ Ext w w') := by
 have hls := hz.ls
 have hlm := hz.lm
 have hln := hz.ln
 have hl := hls
 have Bhm := hm.1
 have X := Q7r w
 refine bJ (args := [.agg m.cells.toArray]) Tryz.func105 Tryz.ntmps105 rfl rfl (aF (aA rfl (eX rfl rfl ?_)))
 intro gM w2 egM bM x1 zgM
 have lgM : w.heap.size ≤ gM := Q7l X.size (Q7e egM.symm)
 have pgMhm := Q7l hm.1 (Q7e egM.symm)
 replace hm := hm.ext x1
 replace X := Q7x X x1; clear x1
 refine aA rfl (aE rfl (aB (aF (aA rfl (nR rfl (aA rfl (aE rfl (aB (aF (aA rfl (aE rfl (aB (aR (aX (aF (aA rfl (aG pL rfl rfl (aA rfl (aJ bM dB rfl rfl (aA rfl (cV nK rfl (jU _ _ _ _) (fun w4 hI x3 => ?_) (fun w4 hI x3 => ?_))))))))))))))))))))))
 replace hm := hm.ext x3
 replace bM := bM.ext x3
 replace X := Q7x X x3; clear x3
 refine aA rfl (bP rfl (aA rfl (aE rfl (aB (aM rfl (aF (aA rfl (aG lY rfl rfl (aA rfl (aJ bM zS rfl rfl (aA rfl (cV aEp rfl (aB1 _ _ _ m.ns hm.kn _ hm.sn hln (fun x hx => by have := hz.lz x hx; omega)) (fun w6 hN x5 => ?_) (fun w6 hN x5 => ?_)))))))))))))
 replace hm := hm.ext x5
 replace bM := bM.ext x5
 replace X := Q7x X x5; clear x5
 refine aA rfl (bP rfl (aA rfl (aE rfl (aB (aM rfl (aF (aA rfl (aG jF rfl rfl (aA rfl (aJ bM tZ rfl rfl (aA rfl (cV aEs rfl (aCC _ _ _ _ _ _ hm.sm hm.sx hlm hz.lx) (fun w9 hT x7 => ?_) (fun w9 hT x7 => ?_)))))))))))))
 replace hm := hm.ext x7
 replace bM := bM.ext x7
 replace X := Q7x X x7; clear x7
 refine aA rfl (bP rfl (aA rfl (aE rfl (aB (aM rfl (aF (aA rfl (aG fI rfl rfl (aA rfl (aJ bM kY rfl rfl (aA rfl (cV aCv rfl (aAj _ _ _ _ _ hm.ss hl) (fun w11 hS x10 => ?_) (fun w11 hS x10 => ?_)))))))))))))
 replace hm := hm.ext x10
 replace bM := bM.ext x10
 replace X := Q7x X x10
 have hok := aBf hS
 refine aA rfl (bP rfl (aA rfl (aE rfl (aB (aM rfl (aF (aA rfl (dE bM dW rfl rfl (aA rfl (cV aJ7 rfl (aB2 m _ _ hm hz hT hS) (fun w13 hC x12 => ?_) (fun w13 hC x12 => ?_)))))))))))
 replace hm := hm.ext x12
 replace bM := bM.ext x12
 replace X := Q7x X x12
 refine aA rfl (bP rfl (aA rfl (aE rfl (aB (aM rfl (aF (aA rfl (aG fI rfl rfl (aA rfl (aJ bM kY rfl rfl (aA rfl (aC rfl (aA rfl (cV aHv rfl (aIS _ B m.cs m.ss 183 [.pointer (some ⟨gM, 0, none⟩)] (fun x => !pE (iM m.ns) x.desc.node) (fun w => Med B w m ∧ Blk w gM 28 m.cells) _ hm.ss hls aJ5 ⟨(fun _ _ h k => ⟨h.1.ext k, h.2.ext k⟩), hm, bM⟩ (fun x w1 h1 hx => aDV x gM m B w1 h1.1 hz h1.2 hN (hok x hx))) (fun w15 hE x14 => ?_) (fun w15 hE x14 => ?_)))))))))))))))
 replace hm := hm.ext x14
 replace bM := bM.ext x14
 replace X := Q7x X x14
 have hE2 : nY m.d = false := by rw [zK] at hE; simpa using hE
 refine aA rfl (aE rfl (aB (aQ rfl (aF (aA rfl (aE rfl (aB (aW (dL (bN (aL rfl rfl ?_)))))))))))
 · skip
   refine ⟨congrArg (Value.int .i64) ?_, X⟩
   rw [lG]
   try clear hi
   try clear hi2
   simp [*]
 replace hm := hm.ext x14
 replace bM := bM.ext x14
 replace X := Q7x X x14
 have hE2 : nY m.d = true := by rw [zK] at hE; simpa using hE
 refine aA rfl (aE rfl (aB (aM rfl (aF (aA rfl (dE bM dW rfl rfl (aA rfl (cV aJ8 rfl (aDT m _ _ hm hz hT hS hC) (fun w17 hD x16 => ?_) (fun w17 hD x16 => ?_)))))))))
 replace hm := hm.ext x16
 replace bM := bM.ext x16
 replace X := Q7x X x16
 refine aA rfl (bP rfl (aA rfl (aE rfl (aB (aM rfl (aF (aA rfl (dE bM dW rfl rfl (aA rfl (cV aJ9 rfl (aFu m _ _ hm hz hok) (fun w19 hSh x18 => ?_) (fun w19 hSh x18 => ?_)))))))))))
 replace hm := hm.ext x18
 replace bM := bM.ext x18
 replace X := Q7x X x18
 refine aA rfl (bP rfl (aA rfl (aE rfl (aB (aM rfl (aF (aA rfl (dE bM dW rfl rfl (aA rfl (cV aKa rfl (aFv m _ _ hm hz hok hN hT) (fun w21 hV x20 => ?_) (fun w21 hV x20 => ?_)))))))))))
 replace hm := hm.ext x20
 replace bM := bM.ext x20
 replace X := Q7x X x20
 rw [aCG (act := iM m.ns) (ss := m.ss) hE2] at hV
 refine aA rfl (bP rfl (aA rfl (aE rfl (aB (aM rfl (aF (aA rfl (aG fI rfl rfl (aA rfl (aJ bM kY rfl rfl (aA rfl (aC rfl ?_))))))))))))
 refine aA rfl (cV aHv rfl (aIS _ B m.cs m.ss 184 [] (fun x => decide (x.desc.kind = 3) && decide (x.mode ≠ 0)) (fun _ => True) _ hm.ss hls aJ6 ⟨(fun _ _ _ _ => trivial), trivial⟩ (fun x w1 _ _ => aJo x w1)) (fun w23 hCo x22 => ?_) (fun w23 hCo x22 => ?_))
 replace hm := hm.ext x22
 replace bM := bM.ext x22
 replace X := Q7x X x22
 have hCo2 : sZ m.ss = true := hCo
 refine aA rfl (aE rfl (aB (aQ rfl (aF (aA rfl (aE rfl (aB (aW (dL (bN (aL rfl rfl ?_)))))))))))
 · skip
   refine ⟨congrArg (Value.int .i64) ?_, X⟩
   rw [lG]
   try clear hi
   try clear hi2
   simp [*]
 replace hm := hm.ext x22
 replace bM := bM.ext x22
 replace X := Q7x X x22
 have hCo2 : sZ m.ss = false := hCo
 refine aA rfl (aE rfl (aB (aM rfl (aV (dO (aS (aF (aA rfl (aE rfl (aB (aW (aL rfl rfl ?_))))))))))))
 · skip
   refine ⟨congrArg (Value.int .i64) ?_, X⟩
   rw [lG]
   try clear hi
   try clear hi2
   simp [*]
 replace hm := hm.ext x20
 replace bM := bM.ext x20
 replace X := Q7x X x20
 rw [aCG (act := iM m.ns) (ss := m.ss) hE2] at hV
 refine aA rfl (bP rfl (aA rfl (aE rfl (aB (aQ rfl (aF (aA rfl (aE rfl (aB (aW (dL (bN (aL rfl rfl ?_)))))))))))))
 · skip
   refine ⟨congrArg (Value.int .i64) ?_, X⟩
   rw [lG]
   try clear hi
   try clear hi2
   simp [*]
 replace hm := hm.ext x18
 replace bM := bM.ext x18
 replace X := Q7x X x18
 refine aA rfl (bP rfl (aA rfl (aE rfl (aB (aQ rfl (aF (aA rfl (aE rfl (aB (aW (dL (bN (aL rfl rfl ?_)))))))))))))
 · skip
   refine ⟨congrArg (Value.int .i64) ?_, X⟩
   rw [lG]
   try clear hi
   try clear hi2
   simp [*]
 replace hm := hm.ext x16
 replace bM := bM.ext x16
 replace X := Q7x X x16
 refine aA rfl (bP rfl (aA rfl (aE rfl (aB (aQ rfl (aF (aA rfl (aE rfl (aB (aW (dL (bN (aL rfl rfl ?_)))))))))))))
 · skip
   refine ⟨congrArg (Value.int .i64) ?_, X⟩
   rw [lG]
   try clear hi
   try clear hi2
   simp [*]
 replace hm := hm.ext x12
 replace bM := bM.ext x12
 replace X := Q7x X x12
 refine aA rfl (bP rfl (aA rfl (aE rfl (aB (aQ rfl (aF (aA rfl (aE rfl (aB (aW (dL (bN (aL rfl rfl ?_)))))))))))))
 · skip
   refine ⟨congrArg (Value.int .i64) ?_, X⟩
   rw [lG]
   try clear hi
   try clear hi2
   simp [*]
 replace hm := hm.ext x10
 replace bM := bM.ext x10
 replace X := Q7x X x10
 refine aA rfl (bP rfl (aA rfl (aE rfl (aB (aQ rfl (aF (aA rfl (aE rfl (aB (aW (dL (bN (aL rfl rfl ?_)))))))))))))
 · skip
   refine ⟨congrArg (Value.int .i64) ?_, X⟩
   rw [lG]
   try clear hi
   try clear hi2
   simp [*]
 replace hm := hm.ext x7
 replace bM := bM.ext x7
 replace X := Q7x X x7; clear x7
 refine aA rfl (bP rfl (aA rfl (aE rfl (aB (aQ rfl (aF (aA rfl (aE rfl (aB (aW (dL (bN (aL rfl rfl ?_)))))))))))))
 · skip
   refine ⟨congrArg (Value.int .i64) ?_, X⟩
   rw [lG]
   try clear hi
   try clear hi2
   simp [*]
 replace hm := hm.ext x5
 replace bM := bM.ext x5
 replace X := Q7x X x5; clear x5
 refine aA rfl (bP rfl (aA rfl (aE rfl (aB (aQ rfl (aF (aA rfl (aE rfl (aB (aW (dL (bN (aL rfl rfl ?_)))))))))))))
 · skip
   refine ⟨congrArg (Value.int .i64) ?_, X⟩
   rw [lG]
   try clear hi
   try clear hi2
   simp [*]
 replace hm := hm.ext x3
 replace bM := bM.ext x3
 replace X := Q7x X x3; clear x3
 refine aA rfl (bP rfl (aA rfl (aE rfl (aB (aQ rfl (aF (aA rfl (aE rfl (aB (aW (dL (bN (aL rfl rfl ?_)))))))))))))
 · skip
   refine ⟨congrArg (Value.int .i64) ?_, X⟩
   rw [lG]
   try clear hi
   try clear hi2
   simp [*]
theorem aFw (m : MedlI) (B : Nat) (w : World) (hm : Med B w m) (hz : m.small) :
   Calls Tryz.prog 70 #[.agg m.cells.toArray] w (fF fun v w' => v = .bool (lK m.d) ∧ Ext w w') := by
 have Bhm := hm.1
 have X := Q7r w
 refine bJ (args := [.agg m.cells.toArray]) Tryz.func70 Tryz.ntmps70 rfl rfl (aF (aA rfl (eX rfl rfl ?_)))
 intro g4 w3 eg4 b1 x2 zg4
 have lg4 : w.heap.size ≤ g4 := Q7l X.size (Q7e eg4.symm)
 have pg4hm := Q7l hm.1 (Q7e eg4.symm)
 replace hm := hm.ext x2
 replace X := Q7x X x2; clear x2
 refine aA rfl (aE rfl (aB (aF (aA rfl (dE b1 dW rfl rfl (aA rfl (aT aJS rfl (aP (aK0 m _ _ hm hz) ?_))))))))
 rintro _ w6 ⟨rfl, x5⟩
 replace hm := hm.ext x5
 replace b1 := b1.ext x5
 replace X := Q7x X x5; clear x5
 exact aA rfl (jJ rfl rfl (aA rfl (aE rfl (aB (aW (aL rfl rfl ⟨by rfl, X⟩))))))
theorem uH (m : MedlI) (B : Nat) (w : World) (hm : Med B w m) (hz : m.small) :
   Calls Tryz.prog 33 #[.agg m.cells.toArray] w (fF fun v w' => v = .bool (lK m.d) ∧ Ext w w') := by
 have Bhm := hm.1
 have X := Q7r w
 refine bJ (args := [.agg m.cells.toArray]) Tryz.func33 Tryz.ntmps33 rfl rfl (aF (aA rfl (eX rfl rfl ?_)))
 intro g4 w3 eg4 b1 x2 zg4
 have lg4 : w.heap.size ≤ g4 := Q7l X.size (Q7e eg4.symm)
 have pg4hm := Q7l hm.1 (Q7e eg4.symm)
 replace hm := hm.ext x2
 replace X := Q7x X x2; clear x2
 refine aA rfl (aE rfl (aB (aF (aA rfl (dE b1 dW rfl rfl (aA rfl (aT aJK rfl (aP (aK1 m _ _ hm hz) ?_))))))))
 rintro _ w6 ⟨rfl, x5⟩
 replace hm := hm.ext x5
 replace b1 := b1.ext x5
 replace X := Q7x X x5; clear x5
 exact aA rfl (jJ rfl rfl (aA rfl (aE rfl (aB (aW (aL rfl rfl ⟨by rfl, X⟩))))))
theorem aB4 (z : Int) (w : World) (hz : 1 ≤ z ∧ z ≤ 16777215) :
   Calls Tryz.prog 147 #[.int .i64 z] w (fF fun v w' => ∃ A' c', v = .slice A' 3 c' ∧ Own w' w.heap.size 2 1 A' 3 c' ((idB z).flatMap eI) ∧ Ext w w') := by
 have X := Q7r w
 refine bJ (args := [.int .i64 z]) Tryz.func147 Tryz.ntmps147 rfl rfl (aF (aA rfl (aE rfl (aB (aF (aA rfl (aC rfl (aA rfl (sB rfl rfl (by omega) (aLy (by omega)) (aA rfl (aC rfl (aA rfl (sB rfl rfl (by omega) (aLI (by omega)) (aA rfl (sA rfl rfl (aHW (by omega)) (aA rfl (aC rfl (aA rfl (sA rfl rfl (aHW (by omega)) (aA rfl (aO cQ dB rfl rfl rfl rfl rfl ?_)))))))))))))))))))))
 intro g1 w3 eg1 oS bbg1 x2 zg1
 replace oS := Own.low oS X.size
 replace X := Q7x X x2; clear x2
 exact aA rfl (aE rfl (aB (aW (aL rfl rfl ⟨_, _, rfl, oS.to rfl, X⟩))))
theorem zN (m : MedlI) (B : Nat) (w : World) (hm : Med B w m) (hz : m.small) (hI : lK m.d = true) :
   Calls Tryz.prog 68 #[.agg m.cells.toArray] w (fF fun v w' => ∃ A' c', v = .slice A' (jV m.d).length c' ∧ Own w' w.heap.size 2 1 A' (jV m.d).length c' ((jV m.d).flatMap eI) ∧ Ext w w') := by
 have hls := hz.ls
 have hlm := hz.lm
 have hln := hz.ln
 have wf := qK.1 hI
 have hid := eO.1 wf.id
 have hid1 : 1 ≤ m.id ∧ m.id ≤ 16777215 := hid
 have hL1 : (rA m.ns).length ≤ 353 := aEN wf.nt
 have hL2 : (qU (m.ms.map (·.m)) m.ms.length).length ≤ 305 := by have h := aHV wf.mt; rwa [show m.d.ms.length = m.ms.length from List.length_map ..] at h
 have hL3 : (stB m.ss).length = 1 + 7 * m.ss.length := aAl (Nat.le_refl _)
 have hL4 : m.ss.length ≤ 120 := tR wf.st
 have hNt : eC m.ns = true := wf.nt
 have hSt : iB m.ss = true := wf.st
 have eS : jV m.d = idB m.id ++ rA m.ns ++ (qU (m.ms.map (·.m)) m.ms.length) ++ stB m.ss := by unfold jV; rw [show m.d.ms.length = m.ms.length from List.length_map ..]; rfl
 have Bhm := hm.1
 have X := Q7r w
 refine bJ (args := [.agg m.cells.toArray]) Tryz.func68 Tryz.ntmps68 rfl rfl (aF (aA rfl (eX rfl rfl ?_)))
 intro gM w2 egM bM x1 zgM
 have lgM : w.heap.size ≤ gM := Q7l X.size (Q7e egM.symm)
 have pgMhm := Q7l hm.1 (Q7e egM.symm)
 replace hm := hm.ext x1
 replace X := Q7x X x1; clear x1
 refine aA rfl (aE rfl (aB (tT (fun wz => Blk wz gM 28 m.cells) mixed ?_)))
 obtain ⟨w3, ew3⟩ : ∃ wy, wy = World.drew w2 := ⟨_, rfl⟩
 rw [← ew3]
 have xd : Ext w2 w3 := ew3 ▸ Ext.drew w2
 replace hm := hm.ext xd
 replace bM := bM.ext xd
 replace X := Q7x X xd; clear xd ew3
 refine dH 0 rfl (by kernel_rfl) rfl (by kernel_rfl) (listed' := #[true, false, false, false, false, false, false, false, false, false, false, false, false, false, false]) rfl (fun wq sq => aG pL rfl rfl ⟨rfl, rfl⟩) (dH 1 rfl (by kernel_rfl) rfl (by kernel_rfl) (listed' := #[true, true, false, false, false, false, false, false, false, false, false, false, false, false, false]) rfl (fun wq sq => aJ sq dB rfl rfl ⟨rfl, rfl⟩) (dH 3 rfl (by kernel_rfl) rfl (by kernel_rfl) (listed' := #[true, true, false, true, false, false, false, false, false, false, false, false, false, false, false]) rfl (fun wq sq => aG lY rfl rfl ⟨rfl, rfl⟩) ?_))
 refine dH 4 rfl (by kernel_rfl) rfl (by kernel_rfl) (listed' := #[true, true, false, true, true, false, false, false, false, false, false, false, false, false, false]) rfl (fun wq sq => aJ sq zS rfl rfl ⟨rfl, rfl⟩) (dH 6 rfl (by kernel_rfl) rfl (by kernel_rfl) (listed' := #[true, true, false, true, true, false, true, false, false, false, false, false, false, false, false]) rfl (fun wq sq => aG jF rfl rfl ⟨rfl, rfl⟩) (dH 7 rfl (by kernel_rfl) rfl (by kernel_rfl) (listed' := #[true, true, false, true, true, false, true, true, false, false, false, false, false, false, false]) rfl (fun wq sq => aJ sq tZ rfl rfl ⟨rfl, rfl⟩) ?_))
 refine dH 9 rfl (by kernel_rfl) rfl (by kernel_rfl) (listed' := #[true, true, false, true, true, false, true, true, false, true, false, false, false, false, false]) rfl (fun wq sq => aG fI rfl rfl ⟨rfl, rfl⟩) (dH 10 rfl (by kernel_rfl) rfl (by kernel_rfl) (listed' := #[true, true, false, true, true, false, true, true, false, true, true, false, false, false, false]) rfl (fun wq sq => aJ sq kY rfl rfl ⟨rfl, rfl⟩) (hU 2 rfl rfl (by kernel_rfl) (listed' := #[true, true, true, true, true, false, true, true, false, true, true, false, false, false, false]) rfl bM (aT aHo rfl (aP (aB4 m.id _ hid1) ?_))))
 rintro _ w5 ⟨A1, c1, rfl, o1, x4⟩
 replace o1 := Own.low o1 X.size
 replace hm := hm.ext x4
 replace bM := bM.ext x4
 replace X := Q7x X x4; clear x4
 refine hU 5 rfl rfl (by kernel_rfl) (listed' := #[true, true, true, true, true, true, true, true, false, true, true, false, false, false, false]) rfl bM (aT aEq rfl (aP (nC _ _ _ m.ns _ hm.sn hNt) ?_))
 rintro _ w7 ⟨A2, c2, rfl, o2, x6⟩
 replace o2 := Own.low o2 X.size
 replace hm := hm.ext x6
 replace bM := bM.ext x6
 replace o1 := o1.ext x6
 replace X := Q7x X x6; clear x6
 refine hU 8 rfl rfl (by kernel_rfl) (listed' := #[true, true, true, true, true, true, true, true, true, true, true, false, false, false, false]) rfl bM (aT aJQ rfl (aP (yJ _ _ _ _ m.ms _ hm.sm hm.sx hlm hz.lx) ?_))
 rintro _ w9 ⟨A3, c3, rfl, o3, x8⟩
 replace o3 := Own.low o3 X.size
 replace hm := hm.ext x8
 replace bM := bM.ext x8
 replace o1 := o1.ext x8
 replace o2 := o2.ext x8
 replace X := Q7x X x8; clear x8
 refine hU 11 rfl rfl (by kernel_rfl) (listed' := #[true, true, true, true, true, true, true, true, true, true, true, true, false, false, false]) rfl bM (aT aJR rfl (aP (yI _ _ _ m.ss _ hm.ss hSt) ?_))
 rintro _ w11 ⟨A4, c4, rfl, o4, x10⟩
 replace o4 := Own.low o4 X.size
 replace hm := hm.ext x10
 replace bM := bM.ext x10
 replace o1 := o1.ext x10
 replace o2 := o2.ext x10
 replace o3 := o3.ext x10
 replace X := Q7x X x10
 refine hU 12 rfl rfl (by kernel_rfl) (listed' := #[true, true, true, true, true, true, true, true, true, true, true, true, true, false, false]) rfl bM (aO sX mD rfl rfl rfl rfl rfl ?_)
 intro gQ w13 egQ oQ bbgQ x12 zgQ
 replace oQ := Own.low oQ X.size
 replace hm := hm.ext x12
 replace bM := bM.ext x12
 replace o1 := o1.ext x12
 replace o2 := o2.ext x12
 replace o3 := o3.ext x12
 replace o4 := o4.ext x12
 replace X := Q7x X x12
 replace oQ := oQ.to (cs' := ([(lL A1 c1 (idB m.id)), (lL A2 c2 (rA m.ns)), (lL A3 c3 (qU (m.ms.map (·.m)) m.ms.length)), (lL A4 c4 (stB m.ss))] : List ModeI).flatMap rQ) (by
   have h4 : (stB m.ss).length = 1 + 7 * m.ss.length := hL3
   show _ = [Value.slice A1 (idB m.id).length c1, Value.slice A2 (rA m.ns).length c2, Value.slice A3 (qU (m.ms.map (·.m)) m.ms.length).length c3, Value.slice A4 (stB m.ss).length c4]
   rw [h4]; rfl)
 have hnx : Nexts _ _ [(lL A1 c1 (idB m.id)), (lL A2 c2 (rA m.ns)), (lL A3 c3 (qU (m.ms.map (·.m)) m.ms.length)), (lL A4 c4 (stB m.ss))] := ⟨Nat.le_refl _, fun x hx => by
   simp only [List.mem_cons, List.not_mem_nil, or_false] at hx
   rcases hx with rfl | rfl | rfl | rfl
   · exact ⟨o1.sl, by show (idB m.id).length ≤ _; simp [idB]⟩
   · exact ⟨o2.sl, by show (rA m.ns).length ≤ _; omega⟩
   · exact ⟨o3.sl, by show (qU (m.ms.map (·.m)) m.ms.length).length ≤ _; omega⟩
   · exact ⟨o4.sl, by show (stB m.ss).length ≤ _; omega⟩⟩
 have hsum : sV [(lL A1 c1 (idB m.id)), (lL A2 c2 (rA m.ns)), (lL A3 c3 (qU (m.ms.map (·.m)) m.ms.length)), (lL A4 c4 (stB m.ss))] = jV m.d := by rw [eS]; simp [sV, lL]
 refine hU 13 rfl rfl (by kernel_rfl) (listed' := #[true, true, true, true, true, true, true, true, true, true, true, true, true, true, false]) rfl bM (aT aJP rfl (aP (aGG _ _ _ _ [(lL A1 c1 (idB m.id)), (lL A2 c2 (rA m.ns)), (lL A3 c3 (qU (m.ms.map (·.m)) m.ms.length)), (lL A4 c4 (stB m.ss))] _ oQ.sl hnx (by show 4 ≤ 1000; omega) (by rw [hsum]; have := aIJ hI; omega)) ?_))
 rintro _ w15 ⟨A16, c17, rfl, oR, x14⟩
 replace oR := Own.low oR X.size
 replace hm := hm.ext x14
 replace bM := bM.ext x14
 replace o1 := o1.ext x14
 replace o2 := o2.ext x14
 replace o3 := o3.ext x14
 replace o4 := o4.ext x14
 replace oQ := oQ.ext x14
 replace X := Q7x X x14
 refine dH 14 rfl (by kernel_rfl) rfl (by kernel_rfl) (listed' := #[true, true, true, true, true, true, true, true, true, true, true, true, true, true, true]) rfl (fun wq sq => aE rfl ⟨rfl, rfl⟩) (jE rfl bM (fun aj fj => ⟨_, fj, aW (aL rfl rfl ?_)⟩))
 · skip
   rw [hsum] at oR ⊢
   exact ⟨_, _, rfl, oR, X⟩
theorem aAA {n : Int} : ∀ (l : List Int) (y : Option Int), fJ n y l = true → ∀ x ∈ l, 0 ≤ x ∧ x ≤ n - 1
 | [], _, _, x, hx => by simp at hx
 | a :: r, none, h, x, hx => by
   simp only [fJ, Bool.and_eq_true] at h
   rcases List.mem_cons.1 hx with rfl | h2
   · exact eO.1 h.1
   · exact aAA r _ h.2 x h2
 | a :: r, some z, h, x, hx => by
   simp only [fJ, Bool.and_eq_true] at h
   rcases List.mem_cons.1 hx with rfl | h2
   · exact eO.1 h.1.1
   · exact aAA r _ h.2 x h2
def byt (l : List Int) : Prop := ∀ x ∈ l, 0 ≤ x ∧ x ≤ 255
theorem pH : byt [] := fun x hx => by simp at hx
theorem eA {x : Int} {l : List Int} (h : 0 ≤ x ∧ x ≤ 255) (hl : byt l) : byt (x :: l) := fun y hy => by
 rcases List.mem_cons.1 hy with rfl | h2
 · exact h
 · exact hl y h2
theorem lU {a b : List Int} (h1 : byt a) (h2 : byt b) : byt (a ++ b) := fun y hy => (List.mem_append.1 hy).elim (h1 y) (h2 y)
theorem rB {α : Type} {f : α → List Int} {l : List α} (h : ∀ x ∈ l, byt (f x)) : byt (l.flatMap f) := fun y hy => by
 obtain ⟨x, hx, hy2⟩ := List.mem_flatMap.1 hy
 exact h x hx y hy2
theorem aGH {z : Int} (h : 0 ≤ z ∧ z ≤ 16777215) : byt (idB z) := eA (by omega) (eA (by omega) (eA (by omega) pH))
theorem aCX (x : NodeI) : byt (nZ x) := fun y hy => by
 obtain ⟨b, _, rfl⟩ := List.mem_map.1 hy
 have := b.toNat_lt; omega
theorem aGI {x : NodeI} (h : fE x = true) : byt (aBh x) := by
 have h1 := pP h
 have h2 := oH h
 exact lU (eA (by omega) (eA (by omega) (eA (by omega) (eA (by split <;> omega) (eA (by omega) pH))))) (aCX x)
theorem aJp {xs : List NodeI} (h : eC xs = true) : byt (rA xs) := by
 have h1 := tY h
 unfold rA wN
 rw [List.take_length]
 exact eA (by omega) (rB fun x hx => aGI (nW h x hx))
theorem aJq {ms : List Mode} (h : jX ms = true) : byt (qU ms ms.length) := by
 have hl := tU h
 unfold qU
 rw [List.take_length]
 refine eA (by omega) (rB fun x hx => ?_)
 obtain ⟨k, hk⟩ := List.mem_iff_getElem?.1 hx
 obtain ⟨h1, h2, h3⟩ := uU (aAf h hk)
 have h4 := wJ h3
 refine lU (eA (by omega) (eA (by omega) (eA (by omega) pH))) fun y hy => ?_
 have h5 := aAA _ _ h3 y hy
 omega
theorem aJr {xs : List SlotI} (h : iB xs = true) : byt (stB xs) := by
 have hl := tR h
 unfold stB stP
 rw [List.take_length]
 refine eA (by omega) (rB fun x hx => ?_)
 have h1 := aBN (aBf h x hx)
 have h2 := yH h1.2.2.2
 exact lU (eA (by omega) (eA (by omega) pH)) (eA (by omega) (eA (by omega) (eA (by omega) (eA (by omega) (eA (by split <;> omega) pH)))))
theorem aEY {d : MedlD} (h : lK d = true) : byt (jV d) := by
 have wf := qK.1 h
 have hid := eO.1 wf.id
 exact lU (lU (lU (aGH (by omega)) (aJp wf.nt)) (aJq wf.mt)) (aJr wf.st)
def zO (d : MedlD) : List Int × Int := if lK d = true then (if (jV d).length ≤ 868 then (vM (jV d), 0) else ([], 3)) else ([], 1)
theorem aJs (m : MedlI) (B : Nat) (w : World) (hm : Med B w m) (hz : m.small) :
   Calls Tryz.prog 13 #[.agg m.cells.toArray] w (fF fun v w' => ∃ A' c', v = .tuple #[.slice A' (zO m.d).1.length c', .int .i64 (zO m.d).2] ∧ Own w' w.heap.size 2 1 A' (zO m.d).1.length c' ((zO m.d).1.flatMap eI) ∧ Ext w w') := by
 have Bhm := hm.1
 have X := Q7r w
 refine bJ (args := [.agg m.cells.toArray]) Tryz.func13 Tryz.ntmps13 rfl rfl (aF (aA rfl (eX rfl rfl ?_)))
 intro g4 w3 eg4 b1 x2 zg4
 have lg4 : w.heap.size ≤ g4 := Q7l X.size (Q7e eg4.symm)
 have pg4hm := Q7l hm.1 (Q7e eg4.symm)
 replace hm := hm.ext x2
 replace X := Q7x X x2; clear x2
 refine aA rfl (aE rfl (aA rfl (aE rfl (aB (aR (aF (aA rfl (dE b1 dW rfl rfl (aA rfl (cV aFc rfl (uH m _ _ hm hz) (fun w6 hI x5 => ?_) (fun w6 hI x5 => ?_)))))))))))
 replace hm := hm.ext x5
 replace b1 := b1.ext x5
 replace X := Q7x X x5; clear x5
 refine aA rfl (bP rfl (aB (aM rfl (aV (aS (aF (aA rfl (dE b1 dW rfl rfl (aA rfl (aT aLm rfl (aP (zN m _ _ hm hz hI) ?_)))))))))))
 rintro _ w9 ⟨A10, c11, rfl, oR, x7⟩
 replace oR := Own.low oR X.size
 replace hm := hm.ext x7
 replace b1 := b1.ext x7
 replace X := Q7x X x7; clear x7
 refine aA rfl (aE rfl (aB (aR (aF (aA rfl (aC rfl (aA rfl (bO Tryz.underlying30 rfl (aA rfl (fG rfl rfl (fun hG => ?_) (fun hG => ?_)))))))))))
 have hGn : ¬ (jV m.d).length ≤ 868 := by omega
 refine aB (aQ rfl (aF (aA rfl (aE rfl (aA rfl (aE rfl (aB (aW (bN (fD rfl rfl rfl ?_))))))))))
 · skip
   have e : zO m.d = ([], 3) := by rw [zO, if_pos hI, if_neg hGn]
   rw [e]; exact ⟨none, 0, rfl, Own.nil_ _ _ _ _, X⟩
 have hGp : (jV m.d).length ≤ 868 := by omega
 refine aB (aM rfl (aV (aS (aF (aA rfl (aC rfl (aA rfl (aT aI5 rfl (aP (aBt _ _ _ (jV m.d) _ oR.sl (by omega) (aEY hI) oR.cap (aAw oR.sl (by omega))) ?_)))))))))
 rintro _ w13 ⟨AJ, cJ, rfl, oJ, x12⟩
 replace oJ := Own.low oJ X.size
 replace hm := hm.ext x12
 replace b1 := b1.ext x12
 replace oR := oR.ext x12
 replace X := Q7x X x12
 refine aA rfl (aE rfl (aA rfl (aE rfl (aB (aW (fD rfl rfl rfl ?_))))))
 · skip
   have e : zO m.d = (vM (jV m.d), 0) := by rw [zO, if_pos hI, if_pos hGp]
   rw [e]; exact ⟨_, _, rfl, oJ, X⟩
 replace hm := hm.ext x5
 replace b1 := b1.ext x5
 replace X := Q7x X x5; clear x5
 refine aA rfl (bP rfl (aB (aQ rfl (aF (aA rfl (aE rfl (aA rfl (aE rfl (aB (aW (bN (fD rfl rfl rfl ?_))))))))))))
 · skip
   have e : zO m.d = ([], 1) := by rw [zO, if_neg (by rw [hI]; decide)]
   rw [e]; exact ⟨none, 0, rfl, Own.nil_ _ _ _ _, X⟩
def lH (A : Option Addr) (c : Nat) (bs : List UInt8) (a : Nat) (sd : Int) : List Value := [.slice A bs.length c, .int .i64 (a : Nat), .int .i64 sd]
theorem aIT (b : UInt8) : (0 : Int) ≤ (b.toNat : Int) ∧ (b.toNat : Int) ≤ 255 := by have := b.toNat_lt; omega
end Go.Proofs.YtdoibplhbdkapaaGreatDoor
