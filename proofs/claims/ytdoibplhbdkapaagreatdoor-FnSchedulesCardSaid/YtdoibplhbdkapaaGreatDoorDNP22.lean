/- Parts. No condition. -/
import Derived.Test.YtdoibplhbdkapaaGreatDoorDNP21
import Derived.Test.YtdoibplhbdkapaaGreatDoorDNP5
import Derived.Test.YtdoibplhbdkapaaGreatDoorDNP4
import Derived.Test.YtdoibplhbdkapaaGreatDoorDNP17
import Derived.Test.YtdoibplhbdkapaaGreatDoorDNP8
import Derived.Test.YtdoibplhbdkapaaGreatDoorDNP16
namespace Go.Proofs.YtdoibplhbdkapaaGreatDoor
open Go.RowKit
set_option linter.unusedVariables false
set_option linter.unusedSimpArgs false
set_option maxRecDepth 20000
theorem aJ7 (m : MedlI) (B : Nat) (w : World) (hm : Med B w m) (hz : m.small) :
   Calls Tryz.prog 154 #[.agg m.cells.toArray] w (fD fun v w' => v = .int .i64 (aAk m.d) ∧ Ext w w') := by
 have hls := hz.ls
 have hlm := hz.lm
 have hln := hz.ln
 have hl := hls
 have Bhm := hm.1
 have X := Q7r w
 refine bI (args := [.agg m.cells.toArray]) Tryz.func154 Tryz.ntmps154 rfl rfl ?_
 refine aE ?_
 refine aA rfl (eE rfl rfl ?_)
 intro g4 w3 eg4 b1 x2 zg4
 have lg4 : w.heap.size ≤ g4 := Q7l X.size (Q7e eg4.symm)
 have pg4hm := Q7l hm.1 (Q7e eg4.symm)
 replace hm := hm.ext x2
 replace X := Q7x X x2
 refine aA rfl (aD rfl ?_)
 refine aB ?_
 refine aQ ?_
 refine aW ?_
 refine aE ?_
 refine aA rfl (aF mA rfl rfl ?_)
 refine aA rfl (aI b1 cY rfl rfl ?_)
 refine aA rfl (cW jW rfl (iM _ _ _ _) (fun w6 hI x5 => ?_) (fun w6 hI x5 => ?_))
 replace hm := hm.ext x5
 replace b1 := b1.ext x5
 replace X := Q7x X x5
 refine aA rfl (cD rfl ?_)
 refine aA rfl (aD rfl ?_)
 refine aB ?_
 refine aL rfl ?_
 refine aE ?_
 refine aA rfl (aF kP rfl rfl ?_)
 refine aA rfl (aI b1 vV rfl rfl ?_)
 refine aA rfl (cW aJl rfl (aHz _ _ _ _ _ hm.sn hln (fun x hx => by have := hz.lz x hx; omega)) (fun w9 hN x7 => ?_) (fun w9 hN x7 => ?_))
 replace hm := hm.ext x7
 replace b1 := b1.ext x7
 replace X := Q7x X x7
 refine aA rfl (cD rfl ?_)
 refine aA rfl (aD rfl ?_)
 refine aB ?_
 refine aL rfl ?_
 refine aE ?_
 refine aA rfl (aF fO rfl rfl ?_)
 refine aA rfl (aI b1 mK rfl rfl ?_)
 refine aA rfl (cW aJm rfl (aHc _ _ _ _ _ _ hm.sm hm.sx hlm hz.lx) (fun w11 hT x10 => ?_) (fun w11 hT x10 => ?_))
 replace hm := hm.ext x10
 replace b1 := b1.ext x10
 replace X := Q7x X x10
 refine aA rfl (cD rfl ?_)
 refine aA rfl (aD rfl ?_)
 refine aB ?_
 refine aL rfl ?_
 refine aE ?_
 refine aA rfl (aF dU rfl rfl ?_)
 refine aA rfl (aI b1 iF rfl rfl ?_)
 refine aA rfl (cW aJn rfl (aHa _ _ _ _ _ hm.ss hl) (fun w13 hS x12 => ?_) (fun w13 hS x12 => ?_))
 replace hm := hm.ext x12
 replace b1 := b1.ext x12
 replace X := Q7x X x12
 have hok := aAl hS
 refine aA rfl (cD rfl ?_)
 refine aA rfl (aD rfl ?_)
 refine aB ?_
 refine aL rfl ?_
 refine aE ?_
 refine aA rfl (bO b1 dP rfl rfl ?_)
 refine aA rfl (cW aJo rfl (aAu m _ _ hm hz hT hS) (fun w15 hC x14 => ?_) (fun w15 hC x14 => ?_))
 replace hm := hm.ext x14
 replace b1 := b1.ext x14
 replace X := Q7x X x14
 refine aA rfl (cD rfl ?_)
 refine aA rfl (aD rfl ?_)
 refine aB ?_
 refine aL rfl ?_
 refine aE ?_
 refine aA rfl (bO b1 dP rfl rfl ?_)
 refine aA rfl (cW aJp rfl (aBt m _ _ hm hz hok hN) (fun w17 hE x16 => ?_) (fun w17 hE x16 => ?_))
 replace hm := hm.ext x16
 replace b1 := b1.ext x16
 replace X := Q7x X x16
 refine aA rfl (cD rfl ?_)
 refine aA rfl (aD rfl ?_)
 refine aB ?_
 refine aL rfl ?_
 refine aE ?_
 refine aA rfl (bO b1 dP rfl rfl ?_)
 refine aA rfl (cW aJq rfl (zH m _ _ hm hz) (fun w19 hD x18 => ?_) (fun w19 hD x18 => ?_))
 replace hm := hm.ext x18
 replace b1 := b1.ext x18
 replace X := Q7x X x18
 refine aA rfl (cD rfl ?_)
 refine aA rfl (aD rfl ?_)
 refine aB ?_
 refine aL rfl ?_
 refine aU ?_
 refine dJ ?_
 refine aP ?_
 refine aQ ?_
 refine aE ?_
 refine aA rfl (aD rfl ?_)
 refine aB ?_
 refine aW ?_
 refine dD (G := Nat) (fun k => [(1, .pointer (some ⟨g4, 0, none⟩)), (3, .int .i64 (k : Nat))]) (fun k wr => k ≤ m.ms.length ∧ rE m.d = ((List.range m.ms.length).drop k).all (fun (i : Nat) => decide (cyc m.ss i ≤ 32000)) ∧ Med B wr m ∧ Blk wr g4 28 m.cells ∧ Ext w wr) (fun k => m.ms.length - k) 0 (.cons rfl (.cons rfl (.nil _))) ?_ ?_
 · exact ⟨by omega, aCR, hm, b1, X⟩
 clear hm b1
 clear X
 rintro k wr ⟨hk0, hi, hm, b1, X⟩
 refine aQ ?_
 refine aE ?_
 refine aA rfl (aC rfl ?_)
 refine aA rfl (aF fO rfl rfl ?_)
 refine aA rfl (aI b1 mK rfl rfl ?_)
 refine aA rfl (cQ Tryz.underlying25 rfl ?_)
 refine aA rfl (cH rfl rfl (fun hk => ?_) (fun hk => ?_))
 refine aB ?_
 refine aR rfl ?_
 refine aU ?_
 refine aP ?_
 refine aQ ?_
 refine aW ?_
 refine aE ?_
 refine aA rfl (bO b1 dP rfl rfl ?_)
 refine aA rfl (aC rfl ?_)
 refine aA rfl (aS aJr rfl (aO (aDA _ _ (k : Int) _ hm hz hok) ?_))
 rintro _ w21 ⟨rfl, x20⟩
 replace hm := hm.ext x20
 replace b1 := b1.ext x20
 replace X := Q7x X x20
 refine aA rfl (fX rfl rfl (fun hc => ?_) (fun hc => ?_))
 have hSh : rE m.d = false := by rw [hi, pG (by omega), decide_eq_false (show ¬ cyc m.ss k ≤ 32000 by omega)]; rfl
 refine aB ?_
 refine aR rfl ?_
 refine aE ?_
 refine aA rfl (aD rfl ?_)
 refine aB ?_
 refine aV ?_
 refine dN ?_
 refine bU ?_
 refine bU ?_
 refine dN ?_
 refine bU ?_
 refine aK rfl rfl ?_
 · skip
   refine ⟨congrArg (Value.int .i64) ?_, X⟩
   rw [kR]
   try clear hi
   try clear hi2
   simp [*]
 refine aB ?_
 refine aL rfl ?_
 refine aU ?_
 refine dJ ?_
 refine aP ?_
 refine aM ?_
 refine aA rfl (aC rfl ?_)
 refine aA rfl (aZ rfl rfl (dR (by omega)) ?_)
 refine aA rfl (aD rfl ?_)
 refine aB ?_
 refine aP ⟨k + 1, (.cons rfl (.cons rfl (.nil _))), ?_, ?_⟩
 · exact ⟨by omega, (by rw [hi, pG (by omega), decide_eq_true (show cyc m.ss k ≤ 32000 by omega)]; rfl), hm, b1, X⟩
 · first | omega | (dsimp only; omega)
 have hSh : rE m.d = true := by rw [hi, wF hk]
 refine aB ?_
 refine aL rfl ?_
 refine dC ?_
 refine dB ?_
 refine dB ?_
 refine eA ?_
 refine aP ?_
 refine aQ ?_
 refine aE ?_
 refine aA rfl (bO b1 dP rfl rfl ?_)
 refine aA rfl (cW aJs rfl (aCw m _ _ hm hz hok hN hT) (fun w23 hV x22 => ?_) (fun w23 hV x22 => ?_))
 replace hm := hm.ext x22
 replace b1 := b1.ext x22
 replace X := Q7x X x22
 refine aA rfl (cD rfl ?_)
 refine aB ?_
 refine aL rfl ?_
 refine aU ?_
 refine aP ?_
 refine aQ ?_
 refine aE ?_
 refine aA rfl (aD rfl ?_)
 refine aB ?_
 refine aW ?_
 refine dD (G := Nat) (fun j => [(1, .pointer (some ⟨g4, 0, none⟩)), (4, .int .i64 (j : Nat))]) (fun j wr => j ≤ m.ss.length ∧ rP m.ss = rP (m.ss.drop j) ∧ Med B wr m ∧ Blk wr g4 28 m.cells ∧ Ext w wr) (fun j => m.ss.length - j) 0 (.cons rfl (.cons rfl (.nil _))) ?_ ?_
 · exact ⟨by omega, rfl, hm, b1, X⟩
 clear hm b1
 clear X
 rintro j wr ⟨hj0, hi2, hm, b1, X⟩
 refine aQ ?_
 refine aE ?_
 refine aA rfl (aC rfl ?_)
 refine aA rfl (aF dU rfl rfl ?_)
 refine aA rfl (aI b1 iF rfl rfl ?_)
 refine aA rfl (cQ Tryz.underlying26 rfl ?_)
 refine aA rfl (cH rfl rfl (fun hj => ?_) (fun hj => ?_))
 obtain ⟨x, hx, dx⟩ := dM hj
 refine aB ?_
 refine aR rfl ?_
 refine aU ?_
 refine aP ?_
 refine aQ ?_
 refine aW ?_
 refine aE ?_
 refine aA rfl (aF dU rfl rfl ?_)
 refine aA rfl (aI b1 iF rfl rfl ?_)
 refine aA rfl (aC rfl ?_)
 refine aA rfl (aT hm.ss SlotI.len rfl eW rfl rfl rfl hx rfl ?_)
 refine aA rfl (bK fP rfl ?_)
 refine aA rfl (bK fA rfl ?_)
 refine aA rfl (nZ hm.ss SlotI.len hx cY rfl rfl rfl ?_)
 refine aA rfl (dK rfl rfl (fun hc3 => ?_) (fun hc3 => ?_))
 refine aA rfl (aC rfl ?_)
 refine aH rfl rfl rfl (aF dU rfl rfl ?_)
 refine aH rfl rfl rfl (aI b1 iF rfl rfl ?_)
 refine aH rfl rfl rfl (aC rfl ?_)
 refine aH rfl rfl rfl (aT hm.ss SlotI.len rfl eW rfl rfl rfl hx rfl ?_)
 refine aH rfl rfl rfl (bK gF rfl ?_)
 refine aH rfl rfl rfl (dQ hm.ss SlotI.len hx cY rfl rfl rfl ?_)
 refine aH rfl rfl rfl (hP rfl rfl (fun hc4 => ?_) (fun hc4 => ?_))
 have hCo : rP m.ss = true := by rw [hi2, dx]; simp [rP, *]
 refine aA rfl (aJ rfl rfl ?_)
 refine aB ?_
 refine aR rfl ?_
 refine aE ?_
 refine aA rfl (aD rfl ?_)
 refine aB ?_
 refine aV ?_
 refine dN ?_
 refine bU ?_
 refine bU ?_
 refine dN ?_
 refine bU ?_
 refine aK rfl rfl ?_
 · skip
   refine ⟨congrArg (Value.int .i64) ?_, X⟩
   rw [kR]
   try clear hi
   try clear hi2
   simp [*]
 refine aA rfl (aJ rfl rfl ?_)
 refine aB ?_
 refine aL rfl ?_
 refine aU ?_
 refine dJ ?_
 refine aP ?_
 refine aM ?_
 refine aA rfl (aC rfl ?_)
 refine aA rfl (aZ rfl rfl (dR (by omega)) ?_)
 refine aA rfl (aD rfl ?_)
 refine aB ?_
 refine aP ⟨j + 1, (.cons rfl (.cons rfl (.nil _))), ?_, ?_⟩
 · exact ⟨by omega, (by rw [hi2, dx]; simp [rP, *]), hm, b1, X⟩
 · first | omega | (dsimp only; omega)
 refine aA rfl (aC rfl ?_)
 refine aG rfl rfl rfl rfl ?_
 refine aG rfl rfl rfl rfl ?_
 refine aG rfl rfl rfl rfl ?_
 refine aG rfl rfl rfl rfl ?_
 refine aG rfl rfl rfl rfl ?_
 refine aG rfl rfl rfl rfl ?_
 refine aG rfl rfl rfl rfl ?_
 refine aA rfl (aJ rfl rfl ?_)
 refine aB ?_
 refine aL rfl ?_
 refine aU ?_
 refine dJ ?_
 refine aP ?_
 refine aM ?_
 refine aA rfl (aC rfl ?_)
 refine aA rfl (aZ rfl rfl (dR (by omega)) ?_)
 refine aA rfl (aD rfl ?_)
 refine aB ?_
 refine aP ⟨j + 1, (.cons rfl (.cons rfl (.nil _))), ?_, ?_⟩
 · exact ⟨by omega, (by rw [hi2, dx]; simp [rP, *]), hm, b1, X⟩
 · first | omega | (dsimp only; omega)
 have hCo : rP m.ss = false := by rw [hi2, bJ hj]; rfl
 refine aB ?_
 refine aL rfl ?_
 refine dC ?_
 refine dB ?_
 refine dB ?_
 refine eA ?_
 refine aP ?_
 refine aE ?_
 refine aA rfl (aD rfl ?_)
 refine aB ?_
 refine aV ?_
 refine aK rfl rfl ?_
 · skip
   refine ⟨congrArg (Value.int .i64) ?_, X⟩
   rw [kR]
   try clear hi
   try clear hi2
   simp [*]
 replace hm := hm.ext x22
 replace b1 := b1.ext x22
 replace X := Q7x X x22
 refine aA rfl (cD rfl ?_)
 refine aB ?_
 refine aR rfl ?_
 refine aE ?_
 refine aA rfl (aD rfl ?_)
 refine aB ?_
 refine aV ?_
 refine bU ?_
 refine aK rfl rfl ?_
 · skip
   refine ⟨congrArg (Value.int .i64) ?_, X⟩
   rw [kR]
   try clear hi
   try clear hi2
   simp [*]
 replace hm := hm.ext x18
 replace b1 := b1.ext x18
 replace X := Q7x X x18
 refine aA rfl (cD rfl ?_)
 refine aA rfl (aD rfl ?_)
 refine aB ?_
 refine aR rfl ?_
 refine aE ?_
 refine aA rfl (aD rfl ?_)
 refine aB ?_
 refine aV ?_
 refine dN ?_
 refine bU ?_
 refine aK rfl rfl ?_
 · skip
   refine ⟨congrArg (Value.int .i64) ?_, X⟩
   rw [kR]
   try clear hi
   try clear hi2
   simp [*]
 replace hm := hm.ext x16
 replace b1 := b1.ext x16
 replace X := Q7x X x16
 refine aA rfl (cD rfl ?_)
 refine aA rfl (aD rfl ?_)
 refine aB ?_
 refine aR rfl ?_
 refine aE ?_
 refine aA rfl (aD rfl ?_)
 refine aB ?_
 refine aV ?_
 refine dN ?_
 refine bU ?_
 refine aK rfl rfl ?_
 · skip
   refine ⟨congrArg (Value.int .i64) ?_, X⟩
   rw [kR]
   try clear hi
   try clear hi2
   simp [*]
 replace hm := hm.ext x14
 replace b1 := b1.ext x14
 replace X := Q7x X x14
 refine aA rfl (cD rfl ?_)
 refine aA rfl (aD rfl ?_)
 refine aB ?_
 refine aR rfl ?_
 refine aE ?_
 refine aA rfl (aD rfl ?_)
 refine aB ?_
 refine aV ?_
 refine dN ?_
 refine bU ?_
 refine aK rfl rfl ?_
 · skip
   refine ⟨congrArg (Value.int .i64) ?_, X⟩
   rw [kR]
   try clear hi
   try clear hi2
   simp [*]
 replace hm := hm.ext x12
 replace b1 := b1.ext x12
 replace X := Q7x X x12
 refine aA rfl (cD rfl ?_)
 refine aA rfl (aD rfl ?_)
 refine aB ?_
 refine aR rfl ?_
 refine aE ?_
 refine aA rfl (aD rfl ?_)
 refine aB ?_
 refine aV ?_
 refine dN ?_
 refine bU ?_
 refine aK rfl rfl ?_
 · skip
   refine ⟨congrArg (Value.int .i64) ?_, X⟩
   rw [kR]
   try clear hi
   try clear hi2
   simp [*]
 replace hm := hm.ext x10
 replace b1 := b1.ext x10
 replace X := Q7x X x10
 refine aA rfl (cD rfl ?_)
 refine aA rfl (aD rfl ?_)
 refine aB ?_
 refine aR rfl ?_
 refine aE ?_
 refine aA rfl (aD rfl ?_)
 refine aB ?_
 refine aV ?_
 refine dN ?_
 refine bU ?_
 refine aK rfl rfl ?_
 · skip
   refine ⟨congrArg (Value.int .i64) ?_, X⟩
   rw [kR]
   try clear hi
   try clear hi2
   simp [*]
 replace hm := hm.ext x7
 replace b1 := b1.ext x7
 replace X := Q7x X x7
 refine aA rfl (cD rfl ?_)
 refine aA rfl (aD rfl ?_)
 refine aB ?_
 refine aR rfl ?_
 refine aE ?_
 refine aA rfl (aD rfl ?_)
 refine aB ?_
 refine aV ?_
 refine dN ?_
 refine bU ?_
 refine aK rfl rfl ?_
 · skip
   refine ⟨congrArg (Value.int .i64) ?_, X⟩
   rw [kR]
   try clear hi
   try clear hi2
   simp [*]
 replace hm := hm.ext x5
 replace b1 := b1.ext x5
 replace X := Q7x X x5
 refine aA rfl (cD rfl ?_)
 refine aA rfl (aD rfl ?_)
 refine aB ?_
 refine aR rfl ?_
 refine aE ?_
 refine aA rfl (aD rfl ?_)
 refine aB ?_
 refine aV ?_
 refine dN ?_
 refine bU ?_
 refine aK rfl rfl ?_
 · skip
   refine ⟨congrArg (Value.int .i64) ?_, X⟩
   rw [kR]
   try clear hi
   try clear hi2
   simp [*]
theorem aIw (A : Option Addr) (B c : Nat) (xs : List SlotI) (F : FuncId) (cv : List Value) (p : SlotI → Bool) (S : World → Prop) (w : World) (hs : Sl B w A (xs.flatMap SlotI.cells)) (hl : xs.length ≤ 1048576) (entG : bS Tryz.prog F) (hS : Kept S w) (hf : ∀ (x : SlotI) (w1 : World), S w1 → x ∈ xs → Calls Tryz.prog F (.agg x.cells.toArray :: cv).toArray w1 (fD fun v w2 => v = .bool (p x) ∧ Ext w1 w2)) :
   Calls Tryz.prog 190 #[.slice A xs.length c, .func (.func F) #[] cv.toArray] w (fD fun v w' => v = .int .i64 (gJ p 0 xs) ∧ Ext w w') := by
 have Bhs := hs.1
 have X := Q7r w
 refine bI (args := [.slice A xs.length c, .func (.func F) #[] cv.toArray]) Tryz.func190 Tryz.ntmps190 rfl rfl ?_
 refine aE ?_
 refine aA rfl (aD rfl ?_)
 refine aB ?_
 refine aQ ?_
 refine aE ?_
 refine aA rfl (aC rfl ?_)
 refine aA rfl (cQ Tryz.underlying26 rfl ?_)
 refine aA rfl (aC rfl ?_)
 refine aB ?_
 refine aW ?_
 refine dD (G := Nat) (fun k => [(0, .slice A xs.length c), (1, .func (.func F) #[] cv.toArray), (7, .int .i64 (xs.length : Nat)), (8, .int .i64 (k : Nat))]) (fun k wr => k ≤ xs.length ∧ gJ p 0 xs = gJ p (k : Int) (xs.drop k) ∧ Sl B wr A (xs.flatMap SlotI.cells) ∧ Kept S wr ∧ Ext w wr) (fun k => xs.length - k) 0 (.cons rfl (.cons rfl (.cons rfl (.cons rfl (.nil _))))) ?_ ?_
 · exact ⟨by omega, rfl, hs, hS, X⟩
 clear hs hS
 clear X
 rintro k wr ⟨hk0, hi, hs, hS, X⟩
 refine aE ?_
 refine aA rfl (cH rfl rfl (fun hk => ?_) (fun hk => ?_))
 obtain ⟨x, hx, dx⟩ := dM hk
 refine aB ?_
 refine aQ ?_
 refine aR rfl ?_
 refine aU ?_
 refine aP ?_
 refine aQ ?_
 refine aW ?_
 refine aE ?_
 refine aA rfl (aC rfl ?_)
 refine aA rfl (aD rfl ?_)
 refine aB ?_
 refine aE ?_
 refine aA rfl (aC rfl ?_)
 refine aA rfl (aC rfl ?_)
 refine aA rfl (aC rfl ?_)
 refine aA rfl (aT hs SlotI.len rfl eW rfl rfl rfl hx rfl ?_)
 refine aA rfl (dY hs SlotI.len hx dZ rfl ?_)
 refine aA rfl (uN entG rfl rfl (hf x _ hS.h (List.mem_of_getElem? hx)) (fun w2 hF x1 => ?_) (fun w2 hF x1 => ?_))
 replace hs := hs.ext x1
 replace hS := hS.ext x1
 replace X := Q7x X x1
 refine aB ?_
 refine aR rfl ?_
 refine aE ?_
 refine aA rfl (aC rfl ?_)
 refine aA rfl (aD rfl ?_)
 refine aB ?_
 refine aV ?_
 refine dN ?_
 refine bU ?_
 refine bU ?_
 refine dN ?_
 refine bU ?_
 refine aK rfl rfl ?_
 · skip
   refine ⟨congrArg (Value.int .i64) ?_, X⟩
   first | (rw [hi, bJ hk]; rfl) | (rw [hi, dx, gJ, if_pos hF])
 replace hs := hs.ext x1
 replace hS := hS.ext x1
 replace X := Q7x X x1
 refine aB ?_
 refine aL rfl ?_
 refine aU ?_
 refine dJ ?_
 refine aP ?_
 refine aM ?_
 refine aA rfl (aZ rfl rfl (dR (by omega)) ?_)
 refine aA rfl (aC rfl ?_)
 refine aB ?_
 refine aP ⟨k + 1, (.cons rfl (.cons rfl (.cons rfl (.cons rfl (.nil _))))), ?_, ?_⟩
 · exact ⟨by omega, (by rw [hi, dx, gJ, if_neg (by simp [*])]; rfl), hs, hS, X⟩
 · first | omega | (dsimp only; omega)
 refine aB ?_
 refine aQ ?_
 refine aL rfl ?_
 refine dC ?_
 refine dB ?_
 refine dB ?_
 refine eA ?_
 refine aP ?_
 refine aE ?_
 refine aA rfl (aD rfl ?_)
 refine aB ?_
 refine aV ?_
 refine aK rfl rfl ?_
 · skip
   refine ⟨congrArg (Value.int .i64) ?_, X⟩
   first | (rw [hi, bJ hk]; rfl) | (rw [hi, dx, gJ, if_pos hF])
theorem aHZ (A : Option Addr) (B c : Nat) (xs : List SlotI) (F : FuncId) (cv : List Value) (p : SlotI → Bool) (S : World → Prop) (w : World) (hs : Sl B w A (xs.flatMap SlotI.cells)) (hl : xs.length ≤ 1048576) (entG : bS Tryz.prog F) (hS : Kept S w) (hf : ∀ (x : SlotI) (w1 : World), S w1 → x ∈ xs → Calls Tryz.prog F (.agg x.cells.toArray :: cv).toArray w1 (fD fun v w2 => v = .bool (p x) ∧ Ext w1 w2)) :
   Calls Tryz.prog 186 #[.slice A xs.length c, .func (.func F) #[] cv.toArray] w (fD fun v w' => v = .bool (xs.any p) ∧ Ext w w') := by
 have Bhs := hs.1
 have X := Q7r w
 refine bI (args := [.slice A xs.length c, .func (.func F) #[] cv.toArray]) Tryz.func186 Tryz.ntmps186 rfl rfl ?_
 refine aE ?_
 refine aA rfl (aD rfl ?_)
 refine aB ?_
 refine aE ?_
 refine aA rfl (aC rfl ?_)
 refine aA rfl (aC rfl ?_)
 refine aA rfl (aS aGE rfl (aO (aIw _ _ _ _ F cv p S _ hs hl entG hS hf) ?_))
 rintro _ w2 ⟨rfl, x1⟩
 replace hs := hs.ext x1
 replace hS := hS.ext x1
 replace X := Q7x X x1
 refine aA rfl (uJ rfl rfl ?_)
 refine aA rfl (aD rfl ?_)
 refine aB ?_
 refine aV ?_
 refine aK rfl rfl ?_
 exact ⟨congrArg Value.bool (aA1 p xs 0 (by omega)), X⟩
theorem aDB (x : SlotI) (gM : Nat) (m : MedlI) (B : Nat) (w : World) (hm : Med B w m) (hz : m.small) (bM : Blk w gM 28 m.cells) (hN : dV m.ns = true) (hx : fT x = true) :
   Calls Tryz.prog 183 #[.agg x.cells.toArray, .pointer (some ⟨gM, 0, none⟩)] w (fD fun v w' => v = .bool (!nC (iG m.ns) x.desc.node) ∧ Ext w w') := by
 have hls := hz.ls
 have hlm := hz.lm
 have hln := hz.ln
 have hac := yE hN
 have hxs := aAZ hx
 have Bhm := hm.1
 have X := Q7r w
 refine bI (args := [.agg x.cells.toArray, .pointer (some ⟨gM, 0, none⟩)]) Tryz.func183 Tryz.ntmps183 rfl rfl ?_
 refine aE ?_
 refine aA rfl (eE rfl rfl ?_)
 intro g4 w3 eg4 b1 x2 zg4
 have lg4 : w.heap.size ≤ g4 := Q7l X.size (Q7e eg4.symm)
 have pg4hm := Q7l hm.1 (Q7e eg4.symm)
 have ng4bM := Nat.lt_of_lt_of_eq bM.lt eg4.symm
 replace hm := hm.ext x2
 replace bM := bM.ext x2
 replace X := Q7x X x2
 refine aA rfl (aD rfl ?_)
 refine aB ?_
 refine eO [false, false, false, false, false, false, false, false, false] mixed (by kernel_rfl) ?_
 refine cE rfl (fun wq sq => aF kP rfl rfl ⟨rfl, Q7r _⟩) ?_
 refine cE rfl (fun wq sq => aI (bM.ext sq) vV rfl rfl ⟨rfl, Q7r _⟩) ?_
 refine cE rfl (fun wq sq => aS aGv rfl (sN _ _ _ m.ns _ (hm.ext sq).sn hln (vF hN))) ?_
 refine cE rfl (fun wq sq => aF fP rfl rfl ⟨rfl, Q7r _⟩) ?_
 refine cE rfl (fun wq sq => aF jN rfl rfl ⟨rfl, Q7r _⟩) ?_
 refine cE rfl (fun wq sq => aI (b1.ext sq) cY rfl rfl ⟨rfl, Q7r _⟩) ?_
 refine cE rfl (fun wq sq => aS aIN rfl (aKC _ _ _ hac hxs.2.1)) ?_
 refine cE rfl (fun wq sq => cD rfl ⟨rfl, Q7r _⟩) ?_
 refine cE rfl (fun wq sq => aD rfl ⟨rfl, Q7r _⟩) ?_
 refine dW (fun w5 sq => ?_)
 have xq := sq
 replace hm := hm.ext xq
 replace bM := bM.ext xq
 replace b1 := b1.ext xq
 replace X := Q7x X xq; clear xq sq
 refine aB ?_
 refine aV ?_
 refine aK rfl rfl ?_
 exact ⟨by rfl, X⟩
theorem aIx (x : SlotI) (w : World)  :
   Calls Tryz.prog 184 #[.agg x.cells.toArray] w (fD fun v w' => v = .bool (decide (x.desc.kind = 3) && decide (x.mode ≠ 0)) ∧ Ext w w') := by
 have X := Q7r w
 refine bI (args := [.agg x.cells.toArray]) Tryz.func184 Tryz.ntmps184 rfl rfl ?_
 refine aE ?_
 refine aA rfl (eE rfl rfl ?_)
 intro g4 w3 eg4 b1 x2 zg4
 have lg4 : w.heap.size ≤ g4 := Q7l X.size (Q7e eg4.symm)
 replace X := Q7x X x2
 refine aA rfl (aD rfl ?_)
 refine aB ?_
 refine aE ?_
 refine aA rfl (aF fP rfl rfl ?_)
 refine aA rfl (aF fA rfl rfl ?_)
 refine aA rfl (aI b1 cY rfl rfl ?_)
 refine aA rfl (dK rfl rfl (fun h5 => ?_) (fun h5 => ?_))
 refine aA rfl (aC rfl ?_)
 refine aH rfl rfl rfl (aF gF rfl rfl ?_)
 refine aH rfl rfl rfl (aI b1 cY rfl rfl ?_)
 refine aH rfl rfl rfl (qS rfl rfl ?_)
 refine aA rfl (aJ rfl rfl ?_)
 refine aA rfl (aD rfl ?_)
 refine aB ?_
 refine aV ?_
 refine aK rfl rfl ?_
 exact ⟨by simp [*], X⟩
 refine aA rfl (aC rfl ?_)
 refine aG rfl rfl rfl rfl ?_
 refine aG rfl rfl rfl rfl ?_
 refine aG rfl rfl rfl rfl ?_
 refine aA rfl (aJ rfl rfl ?_)
 refine aA rfl (aD rfl ?_)
 refine aB ?_
 refine aV ?_
 refine aK rfl rfl ?_
 exact ⟨by simp [*], X⟩
theorem aJ8 (m : MedlI) (B : Nat) (w : World) (hm : Med B w m) (hz : m.small) :
   Calls Tryz.prog 105 #[.agg m.cells.toArray] w (fD fun v w' => v = .int .i64 (aAk m.d) ∧ Ext w w') := by
 have hls := hz.ls
 have hlm := hz.lm
 have hln := hz.ln
 have hl := hls
 have Bhm := hm.1
 have X := Q7r w
 refine bI (args := [.agg m.cells.toArray]) Tryz.func105 Tryz.ntmps105 rfl rfl ?_
 refine aE ?_
 refine aA rfl (eE rfl rfl ?_)
 intro gM w2 egM bM x1 zgM
 have lgM : w.heap.size ≤ gM := Q7l X.size (Q7e egM.symm)
 have pgMhm := Q7l hm.1 (Q7e egM.symm)
 replace hm := hm.ext x1
 replace X := Q7x X x1
 refine aA rfl (aD rfl ?_)
 refine aB ?_
 refine aE ?_
 refine aA rfl (mS rfl ?_)
 refine aA rfl (aD rfl ?_)
 refine aB ?_
 refine aE ?_
 refine aA rfl (aD rfl ?_)
 refine aB ?_
 refine aQ ?_
 refine aW ?_
 refine aE ?_
 refine aA rfl (aF mA rfl rfl ?_)
 refine aA rfl (aI bM cY rfl rfl ?_)
 refine aA rfl (cW mL rfl (jJ _ _ _ _) (fun w4 hI x3 => ?_) (fun w4 hI x3 => ?_))
 replace hm := hm.ext x3
 replace bM := bM.ext x3
 replace X := Q7x X x3
 refine aA rfl (cD rfl ?_)
 refine aA rfl (aD rfl ?_)
 refine aB ?_
 refine aL rfl ?_
 refine aE ?_
 refine aA rfl (aF kP rfl rfl ?_)
 refine aA rfl (aI bM vV rfl rfl ?_)
 refine aA rfl (cW aDJ rfl (aBp _ _ _ m.ns hm.kn _ hm.sn hln (fun x hx => by have := hz.lz x hx; omega)) (fun w6 hN x5 => ?_) (fun w6 hN x5 => ?_))
 replace hm := hm.ext x5
 replace bM := bM.ext x5
 replace X := Q7x X x5
 refine aA rfl (cD rfl ?_)
 refine aA rfl (aD rfl ?_)
 refine aB ?_
 refine aL rfl ?_
 refine aE ?_
 refine aA rfl (aF fO rfl rfl ?_)
 refine aA rfl (aI bM mK rfl rfl ?_)
 refine aA rfl (cW aDM rfl (aBi _ _ _ _ _ _ hm.sm hm.sx hlm hz.lx) (fun w9 hT x7 => ?_) (fun w9 hT x7 => ?_))
 replace hm := hm.ext x7
 replace bM := bM.ext x7
 replace X := Q7x X x7
 refine aA rfl (cD rfl ?_)
 refine aA rfl (aD rfl ?_)
 refine aB ?_
 refine aL rfl ?_
 refine aE ?_
 refine aA rfl (aF dU rfl rfl ?_)
 refine aA rfl (aI bM iF rfl rfl ?_)
 refine aA rfl (cW aBE rfl (xN _ _ _ _ _ hm.ss hl) (fun w11 hS x10 => ?_) (fun w11 hS x10 => ?_))
 replace hm := hm.ext x10
 replace bM := bM.ext x10
 replace X := Q7x X x10
 have hok := aAl hS
 refine aA rfl (cD rfl ?_)
 refine aA rfl (aD rfl ?_)
 refine aB ?_
 refine aL rfl ?_
 refine aE ?_
 refine aA rfl (bO bM dP rfl rfl ?_)
 refine aA rfl (cW aI5 rfl (aBs m _ _ hm hz hT hS) (fun w13 hC x12 => ?_) (fun w13 hC x12 => ?_))
 replace hm := hm.ext x12
 replace bM := bM.ext x12
 replace X := Q7x X x12
 refine aA rfl (cD rfl ?_)
 refine aA rfl (aD rfl ?_)
 refine aB ?_
 refine aL rfl ?_
 refine aE ?_
 refine aA rfl (aF dU rfl rfl ?_)
 refine aA rfl (aI bM iF rfl rfl ?_)
 refine aA rfl (aC rfl ?_)
 refine aA rfl (cW aGD rfl (aHZ _ B m.cs m.ss 183 [.pointer (some ⟨gM, 0, none⟩)] (fun x => !nC (iG m.ns) x.desc.node) (fun w => Med B w m ∧ Blk w gM 28 m.cells) _ hm.ss hls aI3 ⟨(fun _ _ h k => ⟨h.1.ext k, h.2.ext k⟩), hm, bM⟩ (fun x w1 h1 hx => aDB x gM m B w1 h1.1 hz h1.2 hN (hok x hx))) (fun w15 hE x14 => ?_) (fun w15 hE x14 => ?_))
 replace hm := hm.ext x14
 replace bM := bM.ext x14
 replace X := Q7x X x14
 have hE2 : mU m.d = false := by rw [xE] at hE; simpa using hE
 refine aA rfl (aD rfl ?_)
 refine aB ?_
 refine aR rfl ?_
 refine aE ?_
 refine aA rfl (aD rfl ?_)
 refine aB ?_
 refine aV ?_
 refine dN ?_
 refine bU ?_
 refine aK rfl rfl ?_
 · skip
   refine ⟨congrArg (Value.int .i64) ?_, X⟩
   rw [kR]
   try clear hi
   try clear hi2
   simp [*]
 replace hm := hm.ext x14
 replace bM := bM.ext x14
 replace X := Q7x X x14
 have hE2 : mU m.d = true := by rw [xE] at hE; simpa using hE
 refine aA rfl (aD rfl ?_)
 refine aB ?_
 refine aL rfl ?_
 refine aE ?_
 refine aA rfl (bO bM dP rfl rfl ?_)
 refine aA rfl (cW aI6 rfl (aDz m _ _ hm hz hT hS hC) (fun w17 hD x16 => ?_) (fun w17 hD x16 => ?_))
 replace hm := hm.ext x16
 replace bM := bM.ext x16
 replace X := Q7x X x16
 refine aA rfl (cD rfl ?_)
 refine aA rfl (aD rfl ?_)
 refine aB ?_
 refine aL rfl ?_
 refine aE ?_
 refine aA rfl (bO bM dP rfl rfl ?_)
 refine aA rfl (cW aI7 rfl (aE2 m _ _ hm hz hok) (fun w19 hSh x18 => ?_) (fun w19 hSh x18 => ?_))
 replace hm := hm.ext x18
 replace bM := bM.ext x18
 replace X := Q7x X x18
 refine aA rfl (cD rfl ?_)
 refine aA rfl (aD rfl ?_)
 refine aB ?_
 refine aL rfl ?_
 refine aE ?_
 refine aA rfl (bO bM dP rfl rfl ?_)
 refine aA rfl (cW aI8 rfl (aE3 m _ _ hm hz hok hN hT) (fun w21 hV x20 => ?_) (fun w21 hV x20 => ?_))
 replace hm := hm.ext x20
 replace bM := bM.ext x20
 replace X := Q7x X x20
 rw [aBP (act := iG m.ns) (ss := m.ss) hE2] at hV
 refine aA rfl (cD rfl ?_)
 refine aA rfl (aD rfl ?_)
 refine aB ?_
 refine aL rfl ?_
 refine aE ?_
 refine aA rfl (aF dU rfl rfl ?_)
 refine aA rfl (aI bM iF rfl rfl ?_)
 refine aA rfl (aC rfl ?_)
 refine aA rfl (cW aGD rfl (aHZ _ B m.cs m.ss 184 [] (fun x => decide (x.desc.kind = 3) && decide (x.mode ≠ 0)) (fun _ => True) _ hm.ss hls aI4 ⟨(fun _ _ _ _ => trivial), trivial⟩ (fun x w1 _ _ => aIx x w1)) (fun w23 hCo x22 => ?_) (fun w23 hCo x22 => ?_))
 replace hm := hm.ext x22
 replace bM := bM.ext x22
 replace X := Q7x X x22
 have hCo2 : rP m.ss = true := hCo
 refine aA rfl (aD rfl ?_)
 refine aB ?_
 refine aR rfl ?_
 refine aE ?_
 refine aA rfl (aD rfl ?_)
 refine aB ?_
 refine aV ?_
 refine dN ?_
 refine bU ?_
 refine aK rfl rfl ?_
 · skip
   refine ⟨congrArg (Value.int .i64) ?_, X⟩
   rw [kR]
   try clear hi
   try clear hi2
   simp [*]
 replace hm := hm.ext x22
 replace bM := bM.ext x22
 replace X := Q7x X x22
 have hCo2 : rP m.ss = false := hCo
 refine aA rfl (aD rfl ?_)
 refine aB ?_
 refine aL rfl ?_
 refine aU ?_
 refine dJ ?_
 refine aP ?_
 refine aE ?_
 refine aA rfl (aD rfl ?_)
 refine aB ?_
 refine aV ?_
 refine aK rfl rfl ?_
 · skip
   refine ⟨congrArg (Value.int .i64) ?_, X⟩
   rw [kR]
   try clear hi
   try clear hi2
   simp [*]
 replace hm := hm.ext x20
 replace bM := bM.ext x20
 replace X := Q7x X x20
 rw [aBP (act := iG m.ns) (ss := m.ss) hE2] at hV
 refine aA rfl (cD rfl ?_)
 refine aA rfl (aD rfl ?_)
 refine aB ?_
 refine aR rfl ?_
 refine aE ?_
 refine aA rfl (aD rfl ?_)
 refine aB ?_
 refine aV ?_
 refine dN ?_
 refine bU ?_
 refine aK rfl rfl ?_
 · skip
   refine ⟨congrArg (Value.int .i64) ?_, X⟩
   rw [kR]
   try clear hi
   try clear hi2
   simp [*]
 replace hm := hm.ext x18
 replace bM := bM.ext x18
 replace X := Q7x X x18
 refine aA rfl (cD rfl ?_)
 refine aA rfl (aD rfl ?_)
 refine aB ?_
 refine aR rfl ?_
 refine aE ?_
 refine aA rfl (aD rfl ?_)
 refine aB ?_
 refine aV ?_
 refine dN ?_
 refine bU ?_
 refine aK rfl rfl ?_
 · skip
   refine ⟨congrArg (Value.int .i64) ?_, X⟩
   rw [kR]
   try clear hi
   try clear hi2
   simp [*]
 replace hm := hm.ext x16
 replace bM := bM.ext x16
 replace X := Q7x X x16
 refine aA rfl (cD rfl ?_)
 refine aA rfl (aD rfl ?_)
 refine aB ?_
 refine aR rfl ?_
 refine aE ?_
 refine aA rfl (aD rfl ?_)
 refine aB ?_
 refine aV ?_
 refine dN ?_
 refine bU ?_
 refine aK rfl rfl ?_
 · skip
   refine ⟨congrArg (Value.int .i64) ?_, X⟩
   rw [kR]
   try clear hi
   try clear hi2
   simp [*]
 replace hm := hm.ext x12
 replace bM := bM.ext x12
 replace X := Q7x X x12
 refine aA rfl (cD rfl ?_)
 refine aA rfl (aD rfl ?_)
 refine aB ?_
 refine aR rfl ?_
 refine aE ?_
 refine aA rfl (aD rfl ?_)
 refine aB ?_
 refine aV ?_
 refine dN ?_
 refine bU ?_
 refine aK rfl rfl ?_
 · skip
   refine ⟨congrArg (Value.int .i64) ?_, X⟩
   rw [kR]
   try clear hi
   try clear hi2
   simp [*]
 replace hm := hm.ext x10
 replace bM := bM.ext x10
 replace X := Q7x X x10
 refine aA rfl (cD rfl ?_)
 refine aA rfl (aD rfl ?_)
 refine aB ?_
 refine aR rfl ?_
 refine aE ?_
 refine aA rfl (aD rfl ?_)
 refine aB ?_
 refine aV ?_
 refine dN ?_
 refine bU ?_
 refine aK rfl rfl ?_
 · skip
   refine ⟨congrArg (Value.int .i64) ?_, X⟩
   rw [kR]
   try clear hi
   try clear hi2
   simp [*]
 replace hm := hm.ext x7
 replace bM := bM.ext x7
 replace X := Q7x X x7
 refine aA rfl (cD rfl ?_)
 refine aA rfl (aD rfl ?_)
 refine aB ?_
 refine aR rfl ?_
 refine aE ?_
 refine aA rfl (aD rfl ?_)
 refine aB ?_
 refine aV ?_
 refine dN ?_
 refine bU ?_
 refine aK rfl rfl ?_
 · skip
   refine ⟨congrArg (Value.int .i64) ?_, X⟩
   rw [kR]
   try clear hi
   try clear hi2
   simp [*]
 replace hm := hm.ext x5
 replace bM := bM.ext x5
 replace X := Q7x X x5
 refine aA rfl (cD rfl ?_)
 refine aA rfl (aD rfl ?_)
 refine aB ?_
 refine aR rfl ?_
 refine aE ?_
 refine aA rfl (aD rfl ?_)
 refine aB ?_
 refine aV ?_
 refine dN ?_
 refine bU ?_
 refine aK rfl rfl ?_
 · skip
   refine ⟨congrArg (Value.int .i64) ?_, X⟩
   rw [kR]
   try clear hi
   try clear hi2
   simp [*]
 replace hm := hm.ext x3
 replace bM := bM.ext x3
 replace X := Q7x X x3
 refine aA rfl (cD rfl ?_)
 refine aA rfl (aD rfl ?_)
 refine aB ?_
 refine aR rfl ?_
 refine aE ?_
 refine aA rfl (aD rfl ?_)
 refine aB ?_
 refine aV ?_
 refine dN ?_
 refine bU ?_
 refine aK rfl rfl ?_
 · skip
   refine ⟨congrArg (Value.int .i64) ?_, X⟩
   rw [kR]
   try clear hi
   try clear hi2
   simp [*]
theorem aAQ (m : MedlI) (B : Nat) (w : World) (hm : Med B w m) (hz : m.small) :
   Calls Tryz.prog 70 #[.agg m.cells.toArray] w (fD fun v w' => v = .bool (iY m.d) ∧ Ext w w') := by
 have Bhm := hm.1
 have X := Q7r w
 refine bI (args := [.agg m.cells.toArray]) Tryz.func70 Tryz.ntmps70 rfl rfl ?_
 refine aE ?_
 refine aA rfl (eE rfl rfl ?_)
 intro g4 w3 eg4 b1 x2 zg4
 have lg4 : w.heap.size ≤ g4 := Q7l X.size (Q7e eg4.symm)
 have pg4hm := Q7l hm.1 (Q7e eg4.symm)
 replace hm := hm.ext x2
 replace X := Q7x X x2
 refine aA rfl (aD rfl ?_)
 refine aB ?_
 refine aE ?_
 refine aA rfl (bO b1 dP rfl rfl ?_)
 refine aA rfl (aS aIV rfl (aO (aJ7 m _ _ hm hz) ?_))
 rintro _ w6 ⟨rfl, x5⟩
 replace hm := hm.ext x5
 replace b1 := b1.ext x5
 replace X := Q7x X x5
 refine aA rfl (iD rfl rfl ?_)
 refine aA rfl (aD rfl ?_)
 refine aB ?_
 refine aV ?_
 refine aK rfl rfl ?_
 exact ⟨by rfl, X⟩
theorem sW (m : MedlI) (B : Nat) (w : World) (hm : Med B w m) (hz : m.small) :
   Calls Tryz.prog 33 #[.agg m.cells.toArray] w (fD fun v w' => v = .bool (iY m.d) ∧ Ext w w') := by
 have Bhm := hm.1
 have X := Q7r w
 refine bI (args := [.agg m.cells.toArray]) Tryz.func33 Tryz.ntmps33 rfl rfl ?_
 refine aE ?_
 refine aA rfl (eE rfl rfl ?_)
 intro g4 w3 eg4 b1 x2 zg4
 have lg4 : w.heap.size ≤ g4 := Q7l X.size (Q7e eg4.symm)
 have pg4hm := Q7l hm.1 (Q7e eg4.symm)
 replace hm := hm.ext x2
 replace X := Q7x X x2
 refine aA rfl (aD rfl ?_)
 refine aB ?_
 refine aE ?_
 refine aA rfl (bO b1 dP rfl rfl ?_)
 refine aA rfl (aS aIK rfl (aO (aJ8 m _ _ hm hz) ?_))
 rintro _ w6 ⟨rfl, x5⟩
 replace hm := hm.ext x5
 replace b1 := b1.ext x5
 replace X := Q7x X x5
 refine aA rfl (iD rfl rfl ?_)
 refine aA rfl (aD rfl ?_)
 refine aB ?_
 refine aV ?_
 refine aK rfl rfl ?_
 exact ⟨by rfl, X⟩
theorem iI (w : World) (lo : Nat) (a b c d : TypeId) : MOwn w lo a b c d zeroM := ⟨Own.nil_ _ _ _ _, Own.nil_ _ _ _ _, NOwn.nil_, Disj.nil_, Own.nil_ _ _ _ _⟩
theorem aBu (A : Option Addr) (B c n : Nat) (xs : List Int) (x y z : Int) (w : World) (hs : Sl B w A (xs.flatMap eI)) (en : xs.length = n) (hx : xs[0]? = some x) (hy : xs[1]? = some y) (hz : xs[2]? = some z) (rx : 0 ≤ x ∧ x ≤ 255) (ry : 0 ≤ y ∧ y ≤ 255) (rz : 0 ≤ z ∧ z ≤ 255) :
   Calls Tryz.prog 75 #[.slice A n c] w (fD fun v w' => v = .int .i64 (x * 65536 + y * 256 + z) ∧ Ext w w') := by
 have Bhs := hs.1
 have X := Q7r w
 refine bI (args := [.slice A n c]) Tryz.func75 Tryz.ntmps75 rfl rfl ?_
 refine aE ?_
 refine aA rfl (aD rfl ?_)
 refine aB ?_
 refine eO [false, false, false, false, false, false, false, false, false, false, false, false, false, false] mixed (by kernel_rfl) ?_
 refine cE rfl (fun wq sq => aC rfl ⟨rfl, Q7r _⟩) ?_
 refine cE rfl (fun wq sq => aT (hs.ext sq) bL rfl dA rfl en.symm rfl hx rfl ⟨rfl, Q7r _⟩) ?_
 refine cE rfl (fun wq sq => cX (hs.ext sq) bL hx cY rfl rfl rfl ⟨rfl, Q7r _⟩) ?_
 refine cE rfl (fun wq sq => rX rfl rfl (by omega) (show IntKind.i64.wrap (x * 2 ^ (min ((16 : Int).toNat) IntKind.i64.bits)) = x * 65536 by rw [show (2 : Int) ^ (min ((16 : Int).toNat) IntKind.i64.bits) = 65536 from rfl]; exact dR (by omega)) ⟨rfl, Q7r _⟩) ?_
 refine cE rfl (fun wq sq => aC rfl ⟨rfl, Q7r _⟩) ?_
 refine cE rfl (fun wq sq => aT (hs.ext sq) bL rfl dA rfl en.symm rfl hy rfl ⟨rfl, Q7r _⟩) ?_
 refine cE rfl (fun wq sq => cX (hs.ext sq) bL hy cY rfl rfl rfl ⟨rfl, Q7r _⟩) ?_
 refine cE rfl (fun wq sq => rX rfl rfl (by omega) (show IntKind.i64.wrap (y * 2 ^ (min ((8 : Int).toNat) IntKind.i64.bits)) = y * 256 by rw [show (2 : Int) ^ (min ((8 : Int).toNat) IntKind.i64.bits) = 256 from rfl]; exact dR (by omega)) ⟨rfl, Q7r _⟩) ?_
 refine cE rfl (fun wq sq => aZ rfl rfl (dR (by omega)) ⟨rfl, Q7r _⟩) ?_
 refine cE rfl (fun wq sq => aC rfl ⟨rfl, Q7r _⟩) ?_
 refine cE rfl (fun wq sq => aT (hs.ext sq) bL rfl dA rfl en.symm rfl hz rfl ⟨rfl, Q7r _⟩) ?_
 refine cE rfl (fun wq sq => cX (hs.ext sq) bL hz cY rfl rfl rfl ⟨rfl, Q7r _⟩) ?_
 refine cE rfl (fun wq sq => aZ rfl rfl (dR (by omega)) ⟨rfl, Q7r _⟩) ?_
 refine cE rfl (fun wq sq => aD rfl ⟨rfl, Q7r _⟩) ?_
 refine dW (fun w1 sq => ?_)
 have xq := sq
 replace hs := hs.ext xq
 replace X := Q7x X xq; clear xq sq
 refine aB ?_
 refine aV ?_
 refine aK rfl rfl ?_
 exact ⟨by rfl, X⟩
theorem aEj (A : Option Addr) (B c : Nat) (xs : List Int) (w : World) (hs : Sl B w A (xs.flatMap eI)) (hl : xs.length ≤ 1048576) (hcap : xs.length ≤ c) :
   Calls Tryz.prog 21 #[.slice A xs.length c] w (fD fun v w' => v = .tuple #[.int .i64 (mI xs).1, .int .i64 (mI xs).2] ∧ Ext w w') := by
 have hn := zB hs hl
 have Bhs := hs.1
 have X := Q7r w
 refine bI (args := [.slice A xs.length c]) Tryz.func21 Tryz.ntmps21 rfl rfl ?_
 refine aE ?_
 refine aA rfl (aD rfl ?_)
 refine aA rfl (aD rfl ?_)
 refine aB ?_
 refine aQ ?_
 refine aE ?_
 refine aA rfl (aC rfl ?_)
 refine aA rfl (cW aGt rfl (uI _ _ _ _ _ hs hl) (fun w2 hI x1 => ?_) (fun w2 hI x1 => ?_))
 replace hs := hs.ext x1
 replace hn := hn.ext x1
 replace X := Q7x X x1
 have hbm := xR hI
 have hbl := yB hI
 refine aA rfl (cD rfl ?_)
 refine aB ?_
 refine aL rfl ?_
 refine aU ?_
 refine aP ?_
 refine aQ ?_
 refine aE ?_
 refine aA rfl (aC rfl ?_)
 refine aA rfl (aS aId rfl (aO (aAL _ _ c xs _ hs hbl hbm hcap hn) ?_))
 rintro _ w4 ⟨A5, c6, rfl, oD, x3⟩
 replace oD := Own.low oD X.size
 replace hs := hs.ext x3
 replace hn := hn.ext x3
 replace X := Q7x X x3
 refine aA rfl (cW aIc rfl (yL _ _ _ (dmg xs) 0 _ oD.sl (aHw hl)) (fun w9 hD x7 => ?_) (fun w9 hD x7 => ?_))
 replace hs := hs.ext x7
 replace hn := hn.ext x7
 replace oD := oD.ext x7
 replace X := Q7x X x7
 refine aB ?_
 refine aR rfl ?_
 refine aE ?_
 refine aA rfl (aD rfl ?_)
 refine aA rfl (aD rfl ?_)
 refine aB ?_
 refine aV ?_
 refine bU ?_
 refine fL rfl rfl rfl ?_
 · skip
   have e : mI xs = (0, 7) := by rw [mI, if_pos hI, if_pos hD]
   rw [e]; exact ⟨rfl, X⟩
 replace hs := hs.ext x7
 replace hn := hn.ext x7
 replace oD := oD.ext x7
 replace X := Q7x X x7
 have hk0 := yW (aFS hD)
 refine aB ?_
 refine aL rfl ?_
 refine aU ?_
 refine aP ?_
 refine aE ?_
 refine aA rfl (aC rfl ?_)
 obtain ⟨pA, pc, hx, hpc⟩ := zA A xs (k := 0) (aFD _)
 have hrl : (kS pA pc (fS xs 0)).m.next.length = (fS xs 0).length := rfl
 have hrc : (kS pA pc (fS xs 0)).c = pc := rfl
 have hpl := rU xs 0
 refine aA rfl (aS aGu rfl (aO (uH A c xs _ hl hcap) ?_))
 rintro _ w11 ⟨AR, cR, rfl, oR, x10⟩
 replace oR := Own.low oR X.size
 replace hs := hs.ext x10
 replace hn := hn.ext x10
 replace oD := oD.ext x10
 replace X := Q7x X x10
 refine aA rfl (aT (oR).sl iP rfl rJ rfl (yZ A xs).symm rfl hx rfl ?_)
 refine aA rfl (cX (oR).sl iP hx kQ rfl rfl rfl ?_)
 have hp : Sl B _ pA ((fS xs 0).flatMap eI) := hn.at_ hx
 refine aA rfl (aD rfl ?_)
 refine aB ?_
 refine aE ?_
 refine aA rfl (aC rfl ?_)
 refine aA rfl (aC rfl ?_)
 refine aA rfl (cQ Tryz.underlying30 rfl ?_)
 refine aA rfl (fZ rfl rfl (dR (by omega)) ?_)
 refine aA rfl (rB dA hp bL rfl rfl rfl (show (2 : Int) = ((2 : Nat) : Int) from rfl) (show _ = (((fS xs 0).length - 3 : Nat) : Int) by omega) (by omega) (by omega) ?_)
 intro Ap pS
 refine aA rfl (aD rfl ?_)
 refine aB ?_
 refine aQ ?_
 refine aE ?_
 refine aA rfl (aC rfl ?_)
 refine aA rfl (cQ Tryz.underlying30 rfl ?_)
 refine aA rfl (cH rfl rfl (fun h8 => ?_) (fun h8 => ?_))
 refine aA rfl (aC rfl ?_)
 refine aG rfl rfl rfl rfl ?_
 refine aG rfl rfl rfl rfl ?_
 refine aG rfl rfl rfl rfl ?_
 refine aG rfl rfl rfl rfl ?_
 refine aA rfl (aJ rfl rfl ?_)
 refine aA rfl (aC rfl ?_)
 refine aG rfl rfl rfl rfl ?_
 refine aG rfl rfl rfl rfl ?_
 refine aG rfl rfl rfl rfl ?_
 refine aA rfl (aJ rfl rfl ?_)
 refine aB ?_
 refine aR rfl ?_
 refine aE ?_
 refine aA rfl (aD rfl ?_)
 refine aA rfl (aD rfl ?_)
 refine aB ?_
 refine aV ?_
 refine bU ?_
 refine fL rfl rfl rfl ?_
 · skip
   have e : mI xs = (0, 6) := by rw [mI, if_pos hI, if_neg (by rw [hD]; decide), if_pos (.inl (by omega))]
   rw [e]; exact ⟨rfl, X⟩
 obtain ⟨p0, hp0, _⟩ := jZ (xs := (fS xs 0)) (k := 0) (by omega)
 have hr0 := vO hbm 0 p0 (List.mem_of_getElem? hp0)
 obtain ⟨p2, hp2, _⟩ := jZ (xs := (fS xs 0)) (k := 2) (by omega)
 have hr2 := vO hbm 0 p2 (List.mem_of_getElem? hp2)
 obtain ⟨p3, hp3, _⟩ := jZ (xs := (fS xs 0)) (k := 3) (by omega)
 have hr3 := vO hbm 0 p3 (List.mem_of_getElem? hp3)
 obtain ⟨p4, hp4, _⟩ := jZ (xs := (fS xs 0)) (k := 4) (by omega)
 have hr4 := vO hbm 0 p4 (List.mem_of_getElem? hp4)
 have hv : idV (fS xs 0) = p2 * 65536 + p3 * 256 + p4 := by rw [idV, qQ hp2, qQ hp3, qQ hp4]
 have e0 : (fS xs 0).getD 0 0 = p0 := qQ hp0
 refine aA rfl (aC rfl ?_)
 refine aH rfl rfl rfl (aC rfl ?_)
 refine aH rfl rfl rfl (aT hp bL rfl dA rfl rfl rfl hp0 rfl ?_)
 refine aH rfl rfl rfl (cX hp bL hp0 cY rfl rfl rfl ?_)
 refine aH rfl rfl rfl (hP rfl rfl (fun hz0 => ?_) (fun hz0 => ?_))
 refine aA rfl (aJ rfl rfl ?_)
 refine aA rfl (aC rfl ?_)
 refine aG rfl rfl rfl rfl ?_
 refine aG rfl rfl rfl rfl ?_
 refine aG rfl rfl rfl rfl ?_
 refine aA rfl (aJ rfl rfl ?_)
 refine aB ?_
 refine aR rfl ?_
 refine aE ?_
 refine aA rfl (aD rfl ?_)
 refine aA rfl (aD rfl ?_)
 refine aB ?_
 refine aV ?_
 refine bU ?_
 refine fL rfl rfl rfl ?_
 · skip
   have e : mI xs = (0, 6) := by rw [mI, if_pos hI, if_neg (by rw [hD]; decide), if_pos (.inr (by rw [e0]; exact hz0))]
   rw [e]; exact ⟨rfl, X⟩
 refine aA rfl (aJ rfl rfl ?_)
 refine aA rfl (aC rfl ?_)
 refine aH rfl rfl rfl (aC rfl ?_)
 refine aH rfl rfl rfl (aS aEq rfl (aO (aBu _ _ _ _ (((fS xs 0).drop 2).take ((fS xs 0).length - 3 - 2)) p2 p3 p4 _ pS (by rw [List.length_take, List.length_drop]; omega) (sU (by omega) (by omega) hp2) (sU (by omega) (by omega) hp3) (sU (by omega) (by omega) hp4) hr2 hr3 hr4) ?_))
 rintro _ w13 ⟨rfl, x12⟩
 replace hs := hs.ext x12
 replace hn := hn.ext x12
 replace oD := oD.ext x12
 replace oR := oR.ext x12
 replace hp := hp.ext x12
 replace pS := pS.ext x12
 replace X := Q7x X x12
 refine aH rfl rfl rfl (dK rfl rfl (fun hid => ?_) (fun hid => ?_))
 refine aA rfl (aJ rfl rfl ?_)
 refine aB ?_
 refine aR rfl ?_
 refine aE ?_
 refine aA rfl (aD rfl ?_)
 refine aA rfl (aD rfl ?_)
 refine aB ?_
 refine aV ?_
 refine bU ?_
 refine fL rfl rfl rfl ?_
 · skip
   have e : mI xs = (0, 6) := by rw [mI, if_pos hI, if_neg (by rw [hD]; decide), if_neg (by rw [e0]; omega), if_pos (by rw [hv]; exact hid)]
   rw [e]; exact ⟨rfl, X⟩
 refine aA rfl (aJ rfl rfl ?_)
 refine aB ?_
 refine aL rfl ?_
 refine aU ?_
 refine aP ?_
 refine aE ?_
 refine aA rfl (aC rfl ?_)
 refine aA rfl (aS aEq rfl (aO (aBu _ _ _ _ (((fS xs 0).drop 2).take ((fS xs 0).length - 3 - 2)) p2 p3 p4 _ pS (by rw [List.length_take, List.length_drop]; omega) (sU (by omega) (by omega) hp2) (sU (by omega) (by omega) hp3) (sU (by omega) (by omega) hp4) hr2 hr3 hr4) ?_))
 rintro _ w15 ⟨rfl, x14⟩
 replace hs := hs.ext x14
 replace hn := hn.ext x14
 replace oD := oD.ext x14
 replace oR := oR.ext x14
 replace hp := hp.ext x14
 replace pS := pS.ext x14
 replace X := Q7x X x14
 refine aA rfl (aD rfl ?_)
 refine aA rfl (aD rfl ?_)
 refine aB ?_
 refine aV ?_
 refine fL rfl rfl rfl ?_
 · skip
   have e : mI xs = (p2 * 65536 + p3 * 256 + p4, 0) := by rw [mI, if_pos hI, if_neg (by rw [hD]; decide), if_neg (by rw [e0]; omega), hv, if_neg (by omega)]
   rw [e]; exact ⟨rfl, X⟩
 replace hs := hs.ext x1
 replace hn := hn.ext x1
 replace X := Q7x X x1
 refine aA rfl (cD rfl ?_)
 refine aB ?_
 refine aR rfl ?_
 refine aE ?_
 refine aA rfl (aD rfl ?_)
 refine aA rfl (aD rfl ?_)
 refine aB ?_
 refine aV ?_
 refine bU ?_
 refine fL rfl rfl rfl ?_
 · skip
   have e : mI xs = (0, 2) := by rw [mI, if_neg (by rw [hI]; decide)]
   rw [e]; exact ⟨rfl, X⟩
end Go.Proofs.YtdoibplhbdkapaaGreatDoor
