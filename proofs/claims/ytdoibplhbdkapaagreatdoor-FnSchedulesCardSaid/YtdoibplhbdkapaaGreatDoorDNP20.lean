/- Parts. No condition. -/
import Derived.Test.YtdoibplhbdkapaaGreatDoorDNP12
import Derived.Test.YtdoibplhbdkapaaGreatDoorDNP14
import Derived.Test.YtdoibplhbdkapaaGreatDoorDNP17
import Derived.Test.YtdoibplhbdkapaaGreatDoorDNP5
namespace Go.Proofs.YtdoibplhbdkapaaGreatDoor
open Go.RowKit
set_option linter.unusedVariables false
set_option linter.unusedSimpArgs false
set_option maxRecDepth 20000
theorem aE1 (A : Option Addr) (B c : Nat) (xs : List SlotI) (m r s : Int) (w : World) (hs : Sl B w A (xs.flatMap SlotI.cells)) (hl : xs.length ≤ 1048576) :
   Calls Tryz.prog 107 #[.slice A xs.length c, .int .i64 m, .int .i64 r, .int .i64 s] w (fD fun v w' => v = .int .i64 (gJ (mH m r s) 0 xs) ∧ Ext w w') := by
 have Bhs := hs.1
 have X := Q7r w
 refine bI (args := [.slice A xs.length c, .int .i64 m, .int .i64 r, .int .i64 s]) Tryz.func107 Tryz.ntmps107 rfl rfl ?_
 refine aE ?_
 refine aA rfl (aD rfl ?_)
 refine aB ?_
 refine aQ ?_
 refine aE ?_
 refine aA rfl (aD rfl ?_)
 refine aB ?_
 refine aW ?_
 refine dD (G := Nat) (fun k => [(0, .slice A xs.length c), (1, .int .i64 m), (2, .int .i64 r), (3, .int .i64 s), (9, .int .i64 (k : Nat))]) (fun k wr => k ≤ xs.length ∧ (gJ (mH m r s) 0 xs) = gJ (mH m r s) (k : Int) (xs.drop k) ∧ Sl B wr A (xs.flatMap SlotI.cells) ∧ Ext w wr) (fun k => xs.length - k) 0 (.cons rfl (.cons rfl (.cons rfl (.cons rfl (.cons rfl (.nil _)))))) ?_ ?_
 · exact ⟨by omega, rfl, hs, X⟩
 clear hs
 clear X
 rintro k wr ⟨hk0, hi, hs, X⟩
 refine aQ ?_
 refine aE ?_
 refine aA rfl (aC rfl ?_)
 refine aA rfl (aC rfl ?_)
 refine aA rfl (cQ Tryz.underlying26 rfl ?_)
 refine aA rfl (cH rfl rfl (fun hk => ?_) (fun hk => ?_))
 obtain ⟨x, hx, dx⟩ := dM hk
 refine aB ?_
 refine aR rfl ?_
 refine aU ?_
 refine aP ?_
 refine aQ ?_
 refine aW ?_
 refine aE ?_
 refine aA rfl (aC rfl ?_)
 refine aA rfl (aC rfl ?_)
 refine aA rfl (aT hs SlotI.len rfl eW rfl rfl rfl hx rfl ?_)
 refine aA rfl (bK gF rfl ?_)
 refine aA rfl (dQ hs SlotI.len hx cY rfl rfl rfl ?_)
 refine aA rfl (aC rfl ?_)
 refine aA rfl (dK rfl rfl (fun h1 => ?_) (fun h1 => ?_))
 refine aA rfl (aC rfl ?_)
 refine aH rfl rfl rfl (aC rfl ?_)
 refine aH rfl rfl rfl (aC rfl ?_)
 refine aH rfl rfl rfl (aT hs SlotI.len rfl eW rfl rfl rfl hx rfl ?_)
 refine aH rfl rfl rfl (bK jY rfl ?_)
 refine aH rfl rfl rfl (dQ hs SlotI.len hx cY rfl rfl rfl ?_)
 refine aH rfl rfl rfl (aC rfl ?_)
 refine aH rfl rfl rfl (dK rfl rfl (fun h2 => ?_) (fun h2 => ?_))
 refine aA rfl (aJ rfl rfl ?_)
 refine aA rfl (aC rfl ?_)
 refine aH rfl rfl rfl (aC rfl ?_)
 refine aH rfl rfl rfl (aC rfl ?_)
 refine aH rfl rfl rfl (aT hs SlotI.len rfl eW rfl rfl rfl hx rfl ?_)
 refine aH rfl rfl rfl (bK jO rfl ?_)
 refine aH rfl rfl rfl (dQ hs SlotI.len hx cY rfl rfl rfl ?_)
 refine aH rfl rfl rfl (aC rfl ?_)
 refine aH rfl rfl rfl (dK rfl rfl (fun h3 => ?_) (fun h3 => ?_))
 refine aA rfl (aJ rfl rfl ?_)
 refine aB ?_
 refine aR rfl ?_
 refine aE ?_
 refine aA rfl (aC rfl ?_)
 refine aA rfl (aD rfl ?_)
 refine aB ?_
 refine aV ?_
 refine dN ?_
 refine bU ?_
 refine bU ?_
 refine dN ?_
 refine bU ?_
 refine aK rfl rfl ?_
 · skip
   refine ⟨congrArg (Value.int .i64) ?_, X⟩
   first
   | (rw [hi, bJ hk]; rfl)
   | (rw [hi, dx, gJ, if_pos (by simp [mH, *])])
 refine aA rfl (aJ rfl rfl ?_)
 refine aB ?_
 refine aL rfl ?_
 refine aU ?_
 refine dJ ?_
 refine aP ?_
 refine aM ?_
 refine aA rfl (aC rfl ?_)
 refine aA rfl (aZ rfl rfl (dR (by omega)) ?_)
 refine aA rfl (aD rfl ?_)
 refine aB ?_
 refine aP ⟨k + 1, (.cons rfl (.cons rfl (.cons rfl (.cons rfl (.cons rfl (.nil _)))))), ?_, ?_⟩
 · exact ⟨by omega, (by rw [hi, dx, gJ, if_neg (by simp [mH, *])]; rfl), hs, X⟩
 · first | omega | (dsimp only; omega)
 refine aA rfl (aJ rfl rfl ?_)
 refine aA rfl (aC rfl ?_)
 refine aG rfl rfl rfl rfl ?_
 refine aG rfl rfl rfl rfl ?_
 refine aG rfl rfl rfl rfl ?_
 refine aG rfl rfl rfl rfl ?_
 refine aG rfl rfl rfl rfl ?_
 refine aG rfl rfl rfl rfl ?_
 refine aG rfl rfl rfl rfl ?_
 refine aA rfl (aJ rfl rfl ?_)
 refine aB ?_
 refine aL rfl ?_
 refine aU ?_
 refine dJ ?_
 refine aP ?_
 refine aM ?_
 refine aA rfl (aC rfl ?_)
 refine aA rfl (aZ rfl rfl (dR (by omega)) ?_)
 refine aA rfl (aD rfl ?_)
 refine aB ?_
 refine aP ⟨k + 1, (.cons rfl (.cons rfl (.cons rfl (.cons rfl (.cons rfl (.nil _)))))), ?_, ?_⟩
 · exact ⟨by omega, (by rw [hi, dx, gJ, if_neg (by simp [mH, *])]; rfl), hs, X⟩
 · first | omega | (dsimp only; omega)
 refine aA rfl (aC rfl ?_)
 refine aG rfl rfl rfl rfl ?_
 refine aG rfl rfl rfl rfl ?_
 refine aG rfl rfl rfl rfl ?_
 refine aG rfl rfl rfl rfl ?_
 refine aG rfl rfl rfl rfl ?_
 refine aG rfl rfl rfl rfl ?_
 refine aG rfl rfl rfl rfl ?_
 refine aA rfl (aJ rfl rfl ?_)
 refine aA rfl (aC rfl ?_)
 refine aG rfl rfl rfl rfl ?_
 refine aG rfl rfl rfl rfl ?_
 refine aG rfl rfl rfl rfl ?_
 refine aG rfl rfl rfl rfl ?_
 refine aG rfl rfl rfl rfl ?_
 refine aG rfl rfl rfl rfl ?_
 refine aG rfl rfl rfl rfl ?_
 refine aA rfl (aJ rfl rfl ?_)
 refine aB ?_
 refine aL rfl ?_
 refine aU ?_
 refine dJ ?_
 refine aP ?_
 refine aM ?_
 refine aA rfl (aC rfl ?_)
 refine aA rfl (aZ rfl rfl (dR (by omega)) ?_)
 refine aA rfl (aD rfl ?_)
 refine aB ?_
 refine aP ⟨k + 1, (.cons rfl (.cons rfl (.cons rfl (.cons rfl (.cons rfl (.nil _)))))), ?_, ?_⟩
 · exact ⟨by omega, (by rw [hi, dx, gJ, if_neg (by simp [mH, *])]; rfl), hs, X⟩
 · first | omega | (dsimp only; omega)
 refine aB ?_
 refine aL rfl ?_
 refine dC ?_
 refine dB ?_
 refine dB ?_
 refine eA ?_
 refine aP ?_
 refine aE ?_
 refine aA rfl (aD rfl ?_)
 refine aB ?_
 refine aV ?_
 refine aK rfl rfl ?_
 · skip
   refine ⟨congrArg (Value.int .i64) ?_, X⟩
   first
   | (rw [hi, bJ hk]; rfl)
   | (rw [hi, dx, gJ, if_pos (by simp [mH, *])])
theorem aCt (x : SlotI) (g1 g2 g3 : Nat) (m r s : Int) (w : World) (q1 : Blk w g1 2 [.int .i64 m]) (q2 : Blk w g2 2 [.int .i64 r]) (q3 : Blk w g3 2 [.int .i64 s]) :
   Calls Tryz.prog 191 #[.agg x.cells.toArray, .pointer (some ⟨g1, 0, none⟩), .pointer (some ⟨g2, 0, none⟩), .pointer (some ⟨g3, 0, none⟩)] w (fD fun v w' => v = .bool (mH m r s x) ∧ Ext w w') := by
 have X := Q7r w
 refine bI (args := [.agg x.cells.toArray, .pointer (some ⟨g1, 0, none⟩), .pointer (some ⟨g2, 0, none⟩), .pointer (some ⟨g3, 0, none⟩)]) Tryz.func191 Tryz.ntmps191 rfl rfl ?_
 refine aE ?_
 refine aA rfl (eE rfl rfl ?_)
 intro g4 w3 eg4 b1 x2 zg4
 have lg4 : w.heap.size ≤ g4 := Q7l X.size (Q7e eg4.symm)
 have ng4q1 := Nat.lt_of_lt_of_eq q1.lt eg4.symm
 have ng4q2 := Nat.lt_of_lt_of_eq q2.lt eg4.symm
 have ng4q3 := Nat.lt_of_lt_of_eq q3.lt eg4.symm
 replace q1 := q1.ext x2
 replace q2 := q2.ext x2
 replace q3 := q3.ext x2
 replace X := Q7x X x2
 refine aA rfl (aD rfl ?_)
 refine aB ?_
 refine aE ?_
 refine aA rfl (aF gF rfl rfl ?_)
 refine aA rfl (aI b1 cY rfl rfl ?_)
 refine aA rfl (aI q1 cY rfl rfl ?_)
 refine aA rfl (dK rfl rfl (fun h5 => ?_) (fun h5 => ?_))
 refine aA rfl (aC rfl ?_)
 refine aH rfl rfl rfl (aF jY rfl rfl ?_)
 refine aH rfl rfl rfl (aI b1 cY rfl rfl ?_)
 refine aH rfl rfl rfl (aI q2 cY rfl rfl ?_)
 refine aH rfl rfl rfl (dK rfl rfl (fun h6 => ?_) (fun h6 => ?_))
 refine aA rfl (aJ rfl rfl ?_)
 refine aA rfl (aC rfl ?_)
 refine aH rfl rfl rfl (aF jO rfl rfl ?_)
 refine aH rfl rfl rfl (aI b1 cY rfl rfl ?_)
 refine aH rfl rfl rfl (aI q3 cY rfl rfl ?_)
 refine aH rfl rfl rfl (iD rfl rfl ?_)
 refine aA rfl (aJ rfl rfl ?_)
 refine aA rfl (aD rfl ?_)
 refine aB ?_
 refine aV ?_
 refine aK rfl rfl ?_
 exact ⟨by simp [mH, *], X⟩
 refine aA rfl (aJ rfl rfl ?_)
 refine aA rfl (aC rfl ?_)
 refine aG rfl rfl rfl rfl ?_
 refine aG rfl rfl rfl rfl ?_
 refine aG rfl rfl rfl rfl ?_
 refine aG rfl rfl rfl rfl ?_
 refine aA rfl (aJ rfl rfl ?_)
 refine aA rfl (aD rfl ?_)
 refine aB ?_
 refine aV ?_
 refine aK rfl rfl ?_
 exact ⟨by simp [mH, *], X⟩
 refine aA rfl (aC rfl ?_)
 refine aG rfl rfl rfl rfl ?_
 refine aG rfl rfl rfl rfl ?_
 refine aG rfl rfl rfl rfl ?_
 refine aG rfl rfl rfl rfl ?_
 refine aA rfl (aJ rfl rfl ?_)
 refine aA rfl (aC rfl ?_)
 refine aG rfl rfl rfl rfl ?_
 refine aG rfl rfl rfl rfl ?_
 refine aG rfl rfl rfl rfl ?_
 refine aG rfl rfl rfl rfl ?_
 refine aA rfl (aJ rfl rfl ?_)
 refine aA rfl (aD rfl ?_)
 refine aB ?_
 refine aV ?_
 refine aK rfl rfl ?_
 exact ⟨by simp [mH, *], X⟩
theorem aCu (A : Option Addr) (B c : Nat) (xs : List SlotI) (g1 g2 g3 : Nat) (m r s : Int) (w : World) (hs : Sl B w A (xs.flatMap SlotI.cells)) (q1 : Blk w g1 2 [.int .i64 m]) (q2 : Blk w g2 2 [.int .i64 r]) (q3 : Blk w g3 2 [.int .i64 s]) (hl : xs.length ≤ 1048576) :
   Calls Tryz.prog 190 #[.slice A xs.length c, .func (.func 191) #[] #[.pointer (some ⟨g1, 0, none⟩), .pointer (some ⟨g2, 0, none⟩), .pointer (some ⟨g3, 0, none⟩)]] w (fD fun v w' => v = .int .i64 (gJ (mH m r s) 0 xs) ∧ Ext w w') := by
 have Bhs := hs.1
 have X := Q7r w
 refine bI (args := [.slice A xs.length c, .func (.func 191) #[] #[.pointer (some ⟨g1, 0, none⟩), .pointer (some ⟨g2, 0, none⟩), .pointer (some ⟨g3, 0, none⟩)]]) Tryz.func190 Tryz.ntmps190 rfl rfl ?_
 refine aE ?_
 refine aA rfl (aD rfl ?_)
 refine aB ?_
 refine aQ ?_
 refine aE ?_
 refine aA rfl (aC rfl ?_)
 refine aA rfl (cQ Tryz.underlying26 rfl ?_)
 refine aA rfl (aC rfl ?_)
 refine aB ?_
 refine aW ?_
 refine dD (G := Nat) (fun k => [(0, .slice A xs.length c), (1, .func (.func 191) #[] #[.pointer (some ⟨g1, 0, none⟩), .pointer (some ⟨g2, 0, none⟩), .pointer (some ⟨g3, 0, none⟩)]), (7, .int .i64 (xs.length : Nat)), (8, .int .i64 (k : Nat))]) (fun k wr => k ≤ xs.length ∧ (gJ (mH m r s) 0 xs) = gJ (mH m r s) (k : Int) (xs.drop k) ∧ Sl B wr A (xs.flatMap SlotI.cells) ∧ Blk wr g1 2 [.int .i64 m] ∧ Blk wr g2 2 [.int .i64 r] ∧ Blk wr g3 2 [.int .i64 s] ∧ Ext w wr) (fun k => xs.length - k) 0 (.cons rfl (.cons rfl (.cons rfl (.cons rfl (.nil _))))) ?_ ?_
 · exact ⟨by omega, rfl, hs, q1, q2, q3, X⟩
 clear hs q1 q2 q3
 clear X
 rintro k wr ⟨hk0, hi, hs, q1, q2, q3, X⟩
 refine aE ?_
 refine aA rfl (cH rfl rfl (fun hk => ?_) (fun hk => ?_))
 obtain ⟨x, hx, dx⟩ := dM hk
 refine aB ?_
 refine aQ ?_
 refine aR rfl ?_
 refine aU ?_
 refine aP ?_
 refine aQ ?_
 refine aW ?_
 refine aE ?_
 refine aA rfl (aC rfl ?_)
 refine aA rfl (aD rfl ?_)
 refine aB ?_
 refine aE ?_
 refine aA rfl (aC rfl ?_)
 refine aA rfl (aC rfl ?_)
 refine aA rfl (aC rfl ?_)
 refine aA rfl (aT hs SlotI.len rfl eW rfl rfl rfl hx rfl ?_)
 refine aA rfl (dY hs SlotI.len hx dZ rfl ?_)
 refine aA rfl (uN aI9 rfl rfl (aCt _ _ _ _ _ _ _ _ q1 q2 q3) (fun w3 h1 x2 => ?_) (fun w3 h1 x2 => ?_))
 replace hs := hs.ext x2
 replace q1 := q1.ext x2
 replace q2 := q2.ext x2
 replace q3 := q3.ext x2
 replace X := Q7x X x2
 refine aB ?_
 refine aR rfl ?_
 refine aE ?_
 refine aA rfl (aC rfl ?_)
 refine aA rfl (aD rfl ?_)
 refine aB ?_
 refine aV ?_
 refine dN ?_
 refine bU ?_
 refine bU ?_
 refine dN ?_
 refine bU ?_
 refine aK rfl rfl ?_
 · skip
   refine ⟨congrArg (Value.int .i64) ?_, X⟩
   first
   | (rw [hi, bJ hk]; rfl)
   | (rw [hi, dx, gJ, if_pos (by simp [*])])
 replace hs := hs.ext x2
 replace q1 := q1.ext x2
 replace q2 := q2.ext x2
 replace q3 := q3.ext x2
 replace X := Q7x X x2
 refine aB ?_
 refine aL rfl ?_
 refine aU ?_
 refine dJ ?_
 refine aP ?_
 refine aM ?_
 refine aA rfl (aZ rfl rfl (dR (by omega)) ?_)
 refine aA rfl (aC rfl ?_)
 refine aB ?_
 refine aP ⟨k + 1, (.cons rfl (.cons rfl (.cons rfl (.cons rfl (.nil _))))), ?_, ?_⟩
 · exact ⟨by omega, (by rw [hi, dx, gJ, if_neg (by simp [*])]; rfl), hs, q1, q2, q3, X⟩
 · first | omega | (dsimp only; omega)
 refine aB ?_
 refine aQ ?_
 refine aL rfl ?_
 refine dC ?_
 refine dB ?_
 refine dB ?_
 refine eA ?_
 refine aP ?_
 refine aE ?_
 refine aA rfl (aD rfl ?_)
 refine aB ?_
 refine aV ?_
 refine aK rfl rfl ?_
 · skip
   refine ⟨congrArg (Value.int .i64) ?_, X⟩
   first
   | (rw [hi, bJ hk]; rfl)
   | (rw [hi, dx, gJ, if_pos (by simp [*])])
theorem aDy (A : Option Addr) (B c : Nat) (xs : List SlotI) (m r s : Int) (w : World) (hs : Sl B w A (xs.flatMap SlotI.cells)) (hl : xs.length ≤ 1048576) :
   Calls Tryz.prog 106 #[.slice A xs.length c, .int .i64 m, .int .i64 r, .int .i64 s] w (fD fun v w' => v = .int .i64 (gJ (mH m r s) 0 xs) ∧ Ext w w') := by
 have Bhs := hs.1
 have X := Q7r w
 refine bI (args := [.slice A xs.length c, .int .i64 m, .int .i64 r, .int .i64 s]) Tryz.func106 Tryz.ntmps106 rfl rfl ?_
 refine aE ?_
 refine aA rfl (eE rfl rfl ?_)
 intro g4 w3 eg4 b1 x2 zg4
 have lg4 : w.heap.size ≤ g4 := Q7l X.size (Q7e eg4.symm)
 have pg4hs := Q7l hs.1 (Q7e eg4.symm)
 replace hs := hs.ext x2
 replace X := Q7x X x2
 refine aA rfl (eE rfl rfl ?_)
 intro g8 w7 eg8 b5 x6 zg8
 have lg8 : w.heap.size ≤ g8 := Q7l X.size (Q7e eg8.symm)
 have pg8hs := Q7l hs.1 (Q7e eg8.symm)
 have ng8b1 := Nat.lt_of_lt_of_eq b1.lt eg8.symm
 replace hs := hs.ext x6
 replace b1 := b1.ext x6
 replace X := Q7x X x6
 refine aA rfl (eE rfl rfl ?_)
 intro g12 w11 eg12 b9 x10 zg12
 have lg12 : w.heap.size ≤ g12 := Q7l X.size (Q7e eg12.symm)
 have pg12hs := Q7l hs.1 (Q7e eg12.symm)
 have ng12b1 := Nat.lt_of_lt_of_eq b1.lt eg12.symm
 have ng12b5 := Nat.lt_of_lt_of_eq b5.lt eg12.symm
 replace hs := hs.ext x10
 replace b1 := b1.ext x10
 replace b5 := b5.ext x10
 replace X := Q7x X x10
 refine aA rfl (aD rfl ?_)
 refine aB ?_
 refine aE ?_
 refine aA rfl (aC rfl ?_)
 refine aA rfl (mS rfl ?_)
 refine aA rfl (aS aGE rfl (aO (aCu _ _ _ _ _ _ _ _ _ _ _ hs b1 b5 b9 hl) ?_))
 rintro _ w14 ⟨rfl, x13⟩
 replace hs := hs.ext x13
 replace b1 := b1.ext x13
 replace b5 := b5.ext x13
 replace b9 := b9.ext x13
 replace X := Q7x X x13
 refine aA rfl (aD rfl ?_)
 refine aB ?_
 refine aV ?_
 refine aK rfl rfl ?_
 exact ⟨by rfl, X⟩
theorem aAu (m : MedlI) (B : Nat) (w : World) (hm : Med B w m) (hz : m.small) (hT : jH (m.ms.map (·.m)) = true) (hS : gR m.ss = true) :
   Calls Tryz.prog 227 #[.agg m.cells.toArray] w (fD fun v w' => v = .bool (iK m.d) ∧ Ext w w') := by
 have hls := hz.ls
 have hlm := hz.lm
 have hln := hz.ln
 have Bhm := hm.1
 have X := Q7r w
 refine bI (args := [.agg m.cells.toArray]) Tryz.func227 Tryz.ntmps227 rfl rfl ?_
 refine aE ?_
 refine aA rfl (eE rfl rfl ?_)
 intro g4 w3 eg4 b1 x2 zg4
 have lg4 : w.heap.size ≤ g4 := Q7l X.size (Q7e eg4.symm)
 have pg4hm := Q7l hm.1 (Q7e eg4.symm)
 replace hm := hm.ext x2
 replace X := Q7x X x2
 refine aA rfl (aD rfl ?_)
 refine aB ?_
 refine aE ?_
 refine aA rfl (aD rfl ?_)
 refine aB ?_
 refine aQ ?_
 refine aE ?_
 refine aA rfl (aD rfl ?_)
 refine aB ?_
 refine aW ?_
 refine dD (G := Nat × Int) (fun ⟨k, n⟩ => [(1, .pointer (some ⟨g4, 0, none⟩)), (3, .int .i64 n), (4, .int .i64 (k : Nat))]) (fun ⟨k, n⟩ wr => k ≤ m.ms.length ∧ (0 ≤ n ∧ n ≤ 128 * k) ∧ gE m.ss (jA 0 (m.ms.map (·.m))) 0 = gE m.ss (jA (k : Int) ((m.ms.drop k).map (·.m))) n ∧ Med B wr m ∧ Blk wr g4 28 m.cells ∧ Ext w wr) (fun ⟨k, n⟩ => m.ms.length - k) (0, 0) (.cons rfl (.cons rfl (.cons rfl (.nil _)))) ?_ ?_
 · exact ⟨by omega, by omega, rfl, hm, b1, X⟩
 clear hm b1
 clear X
 rintro ⟨k, n⟩ wr ⟨hk0, hn, hi, hm, b1, X⟩
 refine aQ ?_
 refine aE ?_
 refine aA rfl (aC rfl ?_)
 refine aA rfl (aF fO rfl rfl ?_)
 refine aA rfl (aI b1 mK rfl rfl ?_)
 refine aA rfl (cQ Tryz.underlying25 rfl ?_)
 refine aA rfl (cH rfl rfl (fun hk => ?_) (fun hk => ?_))
 obtain ⟨x, hx, dx⟩ := dM hk
 have hxi := pL hT x.m (List.mem_map.2 ⟨x, List.mem_of_getElem? hx, rfl⟩)
 have hmul := aKz hxi.1 hxi.2
 refine aB ?_
 refine aR rfl ?_
 refine aU ?_
 refine aP ?_
 refine aQ ?_
 refine aW ?_
 refine aE ?_
 refine aA rfl (aD rfl ?_)
 refine aB ?_
 refine aW ?_
 refine dD (G := Nat × Int) (fun ⟨r, n⟩ => [(1, .pointer (some ⟨g4, 0, none⟩)), (4, .int .i64 (k : Nat)), (7, .int .i64 (k : Nat)), (9, .slice m.Am m.ms.length m.cm), (10, .int .i64 (m.ms.length : Nat)), (3, .int .i64 n), (5, .int .i64 (r : Nat))]) (fun ⟨r, n⟩ wr => (r : Int) ≤ x.m.rounds ∧ (0 ≤ n ∧ n ≤ 128 * k + 16 * r) ∧ gE m.ss (jA 0 (m.ms.map (·.m))) 0 = gE m.ss (aDV k x.m r ++ jA ((k + 1 : Nat) : Int) ((m.ms.drop (k + 1)).map (·.m))) n ∧ Med B wr m ∧ Blk wr g4 28 m.cells ∧ Ext w wr) (fun ⟨r, n⟩ => x.m.rounds.toNat - r) (0, n) (.cons rfl (.cons rfl (.cons rfl (.cons rfl (.cons rfl (.cons rfl (.cons rfl (.nil _)))))))) ?_ ?_
 · exact ⟨by omega, by omega, (by rw [hi, dx]; rfl), hm, b1, X⟩
 clear hm b1
 clear X
 rintro ⟨r, n⟩ wr ⟨hr0, hn2, hi2, hm, b1, X⟩
 refine aQ ?_
 refine aE ?_
 refine aA rfl (aC rfl ?_)
 refine aA rfl (aF fO rfl rfl ?_)
 refine aA rfl (aI b1 mK rfl rfl ?_)
 refine aA rfl (aC rfl ?_)
 refine aA rfl (aT hm.sm ModeI.len rfl iA rfl rfl rfl hx rfl ?_)
 refine aA rfl (bK iS rfl ?_)
 refine aA rfl (dQ hm.sm ModeI.len hx cY rfl rfl rfl ?_)
 refine aA rfl (cH rfl rfl (fun hr => ?_) (fun hr => ?_))
 refine aB ?_
 refine aR rfl ?_
 refine aU ?_
 refine aP ?_
 refine aQ ?_
 refine aW ?_
 refine aE ?_
 refine aA rfl (aD rfl ?_)
 refine aB ?_
 refine aW ?_
 refine dD (G := Nat × Int) (fun ⟨s, n⟩ => [(1, .pointer (some ⟨g4, 0, none⟩)), (4, .int .i64 (k : Nat)), (5, .int .i64 (r : Nat)), (7, .int .i64 (k : Nat)), (9, .slice m.Am m.ms.length m.cm), (10, .int .i64 (m.ms.length : Nat)), (14, .int .i64 (r : Nat)), (16, .slice m.Am m.ms.length m.cm), (17, .int .i64 (k : Nat)), (3, .int .i64 n), (6, .int .i64 (s : Nat))]) (fun ⟨s, n⟩ wr => (s : Int) ≤ x.m.slots ∧ (0 ≤ n ∧ n ≤ 128 * k + 16 * r + s) ∧ gE m.ss (jA 0 (m.ms.map (·.m))) 0 = gE m.ss ((tR k r x.m.slots.toNat).drop s ++ (aDV k x.m (r + 1) ++ jA ((k + 1 : Nat) : Int) ((m.ms.drop (k + 1)).map (·.m)))) n ∧ Med B wr m ∧ Blk wr g4 28 m.cells ∧ Ext w wr) (fun ⟨s, n⟩ => x.m.slots.toNat - s) (0, n) (.cons rfl (.cons rfl (.cons rfl (.cons rfl (.cons rfl (.cons rfl (.cons rfl (.cons rfl (.cons rfl (.cons rfl (.cons rfl (.nil _)))))))))))) ?_ ?_
 · exact ⟨by omega, by omega, (by rw [hi2, aFi hr, List.append_assoc]; rfl), hm, b1, X⟩
 clear hm b1
 clear X
 rintro ⟨s, n⟩ wr ⟨hs0, hn3, hi3, hm, b1, X⟩
 refine aQ ?_
 refine aE ?_
 refine aA rfl (aC rfl ?_)
 refine aA rfl (aF fO rfl rfl ?_)
 refine aA rfl (aI b1 mK rfl rfl ?_)
 refine aA rfl (aC rfl ?_)
 refine aA rfl (aT hm.sm ModeI.len rfl iA rfl rfl rfl hx rfl ?_)
 refine aA rfl (bK fU rfl ?_)
 refine aA rfl (dQ hm.sm ModeI.len hx cY rfl rfl rfl ?_)
 refine aA rfl (cH rfl rfl (fun hs1 => ?_) (fun hs1 => ?_))
 refine aB ?_
 refine aR rfl ?_
 refine aU ?_
 refine aP ?_
 refine aQ ?_
 refine aW ?_
 refine aQ ?_
 refine aE ?_
 refine aA rfl (aF dU rfl rfl ?_)
 refine aA rfl (aI b1 iF rfl rfl ?_)
 refine aA rfl (aC rfl ?_)
 refine aA rfl (aC rfl ?_)
 refine aA rfl (aC rfl ?_)
 refine aA rfl (aS aIM rfl (aO (aE1 _ _ _ _ (k : Int) (r : Int) (s : Int) _ hm.ss hls) ?_))
 rintro _ w6 ⟨rfl, x5⟩
 replace hm := hm.ext x5
 replace b1 := b1.ext x5
 replace X := Q7x X x5
 refine aA rfl (cH rfl rfl (fun hf => ?_) (fun hf => ?_))
 refine aB ?_
 refine aR rfl ?_
 refine aE ?_
 refine aA rfl (aD rfl ?_)
 refine aB ?_
 refine aV ?_
 refine bU ?_
 refine dN ?_
 refine bU ?_
 refine bU ?_
 refine dN ?_
 refine dN ?_
 refine bU ?_
 refine bU ?_
 refine dN ?_
 refine dN ?_
 refine bU ?_
 refine bU ?_
 refine dN ?_
 refine bU ?_
 refine aK rfl rfl ?_
 · skip
   refine ⟨congrArg Value.bool ?_, X⟩
   have e0 : iK m.d = gE m.ss (jA 0 (m.ms.map (·.m))) 0 := (wW (d := m.d) hT hS).symm
   rw [e0]
   first
   | (rw [hi3, wE (by omega), List.cons_append, xC (k := ((k : Int), (r : Int), (s : Int))) hf]; done)
   | (rw [hi, bJ hk]; exact completeS_nil.symm)
 refine aB ?_
 refine aL rfl ?_
 refine aU ?_
 refine aP ?_
 refine aM ?_
 refine aA rfl (aC rfl ?_)
 refine aA rfl (aZ rfl rfl (dR (by omega)) ?_)
 refine aA rfl (aD rfl ?_)
 refine aB ?_
 refine dJ ?_
 refine aP ?_
 refine aM ?_
 refine aA rfl (aC rfl ?_)
 refine aA rfl (aZ rfl rfl (dR (by omega)) ?_)
 refine aA rfl (aD rfl ?_)
 refine aB ?_
 refine aP ⟨(s + 1, n + 1), (.cons rfl (.cons rfl (.cons rfl (.cons rfl (.cons rfl (.cons rfl (.cons rfl (.cons rfl (.cons rfl (.cons rfl (.cons rfl (.nil _)))))))))))), ?_, ?_⟩
 · exact ⟨by omega, by omega, (by rw [hi3, wE (by omega), List.cons_append, aCQ (k := ((k : Int), (r : Int), (s : Int))) hf]), hm, b1, X⟩
 · first | omega | (dsimp only; omega)
 refine aB ?_
 refine aL rfl ?_
 refine dC ?_
 refine dB ?_
 refine dB ?_
 refine eA ?_
 refine dJ ?_
 refine aP ?_
 refine aM ?_
 refine aA rfl (aC rfl ?_)
 refine aA rfl (aZ rfl rfl (dR (by omega)) ?_)
 refine aA rfl (aD rfl ?_)
 refine aB ?_
 refine aP ⟨(r + 1, n), (.cons rfl (.cons rfl (.cons rfl (.cons rfl (.cons rfl (.cons rfl (.cons rfl (.nil _)))))))), ?_, ?_⟩
 · exact ⟨by omega, by omega, (by rw [hi3, aGY (by omega)]; rfl), hm, b1, X⟩
 · first | omega | (dsimp only; omega)
 refine aB ?_
 refine aL rfl ?_
 refine dC ?_
 refine dB ?_
 refine dB ?_
 refine eA ?_
 refine dJ ?_
 refine aP ?_
 refine aM ?_
 refine aA rfl (aC rfl ?_)
 refine aA rfl (aZ rfl rfl (dR (by omega)) ?_)
 refine aA rfl (aD rfl ?_)
 refine aB ?_
 refine aP ⟨(k + 1, n), (.cons rfl (.cons rfl (.cons rfl (.nil _)))), ?_, ?_⟩
 · exact ⟨by omega, by omega, (by rw [hi2, aGZ hr]; rfl), hm, b1, X⟩
 · first | omega | (dsimp only; omega)
 refine aB ?_
 refine aL rfl ?_
 refine dC ?_
 refine dB ?_
 refine dB ?_
 refine eA ?_
 refine aP ?_
 refine aE ?_
 refine aA rfl (aC rfl ?_)
 refine aA rfl (aF dU rfl rfl ?_)
 refine aA rfl (aI b1 iF rfl rfl ?_)
 refine aA rfl (cQ Tryz.underlying26 rfl ?_)
 refine aA rfl (iD rfl rfl ?_)
 refine aA rfl (aD rfl ?_)
 refine aB ?_
 refine aV ?_
 refine aK rfl rfl ?_
 · skip
   refine ⟨congrArg Value.bool ?_, X⟩
   have e0 : iK m.d = gE m.ss (jA 0 (m.ms.map (·.m))) 0 := (wW (d := m.d) hT hS).symm
   rw [e0]
   first
   | (rw [hi3, wE (by omega), List.cons_append, xC (k := ((k : Int), (r : Int), (s : Int))) hf]; done)
   | (rw [hi, bJ hk]; exact completeS_nil.symm)
theorem aBs (m : MedlI) (B : Nat) (w : World) (hm : Med B w m) (hz : m.small) (hT : jH (m.ms.map (·.m)) = true) (hS : gR m.ss = true) :
   Calls Tryz.prog 185 #[.agg m.cells.toArray] w (fD fun v w' => v = .bool (iK m.d) ∧ Ext w w') := by
 have hls := hz.ls
 have hlm := hz.lm
 have hln := hz.ln
 have Bhm := hm.1
 have X := Q7r w
 refine bI (args := [.agg m.cells.toArray]) Tryz.func185 Tryz.ntmps185 rfl rfl ?_
 refine aE ?_
 refine aA rfl (eE rfl rfl ?_)
 intro g4 w3 eg4 b1 x2 zg4
 have lg4 : w.heap.size ≤ g4 := Q7l X.size (Q7e eg4.symm)
 have pg4hm := Q7l hm.1 (Q7e eg4.symm)
 replace hm := hm.ext x2
 replace X := Q7x X x2
 refine aA rfl (aD rfl ?_)
 refine aB ?_
 refine aE ?_
 refine aA rfl (aD rfl ?_)
 refine aB ?_
 refine aQ ?_
 refine aE ?_
 refine aA rfl (aF fO rfl rfl ?_)
 refine aA rfl (aI b1 mK rfl rfl ?_)
 refine aA rfl (cQ Tryz.underlying25 rfl ?_)
 refine aA rfl (aC rfl ?_)
 refine aB ?_
 refine aW ?_
 refine dD (G := Nat × Nat) (fun ⟨k, j⟩ => [(1, .pointer (some ⟨g4, 0, none⟩)), (8, .slice m.Am m.ms.length m.cm), (9, .int .i64 (m.ms.length : Nat)), (3, .int .i64 (j : Nat)), (10, .int .i64 (k : Nat))]) (fun ⟨k, j⟩ wr => k ≤ m.ms.length ∧ j ≤ m.ss.length ∧ iK m.d = decide ((m.ss.drop j).map SlotI.key = jA (k : Int) ((m.ms.drop k).map (·.m))) ∧ Med B wr m ∧ Blk wr g4 28 m.cells ∧ Ext w wr) (fun ⟨k, j⟩ => m.ms.length - k) (0, 0) (.cons rfl (.cons rfl (.cons rfl (.cons rfl (.cons rfl (.nil _)))))) ?_ ?_
 · exact ⟨by omega, by omega, rfl, hm, b1, X⟩
 clear hm b1
 clear X
 rintro ⟨k, j⟩ wr ⟨hk0, hj0, hi, hm, b1, X⟩
 refine aE ?_
 refine aA rfl (cH rfl rfl (fun hk => ?_) (fun hk => ?_))
 obtain ⟨x, hx, dx⟩ := dM hk
 have hxi := pL hT x.m (List.mem_map.2 ⟨x, List.mem_of_getElem? hx, rfl⟩)
 have hmul := aKz hxi.1 hxi.2
 refine aB ?_
 refine aQ ?_
 refine aR rfl ?_
 refine aU ?_
 refine aP ?_
 refine aQ ?_
 refine aW ?_
 refine aE ?_
 refine aA rfl (aC rfl ?_)
 refine aA rfl (aT hm.sm ModeI.len rfl iA rfl rfl rfl hx rfl ?_)
 refine aA rfl (dY hm.sm ModeI.len hx hH rfl ?_)
 refine aA rfl (dO hH ?_)
 intro gX w6 egX bX x5 zgX
 have lgX : w.heap.size ≤ gX := Q7l X.size (Q7e egX.symm)
 have pgXhm := Q7l hm.1 (Q7e egX.symm)
 have ngXb1 := Nat.lt_of_lt_of_eq b1.lt egX.symm
 replace hm := hm.ext x5
 replace b1 := b1.ext x5
 replace X := Q7x X x5
 refine aA rfl (aD rfl ?_)
 refine aA rfl (aX bX hH rfl rfl rfl rfl rfl rfl ?_)
 intro w9 bY hg7 z10
 replace hm := hm.grown hg7 (by intro g hg; injection hg; omega)
 replace b1 := b1.grown hg7 (by intro h; injection h; omega)
 replace X := X.grown hg7 X.size (by intro g hg; injection hg; omega)
 clear hg7 bX
 refine aB ?_
 refine aE ?_
 refine aA rfl (aF iS rfl rfl ?_)
 refine aA rfl (aI bY cY rfl rfl ?_)
 refine aA rfl (aF fU rfl rfl ?_)
 refine aA rfl (aI bY cY rfl rfl ?_)
 refine aA rfl (iN rfl rfl (dR (by omega)) ?_)
 refine aA rfl (aC rfl ?_)
 refine aB ?_
 refine aW ?_
 refine dD (G := Nat × Nat) (fun ⟨i, j⟩ => [(1, .pointer (some ⟨g4, 0, none⟩)), (4, .int .i64 (k : Nat)), (5, .pointer (some ⟨gX, 0, none⟩)), (8, .slice m.Am m.ms.length m.cm), (9, .int .i64 (m.ms.length : Nat)), (10, .int .i64 (k : Nat)), (12, .int .i64 (k : Nat)), (19, .int .i64 (x.m.rounds * x.m.slots)), (3, .int .i64 (j : Nat)), (20, .int .i64 (i : Nat))]) (fun ⟨i, j⟩ wr => (i : Int) ≤ x.m.rounds * x.m.slots ∧ j ≤ m.ss.length ∧ iK m.d = decide ((m.ss.drop j).map SlotI.key = (tT k x.m).drop i ++ jA ((k + 1 : Nat) : Int) ((m.ms.drop (k + 1)).map (·.m))) ∧ Med B wr m ∧ Blk wr g4 28 m.cells ∧ Blk wr gX 92 x.cells ∧ Ext w wr) (fun ⟨i, j⟩ => (x.m.rounds * x.m.slots).toNat - i) (0, j) (.cons rfl (.cons rfl (.cons rfl (.cons rfl (.cons rfl (.cons rfl (.cons rfl (.cons rfl (.cons rfl (.cons rfl (.nil _))))))))))) ?_ ?_
 · exact ⟨by omega, by omega, (by rw [hi, dx]; rfl), hm, b1, bY, X⟩
 clear hm b1 bY
 clear X
 rintro ⟨i, j⟩ wr ⟨hi0, hj1, hi2, hm, b1, bY, X⟩
 refine aE ?_
 refine aA rfl (cH rfl rfl (fun hi1 => ?_) (fun hi1 => ?_))
 refine aB ?_
 refine aQ ?_
 refine aR rfl ?_
 refine aU ?_
 refine aP ?_
 refine aQ ?_
 refine aW ?_
 refine aE ?_
 refine aA rfl (aC rfl ?_)
 refine aA rfl (aD rfl ?_)
 refine aB ?_
 refine aQ ?_
 refine eO [false, false, false, false, false, false, false, false, false, false, false, false, false, false, false, false, false, false, false, false, false, false, false, false] mixed (by kernel_rfl) ?_
 refine cE rfl (fun wq sq => aC rfl ⟨rfl, Q7r _⟩) ?_
 refine cE rfl (fun wq sq => aF dU rfl rfl ⟨rfl, Q7r _⟩) ?_
 refine cE rfl (fun wq sq => aI (b1.ext sq) iF rfl rfl ⟨rfl, Q7r _⟩) ?_
 refine cE rfl (fun wq sq => cQ Tryz.underlying26 rfl ⟨rfl, Q7r _⟩) ?_
 refine uR rfl (fun wq sq => iD rfl rfl ⟨rfl, Q7r _⟩) (fun he => ?_) (fun he => ?_)
 refine cE rfl (fun wq sq => aC rfl ⟨rfl, Q7r _⟩) ?_
 refine dS rfl rfl rfl rfl ?_
 refine dS rfl rfl rfl rfl ?_
 refine dS rfl rfl rfl rfl ?_
 refine dS rfl rfl rfl rfl ?_
 refine dS rfl rfl rfl rfl ?_
 refine dS rfl rfl rfl rfl ?_
 refine dS rfl rfl rfl rfl ?_
 refine dS rfl rfl rfl rfl ?_
 refine dS rfl rfl rfl rfl ?_
 refine dS rfl rfl rfl rfl ?_
 refine dS rfl rfl rfl rfl ?_
 refine dS rfl rfl rfl rfl ?_
 refine dS rfl rfl rfl rfl ?_
 refine dS rfl rfl rfl rfl ?_
 refine dS rfl rfl rfl rfl ?_
 refine dS rfl rfl rfl rfl ?_
 refine dS rfl rfl rfl rfl ?_
 refine cE rfl (fun wq sq => aJ rfl rfl ⟨rfl, Q7r _⟩) ?_
 refine dW (fun w11 sq => ?_)
 have xq := sq
 replace hm := hm.ext xq
 replace b1 := b1.ext xq
 replace bY := bY.ext xq
 replace X := Q7x X xq; clear xq sq
 refine aB ?_
 refine aR rfl ?_
 refine aE ?_
 refine aA rfl (aD rfl ?_)
 refine aB ?_
 refine aV ?_
 refine bU ?_
 refine dN ?_
 refine bU ?_
 refine bU ?_
 refine dN ?_
 refine dN ?_
 refine bU ?_
 refine bU ?_
 refine dN ?_
 refine bU ?_
 refine aK rfl rfl ?_
 · skip
   refine ⟨congrArg Value.bool ?_, X⟩
   first
   | (rw [hi2, dz, lJ hxi.1.1 hxi.2.1 hi1, List.map_cons, List.cons_append, aBQ (a := z.key) (b := ((k : Int), (i : Int) / x.m.slots, (i : Int) % x.m.slots)) (fun e => hc (vB.2 e))]; done)
   | (rw [hi2, lJ hxi.1.1 hxi.2.1 hi1, show m.ss.drop j = [] from List.drop_eq_nil_of_le (by omega)]; simp; done)
   | (rw [hi, bJ hk, Bool.eq_iff_iff]; simp [jA]; omega)
 obtain ⟨z, hz1, dz⟩ := jZ (xs := m.ss) (k := j) (by omega)
 refine cE rfl (fun wq sq => aC rfl ⟨rfl, Q7r _⟩) ?_
 refine dT rfl rfl rfl (fun wq sq => aF dU rfl rfl ⟨rfl, Q7r _⟩) ?_
 refine dT rfl rfl rfl (fun wq sq => aI (b1.ext sq) iF rfl rfl ⟨rfl, Q7r _⟩) ?_
 refine dT rfl rfl rfl (fun wq sq => aC rfl ⟨rfl, Q7r _⟩) ?_
 refine dT rfl rfl rfl (fun wq sq => aT ((hm.ext sq)).ss SlotI.len rfl eW rfl rfl rfl hz1 rfl ⟨rfl, Q7r _⟩) ?_
 refine dT rfl rfl rfl (fun wq sq => dY ((hm.ext sq)).ss SlotI.len hz1 dZ rfl ⟨rfl, Q7r _⟩) ?_
 refine dT rfl rfl rfl (fun wq sq => aC rfl ⟨rfl, Q7r _⟩) ?_
 refine dT rfl rfl rfl (fun wq sq => aC rfl ⟨rfl, Q7r _⟩) ?_
 refine dT rfl rfl rfl (fun wq sq => aF fU rfl rfl ⟨rfl, Q7r _⟩) ?_
 refine dT rfl rfl rfl (fun wq sq => aI (bY.ext sq) cY rfl rfl ⟨rfl, Q7r _⟩) ?_
 refine dT rfl rfl rfl (fun wq sq => iE rfl rfl (by omega) (xW (by omega)) ⟨rfl, Q7r _⟩) ?_
 refine dT rfl rfl rfl (fun wq sq => aC rfl ⟨rfl, Q7r _⟩) ?_
 refine dT rfl rfl rfl (fun wq sq => aF fU rfl rfl ⟨rfl, Q7r _⟩) ?_
 refine dT rfl rfl rfl (fun wq sq => aI (bY.ext sq) cY rfl rfl ⟨rfl, Q7r _⟩) ?_
 refine dT rfl rfl rfl (fun wq sq => fN rfl rfl (by omega) (sV (by omega)) ⟨rfl, Q7r _⟩) ?_
 refine dT rfl rfl rfl (fun wq sq => cO oF dZ rfl rfl ⟨rfl, Q7r _⟩) ?_
 refine dT rfl rfl rfl (fun wq sq => aS aGI rfl (rH z ⟨(k : Int), (i : Int) / x.m.slots, (i : Int) % x.m.slots, ⟨0, 0, 0, 0, false⟩⟩ _)) ?_
 refine rG rfl rfl rfl (fun wq sq => qS rfl rfl ⟨rfl, Q7r _⟩) (fun hc => ?_) (fun hc => ?_)
 refine cE rfl (fun wq sq => aJ rfl rfl ⟨rfl, Q7r _⟩) ?_
 refine dW (fun w12 sq => ?_)
 have xq := sq
 replace hm := hm.ext xq
 replace b1 := b1.ext xq
 replace bY := bY.ext xq
 replace X := Q7x X xq; clear xq sq
 refine aB ?_
 refine aR rfl ?_
 refine aE ?_
 refine aA rfl (aD rfl ?_)
 refine aB ?_
 refine aV ?_
 refine bU ?_
 refine dN ?_
 refine bU ?_
 refine bU ?_
 refine dN ?_
 refine dN ?_
 refine bU ?_
 refine bU ?_
 refine dN ?_
 refine bU ?_
 refine aK rfl rfl ?_
 · skip
   refine ⟨congrArg Value.bool ?_, X⟩
   first
   | (rw [hi2, dz, lJ hxi.1.1 hxi.2.1 hi1, List.map_cons, List.cons_append, aBQ (a := z.key) (b := ((k : Int), (i : Int) / x.m.slots, (i : Int) % x.m.slots)) (fun e => hc (vB.2 e))]; done)
   | (rw [hi2, lJ hxi.1.1 hxi.2.1 hi1, show m.ss.drop j = [] from List.drop_eq_nil_of_le (by omega)]; simp; done)
   | (rw [hi, bJ hk, Bool.eq_iff_iff]; simp [jA]; omega)
 refine cE rfl (fun wq sq => aJ rfl rfl ⟨rfl, Q7r _⟩) ?_
 refine dW (fun w13 sq => ?_)
 have xq := sq
 replace hm := hm.ext xq
 replace b1 := b1.ext xq
 replace bY := bY.ext xq
 replace X := Q7x X xq; clear xq sq
 refine aB ?_
 refine aL rfl ?_
 refine aU ?_
 refine aP ?_
 refine aM ?_
 refine aA rfl (aC rfl ?_)
 refine aA rfl (aZ rfl rfl (dR (by omega)) ?_)
 refine aA rfl (aD rfl ?_)
 refine aB ?_
 refine dJ ?_
 refine aP ?_
 refine aM ?_
 refine aA rfl (aZ rfl rfl (dR (by omega)) ?_)
 refine aA rfl (aC rfl ?_)
 refine aB ?_
 refine aP ⟨(i + 1, j + 1), (.cons rfl (.cons rfl (.cons rfl (.cons rfl (.cons rfl (.cons rfl (.cons rfl (.cons rfl (.cons rfl (.cons rfl (.nil _))))))))))), ?_, ?_⟩
 · exact ⟨by omega, by omega, (by rw [hi2, dz, lJ hxi.1.1 hxi.2.1 hi1, List.map_cons, List.cons_append, aFh (a := z.key) (b := ((k : Int), (i : Int) / x.m.slots, (i : Int) % x.m.slots)) (vB.1 (Classical.not_not.1 hc))]), hm, b1, bY, X⟩
 · first | omega | (dsimp only; omega)
 refine aB ?_
 refine aQ ?_
 refine aL rfl ?_
 refine dC ?_
 refine dB ?_
 refine dB ?_
 refine eA ?_
 refine dJ ?_
 refine aP ?_
 refine aM ?_
 refine aA rfl (aZ rfl rfl (dR (by omega)) ?_)
 refine aA rfl (aC rfl ?_)
 refine aB ?_
 refine aP ⟨(k + 1, j), (.cons rfl (.cons rfl (.cons rfl (.cons rfl (.cons rfl (.nil _)))))), ?_, ?_⟩
 · exact ⟨by omega, by omega, (by rw [hi2, aGX hxi.1.1 hxi.2.1 hi1]; rfl), hm, b1, X⟩
 · first | omega | (dsimp only; omega)
 refine aB ?_
 refine aQ ?_
 refine aL rfl ?_
 refine dC ?_
 refine dB ?_
 refine dB ?_
 refine eA ?_
 refine aP ?_
 refine aE ?_
 refine aA rfl (aC rfl ?_)
 refine aA rfl (aF dU rfl rfl ?_)
 refine aA rfl (aI b1 iF rfl rfl ?_)
 refine aA rfl (cQ Tryz.underlying26 rfl ?_)
 refine aA rfl (iD rfl rfl ?_)
 refine aA rfl (aD rfl ?_)
 refine aB ?_
 refine aV ?_
 refine aK rfl rfl ?_
 · skip
   refine ⟨congrArg Value.bool ?_, X⟩
   first
   | (rw [hi2, dz, lJ hxi.1.1 hxi.2.1 hi1, List.map_cons, List.cons_append, aBQ (a := z.key) (b := ((k : Int), (i : Int) / x.m.slots, (i : Int) % x.m.slots)) (fun e => hc (vB.2 e))]; done)
   | (rw [hi2, lJ hxi.1.1 hxi.2.1 hi1, show m.ss.drop j = [] from List.drop_eq_nil_of_le (by omega)]; simp; done)
   | (rw [hi, bJ hk, Bool.eq_iff_iff]; simp [jA]; omega)
theorem aDz (m : MedlI) (B : Nat) (w : World) (hm : Med B w m) (hz : m.small) (hT : jH (m.ms.map (·.m)) = true) (hS : gR m.ss = true) (hC : iK m.d = true) :
   Calls Tryz.prog 187 #[.agg m.cells.toArray] w (fD fun v w' => v = .bool (pE m.ss) ∧ Ext w w') := by
 have hls := hz.ls
 have hlm := hz.lm
 have hln := hz.ln
 have Bhm := hm.1
 have X := Q7r w
 refine bI (args := [.agg m.cells.toArray]) Tryz.func187 Tryz.ntmps187 rfl rfl ?_
 refine aE ?_
 refine aA rfl (eE rfl rfl ?_)
 intro g4 w3 eg4 b1 x2 zg4
 have lg4 : w.heap.size ≤ g4 := Q7l X.size (Q7e eg4.symm)
 have pg4hm := Q7l hm.1 (Q7e eg4.symm)
 replace hm := hm.ext x2
 replace X := Q7x X x2
 refine aA rfl (aD rfl ?_)
 refine aB ?_
 refine aQ ?_
 refine aE ?_
 refine aA rfl (aF dU rfl rfl ?_)
 refine aA rfl (aI b1 iF rfl rfl ?_)
 refine aA rfl (cQ Tryz.underlying26 rfl ?_)
 refine aA rfl (aC rfl ?_)
 refine aB ?_
 refine aW ?_
 refine dD (G := Nat) (fun k => [(1, .pointer (some ⟨g4, 0, none⟩)), (7, .slice m.As m.ss.length m.cs), (8, .int .i64 (m.ss.length : Nat)), (9, .int .i64 (k : Nat))]) (fun k wr => k ≤ m.ss.length ∧ vD m.ss = (m.ss.drop k).all (pF m.ss) ∧ Med B wr m ∧ Blk wr g4 28 m.cells ∧ Ext w wr) (fun k => m.ss.length - k) 0 (.cons rfl (.cons rfl (.cons rfl (.cons rfl (.nil _))))) ?_ ?_
 · exact ⟨by omega, rfl, hm, b1, X⟩
 clear hm b1
 clear X
 rintro k wr ⟨hk0, hi, hm, b1, X⟩
 refine aE ?_
 refine aA rfl (cH rfl rfl (fun hk => ?_) (fun hk => ?_))
 obtain ⟨x, hx, dx⟩ := dM hk
 obtain ⟨j, y, hj, hy, hym, hys⟩ := vE (d := m.d) hT hC (List.mem_of_getElem? hx)
 have hy : m.ss[j]? = some y := hy
 have hj : gJ (mH x.mode 0 x.slot) 0 m.ss = (j : Int) := hj
 refine aB ?_
 refine aQ ?_
 refine aR rfl ?_
 refine aU ?_
 refine aP ?_
 refine aQ ?_
 refine aW ?_
 refine aE ?_
 refine aA rfl (aT hm.ss SlotI.len rfl eW rfl rfl rfl hx rfl ?_)
 refine aA rfl (dY hm.ss SlotI.len hx dZ rfl ?_)
 refine aA rfl (dO dZ ?_)
 intro gX w6 egX bX x5 zgX
 have lgX : w.heap.size ≤ gX := Q7l X.size (Q7e egX.symm)
 have pgXhm := Q7l hm.1 (Q7e egX.symm)
 have ngXb1 := Nat.lt_of_lt_of_eq b1.lt egX.symm
 replace hm := hm.ext x5
 replace b1 := b1.ext x5
 replace X := Q7x X x5
 refine aA rfl (aX bX dZ rfl rfl rfl rfl rfl rfl ?_)
 intro w9 bY hg7 z10
 replace hm := hm.grown hg7 (by intro g hg; injection hg; omega)
 replace b1 := b1.grown hg7 (by intro h; injection h; omega)
 replace X := X.grown hg7 X.size (by intro g hg; injection hg; omega)
 clear hg7 bX
 refine aB ?_
 have Rhm := hm.1
 refine eO [false, false, false, false, false, false, false, false, false, false, false, true] mixed (by kernel_rfl) ?_
 refine cE rfl (fun wq sq => aF dU rfl rfl ⟨rfl, Q7r _⟩) ?_
 refine cE rfl (fun wq sq => aI (b1.ext sq) iF rfl rfl ⟨rfl, Q7r _⟩) ?_
 refine cE rfl (fun wq sq => aF dU rfl rfl ⟨rfl, Q7r _⟩) ?_
 refine cE rfl (fun wq sq => aI (b1.ext sq) iF rfl rfl ⟨rfl, Q7r _⟩) ?_
 refine cE rfl (fun wq sq => aF gF rfl rfl ⟨rfl, Q7r _⟩) ?_
 refine cE rfl (fun wq sq => aI (bY.ext sq) cY rfl rfl ⟨rfl, Q7r _⟩) ?_
 refine cE rfl (fun wq sq => aF jO rfl rfl ⟨rfl, Q7r _⟩) ?_
 refine cE rfl (fun wq sq => aI (bY.ext sq) cY rfl rfl ⟨rfl, Q7r _⟩) ?_
 refine cE rfl (fun wq sq => aS aIL rfl (aDy _ _ _ _ x.mode 0 x.slot _ (hm.ext sq).ss hls)) ?_
 refine cE rfl (fun wq sq => aT ((hm.ext sq)).ss SlotI.len rfl eW rfl rfl rfl hy hj ⟨rfl, Q7r _⟩) ?_
 refine cE rfl (fun wq sq => dY ((hm.ext sq)).ss SlotI.len hy dZ rfl ⟨rfl, Q7r _⟩) ?_
 refine aBe (fun gZ : Nat => Value.pointer (some ⟨gZ, 0, none⟩)) (fun gZ wz => Blk wz gZ 89 (⟨0, 0, 0, ⟨0, 0, 0, 0, false⟩⟩ : SlotI).cells ∧ w.heap.size ≤ gZ ∧ w9.heap.size ≤ gZ ∧ g4 < gZ ∧ gX < gZ) 0 rfl ⟨aD3, fun _ _ _ h k => ⟨h.1.ext k, h.2⟩, fun wq sq => dO dZ (fun g w' hg hb hx hz => ⟨g, rfl, ⟨hb, Q7l (Q7l X.size (sq).size) (Q7e hg.symm), Q7l (sq).size (Q7e hg.symm), Nat.lt_of_lt_of_eq (b1.ext sq).lt hg.symm, Nat.lt_of_lt_of_eq (bY.ext sq).lt hg.symm⟩, hx⟩)⟩ ?_
 intro gZ
 refine dW (fun w11 sq => ?_)
 have xq := sq.1
 have bZ := sq.2.1
 have lgZ := sq.2.2.1
 have rgZ := sq.2.2.2.1
 have ngZg4 := sq.2.2.2.2.1
 have ngZgX := sq.2.2.2.2.2
 replace hm := hm.ext xq
 replace b1 := b1.ext xq
 replace bY := bY.ext xq
 replace X := Q7x X xq; clear xq sq
 refine aA rfl (aX bZ dZ rfl rfl rfl rfl rfl rfl ?_)
 intro w13 bW hg12 z14
 replace hm := hm.grown hg12 (by intro g hg; injection hg; omega)
 replace b1 := b1.grown hg12 (by intro h; injection h; omega)
 replace bY := bY.grown hg12 (by intro h; injection h; omega)
 replace X := X.grown hg12 X.size (by intro g hg; injection hg; omega)
 clear hg12 bZ
 refine aB ?_
 refine aE ?_
 refine aA rfl (aF fP rfl rfl ?_)
 refine aA rfl (aF eK rfl rfl ?_)
 refine aA rfl (aI bY cY rfl rfl ?_)
 refine aA rfl (aF fP rfl rfl ?_)
 refine aA rfl (aF eK rfl rfl ?_)
 refine aA rfl (aI bW cY rfl rfl ?_)
 refine aA rfl (hP rfl rfl (fun hd => ?_) (fun hd => ?_))
 refine aB ?_
 refine aR rfl ?_
 refine aE ?_
 refine aA rfl (aD rfl ?_)
 refine aB ?_
 refine aV ?_
 refine dN ?_
 refine bU ?_
 refine bU ?_
 refine dN ?_
 refine bU ?_
 refine aK rfl rfl ?_
 · skip
   refine ⟨congrArg Value.bool ?_, X⟩
   show _ = pE m.d.ss
   rw [← aAi (d := m.d) hT hC]
   show _ = vD m.ss
   first
   | (rw [hi, bJ hk]; rfl)
   | (have e : pF m.ss x = false := by simp only [pF, hj, Int.toNat_natCast, hy, decide_eq_false_iff_not]; omega
      rw [hi, dx, List.all_cons, e]; rfl)
 refine aB ?_
 refine aL rfl ?_
 refine aU ?_
 refine dJ ?_
 refine aP ?_
 refine aM ?_
 refine aA rfl (aZ rfl rfl (dR (by omega)) ?_)
 refine aA rfl (aC rfl ?_)
 refine aB ?_
 refine aP ⟨k + 1, (.cons rfl (.cons rfl (.cons rfl (.cons rfl (.nil _))))), ?_, ?_⟩
 · skip
   exact ⟨by omega, (by
     have e : pF m.ss x = true := by simp only [pF, hj, Int.toNat_natCast, hy, decide_eq_true_eq]; omega
     rw [hi, dx, List.all_cons, e]; rfl), hm, b1, X⟩
 · first | omega | (dsimp only; omega)
 refine aB ?_
 refine aQ ?_
 refine aL rfl ?_
 refine dC ?_
 refine dB ?_
 refine dB ?_
 refine eA ?_
 refine aP ?_
 refine aE ?_
 refine aA rfl (aD rfl ?_)
 refine aB ?_
 refine aV ?_
 refine aK rfl rfl ?_
 · skip
   refine ⟨congrArg Value.bool ?_, X⟩
   show _ = pE m.d.ss
   rw [← aAi (d := m.d) hT hC]
   show _ = vD m.ss
   first
   | (rw [hi, bJ hk]; rfl)
   | (have e : pF m.ss x = false := by simp only [pF, hj, Int.toNat_natCast, hy, decide_eq_false_iff_not]; omega
      rw [hi, dx, List.all_cons, e]; rfl)
theorem zH (m : MedlI) (B : Nat) (w : World) (hm : Med B w m) (hz : m.small) :
   Calls Tryz.prog 229 #[.agg m.cells.toArray] w (fD fun v w' => v = .bool (pE m.ss) ∧ Ext w w') := by
 have hls := hz.ls
 have hlm := hz.lm
 have hln := hz.ln
 have Bhm := hm.1
 have X := Q7r w
 refine bI (args := [.agg m.cells.toArray]) Tryz.func229 Tryz.ntmps229 rfl rfl ?_
 refine aE ?_
 refine aA rfl (eE rfl rfl ?_)
 intro gM w2 egM bM x1 zgM
 have lgM : w.heap.size ≤ gM := Q7l X.size (Q7e egM.symm)
 have pgMhm := Q7l hm.1 (Q7e egM.symm)
 replace hm := hm.ext x1
 replace X := Q7x X x1
 refine aA rfl (aD rfl ?_)
 refine aB ?_
 refine aQ ?_
 refine aE ?_
 refine aA rfl (aD rfl ?_)
 refine aB ?_
 refine aW ?_
 refine dD (G := Nat) (fun k => [(1, .pointer (some ⟨gM, 0, none⟩)), (3, .int .i64 (k : Nat))]) (fun k wr => k ≤ m.ss.length ∧ aAg [] m.ss = aAg (m.ss.take k) (m.ss.drop k) ∧ Med B wr m ∧ Blk wr gM 28 m.cells ∧ Ext w wr) (fun k => m.ss.length - k) 0 (.cons rfl (.cons rfl (.nil _))) ?_ ?_
 · exact ⟨by omega, rfl, hm, bM, X⟩
 clear hm bM
 clear X
 rintro k wr ⟨hk0, hi, hm, bM, X⟩
 refine aQ ?_
 refine aE ?_
 refine aA rfl (aC rfl ?_)
 refine aA rfl (aF dU rfl rfl ?_)
 refine aA rfl (aI bM iF rfl rfl ?_)
 refine aA rfl (cQ Tryz.underlying26 rfl ?_)
 refine aA rfl (cH rfl rfl (fun hk => ?_) (fun hk => ?_))
 obtain ⟨x, hx, dx⟩ := dM hk
 refine aB ?_
 refine aR rfl ?_
 refine aU ?_
 refine aP ?_
 refine aQ ?_
 refine aW ?_
 refine aE ?_
 refine aA rfl (aD rfl ?_)
 refine aB ?_
 refine aW ?_
 refine dD (G := Nat) (fun j => [(1, .pointer (some ⟨gM, 0, none⟩)), (3, .int .i64 (k : Nat)), (7, .int .i64 (k : Nat)), (9, .slice m.As m.ss.length m.cs), (10, .int .i64 (m.ss.length : Nat)), (4, .int .i64 (j : Nat))]) (fun j wr => j ≤ k ∧ (m.ss.take k).all (kZ x) = ((m.ss.take k).drop j).all (kZ x) ∧ Med B wr m ∧ Blk wr gM 28 m.cells ∧ Ext w wr) (fun j => k - j) 0 (.cons rfl (.cons rfl (.cons rfl (.cons rfl (.cons rfl (.cons rfl (.nil _))))))) ?_ ?_
 · exact ⟨by omega, rfl, hm, bM, X⟩
 clear hm bM
 clear X
 rintro j wr ⟨hj0, hj2, hm, bM, X⟩
 refine aQ ?_
 refine aE ?_
 refine aA rfl (aC rfl ?_)
 refine aA rfl (aC rfl ?_)
 refine aA rfl (cH rfl rfl (fun hj => ?_) (fun hj => ?_))
 have hq : (m.ss.take k).length = k := by simp; omega
 obtain ⟨z, hz1, dz⟩ := dM (xs := m.ss.take k) (k := j) (by omega)
 have hz2 : m.ss[j]? = some z := by
   rw [List.getElem?_take] at hz1
   split at hz1 <;> simp_all
 refine aB ?_
 refine aR rfl ?_
 refine aU ?_
 refine aP ?_
 refine aQ ?_
 refine aW ?_
 refine vY (fun wz => Med B wz m ∧ Blk wz gM 28 m.cells) mixed ?_
 obtain ⟨w3, ew3⟩ : ∃ wy, wy = World.drew wr := ⟨_, rfl⟩
 rw [← ew3]
 have xd : Ext wr w3 := ew3 ▸ Ext.drew wr
 replace hm := hm.ext xd
 replace bM := bM.ext xd
 replace X := Q7x X xd; clear xd ew3
 refine dI 0 rfl (by kernel_rfl) rfl (by kernel_rfl) (listed' := #[true, false, false, false, false, false, false, false, false, false, false, false, false, false]) rfl (fun wq sq => aF dU rfl rfl ⟨rfl, rfl⟩) ?_
 refine dI 1 rfl (by kernel_rfl) rfl (by kernel_rfl) (listed' := #[true, true, false, false, false, false, false, false, false, false, false, false, false, false]) rfl (fun wq sq => aI sq.2 iF rfl rfl ⟨rfl, rfl⟩) ?_
 refine dI 2 rfl (by kernel_rfl) rfl (by kernel_rfl) (listed' := #[true, true, true, false, false, false, false, false, false, false, false, false, false, false]) rfl (fun wq sq => aC rfl ⟨rfl, rfl⟩) ?_
 refine dI 3 rfl (by kernel_rfl) rfl (by kernel_rfl) (listed' := #[true, true, true, true, false, false, false, false, false, false, false, false, false, false]) rfl (fun wq sq => aT (sq.1).ss SlotI.len rfl eW rfl rfl rfl hx rfl ⟨rfl, rfl⟩) ?_
 refine dI 4 rfl (by kernel_rfl) rfl (by kernel_rfl) (listed' := #[true, true, true, true, true, false, false, false, false, false, false, false, false, false]) rfl (fun wq sq => dY (sq.1).ss SlotI.len hx dZ rfl ⟨rfl, rfl⟩) ?_
 refine dI 5 rfl (by kernel_rfl) rfl (by kernel_rfl) (listed' := #[true, true, true, true, true, true, false, false, false, false, false, false, false, false]) rfl (fun wq sq => aF dU rfl rfl ⟨rfl, rfl⟩) ?_
 refine dI 6 rfl (by kernel_rfl) rfl (by kernel_rfl) (listed' := #[true, true, true, true, true, true, true, false, false, false, false, false, false, false]) rfl (fun wq sq => aI sq.2 iF rfl rfl ⟨rfl, rfl⟩) ?_
 refine dI 7 rfl (by kernel_rfl) rfl (by kernel_rfl) (listed' := #[true, true, true, true, true, true, true, true, false, false, false, false, false, false]) rfl (fun wq sq => aC rfl ⟨rfl, rfl⟩) ?_
 refine dI 8 rfl (by kernel_rfl) rfl (by kernel_rfl) (listed' := #[true, true, true, true, true, true, true, true, true, false, false, false, false, false]) rfl (fun wq sq => aT (sq.1).ss SlotI.len rfl eW rfl rfl rfl hz2 rfl ⟨rfl, rfl⟩) ?_
 refine dI 9 rfl (by kernel_rfl) rfl (by kernel_rfl) (listed' := #[true, true, true, true, true, true, true, true, true, true, false, false, false, false]) rfl (fun wq sq => dY (sq.1).ss SlotI.len hz2 dZ rfl ⟨rfl, rfl⟩) ?_
 refine aGQ 10 11 rfl rfl rfl rfl (by kernel_rfl) (listed' := #[true, true, true, true, true, true, true, true, true, true, true, false, false, false]) (listed'' := #[true, true, true, true, true, true, true, true, true, true, false, true, false, false]) rfl rfl ⟨hm, bM⟩ ?_ ?_
 refine (dO dZ ?_)
 intro gA w5 egA bA x4 zgA
 have lgA : w.heap.size ≤ gA := Q7l X.size (Q7e egA.symm)
 have pgAhm := Q7l hm.1 (Q7e egA.symm)
 have ngAbM := Nat.lt_of_lt_of_eq bM.lt egA.symm
 replace hm := hm.ext x4
 replace bM := bM.ext x4
 replace X := Q7x X x4
 refine fM 11 rfl rfl (by kernel_rfl) (listed' := #[true, true, true, true, true, true, true, true, true, true, true, true, false, false]) rfl ⟨hm, bM⟩ (dO dZ ?_)
 intro gC w7 egC bC x6 zgC
 have lgC : w.heap.size ≤ gC := Q7l X.size (Q7e egC.symm)
 have pgChm := Q7l hm.1 (Q7e egC.symm)
 have ngCbM := Nat.lt_of_lt_of_eq bM.lt egC.symm
 have ngCbA := Nat.lt_of_lt_of_eq bA.lt egC.symm
 replace hm := hm.ext x6
 replace bM := bM.ext x6
 replace bA := bA.ext x6
 replace X := Q7x X x6
 refine fM 12 rfl rfl (by kernel_rfl) (listed' := #[true, true, true, true, true, true, true, true, true, true, true, true, true, false]) rfl ⟨hm, bM⟩ (aX bA dZ rfl rfl rfl rfl rfl rfl ?_)
 intro w9 bA2 hg8 z10
 replace hm := hm.grown hg8 (by intro g hg; injection hg; omega)
 replace bM := bM.grown hg8 (by intro h; injection h; omega)
 replace bC := bC.grown hg8 (by intro h; injection h; omega)
 replace X := X.grown hg8 X.size (by intro g hg; injection hg; omega)
 clear hg8 bA
 refine fM 13 rfl rfl (by kernel_rfl) (listed' := #[true, true, true, true, true, true, true, true, true, true, true, true, true, true]) rfl ⟨hm, bM⟩ (aX bC dZ rfl rfl rfl rfl rfl rfl ?_)
 intro w12 bC2 hg11 z13
 replace hm := hm.grown hg11 (by intro g hg; injection hg; omega)
 replace bM := bM.grown hg11 (by intro h; injection h; omega)
 replace bA2 := bA2.grown hg11 (by intro h; injection h; omega)
 replace X := X.grown hg11 X.size (by intro g hg; injection hg; omega)
 clear hg11 bC
 refine kA rfl ⟨hm, bM⟩ (fun aj fj => ⟨_, fj, ?_⟩)
 refine aE ?_
 refine aA rfl (aF gF rfl rfl ?_)
 refine aA rfl (aI bA2 cY rfl rfl ?_)
 refine aA rfl (aF gF rfl rfl ?_)
 refine aA rfl (aI bC2 cY rfl rfl ?_)
 refine aA rfl (dK rfl rfl (fun e1 => ?_) (fun e1 => ?_))
 refine aA rfl (aC rfl ?_)
 refine aH rfl rfl rfl (aF jO rfl rfl ?_)
 refine aH rfl rfl rfl (aI bA2 cY rfl rfl ?_)
 refine aH rfl rfl rfl (aF jO rfl rfl ?_)
 refine aH rfl rfl rfl (aI bC2 cY rfl rfl ?_)
 refine aH rfl rfl rfl (dK rfl rfl (fun e2 => ?_) (fun e2 => ?_))
 refine aA rfl (aJ rfl rfl ?_)
 refine aA rfl (aC rfl ?_)
 refine aH rfl rfl rfl (aF fP rfl rfl ?_)
 refine aH rfl rfl rfl (aF eK rfl rfl ?_)
 refine aH rfl rfl rfl (aI bA2 cY rfl rfl ?_)
 refine aH rfl rfl rfl (aF fP rfl rfl ?_)
 refine aH rfl rfl rfl (aF eK rfl rfl ?_)
 refine aH rfl rfl rfl (aI bC2 cY rfl rfl ?_)
 refine aH rfl rfl rfl (hP rfl rfl (fun e3 => ?_) (fun e3 => ?_))
 refine aA rfl (aJ rfl rfl ?_)
 refine aB ?_
 refine aR rfl ?_
 refine aE ?_
 refine aA rfl (aD rfl ?_)
 refine aB ?_
 refine aV ?_
 refine dN ?_
 refine bU ?_
 refine bU ?_
 refine dN ?_
 refine dN ?_
 refine bU ?_
 refine bU ?_
 refine dN ?_
 refine bU ?_
 refine aK rfl rfl ?_
 · skip
   refine ⟨congrArg Value.bool ?_, X⟩
   rw [← aBN]
   first
   | (have e := wH (r := (m.ss.take k).drop (j + 1)) (l := []) hj2 dz (wG ⟨e1, e2, e3⟩)
      rw [hi, dx, aAg, e]; rfl)
   | (rw [hi, bJ hk]; rfl)
 refine aA rfl (aJ rfl rfl ?_)
 refine aB ?_
 refine aL rfl ?_
 refine aU ?_
 refine dJ ?_
 refine aP ?_
 refine aM ?_
 refine aA rfl (aC rfl ?_)
 refine aA rfl (aZ rfl rfl (dR (by omega)) ?_)
 refine aA rfl (aD rfl ?_)
 refine aB ?_
 refine aP ⟨j + 1, (.cons rfl (.cons rfl (.cons rfl (.cons rfl (.cons rfl (.cons rfl (.nil _))))))), ?_, ?_⟩
 · exact ⟨by omega, (by rw [hj2, dz, List.all_cons, qF (by omega)]; rfl), hm, bM, X⟩
 · first | omega | (dsimp only; omega)
 refine aA rfl (aJ rfl rfl ?_)
 refine aA rfl (aC rfl ?_)
 refine aG rfl rfl rfl rfl ?_
 refine aG rfl rfl rfl rfl ?_
 refine aG rfl rfl rfl rfl ?_
 refine aG rfl rfl rfl rfl ?_
 refine aG rfl rfl rfl rfl ?_
 refine aG rfl rfl rfl rfl ?_
 refine aG rfl rfl rfl rfl ?_
 refine aA rfl (aJ rfl rfl ?_)
 refine aB ?_
 refine aL rfl ?_
 refine aU ?_
 refine dJ ?_
 refine aP ?_
 refine aM ?_
 refine aA rfl (aC rfl ?_)
 refine aA rfl (aZ rfl rfl (dR (by omega)) ?_)
 refine aA rfl (aD rfl ?_)
 refine aB ?_
 refine aP ⟨j + 1, (.cons rfl (.cons rfl (.cons rfl (.cons rfl (.cons rfl (.cons rfl (.nil _))))))), ?_, ?_⟩
 · exact ⟨by omega, (by rw [hj2, dz, List.all_cons, qF (by omega)]; rfl), hm, bM, X⟩
 · first | omega | (dsimp only; omega)
 refine aA rfl (aC rfl ?_)
 refine aG rfl rfl rfl rfl ?_
 refine aG rfl rfl rfl rfl ?_
 refine aG rfl rfl rfl rfl ?_
 refine aG rfl rfl rfl rfl ?_
 refine aG rfl rfl rfl rfl ?_
 refine aA rfl (aJ rfl rfl ?_)
 refine aA rfl (aC rfl ?_)
 refine aG rfl rfl rfl rfl ?_
 refine aG rfl rfl rfl rfl ?_
 refine aG rfl rfl rfl rfl ?_
 refine aG rfl rfl rfl rfl ?_
 refine aG rfl rfl rfl rfl ?_
 refine aG rfl rfl rfl rfl ?_
 refine aG rfl rfl rfl rfl ?_
 refine aA rfl (aJ rfl rfl ?_)
 refine aB ?_
 refine aL rfl ?_
 refine aU ?_
 refine dJ ?_
 refine aP ?_
 refine aM ?_
 refine aA rfl (aC rfl ?_)
 refine aA rfl (aZ rfl rfl (dR (by omega)) ?_)
 refine aA rfl (aD rfl ?_)
 refine aB ?_
 refine aP ⟨j + 1, (.cons rfl (.cons rfl (.cons rfl (.cons rfl (.cons rfl (.cons rfl (.nil _))))))), ?_, ?_⟩
 · exact ⟨by omega, (by rw [hj2, dz, List.all_cons, qF (by omega)]; rfl), hm, bM, X⟩
 · first | omega | (dsimp only; omega)
 refine (dO dZ ?_)
 intro gC w15 egC bC x14 zgC
 have lgC : w.heap.size ≤ gC := Q7l X.size (Q7e egC.symm)
 have pgChm := Q7l hm.1 (Q7e egC.symm)
 have ngCbM := Nat.lt_of_lt_of_eq bM.lt egC.symm
 replace hm := hm.ext x14
 replace bM := bM.ext x14
 replace X := Q7x X x14
 refine fM 10 rfl rfl (by kernel_rfl) (listed' := #[true, true, true, true, true, true, true, true, true, true, true, true, false, false]) rfl ⟨hm, bM⟩ (dO dZ ?_)
 intro gA w17 egA bA x16 zgA
 have lgA : w.heap.size ≤ gA := Q7l X.size (Q7e egA.symm)
 have pgAhm := Q7l hm.1 (Q7e egA.symm)
 have ngAbM := Nat.lt_of_lt_of_eq bM.lt egA.symm
 have ngAbC := Nat.lt_of_lt_of_eq bC.lt egA.symm
 replace hm := hm.ext x16
 replace bM := bM.ext x16
 replace bC := bC.ext x16
 replace X := Q7x X x16
 refine fM 12 rfl rfl (by kernel_rfl) (listed' := #[true, true, true, true, true, true, true, true, true, true, true, true, true, false]) rfl ⟨hm, bM⟩ (aX bA dZ rfl rfl rfl rfl rfl rfl ?_)
 intro w19 bA2 hg18 z20
 replace hm := hm.grown hg18 (by intro g hg; injection hg; omega)
 replace bM := bM.grown hg18 (by intro h; injection h; omega)
 replace bC := bC.grown hg18 (by intro h; injection h; omega)
 replace X := X.grown hg18 X.size (by intro g hg; injection hg; omega)
 clear hg18 bA
 refine fM 13 rfl rfl (by kernel_rfl) (listed' := #[true, true, true, true, true, true, true, true, true, true, true, true, true, true]) rfl ⟨hm, bM⟩ (aX bC dZ rfl rfl rfl rfl rfl rfl ?_)
 intro w22 bC2 hg21 z23
 replace hm := hm.grown hg21 (by intro g hg; injection hg; omega)
 replace bM := bM.grown hg21 (by intro h; injection h; omega)
 replace bA2 := bA2.grown hg21 (by intro h; injection h; omega)
 replace X := X.grown hg21 X.size (by intro g hg; injection hg; omega)
 clear hg21 bC
 refine kA rfl ⟨hm, bM⟩ (fun aj fj => ⟨_, fj, ?_⟩)
 refine aE ?_
 refine aA rfl (aF gF rfl rfl ?_)
 refine aA rfl (aI bA2 cY rfl rfl ?_)
 refine aA rfl (aF gF rfl rfl ?_)
 refine aA rfl (aI bC2 cY rfl rfl ?_)
 refine aA rfl (dK rfl rfl (fun e1 => ?_) (fun e1 => ?_))
 refine aA rfl (aC rfl ?_)
 refine aH rfl rfl rfl (aF jO rfl rfl ?_)
 refine aH rfl rfl rfl (aI bA2 cY rfl rfl ?_)
 refine aH rfl rfl rfl (aF jO rfl rfl ?_)
 refine aH rfl rfl rfl (aI bC2 cY rfl rfl ?_)
 refine aH rfl rfl rfl (dK rfl rfl (fun e2 => ?_) (fun e2 => ?_))
 refine aA rfl (aJ rfl rfl ?_)
 refine aA rfl (aC rfl ?_)
 refine aH rfl rfl rfl (aF fP rfl rfl ?_)
 refine aH rfl rfl rfl (aF eK rfl rfl ?_)
 refine aH rfl rfl rfl (aI bA2 cY rfl rfl ?_)
 refine aH rfl rfl rfl (aF fP rfl rfl ?_)
 refine aH rfl rfl rfl (aF eK rfl rfl ?_)
 refine aH rfl rfl rfl (aI bC2 cY rfl rfl ?_)
 refine aH rfl rfl rfl (hP rfl rfl (fun e3 => ?_) (fun e3 => ?_))
 refine aA rfl (aJ rfl rfl ?_)
 refine aB ?_
 refine aR rfl ?_
 refine aE ?_
 refine aA rfl (aD rfl ?_)
 refine aB ?_
 refine aV ?_
 refine dN ?_
 refine bU ?_
 refine bU ?_
 refine dN ?_
 refine dN ?_
 refine bU ?_
 refine bU ?_
 refine dN ?_
 refine bU ?_
 refine aK rfl rfl ?_
 · skip
   refine ⟨congrArg Value.bool ?_, X⟩
   rw [← aBN]
   first
   | (have e := wH (r := (m.ss.take k).drop (j + 1)) (l := []) hj2 dz (wG ⟨e1, e2, e3⟩)
      rw [hi, dx, aAg, e]; rfl)
   | (rw [hi, bJ hk]; rfl)
 refine aA rfl (aJ rfl rfl ?_)
 refine aB ?_
 refine aL rfl ?_
 refine aU ?_
 refine dJ ?_
 refine aP ?_
 refine aM ?_
 refine aA rfl (aC rfl ?_)
 refine aA rfl (aZ rfl rfl (dR (by omega)) ?_)
 refine aA rfl (aD rfl ?_)
 refine aB ?_
 refine aP ⟨j + 1, (.cons rfl (.cons rfl (.cons rfl (.cons rfl (.cons rfl (.cons rfl (.nil _))))))), ?_, ?_⟩
 · exact ⟨by omega, (by rw [hj2, dz, List.all_cons, qF (by omega)]; rfl), hm, bM, X⟩
 · first | omega | (dsimp only; omega)
 refine aA rfl (aJ rfl rfl ?_)
 refine aA rfl (aC rfl ?_)
 refine aG rfl rfl rfl rfl ?_
 refine aG rfl rfl rfl rfl ?_
 refine aG rfl rfl rfl rfl ?_
 refine aG rfl rfl rfl rfl ?_
 refine aG rfl rfl rfl rfl ?_
 refine aG rfl rfl rfl rfl ?_
 refine aG rfl rfl rfl rfl ?_
 refine aA rfl (aJ rfl rfl ?_)
 refine aB ?_
 refine aL rfl ?_
 refine aU ?_
 refine dJ ?_
 refine aP ?_
 refine aM ?_
 refine aA rfl (aC rfl ?_)
 refine aA rfl (aZ rfl rfl (dR (by omega)) ?_)
 refine aA rfl (aD rfl ?_)
 refine aB ?_
 refine aP ⟨j + 1, (.cons rfl (.cons rfl (.cons rfl (.cons rfl (.cons rfl (.cons rfl (.nil _))))))), ?_, ?_⟩
 · exact ⟨by omega, (by rw [hj2, dz, List.all_cons, qF (by omega)]; rfl), hm, bM, X⟩
 · first | omega | (dsimp only; omega)
 refine aA rfl (aC rfl ?_)
 refine aG rfl rfl rfl rfl ?_
 refine aG rfl rfl rfl rfl ?_
 refine aG rfl rfl rfl rfl ?_
 refine aG rfl rfl rfl rfl ?_
 refine aG rfl rfl rfl rfl ?_
 refine aA rfl (aJ rfl rfl ?_)
 refine aA rfl (aC rfl ?_)
 refine aG rfl rfl rfl rfl ?_
 refine aG rfl rfl rfl rfl ?_
 refine aG rfl rfl rfl rfl ?_
 refine aG rfl rfl rfl rfl ?_
 refine aG rfl rfl rfl rfl ?_
 refine aG rfl rfl rfl rfl ?_
 refine aG rfl rfl rfl rfl ?_
 refine aA rfl (aJ rfl rfl ?_)
 refine aB ?_
 refine aL rfl ?_
 refine aU ?_
 refine dJ ?_
 refine aP ?_
 refine aM ?_
 refine aA rfl (aC rfl ?_)
 refine aA rfl (aZ rfl rfl (dR (by omega)) ?_)
 refine aA rfl (aD rfl ?_)
 refine aB ?_
 refine aP ⟨j + 1, (.cons rfl (.cons rfl (.cons rfl (.cons rfl (.cons rfl (.cons rfl (.nil _))))))), ?_, ?_⟩
 · exact ⟨by omega, (by rw [hj2, dz, List.all_cons, qF (by omega)]; rfl), hm, bM, X⟩
 · first | omega | (dsimp only; omega)
 refine aB ?_
 refine aL rfl ?_
 refine dC ?_
 refine dB ?_
 refine dB ?_
 refine eA ?_
 refine dJ ?_
 refine aP ?_
 refine aM ?_
 refine aA rfl (aC rfl ?_)
 refine aA rfl (aZ rfl rfl (dR (by omega)) ?_)
 refine aA rfl (aD rfl ?_)
 refine aB ?_
 refine aP ⟨k + 1, (.cons rfl (.cons rfl (.nil _))), ?_, ?_⟩
 · skip
   exact ⟨by omega, (by
     have htk : m.ss.take (k + 1) = m.ss.take k ++ [x] := by rw [List.take_add_one, hx]; rfl
     have e : (m.ss.take k).all (kZ x) = true := by rw [hj2, List.drop_eq_nil_of_le (by simp; omega)]; rfl
     rw [hi, dx, aAg, e, htk]; rfl), hm, bM, X⟩
 · first | omega | (dsimp only; omega)
 refine aB ?_
 refine aL rfl ?_
 refine dC ?_
 refine dB ?_
 refine dB ?_
 refine eA ?_
 refine aP ?_
 refine aE ?_
 refine aA rfl (aD rfl ?_)
 refine aB ?_
 refine aV ?_
 refine aK rfl rfl ?_
 · skip
   refine ⟨congrArg Value.bool ?_, X⟩
   rw [← aBN]
   first
   | (have e := wH (r := (m.ss.take k).drop (j + 1)) (l := []) hj2 dz (wG ⟨e1, e2, e3⟩)
      rw [hi, dx, aAg, e]; rfl)
   | (rw [hi, bJ hk]; rfl)
end Go.Proofs.YtdoibplhbdkapaaGreatDoor
