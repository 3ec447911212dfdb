/- Parts. No condition. -/
import Derived.Test.YtdoibplhbdkapaaGreatDoorDNP6
import Derived.Test.YtdoibplhbdkapaaGreatDoorDNP4
import Derived.Test.YtdoibplhbdkapaaGreatDoorDNP5
namespace Go.Proofs.YtdoibplhbdkapaaGreatDoor
open Go.RowKit
set_option linter.unusedVariables false
set_option linter.unusedSimpArgs false
set_option maxRecDepth 20000
theorem aAo (a : Nat) (n : Int) (w : World) (ha : a < 4294967296) (hn : 0 ≤ n ∧ n ≤ 31) :
   Calls Tryz.prog 245 #[.int .i64 (a : Nat), .int .i64 n] w (fD fun v w' => v = .bool (nC a n) ∧ Ext w w') := by
 have X := Q7r w
 refine bI (args := [.int .i64 (a : Nat), .int .i64 n]) Tryz.func245 Tryz.ntmps245 rfl rfl ?_
 refine aE ?_
 refine aA rfl (aD rfl ?_)
 refine aB ?_
 refine aE ?_
 refine aA rfl (aC rfl ?_)
 refine aA rfl (aC rfl ?_)
 refine aA rfl (jX Tryz.underlying2 Tryz.underlying140 rfl (aKw (by omega)) ?_)
 refine aA rfl (qU rfl rfl (by omega) rfl ?_)
 refine aA rfl (qT rfl rfl rfl ?_)
 refine aA rfl (iD rfl rfl ?_)
 refine aA rfl (aD rfl ?_)
 refine aB ?_
 refine aV ?_
 refine aK rfl rfl ?_
 exact ⟨congrArg Value.bool (aEu (by omega) hn), X⟩
theorem aCX (a : Nat) (n : Int) (w : World) (ha : a < 4294967296) (hn : 0 ≤ n ∧ n ≤ 31) :
   Calls Tryz.prog 246 #[.int .i64 (a : Nat), .int .i64 n, .bool true] w (fD fun v w' => v = .int .i64 (rO a n : Nat) ∧ Ext w w') := by
 have X := Q7r w
 refine bI (args := [.int .i64 (a : Nat), .int .i64 n, .bool true]) Tryz.func246 Tryz.ntmps246 rfl rfl ?_
 refine aE ?_
 refine aA rfl (aD rfl ?_)
 refine aB ?_
 refine aQ ?_
 refine aE ?_
 refine aA rfl (aC rfl ?_)
 refine aA rfl (aC rfl ?_)
 refine aA rfl (aS aDO rfl (aO (aAo _ _ _ ha hn) ?_))
 rintro _ w2 ⟨rfl, x1⟩
 replace X := Q7x X x1
 refine aA rfl (aC rfl ?_)
 refine aA rfl (aE9 Tryz.underlying4 rfl rfl (fun h3 => ?_) (fun h3 => ?_))
 refine aB ?_
 refine aR rfl ?_
 refine aE ?_
 refine aA rfl (aC rfl ?_)
 refine aA rfl (aD rfl ?_)
 refine aB ?_
 refine aV ?_
 refine bU ?_
 refine aK rfl rfl ?_
 · skip
   refine ⟨congrArg (Value.int .i64) ?_, X⟩
   first
   | (rw [aCK ‹nC a n = true›]; done)
   | (have hh : nC a n = false := by cases h : nC a n <;> simp_all
      have hp := aBK hn
      exact (congrArg (kW .xor .i64 (a : Int)) (aBJ hn)).trans ((uZ (by omega) (by omega)).trans (congrArg Int.ofNat (aCL hh))))
 refine aB ?_
 refine aL rfl ?_
 refine aU ?_
 refine aP ?_
 refine aE ?_
 refine aA rfl (aC rfl ?_)
 refine aA rfl (aC rfl ?_)
 refine aA rfl (jX Tryz.underlying2 Tryz.underlying140 rfl (aKw (by omega)) ?_)
 refine aA rfl (rX rfl rfl (by omega) rfl ?_)
 refine aA rfl (zC rfl rfl rfl ?_)
 refine aA rfl (aD rfl ?_)
 refine aB ?_
 refine aV ?_
 refine aK rfl rfl ?_
 · skip
   refine ⟨congrArg (Value.int .i64) ?_, X⟩
   first
   | (rw [aCK ‹nC a n = true›]; done)
   | (have hh : nC a n = false := by cases h : nC a n <;> simp_all
      have hp := aBK hn
      exact (congrArg (kW .xor .i64 (a : Int)) (aBJ hn)).trans ((uZ (by omega) (by omega)).trans (congrArg Int.ofNat (aCL hh))))
theorem aKC (a : Nat) (n : Int) (w : World) (ha : a < 4294967296) (hn : 0 ≤ n ∧ n ≤ 31) :
   Calls Tryz.prog 117 #[.int .i64 (a : Nat), .int .i64 n] w (fD fun v w' => v = .bool (nC a n) ∧ Ext w w') := by
 have X := Q7r w
 refine bI (args := [.int .i64 (a : Nat), .int .i64 n]) Tryz.func117 Tryz.ntmps117 rfl rfl ?_
 refine aE ?_
 refine aA rfl (aD rfl ?_)
 refine aB ?_
 refine aE ?_
 refine aA rfl (aC rfl ?_)
 refine aA rfl (aC rfl ?_)
 refine aA rfl (qU rfl rfl (by omega) rfl ?_)
 refine aA rfl (qT rfl rfl rfl ?_)
 refine aA rfl (iD rfl rfl ?_)
 refine aA rfl (aD rfl ?_)
 refine aB ?_
 refine aV ?_
 refine aK rfl rfl ?_
 exact ⟨congrArg Value.bool (aEu (by omega) hn), X⟩
theorem sM (A : Option Addr) (B c : Nat) (xs : List NodeI) (w : World) (hs : Sl B w A (xs.flatMap NodeI.cells)) (hl : xs.length ≤ 1048576) (hid : ∀ x ∈ xs, 0 ≤ x.id ∧ x.id ≤ 31) :
   Calls Tryz.prog 181 #[.slice A xs.length c] w (fD fun v w' => v = .int .i64 (iG xs : Nat) ∧ Ext w w') := by
 have Bhs := hs.1
 have X := Q7r w
 refine bI (args := [.slice A xs.length c]) Tryz.func181 Tryz.ntmps181 rfl rfl ?_
 refine aE ?_
 refine aA rfl (aD rfl ?_)
 refine aB ?_
 refine aE ?_
 refine aA rfl (aD rfl ?_)
 refine aB ?_
 refine aQ ?_
 refine aE ?_
 refine aA rfl (aD rfl ?_)
 refine aB ?_
 refine aW ?_
 refine dD (G := Nat × Nat) (fun ⟨k, a⟩ => [(0, .slice A xs.length c), (2, .int .i64 0), (3, .int .i64 (a : Nat)), (4, .int .i64 (k : Nat))]) (fun ⟨k, a⟩ wr => k ≤ xs.length ∧ a < 4294967296 ∧ iG xs = pD (fun x : NodeI => !x.passive) (·.id) a (xs.drop k) ∧ Sl B wr A (xs.flatMap NodeI.cells) ∧ Ext w wr) (fun ⟨k, a⟩ => xs.length - k) (0, 0) (.cons rfl (.cons rfl (.cons rfl (.cons rfl (.nil _))))) ?_ ?_
 · exact ⟨by omega, (by omega), rfl, hs, X⟩
 clear hs
 clear X
 rintro ⟨k, a⟩ wr ⟨hk0, ha, hi, hs, X⟩
 refine aQ ?_
 refine aE ?_
 refine aA rfl (aC rfl ?_)
 refine aA rfl (aC rfl ?_)
 refine aA rfl (cQ Tryz.underlying24 rfl ?_)
 refine aA rfl (cH rfl rfl (fun hk => ?_) (fun hk => ?_))
 obtain ⟨x, hx, dx⟩ := dM hk
 have hx2 := hid x (List.mem_of_getElem? hx)
 refine aB ?_
 refine aR rfl ?_
 refine aU ?_
 refine aP ?_
 refine aQ ?_
 refine aW ?_
 refine aE ?_
 refine aA rfl (aC rfl ?_)
 refine aA rfl (aC rfl ?_)
 refine aA rfl (aT hs NodeI.len rfl jT rfl rfl rfl hx rfl ?_)
 refine aA rfl (bK sY rfl ?_)
 refine aA rfl (dQ hs NodeI.len hx uX rfl rfl rfl ?_)
 refine aA rfl (cD rfl ?_)
 refine aB ?_
 refine lB rfl (fun h1 => ?_) (fun h1 => ?_)
 refine aM ?_
 refine aA rfl (aC rfl ?_)
 refine aA rfl (aC rfl ?_)
 refine aA rfl (aC rfl ?_)
 refine aA rfl (aT hs NodeI.len rfl jT rfl rfl rfl hx rfl ?_)
 refine aA rfl (bK lD rfl ?_)
 refine aA rfl (dQ hs NodeI.len hx cY rfl rfl rfl ?_)
 refine aA rfl (aS aGJ rfl (aO (aCX _ _ _ ha hx2) ?_))
 rintro _ w3 ⟨rfl, x2⟩
 replace hs := hs.ext x2
 replace X := Q7x X x2
 refine aA rfl (aD rfl ?_)
 refine aB ?_
 refine dJ ?_
 refine aP ?_
 refine aM ?_
 refine aA rfl (aC rfl ?_)
 refine aA rfl (aZ rfl rfl (dR (by omega)) ?_)
 refine aA rfl (aD rfl ?_)
 refine aB ?_
 refine aP ⟨(k + 1, rO a x.id), (.cons rfl (.cons rfl (.cons rfl (.cons rfl (.nil _))))), ?_, ?_⟩
 · exact ⟨by omega, (sI ha hx2), (by rw [hi, dx, pD]; simp [*]), hs, X⟩
 · first | omega | (dsimp only; omega)
 refine aU ?_
 refine dJ ?_
 refine aP ?_
 refine aM ?_
 refine aA rfl (aC rfl ?_)
 refine aA rfl (aZ rfl rfl (dR (by omega)) ?_)
 refine aA rfl (aD rfl ?_)
 refine aB ?_
 refine aP ⟨(k + 1, a), (.cons rfl (.cons rfl (.cons rfl (.cons rfl (.nil _))))), ?_, ?_⟩
 · exact ⟨by omega, ha, (by rw [hi, dx, pD]; simp [*]), hs, X⟩
 · first | omega | (dsimp only; omega)
 refine aB ?_
 refine aL rfl ?_
 refine dC ?_
 refine dB ?_
 refine dB ?_
 refine eA ?_
 refine aP ?_
 refine aE ?_
 refine aA rfl (aC rfl ?_)
 refine aA rfl (aD rfl ?_)
 refine aB ?_
 refine aV ?_
 refine aK rfl rfl ?_
 exact ⟨by rw [hi, bJ hk]; rfl, X⟩
theorem sN (A : Option Addr) (B c : Nat) (xs : List NodeI) (w : World) (hs : Sl B w A (xs.flatMap NodeI.cells)) (hl : xs.length ≤ 1048576) (hid : ∀ x ∈ xs, 0 ≤ x.id ∧ x.id ≤ 31) :
   Calls Tryz.prog 114 #[.slice A xs.length c] w (fD fun v w' => v = .int .i64 (iG xs : Nat) ∧ Ext w w') := by
 have Bhs := hs.1
 have X := Q7r w
 refine bI (args := [.slice A xs.length c]) Tryz.func114 Tryz.ntmps114 rfl rfl ?_
 refine aE ?_
 refine aA rfl (aD rfl ?_)
 refine aB ?_
 refine aE ?_
 refine aA rfl (aD rfl ?_)
 refine aB ?_
 refine aQ ?_
 refine aE ?_
 refine aA rfl (aC rfl ?_)
 refine aA rfl (cQ Tryz.underlying24 rfl ?_)
 refine aA rfl (aC rfl ?_)
 refine aB ?_
 refine aW ?_
 refine dD (G := Nat × Nat) (fun ⟨k, a⟩ => [(2, .int .i64 0), (6, .slice A xs.length c), (7, .int .i64 (xs.length : Nat)), (3, .int .i64 (a : Nat)), (8, .int .i64 (k : Nat))]) (fun ⟨k, a⟩ wr => k ≤ xs.length ∧ a < 4294967296 ∧ iG xs = pD (fun x : NodeI => !x.passive) (·.id) a (xs.drop k) ∧ Sl B wr A (xs.flatMap NodeI.cells) ∧ Ext w wr) (fun ⟨k, a⟩ => xs.length - k) (0, 0) (.cons rfl (.cons rfl (.cons rfl (.cons rfl (.cons rfl (.nil _)))))) ?_ ?_
 · exact ⟨by omega, (by omega), rfl, hs, X⟩
 clear hs
 clear X
 rintro ⟨k, a⟩ wr ⟨hk0, ha, hi, hs, X⟩
 refine aE ?_
 refine aA rfl (cH rfl rfl (fun hk => ?_) (fun hk => ?_))
 obtain ⟨x, hx, dx⟩ := dM hk
 have hx2 := hid x (List.mem_of_getElem? hx)
 refine aB ?_
 refine aQ ?_
 refine aR rfl ?_
 refine aU ?_
 refine aP ?_
 refine aQ ?_
 refine aW ?_
 refine aE ?_
 refine aA rfl (aT hs NodeI.len rfl jT rfl rfl rfl hx rfl ?_)
 refine aA rfl (dY hs NodeI.len hx jF rfl ?_)
 refine aA rfl (dO jF ?_)
 intro g4 w3 eg4 b1 x2 zg4
 have lg4 : w.heap.size ≤ g4 := Q7l X.size (Q7e eg4.symm)
 have pg4hs := Q7l hs.1 (Q7e eg4.symm)
 replace hs := hs.ext x2
 replace X := Q7x X x2
 refine aA rfl (aX b1 jF rfl rfl rfl rfl rfl rfl ?_)
 intro w6 b8 hg5 z7
 replace hs := hs.grown hg5 (by intro g hg; injection hg; omega)
 replace X := X.grown hg5 X.size (by intro g hg; injection hg; omega)
 clear hg5 b1
 refine aB ?_
 refine aE ?_
 refine aA rfl (aF sY rfl rfl ?_)
 refine aA rfl (aI b8 uX rfl rfl ?_)
 refine aA rfl (cD rfl ?_)
 refine aB ?_
 refine lB rfl (fun h9 => ?_) (fun h9 => ?_)
 refine aM ?_
 refine aA rfl (aC rfl ?_)
 refine aA rfl (aF lD rfl rfl ?_)
 refine aA rfl (aI b8 cY rfl rfl ?_)
 refine aA rfl (rX rfl rfl hx2.1 rfl ?_)
 refine aA rfl (aHX rfl rfl (aAY ha hx2) ?_)
 refine aA rfl (aD rfl ?_)
 refine aB ?_
 refine dJ ?_
 refine aP ?_
 refine aM ?_
 refine aA rfl (aZ rfl rfl (dR (by omega)) ?_)
 refine aA rfl (aC rfl ?_)
 refine aB ?_
 refine aP ⟨(k + 1, rO a x.id), (.cons rfl (.cons rfl (.cons rfl (.cons rfl (.cons rfl (.nil _)))))), ?_, ?_⟩
 · exact ⟨by omega, (sI ha hx2), (by rw [hi, dx, pD]; simp [*]), hs, X⟩
 · first | omega | (dsimp only; omega)
 refine aU ?_
 refine dJ ?_
 refine aP ?_
 refine aM ?_
 refine aA rfl (aZ rfl rfl (dR (by omega)) ?_)
 refine aA rfl (aC rfl ?_)
 refine aB ?_
 refine aP ⟨(k + 1, a), (.cons rfl (.cons rfl (.cons rfl (.cons rfl (.cons rfl (.nil _)))))), ?_, ?_⟩
 · exact ⟨by omega, ha, (by rw [hi, dx, pD]; simp [*]), hs, X⟩
 · first | omega | (dsimp only; omega)
 refine aB ?_
 refine aQ ?_
 refine aL rfl ?_
 refine dC ?_
 refine dB ?_
 refine dB ?_
 refine eA ?_
 refine aP ?_
 refine aE ?_
 refine aA rfl (aC rfl ?_)
 refine aA rfl (aD rfl ?_)
 refine aB ?_
 refine aV ?_
 refine aK rfl rfl ?_
 exact ⟨by rw [hi, bJ hk]; rfl, X⟩
theorem aFn (s : ByteArray) (w : World) (hm : s.size ≤ 9223372036854775807) :
   Calls Tryz.prog 276 #[.string s] w (fD fun v w' => v = .bool (eJ s) ∧ Ext w w') := by
 have hsz : s.data.toList.length = s.size := by simp
 have X := Q7r w
 refine bI (args := [.string s]) Tryz.func276 Tryz.ntmps276 rfl rfl ?_
 refine aE ?_
 refine aA rfl (aD rfl ?_)
 refine aB ?_
 refine aQ ?_
 refine aE ?_
 refine aA rfl (aD rfl ?_)
 refine aB ?_
 refine aW ?_
 refine dD (G := Nat) (fun k => [(0, .string s), (3, .int .i64 (k : Nat))]) (fun k wr => k ≤ s.size ∧ s.data.toList.all fY = (s.data.toList.drop k).all fY ∧ Ext w wr) (fun k => s.size - k) 0 (.cons rfl (.cons rfl (.nil _))) ?_ ?_
 · exact ⟨by omega, rfl, X⟩
 clear X
 rintro k wr ⟨hk0, hi, X⟩
 refine aQ ?_
 refine aE ?_
 refine aA rfl (aC rfl ?_)
 refine aA rfl (aC rfl ?_)
 refine aA rfl (lY Tryz.underlying9 rfl ?_)
 refine aA rfl (cH rfl rfl (fun hk => ?_) (fun hk => ?_))
 obtain ⟨x, hx, dx⟩ := dM (xs := s.data.toList) (k := k) (by omega)
 have hg : s.data.toList.getD ((k : Int)).toNat 0 = x := by rw [List.getD_eq_getElem?_getD, Int.toNat_natCast, hx]; rfl
 refine aB ?_
 refine aR rfl ?_
 refine aU ?_
 refine aP ?_
 refine aQ ?_
 refine aW ?_
 refine aE ?_
 refine aA rfl (aC rfl ?_)
 refine aA rfl (aC rfl ?_)
 refine aA rfl (kO Tryz.underlying9 rfl rfl (by omega) (by omega) ?_)
 refine aA rfl (cH rfl rfl (fun c1 => ?_) (fun c1 => ?_))
 refine aA rfl (aC rfl ?_)
 refine aG rfl rfl rfl rfl ?_
 refine aG rfl rfl rfl rfl ?_
 refine aG rfl rfl rfl rfl ?_
 refine aG rfl rfl rfl rfl ?_
 refine aA rfl (aJ rfl rfl ?_)
 refine aA rfl (aC rfl ?_)
 refine aH rfl rfl rfl (aC rfl ?_)
 refine aH rfl rfl rfl (aC rfl ?_)
 refine aH rfl rfl rfl (kO Tryz.underlying9 rfl rfl (by omega) (by omega) ?_)
 refine aH rfl rfl rfl (cH rfl rfl (fun c3 => ?_) (fun c3 => ?_))
 refine aH rfl rfl rfl (aC rfl ?_)
 refine aG rfl rfl rfl rfl ?_
 refine aG rfl rfl rfl rfl ?_
 refine aG rfl rfl rfl rfl ?_
 refine aG rfl rfl rfl rfl ?_
 refine aH rfl rfl rfl (aJ rfl rfl ?_)
 refine aA rfl (aJ rfl rfl ?_)
 refine aB ?_
 refine aR rfl ?_
 refine aE ?_
 refine aA rfl (aD rfl ?_)
 refine aB ?_
 refine aV ?_
 refine dN ?_
 refine bU ?_
 refine bU ?_
 refine dN ?_
 refine bU ?_
 refine aK rfl rfl ?_
 · skip
   refine ⟨congrArg Value.bool ?_, X⟩
   first
   | (have hd : s.data.toList.drop k = [] := bJ (by omega)
      rw [eJ, hi, hd]; simp [*]; done)
   | (have hd : s.data.toList.drop k = [] := bJ (by omega)
      rw [eJ, hi, hd, Bool.eq_iff_iff]; simp; omega)
   | (simp only [hg] at *
      have hb : fY x = false := by
        cases e : fY x
        · rfl
        · simp only [fY, Bool.or_eq_true, Bool.and_eq_true, decide_eq_true_eq] at e; omega
      rw [eJ, hi, dx, List.all_cons, hb]; rfl)
 refine aH rfl rfl rfl (aC rfl ?_)
 refine aH rfl rfl rfl (aC rfl ?_)
 refine aH rfl rfl rfl (aC rfl ?_)
 refine aH rfl rfl rfl (kO Tryz.underlying9 rfl rfl (by omega) (by omega) ?_)
 refine aH rfl rfl rfl (fX rfl rfl (fun c4 => ?_) (fun c4 => ?_))
 refine aH rfl rfl rfl (aJ rfl rfl ?_)
 refine aA rfl (aJ rfl rfl ?_)
 refine aB ?_
 refine aR rfl ?_
 refine aE ?_
 refine aA rfl (aD rfl ?_)
 refine aB ?_
 refine aV ?_
 refine dN ?_
 refine bU ?_
 refine bU ?_
 refine dN ?_
 refine bU ?_
 refine aK rfl rfl ?_
 · skip
   refine ⟨congrArg Value.bool ?_, X⟩
   first
   | (have hd : s.data.toList.drop k = [] := bJ (by omega)
      rw [eJ, hi, hd]; simp [*]; done)
   | (have hd : s.data.toList.drop k = [] := bJ (by omega)
      rw [eJ, hi, hd, Bool.eq_iff_iff]; simp; omega)
   | (simp only [hg] at *
      have hb : fY x = false := by
        cases e : fY x
        · rfl
        · simp only [fY, Bool.or_eq_true, Bool.and_eq_true, decide_eq_true_eq] at e; omega
      rw [eJ, hi, dx, List.all_cons, hb]; rfl)
 refine aH rfl rfl rfl (aJ rfl rfl ?_)
 refine aA rfl (aJ rfl rfl ?_)
 refine aB ?_
 refine aL rfl ?_
 refine aU ?_
 refine dJ ?_
 refine aP ?_
 refine aM ?_
 refine aA rfl (aC rfl ?_)
 refine aA rfl (aZ rfl rfl (dR (by omega)) ?_)
 refine aA rfl (aD rfl ?_)
 refine aB ?_
 refine aP ⟨k + 1, (.cons rfl (.cons rfl (.nil _))), ?_, ?_⟩
 · skip
   exact ⟨by omega, (by
     simp only [hg] at *
     rw [hi, dx, List.all_cons]
     have hb : fY x = true := by simp only [fY, Bool.or_eq_true, Bool.and_eq_true, decide_eq_true_eq]; omega
     rw [hb]; rfl), X⟩
 · first | omega | (dsimp only; omega)
 refine aA rfl (aC rfl ?_)
 refine aH rfl rfl rfl (aC rfl ?_)
 refine aH rfl rfl rfl (aC rfl ?_)
 refine aH rfl rfl rfl (kO Tryz.underlying9 rfl rfl (by omega) (by omega) ?_)
 refine aH rfl rfl rfl (fX rfl rfl (fun c2 => ?_) (fun c2 => ?_))
 refine aA rfl (aJ rfl rfl ?_)
 refine aA rfl (aC rfl ?_)
 refine aH rfl rfl rfl (aC rfl ?_)
 refine aH rfl rfl rfl (aC rfl ?_)
 refine aH rfl rfl rfl (kO Tryz.underlying9 rfl rfl (by omega) (by omega) ?_)
 refine aH rfl rfl rfl (cH rfl rfl (fun c3 => ?_) (fun c3 => ?_))
 refine aH rfl rfl rfl (aC rfl ?_)
 refine aG rfl rfl rfl rfl ?_
 refine aG rfl rfl rfl rfl ?_
 refine aG rfl rfl rfl rfl ?_
 refine aG rfl rfl rfl rfl ?_
 refine aH rfl rfl rfl (aJ rfl rfl ?_)
 refine aA rfl (aJ rfl rfl ?_)
 refine aB ?_
 refine aR rfl ?_
 refine aE ?_
 refine aA rfl (aD rfl ?_)
 refine aB ?_
 refine aV ?_
 refine dN ?_
 refine bU ?_
 refine bU ?_
 refine dN ?_
 refine bU ?_
 refine aK rfl rfl ?_
 · skip
   refine ⟨congrArg Value.bool ?_, X⟩
   first
   | (have hd : s.data.toList.drop k = [] := bJ (by omega)
      rw [eJ, hi, hd]; simp [*]; done)
   | (have hd : s.data.toList.drop k = [] := bJ (by omega)
      rw [eJ, hi, hd, Bool.eq_iff_iff]; simp; omega)
   | (simp only [hg] at *
      have hb : fY x = false := by
        cases e : fY x
        · rfl
        · simp only [fY, Bool.or_eq_true, Bool.and_eq_true, decide_eq_true_eq] at e; omega
      rw [eJ, hi, dx, List.all_cons, hb]; rfl)
 refine aH rfl rfl rfl (aC rfl ?_)
 refine aH rfl rfl rfl (aC rfl ?_)
 refine aH rfl rfl rfl (aC rfl ?_)
 refine aH rfl rfl rfl (kO Tryz.underlying9 rfl rfl (by omega) (by omega) ?_)
 refine aH rfl rfl rfl (fX rfl rfl (fun c4 => ?_) (fun c4 => ?_))
 refine aH rfl rfl rfl (aJ rfl rfl ?_)
 refine aA rfl (aJ rfl rfl ?_)
 refine aB ?_
 refine aR rfl ?_
 refine aE ?_
 refine aA rfl (aD rfl ?_)
 refine aB ?_
 refine aV ?_
 refine dN ?_
 refine bU ?_
 refine bU ?_
 refine dN ?_
 refine bU ?_
 refine aK rfl rfl ?_
 · skip
   refine ⟨congrArg Value.bool ?_, X⟩
   first
   | (have hd : s.data.toList.drop k = [] := bJ (by omega)
      rw [eJ, hi, hd]; simp [*]; done)
   | (have hd : s.data.toList.drop k = [] := bJ (by omega)
      rw [eJ, hi, hd, Bool.eq_iff_iff]; simp; omega)
   | (simp only [hg] at *
      have hb : fY x = false := by
        cases e : fY x
        · rfl
        · simp only [fY, Bool.or_eq_true, Bool.and_eq_true, decide_eq_true_eq] at e; omega
      rw [eJ, hi, dx, List.all_cons, hb]; rfl)
 refine aH rfl rfl rfl (aJ rfl rfl ?_)
 refine aA rfl (aJ rfl rfl ?_)
 refine aB ?_
 refine aL rfl ?_
 refine aU ?_
 refine dJ ?_
 refine aP ?_
 refine aM ?_
 refine aA rfl (aC rfl ?_)
 refine aA rfl (aZ rfl rfl (dR (by omega)) ?_)
 refine aA rfl (aD rfl ?_)
 refine aB ?_
 refine aP ⟨k + 1, (.cons rfl (.cons rfl (.nil _))), ?_, ?_⟩
 · skip
   exact ⟨by omega, (by
     simp only [hg] at *
     rw [hi, dx, List.all_cons]
     have hb : fY x = true := by simp only [fY, Bool.or_eq_true, Bool.and_eq_true, decide_eq_true_eq]; omega
     rw [hb]; rfl), X⟩
 · first | omega | (dsimp only; omega)
 refine aA rfl (aJ rfl rfl ?_)
 refine aA rfl (aC rfl ?_)
 refine aG rfl rfl rfl rfl ?_
 refine aG rfl rfl rfl rfl ?_
 refine aG rfl rfl rfl rfl ?_
 refine aG rfl rfl rfl rfl ?_
 refine aG rfl rfl rfl rfl ?_
 refine dX rfl rfl rfl ?_
 refine dX rfl rfl rfl ?_
 refine dX rfl rfl rfl ?_
 refine dX rfl rfl rfl ?_
 refine aG rfl rfl rfl rfl ?_
 refine aA rfl (aJ rfl rfl ?_)
 refine aB ?_
 refine aL rfl ?_
 refine aU ?_
 refine dJ ?_
 refine aP ?_
 refine aM ?_
 refine aA rfl (aC rfl ?_)
 refine aA rfl (aZ rfl rfl (dR (by omega)) ?_)
 refine aA rfl (aD rfl ?_)
 refine aB ?_
 refine aP ⟨k + 1, (.cons rfl (.cons rfl (.nil _))), ?_, ?_⟩
 · skip
   exact ⟨by omega, (by
     simp only [hg] at *
     rw [hi, dx, List.all_cons]
     have hb : fY x = true := by simp only [fY, Bool.or_eq_true, Bool.and_eq_true, decide_eq_true_eq]; omega
     rw [hb]; rfl), X⟩
 · first | omega | (dsimp only; omega)
 refine aB ?_
 refine aL rfl ?_
 refine dC ?_
 refine dB ?_
 refine dB ?_
 refine eA ?_
 refine aP ?_
 refine aE ?_
 refine aA rfl (aC rfl ?_)
 refine aA rfl (lY Tryz.underlying9 rfl ?_)
 refine aA rfl (lC rfl rfl (fun h1 => ?_) (fun h1 => ?_))
 refine aA rfl (aC rfl ?_)
 refine aH rfl rfl rfl (aC rfl ?_)
 refine aH rfl rfl rfl (lY Tryz.underlying9 rfl ?_)
 refine aH rfl rfl rfl (pM rfl rfl ?_)
 refine aA rfl (aJ rfl rfl ?_)
 refine aA rfl (aD rfl ?_)
 refine aB ?_
 refine aV ?_
 refine aK rfl rfl ?_
 · skip
   refine ⟨congrArg Value.bool ?_, X⟩
   first
   | (have hd : s.data.toList.drop k = [] := bJ (by omega)
      rw [eJ, hi, hd]; simp [*]; done)
   | (have hd : s.data.toList.drop k = [] := bJ (by omega)
      rw [eJ, hi, hd, Bool.eq_iff_iff]; simp; omega)
   | (simp only [hg] at *
      have hb : fY x = false := by
        cases e : fY x
        · rfl
        · simp only [fY, Bool.or_eq_true, Bool.and_eq_true, decide_eq_true_eq] at e; omega
      rw [eJ, hi, dx, List.all_cons, hb]; rfl)
 refine aA rfl (aC rfl ?_)
 refine aG rfl rfl rfl rfl ?_
 refine aG rfl rfl rfl rfl ?_
 refine aG rfl rfl rfl rfl ?_
 refine aA rfl (aJ rfl rfl ?_)
 refine aA rfl (aD rfl ?_)
 refine aB ?_
 refine aV ?_
 refine aK rfl rfl ?_
 · skip
   refine ⟨congrArg Value.bool ?_, X⟩
   first
   | (have hd : s.data.toList.drop k = [] := bJ (by omega)
      rw [eJ, hi, hd]; simp [*]; done)
   | (have hd : s.data.toList.drop k = [] := bJ (by omega)
      rw [eJ, hi, hd, Bool.eq_iff_iff]; simp; omega)
   | (simp only [hg] at *
      have hb : fY x = false := by
        cases e : fY x
        · rfl
        · simp only [fY, Bool.or_eq_true, Bool.and_eq_true, decide_eq_true_eq] at e; omega
      rw [eJ, hi, dx, List.all_cons, hb]; rfl)
theorem aFo (x : NodeI) (w : World) (hm : x.name.size ≤ 9223372036854775807) :
   Calls Tryz.prog 258 #[.agg x.cells.toArray] w (fD fun v w' => v = .bool (eL x) ∧ Ext w w') := by
 have X := Q7r w
 refine bI (args := [.agg x.cells.toArray]) Tryz.func258 Tryz.ntmps258 rfl rfl ?_
 refine aE ?_
 refine aA rfl (eE rfl rfl ?_)
 intro g4 w3 eg4 b1 x2 zg4
 have lg4 : w.heap.size ≤ g4 := Q7l X.size (Q7e eg4.symm)
 replace X := Q7x X x2
 refine aA rfl (aD rfl ?_)
 refine aB ?_
 refine aE ?_
 refine aA rfl (aF lD rfl rfl ?_)
 refine aA rfl (aI b1 cY rfl rfl ?_)
 refine aA rfl (cW aGL rfl (aA6 _ _) (fun w7 h5 x6 => ?_) (fun w7 h5 x6 => ?_))
 replace b1 := b1.ext x6
 replace X := Q7x X x6
 refine aA rfl (aC rfl ?_)
 refine aH rfl rfl rfl (aF gV rfl rfl ?_)
 refine aH rfl rfl rfl (aI b1 yA rfl rfl ?_)
 refine aH rfl rfl rfl (cW aJM rfl (aFn _ _ hm) (fun w10 h8 x9 => ?_) (fun w10 h8 x9 => ?_))
 replace b1 := b1.ext x9
 replace X := Q7x X x9
 refine aA rfl (aJ rfl rfl ?_)
 refine aA rfl (aC rfl ?_)
 refine aH rfl rfl rfl (aF mP rfl rfl ?_)
 refine aH rfl rfl rfl (aI b1 cY rfl rfl ?_)
 refine aH rfl rfl rfl (aS jW rfl (aO (iM _ _ _ _) ?_))
 rintro _ w12 ⟨rfl, x11⟩
 replace b1 := b1.ext x11
 replace X := Q7x X x11
 refine aA rfl (aJ rfl rfl ?_)
 refine aA rfl (aD rfl ?_)
 refine aB ?_
 refine aV ?_
 refine aK rfl rfl ?_
 · skip
   refine ⟨congrArg Value.bool ?_, X⟩
   simp [eL, *]
 replace b1 := b1.ext x9
 replace X := Q7x X x9
 refine aA rfl (aJ rfl rfl ?_)
 refine aA rfl (aC rfl ?_)
 refine aG rfl rfl rfl rfl ?_
 refine aG rfl rfl rfl rfl ?_
 refine aG rfl rfl rfl rfl ?_
 refine aA rfl (aJ rfl rfl ?_)
 refine aA rfl (aD rfl ?_)
 refine aB ?_
 refine aV ?_
 refine aK rfl rfl ?_
 · skip
   refine ⟨congrArg Value.bool ?_, X⟩
   simp [eL, *]
 replace b1 := b1.ext x6
 replace X := Q7x X x6
 refine aA rfl (aC rfl ?_)
 refine aG rfl rfl rfl rfl ?_
 refine aG rfl rfl rfl rfl ?_
 refine aG rfl rfl rfl rfl ?_
 refine aA rfl (aJ rfl rfl ?_)
 refine aA rfl (aC rfl ?_)
 refine aG rfl rfl rfl rfl ?_
 refine aG rfl rfl rfl rfl ?_
 refine aG rfl rfl rfl rfl ?_
 refine aA rfl (aJ rfl rfl ?_)
 refine aA rfl (aD rfl ?_)
 refine aB ?_
 refine aV ?_
 refine aK rfl rfl ?_
 · skip
   refine ⟨congrArg Value.bool ?_, X⟩
   simp [eL, *]
theorem aFp (x : NodeI) (w : World) (hm : x.name.size ≤ 9223372036854775807) :
   Calls Tryz.prog 197 #[.agg x.cells.toArray] w (fD fun v w' => v = .bool (eL x) ∧ Ext w w') := by
 have X := Q7r w
 refine bI (args := [.agg x.cells.toArray]) Tryz.func197 Tryz.ntmps197 rfl rfl ?_
 refine aE ?_
 refine aA rfl (eE rfl rfl ?_)
 intro g4 w3 eg4 b1 x2 zg4
 have lg4 : w.heap.size ≤ g4 := Q7l X.size (Q7e eg4.symm)
 replace X := Q7x X x2
 refine aA rfl (aD rfl ?_)
 refine aB ?_
 refine aE ?_
 refine aA rfl (aF gV rfl rfl ?_)
 refine aA rfl (aI b1 yA rfl rfl ?_)
 refine aA rfl (lY Tryz.underlying9 rfl ?_)
 refine aA rfl (lC rfl rfl (fun n1 => ?_) (fun n1 => ?_))
 refine aA rfl (aC rfl ?_)
 refine aH rfl rfl rfl (aF gV rfl rfl ?_)
 refine aH rfl rfl rfl (aI b1 yA rfl rfl ?_)
 refine aH rfl rfl rfl (lY Tryz.underlying9 rfl ?_)
 refine aH rfl rfl rfl (xV rfl rfl (fun n2 => ?_) (fun n2 => ?_))
 refine aA rfl (aJ rfl rfl ?_)
 refine aA rfl (aC rfl ?_)
 refine aH rfl rfl rfl (aF gV rfl rfl ?_)
 refine aH rfl rfl rfl (aI b1 yA rfl rfl ?_)
 refine aH rfl rfl rfl (aS aJA rfl (aO (aJT _ _ hm) ?_))
 rintro _ w6 ⟨rfl, x5⟩
 replace b1 := b1.ext x5
 replace X := Q7x X x5
 refine aH rfl rfl rfl (aFZ rfl rfl (fun n3 => ?_) (fun n3 => ?_))
 refine aA rfl (aJ rfl rfl ?_)
 refine aA rfl (aD rfl ?_)
 refine aB ?_
 refine aE ?_
 refine aA rfl (aC rfl ?_)
 refine aA rfl (aC rfl ?_)
 refine aH rfl rfl rfl (aF lD rfl rfl ?_)
 refine aH rfl rfl rfl (aI b1 cY rfl rfl ?_)
 refine aH rfl rfl rfl (cW aGw rfl (aCV _ _) (fun w9 h7 x8 => ?_) (fun w9 h7 x8 => ?_))
 replace b1 := b1.ext x8
 replace X := Q7x X x8
 refine aA rfl (aJ rfl rfl ?_)
 refine aA rfl (aC rfl ?_)
 refine aH rfl rfl rfl (aF mP rfl rfl ?_)
 refine aH rfl rfl rfl (aI b1 cY rfl rfl ?_)
 refine aH rfl rfl rfl (aS mL rfl (aO (jJ _ _ _ _) ?_))
 rintro _ w11 ⟨rfl, x10⟩
 replace b1 := b1.ext x10
 replace X := Q7x X x10
 refine aA rfl (aJ rfl rfl ?_)
 refine aA rfl (aD rfl ?_)
 refine aB ?_
 refine aV ?_
 refine aK rfl rfl ?_
 · skip
   refine ⟨congrArg Value.bool ?_, X⟩
   first
   | (rw [jV] at n3; simp only [eL, eJ, n3, decide_eq_true (show 1 ≤ x.name.size by omega), decide_eq_true (show x.name.size ≤ 6 by omega)]; simp [*]; done)
   | (rw [jV] at n3; simp only [eL, eJ, n3]; simp; done)
   | (simp only [eL, eJ, decide_eq_false (show ¬ x.name.size ≤ 6 by omega)]; simp; done)
   | (simp only [eL, eJ, decide_eq_false (show ¬ 1 ≤ x.name.size by omega)]; simp; done)
 replace b1 := b1.ext x8
 replace X := Q7x X x8
 refine aA rfl (aJ rfl rfl ?_)
 refine aA rfl (aC rfl ?_)
 refine aG rfl rfl rfl rfl ?_
 refine aG rfl rfl rfl rfl ?_
 refine aG rfl rfl rfl rfl ?_
 refine aA rfl (aJ rfl rfl ?_)
 refine aA rfl (aD rfl ?_)
 refine aB ?_
 refine aV ?_
 refine aK rfl rfl ?_
 · skip
   refine ⟨congrArg Value.bool ?_, X⟩
   first
   | (rw [jV] at n3; simp only [eL, eJ, n3, decide_eq_true (show 1 ≤ x.name.size by omega), decide_eq_true (show x.name.size ≤ 6 by omega)]; simp [*]; done)
   | (rw [jV] at n3; simp only [eL, eJ, n3]; simp; done)
   | (simp only [eL, eJ, decide_eq_false (show ¬ x.name.size ≤ 6 by omega)]; simp; done)
   | (simp only [eL, eJ, decide_eq_false (show ¬ 1 ≤ x.name.size by omega)]; simp; done)
 refine aA rfl (aJ rfl rfl ?_)
 refine aA rfl (aD rfl ?_)
 refine aB ?_
 refine aE ?_
 refine aA rfl (aC rfl ?_)
 refine aA rfl (aC rfl ?_)
 refine aG rfl rfl rfl rfl ?_
 refine aG rfl rfl rfl rfl ?_
 refine aG rfl rfl rfl rfl ?_
 refine aA rfl (aJ rfl rfl ?_)
 refine aA rfl (aC rfl ?_)
 refine aG rfl rfl rfl rfl ?_
 refine aG rfl rfl rfl rfl ?_
 refine aG rfl rfl rfl rfl ?_
 refine aA rfl (aJ rfl rfl ?_)
 refine aA rfl (aD rfl ?_)
 refine aB ?_
 refine aV ?_
 refine aK rfl rfl ?_
 · skip
   refine ⟨congrArg Value.bool ?_, X⟩
   first
   | (rw [jV] at n3; simp only [eL, eJ, n3, decide_eq_true (show 1 ≤ x.name.size by omega), decide_eq_true (show x.name.size ≤ 6 by omega)]; simp [*]; done)
   | (rw [jV] at n3; simp only [eL, eJ, n3]; simp; done)
   | (simp only [eL, eJ, decide_eq_false (show ¬ x.name.size ≤ 6 by omega)]; simp; done)
   | (simp only [eL, eJ, decide_eq_false (show ¬ 1 ≤ x.name.size by omega)]; simp; done)
 refine aA rfl (aJ rfl rfl ?_)
 refine aA rfl (aC rfl ?_)
 refine aG rfl rfl rfl rfl ?_
 refine aG rfl rfl rfl rfl ?_
 refine aG rfl rfl rfl rfl ?_
 refine aG rfl rfl rfl rfl ?_
 refine aA rfl (aJ rfl rfl ?_)
 refine aA rfl (aD rfl ?_)
 refine aB ?_
 refine aE ?_
 refine aA rfl (aC rfl ?_)
 refine aA rfl (aC rfl ?_)
 refine aG rfl rfl rfl rfl ?_
 refine aG rfl rfl rfl rfl ?_
 refine aG rfl rfl rfl rfl ?_
 refine aA rfl (aJ rfl rfl ?_)
 refine aA rfl (aC rfl ?_)
 refine aG rfl rfl rfl rfl ?_
 refine aG rfl rfl rfl rfl ?_
 refine aG rfl rfl rfl rfl ?_
 refine aA rfl (aJ rfl rfl ?_)
 refine aA rfl (aD rfl ?_)
 refine aB ?_
 refine aV ?_
 refine aK rfl rfl ?_
 · skip
   refine ⟨congrArg Value.bool ?_, X⟩
   first
   | (rw [jV] at n3; simp only [eL, eJ, n3, decide_eq_true (show 1 ≤ x.name.size by omega), decide_eq_true (show x.name.size ≤ 6 by omega)]; simp [*]; done)
   | (rw [jV] at n3; simp only [eL, eJ, n3]; simp; done)
   | (simp only [eL, eJ, decide_eq_false (show ¬ x.name.size ≤ 6 by omega)]; simp; done)
   | (simp only [eL, eJ, decide_eq_false (show ¬ 1 ≤ x.name.size by omega)]; simp; done)
 refine aA rfl (aC rfl ?_)
 refine aG rfl rfl rfl rfl ?_
 refine aG rfl rfl rfl rfl ?_
 refine aG rfl rfl rfl rfl ?_
 refine aG rfl rfl rfl rfl ?_
 refine aA rfl (aJ rfl rfl ?_)
 refine aA rfl (aC rfl ?_)
 refine aG rfl rfl rfl rfl ?_
 refine aG rfl rfl rfl rfl ?_
 refine aG rfl rfl rfl rfl ?_
 refine aG rfl rfl rfl rfl ?_
 refine aA rfl (aJ rfl rfl ?_)
 refine aA rfl (aD rfl ?_)
 refine aB ?_
 refine aE ?_
 refine aA rfl (aC rfl ?_)
 refine aA rfl (aC rfl ?_)
 refine aG rfl rfl rfl rfl ?_
 refine aG rfl rfl rfl rfl ?_
 refine aG rfl rfl rfl rfl ?_
 refine aA rfl (aJ rfl rfl ?_)
 refine aA rfl (aC rfl ?_)
 refine aG rfl rfl rfl rfl ?_
 refine aG rfl rfl rfl rfl ?_
 refine aG rfl rfl rfl rfl ?_
 refine aA rfl (aJ rfl rfl ?_)
 refine aA rfl (aD rfl ?_)
 refine aB ?_
 refine aV ?_
 refine aK rfl rfl ?_
 · skip
   refine ⟨congrArg Value.bool ?_, X⟩
   first
   | (rw [jV] at n3; simp only [eL, eJ, n3, decide_eq_true (show 1 ≤ x.name.size by omega), decide_eq_true (show x.name.size ≤ 6 by omega)]; simp [*]; done)
   | (rw [jV] at n3; simp only [eL, eJ, n3]; simp; done)
   | (simp only [eL, eJ, decide_eq_false (show ¬ x.name.size ≤ 6 by omega)]; simp; done)
   | (simp only [eL, eJ, decide_eq_false (show ¬ 1 ≤ x.name.size by omega)]; simp; done)
theorem aG3 (A : Option Addr) (B c : Nat) (a : Nat) (w : World) (hs : Sl B w A (([(a : Int)] : List Int).flatMap eI)) (ha : a < 4294967296) :
   Calls Tryz.prog 244 #[.slice A 1 c] w (fD fun v w' => v = .bool true ∧ Ext w w') := by
 have Bhs := hs.1
 have X := Q7r w
 refine bI (args := [.slice A 1 c]) Tryz.func244 Tryz.ntmps244 rfl rfl ?_
 refine aE ?_
 refine aA rfl (aD rfl ?_)
 refine aB ?_
 refine aQ ?_
 refine aE ?_
 refine aA rfl (aD rfl ?_)
 refine aB ?_
 refine aW ?_
 refine dD (G := Nat) (fun k => [(0, .slice A 1 c), (3, .int .i64 (k : Nat))]) (fun k wr => k ≤ 1 ∧ Sl B wr A (([(a : Int)] : List Int).flatMap eI) ∧ Ext w wr) (fun k => 1 - k) 0 (.cons rfl (.cons rfl (.nil _))) ?_ ?_
 · exact ⟨by omega, hs, X⟩
 clear hs
 clear X
 rintro k wr ⟨hk0, hs, X⟩
 refine aQ ?_
 refine aE ?_
 refine aA rfl (aC rfl ?_)
 refine aA rfl (aC rfl ?_)
 refine aA rfl (cQ Tryz.underlying30 rfl ?_)
 refine aA rfl (cH rfl rfl (fun hk => ?_) (fun hk => ?_))
 have hk00 : k = 0 := by omega
 refine aB ?_
 refine aR rfl ?_
 refine aU ?_
 refine aP ?_
 refine aQ ?_
 refine aW ?_
 refine aE ?_
 refine aA rfl (aC rfl ?_)
 refine aA rfl (aC rfl ?_)
 refine aA rfl (aT hs bL rfl dA rfl rfl rfl (show ([(a : Int)] : List Int)[k]? = some (a : Int) by rw [hk00]; rfl) rfl ?_)
 refine aA rfl (cX hs bL (show ([(a : Int)] : List Int)[k]? = some (a : Int) by rw [hk00]; rfl) cY rfl rfl rfl ?_)
 refine aA rfl (cW jW rfl (iM _ _ _ _) (fun w2 hin x1 => ?_) (fun w2 hin x1 => by (have : hZ (a : Int) 0 4294967295 = true := eD.2 (by omega); rw [this] at hin; cases hin)))
 replace hs := hs.ext x1
 replace X := Q7x X x1
 refine aA rfl (cD rfl ?_)
 refine aB ?_
 refine aL rfl ?_
 refine aU ?_
 refine dJ ?_
 refine aP ?_
 refine aM ?_
 refine aA rfl (aC rfl ?_)
 refine aA rfl (aZ rfl rfl (dR (by omega)) ?_)
 refine aA rfl (aD rfl ?_)
 refine aB ?_
 refine aP ⟨k + 1, (.cons rfl (.cons rfl (.nil _))), ?_, ?_⟩
 · exact ⟨by omega, hs, X⟩
 · first | omega | (dsimp only; omega)
 refine aB ?_
 refine aL rfl ?_
 refine dC ?_
 refine dB ?_
 refine dB ?_
 refine eA ?_
 refine aP ?_
 refine aE ?_
 refine aA rfl (aD rfl ?_)
 refine aB ?_
 refine aV ?_
 refine aK rfl rfl ?_
 exact ⟨by rfl, X⟩
theorem xF (a : Nat) (w : World) (ha : a < 4294967296) :
   Calls Tryz.prog 180 #[.int .i64 (a : Nat)] w (fD fun v w' => ∃ A' c', v = .tuple #[.slice A' (mD a 32).length c', .int .i64 0] ∧ Own w' w.heap.size 2 1 A' (mD a 32).length c' ((mD a 32).flatMap eI) ∧ Ext w w') := by
 have X := Q7r w
 refine bI (args := [.int .i64 (a : Nat)]) Tryz.func180 Tryz.ntmps180 rfl rfl ?_
 refine aE ?_
 refine aA rfl (aD rfl ?_)
 refine aA rfl (aD rfl ?_)
 refine aB ?_
 refine aQ ?_
 refine aE ?_
 refine aA rfl (aC rfl ?_)
 refine aA rfl (aN dA cY rfl rfl rfl rfl rfl ?_)
 intro g1 w3 eg1 oB bbg1 x2 zg1
 replace oB := Own.low oB X.size
 replace X := Q7x X x2
 replace oB := oB.to (cs' := ([(a : Int)] : List Int).flatMap eI) rfl
 refine aA rfl (aS aJz rfl (aO (aG3 _ _ _ _ _ (oB).sl ha) ?_))
 rintro _ w5 ⟨rfl, x4⟩
 replace oB := oB.ext x4
 replace X := Q7x X x4
 refine aA rfl (cD rfl ?_)
 refine aB ?_
 refine aL rfl ?_
 refine aU ?_
 refine aP ?_
 refine aE ?_
 refine aA rfl (aN dA cY rfl rfl rfl rfl rfl ?_)
 intro gO w7 egO oO bbgO x6 zgO
 replace oO := Own.low oO X.size
 replace X := Q7x X x6
 refine aA rfl (aD rfl ?_)
 refine aB ?_
 refine aQ ?_
 refine aE ?_
 refine aA rfl (aD rfl ?_)
 refine aB ?_
 refine aW ?_
 refine dD (G := Nat × Nat × Option Addr × Nat) (fun ⟨k, n1, A1, c1⟩ => [(0, .int .i64 (a : Nat)), (2, .slice none 0 0), (3, .int .i64 0), (4, .slice A1 n1 c1), (5, .int .i64 (k : Nat))]) (fun ⟨k, n1, A1, c1⟩ wr => k ≤ 32 ∧ n1 = (mD a k).length ∧ Own wr w.heap.size 2 1 A1 n1 c1 ((mD a k).flatMap eI) ∧ Ext w wr) (fun ⟨k, n1, A1, c1⟩ => 32 - k) (0, 0, some ⟨gO, 0, none⟩, 0) (.cons rfl (.cons rfl (.cons rfl (.cons rfl (.cons rfl (.nil _)))))) ?_ ?_
 · exact ⟨by omega, rfl, oO, X⟩
 clear oO
 clear X
 rintro ⟨k, n1, A1, c1⟩ wr ⟨hk0, hn1, oO, X⟩
 refine aQ ?_
 refine aE ?_
 refine aA rfl (aC rfl ?_)
 refine aA rfl (cH rfl rfl (fun hk => ?_) (fun hk => ?_))
 refine aB ?_
 refine aR rfl ?_
 refine aU ?_
 refine aP ?_
 refine aQ ?_
 refine aW ?_
 refine aE ?_
 refine aA rfl (aC rfl ?_)
 refine aA rfl (aC rfl ?_)
 refine aA rfl (cW aDO rfl (aAo _ _ _ ha (by omega)) (fun w9 hb0 x8 => ?_) (fun w9 hb0 x8 => ?_))
 replace oO := oO.ext x8
 replace X := Q7x X x8
 have hb : a.testBit k = true := by simpa [nC] using hb0
 have hml := wI a k
 refine aB ?_
 refine aR rfl ?_
 refine aM ?_
 refine aA rfl (aC rfl ?_)
 refine aA rfl (aC rfl ?_)
 refine aA rfl (aN dA cY rfl rfl rfl rfl rfl ?_)
 intro g10 w12 eg10 oV bbg10 x11 zg10
 replace oV := Own.low oV X.size
 replace oO := oO.ext x11
 replace X := Q7x X x11
 replace oV := oV.to (cs' := ([(k : Int)] : List Int).flatMap eI) rfl
 refine aA rfl (cF (ts := #[]) oO X.size oV.sl (by first | rfl | simp) (by first | exact List.all_eq_true.1 rfl | simp [Value.oneCell']) dA cY rfl rfl rfl rfl (by omega) (by omega) ?_)
 intro AoN coN w14 oN hg13
 replace X := X.grown hg13 X.size (fun g hg => (Own.lt oO hg).1)
 clear hg13
 refine aA rfl (aD rfl ?_)
 refine aB ?_
 refine dJ ?_
 refine aP ?_
 refine aM ?_
 refine aA rfl (aC rfl ?_)
 refine aA rfl (aZ rfl rfl (dR (by omega)) ?_)
 refine aA rfl (aD rfl ?_)
 refine aB ?_
 refine aP ⟨(k + 1, n1 + 1, AoN, coN), (.cons rfl (.cons rfl (.cons rfl (.cons rfl (.cons rfl (.nil _)))))), ?_, ?_⟩
 · exact ⟨by omega, (by rw [aA3 hb]; simp [hn1]), oN.to (by rw [aA3 hb, List.flatMap_append]), X⟩
 · first | omega | (dsimp only; omega)
 replace oO := oO.ext x8
 replace X := Q7x X x8
 have hb : a.testBit k = false := by simpa [nC] using hb0
 refine aB ?_
 refine aL rfl ?_
 refine aU ?_
 refine dJ ?_
 refine aP ?_
 refine aM ?_
 refine aA rfl (aC rfl ?_)
 refine aA rfl (aZ rfl rfl (dR (by omega)) ?_)
 refine aA rfl (aD rfl ?_)
 refine aB ?_
 refine aP ⟨(k + 1, n1, A1, c1), (.cons rfl (.cons rfl (.cons rfl (.cons rfl (.cons rfl (.nil _)))))), ?_, ?_⟩
 · exact ⟨by omega, (by rw [aCT hb]; simp [hn1]), oO.to (by rw [aCT hb]), X⟩
 · first | omega | (dsimp only; omega)
 refine aB ?_
 refine aL rfl ?_
 refine dC ?_
 refine dB ?_
 refine dB ?_
 refine eA ?_
 refine aP ?_
 refine aE ?_
 refine aA rfl (aC rfl ?_)
 refine aA rfl (aD rfl ?_)
 refine aA rfl (aD rfl ?_)
 refine aB ?_
 refine aV ?_
 refine fL rfl rfl rfl ?_
 · skip
   rw [show k = 32 by omega] at oO hn1
   rw [← hn1]
   exact ⟨A1, c1, rfl, oO, X⟩
end Go.Proofs.YtdoibplhbdkapaaGreatDoor
