/- Parts. No condition. -/
import Derived.Test.YtdoibplhbdkapaaGreatDoorDNP13
import Derived.Test.YtdoibplhbdkapaaGreatDoorDNP5
import Derived.Test.YtdoibplhbdkapaaGreatDoorDNP4
namespace Go.Proofs.YtdoibplhbdkapaaGreatDoor
open Go.RowKit
set_option linter.unusedVariables false
set_option linter.unusedSimpArgs false
set_option maxRecDepth 20000
theorem aHc (A : Option Addr) (B B2 c : Nat) (xs : List ModeI) (w : World) (hs : Sl B w A (xs.flatMap ModeI.cells)) (hn : Nexts B2 w xs) (hl : xs.length ≤ 1048576) (hz : ∀ x ∈ xs, x.m.next.length ≤ 1048576) :
   Calls Tryz.prog 225 #[.slice A xs.length c] w (fD fun v w' => v = .bool (jH (xs.map (·.m))) ∧ Ext w w') := by
 have Bhs := hs.1
 have Bhn := hn.1
 have X := Q7r w
 refine bI (args := [.slice A xs.length c]) Tryz.func225 Tryz.ntmps225 rfl rfl ?_
 refine aE ?_
 refine aA rfl (aD rfl ?_)
 refine aB ?_
 refine aQ ?_
 refine aE ?_
 refine aA rfl (aC rfl ?_)
 refine aA rfl (cQ Tryz.underlying25 rfl ?_)
 refine aA rfl (cW jW rfl (iM _ _ _ _) (fun w2 hB x1 => ?_) (fun w2 hB x1 => ?_))
 replace hs := hs.ext x1
 replace hn := hn.ext x1
 replace X := Q7x X x1
 refine aA rfl (cD rfl ?_)
 refine aB ?_
 refine aL rfl ?_
 refine aU ?_
 refine aP ?_
 refine aQ ?_
 refine aE ?_
 refine aA rfl (aD rfl ?_)
 refine aB ?_
 refine aW ?_
 refine dD (G := Nat) (fun k => [(0, .slice A xs.length c), (3, .int .i64 (k : Nat))]) (fun k wr => k ≤ xs.length ∧ dL (xs.length : Int) 0 (xs.map (·.m)) = dL (xs.length : Int) k ((xs.drop k).map (·.m)) ∧ Sl B wr A (xs.flatMap ModeI.cells) ∧ Nexts B2 wr xs ∧ Ext w wr) (fun k => xs.length - k) 0 (.cons rfl (.cons rfl (.nil _))) ?_ ?_
 · exact ⟨by omega, rfl, hs, hn, X⟩
 clear hs hn
 clear X
 rintro k wr ⟨hk0, hi, hs, hn, X⟩
 refine aQ ?_
 refine aE ?_
 refine aA rfl (aC rfl ?_)
 refine aA rfl (aC rfl ?_)
 refine aA rfl (cQ Tryz.underlying25 rfl ?_)
 refine aA rfl (cH rfl rfl (fun hk => ?_) (fun hk => ?_))
 obtain ⟨x, hx, dx⟩ := dM hk
 refine aB ?_
 refine aR rfl ?_
 refine aU ?_
 refine aP ?_
 refine aQ ?_
 refine aW ?_
 refine aE ?_
 refine aA rfl (aC rfl ?_)
 refine aA rfl (aC rfl ?_)
 refine aA rfl (aT hs ModeI.len rfl iA rfl rfl rfl hx rfl ?_)
 have hnx := hn.at_ hx
 have hlx := hz x (List.mem_of_getElem? hx)
 refine aA rfl (dY hs ModeI.len hx hH rfl ?_)
 refine aA rfl (dO hH ?_)
 intro g6 w5 eg6 b3 x4 zg6
 have lg6 : w.heap.size ≤ g6 := Q7l X.size (Q7e eg6.symm)
 have pg6hs := Q7l hs.1 (Q7e eg6.symm)
 have pg6hn := Q7l hn.1 (Q7e eg6.symm)
 have pg6hnx := Q7l hnx.1 (Q7e eg6.symm)
 replace hs := hs.ext x4
 replace hn := hn.ext x4
 replace hnx := hnx.ext x4
 replace X := Q7x X x4
 refine aA rfl (aX b3 hH rfl rfl rfl rfl rfl rfl ?_)
 intro w9 b11 hg7 z10
 replace hs := hs.grown hg7 (by intro g hg; injection hg; omega)
 replace hn := hn.grown hg7 (by intro g hg; injection hg; omega)
 replace hnx := hnx.grown hg7 (by intro g hg; injection hg; omega)
 replace X := X.grown hg7 X.size (by intro g hg; injection hg; omega)
 clear hg7 b3
 refine aB ?_
 refine aE ?_
 refine aA rfl (aF iS rfl rfl ?_)
 refine aA rfl (aI b11 cY rfl rfl ?_)
 refine aA rfl (cW jW rfl (iM _ _ _ _) (fun w14 h12 x13 => ?_) (fun w14 h12 x13 => ?_))
 replace hs := hs.ext x13
 replace hn := hn.ext x13
 replace hnx := hnx.ext x13
 replace b11 := b11.ext x13
 replace X := Q7x X x13
 refine aA rfl (cD rfl ?_)
 refine aA rfl (aC rfl ?_)
 refine aH rfl rfl rfl (aF fU rfl rfl ?_)
 refine aH rfl rfl rfl (aI b11 cY rfl rfl ?_)
 refine aH rfl rfl rfl (cW jW rfl (iM _ _ _ _) (fun w17 h15 x16 => ?_) (fun w17 h15 x16 => ?_))
 replace hs := hs.ext x16
 replace hn := hn.ext x16
 replace hnx := hnx.ext x16
 replace b11 := b11.ext x16
 replace X := Q7x X x16
 refine aH rfl rfl rfl (cD rfl ?_)
 refine aA rfl (aJ rfl rfl ?_)
 refine aA rfl (aC rfl ?_)
 refine aH rfl rfl rfl (aF jD rfl rfl ?_)
 refine aH rfl rfl rfl (aI b11 kQ rfl rfl ?_)
 refine aH rfl rfl rfl (aC rfl ?_)
 refine aH rfl rfl rfl (cQ Tryz.underlying25 rfl ?_)
 refine aH rfl rfl rfl (cW aJF rfl (aC4 _ _ _ _ _ _ hnx hlx (by omega)) (fun w20 h18 x19 => ?_) (fun w20 h18 x19 => ?_))
 replace hs := hs.ext x19
 replace hn := hn.ext x19
 replace hnx := hnx.ext x19
 replace b11 := b11.ext x19
 replace X := Q7x X x19
 refine aH rfl rfl rfl (cD rfl ?_)
 refine aA rfl (aJ rfl rfl ?_)
 refine aA rfl (aC rfl ?_)
 refine aH rfl rfl rfl (aF jD rfl rfl ?_)
 refine aH rfl rfl rfl (aI b11 kQ rfl rfl ?_)
 refine aH rfl rfl rfl (aC rfl ?_)
 refine aH rfl rfl rfl (cW aKu rfl (aFz _ _ _ _ _ _ hnx hlx) (fun w23 h21 x22 => ?_) (fun w23 h21 x22 => ?_))
 replace hs := hs.ext x22
 replace hn := hn.ext x22
 replace hnx := hnx.ext x22
 replace b11 := b11.ext x22
 replace X := Q7x X x22
 refine aA rfl (aJ rfl rfl ?_)
 refine aB ?_
 refine aR rfl ?_
 refine aE ?_
 refine aA rfl (aD rfl ?_)
 refine aB ?_
 refine aV ?_
 refine dN ?_
 refine bU ?_
 refine bU ?_
 refine dN ?_
 refine bU ?_
 refine aK rfl rfl ?_
 · skip
   refine ⟨congrArg Value.bool ?_, X⟩
   rw [jH, List.length_map]
   first
   | (rw [hB]; rfl)
   | (rw [hB, hi, bJ hk]; rfl)
   | (rw [hi, bJ hk]; simp [dL, hZ, *]; done)
   | (rw [hi, bJ hk]; simp [dL, hZ]; omega)
   | (rw [hi, dx, List.map_cons, dL]; simp [jQ, *])
 replace hs := hs.ext x22
 replace hn := hn.ext x22
 replace hnx := hnx.ext x22
 replace b11 := b11.ext x22
 replace X := Q7x X x22
 refine aA rfl (aJ rfl rfl ?_)
 refine aB ?_
 refine aL rfl ?_
 refine aU ?_
 refine dJ ?_
 refine aP ?_
 refine aM ?_
 refine aA rfl (aC rfl ?_)
 refine aA rfl (aZ rfl rfl (dR (by omega)) ?_)
 refine aA rfl (aD rfl ?_)
 refine aB ?_
 refine aP ⟨k + 1, (.cons rfl (.cons rfl (.nil _))), ?_, ?_⟩
 · exact ⟨by omega, (by rw [hi, dx, List.map_cons, dL]; simp [jQ, *]), hs, hn, X⟩
 · first | omega | (dsimp only; omega)
 replace hs := hs.ext x19
 replace hn := hn.ext x19
 replace hnx := hnx.ext x19
 replace b11 := b11.ext x19
 replace X := Q7x X x19
 refine aH rfl rfl rfl (cD rfl ?_)
 refine aA rfl (aJ rfl rfl ?_)
 refine aA rfl (aC rfl ?_)
 refine aG rfl rfl rfl rfl ?_
 refine aG rfl rfl rfl rfl ?_
 refine aG rfl rfl rfl rfl ?_
 refine aG rfl rfl rfl rfl ?_
 refine aA rfl (aJ rfl rfl ?_)
 refine aB ?_
 refine aR rfl ?_
 refine aE ?_
 refine aA rfl (aD rfl ?_)
 refine aB ?_
 refine aV ?_
 refine dN ?_
 refine bU ?_
 refine bU ?_
 refine dN ?_
 refine bU ?_
 refine aK rfl rfl ?_
 · skip
   refine ⟨congrArg Value.bool ?_, X⟩
   rw [jH, List.length_map]
   first
   | (rw [hB]; rfl)
   | (rw [hB, hi, bJ hk]; rfl)
   | (rw [hi, bJ hk]; simp [dL, hZ, *]; done)
   | (rw [hi, bJ hk]; simp [dL, hZ]; omega)
   | (rw [hi, dx, List.map_cons, dL]; simp [jQ, *])
 replace hs := hs.ext x16
 replace hn := hn.ext x16
 replace hnx := hnx.ext x16
 replace b11 := b11.ext x16
 replace X := Q7x X x16
 refine aH rfl rfl rfl (cD rfl ?_)
 refine aA rfl (aJ rfl rfl ?_)
 refine aA rfl (aC rfl ?_)
 refine aG rfl rfl rfl rfl ?_
 refine aG rfl rfl rfl rfl ?_
 refine aG rfl rfl rfl rfl ?_
 refine aG rfl rfl rfl rfl ?_
 refine aG rfl rfl rfl rfl ?_
 refine aG rfl rfl rfl rfl ?_
 refine aA rfl (aJ rfl rfl ?_)
 refine aA rfl (aC rfl ?_)
 refine aG rfl rfl rfl rfl ?_
 refine aG rfl rfl rfl rfl ?_
 refine aG rfl rfl rfl rfl ?_
 refine aG rfl rfl rfl rfl ?_
 refine aA rfl (aJ rfl rfl ?_)
 refine aB ?_
 refine aR rfl ?_
 refine aE ?_
 refine aA rfl (aD rfl ?_)
 refine aB ?_
 refine aV ?_
 refine dN ?_
 refine bU ?_
 refine bU ?_
 refine dN ?_
 refine bU ?_
 refine aK rfl rfl ?_
 · skip
   refine ⟨congrArg Value.bool ?_, X⟩
   rw [jH, List.length_map]
   first
   | (rw [hB]; rfl)
   | (rw [hB, hi, bJ hk]; rfl)
   | (rw [hi, bJ hk]; simp [dL, hZ, *]; done)
   | (rw [hi, bJ hk]; simp [dL, hZ]; omega)
   | (rw [hi, dx, List.map_cons, dL]; simp [jQ, *])
 replace hs := hs.ext x13
 replace hn := hn.ext x13
 replace hnx := hnx.ext x13
 replace b11 := b11.ext x13
 replace X := Q7x X x13
 refine aA rfl (cD rfl ?_)
 refine aA rfl (aC rfl ?_)
 refine aG rfl rfl rfl rfl ?_
 refine aG rfl rfl rfl rfl ?_
 refine aG rfl rfl rfl rfl ?_
 refine aG rfl rfl rfl rfl ?_
 refine aA rfl (aJ rfl rfl ?_)
 refine aA rfl (aC rfl ?_)
 refine aG rfl rfl rfl rfl ?_
 refine aG rfl rfl rfl rfl ?_
 refine aG rfl rfl rfl rfl ?_
 refine aG rfl rfl rfl rfl ?_
 refine aG rfl rfl rfl rfl ?_
 refine aG rfl rfl rfl rfl ?_
 refine aA rfl (aJ rfl rfl ?_)
 refine aA rfl (aC rfl ?_)
 refine aG rfl rfl rfl rfl ?_
 refine aG rfl rfl rfl rfl ?_
 refine aG rfl rfl rfl rfl ?_
 refine aG rfl rfl rfl rfl ?_
 refine aA rfl (aJ rfl rfl ?_)
 refine aB ?_
 refine aR rfl ?_
 refine aE ?_
 refine aA rfl (aD rfl ?_)
 refine aB ?_
 refine aV ?_
 refine dN ?_
 refine bU ?_
 refine bU ?_
 refine dN ?_
 refine bU ?_
 refine aK rfl rfl ?_
 · skip
   refine ⟨congrArg Value.bool ?_, X⟩
   rw [jH, List.length_map]
   first
   | (rw [hB]; rfl)
   | (rw [hB, hi, bJ hk]; rfl)
   | (rw [hi, bJ hk]; simp [dL, hZ, *]; done)
   | (rw [hi, bJ hk]; simp [dL, hZ]; omega)
   | (rw [hi, dx, List.map_cons, dL]; simp [jQ, *])
 refine aB ?_
 refine aL rfl ?_
 refine dC ?_
 refine dB ?_
 refine dB ?_
 refine eA ?_
 refine aP ?_
 refine aE ?_
 refine aA rfl (aD rfl ?_)
 refine aB ?_
 refine aV ?_
 refine aK rfl rfl ?_
 · skip
   refine ⟨congrArg Value.bool ?_, X⟩
   rw [jH, List.length_map]
   first
   | (rw [hB]; rfl)
   | (rw [hB, hi, bJ hk]; rfl)
   | (rw [hi, bJ hk]; simp [dL, hZ, *]; done)
   | (rw [hi, bJ hk]; simp [dL, hZ]; omega)
   | (rw [hi, dx, List.map_cons, dL]; simp [jQ, *])
 replace hs := hs.ext x1
 replace hn := hn.ext x1
 replace X := Q7x X x1
 refine aA rfl (cD rfl ?_)
 refine aB ?_
 refine aR rfl ?_
 refine aE ?_
 refine aA rfl (aD rfl ?_)
 refine aB ?_
 refine aV ?_
 refine bU ?_
 refine aK rfl rfl ?_
 · skip
   refine ⟨congrArg Value.bool ?_, X⟩
   rw [jH, List.length_map]
   first
   | (rw [hB]; rfl)
   | (rw [hB, hi, bJ hk]; rfl)
   | (rw [hi, bJ hk]; simp [dL, hZ, *]; done)
   | (rw [hi, bJ hk]; simp [dL, hZ]; omega)
   | (rw [hi, dx, List.map_cons, dL]; simp [jQ, *])
theorem aBi (A : Option Addr) (B B2 c : Nat) (xs : List ModeI) (w : World) (hs : Sl B w A (xs.flatMap ModeI.cells)) (hn : Nexts B2 w xs) (hl : xs.length ≤ 1048576) (hz : ∀ x ∈ xs, x.m.next.length ≤ 1048576) :
   Calls Tryz.prog 163 #[.slice A xs.length c] w (fD fun v w' => v = .bool (jH (xs.map (·.m))) ∧ Ext w w') := by
 have Bhs := hs.1
 have Bhn := hn.1
 have X := Q7r w
 refine bI (args := [.slice A xs.length c]) Tryz.func163 Tryz.ntmps163 rfl rfl ?_
 refine aE ?_
 refine aA rfl (aD rfl ?_)
 refine aB ?_
 refine aQ ?_
 refine aE ?_
 refine aA rfl (aC rfl ?_)
 refine aA rfl (cQ Tryz.underlying25 rfl ?_)
 refine aA rfl (aC rfl ?_)
 refine aB ?_
 refine aW ?_
 refine dD (G := Nat) (fun k => [(0, .slice A xs.length c), (5, .slice A xs.length c), (6, .int .i64 (xs.length : Nat)), (7, .int .i64 (k : Nat))]) (fun k wr => k ≤ xs.length ∧ dL (xs.length : Int) 0 (xs.map (·.m)) = dL (xs.length : Int) k ((xs.drop k).map (·.m)) ∧ Sl B wr A (xs.flatMap ModeI.cells) ∧ Nexts B2 wr xs ∧ Ext w wr) (fun k => xs.length - k) 0 (.cons rfl (.cons rfl (.cons rfl (.cons rfl (.nil _))))) ?_ ?_
 · exact ⟨by omega, rfl, hs, hn, X⟩
 clear hs hn
 clear X
 rintro k wr ⟨hk0, hi, hs, hn, X⟩
 refine aE ?_
 refine aA rfl (cH rfl rfl (fun hk => ?_) (fun hk => ?_))
 obtain ⟨x, hx, dx⟩ := dM hk
 refine aB ?_
 refine aQ ?_
 refine aR rfl ?_
 refine aU ?_
 refine aP ?_
 refine aQ ?_
 refine aW ?_
 refine aE ?_
 refine aA rfl (aC rfl ?_)
 refine aA rfl (aT hs ModeI.len rfl iA rfl rfl rfl hx rfl ?_)
 have hnx := hn.at_ hx
 have hlx := hz x (List.mem_of_getElem? hx)
 refine aA rfl (dY hs ModeI.len hx hH rfl ?_)
 refine aA rfl (dO hH ?_)
 intro g4 w3 eg4 b1 x2 zg4
 have lg4 : w.heap.size ≤ g4 := Q7l X.size (Q7e eg4.symm)
 have pg4hs := Q7l hs.1 (Q7e eg4.symm)
 have pg4hn := Q7l hn.1 (Q7e eg4.symm)
 have pg4hnx := Q7l hnx.1 (Q7e eg4.symm)
 replace hs := hs.ext x2
 replace hn := hn.ext x2
 replace hnx := hnx.ext x2
 replace X := Q7x X x2
 refine aA rfl (aD rfl ?_)
 refine aA rfl (aX b1 hH rfl rfl rfl rfl rfl rfl ?_)
 intro w6 b8 hg5 z7
 replace hs := hs.grown hg5 (by intro g hg; injection hg; omega)
 replace hn := hn.grown hg5 (by intro g hg; injection hg; omega)
 replace hnx := hnx.grown hg5 (by intro g hg; injection hg; omega)
 replace X := X.grown hg5 X.size (by intro g hg; injection hg; omega)
 clear hg5 b1
 refine aB ?_
 refine aE ?_
 refine aA rfl (aF iS rfl rfl ?_)
 refine aA rfl (aI b8 cY rfl rfl ?_)
 refine aA rfl (cW mL rfl (jJ _ _ _ _) (fun w11 h9 x10 => ?_) (fun w11 h9 x10 => ?_))
 replace hs := hs.ext x10
 replace hn := hn.ext x10
 replace hnx := hnx.ext x10
 replace b8 := b8.ext x10
 replace X := Q7x X x10
 refine aA rfl (cD rfl ?_)
 refine aA rfl (aC rfl ?_)
 refine aH rfl rfl rfl (aF fU rfl rfl ?_)
 refine aH rfl rfl rfl (aI b8 cY rfl rfl ?_)
 refine aH rfl rfl rfl (cW mL rfl (jJ _ _ _ _) (fun w14 h12 x13 => ?_) (fun w14 h12 x13 => ?_))
 replace hs := hs.ext x13
 replace hn := hn.ext x13
 replace hnx := hnx.ext x13
 replace b8 := b8.ext x13
 replace X := Q7x X x13
 refine aH rfl rfl rfl (cD rfl ?_)
 refine aA rfl (aJ rfl rfl ?_)
 refine aA rfl (aC rfl ?_)
 refine aH rfl rfl rfl (aF jD rfl rfl ?_)
 refine aH rfl rfl rfl (aI b8 kQ rfl rfl ?_)
 refine aH rfl rfl rfl (aC rfl ?_)
 refine aH rfl rfl rfl (cQ Tryz.underlying25 rfl ?_)
 refine aH rfl rfl rfl (cW aJx rfl (aC5 _ _ _ _ _ _ hnx hlx (by omega)) (fun w17 h15 x16 => ?_) (fun w17 h15 x16 => ?_))
 replace hs := hs.ext x16
 replace hn := hn.ext x16
 replace hnx := hnx.ext x16
 replace b8 := b8.ext x16
 replace X := Q7x X x16
 refine aH rfl rfl rfl (cD rfl ?_)
 refine aA rfl (aJ rfl rfl ?_)
 refine aA rfl (aC rfl ?_)
 refine aH rfl rfl rfl (aF jD rfl rfl ?_)
 refine aH rfl rfl rfl (aI b8 kQ rfl rfl ?_)
 refine aH rfl rfl rfl (aC rfl ?_)
 refine aH rfl rfl rfl (cW aIc rfl (yL _ _ _ _ _ _ hnx hlx) (fun w20 h18 x19 => ?_) (fun w20 h18 x19 => ?_))
 replace hs := hs.ext x19
 replace hn := hn.ext x19
 replace hnx := hnx.ext x19
 replace b8 := b8.ext x19
 replace X := Q7x X x19
 refine aA rfl (aJ rfl rfl ?_)
 refine aB ?_
 refine aR rfl ?_
 refine aE ?_
 refine aA rfl (aD rfl ?_)
 refine aB ?_
 refine aV ?_
 refine dN ?_
 refine bU ?_
 refine bU ?_
 refine dN ?_
 refine bU ?_
 refine aK rfl rfl ?_
 · skip
   refine ⟨congrArg Value.bool ?_, X⟩
   rw [jH, List.length_map]
   first
   | (rw [hB]; rfl)
   | (rw [hB, hi, bJ hk]; rfl)
   | (rw [hi, bJ hk]; simp [dL, hZ, *]; done)
   | (rw [hi, bJ hk]; simp [dL, hZ]; omega)
   | (rw [hi, dx, List.map_cons, dL]; simp [jQ, *])
 replace hs := hs.ext x19
 replace hn := hn.ext x19
 replace hnx := hnx.ext x19
 replace b8 := b8.ext x19
 replace X := Q7x X x19
 refine aA rfl (aJ rfl rfl ?_)
 refine aB ?_
 refine aL rfl ?_
 refine aU ?_
 refine dJ ?_
 refine aP ?_
 refine aM ?_
 refine aA rfl (aZ rfl rfl (dR (by omega)) ?_)
 refine aA rfl (aC rfl ?_)
 refine aB ?_
 refine aP ⟨k + 1, (.cons rfl (.cons rfl (.cons rfl (.cons rfl (.nil _))))), ?_, ?_⟩
 · exact ⟨by omega, (by rw [hi, dx, List.map_cons, dL]; simp [jQ, *]), hs, hn, X⟩
 · first | omega | (dsimp only; omega)
 replace hs := hs.ext x16
 replace hn := hn.ext x16
 replace hnx := hnx.ext x16
 replace b8 := b8.ext x16
 replace X := Q7x X x16
 refine aH rfl rfl rfl (cD rfl ?_)
 refine aA rfl (aJ rfl rfl ?_)
 refine aA rfl (aC rfl ?_)
 refine aG rfl rfl rfl rfl ?_
 refine aG rfl rfl rfl rfl ?_
 refine aG rfl rfl rfl rfl ?_
 refine aG rfl rfl rfl rfl ?_
 refine aA rfl (aJ rfl rfl ?_)
 refine aB ?_
 refine aR rfl ?_
 refine aE ?_
 refine aA rfl (aD rfl ?_)
 refine aB ?_
 refine aV ?_
 refine dN ?_
 refine bU ?_
 refine bU ?_
 refine dN ?_
 refine bU ?_
 refine aK rfl rfl ?_
 · skip
   refine ⟨congrArg Value.bool ?_, X⟩
   rw [jH, List.length_map]
   first
   | (rw [hB]; rfl)
   | (rw [hB, hi, bJ hk]; rfl)
   | (rw [hi, bJ hk]; simp [dL, hZ, *]; done)
   | (rw [hi, bJ hk]; simp [dL, hZ]; omega)
   | (rw [hi, dx, List.map_cons, dL]; simp [jQ, *])
 replace hs := hs.ext x13
 replace hn := hn.ext x13
 replace hnx := hnx.ext x13
 replace b8 := b8.ext x13
 replace X := Q7x X x13
 refine aH rfl rfl rfl (cD rfl ?_)
 refine aA rfl (aJ rfl rfl ?_)
 refine aA rfl (aC rfl ?_)
 refine aG rfl rfl rfl rfl ?_
 refine aG rfl rfl rfl rfl ?_
 refine aG rfl rfl rfl rfl ?_
 refine aG rfl rfl rfl rfl ?_
 refine aG rfl rfl rfl rfl ?_
 refine aG rfl rfl rfl rfl ?_
 refine aA rfl (aJ rfl rfl ?_)
 refine aA rfl (aC rfl ?_)
 refine aG rfl rfl rfl rfl ?_
 refine aG rfl rfl rfl rfl ?_
 refine aG rfl rfl rfl rfl ?_
 refine aG rfl rfl rfl rfl ?_
 refine aA rfl (aJ rfl rfl ?_)
 refine aB ?_
 refine aR rfl ?_
 refine aE ?_
 refine aA rfl (aD rfl ?_)
 refine aB ?_
 refine aV ?_
 refine dN ?_
 refine bU ?_
 refine bU ?_
 refine dN ?_
 refine bU ?_
 refine aK rfl rfl ?_
 · skip
   refine ⟨congrArg Value.bool ?_, X⟩
   rw [jH, List.length_map]
   first
   | (rw [hB]; rfl)
   | (rw [hB, hi, bJ hk]; rfl)
   | (rw [hi, bJ hk]; simp [dL, hZ, *]; done)
   | (rw [hi, bJ hk]; simp [dL, hZ]; omega)
   | (rw [hi, dx, List.map_cons, dL]; simp [jQ, *])
 replace hs := hs.ext x10
 replace hn := hn.ext x10
 replace hnx := hnx.ext x10
 replace b8 := b8.ext x10
 replace X := Q7x X x10
 refine aA rfl (cD rfl ?_)
 refine aA rfl (aC rfl ?_)
 refine aG rfl rfl rfl rfl ?_
 refine aG rfl rfl rfl rfl ?_
 refine aG rfl rfl rfl rfl ?_
 refine aG rfl rfl rfl rfl ?_
 refine aA rfl (aJ rfl rfl ?_)
 refine aA rfl (aC rfl ?_)
 refine aG rfl rfl rfl rfl ?_
 refine aG rfl rfl rfl rfl ?_
 refine aG rfl rfl rfl rfl ?_
 refine aG rfl rfl rfl rfl ?_
 refine aG rfl rfl rfl rfl ?_
 refine aG rfl rfl rfl rfl ?_
 refine aA rfl (aJ rfl rfl ?_)
 refine aA rfl (aC rfl ?_)
 refine aG rfl rfl rfl rfl ?_
 refine aG rfl rfl rfl rfl ?_
 refine aG rfl rfl rfl rfl ?_
 refine aG rfl rfl rfl rfl ?_
 refine aA rfl (aJ rfl rfl ?_)
 refine aB ?_
 refine aR rfl ?_
 refine aE ?_
 refine aA rfl (aD rfl ?_)
 refine aB ?_
 refine aV ?_
 refine dN ?_
 refine bU ?_
 refine bU ?_
 refine dN ?_
 refine bU ?_
 refine aK rfl rfl ?_
 · skip
   refine ⟨congrArg Value.bool ?_, X⟩
   rw [jH, List.length_map]
   first
   | (rw [hB]; rfl)
   | (rw [hB, hi, bJ hk]; rfl)
   | (rw [hi, bJ hk]; simp [dL, hZ, *]; done)
   | (rw [hi, bJ hk]; simp [dL, hZ]; omega)
   | (rw [hi, dx, List.map_cons, dL]; simp [jQ, *])
 refine aB ?_
 refine aQ ?_
 refine aL rfl ?_
 refine dC ?_
 refine dB ?_
 refine dB ?_
 refine eA ?_
 refine aP ?_
 refine aE ?_
 refine aA rfl (aC rfl ?_)
 refine aA rfl (cQ Tryz.underlying25 rfl ?_)
 refine aA rfl (lC rfl rfl (fun h21 => ?_) (fun h21 => ?_))
 refine aA rfl (aC rfl ?_)
 refine aH rfl rfl rfl (aC rfl ?_)
 refine aH rfl rfl rfl (cQ Tryz.underlying25 rfl ?_)
 refine aH rfl rfl rfl (pM rfl rfl ?_)
 refine aA rfl (aJ rfl rfl ?_)
 refine aA rfl (aD rfl ?_)
 refine aB ?_
 refine aV ?_
 refine aK rfl rfl ?_
 · skip
   refine ⟨congrArg Value.bool ?_, X⟩
   rw [jH, List.length_map]
   first
   | (rw [hB]; rfl)
   | (rw [hB, hi, bJ hk]; rfl)
   | (rw [hi, bJ hk]; simp [dL, hZ, *]; done)
   | (rw [hi, bJ hk]; simp [dL, hZ]; omega)
   | (rw [hi, dx, List.map_cons, dL]; simp [jQ, *])
 refine aA rfl (aC rfl ?_)
 refine aG rfl rfl rfl rfl ?_
 refine aG rfl rfl rfl rfl ?_
 refine aG rfl rfl rfl rfl ?_
 refine aA rfl (aJ rfl rfl ?_)
 refine aA rfl (aD rfl ?_)
 refine aB ?_
 refine aV ?_
 refine aK rfl rfl ?_
 · skip
   refine ⟨congrArg Value.bool ?_, X⟩
   rw [jH, List.length_map]
   first
   | (rw [hB]; rfl)
   | (rw [hB, hi, bJ hk]; rfl)
   | (rw [hi, bJ hk]; simp [dL, hZ, *]; done)
   | (rw [hi, bJ hk]; simp [dL, hZ]; omega)
   | (rw [hi, dx, List.map_cons, dL]; simp [jQ, *])
def hX (x : Mode) : List Int := [x.rounds, x.slots, (x.next.length : Int)] ++ x.next
def mV (ms : List Mode) (k : Nat) : List Int := (ms.length : Int) :: (ms.take k).flatMap hX
theorem aFA : ∀ (xs : List Int), ∀ u ∈ xs.flatMap eI, u.oneCell' = true := fun xs u hu => by
 obtain ⟨x, _, h⟩ := List.mem_flatMap.1 hu
 have : u = .int .i64 x := by simpa [eI] using h
 subst this; rfl
theorem aB2 {xs : List ModeI} {k : Nat} {x : ModeI} (h : xs[k]? = some x) : (mV (xs.map (·.m)) (k + 1)).flatMap eI = ((mV (xs.map (·.m)) k).flatMap eI ++ (eI x.m.rounds ++ eI x.m.slots ++ eI (x.m.next.length : Nat))) ++ x.m.next.flatMap eI := by
 unfold mV
 rw [List.take_add_one, aBI (f := (·.m)) h]
 simp [List.flatMap_append, hX]
theorem aD5 {xs : List ModeI} {k : Nat} {x : ModeI} (h : xs[k]? = some x) : (mV (xs.map (·.m)) (k + 1)).length = (mV (xs.map (·.m)) k).length + 3 + x.m.next.length := by
 unfold mV
 rw [List.take_add_one, aBI (f := (·.m)) h]
 simp [List.flatMap_append, hX]; omega
theorem aAA {n : Int} : ∀ (l : List Int) (y : Int), eT n (some y) l = true → (l.length : Int) ≤ max 0 (n - 1 - y)
 | [], y, _ => by simp; omega
 | x :: r, y, h => by
   simp only [eT, Bool.and_eq_true, decide_eq_true_eq] at h
   have h1 := eD.1 h.1.1
   have h2 := aAA r x h.2
   simp only [List.length_cons]; omega
theorem uC {n : Int} {l : List Int} (h : fQ l n = true) : (l.length : Int) ≤ max 0 n := by
 unfold fQ at h
 cases l with
 | nil => simp; omega
 | cons x r =>
   simp only [eT, Bool.and_eq_true] at h
   have h1 := eD.1 h.1
   have h2 := aAA r x h.2
   simp only [List.length_cons]; omega
theorem aBj {f : Mode → List Int} {b : Nat} : ∀ (l : List Mode), (∀ x ∈ l, (f x).length ≤ b) → (l.flatMap f).length ≤ b * l.length
 | [], _ => by simp
 | x :: r, h => by
   have h1 := h x (by simp)
   have h2 := aBj r (fun y hy => h y (by simp [hy]))
   rw [List.flatMap_cons, List.length_append, List.length_cons, Nat.mul_succ]; omega
theorem aC6 (A : Option Addr) (B B2 c : Nat) (xs : List ModeI) (w : World) (hs : Sl B w A (xs.flatMap ModeI.cells)) (hn : Nexts B2 w xs) (hl : xs.length ≤ 1048576) (hz : ∀ x ∈ xs, x.m.next.length ≤ 1048576) :
   Calls Tryz.prog 156 #[.slice A xs.length c] w (fD fun v w' => ∃ A' c', v = .slice A' (mV (xs.map (·.m)) xs.length).length c' ∧ Own w' w.heap.size 2 1 A' (mV (xs.map (·.m)) xs.length).length c' ((mV (xs.map (·.m)) xs.length).flatMap eI) ∧ Ext w w') := by
 have Bhs := hs.1
 have Bhn := hn.1
 have X := Q7r w
 refine bI (args := [.slice A xs.length c]) Tryz.func156 Tryz.ntmps156 rfl rfl ?_
 refine aE ?_
 refine aA rfl (aD rfl ?_)
 refine aB ?_
 refine aE ?_
 refine aA rfl (aC rfl ?_)
 refine aA rfl (cQ Tryz.underlying25 rfl ?_)
 refine aA rfl (aN dA cY rfl rfl rfl rfl rfl ?_)
 intro gO w2 egO oO bbgO x1 zgO
 replace oO := Own.low oO X.size
 replace hs := hs.ext x1
 replace hn := hn.ext x1
 replace X := Q7x X x1
 replace oO := oO.to (cs' := (mV (xs.map (·.m)) 0).flatMap eI) (by simp [mV, eI, uV])
 refine aA rfl (aD rfl ?_)
 refine aB ?_
 refine aQ ?_
 refine aE ?_
 refine aA rfl (aD rfl ?_)
 refine aB ?_
 refine aW ?_
 refine dD (G := Nat × Nat × Option Addr × Nat) (fun ⟨k, n1, A1, c1⟩ => [(0, .slice A xs.length c), (2, .slice none 0 0), (3, .slice A1 n1 c1), (4, .int .i64 (k : Nat))]) (fun ⟨k, n1, A1, c1⟩ wr => k ≤ xs.length ∧ n1 = (mV (xs.map (·.m)) k).length ∧ n1 ≤ 1 + 1048579 * k ∧ Own wr w.heap.size 2 1 A1 n1 c1 ((mV (xs.map (·.m)) k).flatMap eI) ∧ Sl B wr A (xs.flatMap ModeI.cells) ∧ Nexts B2 wr xs ∧ Ext w wr) (fun ⟨k, n1, A1, c1⟩ => xs.length - k) (0, 1, some ⟨gO, 0, none⟩, 1) (.cons rfl (.cons rfl (.cons rfl (.cons rfl (.nil _))))) ?_ ?_
 · exact ⟨by omega, rfl, by omega, oO, hs, hn, X⟩
 clear hs hn oO
 clear X
 rintro ⟨k, n1, A1, c1⟩ wr ⟨hk0, hn1, hb, oO, hs, hn, X⟩
 refine aQ ?_
 refine aE ?_
 refine aA rfl (aC rfl ?_)
 refine aA rfl (aC rfl ?_)
 refine aA rfl (cQ Tryz.underlying25 rfl ?_)
 refine aA rfl (cH rfl rfl (fun hk => ?_) (fun hk => ?_))
 obtain ⟨x, hx, dx⟩ := dM hk
 refine aB ?_
 refine aR rfl ?_
 refine aU ?_
 refine aP ?_
 refine aQ ?_
 refine aW ?_
 refine eO [false, false, false, false, false, false, false, false, false, false, false, false, false, false, false, false, false, true] mixed (by kernel_rfl) ?_
 refine cE rfl (fun wq sq => aC rfl ⟨rfl, Q7r _⟩) ?_
 refine cE rfl (fun wq sq => aC rfl ⟨rfl, Q7r _⟩) ?_
 refine cE rfl (fun wq sq => aC rfl ⟨rfl, Q7r _⟩) ?_
 refine cE rfl (fun wq sq => aT (hs.ext sq) ModeI.len rfl iA rfl rfl rfl hx rfl ⟨rfl, Q7r _⟩) ?_
 have hnx := hn.at_ hx
 have hlx := hz x (List.mem_of_getElem? hx)
 refine cE rfl (fun wq sq => bK iS rfl ⟨rfl, Q7r _⟩) ?_
 refine cE rfl (fun wq sq => dQ (hs.ext sq) ModeI.len hx cY rfl rfl rfl ⟨rfl, Q7r _⟩) ?_
 refine cE rfl (fun wq sq => aC rfl ⟨rfl, Q7r _⟩) ?_
 refine cE rfl (fun wq sq => aC rfl ⟨rfl, Q7r _⟩) ?_
 refine cE rfl (fun wq sq => aT (hs.ext sq) ModeI.len rfl iA rfl rfl rfl hx rfl ⟨rfl, Q7r _⟩) ?_
 refine cE rfl (fun wq sq => bK fU rfl ⟨rfl, Q7r _⟩) ?_
 refine cE rfl (fun wq sq => dQ (hs.ext sq) ModeI.len hx cY rfl rfl rfl ⟨rfl, Q7r _⟩) ?_
 refine cE rfl (fun wq sq => aC rfl ⟨rfl, Q7r _⟩) ?_
 refine cE rfl (fun wq sq => aC rfl ⟨rfl, Q7r _⟩) ?_
 refine cE rfl (fun wq sq => aT (hs.ext sq) ModeI.len rfl iA rfl rfl rfl hx rfl ⟨rfl, Q7r _⟩) ?_
 refine cE rfl (fun wq sq => bK jD rfl ⟨rfl, Q7r _⟩) ?_
 refine cE rfl (fun wq sq => dQ (hs.ext sq) ModeI.len hx kQ rfl rfl rfl ⟨rfl, Q7r _⟩) ?_
 refine cE rfl (fun wq sq => cQ Tryz.underlying30 rfl ⟨rfl, Q7r _⟩) ?_
 refine aBe (fun gS : Nat => Value.slice (some ⟨gS, 0, none⟩) 3 3) (fun gS wz => Own wz w.heap.size 2 1 (some ⟨gS, 0, none⟩) 3 3 (eI x.m.rounds ++ eI x.m.slots ++ eI (x.m.next.length : Nat))) 0 rfl ⟨lT, fun _ _ _ h k => h.ext k, fun wq sq => aN dA cY rfl rfl rfl rfl rfl (fun g w' hg ho hb hx hz => ⟨g, rfl, Own.low ho (Q7l X.size (sq).size), hx⟩)⟩ ?_
 intro gS
 refine dW (fun w3 sq => ?_)
 have xq := sq.1
 have oS := sq.2
 replace oO := oO.ext xq
 replace hs := hs.ext xq
 replace hn := hn.ext xq
 replace hnx := hnx.ext xq
 replace X := Q7x X xq; clear xq sq
 refine aA rfl (cF (ts := #[]) oO X.size oS.sl (by first | rfl | simp) (by first | exact List.all_eq_true.1 rfl | simp [Value.oneCell']) dA cY rfl rfl rfl rfl (by omega) (by omega) ?_)
 intro AoM coM w5 oM hg4
 replace hs := hs.grown hg4 (fun g hg => Q7l Bhs (Own.lt oO hg).1)
 replace hn := hn.grown hg4 (fun g hg => Q7l Bhn (Own.lt oO hg).1)
 replace hnx := hnx.grown hg4 (fun g hg => Q7l Bhn (Own.lt oO hg).1)
 replace X := X.grown hg4 X.size (fun g hg => (Own.lt oO hg).1)
 clear hg4
 refine aA rfl (aD rfl ?_)
 refine aB ?_
 refine aM ?_
 refine aA rfl (aC rfl ?_)
 refine aA rfl (aC rfl ?_)
 refine aA rfl (aC rfl ?_)
 refine aA rfl (aT hs ModeI.len rfl iA rfl rfl rfl hx rfl ?_)
 refine aA rfl (bK jD rfl ?_)
 refine aA rfl (dQ hs ModeI.len hx kQ rfl rfl rfl ?_)
 refine aA rfl (cF (ts := #[]) oM X.size hnx (fB bL _) (aFA _) dA cY rfl rfl rfl rfl (by omega) (by omega) ?_)
 intro AoN coN w7 oN hg6
 replace hs := hs.grown hg6 (fun g hg => Q7l Bhs (Own.lt oM hg).1)
 replace hn := hn.grown hg6 (fun g hg => Q7l Bhn (Own.lt oM hg).1)
 replace hnx := hnx.grown hg6 (fun g hg => Q7l Bhn (Own.lt oM hg).1)
 replace X := X.grown hg6 X.size (fun g hg => (Own.lt oM hg).1)
 clear hg6
 refine aA rfl (aD rfl ?_)
 refine aB ?_
 refine dJ ?_
 refine aP ?_
 refine aM ?_
 refine aA rfl (aC rfl ?_)
 refine aA rfl (aZ rfl rfl (dR (by omega)) ?_)
 refine aA rfl (aD rfl ?_)
 refine aB ?_
 refine aP ⟨(k + 1, n1 + 3 + x.m.next.length, AoN, coN), (.cons rfl (.cons rfl (.cons rfl (.cons rfl (.nil _))))), ?_, ?_⟩
 · exact ⟨by omega, (by rw [aD5 hx]; omega), by omega, oN.to (aB2 hx).symm, hs, hn, X⟩
 · first | omega | (dsimp only; omega)
 refine aB ?_
 refine aL rfl ?_
 refine dC ?_
 refine dB ?_
 refine dB ?_
 refine eA ?_
 refine aP ?_
 refine aE ?_
 refine aA rfl (aC rfl ?_)
 refine aA rfl (aD rfl ?_)
 refine aB ?_
 refine aV ?_
 refine aK rfl rfl ?_
 · skip
   rw [show k = xs.length by omega] at oO hn1
   rw [← hn1]
   exact ⟨_, _, rfl, oO, X⟩
theorem vK (A : Option Addr) (B B2 c : Nat) (xs : List ModeI) (w : World) (hs : Sl B w A (xs.flatMap ModeI.cells)) (hn : Nexts B2 w xs) (hl : xs.length ≤ 1048576) (hz : ∀ x ∈ xs, x.m.next.length ≤ 1048576) :
   Calls Tryz.prog 149 #[.slice A xs.length c] w (fD fun v w' => ∃ A' c', v = .slice A' (mV (xs.map (·.m)) xs.length).length c' ∧ Own w' w.heap.size 2 1 A' (mV (xs.map (·.m)) xs.length).length c' ((mV (xs.map (·.m)) xs.length).flatMap eI) ∧ Ext w w') := by
 have Bhs := hs.1
 have Bhn := hn.1
 have X := Q7r w
 refine bI (args := [.slice A xs.length c]) Tryz.func149 Tryz.ntmps149 rfl rfl ?_
 refine aE ?_
 refine aA rfl (aD rfl ?_)
 refine aB ?_
 refine aE ?_
 refine aA rfl (aC rfl ?_)
 refine aA rfl (cQ Tryz.underlying25 rfl ?_)
 refine aA rfl (aN dA cY rfl rfl rfl rfl rfl ?_)
 intro gO w2 egO oO bbgO x1 zgO
 replace oO := Own.low oO X.size
 replace hs := hs.ext x1
 replace hn := hn.ext x1
 replace X := Q7x X x1
 replace oO := oO.to (cs' := (mV (xs.map (·.m)) 0).flatMap eI) (by simp [mV, eI, uV])
 refine aA rfl (aD rfl ?_)
 refine aB ?_
 refine aQ ?_
 refine aE ?_
 refine aA rfl (aC rfl ?_)
 refine aA rfl (cQ Tryz.underlying25 rfl ?_)
 refine aA rfl (aC rfl ?_)
 refine aB ?_
 refine aW ?_
 refine dD (G := Nat × Nat × Option Addr × Nat) (fun ⟨k, n1, A1, c1⟩ => [(2, .slice none 0 0), (9, .slice A xs.length c), (10, .int .i64 (xs.length : Nat)), (3, .slice A1 n1 c1), (11, .int .i64 (k : Nat))]) (fun ⟨k, n1, A1, c1⟩ wr => k ≤ xs.length ∧ n1 = (mV (xs.map (·.m)) k).length ∧ n1 ≤ 1 + 1048579 * k ∧ Own wr w.heap.size 2 1 A1 n1 c1 ((mV (xs.map (·.m)) k).flatMap eI) ∧ Sl B wr A (xs.flatMap ModeI.cells) ∧ Nexts B2 wr xs ∧ Ext w wr) (fun ⟨k, n1, A1, c1⟩ => xs.length - k) (0, 1, some ⟨gO, 0, none⟩, 1) (.cons rfl (.cons rfl (.cons rfl (.cons rfl (.cons rfl (.nil _)))))) ?_ ?_
 · exact ⟨by omega, rfl, by omega, oO, hs, hn, X⟩
 clear hs hn oO
 clear X
 rintro ⟨k, n1, A1, c1⟩ wr ⟨hk0, hn1, hb, oO, hs, hn, X⟩
 refine aE ?_
 refine aA rfl (cH rfl rfl (fun hk => ?_) (fun hk => ?_))
 obtain ⟨x, hx, dx⟩ := dM hk
 refine aB ?_
 refine aQ ?_
 refine aR rfl ?_
 refine aU ?_
 refine aP ?_
 refine aQ ?_
 refine aW ?_
 refine aE ?_
 refine aA rfl (aT hs ModeI.len rfl iA rfl rfl rfl hx rfl ?_)
 have hnx := hn.at_ hx
 have hlx := hz x (List.mem_of_getElem? hx)
 refine aA rfl (dY hs ModeI.len hx hH rfl ?_)
 refine aA rfl (dO hH ?_)
 intro gX w4 egX bX x3 zgX
 have lgX : w.heap.size ≤ gX := Q7l X.size (Q7e egX.symm)
 have pgXhs := Q7l hs.1 (Q7e egX.symm)
 have pgXhn := Q7l hn.1 (Q7e egX.symm)
 have pgXhnx := Q7l hnx.1 (Q7e egX.symm)
 replace oO := oO.ext x3
 replace hs := hs.ext x3
 replace hn := hn.ext x3
 replace hnx := hnx.ext x3
 replace X := Q7x X x3
 refine aA rfl (aX bX hH rfl rfl rfl rfl rfl rfl ?_)
 intro w6 bY hg5 z7
 replace oO := oO.grownBlk hg5 (Own.neT oO bX (by decide))
 replace hs := hs.grown hg5 (by intro g hg; injection hg; omega)
 replace hn := hn.grown hg5 (by intro g hg; injection hg; omega)
 replace hnx := hnx.grown hg5 (by intro g hg; injection hg; omega)
 replace X := X.grown hg5 X.size (by intro g hg; injection hg; omega)
 clear hg5 bX
 refine aB ?_
 refine aBH (fun wz => Blk wz gX 92 x.cells) mixed ?_
 obtain ⟨w9, ew9⟩ : ∃ wy, wy = World.drew w6 := ⟨_, rfl⟩
 rw [← ew9]
 have xd : Ext w6 w9 := ew9 ▸ Ext.drew w6
 replace oO := oO.ext xd
 replace hs := hs.ext xd
 replace hn := hn.ext xd
 replace hnx := hnx.ext xd
 replace bY := bY.ext xd
 replace X := Q7x X xd; clear xd ew9
 refine dI 0 rfl (by kernel_rfl) rfl (by kernel_rfl) (listed' := #[true, false, false, false, false, false, false, false, false, false, false, false, false, false]) rfl (fun wq sq => aC rfl ⟨rfl, rfl⟩) ?_
 refine dI 1 rfl (by kernel_rfl) rfl (by kernel_rfl) (listed' := #[true, true, false, false, false, false, false, false, false, false, false, false, false, false]) rfl (fun wq sq => aF iS rfl rfl ⟨rfl, rfl⟩) ?_
 refine dI 2 rfl (by kernel_rfl) rfl (by kernel_rfl) (listed' := #[true, true, true, false, false, false, false, false, false, false, false, false, false, false]) rfl (fun wq sq => aI sq cY rfl rfl ⟨rfl, rfl⟩) ?_
 refine dI 3 rfl (by kernel_rfl) rfl (by kernel_rfl) (listed' := #[true, true, true, true, false, false, false, false, false, false, false, false, false, false]) rfl (fun wq sq => aF fU rfl rfl ⟨rfl, rfl⟩) ?_
 refine dI 4 rfl (by kernel_rfl) rfl (by kernel_rfl) (listed' := #[true, true, true, true, true, false, false, false, false, false, false, false, false, false]) rfl (fun wq sq => aI sq cY rfl rfl ⟨rfl, rfl⟩) ?_
 refine dI 5 rfl (by kernel_rfl) rfl (by kernel_rfl) (listed' := #[true, true, true, true, true, true, false, false, false, false, false, false, false, false]) rfl (fun wq sq => aF jD rfl rfl ⟨rfl, rfl⟩) ?_
 refine dI 6 rfl (by kernel_rfl) rfl (by kernel_rfl) (listed' := #[true, true, true, true, true, true, true, false, false, false, false, false, false, false]) rfl (fun wq sq => aI sq kQ rfl rfl ⟨rfl, rfl⟩) ?_
 refine dI 7 rfl (by kernel_rfl) rfl (by kernel_rfl) (listed' := #[true, true, true, true, true, true, true, true, false, false, false, false, false, false]) rfl (fun wq sq => cQ Tryz.underlying30 rfl ⟨rfl, rfl⟩) ?_
 refine dI 10 rfl (by kernel_rfl) rfl (by kernel_rfl) (listed' := #[true, true, true, true, true, true, true, true, false, false, true, false, false, false]) rfl (fun wq sq => aF jD rfl rfl ⟨rfl, rfl⟩) ?_
 refine dI 11 rfl (by kernel_rfl) rfl (by kernel_rfl) (listed' := #[true, true, true, true, true, true, true, true, false, false, true, true, false, false]) rfl (fun wq sq => aI sq kQ rfl rfl ⟨rfl, rfl⟩) ?_
 refine fM 8 rfl rfl (by kernel_rfl) (listed' := #[true, true, true, true, true, true, true, true, true, false, true, true, false, false]) rfl bY (aN dA cY rfl rfl rfl rfl rfl ?_)
 intro gS w11 egS oS bbgS x10 zgS
 replace oS := Own.low oS X.size
 replace oO := oO.ext x10
 replace hs := hs.ext x10
 replace hn := hn.ext x10
 replace hnx := hnx.ext x10
 replace bY := bY.ext x10
 replace X := Q7x X x10
 refine fM 9 rfl rfl (by kernel_rfl) (listed' := #[true, true, true, true, true, true, true, true, true, true, true, true, false, false]) rfl bY (cF (ts := #[]) oO X.size oS.sl (by first | rfl | simp) (by first | exact List.all_eq_true.1 rfl | simp [Value.oneCell']) dA cY rfl rfl rfl rfl (by omega) (by omega) ?_)
 intro AoM coM w13 oM hg12
 replace hs := hs.grown hg12 (fun g hg => Q7l Bhs (Own.lt oO hg).1)
 replace hn := hn.grown hg12 (fun g hg => Q7l Bhn (Own.lt oO hg).1)
 replace hnx := hnx.grown hg12 (fun g hg => Q7l Bhn (Own.lt oO hg).1)
 replace bY := bY.grown hg12 (fun h => Own.neT oO bY (by decide) h.symm)
 replace X := X.grown hg12 X.size (fun g hg => (Own.lt oO hg).1)
 clear hg12
 refine fM 12 rfl rfl (by kernel_rfl) (listed' := #[true, true, true, true, true, true, true, true, true, true, true, true, true, false]) rfl bY (cF (ts := #[]) oM X.size hnx (fB bL _) (aFA _) dA cY rfl rfl rfl rfl (by omega) (by omega) ?_)
 intro AoN coN w15 oN hg14
 replace hs := hs.grown hg14 (fun g hg => Q7l Bhs (Own.lt oM hg).1)
 replace hn := hn.grown hg14 (fun g hg => Q7l Bhn (Own.lt oM hg).1)
 replace hnx := hnx.grown hg14 (fun g hg => Q7l Bhn (Own.lt oM hg).1)
 replace bY := bY.grown hg14 (fun h => Own.neT oM bY (by decide) h.symm)
 replace X := X.grown hg14 X.size (fun g hg => (Own.lt oM hg).1)
 clear hg14
 refine dI 13 rfl (by kernel_rfl) rfl (by kernel_rfl) (listed' := #[true, true, true, true, true, true, true, true, true, true, true, true, true, true]) rfl (fun wq sq => aD rfl ⟨rfl, rfl⟩) ?_
 refine kA rfl bY (fun aj fj => ⟨_, fj, ?_⟩)
 refine dJ ?_
 refine aP ?_
 refine aM ?_
 refine aA rfl (aZ rfl rfl (dR (by omega)) ?_)
 refine aA rfl (aC rfl ?_)
 refine aB ?_
 refine aP ⟨(k + 1, n1 + 3 + x.m.next.length, AoN, coN), (.cons rfl (.cons rfl (.cons rfl (.cons rfl (.cons rfl (.nil _)))))), ?_, ?_⟩
 · exact ⟨by omega, (by rw [aD5 hx]; omega), by omega, oN.to (aB2 hx).symm, hs, hn, X⟩
 · first | omega | (dsimp only; omega)
 refine aB ?_
 refine aQ ?_
 refine aL rfl ?_
 refine dC ?_
 refine dB ?_
 refine dB ?_
 refine eA ?_
 refine aP ?_
 refine aE ?_
 refine aA rfl (aC rfl ?_)
 refine aA rfl (aD rfl ?_)
 refine aB ?_
 refine aV ?_
 refine aK rfl rfl ?_
 · skip
   rw [show k = xs.length by omega] at oO hn1
   rw [← hn1]
   exact ⟨_, _, rfl, oO, X⟩
def nE (x : NodeI) : List Int := x.name.data.toList.map fun b => (b.toNat : Int)
def nF (x : NodeI) : List Int := [x.id, x.drift / 256, x.drift % 256, if x.passive = true then 1 else 0, (x.name.size : Int)]
def gW (x : NodeI) : List Int := nF x ++ nE x
def ntP (xs : List NodeI) (k : Nat) : List Int := (xs.length : Int) :: (xs.take k).flatMap gW
theorem kL (x : NodeI) : (nE x).length = x.name.size := by simp [nE]
theorem pN {x : NodeI} {j : Nat} (h : j < x.name.size) : (nE x)[j]? = some ((x.name.data.toList.getD ((j : Int)).toNat 0).toNat : Int) := by
 have hj : j < x.name.data.toList.length := by simpa using h
 rw [nE, List.getElem?_map, List.getD_eq_getElem?_getD, Int.toNat_natCast, List.getElem?_eq_getElem hj]; rfl
theorem pO {xs : List NodeI} {k : Nat} {x : NodeI} (h : xs[k]? = some x) : ntP xs (k + 1) = ntP xs k ++ nF x ++ nE x := by
 unfold ntP
 rw [List.take_add_one, h]
 simp [List.flatMap_append, gW]
theorem nO {L : List Int} {j : Nat} {v : Int} (h : L[j]? = some v) : L.take (j + 1) = L.take j ++ [v] := by rw [List.take_add_one, h]; rfl
def mW (xs : List NodeI) : List Int := ntP xs xs.length
theorem vL : ∀ (l : List NodeI), (∀ x ∈ l, x.name.size ≤ 6) → (l.flatMap gW).length ≤ 11 * l.length
 | [], _ => by simp
 | x :: r, h => by
   have h1 := h x (by simp)
   have h2 := vL r fun y hy => h y (by simp [hy])
   rw [List.flatMap_cons, List.length_append, List.length_cons, gW, List.length_append, kL]
   simp only [nF, List.length_cons, List.length_nil]; omega
theorem lL {x : NodeI} (h : eL x = true) : x.name.size ≤ 6 := by
 have h1 := (mN h).2.2
 simp only [eJ, Bool.and_eq_true, decide_eq_true_eq] at h1
 exact h1.2
theorem aC7 {xs : List NodeI} (h : dV xs = true) : (mW xs).length ≤ 353 := by
 have h1 := sJ h
 have h2 := vL xs fun x hx => lL (kX h x hx)
 unfold mW ntP
 rw [List.take_length, List.length_cons]
 omega
theorem aC8 {ms : List Mode} (h : jH ms = true) : (mV ms ms.length).length ≤ 305 := by
 have hl := qD h
 have hf := aBj (f := hX) (b := 19) ms fun x hx => by
   obtain ⟨k, hk⟩ := List.mem_iff_getElem?.1 hx
   obtain ⟨h1, h2, h3⟩ := tE (yC h hk)
   have h4 := uC h3
   simp [hX]; omega
 have hf2 : 19 * ms.length ≤ 19 * 16 := Nat.mul_le_mul_left _ hl.2
 unfold mV
 rw [List.take_length, List.length_cons]; omega
def idB (z : Int) : List Int := [z / 65536, z / 256 % 256, z % 256]
def fR (d : MedlD) : List Int := idB d.id ++ mW d.ns ++ mV d.ms d.ms.length ++ vI d.ss
def lG (d : MedlD) : List Int × Int := if iY d = true then (fR d, 0) else ([], 1)
theorem aD6 {d : MedlD} (h : iY d = true) : (fR d).length ≤ 1502 := by
 have wf := kK.1 h
 have h1 := aC7 wf.nt
 have h2 := aC8 wf.mt
 have h3 : (vI d.ss).length = 1 + 7 * d.ss.length := uS (Nat.le_refl _)
 have h4 := mT wf.st
 unfold fR
 rw [List.length_append, List.length_append, List.length_append]
 simp only [idB, List.length_cons, List.length_nil]; omega
theorem aB3 (m : MedlI) : (lG m.d).1.length ≤ 1048576 := by
 unfold lG
 split
 · rename_i h; have := aD6 h; simp only; omega
 · simp
theorem aFB {z : Int} (h : 0 ≤ z ∧ z ≤ 1099511627776) : kW .and .i64 z 255 = z % 256 := by
 obtain ⟨n, rfl⟩ : ∃ n : Nat, z = (n : Int) := ⟨z.toNat, by omega⟩
 have h1 := sG (a := n) (b := 255) (by omega) (by omega)
 rw [show ((255 : Nat) : Int) = 255 from rfl] at h1
 rw [h1, show n &&& 255 = n % 256 from Nat.and_two_pow_sub_one_eq_mod n 8]; omega
theorem aJ0 {z : Int} (h : 0 ≤ z) : z.fdiv (2 ^ (min ((16 : Int).toNat) IntKind.i64.bits)) = z / 65536 := by
 show z.fdiv 65536 = _
 rw [Int.fdiv_eq_ediv_of_nonneg _ (by omega)]
theorem aKH {z : Int} (h : 0 ≤ z) : z.fdiv (2 ^ (min ((8 : Int).toNat) IntKind.i64.bits)) = z / 256 := by
 show z.fdiv 256 = _
 rw [Int.fdiv_eq_ediv_of_nonneg _ (by omega)]
def pP (x : ModeI) : List Value := [.slice x.A x.m.next.length x.c]
theorem iP (x : ModeI) : (pP x).length = 1 := rfl
def qL (rs : List ModeI) : List Int := rs.flatMap fun x => x.m.next
def kS (A : Option Addr) (c : Nat) (xs : List Int) : ModeI := ⟨⟨0, 0, xs⟩, A, c⟩
theorem pQ {rs : List ModeI} {k : Nat} {x : ModeI} (h : rs[k]? = some x) : qL (rs.take (k + 1)) = qL (rs.take k) ++ x.m.next := by
 unfold qL
 rw [List.take_add_one, h]; simp [List.flatMap_append]
theorem aHd (rs : List ModeI) (k : Nat) : (qL (rs.take k)).length ≤ (qL rs).length := by
 have e : qL rs = qL (rs.take k) ++ qL (rs.drop k) := by unfold qL; rw [← List.flatMap_append, List.take_append_drop]
 rw [e, List.length_append]; omega
def uT (A : Option Addr) (c : Nat) (xs : List Int) (a : Nat) (bad : Bool) : List Value := [.slice A xs.length c, .int .i64 (a : Nat), .bool bad]
def gU (xs : List Int) (a : Nat) : Nat := if a = xs.length then a else a + 1
def eU (xs : List Int) (a : Nat) (bad : Bool) : Bool := if a = xs.length then true else bad
def nV (xs : List Int) (a : Nat) : Int := if a = xs.length then 0 else xs.getD a 0
theorem fG {xs : List Int} {a : Nat} (h : a ≤ xs.length) : gU xs a ≤ xs.length := by unfold gU; split <;> omega
theorem nU {xs : List Int} (hb : rL xs = true) (a : Nat) : 0 ≤ nV xs a ∧ nV xs a ≤ 255 := by
 unfold nV
 split
 · omega
 · rw [List.getD_eq_getElem?_getD]
   cases h : xs[a]? with
   | none => simp
   | some x => exact uO hb h
def iH (xs : List Int) : Nat → Nat → Bool → List Int × Nat × Bool
 | 0, a, bad => ([], a, bad)
 | _ + 1, a, true => ([], a, true)
 | n + 1, a, false => (nV xs a :: (iH xs n (gU xs a) (eU xs a false)).1, (iH xs n (gU xs a) (eU xs a false)).2)
theorem vM (xs : List Int) : ∀ (n a : Nat) (bad : Bool), (iH xs n a bad).1.length ≤ n
 | 0, a, bad => by simp [iH]
 | n + 1, a, true => by simp [iH]
 | n + 1, a, false => by
   have := vM xs n (gU xs a) (eU xs a false)
   simp only [iH, List.length_cons]; omega
theorem yO (xs : List Int) : ∀ (n a : Nat) (bad : Bool), a ≤ xs.length → (iH xs n a bad).2.1 ≤ xs.length
 | 0, a, bad, h => h
 | n + 1, a, true, h => h
 | n + 1, a, false, h => yO xs n _ _ (fG h)
theorem pR (xs : List Int) : ∀ (n a : Nat), (iH xs n a true).2.2 = true
 | 0, _ => rfl
 | _ + 1, _ => rfl
theorem qM (xs : List Int) : ∀ (n a : Nat), a + n ≤ xs.length → iH xs n a false = ((xs.drop a).take n, a + n, false)
 | 0, a, h => by simp [iH]
 | n + 1, a, h => by
   have ha : a < xs.length := by omega
   have e1 : gU xs a = a + 1 := by unfold gU; rw [if_neg (by omega)]
   have e2 : eU xs a false = false := by unfold eU; rw [if_neg (by omega)]
   have e3 : nV xs a = xs[a] := by unfold nV; rw [if_neg (by omega), List.getD_eq_getElem?_getD, List.getElem?_eq_getElem ha]; rfl
   simp only [iH, e1, e2, e3, qM xs n (a + 1) (by omega)]
   rw [List.drop_eq_getElem_cons ha, List.take_succ_cons]
   congr 2; omega
theorem pJ (xs : List Int) : ∀ (n a : Nat), a ≤ xs.length → xs.length < a + n → (iH xs n a false).2.2 = true
 | 0, a, h, h2 => by omega
 | n + 1, a, h, h2 => by
   simp only [iH]
   by_cases e : a = xs.length
   · have e2 : eU xs a false = true := by unfold eU; rw [if_pos e]
     rw [e2]; exact pR xs n _
   · have e1 : gU xs a = a + 1 := by unfold gU; rw [if_neg e]
     have e2 : eU xs a false = false := by unfold eU; rw [if_neg e]
     rw [e1, e2]; exact pJ xs n (a + 1) (by omega) (by omega)
theorem mZ {xs : List Int} {a : Nat} (h : a < xs.length) (bad : Bool) : gU xs a = a + 1 ∧ eU xs a bad = bad ∧ nV xs a = xs.getD a 0 := by
 unfold gU eU nV
 rw [if_neg (by omega), if_neg (by omega), if_neg (by omega)]
 exact ⟨rfl, rfl, rfl⟩
theorem iB (xs : List Int) (a : Nat) : eU xs a true = true := by unfold eU; split <;> rfl
def mF (xs : List Int) : Nat → Nat → Option (List Mode × Nat)
 | 0, a => some ([], a)
 | n + 1, a => if a + 3 ≤ xs.length ∧ a + 3 + (xs.getD (a + 2) 0).toNat ≤ xs.length then
     (mF xs n (a + 3 + (xs.getD (a + 2) 0).toNat)).map fun r => (⟨xs.getD a 0, xs.getD (a + 1) 0, (xs.drop (a + 3)).take (xs.getD (a + 2) 0).toNat⟩ :: r.1, r.2)
   else none
theorem aC9 {xs : List Int} {a : Nat} (h : a + 3 ≤ xs.length ∧ a + 3 + (xs.getD (a + 2) 0).toNat ≤ xs.length) :
   nV xs a = xs.getD a 0 ∧ nV xs (gU xs a) = xs.getD (a + 1) 0 ∧ nV xs (gU xs (gU xs a)) = xs.getD (a + 2) 0 ∧ gU xs (gU xs (gU xs a)) = a + 3 ∧ eU xs (gU xs (gU xs a)) (eU xs (gU xs a) (eU xs a false)) = false := by
 obtain ⟨h1, h2, h3⟩ := mZ (show a < xs.length by omega) false
 rw [h1]
 obtain ⟨h4, h5, h6⟩ := mZ (show a + 1 < xs.length by omega) (eU xs a false)
 rw [h4]
 obtain ⟨h7, h8, h9⟩ := mZ (show a + 1 + 1 < xs.length by omega) (eU xs (a + 1) (eU xs a false))
 exact ⟨h3, h6, h9, h7, by rw [h8, h5, h2]⟩
theorem aB4 {xs : List Int} {a : Nat} (ha : a ≤ xs.length) (h : xs.length < a + 3) : eU xs (gU xs (gU xs a)) (eU xs (gU xs a) (eU xs a false)) = true := by
 by_cases e0 : a = xs.length
 · have e1 : eU xs a false = true := by unfold eU; rw [if_pos e0]
   rw [e1, iB, iB]
 · obtain ⟨h1, h2, h3⟩ := mZ (show a < xs.length by omega) false
   rw [h1]
   by_cases e1 : a + 1 = xs.length
   · have e2 : eU xs (a + 1) (eU xs a false) = true := by unfold eU; rw [if_pos e1]
     rw [e2, iB]
   · obtain ⟨h4, h5, h6⟩ := mZ (show a + 1 < xs.length by omega) (eU xs a false)
     rw [h4]
     unfold eU; rw [if_pos (by omega)]
theorem aD7 (xs : List Int) : ∀ (n a : Nat) (r : List Mode × Nat), mF xs n a = some r → a ≤ xs.length → r.2 ≤ xs.length ∧ r.1.length = n
 | 0, a, r, h, ha => by simp [mF] at h; subst h; exact ⟨ha, rfl⟩
 | n + 1, a, r, h, ha => by
   rw [mF] at h
   split at h
   · rename_i h1
     cases h2 : mF xs n (a + 3 + (xs.getD (a + 2) 0).toNat) with
     | none => rw [h2] at h; simp at h
     | some q =>
       rw [h2] at h
       simp only [Option.map_some, Option.some.injEq] at h
       obtain ⟨h3, h4⟩ := aD7 xs n _ q h2 h1.2
       rw [← h]
       exact ⟨h3, by simp [h4]⟩
   · cases h
theorem yP (xs : List Int) (n a : Nat) {b : Bool} (h : n = 0 ∨ b = true) : iH xs n a b = ([], a, b) := by
 rcases h with h | h
 · subst h; rfl
 · subst h; cases n <;> rfl
theorem aDa (xs : List Int) {n a : Nat} {b : Bool} (h : 0 < n) (hb : b = false) : iH xs n a b = (nV xs a :: (iH xs (n - 1) (gU xs a) (eU xs a b)).1, (iH xs (n - 1) (gU xs a) (eU xs a b)).2) := by
 subst hb
 obtain ⟨m, rfl⟩ : ∃ m, n = m + 1 := ⟨n - 1, by omega⟩
 rfl
def pH (xs : List Int) (a : Nat) : List Int × Nat × Bool := iH xs (nV xs (gU xs (gU xs a))).toNat (gU xs (gU xs (gU xs a))) (eU xs (gU xs (gU xs a)) (eU xs (gU xs a) (eU xs a false)))
theorem aDb {xs : List Int} {a rem : Nat} (ha : a ≤ xs.length) :
   ((pH xs a).2.2 = false → mF xs (rem + 1) a = (mF xs rem (pH xs a).2.1).map fun r => (⟨nV xs a, nV xs (gU xs a), (pH xs a).1⟩ :: r.1, r.2)) ∧ ((pH xs a).2.2 = true → mF xs (rem + 1) a = none) := by
 by_cases hg : a + 3 ≤ xs.length ∧ a + 3 + (xs.getD (a + 2) 0).toNat ≤ xs.length
 · obtain ⟨h1, h2, h3, h4, h5⟩ := aC9 hg
   have e : pH xs a = ((xs.drop (a + 3)).take (xs.getD (a + 2) 0).toNat, a + 3 + (xs.getD (a + 2) 0).toNat, false) := by
     unfold pH; rw [h3, h4, h5, qM xs _ _ hg.2]
   rw [e, h1, h2]
   refine ⟨fun _ => ?_, fun h => by cases h⟩
   rw [mF, if_pos hg]
 · have e : mF xs (rem + 1) a = none := by rw [mF, if_neg hg]
   rw [e]
   refine ⟨fun h => ?_, fun _ => rfl⟩
   exfalso
   have hb : (pH xs a).2.2 = true := by
     unfold pH
     by_cases h3 : a + 3 ≤ xs.length
     · obtain ⟨h1, h2, h4⟩ := mZ (show a < xs.length by omega) false
       obtain ⟨h5, h6, h7⟩ := mZ (show a + 1 < xs.length by omega) false
       obtain ⟨h8, h9, h10⟩ := mZ (show a + 1 + 1 < xs.length by omega) false
       simp only [h1, h2, h5, h6, h8, h9, h10]
       exact pJ xs _ _ (by omega) (by rw [show a + 1 + 1 = a + 2 from rfl]; omega)
     · rw [aB4 ha (by omega)]; exact pR xs _ _
   rw [hb] at h; cases h
theorem aBk {xs : List Int} (hb : rL xs = true) {a : Nat} (ha : a ≤ xs.length) : (pH xs a).2.1 ≤ xs.length ∧ (pH xs a).1.length ≤ 255 := by
 have h1 := nU hb (gU xs (gU xs a))
 exact ⟨yO xs _ _ _ (fG (fG (fG ha))), Q7l (vM xs _ _ _) (by omega)⟩
def pT (xs : List Int) : Option (List Mode × Nat) := if xs.length = 0 then none else match mF xs (xs.getD 0 0).toNat 1 with
 | some r => if jH r.1 = true then some r else none
 | none => none
def RdM (o : Option (List Mode × Nat)) (ms : List Mode) (sz : Int) (ok : Bool) : Prop := match o with
 | some r => ms = r.1 ∧ sz = (r.2 : Int) ∧ ok = true
 | none => ms = [] ∧ sz = 0 ∧ ok = false
theorem aEB {xs : List Int} (h : xs.length = 0) : pT xs = none := by rw [pT, if_pos h]
theorem aFC {xs : List Int} (h : xs.length ≠ 0) (hp : mF xs (xs.getD 0 0).toNat 1 = none) : pT xs = none := by rw [pT, if_neg h, hp]
theorem aB5 {xs : List Int} {r : List Mode × Nat} (h : xs.length ≠ 0) (hp : mF xs (xs.getD 0 0).toNat 1 = some r) (ht : jH r.1 = true) : pT xs = some r := by rw [pT, if_neg h, hp]; simp [ht]
theorem aHe {xs : List Int} {r : List Mode × Nat} (h : xs.length ≠ 0) (hp : mF xs (xs.getD 0 0).toNat 1 = some r) (ht : jH r.1 = false) : pT xs = none := by rw [pT, if_neg h, hp]; simp [ht]
def HgM (xs : List Int) (rem a : Nat) (b : Bool) (ms : List Mode) : Prop :=
 (b = false → xs.length ≠ 0 ∧ mF xs (xs.getD 0 0).toNat 1 = (mF xs rem a).map fun r => (ms ++ r.1, r.2)) ∧ (b = true → pT xs = none)
theorem HgM.start (xs : List Int) : HgM xs (nV xs 0).toNat (gU xs 0) (eU xs 0 false) [] := by
 by_cases h : xs.length = 0
 · have e : eU xs 0 false = true := by unfold eU; rw [if_pos h.symm]
   rw [e]
   exact ⟨fun hh => (by cases hh), fun _ => aEB h⟩
 · obtain ⟨h1, h2, h3⟩ := mZ (xs := xs) (a := 0) (by omega) false
   rw [h1, h2, h3]
   refine ⟨fun _ => ⟨h, ?_⟩, fun hh => (by cases hh)⟩
   cases mF xs (xs.getD 0 0).toNat (0 + 1) <;> simp
theorem HgM.step {xs : List Int} {rem a : Nat} {ms : List Mode} (h : HgM xs rem a false ms) (hr : 0 < rem) (ha : a ≤ xs.length) :
   HgM xs (rem - 1) (pH xs a).2.1 (pH xs a).2.2 (ms ++ [⟨nV xs a, nV xs (gU xs a), (pH xs a).1⟩]) := by
 obtain ⟨r, rfl⟩ : ∃ r, rem = r + 1 := ⟨rem - 1, by omega⟩
 obtain ⟨h1, h2⟩ := aDb (rem := r) ha
 obtain ⟨h3, h4⟩ := h.1 rfl
 refine ⟨fun hb => ⟨h3, ?_⟩, fun hb => ?_⟩
 · rw [h4, h1 hb, show r + 1 - 1 = r by omega]
   cases mF xs r (pH xs a).2.1 <;> simp
 · rw [h2 hb] at h4
   exact aFC h3 h4
theorem HgM.stop {xs : List Int} {a : Nat} {ms : List Mode} (h : HgM xs 0 a false ms) : (jH ms = true → pT xs = some (ms, a)) ∧ (jH ms = false → pT xs = none) := by
 obtain ⟨h3, h4⟩ := h.1 rfl
 have h5 : mF xs (xs.getD 0 0).toNat 1 = some (ms, a) := by rw [h4]; simp [mF]
 exact ⟨fun h => aB5 h3 h5 h, fun h => aHe h3 h5 h⟩
theorem RdM.f {o : Option (List Mode × Nat)} {ms : List Mode} {sz : Int} (h : RdM o ms sz false) : o = none := by
 cases o with
 | none => rfl
 | some r => exact absurd h.2.2 (by decide)
theorem RdM.t {o : Option (List Mode × Nat)} {ms : List Mode} {sz : Int} (h : RdM o ms sz true) : ∃ r, o = some r ∧ ms = r.1 ∧ sz = (r.2 : Int) := by
 cases o with
 | none => exact absurd h.2.2 (by decide)
 | some r => exact ⟨r, rfl, h.1, h.2.1⟩
theorem aAB (xs : List Int) : ∀ (n a : Nat) (r : List Mode × Nat), mF xs n a = some r → ∀ m ∈ r.1, m.next.length ≤ xs.length
 | 0, a, r, h => by simp [mF] at h; subst h; simp
 | n + 1, a, r, h => by
   rw [mF] at h
   split at h
   · cases h2 : mF xs n (a + 3 + (xs.getD (a + 2) 0).toNat) with
     | none => rw [h2] at h; simp at h
     | some q =>
       rw [h2] at h
       simp only [Option.map_some, Option.some.injEq] at h
       have ih := aAB xs n _ q h2
       rw [← h]
       intro m hm
       rcases List.mem_cons.1 hm with rfl | hm
       · simp; omega
       · exact ih m hm
   · cases h
theorem aDc {xs : List Int} {r : List Mode × Nat} (h : pT xs = some r) : r.1.length ≤ 16 ∧ r.2 ≤ xs.length ∧ (∀ m ∈ r.1, m.next.length ≤ xs.length) ∧ jH r.1 = true := by
 unfold pT at h
 split at h
 · cases h
 · rename_i h1
   split at h
   · rename_i q hq
     split at h
     · rename_i ht
       injection h with h; subst h
       exact ⟨(qD ht).2, (aD7 xs _ _ _ hq (by omega)).1, aAB xs _ _ _ hq, ht⟩
     · cases h
   · cases h
def yQ (a b c d e : Int) : Desc := ⟨a, b / 64, b % 64, 256 * c + d, decide (e = 1)⟩
def wN (a b c d e : Int) : Bool := fI (yQ a b c d e) && decide (e ≤ 1)
def dAt (xs : List Int) (a : Nat) : Desc := yQ (xs.getD a 0) (xs.getD (a + 1) 0) (xs.getD (a + 2) 0) (xs.getD (a + 3) 0) (xs.getD (a + 4) 0)
def vAt (xs : List Int) (a : Nat) : Bool := wN (xs.getD a 0) (xs.getD (a + 1) 0) (xs.getD (a + 2) 0) (xs.getD (a + 3) 0) (xs.getD (a + 4) 0)
def aJ2 (xs : List Int) (a : Nat) : List Int := [xs.getD a 0, xs.getD (a + 1) 0, xs.getD (a + 2) 0, xs.getD (a + 3) 0, xs.getD (a + 4) 0]
def aAC (xs : List Int) (a : Nat) : SlotI := ⟨xs.getD a 0 / 16, xs.getD a 0 % 16, xs.getD (a + 1) 0, dAt xs (a + 2)⟩
def pU (xs : List Int) : Nat → Nat → Option (List SlotI)
 | 0, _ => some []
 | n + 1, a => if a + 7 ≤ xs.length ∧ vAt xs (a + 2) = true then (pU xs n (a + 7)).map fun r => aAC xs a :: r else none
def kB (xs : List Int) : Option (List SlotI) := if xs.length = 0 then none else match pU xs (xs.getD 0 0).toNat 1 with
 | some l => if gR l = true then some l else none
 | none => none
def RdS (o : Option (List SlotI)) (ys : List SlotI) (n : Int) (ok : Bool) : Prop := match o with
 | some l => ys = l ∧ n = 1 + 7 * l.length ∧ ok = true
 | none => ok = false
theorem pV {xs : List Int} {a : Nat} (h : a < xs.length) : xs.drop a = xs.getD a 0 :: xs.drop (a + 1) := by
 rw [List.drop_eq_getElem_cons h, List.getD_eq_getElem?_getD, List.getElem?_eq_getElem h]; rfl
theorem aHf {xs : List Int} {a : Nat} (h : a + 5 ≤ xs.length) : (xs.drop a).take 5 = aJ2 xs a := by
 rw [pV (show a < xs.length by omega), pV (show a + 1 < xs.length by omega), pV (show a + 1 + 1 < xs.length by omega), pV (show a + 1 + 1 + 1 < xs.length by omega), pV (show a + 1 + 1 + 1 + 1 < xs.length by omega)]
 rfl
theorem aB6 (xs : List Int) : ∀ (n a : Nat) (l : List SlotI), pU xs n a = some l → a ≤ xs.length → a + 7 * n ≤ xs.length ∧ l.length = n
 | 0, a, l, h, ha => by simp [pU] at h; subst h; exact ⟨ha, rfl⟩
 | n + 1, a, l, h, ha => by
   rw [pU] at h
   split at h
   · rename_i h1
     cases h2 : pU xs n (a + 7) with
     | none => rw [h2] at h; simp at h
     | some q =>
       rw [h2] at h
       simp only [Option.map_some, Option.some.injEq] at h
       have h3 := aB6 xs n _ q h2 h1.1
       rw [← h]
       exact ⟨by omega, by simp [h3.2]⟩
   · cases h
theorem aEC {xs : List Int} (h : xs.length = 0) : kB xs = none := by rw [kB, if_pos h]
theorem aB7 {xs : List Int} (h : xs.length ≠ 0) (hp : pU xs (xs.getD 0 0).toNat 1 = none) : kB xs = none := by rw [kB, if_neg h, hp]
theorem aB8 {xs : List Int} {l : List SlotI} (h : xs.length ≠ 0) (hp : pU xs (xs.getD 0 0).toNat 1 = some l) (ht : gR l = true) : kB xs = some l := by rw [kB, if_neg h, hp]; simp [ht]
theorem aHg {xs : List Int} {l : List SlotI} (h : xs.length ≠ 0) (hp : pU xs (xs.getD 0 0).toNat 1 = some l) (ht : gR l = false) : kB xs = none := by rw [kB, if_neg h, hp]; simp [ht]
theorem aD8 {xs : List Int} {l : List SlotI} (h : kB xs = some l) : l.length = (xs.getD 0 0).toNat ∧ 1 + 7 * l.length ≤ xs.length ∧ gR l = true := by
 unfold kB at h
 split at h
 · cases h
 · rename_i h1
   split at h
   · rename_i q hq
     split at h
     · rename_i ht
       injection h with h; subst h
       have := aB6 xs _ _ q hq (by omega)
       exact ⟨this.2, by omega, ht⟩
     · cases h
   · cases h
def HgS (xs : List Int) (rem a : Nat) (b : Bool) (ys : List SlotI) : Prop :=
 (b = false → xs.length ≠ 0 ∧ pU xs (xs.getD 0 0).toNat 1 = (pU xs rem a).map fun r => ys ++ r) ∧ (b = true → kB xs = none)
theorem HgS.start (xs : List Int) : HgS xs (nV xs 0).toNat (gU xs 0) (eU xs 0 false) [] := by
 by_cases h : xs.length = 0
 · have e : eU xs 0 false = true := by unfold eU; rw [if_pos h.symm]
   rw [e]
   exact ⟨fun hh => (by cases hh), fun _ => aEC h⟩
 · obtain ⟨h1, h2, h3⟩ := mZ (xs := xs) (a := 0) (by omega) false
   rw [h1, h2, h3]
   refine ⟨fun _ => ⟨h, ?_⟩, fun hh => (by cases hh)⟩
   cases pU xs (xs.getD 0 0).toNat (0 + 1) <;> simp
def rT (xs : List Int) (a : Nat) : List Int × Nat × Bool := iH xs 5 (gU xs (gU xs a)) (eU xs (gU xs a) (eU xs a false))
theorem yR {xs : List Int} {a : Nat} (ha : a ≤ xs.length) :
   ((rT xs a).2.2 = true ∧ xs.length < a + 7) ∨ ((rT xs a).2.2 = false ∧ a + 7 ≤ xs.length ∧ nV xs a = xs.getD a 0 ∧ nV xs (gU xs a) = xs.getD (a + 1) 0 ∧ (rT xs a).1 = aJ2 xs (a + 2) ∧ (rT xs a).2.1 = a + 7) := by
 by_cases h : a + 7 ≤ xs.length
 · obtain ⟨h1, h2, h3⟩ := mZ (show a < xs.length by omega) false
   obtain ⟨h4, h5, h6⟩ := mZ (show a + 1 < xs.length by omega) false
   have e : rT xs a = ((xs.drop (a + 2)).take 5, a + 7, false) := by
     unfold rT
     rw [h1, h4, h2, h5]
     exact qM xs 5 (a + 2) (by omega)
   rw [e, h1]
   exact .inr ⟨rfl, h, h3, h6, aHf (by omega), rfl⟩
 · refine .inl ⟨?_, by omega⟩
   unfold rT
   by_cases e0 : a = xs.length
   · have e1 : eU xs a false = true := by unfold eU; rw [if_pos e0]
     rw [e1, iB]; exact pR xs _ _
   · obtain ⟨h1, h2, h3⟩ := mZ (show a < xs.length by omega) false
     rw [h1, h2]
     by_cases e1 : a + 1 = xs.length
     · have e2 : eU xs (a + 1) false = true := by unfold eU; rw [if_pos e1]
       rw [e2]; exact pR xs _ _
     · obtain ⟨h4, h5, h6⟩ := mZ (show a + 1 < xs.length by omega) false
       rw [h4, h5]
       exact pJ xs _ _ (by omega) (by omega)
theorem HgS.bad {xs : List Int} {rem a : Nat} {ys : List SlotI} (h : HgS xs rem a false ys) (hr : 0 < rem) (ha : a ≤ xs.length) (hb : (rT xs a).2.2 = true) : kB xs = none := by
 obtain ⟨r, rfl⟩ : ∃ r, rem = r + 1 := ⟨rem - 1, by omega⟩
 obtain ⟨h3, h4⟩ := h.1 rfl
 rcases yR ha with ⟨_, h5⟩ | ⟨h5, _⟩
 · refine aB7 h3 ?_
   rw [h4, pU, if_neg (by omega)]; rfl
 · rw [hb] at h5; cases h5
theorem HgS.inval {xs : List Int} {rem a : Nat} {ys : List SlotI} (h : HgS xs rem a false ys) (hr : 0 < rem) (hv : vAt xs (a + 2) = false) : kB xs = none := by
 obtain ⟨r, rfl⟩ : ∃ r, rem = r + 1 := ⟨rem - 1, by omega⟩
 obtain ⟨h3, h4⟩ := h.1 rfl
 refine aB7 h3 ?_
 rw [h4, pU, if_neg (by simp [hv])]; rfl
theorem HgS.step {xs : List Int} {rem a : Nat} {ys : List SlotI} (h : HgS xs rem a false ys) (hr : 0 < rem) (ha : a + 7 ≤ xs.length) (hv : vAt xs (a + 2) = true) :
   HgS xs (rem - 1) (a + 7) false (ys ++ [aAC xs a]) := by
 obtain ⟨r, rfl⟩ : ∃ r, rem = r + 1 := ⟨rem - 1, by omega⟩
 obtain ⟨h3, h4⟩ := h.1 rfl
 refine ⟨fun _ => ⟨h3, ?_⟩, fun hb => by cases hb⟩
 rw [h4, pU, if_pos ⟨ha, hv⟩, show r + 1 - 1 = r by omega]
 cases pU xs r (a + 7) <;> simp
theorem HgS.stop {xs : List Int} {a : Nat} {ys : List SlotI} (h : HgS xs 0 a false ys) : (gR ys = true → kB xs = some ys) ∧ (gR ys = false → kB xs = none) := by
 obtain ⟨h3, h4⟩ := h.1 rfl
 have h5 : pU xs (xs.getD 0 0).toNat 1 = some ys := by rw [h4]; simp [pU]
 exact ⟨fun h => aB8 h3 h5 h, fun h => aHg h3 h5 h⟩
theorem gB {xs : List Int} (hB : rL xs = true) (i : Nat) : 0 ≤ xs.getD i 0 ∧ xs.getD i 0 ≤ 255 := by
 rw [List.getD_eq_getElem?_getD]
 cases h : xs[i]? with
 | none => simp
 | some x => exact uO hB h
theorem RdS.f {o : Option (List SlotI)} {ys : List SlotI} {sz : Int} (h : RdS o ys sz false) : o = none := by
 cases o with
 | none => rfl
 | some r => exact absurd h.2.2 (by decide)
theorem RdS.t {o : Option (List SlotI)} {ys : List SlotI} {sz : Int} (h : RdS o ys sz true) : o = some ys ∧ sz = 1 + 7 * ys.length := by
 cases o with
 | none => exact absurd h (by simp [RdS])
 | some r =>
   have h1 := h.1
   subst h1
   exact ⟨rfl, h.2.1⟩
theorem aED {xs : List Int} (h : eU xs 0 false = false) : gU xs 0 = 1 := by
 unfold eU at h
 unfold gU
 split at h
 · cases h
 · rename_i h1; rw [if_neg h1]
end Go.Proofs.YtdoibplhbdkapaaGreatDoor
