/- Parts. No condition. -/
import Derived.Test.YtdoibplhbdkapaaGreatDoorDNP18
import Derived.Test.YtdoibplhbdkapaaGreatDoorDNP19
import Derived.Test.YtdoibplhbdkapaaGreatDoorDNP22
namespace Go.Proofs.YtdoibplhbdkapaaGreatDoor
open Go.RowKit
set_option linter.unusedVariables false
set_option linter.unusedSimpArgs false
set_option maxRecDepth 20000
def aE4 (xs : List Int) : Int := xs.getD 0 0 * 65536 + xs.getD 1 0 * 256 + xs.getD 2 0
def rR (xs : List Int) : Option MedlD := match lW (xs.drop 3) with
 | none => none
 | some n => match pT ((xs.drop 3).drop n.2) with
   | none => none
   | some r => match kB (((xs.drop 3).drop n.2).drop r.2) with
     | none => none
     | some l => if 1 + 7 * l.length = (((xs.drop 3).drop n.2).drop r.2).length then some ⟨aE4 xs, n.1, r.1, l⟩ else none
def jM (xs : List Int) : MedlD × Int := if xs.length < 3 then (zeroM.d, 6) else match rR xs with
 | none => (zeroM.d, 6)
 | some d => if iY d = true then (d, 0) else (zeroM.d, 1)
def kF (xs : List Int) : MedlD × Int := if rL xs = true then jM xs else (zeroM.d, 2)
theorem aF4 {xs : List Int} (h : lW (xs.drop 3) = none) : rR xs = none := by rw [rR, h]
theorem aF5 {xs : List Int} {n : List NodeI × Nat} (h : lW (xs.drop 3) = some n) (h2 : pT ((xs.drop 3).drop n.2) = none) : rR xs = none := by rw [rR, h]; simp only []; rw [h2]
theorem aF6 {xs : List Int} {n : List NodeI × Nat} {r : List Mode × Nat} (h : lW (xs.drop 3) = some n) (h2 : pT ((xs.drop 3).drop n.2) = some r) (h3 : kB (((xs.drop 3).drop n.2).drop r.2) = none) : rR xs = none := by rw [rR, h]; simp only []; rw [h2]; simp only []; rw [h3]
theorem aF7 {xs : List Int} {n : List NodeI × Nat} {r : List Mode × Nat} {l : List SlotI} (h : lW (xs.drop 3) = some n) (h2 : pT ((xs.drop 3).drop n.2) = some r) (h3 : kB (((xs.drop 3).drop n.2).drop r.2) = some l) (h4 : 1 + 7 * l.length ≠ (((xs.drop 3).drop n.2).drop r.2).length) : rR xs = none := by rw [rR, h]; simp only []; rw [h2]; simp only []; rw [h3]; simp only []; rw [if_neg h4]
theorem zI {xs : List Int} {n : List NodeI × Nat} {r : List Mode × Nat} {l : List SlotI} (h : lW (xs.drop 3) = some n) (h2 : pT ((xs.drop 3).drop n.2) = some r) (h3 : kB (((xs.drop 3).drop n.2).drop r.2) = some l) (h4 : 1 + 7 * l.length = (((xs.drop 3).drop n.2).drop r.2).length) : rR xs = some ⟨aE4 xs, n.1, r.1, l⟩ := by rw [rR, h]; simp only []; rw [h2]; simp only []; rw [h3]; simp only []; rw [if_pos h4]
theorem aIy {xs : List Int} (h : xs.length < 3) : jM xs = (zeroM.d, 6) := by rw [jM, if_pos h]
theorem sB {xs : List Int} (h : ¬ xs.length < 3) (h2 : rR xs = none) : jM xs = (zeroM.d, 6) := by rw [jM, if_neg h, h2]
theorem aF8 {xs : List Int} {d : MedlD} (h : ¬ xs.length < 3) (h2 : rR xs = some d) (h3 : iY d = false) : jM xs = (zeroM.d, 1) := by rw [jM, if_neg h, h2]; simp [h3]
theorem aDC {xs : List Int} {d : MedlD} (h : ¬ xs.length < 3) (h2 : rR xs = some d) (h3 : iY d = true) : jM xs = (d, 0) := by rw [jM, if_neg h, h2]; simp [h3]
theorem jR {xs : List Int} (h : rL xs = true) (k : Nat) : rL (xs.drop k) = true := by
 have h1 := yB h
 have h2 := xR h
 simp only [rL, Bool.and_eq_true, decide_eq_true_eq]
 refine ⟨by rw [List.length_drop]; omega, List.all_eq_true.2 fun x hx => eD.2 (h2 x (List.mem_of_mem_drop hx))⟩
theorem RdN.sz {xs : List Int} {ys : List NodeI} {sz : Int} {ok : Bool} (h : RdN (lW xs) ys sz ok) : ∃ k : Nat, sz = (k : Int) ∧ k ≤ xs.length := by
 cases ok with
 | false => exact ⟨0, (h.f).2.2, Nat.zero_le _⟩
 | true => obtain ⟨r, h1, h2, h3⟩ := h.t; exact ⟨r.2, h3, (aDn h1).2.2⟩
theorem RdM.sz {xs : List Int} {ms : List Mode} {sz : Int} {ok : Bool} (h : RdM (pT xs) ms sz ok) : ∃ k : Nat, sz = (k : Int) ∧ k ≤ xs.length := by
 cases ok with
 | false =>
   have h1 := h.f
   rw [h1] at h
   exact ⟨0, h.2.1, Nat.zero_le _⟩
 | true => obtain ⟨r, h1, h2, h3⟩ := h.t; exact ⟨r.2, h3, (aDc h1).2.1⟩
theorem aAR {id : Int} {An Am As : Option Addr} {cn cm cs : Nat} {ns : List NodeI} {ms : List ModeI} {ss : List SlotI} (hn : dV ns = true) (hm : jH (ms.map (·.m)) = true) (hs : gR ss = true) : MedlI.small ⟨id, An, ns, cn, Am, ms, cm, As, ss, cs⟩ := by
 have h1 := sJ hn
 have h2 := qD hm
 have h3 := mT hs
 rw [List.length_map] at h2
 exact ⟨by show ns.length ≤ _; omega, by show ms.length ≤ _; omega, fun x hx => by
   obtain ⟨k, hk⟩ := List.mem_iff_getElem?.1 (List.mem_map_of_mem (f := (·.m)) hx)
   have h4 := uC (tE (yC hm hk)).2.2
   rw [List.length_map] at h4
   omega, by show ss.length ≤ _; omega, fun x hx => by have := lL (kX hn x hx); omega⟩
theorem wR (A : Option Addr) (B c n : Nat) (xs : List Int) (w : World) (hs : Sl B w A (xs.flatMap eI)) (hl : xs.length ≤ 1048576) (hB : rL xs = true) (hcap : xs.length ≤ c) (e : xs.length = n) :
   Calls Tryz.prog 76 #[.slice A n c] w (fD fun v w' => ∃ A' c' ys sz ok, v = .tuple #[.slice A' (List.length ys) c', .int .i64 sz, .bool ok] ∧ RdN (lW xs) ys sz ok ∧ Own w' w.heap.size 59 4 A' ys.length c' (ys.flatMap NodeI.cells) ∧ Ext w w') := by
 subst e; exact aCn A B c xs w hs hl hB hcap
theorem wS (A : Option Addr) (B c n : Nat) (xs : List Int) (w : World) (hs : Sl B w A (xs.flatMap eI)) (hl : xs.length ≤ 1048576) (hB : rL xs = true) (hcap : xs.length ≤ c) (e : xs.length = n) :
   Calls Tryz.prog 77 #[.slice A n c] w (fD fun v w' => ∃ A' c' ys sz ok, v = .tuple #[.slice A' (List.length ys) c', .int .i64 sz, .bool ok] ∧ RdM (pT xs) (ys.map (·.m)) sz ok ∧ Disj ys ∧ Own w' w.heap.size 92 3 A' ys.length c' (ys.flatMap ModeI.cells) ∧ NOwn w' w.heap.size 2 ys ∧ Ext w w') := by
 subst e; exact aCo A B c xs w hs hl hB
theorem wT (A : Option Addr) (B c n : Nat) (xs : List Int) (w : World) (hs : Sl B w A (xs.flatMap eI)) (hl : xs.length ≤ 1048576) (hB : rL xs = true) (hcap : xs.length ≤ c) (e : xs.length = n) :
   Calls Tryz.prog 78 #[.slice A n c] w (fD fun v w' => ∃ A' c' ys sz ok, v = .tuple #[.slice A' (List.length ys) c', .int .i64 sz, .bool ok] ∧ RdS (kB xs) ys sz ok ∧ Own w' w.heap.size 89 8 A' ys.length c' (ys.flatMap SlotI.cells) ∧ Ext w w') := by
 subst e; exact aCp A B c xs w hs hl hB
theorem aEk (A : Option Addr) (B c : Nat) (xs : List Int) (w : World) (hs : Sl B w A (xs.flatMap eI)) (hl : xs.length ≤ 1048576) (hcap : xs.length ≤ c) :
   Calls Tryz.prog 18 #[.slice A xs.length c] w (fD fun v w' => ∃ m', v = .tuple #[.agg m'.cells.toArray, .int .i64 (kF xs).2] ∧ m'.d = (kF xs).1 ∧ MOwn w' w.heap.size 59 92 2 89 m' ∧ Ext w w') := by
 have Bhs := hs.1
 have X := Q7r w
 refine bI (args := [.slice A xs.length c]) Tryz.func18 Tryz.ntmps18 rfl rfl ?_
 refine aE ?_
 refine aA rfl (dO dP ?_)
 intro g2 w2 eg2 b2 x1 zg2
 have lg2 : w.heap.size ≤ g2 := Q7l X.size (Q7e eg2.symm)
 have pg2hs := Q7l hs.1 (Q7e eg2.symm)
 replace hs := hs.ext x1
 replace X := Q7x X x1
 refine aA rfl (aD rfl ?_)
 refine aB ?_
 refine aQ ?_
 refine aE ?_
 refine aA rfl (aC rfl ?_)
 refine aA rfl (cW aGt rfl (uI _ _ _ _ _ hs hl) (fun w4 hIB x3 => ?_) (fun w4 hIB x3 => ?_))
 replace hs := hs.ext x3
 replace b2 := b2.ext x3
 replace X := Q7x X x3
 have hB : rL xs = true := hIB
 have hbl := yB hIB
 refine aA rfl (cD rfl ?_)
 refine aB ?_
 refine aL rfl ?_
 refine aU ?_
 refine aP ?_
 refine aQ ?_
 refine aE ?_
 refine aA rfl (aC rfl ?_)
 refine aA rfl (cQ Tryz.underlying30 rfl ?_)
 refine aA rfl (cH rfl rfl (fun h3 => ?_) (fun h3 => ?_))
 refine aB ?_
 refine aR rfl ?_
 refine aE ?_
 refine aA rfl (cO qA dP rfl rfl ?_)
 refine aA rfl (aX b2 dP rfl rfl rfl rfl rfl rfl ?_)
 intro w6 b5 hg5 z7
 replace hs := hs.grown hg5 (by intro g hg; injection hg; omega)
 replace X := X.grown hg5 X.size (by intro g hg; injection hg; omega)
 clear hg5 b2
 refine aA rfl (aD rfl ?_)
 refine aB ?_
 refine aV ?_
 refine bU ?_
 refine fV rfl rfl b5 dP rfl rfl ?_
 · skip
   have e : kF xs = jM xs := by rw [kF, if_pos hB]
   rw [e]
   have e : jM xs = (zeroM.d, 6) := aIy (by omega)
   rw [e]; exact ⟨zeroM, rfl, rfl, iI _ _ _ _ _ _, X⟩
 have e3 : (xs.drop 3).length = xs.length - 3 := List.length_drop ..
 obtain ⟨x0, hx0, _⟩ := jZ (xs := xs) (k := 0) (by omega)
 have hxb0 := uO hB hx0
 obtain ⟨x1, hx1, _⟩ := jZ (xs := xs) (k := 1) (by omega)
 have hxb1 := uO hB hx1
 obtain ⟨x2, hx2, _⟩ := jZ (xs := xs) (k := 2) (by omega)
 have hxb2 := uO hB hx2
 have eid : aE4 xs = x0 * 65536 + x1 * 256 + x2 := by unfold aE4; rw [qQ hx0, qQ hx1, qQ hx2]
 refine aB ?_
 refine aL rfl ?_
 refine aU ?_
 refine aP ?_
 refine vY (fun wz => Sl B wz A (xs.flatMap eI)) mixed ?_
 obtain ⟨w9, ew9⟩ : ∃ wy, wy = World.drew w4 := ⟨_, rfl⟩
 rw [← ew9]
 have xd : Ext w4 w9 := ew9 ▸ Ext.drew w4
 replace hs := hs.ext xd
 replace b2 := b2.ext xd
 replace X := Q7x X xd; clear xd ew9
 refine dI 0 rfl (by kernel_rfl) rfl (by kernel_rfl) (listed' := #[true, false, false, false, false, false, false, false]) rfl (fun wq sq => aC rfl ⟨rfl, rfl⟩) ?_
 refine dI 3 rfl (by kernel_rfl) rfl (by kernel_rfl) (listed' := #[true, false, false, true, false, false, false, false]) rfl (fun wq sq => aC rfl ⟨rfl, rfl⟩) ?_
 refine dI 4 rfl (by kernel_rfl) rfl (by kernel_rfl) (listed' := #[true, false, false, true, true, false, false, false]) rfl (fun wq sq => uG (l := 3) dA rfl rfl (by omega) (by omega) ⟨rfl, rfl⟩) ?_
 refine aGQ 1 5 rfl rfl rfl rfl (by kernel_rfl) (listed' := #[true, true, false, true, true, false, false, false]) (listed'' := #[true, false, false, true, true, true, false, false]) rfl rfl hs ?_ ?_
 refine (aS aEq rfl (aO (aBu _ _ c xs.length xs x0 x1 x2 _ hs rfl hx0 hx1 hx2 hxb0 hxb1 hxb2) ?_))
 rintro _ w11 ⟨rfl, x10⟩
 replace hs := hs.ext x10
 replace b2 := b2.ext x10
 replace X := Q7x X x10
 refine dI 2 rfl (by kernel_rfl) rfl (by kernel_rfl) (listed' := #[true, true, true, true, true, false, false, false]) rfl (fun wq sq => cO qA dP rfl rfl ⟨rfl, rfl⟩) ?_
 refine fM 5 rfl rfl (by kernel_rfl) (listed' := #[true, true, true, true, true, true, false, false]) rfl hs (dO dP ?_)
 intro g3 w13 eg3 b3 x12 zg3
 have lg3 : w.heap.size ≤ g3 := Q7l X.size (Q7e eg3.symm)
 have pg3hs := Q7l hs.1 (Q7e eg3.symm)
 have ng3b2 := Nat.lt_of_lt_of_eq b2.lt eg3.symm
 replace hs := hs.ext x12
 replace b2 := b2.ext x12
 replace X := Q7x X x12
 refine fM 6 rfl rfl (by kernel_rfl) (listed' := #[true, true, true, true, true, true, true, false]) rfl hs (aX b3 dP rfl rfl rfl rfl rfl rfl ?_)
 intro w15 b4 hg14 z16
 replace hs := hs.grown hg14 (by intro g hg; injection hg; omega)
 replace b2 := b2.grown hg14 (by intro h; injection h; omega)
 replace X := X.grown hg14 X.size (by intro g hg; injection hg; omega)
 clear hg14 b3
 refine dI 7 rfl (by kernel_rfl) rfl (by kernel_rfl) (listed' := #[true, true, true, true, true, true, true, true]) rfl (fun wq sq => aD rfl ⟨rfl, rfl⟩) ?_
 refine kA rfl hs (fun aj fj => ⟨_, fj, ?_⟩)
 refine aE ?_
 have p3 := hs.dropX 3 hcap
 refine aA rfl (aC rfl ?_)
 refine aA rfl (aS aH9 rfl (aO (wR _ B (c - 3) (xs.length - 3) (xs.drop 3) _ p3 (by omega) (jR hB 3) (by omega) e3) ?_))
 rintro _ w18 ⟨AN, cN, yN, szN, okN, rfl, eN, oN2, x17⟩
 replace oN2 := Own.low oN2 X.size
 replace hs := hs.ext x17
 replace b2 := b2.ext x17
 replace b4 := b4.ext x17
 replace p3 := p3.ext x17
 replace X := Q7x X x17
 obtain ⟨kN, ezN, hkNl⟩ := eN.sz
 subst ezN
 have e4 : ((xs.drop 3).drop kN).length = ((xs.length - 3) - kN) := by rw [List.length_drop, e3]
 refine aA rfl (aC rfl ?_)
 refine aA rfl (dG rfl rfl ?_)
 refine aA rfl (dG rfl rfl ?_)
 refine aA rfl (dG rfl rfl ?_)
 refine aA rfl (aD rfl ?_)
 refine aA rfl (aD rfl ?_)
 refine aA rfl (aD rfl ?_)
 refine aB ?_
 refine aE ?_
 refine aA rfl (aC rfl ?_)
 refine aA rfl (aC rfl ?_)
 refine aA rfl (tH dA p3 bL rfl rfl rfl e3.symm (by omega) (by omega) ?_)
 intro A4 p4
 refine aA rfl (aD rfl ?_)
 refine aB ?_
 refine aE ?_
 refine aA rfl (aC rfl ?_)
 refine aA rfl (aS aIa rfl (aO (wS A4 B ((c - 3) - kN) ((xs.length - 3) - kN) ((xs.drop 3).drop kN) _ p4 (by omega) (jR (jR hB 3) _) (by omega) e4) ?_))
 rintro _ w20 ⟨AM, cM, yM, szM, okM, rfl, eM, djM, oM2, oM2n, x19⟩
 replace oM2 := Own.low oM2 X.size
 replace oM2n := NOwn.low oM2n X.size
 replace hs := hs.ext x19
 replace b2 := b2.ext x19
 replace b4 := b4.ext x19
 replace p3 := p3.ext x19
 replace oN2 := oN2.ext x19
 replace p4 := p4.ext x19
 replace X := Q7x X x19
 obtain ⟨kM, ezM, hkMl⟩ := eM.sz
 subst ezM
 have e5 : (((xs.drop 3).drop kN).drop kM).length = (((xs.length - 3) - kN) - kM) := by rw [List.length_drop, e4]
 refine aA rfl (aC rfl ?_)
 refine aA rfl (dG rfl rfl ?_)
 refine aA rfl (dG rfl rfl ?_)
 refine aA rfl (dG rfl rfl ?_)
 refine aA rfl (aD rfl ?_)
 refine aA rfl (aD rfl ?_)
 refine aA rfl (aD rfl ?_)
 refine aB ?_
 refine aE ?_
 refine aA rfl (aC rfl ?_)
 refine aA rfl (aC rfl ?_)
 refine aA rfl (tH dA p4 bL rfl rfl rfl e4.symm (by omega) (by omega) ?_)
 intro A5 p5
 refine aA rfl (aD rfl ?_)
 refine aB ?_
 refine aE ?_
 refine aA rfl (aC rfl ?_)
 refine aA rfl (aS aIb rfl (aO (wT A5 B (((c - 3) - kN) - kM) (((xs.length - 3) - kN) - kM) (((xs.drop 3).drop kN).drop kM) _ p5 (by omega) (jR (jR (jR hB 3) _) _) (by omega) e5) ?_))
 rintro _ w22 ⟨AS, cS, yS, szS, okS, rfl, eS, oS2, x21⟩
 replace oS2 := Own.low oS2 X.size
 replace hs := hs.ext x21
 replace b2 := b2.ext x21
 replace b4 := b4.ext x21
 replace p3 := p3.ext x21
 replace oN2 := oN2.ext x21
 replace p4 := p4.ext x21
 replace oM2 := oM2.ext x21
 replace oM2n := oM2n.ext x21
 replace p5 := p5.ext x21
 replace X := Q7x X x21
 refine aA rfl (aC rfl ?_)
 refine aA rfl (dG rfl rfl ?_)
 refine aA rfl (dG rfl rfl ?_)
 refine aA rfl (dG rfl rfl ?_)
 refine aA rfl (aD rfl ?_)
 refine aA rfl (aD rfl ?_)
 refine aA rfl (aD rfl ?_)
 refine aB ?_
 refine aQ ?_
 refine aE ?_
 refine aA rfl (aC rfl ?_)
 cases hkN : okN
 subst hkN
 have hrN := (eN.f).1
 refine aA rfl (cD rfl ?_)
 refine aA rfl (aC rfl ?_)
 refine aG rfl rfl rfl rfl ?_
 refine aG rfl rfl rfl rfl ?_
 refine aA rfl (aJ rfl rfl ?_)
 refine aA rfl (aC rfl ?_)
 refine aG rfl rfl rfl rfl ?_
 refine aG rfl rfl rfl rfl ?_
 refine aA rfl (aJ rfl rfl ?_)
 refine aA rfl (aC rfl ?_)
 refine aG rfl rfl rfl rfl ?_
 refine aG rfl rfl rfl rfl ?_
 refine aG rfl rfl rfl rfl ?_
 refine aG rfl rfl rfl rfl ?_
 refine aA rfl (aJ rfl rfl ?_)
 refine aB ?_
 refine aR rfl ?_
 refine aE ?_
 refine aA rfl (cO qA dP rfl rfl ?_)
 refine aA rfl (aX b2 dP rfl rfl rfl rfl rfl rfl ?_)
 intro w24 b5 hg23 z25
 replace hs := hs.grown hg23 (by intro g hg; injection hg; omega)
 replace b4 := b4.grown hg23 (by intro h; injection h; omega)
 replace p3 := p3.grown hg23 (by intro g hg; injection hg; omega)
 replace oN2 := oN2.grownBlk hg23 (Own.neT oN2 b2 (by decide))
 replace p4 := p4.grown hg23 (by intro g hg; injection hg; omega)
 replace oM2 := oM2.grownBlk hg23 (Own.neT oM2 b2 (by decide))
 replace oM2n := oM2n.grownB b2 hg23 (by decide)
 replace p5 := p5.grown hg23 (by intro g hg; injection hg; omega)
 replace oS2 := oS2.grownBlk hg23 (Own.neT oS2 b2 (by decide))
 replace X := X.grown hg23 X.size (by intro g hg; injection hg; omega)
 clear hg23 b2
 refine aA rfl (aD rfl ?_)
 refine aB ?_
 refine aV ?_
 refine bU ?_
 refine fV rfl rfl b5 dP rfl rfl ?_
 · skip
   have e : kF xs = jM xs := by rw [kF, if_pos hB]
   rw [e]
   have e : jM xs = (zeroM.d, 6) := sB (by omega) (aF4 hrN)
   rw [e]; exact ⟨zeroM, rfl, rfl, iI _ _ _ _ _ _, X⟩
 subst hkN
 obtain ⟨rN, hrN, eyN, ezN⟩ := eN.t
 subst eyN
 obtain rfl : kN = rN.2 := by omega
 have hiN := aDn hrN
 refine aA rfl (cD rfl ?_)
 refine aA rfl (aC rfl ?_)
 refine aH rfl rfl rfl (aC rfl ?_)
 cases hkM : okM
 subst hkM
 have hrM := eM.f
 refine aH rfl rfl rfl (cD rfl ?_)
 refine aA rfl (aJ rfl rfl ?_)
 refine aA rfl (aC rfl ?_)
 refine aG rfl rfl rfl rfl ?_
 refine aG rfl rfl rfl rfl ?_
 refine aA rfl (aJ rfl rfl ?_)
 refine aA rfl (aC rfl ?_)
 refine aG rfl rfl rfl rfl ?_
 refine aG rfl rfl rfl rfl ?_
 refine aG rfl rfl rfl rfl ?_
 refine aG rfl rfl rfl rfl ?_
 refine aA rfl (aJ rfl rfl ?_)
 refine aB ?_
 refine aR rfl ?_
 refine aE ?_
 refine aA rfl (cO qA dP rfl rfl ?_)
 refine aA rfl (aX b2 dP rfl rfl rfl rfl rfl rfl ?_)
 intro w27 b5 hg26 z28
 replace hs := hs.grown hg26 (by intro g hg; injection hg; omega)
 replace b4 := b4.grown hg26 (by intro h; injection h; omega)
 replace p3 := p3.grown hg26 (by intro g hg; injection hg; omega)
 replace oN2 := oN2.grownBlk hg26 (Own.neT oN2 b2 (by decide))
 replace p4 := p4.grown hg26 (by intro g hg; injection hg; omega)
 replace oM2 := oM2.grownBlk hg26 (Own.neT oM2 b2 (by decide))
 replace oM2n := oM2n.grownB b2 hg26 (by decide)
 replace p5 := p5.grown hg26 (by intro g hg; injection hg; omega)
 replace oS2 := oS2.grownBlk hg26 (Own.neT oS2 b2 (by decide))
 replace X := X.grown hg26 X.size (by intro g hg; injection hg; omega)
 clear hg26 b2
 refine aA rfl (aD rfl ?_)
 refine aB ?_
 refine aV ?_
 refine bU ?_
 refine fV rfl rfl b5 dP rfl rfl ?_
 · skip
   have e : kF xs = jM xs := by rw [kF, if_pos hB]
   rw [e]
   have e : jM xs = (zeroM.d, 6) := sB (by omega) (aF5 hrN hrM)
   rw [e]; exact ⟨zeroM, rfl, rfl, iI _ _ _ _ _ _, X⟩
 subst hkM
 obtain ⟨rM, hrM, eyM, ezM⟩ := eM.t
 obtain rfl : kM = rM.2 := by omega
 have hiM := aDc hrM
 refine aH rfl rfl rfl (cD rfl ?_)
 refine aA rfl (aJ rfl rfl ?_)
 refine aA rfl (aC rfl ?_)
 refine aH rfl rfl rfl (aC rfl ?_)
 cases hkS : okS
 subst hkS
 have hrS := eS.f
 refine aH rfl rfl rfl (cD rfl ?_)
 refine aA rfl (aJ rfl rfl ?_)
 refine aA rfl (aC rfl ?_)
 refine aG rfl rfl rfl rfl ?_
 refine aG rfl rfl rfl rfl ?_
 refine aG rfl rfl rfl rfl ?_
 refine aG rfl rfl rfl rfl ?_
 refine aA rfl (aJ rfl rfl ?_)
 refine aB ?_
 refine aR rfl ?_
 refine aE ?_
 refine aA rfl (cO qA dP rfl rfl ?_)
 refine aA rfl (aX b2 dP rfl rfl rfl rfl rfl rfl ?_)
 intro w30 b5 hg29 z31
 replace hs := hs.grown hg29 (by intro g hg; injection hg; omega)
 replace b4 := b4.grown hg29 (by intro h; injection h; omega)
 replace p3 := p3.grown hg29 (by intro g hg; injection hg; omega)
 replace oN2 := oN2.grownBlk hg29 (Own.neT oN2 b2 (by decide))
 replace p4 := p4.grown hg29 (by intro g hg; injection hg; omega)
 replace oM2 := oM2.grownBlk hg29 (Own.neT oM2 b2 (by decide))
 replace oM2n := oM2n.grownB b2 hg29 (by decide)
 replace p5 := p5.grown hg29 (by intro g hg; injection hg; omega)
 replace oS2 := oS2.grownBlk hg29 (Own.neT oS2 b2 (by decide))
 replace X := X.grown hg29 X.size (by intro g hg; injection hg; omega)
 clear hg29 b2
 refine aA rfl (aD rfl ?_)
 refine aB ?_
 refine aV ?_
 refine bU ?_
 refine fV rfl rfl b5 dP rfl rfl ?_
 · skip
   have e : kF xs = jM xs := by rw [kF, if_pos hB]
   rw [e]
   have e : jM xs = (zeroM.d, 6) := sB (by omega) (aF6 hrN hrM hrS)
   rw [e]; exact ⟨zeroM, rfl, rfl, iI _ _ _ _ _ _, X⟩
 subst hkS
 obtain ⟨hrS, ezS⟩ := eS.t
 subst ezS
 have hiS := aD8 hrS
 refine aH rfl rfl rfl (cD rfl ?_)
 refine aA rfl (aJ rfl rfl ?_)
 refine aA rfl (aC rfl ?_)
 refine aH rfl rfl rfl (aC rfl ?_)
 refine aH rfl rfl rfl (aC rfl ?_)
 refine aH rfl rfl rfl (cQ Tryz.underlying30 rfl ?_)
 refine aH rfl rfl rfl (cH rfl rfl (fun hLt => ?_) (fun hLt => ?_))
 refine aA rfl (aJ rfl rfl ?_)
 refine aB ?_
 refine aR rfl ?_
 refine aE ?_
 refine aA rfl (cO qA dP rfl rfl ?_)
 refine aA rfl (aX b2 dP rfl rfl rfl rfl rfl rfl ?_)
 intro w33 b5 hg32 z34
 replace hs := hs.grown hg32 (by intro g hg; injection hg; omega)
 replace b4 := b4.grown hg32 (by intro h; injection h; omega)
 replace p3 := p3.grown hg32 (by intro g hg; injection hg; omega)
 replace oN2 := oN2.grownBlk hg32 (Own.neT oN2 b2 (by decide))
 replace p4 := p4.grown hg32 (by intro g hg; injection hg; omega)
 replace oM2 := oM2.grownBlk hg32 (Own.neT oM2 b2 (by decide))
 replace oM2n := oM2n.grownB b2 hg32 (by decide)
 replace p5 := p5.grown hg32 (by intro g hg; injection hg; omega)
 replace oS2 := oS2.grownBlk hg32 (Own.neT oS2 b2 (by decide))
 replace X := X.grown hg32 X.size (by intro g hg; injection hg; omega)
 clear hg32 b2
 refine aA rfl (aD rfl ?_)
 refine aB ?_
 refine aV ?_
 refine bU ?_
 refine fV rfl rfl b5 dP rfl rfl ?_
 · skip
   have e : kF xs = jM xs := by rw [kF, if_pos hB]
   rw [e]
   have e : jM xs = (zeroM.d, 6) := sB (by omega) (aF7 hrN hrM hrS (by rw [e5]; omega))
   rw [e]; exact ⟨zeroM, rfl, rfl, iI _ _ _ _ _ _, X⟩
 refine aA rfl (aJ rfl rfl ?_)
 refine aB ?_
 refine aL rfl ?_
 refine aU ?_
 refine aP ?_
 refine aE ?_
 refine aA rfl (aC rfl ?_)
 refine aA rfl (aC rfl ?_)
 refine aA rfl (aC rfl ?_)
 refine aA rfl (aF kP rfl rfl ?_)
 refine aA rfl (aX b4 vV rfl rfl rfl rfl rfl rfl ?_)
 intro w36 b6 hg35 z37
 replace hs := hs.grown hg35 (by intro g hg; injection hg; omega)
 replace b2 := b2.grown hg35 (by intro h; injection h; omega)
 replace p3 := p3.grown hg35 (by intro g hg; injection hg; omega)
 replace oN2 := oN2.grownBlk hg35 (Own.neT oN2 b4 (by decide))
 replace p4 := p4.grown hg35 (by intro g hg; injection hg; omega)
 replace oM2 := oM2.grownBlk hg35 (Own.neT oM2 b4 (by decide))
 replace oM2n := oM2n.grownB b4 hg35 (by decide)
 replace p5 := p5.grown hg35 (by intro g hg; injection hg; omega)
 replace oS2 := oS2.grownBlk hg35 (Own.neT oS2 b4 (by decide))
 replace X := X.grown hg35 X.size (by intro g hg; injection hg; omega)
 clear hg35 b4
 refine aA rfl (aF fO rfl rfl ?_)
 refine aA rfl (aX b6 mK rfl rfl rfl rfl rfl rfl ?_)
 intro w39 b7 hg38 z40
 replace hs := hs.grown hg38 (by intro g hg; injection hg; omega)
 replace b2 := b2.grown hg38 (by intro h; injection h; omega)
 replace p3 := p3.grown hg38 (by intro g hg; injection hg; omega)
 replace oN2 := oN2.grownBlk hg38 (Own.neT oN2 b6 (by decide))
 replace p4 := p4.grown hg38 (by intro g hg; injection hg; omega)
 replace oM2 := oM2.grownBlk hg38 (Own.neT oM2 b6 (by decide))
 replace oM2n := oM2n.grownB b6 hg38 (by decide)
 replace p5 := p5.grown hg38 (by intro g hg; injection hg; omega)
 replace oS2 := oS2.grownBlk hg38 (Own.neT oS2 b6 (by decide))
 replace X := X.grown hg38 X.size (by intro g hg; injection hg; omega)
 clear hg38 b6
 refine aA rfl (aF dU rfl rfl ?_)
 refine aA rfl (aX b7 iF rfl rfl rfl rfl rfl rfl ?_)
 intro w42 b8 hg41 z43
 replace hs := hs.grown hg41 (by intro g hg; injection hg; omega)
 replace b2 := b2.grown hg41 (by intro h; injection h; omega)
 replace p3 := p3.grown hg41 (by intro g hg; injection hg; omega)
 replace oN2 := oN2.grownBlk hg41 (Own.neT oN2 b7 (by decide))
 replace p4 := p4.grown hg41 (by intro g hg; injection hg; omega)
 replace oM2 := oM2.grownBlk hg41 (Own.neT oM2 b7 (by decide))
 replace oM2n := oM2n.grownB b7 hg41 (by decide)
 replace p5 := p5.grown hg41 (by intro g hg; injection hg; omega)
 replace oS2 := oS2.grownBlk hg41 (Own.neT oS2 b7 (by decide))
 replace X := X.grown hg41 X.size (by intro g hg; injection hg; omega)
 clear hg41 b7
 refine aB ?_
 refine aQ ?_
 refine aE ?_
 have hsm : MedlI.small ⟨x0 * 65536 + x1 * 256 + x2, AN, rN.1, cN, AM, yM, cM, AS, yS, cS⟩ := aAR hiN.1 (by rw [eyM]; exact hiM.2.2.2) hiS.2.2
 have hMo : MOwn _ w.heap.size 59 92 2 89 ⟨x0 * 65536 + x1 * 256 + x2, AN, rN.1, cN, AM, yM, cM, AS, yS, cS⟩ := ⟨oN2, oM2, oM2n, djM, oS2⟩
 refine aA rfl (bO b8 dP rfl rfl ?_)
 refine aA rfl (cW aEp rfl (sW ⟨x0 * 65536 + x1 * 256 + x2, AN, rN.1, cN, AM, yM, cM, AS, yS, cS⟩ _ _ hMo.med hsm) (fun w45 hI x44 => ?_) (fun w45 hI x44 => ?_))
 replace hs := hs.ext x44
 replace b2 := b2.ext x44
 replace p3 := p3.ext x44
 replace oN2 := oN2.ext x44
 replace p4 := p4.ext x44
 replace oM2 := oM2.ext x44
 replace oM2n := oM2n.ext x44
 replace p5 := p5.ext x44
 replace oS2 := oS2.ext x44
 replace b8 := b8.ext x44
 replace X := Q7x X x44
 refine aA rfl (cD rfl ?_)
 refine aB ?_
 refine aL rfl ?_
 refine aU ?_
 refine aP ?_
 refine aE ?_
 refine aA rfl (bO b8 dP rfl rfl ?_)
 refine aA rfl (aX b2 dP rfl rfl rfl rfl rfl rfl ?_)
 intro w47 b5 hg46 z48
 replace hs := hs.grown hg46 (by intro g hg; injection hg; omega)
 replace p3 := p3.grown hg46 (by intro g hg; injection hg; omega)
 replace oN2 := oN2.grownBlk hg46 (Own.neT oN2 b2 (by decide))
 replace p4 := p4.grown hg46 (by intro g hg; injection hg; omega)
 replace oM2 := oM2.grownBlk hg46 (Own.neT oM2 b2 (by decide))
 replace oM2n := oM2n.grownB b2 hg46 (by decide)
 replace p5 := p5.grown hg46 (by intro g hg; injection hg; omega)
 replace oS2 := oS2.grownBlk hg46 (Own.neT oS2 b2 (by decide))
 replace b8 := b8.grown hg46 (by intro h; injection h; omega)
 replace X := X.grown hg46 X.size (by intro g hg; injection hg; omega)
 clear hg46 b2
 refine aA rfl (aD rfl ?_)
 refine aB ?_
 refine aV ?_
 refine fV rfl rfl b5 dP rfl rfl ?_
 · skip
   have e : kF xs = jM xs := by rw [kF, if_pos hB]
   rw [e]
   have hO : rR xs = some ((⟨x0 * 65536 + x1 * 256 + x2, AN, rN.1, cN, AM, yM, cM, AS, yS, cS⟩ : MedlI)).d := by
     rw [zI hrN hrM hrS (by rw [e5]; omega), eid, ← eyM]; rfl
   have e : jM xs = (((⟨x0 * 65536 + x1 * 256 + x2, AN, rN.1, cN, AM, yM, cM, AS, yS, cS⟩ : MedlI)).d, 0) := aDC (by omega) hO hI
   rw [e]; exact ⟨⟨x0 * 65536 + x1 * 256 + x2, AN, rN.1, cN, AM, yM, cM, AS, yS, cS⟩, rfl, rfl, ⟨oN2, oM2, oM2n, djM, oS2⟩, X⟩
 replace hs := hs.ext x44
 replace b2 := b2.ext x44
 replace p3 := p3.ext x44
 replace oN2 := oN2.ext x44
 replace p4 := p4.ext x44
 replace oM2 := oM2.ext x44
 replace oM2n := oM2n.ext x44
 replace p5 := p5.ext x44
 replace oS2 := oS2.ext x44
 replace b8 := b8.ext x44
 replace X := Q7x X x44
 refine aA rfl (cD rfl ?_)
 refine aB ?_
 refine aR rfl ?_
 refine aE ?_
 refine aA rfl (cO qA dP rfl rfl ?_)
 refine aA rfl (aX b2 dP rfl rfl rfl rfl rfl rfl ?_)
 intro w50 b5 hg49 z51
 replace hs := hs.grown hg49 (by intro g hg; injection hg; omega)
 replace p3 := p3.grown hg49 (by intro g hg; injection hg; omega)
 replace oN2 := oN2.grownBlk hg49 (Own.neT oN2 b2 (by decide))
 replace p4 := p4.grown hg49 (by intro g hg; injection hg; omega)
 replace oM2 := oM2.grownBlk hg49 (Own.neT oM2 b2 (by decide))
 replace oM2n := oM2n.grownB b2 hg49 (by decide)
 replace p5 := p5.grown hg49 (by intro g hg; injection hg; omega)
 replace oS2 := oS2.grownBlk hg49 (Own.neT oS2 b2 (by decide))
 replace b8 := b8.grown hg49 (by intro h; injection h; omega)
 replace X := X.grown hg49 X.size (by intro g hg; injection hg; omega)
 clear hg49 b2
 refine aA rfl (aD rfl ?_)
 refine aB ?_
 refine aV ?_
 refine bU ?_
 refine fV rfl rfl b5 dP rfl rfl ?_
 · skip
   have e : kF xs = jM xs := by rw [kF, if_pos hB]
   rw [e]
   have hO : rR xs = some ((⟨x0 * 65536 + x1 * 256 + x2, AN, rN.1, cN, AM, yM, cM, AS, yS, cS⟩ : MedlI)).d := by
     rw [zI hrN hrM hrS (by rw [e5]; omega), eid, ← eyM]; rfl
   have e : jM xs = (zeroM.d, 1) := aF8 (by omega) hO hI
   rw [e]; exact ⟨zeroM, rfl, rfl, iI _ _ _ _ _ _, X⟩
 refine (dO dP ?_)
 intro g3 w53 eg3 b3 x52 zg3
 have lg3 : w.heap.size ≤ g3 := Q7l X.size (Q7e eg3.symm)
 have pg3hs := Q7l hs.1 (Q7e eg3.symm)
 have ng3b2 := Nat.lt_of_lt_of_eq b2.lt eg3.symm
 replace hs := hs.ext x52
 replace b2 := b2.ext x52
 replace X := Q7x X x52
 refine fM 1 rfl rfl (by kernel_rfl) (listed' := #[true, true, false, true, true, true, false, false]) rfl hs (aS aEq rfl (aO (aBu _ _ c xs.length xs x0 x1 x2 _ hs rfl hx0 hx1 hx2 hxb0 hxb1 hxb2) ?_))
 rintro _ w55 ⟨rfl, x54⟩
 replace hs := hs.ext x54
 replace b2 := b2.ext x54
 replace b3 := b3.ext x54
 replace X := Q7x X x54
 refine dI 2 rfl (by kernel_rfl) rfl (by kernel_rfl) (listed' := #[true, true, true, true, true, true, false, false]) rfl (fun wq sq => cO qA dP rfl rfl ⟨rfl, rfl⟩) ?_
 refine fM 6 rfl rfl (by kernel_rfl) (listed' := #[true, true, true, true, true, true, true, false]) rfl hs (aX b3 dP rfl rfl rfl rfl rfl rfl ?_)
 intro w57 b4 hg56 z58
 replace hs := hs.grown hg56 (by intro g hg; injection hg; omega)
 replace b2 := b2.grown hg56 (by intro h; injection h; omega)
 replace X := X.grown hg56 X.size (by intro g hg; injection hg; omega)
 clear hg56 b3
 refine dI 7 rfl (by kernel_rfl) rfl (by kernel_rfl) (listed' := #[true, true, true, true, true, true, true, true]) rfl (fun wq sq => aD rfl ⟨rfl, rfl⟩) ?_
 refine kA rfl hs (fun aj fj => ⟨_, fj, ?_⟩)
 refine aE ?_
 have p3 := hs.dropX 3 hcap
 refine aA rfl (aC rfl ?_)
 refine aA rfl (aS aH9 rfl (aO (wR _ B (c - 3) (xs.length - 3) (xs.drop 3) _ p3 (by omega) (jR hB 3) (by omega) e3) ?_))
 rintro _ w60 ⟨AN, cN, yN, szN, okN, rfl, eN, oN2, x59⟩
 replace oN2 := Own.low oN2 X.size
 replace hs := hs.ext x59
 replace b2 := b2.ext x59
 replace b4 := b4.ext x59
 replace p3 := p3.ext x59
 replace X := Q7x X x59
 obtain ⟨kN, ezN, hkNl⟩ := eN.sz
 subst ezN
 have e4 : ((xs.drop 3).drop kN).length = ((xs.length - 3) - kN) := by rw [List.length_drop, e3]
 refine aA rfl (aC rfl ?_)
 refine aA rfl (dG rfl rfl ?_)
 refine aA rfl (dG rfl rfl ?_)
 refine aA rfl (dG rfl rfl ?_)
 refine aA rfl (aD rfl ?_)
 refine aA rfl (aD rfl ?_)
 refine aA rfl (aD rfl ?_)
 refine aB ?_
 refine aE ?_
 refine aA rfl (aC rfl ?_)
 refine aA rfl (aC rfl ?_)
 refine aA rfl (tH dA p3 bL rfl rfl rfl e3.symm (by omega) (by omega) ?_)
 intro A4 p4
 refine aA rfl (aD rfl ?_)
 refine aB ?_
 refine aE ?_
 refine aA rfl (aC rfl ?_)
 refine aA rfl (aS aIa rfl (aO (wS A4 B ((c - 3) - kN) ((xs.length - 3) - kN) ((xs.drop 3).drop kN) _ p4 (by omega) (jR (jR hB 3) _) (by omega) e4) ?_))
 rintro _ w62 ⟨AM, cM, yM, szM, okM, rfl, eM, djM, oM2, oM2n, x61⟩
 replace oM2 := Own.low oM2 X.size
 replace oM2n := NOwn.low oM2n X.size
 replace hs := hs.ext x61
 replace b2 := b2.ext x61
 replace b4 := b4.ext x61
 replace p3 := p3.ext x61
 replace oN2 := oN2.ext x61
 replace p4 := p4.ext x61
 replace X := Q7x X x61
 obtain ⟨kM, ezM, hkMl⟩ := eM.sz
 subst ezM
 have e5 : (((xs.drop 3).drop kN).drop kM).length = (((xs.length - 3) - kN) - kM) := by rw [List.length_drop, e4]
 refine aA rfl (aC rfl ?_)
 refine aA rfl (dG rfl rfl ?_)
 refine aA rfl (dG rfl rfl ?_)
 refine aA rfl (dG rfl rfl ?_)
 refine aA rfl (aD rfl ?_)
 refine aA rfl (aD rfl ?_)
 refine aA rfl (aD rfl ?_)
 refine aB ?_
 refine aE ?_
 refine aA rfl (aC rfl ?_)
 refine aA rfl (aC rfl ?_)
 refine aA rfl (tH dA p4 bL rfl rfl rfl e4.symm (by omega) (by omega) ?_)
 intro A5 p5
 refine aA rfl (aD rfl ?_)
 refine aB ?_
 refine aE ?_
 refine aA rfl (aC rfl ?_)
 refine aA rfl (aS aIb rfl (aO (wT A5 B (((c - 3) - kN) - kM) (((xs.length - 3) - kN) - kM) (((xs.drop 3).drop kN).drop kM) _ p5 (by omega) (jR (jR (jR hB 3) _) _) (by omega) e5) ?_))
 rintro _ w65 ⟨AS, cS, yS, szS, okS, rfl, eS, oS2, x63⟩
 replace oS2 := Own.low oS2 X.size
 replace hs := hs.ext x63
 replace b2 := b2.ext x63
 replace b4 := b4.ext x63
 replace p3 := p3.ext x63
 replace oN2 := oN2.ext x63
 replace p4 := p4.ext x63
 replace oM2 := oM2.ext x63
 replace oM2n := oM2n.ext x63
 replace p5 := p5.ext x63
 replace X := Q7x X x63
 refine aA rfl (aC rfl ?_)
 refine aA rfl (dG rfl rfl ?_)
 refine aA rfl (dG rfl rfl ?_)
 refine aA rfl (dG rfl rfl ?_)
 refine aA rfl (aD rfl ?_)
 refine aA rfl (aD rfl ?_)
 refine aA rfl (aD rfl ?_)
 refine aB ?_
 refine aQ ?_
 refine aE ?_
 refine aA rfl (aC rfl ?_)
 cases hkN : okN
 subst hkN
 have hrN := (eN.f).1
 refine aA rfl (cD rfl ?_)
 refine aA rfl (aC rfl ?_)
 refine aG rfl rfl rfl rfl ?_
 refine aG rfl rfl rfl rfl ?_
 refine aA rfl (aJ rfl rfl ?_)
 refine aA rfl (aC rfl ?_)
 refine aG rfl rfl rfl rfl ?_
 refine aG rfl rfl rfl rfl ?_
 refine aA rfl (aJ rfl rfl ?_)
 refine aA rfl (aC rfl ?_)
 refine aG rfl rfl rfl rfl ?_
 refine aG rfl rfl rfl rfl ?_
 refine aG rfl rfl rfl rfl ?_
 refine aG rfl rfl rfl rfl ?_
 refine aA rfl (aJ rfl rfl ?_)
 refine aB ?_
 refine aR rfl ?_
 refine aE ?_
 refine aA rfl (cO qA dP rfl rfl ?_)
 refine aA rfl (aX b2 dP rfl rfl rfl rfl rfl rfl ?_)
 intro w67 b5 hg66 z68
 replace hs := hs.grown hg66 (by intro g hg; injection hg; omega)
 replace b4 := b4.grown hg66 (by intro h; injection h; omega)
 replace p3 := p3.grown hg66 (by intro g hg; injection hg; omega)
 replace oN2 := oN2.grownBlk hg66 (Own.neT oN2 b2 (by decide))
 replace p4 := p4.grown hg66 (by intro g hg; injection hg; omega)
 replace oM2 := oM2.grownBlk hg66 (Own.neT oM2 b2 (by decide))
 replace oM2n := oM2n.grownB b2 hg66 (by decide)
 replace p5 := p5.grown hg66 (by intro g hg; injection hg; omega)
 replace oS2 := oS2.grownBlk hg66 (Own.neT oS2 b2 (by decide))
 replace X := X.grown hg66 X.size (by intro g hg; injection hg; omega)
 clear hg66 b2
 refine aA rfl (aD rfl ?_)
 refine aB ?_
 refine aV ?_
 refine bU ?_
 refine fV rfl rfl b5 dP rfl rfl ?_
 · skip
   have e : kF xs = jM xs := by rw [kF, if_pos hB]
   rw [e]
   have e : jM xs = (zeroM.d, 6) := sB (by omega) (aF4 hrN)
   rw [e]; exact ⟨zeroM, rfl, rfl, iI _ _ _ _ _ _, X⟩
 subst hkN
 obtain ⟨rN, hrN, eyN, ezN⟩ := eN.t
 subst eyN
 obtain rfl : kN = rN.2 := by omega
 have hiN := aDn hrN
 refine aA rfl (cD rfl ?_)
 refine aA rfl (aC rfl ?_)
 refine aH rfl rfl rfl (aC rfl ?_)
 cases hkM : okM
 subst hkM
 have hrM := eM.f
 refine aH rfl rfl rfl (cD rfl ?_)
 refine aA rfl (aJ rfl rfl ?_)
 refine aA rfl (aC rfl ?_)
 refine aG rfl rfl rfl rfl ?_
 refine aG rfl rfl rfl rfl ?_
 refine aA rfl (aJ rfl rfl ?_)
 refine aA rfl (aC rfl ?_)
 refine aG rfl rfl rfl rfl ?_
 refine aG rfl rfl rfl rfl ?_
 refine aG rfl rfl rfl rfl ?_
 refine aG rfl rfl rfl rfl ?_
 refine aA rfl (aJ rfl rfl ?_)
 refine aB ?_
 refine aR rfl ?_
 refine aE ?_
 refine aA rfl (cO qA dP rfl rfl ?_)
 refine aA rfl (aX b2 dP rfl rfl rfl rfl rfl rfl ?_)
 intro w70 b5 hg69 z71
 replace hs := hs.grown hg69 (by intro g hg; injection hg; omega)
 replace b4 := b4.grown hg69 (by intro h; injection h; omega)
 replace p3 := p3.grown hg69 (by intro g hg; injection hg; omega)
 replace oN2 := oN2.grownBlk hg69 (Own.neT oN2 b2 (by decide))
 replace p4 := p4.grown hg69 (by intro g hg; injection hg; omega)
 replace oM2 := oM2.grownBlk hg69 (Own.neT oM2 b2 (by decide))
 replace oM2n := oM2n.grownB b2 hg69 (by decide)
 replace p5 := p5.grown hg69 (by intro g hg; injection hg; omega)
 replace oS2 := oS2.grownBlk hg69 (Own.neT oS2 b2 (by decide))
 replace X := X.grown hg69 X.size (by intro g hg; injection hg; omega)
 clear hg69 b2
 refine aA rfl (aD rfl ?_)
 refine aB ?_
 refine aV ?_
 refine bU ?_
 refine fV rfl rfl b5 dP rfl rfl ?_
 · skip
   have e : kF xs = jM xs := by rw [kF, if_pos hB]
   rw [e]
   have e : jM xs = (zeroM.d, 6) := sB (by omega) (aF5 hrN hrM)
   rw [e]; exact ⟨zeroM, rfl, rfl, iI _ _ _ _ _ _, X⟩
 subst hkM
 obtain ⟨rM, hrM, eyM, ezM⟩ := eM.t
 obtain rfl : kM = rM.2 := by omega
 have hiM := aDc hrM
 refine aH rfl rfl rfl (cD rfl ?_)
 refine aA rfl (aJ rfl rfl ?_)
 refine aA rfl (aC rfl ?_)
 refine aH rfl rfl rfl (aC rfl ?_)
 cases hkS : okS
 subst hkS
 have hrS := eS.f
 refine aH rfl rfl rfl (cD rfl ?_)
 refine aA rfl (aJ rfl rfl ?_)
 refine aA rfl (aC rfl ?_)
 refine aG rfl rfl rfl rfl ?_
 refine aG rfl rfl rfl rfl ?_
 refine aG rfl rfl rfl rfl ?_
 refine aG rfl rfl rfl rfl ?_
 refine aA rfl (aJ rfl rfl ?_)
 refine aB ?_
 refine aR rfl ?_
 refine aE ?_
 refine aA rfl (cO qA dP rfl rfl ?_)
 refine aA rfl (aX b2 dP rfl rfl rfl rfl rfl rfl ?_)
 intro w73 b5 hg72 z74
 replace hs := hs.grown hg72 (by intro g hg; injection hg; omega)
 replace b4 := b4.grown hg72 (by intro h; injection h; omega)
 replace p3 := p3.grown hg72 (by intro g hg; injection hg; omega)
 replace oN2 := oN2.grownBlk hg72 (Own.neT oN2 b2 (by decide))
 replace p4 := p4.grown hg72 (by intro g hg; injection hg; omega)
 replace oM2 := oM2.grownBlk hg72 (Own.neT oM2 b2 (by decide))
 replace oM2n := oM2n.grownB b2 hg72 (by decide)
 replace p5 := p5.grown hg72 (by intro g hg; injection hg; omega)
 replace oS2 := oS2.grownBlk hg72 (Own.neT oS2 b2 (by decide))
 replace X := X.grown hg72 X.size (by intro g hg; injection hg; omega)
 clear hg72 b2
 refine aA rfl (aD rfl ?_)
 refine aB ?_
 refine aV ?_
 refine bU ?_
 refine fV rfl rfl b5 dP rfl rfl ?_
 · skip
   have e : kF xs = jM xs := by rw [kF, if_pos hB]
   rw [e]
   have e : jM xs = (zeroM.d, 6) := sB (by omega) (aF6 hrN hrM hrS)
   rw [e]; exact ⟨zeroM, rfl, rfl, iI _ _ _ _ _ _, X⟩
 subst hkS
 obtain ⟨hrS, ezS⟩ := eS.t
 subst ezS
 have hiS := aD8 hrS
 refine aH rfl rfl rfl (cD rfl ?_)
 refine aA rfl (aJ rfl rfl ?_)
 refine aA rfl (aC rfl ?_)
 refine aH rfl rfl rfl (aC rfl ?_)
 refine aH rfl rfl rfl (aC rfl ?_)
 refine aH rfl rfl rfl (cQ Tryz.underlying30 rfl ?_)
 refine aH rfl rfl rfl (cH rfl rfl (fun hLt => ?_) (fun hLt => ?_))
 refine aA rfl (aJ rfl rfl ?_)
 refine aB ?_
 refine aR rfl ?_
 refine aE ?_
 refine aA rfl (cO qA dP rfl rfl ?_)
 refine aA rfl (aX b2 dP rfl rfl rfl rfl rfl rfl ?_)
 intro w76 b5 hg75 z77
 replace hs := hs.grown hg75 (by intro g hg; injection hg; omega)
 replace b4 := b4.grown hg75 (by intro h; injection h; omega)
 replace p3 := p3.grown hg75 (by intro g hg; injection hg; omega)
 replace oN2 := oN2.grownBlk hg75 (Own.neT oN2 b2 (by decide))
 replace p4 := p4.grown hg75 (by intro g hg; injection hg; omega)
 replace oM2 := oM2.grownBlk hg75 (Own.neT oM2 b2 (by decide))
 replace oM2n := oM2n.grownB b2 hg75 (by decide)
 replace p5 := p5.grown hg75 (by intro g hg; injection hg; omega)
 replace oS2 := oS2.grownBlk hg75 (Own.neT oS2 b2 (by decide))
 replace X := X.grown hg75 X.size (by intro g hg; injection hg; omega)
 clear hg75 b2
 refine aA rfl (aD rfl ?_)
 refine aB ?_
 refine aV ?_
 refine bU ?_
 refine fV rfl rfl b5 dP rfl rfl ?_
 · skip
   have e : kF xs = jM xs := by rw [kF, if_pos hB]
   rw [e]
   have e : jM xs = (zeroM.d, 6) := sB (by omega) (aF7 hrN hrM hrS (by rw [e5]; omega))
   rw [e]; exact ⟨zeroM, rfl, rfl, iI _ _ _ _ _ _, X⟩
 refine aA rfl (aJ rfl rfl ?_)
 refine aB ?_
 refine aL rfl ?_
 refine aU ?_
 refine aP ?_
 refine aE ?_
 refine aA rfl (aC rfl ?_)
 refine aA rfl (aC rfl ?_)
 refine aA rfl (aC rfl ?_)
 refine aA rfl (aF kP rfl rfl ?_)
 refine aA rfl (aX b4 vV rfl rfl rfl rfl rfl rfl ?_)
 intro w79 b6 hg78 z80
 replace hs := hs.grown hg78 (by intro g hg; injection hg; omega)
 replace b2 := b2.grown hg78 (by intro h; injection h; omega)
 replace p3 := p3.grown hg78 (by intro g hg; injection hg; omega)
 replace oN2 := oN2.grownBlk hg78 (Own.neT oN2 b4 (by decide))
 replace p4 := p4.grown hg78 (by intro g hg; injection hg; omega)
 replace oM2 := oM2.grownBlk hg78 (Own.neT oM2 b4 (by decide))
 replace oM2n := oM2n.grownB b4 hg78 (by decide)
 replace p5 := p5.grown hg78 (by intro g hg; injection hg; omega)
 replace oS2 := oS2.grownBlk hg78 (Own.neT oS2 b4 (by decide))
 replace X := X.grown hg78 X.size (by intro g hg; injection hg; omega)
 clear hg78 b4
 refine aA rfl (aF fO rfl rfl ?_)
 refine aA rfl (aX b6 mK rfl rfl rfl rfl rfl rfl ?_)
 intro w82 b7 hg81 z83
 replace hs := hs.grown hg81 (by intro g hg; injection hg; omega)
 replace b2 := b2.grown hg81 (by intro h; injection h; omega)
 replace p3 := p3.grown hg81 (by intro g hg; injection hg; omega)
 replace oN2 := oN2.grownBlk hg81 (Own.neT oN2 b6 (by decide))
 replace p4 := p4.grown hg81 (by intro g hg; injection hg; omega)
 replace oM2 := oM2.grownBlk hg81 (Own.neT oM2 b6 (by decide))
 replace oM2n := oM2n.grownB b6 hg81 (by decide)
 replace p5 := p5.grown hg81 (by intro g hg; injection hg; omega)
 replace oS2 := oS2.grownBlk hg81 (Own.neT oS2 b6 (by decide))
 replace X := X.grown hg81 X.size (by intro g hg; injection hg; omega)
 clear hg81 b6
 refine aA rfl (aF dU rfl rfl ?_)
 refine aA rfl (aX b7 iF rfl rfl rfl rfl rfl rfl ?_)
 intro w85 b8 hg84 z86
 replace hs := hs.grown hg84 (by intro g hg; injection hg; omega)
 replace b2 := b2.grown hg84 (by intro h; injection h; omega)
 replace p3 := p3.grown hg84 (by intro g hg; injection hg; omega)
 replace oN2 := oN2.grownBlk hg84 (Own.neT oN2 b7 (by decide))
 replace p4 := p4.grown hg84 (by intro g hg; injection hg; omega)
 replace oM2 := oM2.grownBlk hg84 (Own.neT oM2 b7 (by decide))
 replace oM2n := oM2n.grownB b7 hg84 (by decide)
 replace p5 := p5.grown hg84 (by intro g hg; injection hg; omega)
 replace oS2 := oS2.grownBlk hg84 (Own.neT oS2 b7 (by decide))
 replace X := X.grown hg84 X.size (by intro g hg; injection hg; omega)
 clear hg84 b7
 refine aB ?_
 refine aQ ?_
 refine aE ?_
 have hsm : MedlI.small ⟨x0 * 65536 + x1 * 256 + x2, AN, rN.1, cN, AM, yM, cM, AS, yS, cS⟩ := aAR hiN.1 (by rw [eyM]; exact hiM.2.2.2) hiS.2.2
 have hMo : MOwn _ w.heap.size 59 92 2 89 ⟨x0 * 65536 + x1 * 256 + x2, AN, rN.1, cN, AM, yM, cM, AS, yS, cS⟩ := ⟨oN2, oM2, oM2n, djM, oS2⟩
 refine aA rfl (bO b8 dP rfl rfl ?_)
 refine aA rfl (cW aEp rfl (sW ⟨x0 * 65536 + x1 * 256 + x2, AN, rN.1, cN, AM, yM, cM, AS, yS, cS⟩ _ _ hMo.med hsm) (fun w88 hI x87 => ?_) (fun w88 hI x87 => ?_))
 replace hs := hs.ext x87
 replace b2 := b2.ext x87
 replace p3 := p3.ext x87
 replace oN2 := oN2.ext x87
 replace p4 := p4.ext x87
 replace oM2 := oM2.ext x87
 replace oM2n := oM2n.ext x87
 replace p5 := p5.ext x87
 replace oS2 := oS2.ext x87
 replace b8 := b8.ext x87
 replace X := Q7x X x87
 refine aA rfl (cD rfl ?_)
 refine aB ?_
 refine aL rfl ?_
 refine aU ?_
 refine aP ?_
 refine aE ?_
 refine aA rfl (bO b8 dP rfl rfl ?_)
 refine aA rfl (aX b2 dP rfl rfl rfl rfl rfl rfl ?_)
 intro w90 b5 hg89 z91
 replace hs := hs.grown hg89 (by intro g hg; injection hg; omega)
 replace p3 := p3.grown hg89 (by intro g hg; injection hg; omega)
 replace oN2 := oN2.grownBlk hg89 (Own.neT oN2 b2 (by decide))
 replace p4 := p4.grown hg89 (by intro g hg; injection hg; omega)
 replace oM2 := oM2.grownBlk hg89 (Own.neT oM2 b2 (by decide))
 replace oM2n := oM2n.grownB b2 hg89 (by decide)
 replace p5 := p5.grown hg89 (by intro g hg; injection hg; omega)
 replace oS2 := oS2.grownBlk hg89 (Own.neT oS2 b2 (by decide))
 replace b8 := b8.grown hg89 (by intro h; injection h; omega)
 replace X := X.grown hg89 X.size (by intro g hg; injection hg; omega)
 clear hg89 b2
 refine aA rfl (aD rfl ?_)
 refine aB ?_
 refine aV ?_
 refine fV rfl rfl b5 dP rfl rfl ?_
 · skip
   have e : kF xs = jM xs := by rw [kF, if_pos hB]
   rw [e]
   have hO : rR xs = some ((⟨x0 * 65536 + x1 * 256 + x2, AN, rN.1, cN, AM, yM, cM, AS, yS, cS⟩ : MedlI)).d := by
     rw [zI hrN hrM hrS (by rw [e5]; omega), eid, ← eyM]; rfl
   have e : jM xs = (((⟨x0 * 65536 + x1 * 256 + x2, AN, rN.1, cN, AM, yM, cM, AS, yS, cS⟩ : MedlI)).d, 0) := aDC (by omega) hO hI
   rw [e]; exact ⟨⟨x0 * 65536 + x1 * 256 + x2, AN, rN.1, cN, AM, yM, cM, AS, yS, cS⟩, rfl, rfl, ⟨oN2, oM2, oM2n, djM, oS2⟩, X⟩
 replace hs := hs.ext x87
 replace b2 := b2.ext x87
 replace p3 := p3.ext x87
 replace oN2 := oN2.ext x87
 replace p4 := p4.ext x87
 replace oM2 := oM2.ext x87
 replace oM2n := oM2n.ext x87
 replace p5 := p5.ext x87
 replace oS2 := oS2.ext x87
 replace b8 := b8.ext x87
 replace X := Q7x X x87
 refine aA rfl (cD rfl ?_)
 refine aB ?_
 refine aR rfl ?_
 refine aE ?_
 refine aA rfl (cO qA dP rfl rfl ?_)
 refine aA rfl (aX b2 dP rfl rfl rfl rfl rfl rfl ?_)
 intro w93 b5 hg92 z94
 replace hs := hs.grown hg92 (by intro g hg; injection hg; omega)
 replace p3 := p3.grown hg92 (by intro g hg; injection hg; omega)
 replace oN2 := oN2.grownBlk hg92 (Own.neT oN2 b2 (by decide))
 replace p4 := p4.grown hg92 (by intro g hg; injection hg; omega)
 replace oM2 := oM2.grownBlk hg92 (Own.neT oM2 b2 (by decide))
 replace oM2n := oM2n.grownB b2 hg92 (by decide)
 replace p5 := p5.grown hg92 (by intro g hg; injection hg; omega)
 replace oS2 := oS2.grownBlk hg92 (Own.neT oS2 b2 (by decide))
 replace b8 := b8.grown hg92 (by intro h; injection h; omega)
 replace X := X.grown hg92 X.size (by intro g hg; injection hg; omega)
 clear hg92 b2
 refine aA rfl (aD rfl ?_)
 refine aB ?_
 refine aV ?_
 refine bU ?_
 refine fV rfl rfl b5 dP rfl rfl ?_
 · skip
   have e : kF xs = jM xs := by rw [kF, if_pos hB]
   rw [e]
   have hO : rR xs = some ((⟨x0 * 65536 + x1 * 256 + x2, AN, rN.1, cN, AM, yM, cM, AS, yS, cS⟩ : MedlI)).d := by
     rw [zI hrN hrM hrS (by rw [e5]; omega), eid, ← eyM]; rfl
   have e : jM xs = (zeroM.d, 1) := aF8 (by omega) hO hI
   rw [e]; exact ⟨zeroM, rfl, rfl, iI _ _ _ _ _ _, X⟩
 replace hs := hs.ext x3
 replace b2 := b2.ext x3
 replace X := Q7x X x3
 refine aA rfl (cD rfl ?_)
 refine aB ?_
 refine aR rfl ?_
 refine aE ?_
 refine aA rfl (cO qA dP rfl rfl ?_)
 refine aA rfl (aX b2 dP rfl rfl rfl rfl rfl rfl ?_)
 intro w96 b5 hg95 z97
 replace hs := hs.grown hg95 (by intro g hg; injection hg; omega)
 replace X := X.grown hg95 X.size (by intro g hg; injection hg; omega)
 clear hg95 b2
 refine aA rfl (aD rfl ?_)
 refine aB ?_
 refine aV ?_
 refine bU ?_
 refine fV rfl rfl b5 dP rfl rfl ?_
 · skip
   have e : kF xs = (zeroM.d, 2) := by rw [kF, if_neg (by rw [hIB]; decide)]
   rw [e]; exact ⟨zeroM, rfl, rfl, iI _ _ _ _ _ _, X⟩
end Go.Proofs.YtdoibplhbdkapaaGreatDoor
