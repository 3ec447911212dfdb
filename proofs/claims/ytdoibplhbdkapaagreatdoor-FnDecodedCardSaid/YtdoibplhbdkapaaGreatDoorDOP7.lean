/- Parts. No condition. -/
import Derived.Test.YtdoibplhbdkapaaGreatDoorDOP4
import Derived.RangeFuncFrom
import Derived.RangeFuncBox
import Derived.RangeFuncLeaves
import Derived.RangeFuncCalls
import Derived.TacticsIn
import Derived.RangeFuncBound
import Derived.Test.YtdoibplhbdkapaaGreatDoorDOP5
namespace Go.Proofs.YtdoibplhbdkapaaGreatDoor
open Go.RowKit
set_option linter.unusedVariables false
set_option linter.unusedSimpArgs false
def WideF (F : Fence) : Prop := F = Fence.wide ∨ ∃ l, F = Fence.wide.inRound l
theorem WideF.w : WideF Fence.wide := .inl rfl
theorem WideF.r (l : Nat) : WideF (Fence.wide.inRound l) := .inr ⟨l, rfl⟩
theorem aHO {F : Fence} (hF : WideF F) {m : Nat} {P : Program} {f : FuncId} {args : Array Value} {w : World} {R : Ending → World → Prop} (h : Calls P f args w R) : CallsIn F m P f args w R := by
 rcases hF with rfl | ⟨l, rfl⟩
 · exact callsIn_wide.2 h
 · exact CallsIn.inRound l (callsIn_wide.2 h)
theorem WideF.fn {F : Fence} (hF : WideF F) (f : FuncId) : F.fn f := by
 rcases hF with rfl | ⟨l, rfl⟩ <;> trivial
theorem WideF.deep {F : Fence} (hF : WideF F) (m : Nat) : F.depth.isSome = true → 1 ≤ m := by
 rcases hF with rfl | ⟨l, rfl⟩ <;> (intro h; cases h)
def aJf : Op → Bool
 | .defer _ => false
 | _ => true
theorem aED {op : Op} (h : aJf op = true) : ∀ c, op ≠ .defer c := fun c e => by subst e; cases h
def FitsD (D : List Deferred) (n : Nat) (e : List (Nat × Value)) (a : Act) : Prop := a.defers = D ∧ a.tmps.size = n ∧ ∀ t v, lk e t = some v → a.tmps.getD t undef = v
theorem FitsD.fits {D : List Deferred} {n : Nat} {e : List (Nat × Value)} {a : Act} (h : FitsD D n e a) : Fits n e { a with defers := [] } := ⟨rfl, h.2.1, h.2.2⟩
theorem FitsD.knows {D : List Deferred} {n : Nat} {e : List (Nat × Value)} {a : Act} (h : FitsD D n e a) : aCJ e a.eval := h.fits.knows
theorem FitsD.put {D : List Deferred} {n : Nat} {e : List (Nat × Value)} {a : Act} (h : FitsD D n e a) (d : Option Tmp) (v : Value) (hd : iT n d = true) : FitsD D n (kK e d v) (a.put d v) := by
 have h1 := h.fits.put d v hd
 have h2 : ({ a with defers := [] } : Act).put d v = { a.put d v with defers := [] } := by cases d <;> rfl
 have h3 : (a.put d v).defers = a.defers := by cases d <;> rfl
 rw [h2] at h1
 exact ⟨h3.trans h.1, h1.2.1, h1.2.2⟩
section
variable {F : Fence} {m : Nat} {P : Program} {n : Nat} {D : List Deferred} {ops : Array Oper} {rest : List Oper} {e : List (Nat × Value)} {w : World} {K : List (Nat × Value) → World → Prop}
theorem aCA (hF : WideF F) {o : Oper} {a : Act} {w : World} {K : Value → World → Prop} {next : Act → World → Prop} {Q : Exit → Act → World → Prop} (hd : ∀ c, o.op ≠ .defer c)
   (h : upto P K ((execOp a.eval o).run P w)) (hk : ∀ v w', K v w' → next (a.put o.dst v) w') : o.wpIn F m P a w next Q := by
 refine ⟨fun f _ => hF.fn f, ?_⟩
 rw [Oper.semAt_eq _ _ _ hd]
 generalize (execOp a.eval o).run P w = r at *
 cases r with
 | halt x w => exact h.elim
 | ok n w =>
   cases n <;> simp only [upto] at h <;> simp only [Oper.uponIn] <;> first
     | exact hk _ _ h
     | exact ⟨hF.deep m, aHO hF (Calls.mono h (fun e w'' he => by cases e <;> first | exact hk _ _ he | exact he.elim))⟩
def aA5 (F : Fence) (m : Nat) (P : Program) (n : Nat) (D : List Deferred) (ops : Array Oper) (l : List Oper) (e : List (Nat × Value)) (w : World) (K : List (Nat × Value) → World → Prop) : Prop :=
 ∀ (a : Act) (Q : Exit → Act → World → Prop), FitsD D n e a → (∀ e' a' w', FitsD D n e' a' → K e' w' → Q .normal a' w') → wpListIn F m P ops Q l a w
theorem rL (h : K e w) : aA5 F m P n D ops [] e w K := fun _ _ ha hK => wpListIn_nil (hK _ _ _ ha h)
theorem fN (hF : WideF F) {dst : Option Tmp} {op : Op} {ty : TypeId} {pos : String} {af : Array Edge} (hd : iT n dst = true) (hn : aJf op = true)
   (h : OpWp P e op ty w fun v w' => aA5 F m P n D ops rest (kK e dst v) w' K) : aA5 F m P n D ops (⟨dst, op, ty, pos, af, none⟩ :: rest) e w K :=
 fun a Q ha hK => wpListIn_plain rfl fun K' hK' => aCA hF (o := ⟨dst, op, ty, pos, af, none⟩) (aED hn) (h a.eval dst pos af none ha.knows) fun v w' hv => hK' _ _ (hv _ Q (ha.put dst v hd) hK)
theorem aEE (hF : WideF F) {dst : Option Tmp} {x : Operand} {args : Array Operand} {ts : Array TypeId} {vs : List Value} {l : Nat} {ty : TypeId} {pos : String} {af : Array Edge} (hd : iT n dst = true)
   (hx : fV e x = some (.func (.yield l) #[] #[])) (hy : tH e args.toList = some vs)
   (h : YieldAt F (m - 1) P l vs.toArray w fun en w' => ∃ v, en = .returned v ∧ aA5 F m P n D ops rest (kK e dst v) w' K) : aA5 F m P n D ops (⟨dst, .call ⟨.value x, args, ts⟩, ty, pos, af, none⟩ :: rest) e w K :=
 fun a Q ha hK => wpListIn_plain rfl fun K' hK' => by
   have h1 : args.map a.eval = vs.toArray := Array.ext' (by simpa using pU ha.knows _ _ hy)
   have h2 := ha.knows _ _ hx
   obtain ⟨fn, tmps, assign, body, hy, hR⟩ := h
   refine ⟨fun f _ => hF.fn f, ?_⟩
   rw [Oper.semAt_eq _ _ _ (fun c h => by cases h)]
   have hr : (execOp a.eval ⟨dst, .call ⟨.value x, args, ts⟩, ty, pos, af, none⟩).run P w = .ok (.round l fn tmps assign body) w := by
     simp only [execOp, resolve, h1, h2, Deferred.ofValue, invoke]
     simp only [Sem.run_bind, Sem.run_pure, Result.andThen_ok, Array.append_empty, Array.empty_append]
     exact hy
   rw [hr, Oper.uponIn_round]
   refine ⟨hF.deep m, hR.mono ?_⟩
   rintro en w' ⟨v, rfl, hv⟩
   exact hK' _ _ (hv _ Q (ha.put dst v hd) hK)
end
section
variable {m : Nat} {P : Program} {n : Nat} {e : List (Nat × Value)} {w : World} {Q : Exit → List (Nat × Value) → World → Prop}
theorem aKR (m : Nat) {id : Nat} {l : List Oper} (h : aA5 Fence.wide m P n [] l.toArray l e w (fun e' w' => Q .normal e' w')) : rT P n (.region id l.toArray false) e w Q :=
 fun a ha => (wpIn_wide (n := m)).1 (wpIn_region_lit (h a _ ha fun e' _ _ hf hk => ⟨e', hf, hk⟩))
theorem aKS (m : Nat) {id : Nat} {l : List Oper} {y : Code} (h : aA5 Fence.wide m P n [] l.toArray l e w (fun e' w' => rT P n y e' w' Q)) : rT P n (.seq (.region id l.toArray false) y) e w Q := aR (aKR m h)
end
theorem aBM {w w' : World} (h : Ext w w') : w.grownBy w' none := ⟨h.os, h.tape, h.output, h.size, fun k hk _ => h.block k hk⟩
theorem aEF {β : Type} {B : Nat} {J : β → World → Prop} (hJ : AbidesFrom B J) {s : β} {w w' : World} (h : J s w) (x : Ext w w') : J s w' := hJ s w w' none h (aBM x) (fun r e => by cases e)
section
variable {P : Program} {e : List (Nat × Value)} {ty : TypeId} {w : World} {K : Value → World → Prop} {x lo hi mx : Operand} {t el : TypeId} {s n c l h : Nat} {A : Option Addr} {k1 k2 k3 : IntKind} {m1 m2 m3 : Int}
theorem wI (ht : elO P t = some (el, s)) (hx : fV e x = some (.slice A n c)) (h1 : fV e lo = some (.int k1 m1)) (e1 : m1 = (l : Int)) (hl : l ≤ n) (hK : K (.slice (if c = l then A else A.map (·.add (l * s))) (n - l) (c - l)) w) : OpWp P e (.slice t x (some lo) none none) ty w K := fun ρ d p a g hρ => by
 have g0 := hρ _ _ hx; have g1 := hρ _ _ h1
 obtain ⟨hu, hsz⟩ := uX ht
 subst e1
 have hr := run_slice_l (P := P) (w := w) t A n c hu k1 (l : Int) (by omega) (by omega)
 simp only [execOp, g0, Option.map_some, Option.map_none, g1, Sem.run_bind, run_sliceAt_slice w t _ _ _ _ hu, hr, hsz, Result.andThen_ok, Sem.run_pure, upto, sliced, Int.toNat_natCast]
 exact hK
theorem aDA (ht : elO P t = some (el, 1)) (hx : fV e x = some (.slice A n c)) (h1 : fV e lo = some (.int k1 m1)) (h2 : fV e hi = some (.int k2 m2)) (h3 : fV e mx = some (.int k3 m3)) (e1 : m1 = (l : Int)) (e2 : m2 = (h : Int)) (e3 : m3 = (h : Int)) (hlh : l < h) (hc : h ≤ c)
   (hK : K (.slice (A.map (·.add l)) (h - l) (h - l)) w) : OpWp P e (.slice t x (some lo) (some hi) (some mx)) ty w K := fun ρ d p a g hρ => by
 have g0 := hρ _ _ hx; have g1 := hρ _ _ h1; have g2 := hρ _ _ h2; have g3 := hρ _ _ h3
 obtain ⟨hu, hsz⟩ := uX ht
 subst e1; subst e2; subst e3
 have hr := run_slice_lhm (P := P) (w := w) t A n c hu k1 k2 k3 (l : Int) (h : Int) (h : Int) (by omega) (by omega) (by omega) (by omega)
 simp only [execOp, g0, Option.map_some, Option.map_none, g1, g2, g3, Sem.run_bind, run_sliceAt_slice w t _ _ _ _ hu, hr, hsz, Result.andThen_ok, Sem.run_pure, upto, sliced, Int.toNat_natCast]
 rw [if_neg (by omega), Nat.mul_one]
 exact hK
end
def JK {β : Type} (J : β → World → Prop) (B : Nat) (s : β) (w : World) : Prop := AbidesFrom B J ∧ J s w
theorem JK.ext {β : Type} {J : β → World → Prop} {B : Nat} {s : β} {w w' : World} (h : JK J B s w) (x : Ext w w') : JK J B s w' := ⟨h.1, aEF h.1 h.2 x⟩
theorem aGb {en : Ending} {A B : Prop} (h : (en = .returned (.bool true) ∧ A) ∨ (en = .returned (.bool false) ∧ B)) : ∃ b, en = .returned (.bool b) ∧ (b = true → A) ∧ (b = false → B) := by
 rcases h with ⟨h, a⟩ | ⟨h, b⟩
 · exact ⟨true, h, (fun _ => a), (fun h => by cases h)⟩
 · exact ⟨false, h, (fun h => by cases h), (fun _ => b)⟩
set_option maxRecDepth 20000
theorem aIG (x : SlotI) (w : World)  :
   Calls Tryz.prog 260 #[.agg x.cells.toArray] w (fF fun v w' => v = .bool (hP x) ∧ Ext w w') := by
 have X := Q7r w
 refine bJ (args := [.agg x.cells.toArray]) Tryz.func260 Tryz.ntmps260 rfl rfl (aF (aA rfl (eX rfl rfl ?_)))
 intro g4 w3 eg4 b1 x2 zg4
 have lg4 : w.heap.size ≤ g4 := Q7l X.size (Q7e eg4.symm)
 replace X := Q7x X x2; clear x2
 refine aA rfl (aE rfl (aB (aF (aA rfl (aG iA rfl rfl (aA rfl (aJ b1 dB rfl rfl (aA rfl (cV kC rfl (iQ _ _ _ _) (fun w7 h5 x6 => ?_) (fun w7 h5 x6 => ?_))))))))))
 replace b1 := b1.ext x6
 replace X := Q7x X x6; clear x6
 refine aA rfl (aC rfl (aI rfl rfl rfl (aG kP rfl rfl (aI rfl rfl rfl (aJ b1 dB rfl rfl (aI rfl rfl rfl (cV kC rfl (iQ _ _ _ _) (fun w10 h8 x9 => ?_) (fun w10 h8 x9 => ?_))))))))
 replace b1 := b1.ext x9
 replace X := Q7x X x9; clear x9
 refine aA rfl (aK rfl rfl (aA rfl (aC rfl (aI rfl rfl rfl (aG kB rfl rfl (aI rfl rfl rfl (aJ b1 dB rfl rfl (aI rfl rfl rfl (cV kC rfl (iQ _ _ _ _) (fun w13 h11 x12 => ?_) (fun w13 h11 x12 => ?_))))))))))
 replace b1 := b1.ext x12
 replace X := Q7x X x12
 refine aA rfl (aK rfl rfl (aA rfl (aC rfl (aI rfl rfl rfl (aG iN rfl rfl (aI rfl rfl rfl (dE b1 fU rfl rfl (aI rfl rfl rfl (aT aHH rfl (aP (aBK _ _) ?_))))))))))
 rintro _ w15 ⟨rfl, x14⟩
 replace b1 := b1.ext x14
 replace X := Q7x X x14
 refine aA rfl (aK rfl rfl (aA rfl (aE rfl (aB (aW (aL rfl rfl ?_))))))
 · skip
   refine ⟨congrArg Value.bool ?_, X⟩
   simp [hP, *]
 replace b1 := b1.ext x12
 replace X := Q7x X x12
 refine aA rfl (aK rfl rfl (aA rfl (aC rfl (aH rfl rfl rfl rfl (aH rfl rfl rfl rfl (aH rfl rfl rfl rfl (aA rfl (aK rfl rfl (aA rfl (aE rfl (aB (aW (aL rfl rfl ?_)))))))))))))
 · skip
   refine ⟨congrArg Value.bool ?_, X⟩
   simp [hP, *]
 replace b1 := b1.ext x9
 replace X := Q7x X x9; clear x9
 refine aA rfl (aK rfl rfl (aA rfl (aC rfl (aH rfl rfl rfl rfl (aH rfl rfl rfl rfl (aH rfl rfl rfl rfl (aA rfl (aK rfl rfl (aA rfl (aC rfl (aH rfl rfl rfl rfl (aH rfl rfl rfl rfl (aH rfl rfl rfl rfl (aA rfl (aK rfl rfl (aA rfl (aE rfl (aB (aW (aL rfl rfl ?_))))))))))))))))))))
 · skip
   refine ⟨congrArg Value.bool ?_, X⟩
   simp [hP, *]
 replace b1 := b1.ext x6
 replace X := Q7x X x6; clear x6
 refine aA rfl (aC rfl (aH rfl rfl rfl rfl (aH rfl rfl rfl rfl (aH rfl rfl rfl rfl (aA rfl (aK rfl rfl (aA rfl (aC rfl (aH rfl rfl rfl rfl (aH rfl rfl rfl rfl (aH rfl rfl rfl rfl (aA rfl (aK rfl rfl (aA rfl (aC rfl (aH rfl rfl rfl rfl (aH rfl rfl rfl rfl (aH rfl rfl rfl rfl (aA rfl (aK rfl rfl (aA rfl (aE rfl (aB (aW (aL rfl rfl ?_)))))))))))))))))))))))))
 · skip
   refine ⟨congrArg Value.bool ?_, X⟩
   simp [hP, *]
theorem aCB (x : SlotI) (w : World)  :
   Calls Tryz.prog 238 #[.agg x.cells.toArray] w (fF fun v w' => v = .bool (hP x) ∧ Ext w w') := by
 have X := Q7r w
 refine bJ (args := [.agg x.cells.toArray]) Tryz.func238 Tryz.ntmps238 rfl rfl (aF (aA rfl (eX rfl rfl ?_)))
 intro g4 w3 eg4 b1 x2 zg4
 have lg4 : w.heap.size ≤ g4 := Q7l X.size (Q7e eg4.symm)
 replace X := Q7x X x2; clear x2
 refine aA rfl (aE rfl (aB (aF (aA rfl (aG iA rfl rfl (aA rfl (aJ b1 dB rfl rfl (aA rfl (cV nK rfl (jU _ _ _ _) (fun w7 h5 x6 => ?_) (fun w7 h5 x6 => ?_))))))))))
 replace b1 := b1.ext x6
 replace X := Q7x X x6; clear x6
 refine aA rfl (aC rfl (aI rfl rfl rfl (aG kP rfl rfl (aI rfl rfl rfl (aJ b1 dB rfl rfl (aI rfl rfl rfl (cV nK rfl (jU _ _ _ _) (fun w10 h8 x9 => ?_) (fun w10 h8 x9 => ?_))))))))
 replace b1 := b1.ext x9
 replace X := Q7x X x9; clear x9
 refine aA rfl (aK rfl rfl (aA rfl (aC rfl (aI rfl rfl rfl (aG kB rfl rfl (aI rfl rfl rfl (aJ b1 dB rfl rfl (aI rfl rfl rfl (cV nK rfl (jU _ _ _ _) (fun w13 h11 x12 => ?_) (fun w13 h11 x12 => ?_))))))))))
 replace b1 := b1.ext x12
 replace X := Q7x X x12
 refine aA rfl (aK rfl rfl (aA rfl (aC rfl (aI rfl rfl rfl (aG iN rfl rfl (aI rfl rfl rfl (dE b1 fU rfl rfl (aI rfl rfl rfl (aT aHD rfl (aP (aBL _ _) ?_))))))))))
 rintro _ w15 ⟨rfl, x14⟩
 replace b1 := b1.ext x14
 replace X := Q7x X x14
 refine aA rfl (aK rfl rfl (aA rfl (aE rfl (aB (aW (aL rfl rfl ?_))))))
 · skip
   refine ⟨congrArg Value.bool ?_, X⟩
   simp [hP, *]
 replace b1 := b1.ext x12
 replace X := Q7x X x12
 refine aA rfl (aK rfl rfl (aA rfl (aC rfl (aH rfl rfl rfl rfl (aH rfl rfl rfl rfl (aH rfl rfl rfl rfl (aA rfl (aK rfl rfl (aA rfl (aE rfl (aB (aW (aL rfl rfl ?_)))))))))))))
 · skip
   refine ⟨congrArg Value.bool ?_, X⟩
   simp [hP, *]
 replace b1 := b1.ext x9
 replace X := Q7x X x9; clear x9
 refine aA rfl (aK rfl rfl (aA rfl (aC rfl (aH rfl rfl rfl rfl (aH rfl rfl rfl rfl (aH rfl rfl rfl rfl (aA rfl (aK rfl rfl (aA rfl (aC rfl (aH rfl rfl rfl rfl (aH rfl rfl rfl rfl (aH rfl rfl rfl rfl (aA rfl (aK rfl rfl (aA rfl (aE rfl (aB (aW (aL rfl rfl ?_))))))))))))))))))))
 · skip
   refine ⟨congrArg Value.bool ?_, X⟩
   simp [hP, *]
 replace b1 := b1.ext x6
 replace X := Q7x X x6; clear x6
 refine aA rfl (aC rfl (aH rfl rfl rfl rfl (aH rfl rfl rfl rfl (aH rfl rfl rfl rfl (aA rfl (aK rfl rfl (aA rfl (aC rfl (aH rfl rfl rfl rfl (aH rfl rfl rfl rfl (aH rfl rfl rfl rfl (aA rfl (aK rfl rfl (aA rfl (aC rfl (aH rfl rfl rfl rfl (aH rfl rfl rfl rfl (aH rfl rfl rfl rfl (aA rfl (aK rfl rfl (aA rfl (aE rfl (aB (aW (aL rfl rfl ?_)))))))))))))))))))))))))
 · skip
   refine ⟨congrArg Value.bool ?_, X⟩
   simp [hP, *]
theorem yG (a b : Int) (w : World)  :
   Calls Tryz.prog 265 #[.int .i64 a, .int .i64 b] w (fF fun v w' => v = .int .i64 (vC a b) ∧ Ext w w') := by
 have X := Q7r w
 refine bJ (args := [.int .i64 a, .int .i64 b]) Tryz.func265 Tryz.ntmps265 rfl rfl (aF (aA rfl (aE rfl (aB (aR (aX (aF (aA rfl (aC rfl (aA rfl (aC rfl (aA rfl (cU rfl rfl (fun h1 => ?_) (fun h1 => ?_))))))))))))))
 exact aA rfl (aE rfl (aB (aQ rfl (aF (aA rfl (aE rfl (aB (aW (dL (bN (aL rfl rfl ⟨by simp [vC, *] <;> omega, X⟩)))))))))))
 refine aA rfl (aE rfl (aB (aM rfl (aF (aA rfl (aC rfl (aA rfl (aC rfl (aA rfl (fG rfl rfl (fun h2 => ?_) (fun h2 => ?_)))))))))))
 exact aA rfl (aE rfl (aB (aQ rfl (aF (aA rfl (aE rfl (aB (aW (dL (bN (aL rfl rfl ⟨by simp [vC, *] <;> omega, X⟩)))))))))))
 exact aA rfl (aE rfl (aB (aM rfl (aV (dO (aS (aF (aA rfl (aE rfl (aB (aW (aL rfl rfl ⟨by simp [vC, *] <;> omega, X⟩))))))))))))
theorem sY (a b : SlotI) (w : World)  :
   Calls Tryz.prog 239 #[.agg a.cells.toArray, .agg b.cells.toArray] w (fF fun v w' => v = .int .i64 (rC a b) ∧ Ext w w') := by
 have X := Q7r w
 refine bJ (args := [.agg a.cells.toArray, .agg b.cells.toArray]) Tryz.func239 Tryz.ntmps239 rfl rfl (aF (aA rfl (eX rfl rfl ?_)))
 intro g4 w3 eg4 b1 x2 zg4
 have lg4 : w.heap.size ≤ g4 := Q7l X.size (Q7e eg4.symm)
 replace X := Q7x X x2; clear x2
 refine aA rfl (eX rfl rfl ?_)
 intro g8 w7 eg8 b5 x6 zg8
 have lg8 : w.heap.size ≤ g8 := Q7l X.size (Q7e eg8.symm)
 have ng8b1 := Nat.lt_of_lt_of_eq b1.lt eg8.symm
 replace b1 := b1.ext x6
 replace X := Q7x X x6; clear x6
 refine aA rfl (aE rfl (aB (aR (aF (aA rfl (aG iA rfl rfl (aA rfl (aJ b1 dB rfl rfl (aA rfl (aG iA rfl rfl (aA rfl (aJ b5 dB rfl rfl (aA rfl (gH rfl rfl (fun h9 => ?_) (fun h9 => ?_)))))))))))))))
 refine aB (aQ rfl (aF (aA rfl (aG iA rfl rfl (aA rfl (aJ b1 dB rfl rfl (aA rfl (aG iA rfl rfl (aA rfl (aJ b5 dB rfl rfl (aA rfl (aT aEx rfl (aP (yG _ _ _) ?_)))))))))))))
 rintro _ w11 ⟨rfl, x10⟩
 replace b1 := b1.ext x10
 replace b5 := b5.ext x10
 replace X := Q7x X x10
 exact aA rfl (aE rfl (aB (aW (bN (aL rfl rfl ⟨by simp [rC, *], X⟩)))))
 refine aB (aM rfl (aV (aS (aR (aF (aA rfl (aG kP rfl rfl (aA rfl (aJ b1 dB rfl rfl (aA rfl (aG kP rfl rfl (aA rfl (aJ b5 dB rfl rfl (aA rfl (gH rfl rfl (fun h12 => ?_) (fun h12 => ?_))))))))))))))))
 refine aB (aQ rfl (aF (aA rfl (aG kP rfl rfl (aA rfl (aJ b1 dB rfl rfl (aA rfl (aG kP rfl rfl (aA rfl (aJ b5 dB rfl rfl (aA rfl (aT aEx rfl (aP (yG _ _ _) ?_)))))))))))))
 rintro _ w14 ⟨rfl, x13⟩
 replace b1 := b1.ext x13
 replace b5 := b5.ext x13
 replace X := Q7x X x13
 exact aA rfl (aE rfl (aB (aW (bN (aL rfl rfl ⟨by simp [rC, *], X⟩)))))
 refine aB (aM rfl (aV (aS (aF (aA rfl (aG kB rfl rfl (aA rfl (aJ b1 dB rfl rfl (aA rfl (aG kB rfl rfl (aA rfl (aJ b5 dB rfl rfl (aA rfl (aT aEx rfl (aP (yG _ _ _) ?_)))))))))))))))
 rintro _ w16 ⟨rfl, x15⟩
 replace b1 := b1.ext x15
 replace b5 := b5.ext x15
 replace X := Q7x X x15
 exact aA rfl (aE rfl (aB (aW (aL rfl rfl ⟨by simp [rC, *], X⟩))))
theorem zW (a b : SlotI) (w : World)  :
   Calls Tryz.prog 261 #[.agg a.cells.toArray, .agg b.cells.toArray] w (fF fun v w' => v = .int .i64 (rC a b) ∧ Ext w w') := by
 have X := Q7r w
 refine bJ (args := [.agg a.cells.toArray, .agg b.cells.toArray]) Tryz.func261 Tryz.ntmps261 rfl rfl (aF (aA rfl (eX rfl rfl ?_)))
 intro g4 w3 eg4 b1 x2 zg4
 have lg4 : w.heap.size ≤ g4 := Q7l X.size (Q7e eg4.symm)
 replace X := Q7x X x2; clear x2
 refine aA rfl (eX rfl rfl ?_)
 intro g8 w7 eg8 b5 x6 zg8
 have lg8 : w.heap.size ≤ g8 := Q7l X.size (Q7e eg8.symm)
 have ng8b1 := Nat.lt_of_lt_of_eq b1.lt eg8.symm
 replace b1 := b1.ext x6
 replace X := Q7x X x6; clear x6
 refine aA rfl (aE rfl (aB (aJi 16 mixed (by kernel_rfl) (jO 0 _ rfl (by kernel_rfl) rfl (by kernel_rfl) (listed' := #[true, false, false, false, false, false, false, false, false, false, false, false, false, false, false, false]) rfl (Up.ext _) (fun wq sq => aG iA rfl rfl ⟨rfl, Q7r _⟩) (jO 1 _ rfl (by kernel_rfl) rfl (by kernel_rfl) (listed' := #[true, true, false, false, false, false, false, false, false, false, false, false, false, false, false, false]) rfl (Up.ext _) (fun wq sq => aJ (b1.ext sq) dB rfl rfl ⟨rfl, Q7r _⟩) (jO 2 _ rfl (by kernel_rfl) rfl (by kernel_rfl) (listed' := #[true, true, true, false, false, false, false, false, false, false, false, false, false, false, false, false]) rfl (Up.ext _) (fun wq sq => aG kP rfl rfl ⟨rfl, Q7r _⟩) ?_))))))
 refine jO 3 _ rfl (by kernel_rfl) rfl (by kernel_rfl) (listed' := #[true, true, true, true, false, false, false, false, false, false, false, false, false, false, false, false]) rfl (Up.ext _) (fun wq sq => aJ (b1.ext sq) dB rfl rfl ⟨rfl, Q7r _⟩) (jO 4 _ rfl (by kernel_rfl) rfl (by kernel_rfl) (listed' := #[true, true, true, true, true, false, false, false, false, false, false, false, false, false, false, false]) rfl (Up.ext _) (fun wq sq => aG kB rfl rfl ⟨rfl, Q7r _⟩) (jO 5 _ rfl (by kernel_rfl) rfl (by kernel_rfl) (listed' := #[true, true, true, true, true, true, false, false, false, false, false, false, false, false, false, false]) rfl (Up.ext _) (fun wq sq => aJ (b1.ext sq) dB rfl rfl ⟨rfl, Q7r _⟩) ?_))
 refine jO 7 _ rfl (by kernel_rfl) rfl (by kernel_rfl) (listed' := #[true, true, true, true, true, true, false, true, false, false, false, false, false, false, false, false]) rfl (Up.ext _) (fun wq sq => aG iA rfl rfl ⟨rfl, Q7r _⟩) (jO 8 _ rfl (by kernel_rfl) rfl (by kernel_rfl) (listed' := #[true, true, true, true, true, true, false, true, true, false, false, false, false, false, false, false]) rfl (Up.ext _) (fun wq sq => aJ (b5.ext sq) dB rfl rfl ⟨rfl, Q7r _⟩) (jO 9 _ rfl (by kernel_rfl) rfl (by kernel_rfl) (listed' := #[true, true, true, true, true, true, false, true, true, true, false, false, false, false, false, false]) rfl (Up.ext _) (fun wq sq => aG kP rfl rfl ⟨rfl, Q7r _⟩) ?_))
 refine jO 10 _ rfl (by kernel_rfl) rfl (by kernel_rfl) (listed' := #[true, true, true, true, true, true, false, true, true, true, true, false, false, false, false, false]) rfl (Up.ext _) (fun wq sq => aJ (b5.ext sq) dB rfl rfl ⟨rfl, Q7r _⟩) (jO 11 _ rfl (by kernel_rfl) rfl (by kernel_rfl) (listed' := #[true, true, true, true, true, true, false, true, true, true, true, true, false, false, false, false]) rfl (Up.ext _) (fun wq sq => aG kB rfl rfl ⟨rfl, Q7r _⟩) (jO 12 _ rfl (by kernel_rfl) rfl (by kernel_rfl) (listed' := #[true, true, true, true, true, true, false, true, true, true, true, true, true, false, false, false]) rfl (Up.ext _) (fun wq sq => aJ (b5.ext sq) dB rfl rfl ⟨rfl, Q7r _⟩) ?_))
 refine aJh 6 13 (fun gA : Nat => Value.slice (some ⟨gA, 0, none⟩) 3 3) (fun gA wz => Own wz w.heap.size 2 1 (some ⟨gA, 0, none⟩) 3 3 ([a.mode, a.round, a.slot].flatMap eI)) 0 (fun gB : Nat => Value.slice (some ⟨gB, 0, none⟩) 3 3) (fun gB wz => Own wz w.heap.size 2 1 (some ⟨gB, 0, none⟩) 3 3 ([b.mode, b.round, b.slot].flatMap eI)) 0 rfl rfl rfl rfl (by kernel_rfl) (listed' := #[true, true, true, true, true, true, true, true, true, true, true, true, true, false, false, false]) (listed'' := #[true, true, true, true, true, true, false, true, true, true, true, true, true, true, false, false]) rfl rfl ⟨lT, fun _ _ _ h k => h.ext k, fun wq sq => aO cQ dB rfl rfl rfl rfl rfl (fun g w' hg ho hb hx hz => ⟨g, rfl, Own.low ho (Q7l X.size (sq).size), hx⟩)⟩ ⟨lT, fun _ _ _ h k => h.ext k, fun wq sq => aO cQ dB rfl rfl rfl rfl rfl (fun g w' hg ho hb hx hz => ⟨g, rfl, Own.low ho (Q7l X.size (sq).size), hx⟩)⟩ ?_ ?_
 intro gA
 refine jO 14 _ rfl (by kernel_rfl) rfl (by kernel_rfl) (listed' := #[true, true, true, true, true, true, true, true, true, true, true, true, true, false, true, false]) rfl (Up.and (Up.ext _) (fun _ _ h k => h.ext k)) (fun wq sq => aE rfl ⟨rfl, Q7r _⟩) (aIO 13 (fun gB : Nat => Value.slice (some ⟨gB, 0, none⟩) 3 3) (fun gB wz => Own wz w.heap.size 2 1 (some ⟨gB, 0, none⟩) 3 3 ([b.mode, b.round, b.slot].flatMap eI)) 0 rfl rfl (by kernel_rfl) (listed' := #[true, true, true, true, true, true, true, true, true, true, true, true, true, true, true, false]) rfl ⟨lT, fun _ _ _ h k => h.ext k, fun wq sq => aO cQ dB rfl rfl rfl rfl rfl (fun g w' hg ho hb hx hz => ⟨g, rfl, Own.low ho (Q7l X.size (sq.1).size), hx⟩)⟩ ?_)
 intro gB
 refine jO 15 _ rfl (by kernel_rfl) rfl (by kernel_rfl) (listed' := #[true, true, true, true, true, true, true, true, true, true, true, true, true, true, true, true]) rfl (Up.and (Up.and (Up.ext _) (fun _ _ h k => h.ext k)) (fun _ _ h k => h.ext k)) (fun wq sq => aE rfl ⟨rfl, Q7r _⟩) (aBU rfl (fun w9 sq a10 f11 => ⟨_, f11, ?_⟩))
 have xq := sq.1.1
 have oA := sq.1.2
 have oB := sq.2
 replace b1 := b1.ext xq
 replace b5 := b5.ext xq
 replace X := Q7x X xq; clear xq sq
 refine aB (aR (aF (aA rfl (aE rfl (aB (aX (dG (G := Nat) (fun k => [(5, .slice (some ⟨gA, 0, none⟩) 3 3), (6, .slice (some ⟨gB, 0, none⟩) 3 3), (7, .int .i64 (k : Nat))]) (fun k wr => k ≤ 3 ∧ (∀ i, i < k → [a.mode, a.round, a.slot][i]? = [b.mode, b.round, b.slot][i]?) ∧ Own wr w.heap.size 2 1 (some ⟨gA, 0, none⟩) 3 3 ([a.mode, a.round, a.slot].flatMap eI) ∧ Own wr w.heap.size 2 1 (some ⟨gB, 0, none⟩) 3 3 ([b.mode, b.round, b.slot].flatMap eI) ∧ Ext w wr) (fun k => 3 - k) 0 (.cons rfl (.cons rfl (.cons rfl (.nil _)))) ?_ ?_)))))))
 · exact ⟨by omega, fun i hi => by omega, oA, oB, X⟩
 clear oA oB
 clear X
 rintro k wr ⟨hk, hi, oA, oB, X⟩
 refine aR (aF (aA rfl (aC rfl (aA rfl (cU rfl rfl (fun h12 => ?_) (fun h12 => ?_))))))
 obtain ⟨x, hx⟩ : ∃ x, [a.mode, a.round, a.slot][k]? = some x := ⟨_, List.getElem?_eq_getElem (by simp; omega)⟩
 obtain ⟨y, hy⟩ : ∃ y, [b.mode, b.round, b.slot][k]? = some y := ⟨_, List.getElem?_eq_getElem (by simp; omega)⟩
 refine aB (aQ rfl (aV (aS (aR (aX (aR (eK [false, false, false, false, false, false, false, false, false] mixed (by kernel_rfl) (cO rfl (fun wq sq => aC rfl ⟨rfl, Q7r _⟩) (cO rfl (fun wq sq => aC rfl ⟨rfl, Q7r _⟩) (cO rfl (fun wq sq => aU ((oA.ext sq)).sl bI rfl cQ rfl rfl rfl hx rfl ⟨rfl, Q7r _⟩) (cO rfl (fun wq sq => bS ((oA.ext sq)).sl bI hx dB rfl rfl rfl ⟨rfl, Q7r _⟩) (cO rfl (fun wq sq => aC rfl ⟨rfl, Q7r _⟩) (cO rfl (fun wq sq => aC rfl ⟨rfl, Q7r _⟩) (cO rfl (fun wq sq => aU ((oB.ext sq)).sl bI rfl cQ rfl rfl rfl hy rfl ⟨rfl, Q7r _⟩) (cO rfl (fun wq sq => bS ((oB.ext sq)).sl bI hy dB rfl rfl rfl ⟨rfl, Q7r _⟩) ?_)))))))))))))))
 refine uZ rfl (fun wq sq => tF rfl rfl ⟨rfl, Q7r _⟩) (fun h13 => ?_) (fun h13 => ?_)
 refine dX (fun w14 sq => ?_)
 have xq := sq
 replace oA := oA.ext xq
 replace oB := oB.ext xq
 replace X := Q7x X xq; clear xq sq
 refine aB (aQ rfl (aF (aA rfl (aE rfl (aB (aW (bN (dL (bN (bN (dL (bN (aL rfl rfl ?_)))))))))))))
 · skip
   refine ⟨congrArg (Value.int .i64) ?_, X⟩
   first | exact uL hi hx hy ‹_› | exact uM hi hx hy ‹_› | exact uK hi (by omega)
 refine dX (fun w15 sq => ?_)
 have xq := sq
 replace oA := oA.ext xq
 replace oB := oB.ext xq
 replace X := Q7x X xq; clear xq sq
 refine aB (aM rfl (aV (aS (eK [false, false, false, false, false, false, false, false, false] mixed (by kernel_rfl) (cO rfl (fun wq sq => aC rfl ⟨rfl, Q7r _⟩) (cO rfl (fun wq sq => aC rfl ⟨rfl, Q7r _⟩) (cO rfl (fun wq sq => aU ((oA.ext sq)).sl bI rfl cQ rfl rfl rfl hx rfl ⟨rfl, Q7r _⟩) (cO rfl (fun wq sq => bS ((oA.ext sq)).sl bI hx dB rfl rfl rfl ⟨rfl, Q7r _⟩) (cO rfl (fun wq sq => aC rfl ⟨rfl, Q7r _⟩) (cO rfl (fun wq sq => aC rfl ⟨rfl, Q7r _⟩) (cO rfl (fun wq sq => aU ((oB.ext sq)).sl bI rfl cQ rfl rfl rfl hy rfl ⟨rfl, Q7r _⟩) (cO rfl (fun wq sq => bS ((oB.ext sq)).sl bI hy dB rfl rfl rfl ⟨rfl, Q7r _⟩) ?_))))))))))))
 refine uZ rfl (fun wq sq => rZ rfl rfl ⟨rfl, Q7r _⟩) (fun h16 => ?_) (fun h16 => ?_)
 refine dX (fun w17 sq => ?_)
 have xq := sq
 replace oA := oA.ext xq
 replace oB := oB.ext xq
 replace X := Q7x X xq; clear xq sq
 refine aB (aQ rfl (aF (aA rfl (aE rfl (aB (aW (dL (bN (bN (dL (bN (aL rfl rfl ?_))))))))))))
 · skip
   refine ⟨congrArg (Value.int .i64) ?_, X⟩
   first | exact uL hi hx hy ‹_› | exact uM hi hx hy ‹_› | exact uK hi (by omega)
 refine dX (fun w18 sq => ?_)
 have xq := sq
 replace oA := oA.ext xq
 replace oB := oB.ext xq
 replace X := Q7x X xq; clear xq sq
 refine aB (aM rfl (aV (dO (aS (aN (aA rfl (aC rfl (aA rfl (aY rfl rfl (dM (by omega)) (aA rfl (aE rfl (aB (aS ⟨k + 1, (.cons rfl (.cons rfl (.cons rfl (.nil _)))), ?_, ?_⟩)))))))))))))
 · skip
   exact ⟨by omega, fun i hik => by
     by_cases e : i = k
     · subst e; rw [hx, hy]; congr 1; omega
     · exact hi i (by omega), oA, oB, X⟩
 · omega
 refine aB (aM rfl (dD (dC (dC (eG (aS (aF (aA rfl (aE rfl (aB (aW (aL rfl rfl ?_))))))))))))
 · skip
   refine ⟨congrArg (Value.int .i64) ?_, X⟩
   first | exact uL hi hx hy ‹_› | exact uM hi hx hy ‹_› | exact uK hi (by omega)
 intro gB
 refine aIO 6 (fun gA : Nat => Value.slice (some ⟨gA, 0, none⟩) 3 3) (fun gA wz => Own wz w.heap.size 2 1 (some ⟨gA, 0, none⟩) 3 3 ([a.mode, a.round, a.slot].flatMap eI)) 0 rfl rfl (by kernel_rfl) (listed' := #[true, true, true, true, true, true, true, true, true, true, true, true, true, true, false, false]) rfl ⟨lT, fun _ _ _ h k => h.ext k, fun wq sq => aO cQ dB rfl rfl rfl rfl rfl (fun g w' hg ho hb hx hz => ⟨g, rfl, Own.low ho (Q7l X.size (sq.1).size), hx⟩)⟩ ?_
 intro gA
 refine jO 14 _ rfl (by kernel_rfl) rfl (by kernel_rfl) (listed' := #[true, true, true, true, true, true, true, true, true, true, true, true, true, true, true, false]) rfl (Up.and (Up.and (Up.ext _) (fun _ _ h k => h.ext k)) (fun _ _ h k => h.ext k)) (fun wq sq => aE rfl ⟨rfl, Q7r _⟩) (jO 15 _ rfl (by kernel_rfl) rfl (by kernel_rfl) (listed' := #[true, true, true, true, true, true, true, true, true, true, true, true, true, true, true, true]) rfl (Up.and (Up.and (Up.ext _) (fun _ _ h k => h.ext k)) (fun _ _ h k => h.ext k)) (fun wq sq => aE rfl ⟨rfl, Q7r _⟩) (aBU rfl (fun w19 sq a20 f21 => ⟨_, f21, ?_⟩)))
 have xq := sq.1.1
 have oB := sq.1.2
 have oA := sq.2
 replace b1 := b1.ext xq
 replace b5 := b5.ext xq
 replace X := Q7x X xq; clear xq sq
 refine aB (aR (aF (aA rfl (aE rfl (aB (aX (dG (G := Nat) (fun k => [(5, .slice (some ⟨gA, 0, none⟩) 3 3), (6, .slice (some ⟨gB, 0, none⟩) 3 3), (7, .int .i64 (k : Nat))]) (fun k wr => k ≤ 3 ∧ (∀ i, i < k → [a.mode, a.round, a.slot][i]? = [b.mode, b.round, b.slot][i]?) ∧ Own wr w.heap.size 2 1 (some ⟨gA, 0, none⟩) 3 3 ([a.mode, a.round, a.slot].flatMap eI) ∧ Own wr w.heap.size 2 1 (some ⟨gB, 0, none⟩) 3 3 ([b.mode, b.round, b.slot].flatMap eI) ∧ Ext w wr) (fun k => 3 - k) 0 (.cons rfl (.cons rfl (.cons rfl (.nil _)))) ?_ ?_)))))))
 · exact ⟨by omega, fun i hi => by omega, oA, oB, X⟩
 clear oA oB
 clear X
 rintro k wr ⟨hk, hi, oA, oB, X⟩
 refine aR (aF (aA rfl (aC rfl (aA rfl (cU rfl rfl (fun h22 => ?_) (fun h22 => ?_))))))
 obtain ⟨x, hx⟩ : ∃ x, [a.mode, a.round, a.slot][k]? = some x := ⟨_, List.getElem?_eq_getElem (by simp; omega)⟩
 obtain ⟨y, hy⟩ : ∃ y, [b.mode, b.round, b.slot][k]? = some y := ⟨_, List.getElem?_eq_getElem (by simp; omega)⟩
 refine aB (aQ rfl (aV (aS (aR (aX (aR (eK [false, false, false, false, false, false, false, false, false] mixed (by kernel_rfl) (cO rfl (fun wq sq => aC rfl ⟨rfl, Q7r _⟩) (cO rfl (fun wq sq => aC rfl ⟨rfl, Q7r _⟩) (cO rfl (fun wq sq => aU ((oA.ext sq)).sl bI rfl cQ rfl rfl rfl hx rfl ⟨rfl, Q7r _⟩) (cO rfl (fun wq sq => bS ((oA.ext sq)).sl bI hx dB rfl rfl rfl ⟨rfl, Q7r _⟩) (cO rfl (fun wq sq => aC rfl ⟨rfl, Q7r _⟩) (cO rfl (fun wq sq => aC rfl ⟨rfl, Q7r _⟩) (cO rfl (fun wq sq => aU ((oB.ext sq)).sl bI rfl cQ rfl rfl rfl hy rfl ⟨rfl, Q7r _⟩) (cO rfl (fun wq sq => bS ((oB.ext sq)).sl bI hy dB rfl rfl rfl ⟨rfl, Q7r _⟩) ?_)))))))))))))))
 refine uZ rfl (fun wq sq => tF rfl rfl ⟨rfl, Q7r _⟩) (fun h23 => ?_) (fun h23 => ?_)
 refine dX (fun w24 sq => ?_)
 have xq := sq
 replace oA := oA.ext xq
 replace oB := oB.ext xq
 replace X := Q7x X xq; clear xq sq
 refine aB (aQ rfl (aF (aA rfl (aE rfl (aB (aW (bN (dL (bN (bN (dL (bN (aL rfl rfl ?_)))))))))))))
 · skip
   refine ⟨congrArg (Value.int .i64) ?_, X⟩
   first | exact uL hi hx hy ‹_› | exact uM hi hx hy ‹_› | exact uK hi (by omega)
 refine dX (fun w25 sq => ?_)
 have xq := sq
 replace oA := oA.ext xq
 replace oB := oB.ext xq
 replace X := Q7x X xq; clear xq sq
 refine aB (aM rfl (aV (aS (eK [false, false, false, false, false, false, false, false, false] mixed (by kernel_rfl) (cO rfl (fun wq sq => aC rfl ⟨rfl, Q7r _⟩) (cO rfl (fun wq sq => aC rfl ⟨rfl, Q7r _⟩) (cO rfl (fun wq sq => aU ((oA.ext sq)).sl bI rfl cQ rfl rfl rfl hx rfl ⟨rfl, Q7r _⟩) (cO rfl (fun wq sq => bS ((oA.ext sq)).sl bI hx dB rfl rfl rfl ⟨rfl, Q7r _⟩) (cO rfl (fun wq sq => aC rfl ⟨rfl, Q7r _⟩) (cO rfl (fun wq sq => aC rfl ⟨rfl, Q7r _⟩) (cO rfl (fun wq sq => aU ((oB.ext sq)).sl bI rfl cQ rfl rfl rfl hy rfl ⟨rfl, Q7r _⟩) (cO rfl (fun wq sq => bS ((oB.ext sq)).sl bI hy dB rfl rfl rfl ⟨rfl, Q7r _⟩) ?_))))))))))))
 refine uZ rfl (fun wq sq => rZ rfl rfl ⟨rfl, Q7r _⟩) (fun h26 => ?_) (fun h26 => ?_)
 refine dX (fun w27 sq => ?_)
 have xq := sq
 replace oA := oA.ext xq
 replace oB := oB.ext xq
 replace X := Q7x X xq; clear xq sq
 refine aB (aQ rfl (aF (aA rfl (aE rfl (aB (aW (dL (bN (bN (dL (bN (aL rfl rfl ?_))))))))))))
 · skip
   refine ⟨congrArg (Value.int .i64) ?_, X⟩
   first | exact uL hi hx hy ‹_› | exact uM hi hx hy ‹_› | exact uK hi (by omega)
 refine dX (fun w28 sq => ?_)
 have xq := sq
 replace oA := oA.ext xq
 replace oB := oB.ext xq
 replace X := Q7x X xq; clear xq sq
 refine aB (aM rfl (aV (dO (aS (aN (aA rfl (aC rfl (aA rfl (aY rfl rfl (dM (by omega)) (aA rfl (aE rfl (aB (aS ⟨k + 1, (.cons rfl (.cons rfl (.cons rfl (.nil _)))), ?_, ?_⟩)))))))))))))
 · skip
   exact ⟨by omega, fun i hik => by
     by_cases e : i = k
     · subst e; rw [hx, hy]; congr 1; omega
     · exact hi i (by omega), oA, oB, X⟩
 · omega
 refine aB (aM rfl (dD (dC (dC (eG (aS (aF (aA rfl (aE rfl (aB (aW (aL rfl rfl ?_))))))))))))
 · skip
   refine ⟨congrArg (Value.int .i64) ?_, X⟩
   first | exact uL hi hx hy ‹_› | exact uM hi hx hy ‹_› | exact uK hi (by omega)
theorem aFh (A : Option Addr) (B c : Nat) (xs : List SlotI) (w : World) (hs : Sl B w A (xs.flatMap SlotI.cells)) (hl : xs.length ≤ 1048576) :
   Calls Tryz.prog 226 #[.slice A xs.length c] w (fF fun v w' => v = .bool (iB xs) ∧ Ext w w') := by
 have Bhs := hs.1
 have X := Q7r w
 refine bJ (args := [.slice A xs.length c]) Tryz.func226 Tryz.ntmps226 rfl rfl (aF (aA rfl (aE rfl (aB (aR (aF (aA rfl (aC rfl (aA rfl (bO Tryz.underlying26 rfl (aA rfl (fG rfl rfl (fun h120 => ?_) (fun h120 => ?_)))))))))))))
 refine aB (aQ rfl (aF (aA rfl (aE rfl (aB (aW (bN (aL rfl rfl ?_))))))))
 · skip
   refine ⟨congrArg Value.bool ?_, X⟩
   first
   | (rw [iB, decide_eq_false (by omega)]; simp; done)
   | (rw [iB, hi, bL hk]; simp [fH]; omega)
   | (rw [iB, hi, dx]; cases qF xs k <;> simp [fH, *]; done)
   | (rw [iB, hi, dx, jS (by omega) hy]; simp [fH, *]; omega)
 refine aB (aM rfl (aV (aS (aR (aF (aA rfl (aE rfl (aB (aX (dG (G := Nat) (fun k => [(0, .slice A xs.length c), (3, .int .i64 (k : Nat))]) (fun k wr => k ≤ xs.length ∧ fH none xs = fH (qF xs k) (xs.drop k) ∧ Sl B wr A (xs.flatMap SlotI.cells) ∧ Ext w wr) (fun k => xs.length - k) 0 (.cons rfl (.cons rfl (.nil _))) ?_ ?_))))))))))
 · exact ⟨by omega, rfl, hs, X⟩
 clear hs
 clear X
 rintro k wr ⟨hk0, hi, hs, X⟩
 refine aR (aF (aA rfl (aC rfl (aA rfl (aC rfl (aA rfl (bO Tryz.underlying26 rfl (aA rfl (cU rfl rfl (fun hk => ?_) (fun hk => ?_))))))))))
 obtain ⟨x, hx, dx⟩ := dR hk
 refine aB (aQ rfl (aV (aS (aR (aX (eK [false, false, false, false, false, false, false, false, false, false, false, false, false, false, false, false, false, false, false, false, false, false, false] mixed (by kernel_rfl) (cO rfl (fun wq sq => aC rfl ⟨rfl, Q7r _⟩) (cO rfl (fun wq sq => aC rfl ⟨rfl, Q7r _⟩) (cO rfl (fun wq sq => aU (hs.ext sq) SlotI.len rfl gF rfl rfl rfl hx rfl ⟨rfl, Q7r _⟩) (cO rfl (fun wq sq => eE (hs.ext sq) SlotI.len hx eQ rfl ⟨rfl, Q7r _⟩) (aG4 rfl (fun wq sq => aT aKG rfl (aIG _ _)) (fun h1 => ?_) (fun h1 => ?_))))))))))))
 refine cO rfl (fun wq sq => bP rfl ⟨rfl, Q7r _⟩) (cO rfl (fun wq sq => aC rfl ⟨rfl, Q7r _⟩) (dQ rfl rfl rfl (fun wq sq => aC rfl ⟨rfl, Q7r _⟩) (qN rfl rfl rfl (fun wq sq => rZ rfl rfl ⟨rfl, Q7r _⟩) (fun hp => ?_) (fun hp => ?_))))
 obtain ⟨y, hy⟩ : ∃ y, xs[k - 1]? = some y := ⟨_, List.getElem?_eq_getElem (by omega)⟩
 refine dQ rfl rfl rfl (fun wq sq => aC rfl ⟨rfl, Q7r _⟩) (dQ rfl rfl rfl (fun wq sq => aC rfl ⟨rfl, Q7r _⟩) (dQ rfl rfl rfl (fun wq sq => aC rfl ⟨rfl, Q7r _⟩) (dQ rfl rfl rfl (fun wq sq => fZ rfl rfl (dM (by omega)) ⟨rfl, Q7r _⟩) (dQ rfl rfl rfl (fun wq sq => aU (hs.ext sq) SlotI.len rfl gF rfl rfl rfl hy (by omega) ⟨rfl, Q7r _⟩) (dQ rfl rfl rfl (fun wq sq => eE (hs.ext sq) SlotI.len hy eQ rfl ⟨rfl, Q7r _⟩) (dQ rfl rfl rfl (fun wq sq => aC rfl ⟨rfl, Q7r _⟩) (dQ rfl rfl rfl (fun wq sq => aC rfl ⟨rfl, Q7r _⟩) (dQ rfl rfl rfl (fun wq sq => aU (hs.ext sq) SlotI.len rfl gF rfl rfl rfl hx rfl ⟨rfl, Q7r _⟩) ?_))))))))
 refine dQ rfl rfl rfl (fun wq sq => eE (hs.ext sq) SlotI.len hx eQ rfl ⟨rfl, Q7r _⟩) (dQ rfl rfl rfl (fun wq sq => aT aKH rfl (zW _ _ _)) (qN rfl rfl rfl (fun wq sq => vX rfl rfl ⟨rfl, Q7r _⟩) (fun h4 => ?_) (fun h4 => ?_)))
 refine dQ rfl rfl rfl (fun wq sq => aK rfl rfl ⟨rfl, Q7r _⟩) (cO rfl (fun wq sq => aK rfl rfl ⟨rfl, Q7r _⟩) (dX (fun w5 sq => ?_)))
 have xq := sq
 replace hs := hs.ext xq
 replace X := Q7x X xq; clear xq sq
 refine aB (aQ rfl (aF (aA rfl (aE rfl (aB (aW (dL (bN (bN (dL (bN (aL rfl rfl ?_))))))))))))
 · skip
   refine ⟨congrArg Value.bool ?_, X⟩
   first
   | (rw [iB, decide_eq_false (by omega)]; simp; done)
   | (rw [iB, hi, bL hk]; simp [fH]; omega)
   | (rw [iB, hi, dx]; cases qF xs k <;> simp [fH, *]; done)
   | (rw [iB, hi, dx, jS (by omega) hy]; simp [fH, *]; omega)
 refine dQ rfl rfl rfl (fun wq sq => aK rfl rfl ⟨rfl, Q7r _⟩) (cO rfl (fun wq sq => aK rfl rfl ⟨rfl, Q7r _⟩) (dX (fun w6 sq => ?_)))
 have xq := sq
 replace hs := hs.ext xq
 replace X := Q7x X xq; clear xq sq
 refine aB (aM rfl (aV (dO (aS (aN (aA rfl (aC rfl (aA rfl (aY rfl rfl (dM (by omega)) (aA rfl (aE rfl (aB (aS ⟨k + 1, (.cons rfl (.cons rfl (.nil _))), ?_, ?_⟩)))))))))))))
 · skip
   exact ⟨by omega, (by
     rw [hi, dx, sH hx]
     first | (rw [sJ ‹_›]; simp [fH, *]; done) | (rw [jS (by omega) hy]; simp [fH, *]; omega)), hs, X⟩
 · first | omega | (dsimp only; omega)
 refine dQ rfl rfl rfl (fun wq sq => aC rfl ⟨rfl, Q7r _⟩) (dK rfl rfl rfl rfl (dK rfl rfl rfl rfl (dK rfl rfl rfl rfl (dK rfl rfl rfl rfl (dK rfl rfl rfl rfl (dK rfl rfl rfl rfl (dK rfl rfl rfl rfl (dK rfl rfl rfl rfl (dK rfl rfl rfl rfl (dK rfl rfl rfl rfl (dK rfl rfl rfl rfl (dQ rfl rfl rfl (fun wq sq => aK rfl rfl ⟨rfl, Q7r _⟩) (cO rfl (fun wq sq => aK rfl rfl ⟨rfl, Q7r _⟩) (dX (fun w7 sq => ?_)))))))))))))))
 have xq := sq
 replace hs := hs.ext xq
 replace X := Q7x X xq; clear xq sq
 refine aB (aM rfl (aV (dO (aS (aN (aA rfl (aC rfl (aA rfl (aY rfl rfl (dM (by omega)) (aA rfl (aE rfl (aB (aS ⟨k + 1, (.cons rfl (.cons rfl (.nil _))), ?_, ?_⟩)))))))))))))
 · skip
   exact ⟨by omega, (by
     rw [hi, dx, sH hx]
     first | (rw [sJ ‹_›]; simp [fH, *]; done) | (rw [jS (by omega) hy]; simp [fH, *]; omega)), hs, X⟩
 · first | omega | (dsimp only; omega)
 refine cO rfl (fun wq sq => bP rfl ⟨rfl, Q7r _⟩) (cO rfl (fun wq sq => aC rfl ⟨rfl, Q7r _⟩) (dK rfl rfl rfl rfl (dK rfl rfl rfl rfl (dK rfl rfl rfl rfl (dK rfl rfl rfl rfl (dK rfl rfl rfl rfl (dK rfl rfl rfl rfl (dK rfl rfl rfl rfl (dK rfl rfl rfl rfl (dK rfl rfl rfl rfl (dK rfl rfl rfl rfl (dK rfl rfl rfl rfl (dK rfl rfl rfl rfl (dK rfl rfl rfl rfl (dK rfl rfl rfl rfl (dK rfl rfl rfl rfl (cO rfl (fun wq sq => aK rfl rfl ⟨rfl, Q7r _⟩) (dX (fun w9 sq => ?_)))))))))))))))))))
 have xq := sq
 replace hs := hs.ext xq
 replace X := Q7x X xq; clear xq sq
 refine aB (aQ rfl (aF (aA rfl (aE rfl (aB (aW (dL (bN (bN (dL (bN (aL rfl rfl ?_))))))))))))
 · skip
   refine ⟨congrArg Value.bool ?_, X⟩
   first
   | (rw [iB, decide_eq_false (by omega)]; simp; done)
   | (rw [iB, hi, bL hk]; simp [fH]; omega)
   | (rw [iB, hi, dx]; cases qF xs k <;> simp [fH, *]; done)
   | (rw [iB, hi, dx, jS (by omega) hy]; simp [fH, *]; omega)
 refine aB (aM rfl (dD (dC (dC (eG (aS (aF (aA rfl (aE rfl (aB (aW (aL rfl rfl ?_))))))))))))
 · skip
   refine ⟨congrArg Value.bool ?_, X⟩
   first
   | (rw [iB, decide_eq_false (by omega)]; simp; done)
   | (rw [iB, hi, bL hk]; simp [fH]; omega)
   | (rw [iB, hi, dx]; cases qF xs k <;> simp [fH, *]; done)
   | (rw [iB, hi, dx, jS (by omega) hy]; simp [fH, *]; omega)
theorem aAj (A : Option Addr) (B c : Nat) (xs : List SlotI) (w : World) (hs : Sl B w A (xs.flatMap SlotI.cells)) (hl : xs.length ≤ 1048576) :
   Calls Tryz.prog 165 #[.slice A xs.length c] w (fF fun v w' => v = .bool (iB xs) ∧ Ext w w') := by
 have Bhs := hs.1
 have X := Q7r w
 refine bJ (args := [.slice A xs.length c]) Tryz.func165 Tryz.ntmps165 rfl rfl (aF (aA rfl (aE rfl (aB (aR (aF (aA rfl (aC rfl (aA rfl (bO Tryz.underlying26 rfl (aA rfl (aC rfl (aB (aX (dG (G := Nat) (fun k => [(0, .slice A xs.length c), (5, .slice A xs.length c), (6, .int .i64 (xs.length : Nat)), (7, .int .i64 (k : Nat))]) (fun k wr => k ≤ xs.length ∧ fH none xs = fH (qF xs k) (xs.drop k) ∧ Sl B wr A (xs.flatMap SlotI.cells) ∧ Ext w wr) (fun k => xs.length - k) 0 (.cons rfl (.cons rfl (.cons rfl (.cons rfl (.nil _))))) ?_ ?_)))))))))))))))
 · exact ⟨by omega, rfl, hs, X⟩
 clear hs
 clear X
 rintro k wr ⟨hk0, hi, hs, X⟩
 refine aF (aA rfl (cU rfl rfl (fun hk => ?_) (fun hk => ?_)))
 obtain ⟨x, hx, dx⟩ := dR hk
 refine aB (aR (aQ rfl (aV (aS (aR (aX (aF (aA rfl (aC rfl (aA rfl (aU hs SlotI.len rfl gF rfl rfl rfl hx rfl (aA rfl (eE hs SlotI.len hx eQ rfl (aA rfl (dT eQ ?_)))))))))))))))
 intro g4 w3 eg4 b1 x2 zg4
 have lg4 : w.heap.size ≤ g4 := Q7l X.size (Q7e eg4.symm)
 have pg4hs := Q7l hs.1 (Q7e eg4.symm)
 replace hs := hs.ext x2
 replace X := Q7x X x2; clear x2
 refine aA rfl (aE rfl (aA rfl (bK b1 eQ rfl rfl rfl rfl rfl rfl ?_)))
 intro w6 b8 hg5 z7
 replace hs := hs.grown hg5 (by intro g hg; injection hg; omega)
 replace X := X.grown hg5 X.size (by intro g hg; injection hg; omega)
 clear hg5 b1
 refine aB (eK [false, false, false, false, false, false, false, false, false, false, false, false, false, false, false, false, false] mixed (by kernel_rfl) (cO rfl (fun wq sq => dE (b8.ext sq) eQ rfl rfl ⟨rfl, Q7r _⟩) (aG4 rfl (fun wq sq => aT aKw rfl (aCB _ _)) (fun h9 => ?_) (fun h9 => ?_))))
 refine cO rfl (fun wq sq => bP rfl ⟨rfl, Q7r _⟩) (cO rfl (fun wq sq => aC rfl ⟨rfl, Q7r _⟩) (dQ rfl rfl rfl (fun wq sq => aC rfl ⟨rfl, Q7r _⟩) (qN rfl rfl rfl (fun wq sq => rZ rfl rfl ⟨rfl, Q7r _⟩) (fun hp => ?_) (fun hp => ?_))))
 obtain ⟨y, hy⟩ : ∃ y, xs[k - 1]? = some y := ⟨_, List.getElem?_eq_getElem (by omega)⟩
 refine dQ rfl rfl rfl (fun wq sq => aC rfl ⟨rfl, Q7r _⟩) (dQ rfl rfl rfl (fun wq sq => aC rfl ⟨rfl, Q7r _⟩) (dQ rfl rfl rfl (fun wq sq => aC rfl ⟨rfl, Q7r _⟩) (dQ rfl rfl rfl (fun wq sq => fZ rfl rfl (dM (by omega)) ⟨rfl, Q7r _⟩) (dQ rfl rfl rfl (fun wq sq => aU (hs.ext sq) SlotI.len rfl gF rfl rfl rfl hy (by omega) ⟨rfl, Q7r _⟩) (dQ rfl rfl rfl (fun wq sq => eE (hs.ext sq) SlotI.len hy eQ rfl ⟨rfl, Q7r _⟩) (dQ rfl rfl rfl (fun wq sq => dE (b8.ext sq) eQ rfl rfl ⟨rfl, Q7r _⟩) (dQ rfl rfl rfl (fun wq sq => aT aHE rfl (sY _ _ _)) (qN rfl rfl rfl (fun wq sq => vX rfl rfl ⟨rfl, Q7r _⟩) (fun h12 => ?_) (fun h12 => ?_)))))))))
 refine dQ rfl rfl rfl (fun wq sq => aK rfl rfl ⟨rfl, Q7r _⟩) (cO rfl (fun wq sq => aK rfl rfl ⟨rfl, Q7r _⟩) (dX (fun w13 sq => ?_)))
 have xq := sq
 replace hs := hs.ext xq
 replace b8 := b8.ext xq
 replace X := Q7x X xq; clear xq sq
 refine aB (aQ rfl (aF (aA rfl (aE rfl (aB (aW (dL (bN (bN (dL (bN (aL rfl rfl ?_))))))))))))
 · skip
   refine ⟨congrArg Value.bool ?_, X⟩
   first
   | (rw [iB, decide_eq_false (by omega)]; simp; done)
   | (rw [iB, hi, bL hk]; simp [fH]; omega)
   | (rw [iB, hi, dx]; cases qF xs k <;> simp [fH, *]; done)
   | (rw [iB, hi, dx, jS (by omega) hy]; simp [fH, *]; omega)
 refine dQ rfl rfl rfl (fun wq sq => aK rfl rfl ⟨rfl, Q7r _⟩) (cO rfl (fun wq sq => aK rfl rfl ⟨rfl, Q7r _⟩) (dX (fun w14 sq => ?_)))
 have xq := sq
 replace hs := hs.ext xq
 replace b8 := b8.ext xq
 replace X := Q7x X xq; clear xq sq
 refine aB (aM rfl (aV (dO (aS (aN (aA rfl (aY rfl rfl (dM (by omega)) (aA rfl (aC rfl (aB (aS ⟨k + 1, (.cons rfl (.cons rfl (.cons rfl (.cons rfl (.nil _))))), ?_, ?_⟩)))))))))))
 · skip
   exact ⟨by omega, (by
     rw [hi, dx, sH hx]
     first | (rw [sJ ‹_›]; simp [fH, *]; done) | (rw [jS (by omega) hy]; simp [fH, *]; omega)), hs, X⟩
 · first | omega | (dsimp only; omega)
 refine dQ rfl rfl rfl (fun wq sq => aC rfl ⟨rfl, Q7r _⟩) (dK rfl rfl rfl rfl (dK rfl rfl rfl rfl (dK rfl rfl rfl rfl (dK rfl rfl rfl rfl (dK rfl rfl rfl rfl (dK rfl rfl rfl rfl (dK rfl rfl rfl rfl (dK rfl rfl rfl rfl (dQ rfl rfl rfl (fun wq sq => aK rfl rfl ⟨rfl, Q7r _⟩) (cO rfl (fun wq sq => aK rfl rfl ⟨rfl, Q7r _⟩) (dX (fun w15 sq => ?_))))))))))))
 have xq := sq
 replace hs := hs.ext xq
 replace b8 := b8.ext xq
 replace X := Q7x X xq; clear xq sq
 refine aB (aM rfl (aV (dO (aS (aN (aA rfl (aY rfl rfl (dM (by omega)) (aA rfl (aC rfl (aB (aS ⟨k + 1, (.cons rfl (.cons rfl (.cons rfl (.cons rfl (.nil _))))), ?_, ?_⟩)))))))))))
 · skip
   exact ⟨by omega, (by
     rw [hi, dx, sH hx]
     first | (rw [sJ ‹_›]; simp [fH, *]; done) | (rw [jS (by omega) hy]; simp [fH, *]; omega)), hs, X⟩
 · first | omega | (dsimp only; omega)
 refine cO rfl (fun wq sq => bP rfl ⟨rfl, Q7r _⟩) (cO rfl (fun wq sq => aC rfl ⟨rfl, Q7r _⟩) (dK rfl rfl rfl rfl (dK rfl rfl rfl rfl (dK rfl rfl rfl rfl (dK rfl rfl rfl rfl (dK rfl rfl rfl rfl (dK rfl rfl rfl rfl (dK rfl rfl rfl rfl (dK rfl rfl rfl rfl (dK rfl rfl rfl rfl (dK rfl rfl rfl rfl (dK rfl rfl rfl rfl (dK rfl rfl rfl rfl (cO rfl (fun wq sq => aK rfl rfl ⟨rfl, Q7r _⟩) (dX (fun w16 sq => ?_))))))))))))))))
 have xq := sq
 replace hs := hs.ext xq
 replace b8 := b8.ext xq
 replace X := Q7x X xq; clear xq sq
 refine aB (aQ rfl (aF (aA rfl (aE rfl (aB (aW (dL (bN (bN (dL (bN (aL rfl rfl ?_))))))))))))
 · skip
   refine ⟨congrArg Value.bool ?_, X⟩
   first
   | (rw [iB, decide_eq_false (by omega)]; simp; done)
   | (rw [iB, hi, bL hk]; simp [fH]; omega)
   | (rw [iB, hi, dx]; cases qF xs k <;> simp [fH, *]; done)
   | (rw [iB, hi, dx, jS (by omega) hy]; simp [fH, *]; omega)
 refine aB (aR (aM rfl (dD (dC (dC (eG (aS (aF (aA rfl (aC rfl (aA rfl (bO Tryz.underlying26 rfl (aA rfl (qW rfl rfl (aA rfl (aE rfl (aB (aW (aL rfl rfl ?_)))))))))))))))))))
 · skip
   refine ⟨congrArg Value.bool ?_, X⟩
   first
   | (rw [iB, decide_eq_false (by omega)]; simp; done)
   | (rw [iB, hi, bL hk]; simp [fH]; omega)
   | (rw [iB, hi, dx]; cases qF xs k <;> simp [fH, *]; done)
   | (rw [iB, hi, dx, jS (by omega) hy]; simp [fH, *]; omega)
end Go.Proofs.YtdoibplhbdkapaaGreatDoor
