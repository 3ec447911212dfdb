/- Flow, part V: a call of what has no body; slices.overlaps at two rows; parts of a row that are read again. No condition. -/
import Derived.Test.YtdoibplhbdkapaaFlowS
import Derived.Lib.Overlaps
namespace Go.Proofs.Ytdoibplhbdkapaa
open Go.RowKit
set_option linter.unusedVariables false
set_option linter.unusedSimpArgs false
section
variable {P : Program} {e : List (Nat × Value)} {ty : TypeId} {w : World} {K : Value → World → Prop}
theorem ow_ext1 {f : FuncId} {args : Array Operand} {ts : Array TypeId} {vs : List Value} {v : Value} (hr : (callFunc f vs.toArray).run P w = .ok (.value v) w) (hx : argsO e args.toList = some vs) (h : K v w) : OpWp P e (.call ⟨.value (.func f), args, ts⟩) ty w K := fun ρ d p a g hρ => by
  have h1 : args.map ρ = vs.toArray := Array.ext' (by simpa using argsO_spec hρ _ _ hx)
  have h2 : ρ (.func f) = .func (.func f) #[] #[] := hρ (.func f) _ rfl
  simp only [execOp, resolve, h1, h2, Deferred.ofValue, invoke]
  simp only [Sem.run_bind, Sem.run_pure, Result.andThen_ok, Array.append_empty, Array.empty_append]
  rw [hr]
  simp only [upto]
  exact h
theorem overlaps_c {tS tR el elA tB : TypeId} {s sA sB lo lo' n c n' c' ga gb ob la ca lb cb : Nat} {cs cs' : List Value} {f : FuncId} {fn : Func} (hf : P.funcs[f]? = some fn) (h1 : (fn.name == "runtime.NumGoroutine") = false) (h2 : fn.body.isNone = true) (h3 : Extern.findNext fn = none)
    (he : Extern.find fn = some (Extern.SlicesOverlaps.overlaps #[tS, tS] #[tR])) (ht : elO P tS = some (el, s)) (oA : Own w lo elA sA (some ⟨ga, 0, none⟩) n c cs) (hn : 0 < n) (oB : Own w lo' tB sB (some ⟨gb, 0, none⟩) n' c' cs') (hn' : 0 < n') (hs : 0 < sB) (hne : ga ≠ gb) :
    (callFunc f #[.slice (some ⟨ga, 0, none⟩) la ca, .slice (some ⟨gb, ob, none⟩) lb cb]).run P w = .ok (.value (.bool false)) w := by
  obtain ⟨ti, hu, hti, hts⟩ := elO_spec ht
  obtain ⟨g1, cur1, hA1, _, hg1, hc1, hs1, _⟩ := oA.form hn
  obtain ⟨g2, cur2, hA2, _, hg2, hc2, hs2, _⟩ := oB.form hn'
  injection hA1 with hA1; injection hA1 with hA1; subst hA1
  injection hA2 with hA2; injection hA2 with hA2; subst hA2
  have hk : cur2.size ≠ 0 := by rw [hs2]; exact Nat.mul_ne_zero (by omega) (by omega)
  rw [run_callFunc_extern hf h1 h2 h3 he, Go.Lib.run_overlaps_apart w tS tR el hu s (fun w => by simp [sizeOf, typeInfo, hti, hts]) ⟨ga, 0, none⟩ ⟨gb, ob, none⟩ la ca lb cb hne elA tB cur1.size cur2.size
    (by simp [World.shape?, hg1]) (by simp [World.shape?, hg2]) hk (by simp [World.frozen?, hg1]) (by simp [World.frozen?, hg1])]
  rfl
theorem own_src {lo n c s g o : Nat} {t : TypeId} {cs ds : List Value} (h : Own w lo t s (some ⟨g, 0, none⟩) n c cs) (hd : ∀ (j : Nat) (v : Value), ds[j]? = some v → cs[o + j]? = some v) : ∀ (j : Nat) (v : Value), ds[j]? = some v → w.cell? ((⟨g, o, none⟩ : Addr).add j) = some v := fun j v hj => by
  have h1 := (h.sl.2 (o + j) v (hd j v hj)).2.2
  have e : (base (some (⟨g, 0, none⟩ : Addr))).add (o + j) = (⟨g, o, none⟩ : Addr).add j := by
    show (⟨g, 0, none⟩ : Addr).add (o + j) = _
    rw [add_blk, add_blk]; congr 1; omega
  rw [← e]; exact h1
theorem drop_src {ds : List Value} (o : Nat) : ∀ (j : Nat) (v : Value), (ds.drop o)[j]? = some v → ds[o + j]? = some v := fun j v h => by
  rwa [List.getElem?_drop] at h
end
theorem ins_fill {U Z X D : List Value} {a b : Nat} (hU : U.length = a) (hX : X.length = b) (hZ : Z.length = b + D.length) : ((U ++ Z).take a ++ X ++ (U ++ Z).drop (a + b)).take (a + b) ++ D ++ ((U ++ Z).take a ++ X ++ (U ++ Z).drop (a + b)).drop (a + b + D.length) = U ++ X ++ D := by
  subst hU; subst hX
  have e1 : (U ++ Z).take U.length = U := List.take_left
  have e2 : (U ++ X ++ (U ++ Z).drop (U.length + X.length)).take (U.length + X.length) = U ++ X := by
    rw [← List.length_append]; exact List.take_left
  have e3 : (U ++ X ++ (U ++ Z).drop (U.length + X.length)).drop (U.length + X.length + D.length) = [] := by
    apply List.drop_eq_nil_of_le
    simp only [List.length_append, List.length_drop]; omega
  rw [e1, e2, e3, List.append_nil]
theorem ins_shift {C X : List Value} {a b m : Nat} (hC : C.length = a + m + b) (hX : X.length = b) : (C.take (a + b) ++ (C.drop a).take m ++ C.drop (a + b + m)).take a ++ X ++ (C.take (a + b) ++ (C.drop a).take m ++ C.drop (a + b + m)).drop (a + b) = C.take a ++ X ++ (C.drop a).take m := by
  have e0 : C.drop (a + b + m) = [] := List.drop_eq_nil_of_le (by omega)
  have e1 : (C.take (a + b)).length = a + b := by rw [List.length_take]; omega
  rw [e0, List.append_nil, List.drop_left' e1, List.take_append_of_le_length (by rw [e1]; omega), List.take_take, Nat.min_eq_left (by omega)]
end Go.Proofs.Ytdoibplhbdkapaa
