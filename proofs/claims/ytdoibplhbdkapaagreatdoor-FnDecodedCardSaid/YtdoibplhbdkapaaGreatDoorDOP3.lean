/- Parts. No condition. -/
import Derived.Test.YtdoibplhbdkapaaGreatDoorDOP2
import Derived.Laws.BytesArg
import Derived.Lib.SlTrimSet
namespace Go.Proofs.YtdoibplhbdkapaaGreatDoor
open Go.RowKit
set_option linter.unusedVariables false
section
variable {P : Program} {e : List (Nat × Value)} {w : World} {K : Value → World → Prop} {ty : TypeId} {m : Bool}
theorem cV {f : FuncId} {args : Array Operand} {ts : Array TypeId} {vs : List Value} (hf : bQ P f) (hx : tH e args.toList = some vs)
   (hc : Calls P f vs.toArray w (fF fun v w' => v = .bool m ∧ Ext w w')) (h1 : ∀ w', m = true → Ext w w' → K (.bool true) w') (h2 : ∀ w', m = false → Ext w w' → K (.bool false) w') : OpWp P e (.call ⟨.value (.func f), args, ts⟩) ty w K :=
 aT hf hx (aP hc fun v w' h => by
   obtain ⟨rfl, hx⟩ := h
   cases hm : m
   · exact h2 w' hm hx
   · exact h1 w' hm hx)
end
section
variable {P : Program} {n : Nat} {ops : Array Oper} {K : List (Nat × Value) → World → Prop} {l : List Oper} {fl : List Bool} {e : List (Nat × Value)} {S : World → Prop} {dst : Option Tmp} {op : Op} {ty : TypeId} {pos : String} {af : Array Edge} {m : Bool}
theorem aG4 (hd : iT n dst = true) (hy : ∀ w, S w → OpWp P e op ty w fun u w' => u = .bool m ∧ Ext w w')
   (h1 : m = true → mM P n ops K l fl (kK e dst (.bool true)) S) (h2 : m = false → mM P n ops K l fl (kK e dst (.bool false)) S) : mM P n ops K (⟨dst, op, ty, pos, af, none⟩ :: l) (false :: fl) e S := by
 refine cO hd hy ?_
 cases hm : m
 · exact h2 hm
 · exact h1 hm
end
theorem eL {α : Type} {xs : List α} {k : Nat} (h : k < xs.length) : ∃ x, xs[k]? = some x ∧ xs.drop k = x :: xs.drop (k + 1) :=
 ⟨xs[k], List.getElem?_eq_getElem h, List.drop_eq_getElem_cons h⟩
theorem bL {α : Type} {xs : List α} {k : Nat} (h : ¬ (k : Int) < (xs.length : Int)) : xs.drop k = [] :=
 List.drop_eq_nil_of_le (by omega)
theorem dR {α : Type} {xs : List α} {k : Nat} (h : (k : Int) < (xs.length : Int)) : ∃ x, xs[k]? = some x ∧ xs.drop k = x :: xs.drop (k + 1) := eL (by omega)
theorem aBD {α : Type} {enc : α → List Value} (y : α) : ∀ n, tA n (enc y) = (List.replicate n y).flatMap enc
 | 0 => rfl
 | n + 1 => by rw [List.replicate_succ, List.flatMap_cons, ← aBD y n]; rfl
theorem Own.to {w : World} {lo : Nat} {t : TypeId} {s n c : Nat} {A : Option Addr} {cs cs' : List Value} (h : Own w lo t s A n c cs) (e : cs = cs') : Own w lo t s A n c cs' := e ▸ h
theorem lI {α : Type} (enc : α → List Value) (xs : List α) (x : α) : (xs ++ [x]).flatMap enc = xs.flatMap enc ++ enc x := by simp
def zD (bs : List UInt8) : ByteArray := ⟨bs.toArray⟩
theorem aIt (bs : List UInt8) : bs.flatMap eB = (bs.map (fun b => (b.toNat : Int))).map (Value.int .u8) := by
 induction bs with
 | nil => rfl
 | cons b bs ih => simp [List.flatMap_cons, ih, eB]
section
variable {P : Program} {e : List (Nat × Value)} {w : World} {K : Value → World → Prop} {ty : TypeId} {x : Operand}
theorem uR {src dst el : TypeId} {A : Option Addr} {B n c : Nat} {bs : List UInt8} (hs : P.underlying src = some (.slice el)) (he : P.underlying el = some (.int .u8)) (hd : P.underlying dst = some .string)
   (hr : Sl B w A (bs.flatMap eB)) (hx : fV e x = some (.slice A n c)) (hn : n = bs.length) (h : K (.string (zD bs)) w) : OpWp P e (.convert src dst x) ty w K := fun ρ d p a g hρ => by
 have h1 := hρ _ _ hx
 have hrun : (convert src dst (.slice A n c)).run P w = .ok (.string (zD bs)) w := by
   match A with
   | none =>
     have hb : bs = [] := by
       cases bs with
       | nil => rfl
       | cons b bs =>
         have := (hr.2 0 _ (by rw [List.flatMap_cons]; rfl)).1
         simp at this
     subst hb
     exact run_convert_bytes_nil w src el hs he _ _ dst hd
   | some ad =>
     have hl : (loadCells ad n).run P w = .ok ((bs.map (fun b => (b.toNat : Int))).map (Value.int .u8)).toArray w := by
       have := run_loadCells_list (P := P) w ad (bs.flatMap eB) (fun j v hj => hr.at_ hj)
       rw [eW tK, Nat.mul_one, ← hn] at this
       rw [this, aIt]
     rw [run_convert_bytes_string w src dst el _ n c hs he hd, run_bytesToString w _ n c _ hl, foldl_push_bytes]
     have e1 : (bs.map (fun b => (b.toNat : Int))).map (fun n => UInt8.ofNat n.toNat) = bs := by
       rw [List.map_map]
       conv => rhs; rw [← List.map_id bs]
       apply List.map_congr_left
       intro b _
       simp
     rw [e1]
     simp [zD, ByteArray.empty, ByteArray.emptyWithCapacity]
     rfl
 simp only [execOp, h1, hrun, upto, Sem.run_bind, Result.andThen_ok, Sem.run_pure]
 exact h
end
theorem nH {α : Type} {enc : α → List Value} {s f s' : Nat} (he : ∀ x, (enc x).length = s) {x x' : α} {vs : List Value} (hv : enc x' = (enc x).take f ++ vs ++ (enc x).drop (f + s')) (hf : f + s' ≤ s) : ∀ (xs : List α) (k : Nat), xs[k]? = some x →
   (xs.flatMap enc).take (k * s + f) ++ vs ++ (xs.flatMap enc).drop (k * s + f + s') = (xs.set k x').flatMap enc
 | [], k, h => by simp at h
 | y :: ys, 0, h => by
   simp only [List.getElem?_cons_zero, Option.some.injEq] at h
   subst h
   simp only [Nat.zero_mul, Nat.zero_add, List.flatMap_cons, List.set_cons_zero, hv]
   rw [List.take_append_of_le_length (by rw [he]; omega), List.drop_append_of_le_length (by rw [he]; omega)]
   simp
 | y :: ys, k + 1, h => by
   have ih := nH he hv hf ys k (by simpa using h)
   have e1 : (k + 1) * s + f = s + (k * s + f) := by rw [Nat.add_mul, Nat.one_mul]; omega
   simp only [List.flatMap_cons, List.set_cons_succ, e1, ← ih]
   rw [List.take_append, List.take_of_length_le (by rw [he]; omega), List.drop_append, List.drop_of_length_le (by rw [he]; omega), he,
     show s + (k * s + f) - s = k * s + f by omega, show s + (k * s + f) + s' - s = k * s + f + s' by omega]
   simp
section
variable {P : Program} {e : List (Nat × Value)} {w : World} {K : Value → World → Prop} {ty t el : TypeId} {x y : Operand} {s b : Nat} {a : Bool} {z : List Value}
theorem aEi {lo n c j f s' : Nat} {A : Option Addr} {cs vs : List Value} {v : Value} (hown : Own w lo el s A n c cs) (ht : pN P t = some (a, s', b, z)) (hx : fV e x = some (.pointer (some (((pV A).add j).add f)))) (hv : fV e y = some v) (hc : v.cells = vs.toArray) (hl : vs.length = s') (hj : j + f + s' ≤ n * s) (h0 : 0 < n * s)
   (h1 : vs.all (·.oneCell') = true) (h : ∀ w', Own w' lo el s A n c (cs.take (j + f) ++ vs ++ cs.drop (j + f + s')) → w.grownBy w' ((Value.slice A n c).ownBlock) → w'.heap.size = w.heap.size → K undef w') : OpWp P e (.store t x y) ty w K :=
 pO hown ht (by rw [hx, mQ]) hv hc hl hj h0 h1 h
end
section
variable {P : Program} {e : List (Nat × Value)} {w : World} {K : Value → World → Prop} {ty t t' : TypeId} {x y : Operand} {b c : Bool}
theorem aG5 (ht :      P.underlying t = some .bool) (hx : fV e x = some (.bool b)) (hy : fV e y = some (.bool c)) (h : K (.bool (decide (b = c))) w) : OpWp P e (.binOp .eql t x y t') ty w K :=
 aId ht hx hy (by     have e1 : (b == c) = decide (b = c) := by cases b <;> cases c <;> rfl
                      rw [e1]; exact h)
theorem aFX (ht : P.underlying t = some .bool) (hx : fV e x = some (.bool b)) (hy : fV e y = some (.bool c)) (h1 : b = c → K (.bool true) w) (h2 : ¬ (b = c) → K (.bool false) w) : OpWp P e (.binOp .eql t x y t') ty w K :=
 aG5 ht hx hy (bsp (R := fun b => K (.bool b) w) h1 h2)
end
section
variable {P : Program} {e : List (Nat × Value)} {w : World} {K : Value → World → Prop} {ty : TypeId} {m : Bool}
theorem aFY {f : FuncId} {x : Operand} {cs : List Value} {args : Array Operand} {ts : Array TypeId} {vs : List Value} (hf : bQ P f) (hv : fV e x = some (.func (.func f) #[] cs.toArray)) (hx : tH e args.toList = some vs)
   (hc : Calls P f (vs ++ cs).toArray w (fF K)) : OpWp P e (.call ⟨.value x, args, ts⟩) ty w K :=
 aGQ hf hv hx (by
   have e1 : (#[] ++ vs.toArray ++ cs.toArray : Array Value) = (vs ++ cs).toArray := by simp
   rw [e1]; exact hc)
theorem wF {f : FuncId} {x : Operand} {cs : List Value} {args : Array Operand} {ts : Array TypeId} {vs : List Value} (hf : bQ P f) (hv : fV e x = some (.func (.func f) #[] cs.toArray)) (hx : tH e args.toList = some vs)
   (hc : Calls P f (vs ++ cs).toArray w (fF fun v w' => v = .bool m ∧ Ext w w')) (h1 : ∀ w', m = true → Ext w w' → K (.bool true) w') (h2 : ∀ w', m = false → Ext w w' → K (.bool false) w') : OpWp P e (.call ⟨.value x, args, ts⟩) ty w K :=
 aFY hf hv hx (aP hc fun v w' h => by
   obtain ⟨rfl, hx⟩ := h
   cases hm : m
   · exact h2 w' hm hx
   · exact h1 w' hm hx)
end
theorem pJ (w : World) (row : Option Nat) : w.grownBy w row := ⟨rfl, rfl, rfl, Nat.le_refl _, fun _ _ _ => rfl⟩
theorem dI {w a b : World} {row : Option Nat} (h : w.grownBy a row) (k : a.grownBy b row) : w.grownBy b row :=
 ⟨k.os.trans h.os, k.tape.trans h.tape, k.output.trans h.output, Q7l h.size k.size, fun i hi hr => (k.block i (Nat.lt_of_lt_of_le hi h.size) hr).trans (h.block i hi hr)⟩
section
variable {w w' : World} {lo lo' n c s n' c' s' g : Nat} {t t' : TypeId} {A A' : Option Addr} {cs cs' ds : List Value}
theorem Own.grown {row : Option Nat} (h : Own w lo t s A n c cs) (hg : w.grownBy w' row) (hr : ∀ g, row = some g → (Value.slice A n c).ownBlock ≠ some g) : Own w' lo t s A n c cs := by
 refine ⟨h.1, ?_⟩
 rcases h.2 with h2 | ⟨g, cap, cur, hv, hlo, hh, r⟩
 · exact .inl h2
 · exact .inr ⟨g, cap, cur, hv, hlo, (hg.block g (Array.getElem?_eq_some_iff.1 hh).1 (fun e => hr g e.symm (by rw [hv]; rfl))).trans hh, r⟩
theorem Own.grownBlk (h : Own w lo t s A n c cs) (hg : w.grownBy w' (some g)) (hr : (Value.slice A n c).ownBlock ≠ some g) : Own w' lo t s A n c cs :=
 h.grown hg fun g' e => by injection e with e; rw [← e]; exact hr
theorem Own.at_ (h : Own w lo t s A n c cs) (hg : (Value.slice A n c).ownBlock = some g) : ∃ cur, w.heap[g]? = some (.cells cur t (0, 0)) := by
 rcases h.2 with ⟨h1, h2⟩ | ⟨g', cap, cur, hv, hlo, hh, r⟩
 · rw [h1] at hg; simp [Value.ownBlock] at hg
 · rw [hv] at hg
   have e : g' = g := by simpa [Value.ownBlock] using hg
   subst e; exact ⟨cur, hh⟩
theorem Own.neT (h : Own w lo t s A n c cs) (hb : Blk w g t' ds) (ht : t ≠ t') : (Value.slice A n c).ownBlock ≠ some g := fun e => by
 obtain ⟨cur, h1⟩ := h.at_ e
 unfold Blk at hb
 rw [h1] at hb
 injection hb with hb; injection hb with _ h2; exact ht h2
theorem Own.neO (h : Own w lo t s A n c cs) (k : Own w lo' t' s' A' n' c' ds) (ht : t ≠ t') : ∀ g, (Value.slice A' n' c').ownBlock = some g → (Value.slice A n c).ownBlock ≠ some g := fun g hg e => by
 obtain ⟨cur, h1⟩ := h.at_ e
 obtain ⟨cur', h2⟩ := k.at_ hg
 rw [h1] at h2
 injection h2 with h2; injection h2 with _ h3; exact ht h3
end
set_option linter.unusedSimpArgs false
def iF (a b c : Int) : Bool := decide (b ≤ a) && decide (a ≤ c)
theorem eO {a b c : Int} : iF a b c = true ↔ b ≤ a ∧ a ≤ c := by simp [iF]
def nU (xs : List Int) : Bool := decide ((xs.length : Int) ≤ 1024) && xs.all fun x => iF x 0 255
theorem iE {xs : List Int} {k : Nat} {x : Int} (h : nU xs = true) (hx : xs[k]? = some x) : 0 ≤ x ∧ x ≤ 255 := by
 have h1 := List.all_eq_true.1 (by simp only [nU, Bool.and_eq_true] at h; exact h.2) x (List.mem_of_getElem? hx)
 simpa [iF] using h1
theorem qR {xs : List Int} (h : nU xs = true) : xs.length ≤ 1024 := by
 simp only [nU, Bool.and_eq_true, decide_eq_true_eq] at h; omega
def lJ (k z : Int) : Bool := if k = 0 then iF z 0 32 else if k = 2 then iF z 1 32 else decide (z = 0)
def pG (k z : Int) : Int := 1 + (if k = 0 then 0 else 8) + (if k = 0 ∨ k = 2 then 1 + z else 0)
def wG (k z : Int) : Int := 11 + 10 * (pG k z + 3)
def fP (d : Desc) : Bool := iF d.node 0 31 && iF d.kind 0 3 && lJ d.kind d.size && !(d.change && decide (d.kind = 3)) && iF d.duration (wG d.kind d.size + 20) 1000
def hP (x : SlotI) : Bool := iF x.mode 0 15 && iF x.round 0 7 && iF x.slot 0 15 && fP x.desc
def fH : Option SlotI → List SlotI → Bool
 | _, [] => true
 | none, x :: r => hP x && fH (some x) r
 | some y, x :: r => hP x && decide (rC y x < 0) && fH (some x) r
def iB (xs : List SlotI) : Bool := fH none xs && decide (xs.length ≤ 120)
def qF (xs : List SlotI) (k : Nat) : Option SlotI := if k = 0 then none else xs[k - 1]?
theorem sH {xs : List SlotI} {k : Nat} {x : SlotI} (h : xs[k]? = some x) : qF xs (k + 1) = some x := by simp [qF, h]
theorem jS {xs : List SlotI} {k : Nat} {y : SlotI} (hk : 0 < k) (h : xs[k - 1]? = some y) : qF xs k = some y := by rw [qF, if_neg (by omega)]; exact h
theorem sJ {xs : List SlotI} {k : Nat} (hk : ¬ 0 < (k : Int)) : qF xs k = none := by rw [qF, if_pos (by omega)]
theorem sK : ∀ (xs : List SlotI) (p : Option SlotI), fH p xs = true → ∀ x ∈ xs, hP x = true
 | [], _, _, x, hx => by simp at hx
 | y :: r, p, h, x, hx => by
   have h1 : hP y = true ∧ fH (some y) r = true := by
     cases p <;> simp [fH] at h
     · exact h
     · exact ⟨h.1.1, h.2⟩
   rcases List.mem_cons.1 hx with rfl | hx
   · exact h1.1
   · exact sK r _ h1.2 x hx
theorem aIu {xs : List SlotI} {k : Nat} {x : SlotI} (h : iB xs = true) (hx : xs[k]? = some x) : hP x = true := by
 simp only [iB, Bool.and_eq_true] at h
 exact sK _ _ h.1 x (List.mem_of_getElem? hx)
theorem tR {xs : List SlotI} (h : iB xs = true) : xs.length ≤ 120 := by
 simp only [iB, Bool.and_eq_true, decide_eq_true_eq] at h; exact h.2
def nA (m r s : Int) (x : SlotI) : Bool := decide (x.mode = m) && decide (x.round = r) && decide (x.slot = s)
def iC (f : SlotI → Bool) (k : Int) : List SlotI → Int
 | [] => -1
 | x :: r => if f x = true then k else iC f (k + 1) r
theorem aDj {f : SlotI → Bool} : ∀ (xs : List SlotI) (k : Nat), iC f k xs = -1 ∨ ∃ j x, iC f k xs = ((k + j : Nat) : Int) ∧ xs[j]? = some x ∧ f x = true
 | [], k => .inl rfl
 | x :: r, k => by
   rw [iC]
   split
   · exact .inr ⟨0, x, rfl, rfl, by assumption⟩
   · rcases aDj r (k + 1) with h | ⟨j, y, h, h1, h2⟩
     · exact .inl h
     · refine .inr ⟨j + 1, y, ?_, by simpa using h1, h2⟩
       rw [show ((k : Int) + 1) = ((k + 1 : Nat) : Int) by omega, h]; congr 1; omega
def WI (P : Program) (ops : Array Oper) (I : World → Prop) (K : Act → World → Prop) : Nat → Array Bool → Act → World → Prop
 | 0, listed, a, w => listed = nQ ops ops.size ∧ I w ∧ K a w
 | fuel + 1, listed, a, w => I w ∧ rdy ops ops.size listed ≠ [] ∧ ∀ i ∈ rdy ops ops.size listed, ∀ o, ops[i]? = some o →
     OpX P ops o a w fun u w' => WI P ops I K fuel (listed.setIfInBounds i true) (a.put o.dst u) w'
section
variable {P : Program} {ops : Array Oper} {I : World → Prop} {K : Act → World → Prop}
theorem WI.inv : ∀ {fuel : Nat} {listed : Array Bool} {a : Act} {w : World}, WI P ops I K fuel listed a w → I w
 | 0, _, _, _, h => h.2.1
 | _ + 1, _, _, _, h => h.1
theorem aAT {i : Nat} {oi : Oper} {v : Value} (hi : ops[i]? = some oi) (hsel : ∀ (j : Nat) (o : Oper) cs b, ops[j]? = some o → o.op ≠ .select cs b) :
   ∀ (fuel : Nat) (listed : Array Bool) (a : Act) (w : World),
     (∀ j oj, ops[j]? = some oj → j ≠ i → listed.getD j true = false → (∀ e ∈ oj.after, Region.binds .any e = true → e.on ≠ i) → oi.apart ops oj = true) →
     i ∈ rdy ops ops.size listed → (∀ w, I w → OpX P ops oi a w fun u w' => u = v ∧ w' = w) →
     WI P ops I K fuel (listed.setIfInBounds i true) (a.put oi.dst v) w → WI P ops I K (fuel + 1) listed a w := by
 have here : ∀ (fuel : Nat) (listed : Array Bool) (a : Act) (w : World), (∀ w, I w → OpX P ops oi a w fun u w' => u = v ∧ w' = w) →
     WI P ops I K fuel (listed.setIfInBounds i true) (a.put oi.dst v) w →
     OpX P ops oi a w fun u w' => WI P ops I K fuel (listed.setIfInBounds i true) (a.put oi.dst u) w' := by
   intro fuel listed a w hy H
   refine OpX.mono (hy w H.inv) fun u w' ⟨h1, h2⟩ => ?_
   subst h1; subst h2; exact H
 intro fuel
 induction fuel with
 | zero =>
   intro listed a w _ hr hy H
   refine ⟨H.inv, fun h => (by rw [h] at hr; cases hr), fun j hj o ho => ?_⟩
   by_cases hji : j = i
   · subst hji
     obtain rfl : o = oi := by rw [hi] at ho; injection ho with ho; exact ho.symm
     exact here 0 listed a w hy H
   · exfalso
     obtain ⟨hj1, hj2⟩ := kO.1 hj
     have h1 := (mem_ready.1 (ready_mono hj1 hji)).1
     rw [H.1, rV j hj2] at h1
     cases h1
 | succ fuel ih =>
   intro listed a w hfree hr hy H
   refine ⟨H.inv, fun h => (by rw [h] at hr; cases hr), fun j hj oj hoj => ?_⟩
   by_cases hji : j = i
   · subst hji
     obtain rfl : oj = oi := by rw [hi] at hoj; injection hoj with ho; exact ho.symm
     exact here _ listed a w hy H
   · obtain ⟨hj1, hj2⟩ := kO.1 hj
     obtain ⟨hi1, hi2⟩ := kO.1 hr
     have hex := H.2.2 j (kO.2 ⟨ready_mono hj1 hji, hj2⟩) oj hoj
     obtain ⟨hjun, oj', hoj', hall⟩ := mem_ready.1 hj1
     obtain rfl : oj' = oj := by rw [hoj] at hoj'; injection hoj' with ho; exact ho.symm
     have hnot : ∀ e ∈ oj'.after, Region.binds .any e = true → e.on ≠ i := fun e he hb heq => by
       have h1 := hall e he hb
       have h0 := (mem_ready.1 hi1).1
       rw [heq] at h1
       rcases Nat.lt_or_ge i listed.size with h' | h'
       · simp [h'] at h0 h1; rw [h0] at h1; cases h1
       · simp [Array.getElem?_eq_none h'] at h1
     have hap := hfree j oj' hoj hji hjun hnot
     obtain ⟨ha1, ha2, ha3⟩ := Oper.apart_spec hap
     refine OpX.mono ((OpX.put (fun cs b => hsel j oj' cs b hoj) ha1).1 hex) fun u w' hu => ih _ _ _ ?_ (kO.2 ⟨ready_mono hi1 (Ne.symm hji), hi2⟩) (fun w hw => (OpX.put (fun cs b => hsel i oi cs b hi) ha3).2 (hy w hw)) ?_
     · intro k ok hk hki hun hno
       refine hfree k ok hk hki ?_ hno
       by_cases hjk : j = k
       · subst hjk; exact hjun
       · rw [getD_set_ne true hjk] at hun; exact hun
     · rw [Array.setIfInBounds_comm _ _ hji, ← Act.put_comm a v u ha2]
       exact hu
theorem aG6 {Q : Exit → Act → World → Prop} (hK : ∀ a w, K a w → wpAny P .any ops Q 0 (nQ ops ops.size) a w) :
   ∀ (fuel : Nat) (listed : Array Bool) (a : Act) (w : World), WI P ops I K fuel listed a w → wpAny P .any ops Q fuel listed a w := by
 intro fuel
 induction fuel with
 | zero => intro listed a w h; obtain ⟨rfl, _, h2⟩ := h; exact hK _ _ h2
 | succ fuel ih =>
   intro listed a w h
   obtain ⟨_, hne, hall⟩ := h
   obtain ⟨k, hk⟩ := List.exists_mem_of_ne_nil _ hne
   refine ⟨fun h0 => (by have := (kO.1 hk).1; rw [h0] at this; cases this), fun i hi => ?_⟩
   obtain ⟨hiun, oi, hoi, hedge⟩ := mem_ready.1 hi
   have him : i < ops.size := (Array.getElem?_eq_some_iff.1 hoi).1
   exact OpX.wpOp hoi (hall i (kO.2 ⟨hi, him⟩) oi hoi) fun v w' hv => ih _ _ _ hv
end
theorem aBE (ops : Array Oper) : Region.ready .any ops (nQ ops ops.size) = [] := by
 apply List.eq_nil_iff_forall_not_mem.2
 intro i hi
 obtain ⟨h1, o, ho, _⟩ := mem_ready.1 hi
 have hlt : i < ops.size := (Array.getElem?_eq_some_iff.1 ho).1
 rw [rV i hlt] at h1
 cases h1
def WE (P : Program) (n : Nat) (ops : Array Oper) (I : World → Prop) (K : Act → World → Prop) (fuel : Nat) (listed : Array Bool) (e : List (Nat × Value)) (w : World) : Prop :=
 ∀ a, Fits n e a → WI P ops I K fuel listed a w
section
variable {P : Program} {n : Nat} {ops : Array Oper} {I : World → Prop} {K : Act → World → Prop} {fuel : Nat} {listed listed' : Array Bool} {e : List (Nat × Value)} {w : World}
theorem dH (i : Nat) {dst : Option Tmp} {op : Op} {ty : TypeId} {pos : String} {af : Array Edge} {v : Value} (hi : ops[i]? = some ⟨dst, op, ty, pos, af, none⟩) (hs : Region.noSelect ops = true) (hd : iT n dst = true)
   (ht : vJ ops ops.size listed i = true) (hl : listed.setIfInBounds i true = listed') (hy : ∀ w, I w → OpWp P e op ty w fun u w' => u = v ∧ w' = w)
   (h : WE P n ops I K fuel listed' (kK e dst v) w) : WE P n ops I K (fuel + 1) listed e w := fun a ha => by
 simp only [vJ, Bool.and_eq_true] at ht
 refine aAT hi (Region.noSelect_spec hs) fuel listed a w (Region.free_spec hi ht.1) (by simpa using ht.2) (fun w hw => (hy w hw).opX ha) ?_
 rw [hl]
 exact h _ (ha.put dst v hd)
theorem hU (i : Nat) {dst : Option Tmp} {op : Op} {ty : TypeId} {pos : String} {af : Array Edge} (hi : ops[i]? = some ⟨dst, op, ty, pos, af, none⟩) (hd : iT n dst = true)
   (hr : rdy ops ops.size listed = [i]) (hl : listed.setIfInBounds i true = listed') (hI : I w) (hy : OpWp P e op ty w fun u w' => WE P n ops I K fuel listed' (kK e dst u) w') : WE P n ops I K (fuel + 1) listed e w := fun a ha => by
 refine ⟨hI, by rw [hr]; simp, fun j hj o ho => ?_⟩
 rw [hr] at hj
 obtain rfl : j = i := by simpa using hj
 obtain rfl : ⟨dst, op, ty, pos, af, none⟩ = o := by rw [hi] at ho; injection ho
 refine OpX.mono (OpWp.opX ha hy) fun u w' hu => ?_
 rw [hl]
 exact hu _ (ha.put dst u hd)
theorem aG7 (i k : Nat) {listed'' : Array Bool} {dst : Option Tmp} {op : Op} {ty : TypeId} {pos : String} {af : Array Edge} {dst2 : Option Tmp} {op2 : Op} {ty2 : TypeId} {pos2 : String} {af2 : Array Edge} (hi : ops[i]? = some ⟨dst, op, ty, pos, af, none⟩) (hk : ops[k]? = some ⟨dst2, op2, ty2, pos2, af2, none⟩) (hd : iT n dst = true) (hd2 : iT n dst2 = true)
   (hr : rdy ops ops.size listed = [i, k]) (hl : listed.setIfInBounds i true = listed') (hl2 : listed.setIfInBounds k true = listed'') (hI : I w) (hy : OpWp P e op ty w fun u w' => WE P n ops I K fuel listed' (kK e dst u) w')
   (hy2 : OpWp P e op2 ty2 w fun u w' => WE P n ops I K fuel listed'' (kK e dst2 u) w') : WE P n ops I K (fuel + 1) listed e w := fun a ha => by
 refine ⟨hI, by rw [hr]; simp, fun j hj o ho => ?_⟩
 rw [hr] at hj
 simp only [List.mem_cons, List.not_mem_nil, or_false] at hj
 rcases hj with rfl | rfl
 · obtain rfl : ⟨dst, op, ty, pos, af, none⟩ = o := by rw [hi] at ho; injection ho
   refine OpX.mono (OpWp.opX ha hy) fun u w' hu => ?_
   rw [hl]
   exact hu _ (ha.put dst u hd)
 · obtain rfl : ⟨dst2, op2, ty2, pos2, af2, none⟩ = o := by rw [hk] at ho; injection ho
   refine OpX.mono (OpWp.opX ha hy2) fun u w' hu => ?_
   rw [hl2]
   exact hu _ (ha.put dst2 u hd2)
theorem jE (hl : listed = nQ ops ops.size) (hI : I w) (h : ∀ a, Fits n e a → K a w) : WE P n ops I K 0 listed e w := fun a ha => ⟨hl, hI, h a ha⟩
end
theorem tT {P : Program} {n : Nat} {id : Nat} {l : List Oper} {e : List (Nat × Value)} {w : World} {Q : Exit → List (Nat × Value) → World → Prop} {y : Code} (I : World → Prop)
   (hx : P.follows .mixedOrders = true)
   (h : WE P n l.toArray I (fun a w => ∃ e', Fits n e' a ∧ rT P n y e' w Q) l.toArray.size (Array.replicate l.toArray.size false) e w.drew) : rT P n (.seq (.region id l.toArray true) y) e w Q := aR fun a ha => by
 exact wp_region_any hx (aG6 (K := fun a w => ∃ e', Fits n e' a ∧ rT P n y e' w Q) (Q := fun x a' w' => ∃ e', Fits n e' a' ∧ yR (fun e' w' => rT P n y e' w' Q) Q x e' w') (fun a w ⟨e', hf, hk⟩ => ⟨aBE _, e', hf, hk⟩) _ _ _ _ (h a ha))
theorem aG8 {P : Program} {n : Nat} {id : Nat} {l : List Oper} {e : List (Nat × Value)} {w : World} {Q : Exit → List (Nat × Value) → World → Prop} (I : World → Prop)
   (hx : P.follows .mixedOrders = true)
   (h : WE P n l.toArray I (fun a w => ∃ e', Fits n e' a ∧ Q .normal e' w) l.toArray.size (Array.replicate l.toArray.size false) e w.drew) : rT P n (.region id l.toArray true) e w Q := fun a ha => by
 exact wp_region_any hx (aG6 (K := fun a w => ∃ e', Fits n e' a ∧ Q .normal e' w) (Q := fun x a' w' => ∃ e', Fits n e' a' ∧ Q x e' w') (fun a w ⟨e', hf, hk⟩ => ⟨aBE _, e', hf, hk⟩) _ _ _ _ (h a ha))
theorem dU {w a b : World} {row : Option Nat} (h : w.grownBy a row) (k : Ext a b) : w.grownBy b row :=
 ⟨k.os.trans h.os, k.tape.trans h.tape, k.output.trans h.output, Q7l h.size k.size, fun i hi hr => (k.block i (Nat.lt_of_lt_of_le hi h.size)).trans (h.block i hi hr)⟩
theorem dV {w a b : World} {row row' : Option Nat} (h : w.grownBy a row) (k : a.grownBy b row') (hr : ∀ g, row' = some g → w.heap.size ≤ g) : w.grownBy b row :=
 ⟨k.os.trans h.os, k.tape.trans h.tape, k.output.trans h.output, Q7l h.size k.size, fun i hi hn => (k.block i (Nat.lt_of_lt_of_le hi h.size) (fun e => by have := hr i e.symm; omega)).trans (h.block i hi hn)⟩
structure Mode where
 rounds : Int
 slots : Int
 next : List Int
structure ModeI where
 m : Mode
 A : Option Addr
 c : Nat
def ModeI.cells (x : ModeI) : List Value := [.int .i64 x.m.rounds, .int .i64 x.m.slots, .slice x.A x.m.next.length x.c]
theorem ModeI.len (x : ModeI) : x.cells.length = 3 := rfl
def Nexts (B : Nat) (w : World) (xs : List ModeI) : Prop := B ≤ w.heap.size ∧ ∀ x ∈ xs, Sl B w x.A (x.m.next.flatMap eI) ∧ x.m.next.length ≤ 9223372036854775807
section
variable {B B' : Nat} {w w' : World} {xs ys : List ModeI}
theorem Nexts.at_ {k : Nat} {x : ModeI} (h : Nexts B w xs) (hx : xs[k]? = some x) : Sl B w x.A (x.m.next.flatMap eI) := (h.2 x (List.mem_of_getElem? hx)).1
theorem Nexts.len {k : Nat} {x : ModeI} (h : Nexts B w xs) (hx : xs[k]? = some x) : x.m.next.length ≤ 9223372036854775807 := (h.2 x (List.mem_of_getElem? hx)).2
theorem Nexts.below (h : Nexts B w xs) (hb : Below B w w') : Nexts B w' xs := ⟨Q7l h.1 hb.size, fun x hx => ⟨(h.2 x hx).1.below hb, (h.2 x hx).2⟩⟩
theorem Nexts.ext (h : Nexts B w xs) (hb : Ext w w') : Nexts B w' xs := h.below (Below.mono hb h.1)
theorem Nexts.grown {row : Option Nat} (h : Nexts B w xs) (hg : w.grownBy w' row) (hr : ∀ g, row = some g → B ≤ g) : Nexts B w' xs := ⟨Q7l h.1 hg.size, fun x hx => ⟨(h.2 x hx).1.grown hg hr, (h.2 x hx).2⟩⟩
theorem Nexts.more (h : Nexts B w xs) (hB : B ≤ B') (hw : B' ≤ w.heap.size) : Nexts B' w xs := ⟨hw, fun x hx => ⟨(h.2 x hx).1.more hB hw, (h.2 x hx).2⟩⟩
theorem Nexts.nil_ (hB : B ≤ w.heap.size) : Nexts B w [] := ⟨hB, fun x hx => by simp at hx⟩
theorem Nexts.snoc {x : ModeI} (h : Nexts B w xs) (hx : Sl B w x.A (x.m.next.flatMap eI)) (hl : x.m.next.length ≤ 9223372036854775807) : Nexts B w (xs ++ [x]) := ⟨h.1, fun y hy => by
 rcases List.mem_append.1 hy with h1 | h1
 · exact h.2 y h1
 · obtain rfl : y = x := by simpa using h1
   exact ⟨hx, hl⟩⟩
end
def NOwn (w : World) (lo : Nat) (t : TypeId) (xs : List ModeI) : Prop := ∀ x ∈ xs, Own w lo t 1 x.A x.m.next.length x.c (x.m.next.flatMap eI) ∧ x.m.next.length ≤ 9223372036854775807
section
variable {w w' : World} {lo lo' n c s g : Nat} {t t' : TypeId} {A : Option Addr} {cs : List Value} {xs : List ModeI}
theorem NOwn.nil_ : NOwn w lo t [] := fun x hx => by simp at hx
theorem NOwn.ext (h : NOwn w lo t xs) (hb : Ext w w') : NOwn w' lo t xs := fun x hx => ⟨(h x hx).1.ext hb, (h x hx).2⟩
theorem NOwn.low (h : NOwn w lo t xs) (hl : lo' ≤ lo) : NOwn w lo' t xs := fun x hx => ⟨(h x hx).1.low hl, (h x hx).2⟩
theorem NOwn.grownO (h : NOwn w lo t xs) (k : Own w lo' t' s A n c cs) (hg : w.grownBy w' (Value.slice A n c).ownBlock) (ht : t ≠ t') : NOwn w' lo t xs := fun x hx => ⟨(h x hx).1.grown hg (Own.neO (h x hx).1 k ht), (h x hx).2⟩
theorem NOwn.grownB (h : NOwn w lo t xs) (k : Blk w g t' cs) (hg : w.grownBy w' (some g)) (ht : t ≠ t') : NOwn w' lo t xs := fun x hx => ⟨(h x hx).1.grownBlk hg (Own.neT (h x hx).1 k ht), (h x hx).2⟩
theorem NOwn.nexts (h : NOwn w lo t xs) : Nexts w.heap.size w xs := ⟨Nat.le_refl _, fun x hx => ⟨(h x hx).1.sl, (h x hx).2⟩⟩
theorem NOwn.snoc {x : ModeI} (h : NOwn w lo t xs) (hx : Own w lo t 1 x.A x.m.next.length x.c (x.m.next.flatMap eI)) (hl : x.m.next.length ≤ 9223372036854775807) : NOwn w lo t (xs ++ [x]) := fun y hy => by
 rcases List.mem_append.1 hy with h1 | h1
 · exact h y h1
 · obtain rfl : y = x := by simpa using h1
   exact ⟨hx, hl⟩
end
def qS {α : Type} (xs : List α) (k : Nat) : Option α := if k = 0 then none else xs[k - 1]?
theorem kV {α : Type} {xs : List α} {k : Nat} {x : α} (h : xs[k]? = some x) : qS xs (k + 1) = some x := by simp [qS, h]
theorem fA {α : Type} {xs : List α} {k : Nat} {y : α} (hk : 0 < (k : Int)) (h : xs[k - 1]? = some y) : qS xs k = some y := by rw [qS, if_neg (by omega)]; exact h
theorem kW {α : Type} {xs : List α} {k : Nat} (hk : ¬ 0 < (k : Int)) : qS xs k = none := by rw [qS, if_pos (by omega)]
theorem aCl {α β : Type} {f : α → β} {xs : List α} {k : Nat} {x : α} (h : xs[k]? = some x) : (xs.map f)[k]? = some (f x) := by simp [h]
def fJ (n : Int) : Option Int → List Int → Bool
 | _, [] => true
 | none, x :: r => iF x 0 (n - 1) && fJ n (some x) r
 | some y, x :: r => iF x 0 (n - 1) && decide (y < x) && fJ n (some x) r
theorem uS {n x : Int} {r : List Int} (h : iF x 0 (n - 1) = true) : fJ n none (x :: r) = fJ n (some x) r := by simp [fJ, h]
theorem uT {n x y : Int} {r : List Int} (h : iF x 0 (n - 1) = true) (h2 : y < x) : fJ n (some y) (x :: r) = fJ n (some x) r := by simp [fJ, h, h2]
theorem hZ {n x : Int} {p : Option Int} {r : List Int} (h : iF x 0 (n - 1) = false) : fJ n p (x :: r) = false := by cases p <;> simp [fJ, h]
theorem mC {n x y : Int} {r : List Int} (h2 : ¬ y < x) : fJ n (some y) (x :: r) = false := by simp [fJ, h2]
theorem nI {n : Int} {p : Option Int} : fJ n p [] = true := by cases p <;> rfl
def gE (xs : List Int) (n : Int) : Bool := fJ n none xs
def vF (xs : List Int) (v : Int) : Bool := xs.any fun x => decide (x = v)
def aBl (v : Int) (k : Int) : List Int → Int
 | [] => -1
 | x :: r => if x = v then k else aBl v (k + 1) r
theorem aDk (v : Int) : ∀ (xs : List Int) (k : Int), 0 ≤ k → decide (0 ≤ aBl v k xs) = vF xs v
 | [], k, h => by simp [aBl, vF]
 | x :: r, k, h => by
   rw [aBl]
   by_cases e : x = v
   · rw [if_pos e]; simp [vF, e, h]
   · rw [if_neg e, aDk v r (k + 1) (by omega)]; simp [vF, e]
def jZ (n i : Int) (x : Mode) : Bool := iF x.rounds 1 8 && iF x.slots 1 16 && gE x.next n && !(vF x.next i)
def dS (n : Int) (i : Int) : List Mode → Bool
 | [] => true
 | x :: r => jZ n i x && dS n (i + 1) r
theorem wX : ∀ (ms : List Mode) (n i : Int) (k : Nat) (x : Mode), dS n i ms = true → ms[k]? = some x → jZ n (i + k) x = true
 | [], n, i, k, x, h, hx => by simp at hx
 | y :: r, n, i, 0, x, h, hx => by
   simp only [dS, Bool.and_eq_true] at h
   simp at hx; subst hx; simpa using h.1
 | y :: r, n, i, k + 1, x, h, hx => by
   simp only [dS, Bool.and_eq_true] at h
   have := wX r n (i + 1) k x h.2 (by simpa using hx)
   rwa [show i + 1 + (k : Int) = i + ((k + 1 : Nat) : Int) by omega] at this
def jX (ms : List Mode) : Bool := iF ms.length 1 16 && dS ms.length 0 ms
theorem aAf {ms : List Mode} {k : Nat} {x : Mode} (h : jX ms = true) (hx : ms[k]? = some x) : jZ ms.length k x = true := by
 simp only [jX, Bool.and_eq_true] at h
 have := wX ms _ _ k x h.2 hx
 simpa using this
theorem tU {ms : List Mode} (h : jX ms = true) : 1 ≤ ms.length ∧ ms.length ≤ 16 := by
 simp only [jX, Bool.and_eq_true] at h
 have := eO.1 h.1; omega
theorem uU {n i : Int} {x : Mode} (h : jZ n i x = true) : (1 ≤ x.rounds ∧ x.rounds ≤ 8) ∧ (1 ≤ x.slots ∧ x.slots ≤ 16) ∧ gE x.next n = true := by
 simp only [jZ, Bool.and_eq_true] at h
 exact ⟨eO.1 h.1.1.1, eO.1 h.1.1.2, h.1.2⟩
def aE8 (n : Nat) (left : Int) : Int := if left - n < 0 then -1 else left - n
def aK7 : List ModeI → Int → Int
 | [], left => left
 | x :: r, left => if aE8 x.m.next.length left < 0 then -1 else aK7 r (aE8 x.m.next.length left)
def szM (xs : List ModeI) (left : Int) : Int := if left - xs.length < 0 then -1 else aK7 xs (left - xs.length)
structure Win (lo hi : Nat) (w w' : World) : Prop where
 os : w'.os = w.os
 tape : w'.tape = w.tape
 output : w'.output = w.output
 size : w.heap.size ≤ w'.heap.size
 block : ∀ k, k < w.heap.size → (k < lo ∨ hi ≤ k) → w'.heap[k]? = w.heap[k]?
section
variable {lo hi lo' n c s : Nat} {w w' w'' : World} {t : TypeId} {A : Option Addr} {cs : List Value} {xs : List ModeI}
theorem Win.refl (lo hi : Nat) (w : World) : Win lo hi w w := ⟨rfl, rfl, rfl, Nat.le_refl _, fun _ _ _ => rfl⟩
theorem Win.grown {row : Option Nat} (h : Win lo hi w w') (hg : w'.grownBy w'' row) (hr : ∀ g, row = some g → lo ≤ g ∧ g < hi) : Win lo hi w w'' :=
 ⟨hg.os.trans h.os, hg.tape.trans h.tape, hg.output.trans h.output, Q7l h.size hg.size, fun k hk ho => (hg.block k (Nat.lt_of_lt_of_le hk h.size) (fun e => by have := hr k e.symm; omega)).trans (h.block k hk ho)⟩
theorem Win.below (h : Win lo hi w w') (hlo : lo ≤ w.heap.size) : Below lo w w' := ⟨h.os, h.tape, h.output, h.size, fun k hk => h.block k (Nat.lt_of_lt_of_le hk hlo) (.inl hk)⟩
theorem Own.win (h : Own w lo' t s A n c cs) (x : Win lo hi w w') (hl : hi ≤ lo') : Own w' lo' t s A n c cs := by
 refine ⟨h.1, ?_⟩
 rcases h.2 with h2 | ⟨g, cap, cur, hv, hlo, hh, r⟩
 · exact .inl h2
 · exact .inr ⟨g, cap, cur, hv, hlo, (x.block g (Array.getElem?_eq_some_iff.1 hh).1 (.inr (by omega))).trans hh, r⟩
def ModeI.blk (x : ModeI) : Option Nat := (Value.slice x.A x.m.next.length x.c).ownBlock
def Disj (xs : List ModeI) : Prop := ∀ (i j : Nat) (x y : ModeI), xs[i]? = some x → xs[j]? = some y → i ≠ j → ∀ g, x.blk = some g → y.blk ≠ some g
theorem Disj.nil_ : Disj [] := fun i j x y h => by simp at h
theorem Disj.snoc {x : ModeI} (h : Disj xs) (hb : ∀ y ∈ xs, ∀ g, y.blk = some g → x.blk ≠ some g) : Disj (xs ++ [x]) := fun i j a b hi hj hij g ha hb' => by
 rw [List.getElem?_append] at hi hj
 split at hi <;> split at hj
 · exact h i j a b hi hj hij g ha hb'
 · rename_i h1 h2
   have h3 : j - xs.length = 0 := by
     rcases Nat.eq_zero_or_pos (j - xs.length) with h | h
     · exact h
     · rw [List.getElem?_eq_none (by simp only [List.length_cons, List.length_nil]; omega)] at hj; cases hj
   rw [h3] at hj; simp at hj; subst hj
   exact hb a (List.mem_of_getElem? hi) g ha hb'
 · rename_i h1 h2
   have h3 : i - xs.length = 0 := by
     rcases Nat.eq_zero_or_pos (i - xs.length) with h | h
     · exact h
     · rw [List.getElem?_eq_none (by simp only [List.length_cons, List.length_nil]; omega)] at hi; cases hi
   rw [h3] at hi; simp at hi; subst hi
   exact hb b (List.mem_of_getElem? hj) g hb' ha
 · rename_i h1 h2
   have h3 : i - xs.length = 0 := by
     rcases Nat.eq_zero_or_pos (i - xs.length) with h | h
     · exact h
     · rw [List.getElem?_eq_none (by simp only [List.length_cons, List.length_nil]; omega)] at hi; cases hi
   have h4 : j - xs.length = 0 := by
     rcases Nat.eq_zero_or_pos (j - xs.length) with h | h
     · exact h
     · rw [List.getElem?_eq_none (by simp only [List.length_cons, List.length_nil]; omega)] at hj; cases hj
   omega
def NFrom (w : World) (lo : Nat) (t : TypeId) (k : Nat) (xs : List ModeI) : Prop := ∀ i x, k ≤ i → xs[i]? = some x → Own w lo t 1 x.A x.m.next.length x.c (x.m.next.flatMap eI)
theorem NFrom.grownO {t' : TypeId} {k : Nat} (h : NFrom w lo t k xs) (o : Own w lo' t' s A n c cs) (hg : w.grownBy w' (Value.slice A n c).ownBlock) (ht : t ≠ t') : NFrom w' lo t k xs := fun i x hi hx => (h i x hi hx).grown hg (Own.neO (h i x hi hx) o ht)
theorem NFrom.next {k : Nat} {x : ModeI} (h : NFrom w lo t k xs) (hd : Disj xs) (hx : xs[k]? = some x) (hg : w.grownBy w' x.blk) : NFrom w' lo t (k + 1) xs := fun i y hi hy =>
 (h i y (by omega) hy).grown hg fun g hgx hgy => hd k i x y hx hy (by omega) g hgx hgy
end
structure NodeI where
 id : Int
 name : ByteArray
 drift : Int
 passive : Bool
def NodeI.cells (n : NodeI) : List Value := [.int .i64 n.id, .string n.name, .int .i64 n.drift, .bool n.passive]
theorem NodeI.len (n : NodeI) : n.cells.length = 4 := rfl
structure StateI where
 time : Int
 mode : Int
 round : Int
 slot : Int
 members : Int
def StateI.cells (s : StateI) : List Value := [.int .i64 s.time, .int .i64 s.mode, .int .i64 s.round, .int .i64 s.slot, .int .i64 s.members]
theorem StateI.len (s : StateI) : s.cells.length = 5 := rfl
structure MedlD where
 id : Int
 ns : List NodeI
 ms : List Mode
 ss : List SlotI
structure MedlI where
 id : Int
 An : Option Addr
 ns : List NodeI
 cn : Nat
 Am : Option Addr
 ms : List ModeI
 cm : Nat
 As : Option Addr
 ss : List SlotI
 cs : Nat
def MedlI.d (m : MedlI) : MedlD := ⟨m.id, m.ns, m.ms.map (·.m), m.ss⟩
def MedlI.cells (m : MedlI) : List Value := [.int .i64 m.id, .slice m.An m.ns.length m.cn, .slice m.Am m.ms.length m.cm, .slice m.As m.ss.length m.cs]
theorem MedlI.len (m : MedlI) : m.cells.length = 4 := rfl
structure Med (B : Nat) (w : World) (m : MedlI) : Prop where
 hB : B ≤ w.heap.size
 sn : Sl B w m.An (m.ns.flatMap NodeI.cells)
 sm : Sl B w m.Am (m.ms.flatMap ModeI.cells)
 sx : Nexts B w m.ms
 ss : Sl B w m.As (m.ss.flatMap SlotI.cells)
 kn : m.ns.length ≤ m.cn
section
variable {B B' : Nat} {w w' : World} {m : MedlI}
theorem Med.below (h : Med B w m) (hb : Below B w w') : Med B w' m := ⟨Q7l h.1 hb.size, h.sn.below hb, h.sm.below hb, h.sx.below hb, h.ss.below hb, h.kn⟩
theorem Med.ext (h : Med B w m) (hb : Ext w w') : Med B w' m := h.below (Below.mono hb h.1)
theorem Med.grown {row : Option Nat} (h : Med B w m) (hg : w.grownBy w' row) (hr : ∀ g, row = some g → B ≤ g) : Med B w' m := ⟨Q7l h.1 hg.size, h.sn.grown hg hr, h.sm.grown hg hr, h.sx.grown hg hr, h.ss.grown hg hr, h.kn⟩
theorem Med.more (h : Med B w m) (hB : B ≤ B') (hw : B' ≤ w.heap.size) : Med B' w m := ⟨hw, h.sn.more hB hw, h.sm.more hB hw, h.sx.more hB hw, h.ss.more hB hw, h.kn⟩
end
structure MedlI.small (m : MedlI) : Prop where
 ln : m.ns.length ≤ 1048576
 lm : m.ms.length ≤ 1048576
 lx : ∀ x ∈ m.ms, x.m.next.length ≤ 1048576
 ls : m.ss.length ≤ 1048576
 lz : ∀ x ∈ m.ns, x.name.size ≤ 1048576
theorem MedlI.small_of {m m' : MedlI} (e : m'.d = m.d) (h : m.small) : m'.small := by
 obtain ⟨id, An, ns, cn, Am, ms, cm, As, ss, cs⟩ := m
 obtain ⟨id', An', ns', cn', Am', ms', cm', As', ss', cs'⟩ := m'
 simp only [MedlI.d, MedlD.mk.injEq] at e
 obtain ⟨e1, e2, e3, e4⟩ := e
 obtain ⟨h1, h2, h3, h4, h5⟩ := h
 simp only at h1 h2 h3 h4 h5
 refine ⟨by simp only; rw [e2]; exact h1, ?_, ?_, by simp only; rw [e4]; exact h4, by simp only; rw [e2]; exact h5⟩
 · have := congrArg List.length e3; simp at this; simp only; omega
 · intro x hx
   have : x.m ∈ ms'.map (·.m) := List.mem_map.2 ⟨x, hx, rfl⟩
   rw [e3] at this
   obtain ⟨y, hy, e5⟩ := List.mem_map.1 this
   have := h3 y hy
   rw [e5] at this; exact this
theorem mH (n : Nat) : BitVec.ofInt 64 (n : Int) = BitVec.ofNat 64 n := by simp
theorem aIv {a b : Nat} (ha : a < 9223372036854775808) (hb : b < 9223372036854775808) : lN .or .i64 (a : Int) (b : Int) = ((a ||| b : Nat) : Int) := by
 have h1 : a ||| b < 2 ^ 63 := Nat.or_lt_two_pow (by omega) (by omega)
 have h2 : a ||| b < 2 ^ 64 := Nat.or_lt_two_pow (by omega) (by omega)
 show IntKind.i64.wrap ((BitVec.ofInt 64 (a : Int) ||| BitVec.ofInt 64 (b : Int)).toNat : Int) = _
 rw [mH, mH, BitVec.toNat_or, BitVec.toNat_ofNat, BitVec.toNat_ofNat, Nat.mod_eq_of_lt (by omega), Nat.mod_eq_of_lt (by omega)]
 exact dM (by omega)
theorem tV {a b : Nat} (ha : a < 9223372036854775808) (hb : b < 9223372036854775808) : lN .and .i64 (a : Int) (b : Int) = ((a &&& b : Nat) : Int) := by
 have h1 : a &&& b ≤ a := Nat.and_le_left
 show IntKind.i64.wrap ((BitVec.ofInt 64 (a : Int) &&& BitVec.ofInt 64 (b : Int)).toNat : Int) = _
 rw [mH, mH, BitVec.toNat_and, BitVec.toNat_ofNat, BitVec.toNat_ofNat, Nat.mod_eq_of_lt (by omega), Nat.mod_eq_of_lt (by omega)]
 exact dM (by omega)
theorem xC {a b : Nat} (ha : a < 9223372036854775808) (hb : b < 9223372036854775808) : lN .xor .i64 (a : Int) (b : Int) = ((a ^^^ b : Nat) : Int) := by
 have h1 : a ^^^ b < 2 ^ 63 := Nat.xor_lt_two_pow (by omega) (by omega)
 show IntKind.i64.wrap ((BitVec.ofInt 64 (a : Int) ^^^ BitVec.ofInt 64 (b : Int)).toNat : Int) = _
 rw [mH, mH, BitVec.toNat_xor, BitVec.toNat_ofNat, BitVec.toNat_ofNat, Nat.mod_eq_of_lt (by omega), Nat.mod_eq_of_lt (by omega)]
 exact dM (by omega)
def tW (a b : Nat) : Nat := a ^^^ (a &&& b)
theorem aAU (a b i : Nat) : (tW a b).testBit i = (a.testBit i && !b.testBit i) := by
 unfold tW
 rw [Nat.testBit_xor, Nat.testBit_and]
 cases a.testBit i <;> cases b.testBit i <;> rfl
theorem aDl {a b : Nat} (ha : a < 9223372036854775808) (hb : b < 9223372036854775808) : lN .andNot .i64 (a : Int) (b : Int) = (tW a b : Int) := by
 have h1 : tW a b < 2 ^ 63 := Nat.xor_lt_two_pow (by omega) (Nat.lt_of_le_of_lt Nat.and_le_left (by omega))
 show IntKind.i64.wrap ((BitVec.ofInt 64 (a : Int) &&& ~~~BitVec.ofInt 64 (b : Int)).toNat : Int) = _
 have e : (BitVec.ofInt 64 (a : Int) &&& ~~~BitVec.ofInt 64 (b : Int)).toNat = tW a b := by
   rw [mH, mH]
   apply Nat.eq_of_testBit_eq
   intro i
   rw [aAU, BitVec.testBit_toNat]
   by_cases hi : i < 64
   · rw [BitVec.getLsbD_and, BitVec.getLsbD_not, BitVec.getLsbD_ofNat, BitVec.getLsbD_ofNat]; simp [hi]
   · have : a.testBit i = false := Nat.testBit_lt_two_pow (Nat.lt_of_lt_of_le (by omega : a < 2 ^ 64) (Nat.pow_le_pow_right (by omega) (by omega)))
     rw [this]; simp [hi]
 rw [e]
 exact dM (by omega)
def pE (a : Nat) (n : Int) : Bool := a.testBit n.toNat
theorem aIw {a : Nat} {n : Int} (ha : a < 9223372036854775808) (hn : 0 ≤ n ∧ n ≤ 31) : lN .and .i64 ((a : Int).fdiv (2 ^ (min n.toNat 64))) 1 = if pE a n = true then 1 else 0 := by
 have e1 : min n.toNat 64 = n.toNat := by omega
 have e2 : (a : Int).fdiv (2 ^ n.toNat) = ((a / 2 ^ n.toNat : Nat) : Int) := by
   rw [Int.fdiv_eq_ediv_of_nonneg _ (Int.pow_nonneg (by omega))]; simp
 have h3 : a / 2 ^ n.toNat ≤ a := Nat.div_le_self _ _
 rw [e1, e2, show (1 : Int) = ((1 : Nat) : Int) from rfl, tV (by omega) (by omega)]
 unfold pE
 rw [Nat.testBit, Nat.shiftRight_eq_div_pow, Nat.one_and_eq_mod_two, Nat.and_one_is_mod]
 rcases Nat.mod_two_eq_zero_or_one (a / 2 ^ n.toNat) with h | h <;> rw [h] <;> rfl
theorem aE9 {a : Nat} {n : Int} (ha : a < 9223372036854775808) (hn : 0 ≤ n ∧ n ≤ 31) : decide (lN .and .i64 ((a : Int).fdiv (2 ^ (min n.toNat 64))) 1 = 1) = pE a n := by
 rw [aIw ha hn]
 cases pE a n <;> rfl
theorem aCm {n : Int} (hn : 0 ≤ n ∧ n ≤ 31) : IntKind.i64.wrap ((1 : Int) * 2 ^ (min n.toNat 64)) = ((2 ^ n.toNat : Nat) : Int) := by
 have e1 : min n.toNat 64 = n.toNat := by omega
 have h2 : 2 ^ n.toNat ≤ 2 ^ 31 := Nat.pow_le_pow_right (by omega) (by omega)
 rw [e1, Int.one_mul, show (2 : Int) ^ n.toNat = ((2 ^ n.toNat : Nat) : Int) by simp]
 generalize 2 ^ n.toNat = z at h2
 exact dM (by omega)
theorem aCn {n : Int} (hn : 0 ≤ n ∧ n ≤ 31) : 2 ^ n.toNat < 4294967296 := by
 have h2 : 2 ^ n.toNat ≤ 2 ^ 31 := Nat.pow_le_pow_right (by omega) (by omega)
 omega
def sW (a : Nat) (n : Int) : Nat := a ||| 2 ^ n.toNat
theorem tX {a : Nat} {n : Int} (ha : a < 4294967296) (hn : 0 ≤ n ∧ n ≤ 31) : sW a n < 4294967296 :=
 Nat.or_lt_two_pow (n := 32) ha (aCn hn)
theorem xY (a : Nat) (n : Int) (i : Nat) : (sW a n).testBit i = (a.testBit i || decide (i = n.toNat)) := by
 unfold sW
 rw [Nat.testBit_or, Nat.testBit_two_pow]
 congr 1
 by_cases h : i = n.toNat
 · subst h; simp
 · rw [decide_eq_false h, decide_eq_false (fun e => h e.symm)]
theorem aBF {a : Nat} {n : Int} (ha : a < 4294967296) (hn : 0 ≤ n ∧ n ≤ 31) : lN .or .i64 (a : Int) (IntKind.i64.wrap ((1 : Int) * 2 ^ (min n.toNat 64))) = (sW a n : Int) := by
 have := aCn hn
 rw [aCm hn, aIv (by omega) (by omega)]; rfl
theorem aDm {a : Nat} {n : Int} (h : pE a n = true) : sW a n = a := by
 apply Nat.eq_of_testBit_eq
 intro i
 rw [xY]
 by_cases e : i = n.toNat
 · subst e; unfold pE at h; rw [h]; rfl
 · simp [e]
theorem aDn {a : Nat} {n : Int} (h : pE a n = false) : a ^^^ 2 ^ n.toNat = sW a n := by
 apply Nat.eq_of_testBit_eq
 intro i
 rw [xY, Nat.testBit_xor, Nat.testBit_two_pow]
 by_cases e : i = n.toNat
 · subst e; unfold pE at h; rw [h]; simp
 · rw [decide_eq_false e, decide_eq_false (fun e' => e e'.symm)]; simp
theorem aFZ {a b : Nat} : tW a b = 0 ↔ ∀ i, a.testBit i = true → b.testBit i = true := by
 constructor
 · intro h i hi
   have := aAU a b i
   rw [h, hi] at this
   cases hb : b.testBit i
   · rw [hb] at this; simp at this
   · rfl
 · intro h
   apply Nat.eq_of_testBit_eq
   intro i
   rw [aAU, Nat.zero_testBit]
   cases ha : a.testBit i
   · rfl
   · rw [h i ha]; rfl
def qG {α : Type} (p : α → Bool) (f : α → Int) : Nat → List α → Nat
 | a, [] => a
 | a, x :: r => if p x = true then qG p f (sW a (f x)) r else qG p f a r
theorem aAg {α : Type} {p : α → Bool} {f : α → Int} : ∀ (l : List α) (a : Nat), a < 4294967296 → (∀ x ∈ l, 0 ≤ f x ∧ f x ≤ 31) → qG p f a l < 4294967296
 | [], a, h, _ => h
 | x :: r, a, h, hf => by
   rw [qG]
   split
   · exact aAg r _ (tX h (hf x (by simp))) (fun y hy => hf y (by simp [hy]))
   · exact aAg r _ h (fun y hy => hf y (by simp [hy]))
theorem xE {α : Type} {p : α → Bool} {f : α → Int} (i : Nat) : ∀ (l : List α) (a : Nat), (qG p f a l).testBit i = (a.testBit i || l.any fun x => p x && decide (i = (f x).toNat))
 | [], a => by simp [qG]
 | x :: r, a => by
   rw [qG]
   split
   · rename_i h
     rw [xE i r, xY, List.any_cons, h]; simp [Bool.or_assoc]
   · rename_i h
     rw [xE i r, List.any_cons]; simp [h]
def hH (b : UInt8) : Bool := (decide (97 ≤ b.toNat) && decide (b.toNat ≤ 122)) || (decide (48 ≤ b.toNat) && decide (b.toNat ≤ 57))
def fB (s : ByteArray) : Bool := (s.data.toList.all hH) && decide (1 ≤ s.size) && decide (s.size ≤ 6)
def fE (n : NodeI) : Bool := iF n.id 0 31 && fB n.name && iF n.drift 0 1000
def iZ (s : ByteArray) (l : List NodeI) : Bool := l.any fun y => decide (y.name = s)
def iV : Option NodeI → List NodeI → List NodeI → Bool
 | _, _, [] => true
 | none, q, x :: r => fE x && !(iZ x.name q) && iV (some x) (q ++ [x]) r
 | some y, q, x :: r => fE x && decide (y.id < x.id) && !(iZ x.name q) && iV (some x) (q ++ [x]) r
def eC (l : List NodeI) : Bool := iF l.length 1 32 && iV none [] l
theorem aAV : ∀ (l : List NodeI) (p : Option NodeI) (q : List NodeI), iV p q l = true → ∀ x ∈ l, fE x = true
 | [], _, _, _, x, hx => by simp at hx
 | y :: r, p, q, h, x, hx => by
   have h1 : fE y = true ∧ iV (some y) (q ++ [y]) r = true := by
     cases p <;> simp only [iV, Bool.and_eq_true] at h
     · exact ⟨h.1.1, h.2⟩
     · exact ⟨h.1.1.1, h.2⟩
   rcases List.mem_cons.1 hx with rfl | hx
   · exact h1.1
   · exact aAV r _ _ h1.2 x hx
theorem nW {l : List NodeI} (h : eC l = true) : ∀ x ∈ l, fE x = true := by
 simp only [eC, Bool.and_eq_true] at h
 exact aAV l _ _ h.2
theorem tY {l : List NodeI} (h : eC l = true) : 1 ≤ l.length ∧ l.length ≤ 32 := by
 simp only [eC, Bool.and_eq_true] at h
 have := eO.1 h.1; omega
theorem pP {x : NodeI} (h : fE x = true) : (0 ≤ x.id ∧ x.id ≤ 31) ∧ (0 ≤ x.drift ∧ x.drift ≤ 1000) ∧ fB x.name = true := by
 simp only [fE, Bool.and_eq_true] at h
 exact ⟨eO.1 h.1.1, eO.1 h.2, h.1.2⟩
def iM (l : List NodeI) : Nat := qG (fun x => !x.passive) (·.id) 0 l
theorem aAh {l : List NodeI} (h : eC l = true) : iM l < 4294967296 := aAg l 0 (by omega) fun x hx => (pP (nW h x hx)).1
def setOf : List UInt8 := [97, 98, 99, 100, 101, 102, 103, 104, 105, 106, 107, 108, 109, 110, 111, 112, 113, 114, 115, 116, 117, 118, 119, 120, 121, 122, 48, 49, 50, 51, 52, 53, 54, 55, 56, 57]
theorem aG9 : ∀ b : UInt8, setOf.contains b = hH b := by
 intro b
 have h : ∀ k : Fin 256, setOf.contains (UInt8.ofNat k.val) = hH (UInt8.ofNat k.val) := by decide +kernel
 have := h ⟨b.toNat, b.toNat_lt⟩
 simpa using this
theorem nO {α : Type} {p : α → Bool} : ∀ (l : List α), l.dropWhile p = [] ↔ l.all p = true
 | [] => by simp
 | x :: r => by
   rw [List.dropWhile_cons]
   split
   · rename_i h; rw [nO r]; simp [h]
   · rename_i h; simp [h]
theorem aHa (l : List UInt8) : Go.Lib.trimS l setOf = [] ↔ l.all hH = true := by
 have e : (fun x => setOf.contains x) = hH := funext aG9
 unfold Go.Lib.trimS Go.Lib.trimLeftS Go.Lib.trimRightS
 rw [nO]
 show ((l.reverse.dropWhile fun x => setOf.contains x).reverse.all fun x => setOf.contains x) = true ↔ _
 rw [e]
 constructor
 · intro h
   have h2 : (l.reverse.dropWhile hH) = [] := by
     cases h3 : l.reverse.dropWhile hH with
     | nil => rfl
     | cons x r =>
       have h4 : hH x = false := by
         have := List.head?_dropWhile_not hH l.reverse
         rw [h3] at this; simpa using this
       rw [h3] at h
       simp [h4] at h
   rw [nO] at h2
   simpa using h2
 · intro h
   have h2 : l.reverse.dropWhile hH = [] := (nO _).2 (by simpa using h)
   rw [h2]; rfl
def aHb (s : ByteArray) : ByteArray := ⟨(Go.Lib.trimS s.data.toList setOf).toArray⟩
theorem kH (s : ByteArray) : aHb s = ⟨#[]⟩ ↔ s.data.toList.all hH = true := by
 rw [← aHa]
 unfold aHb
 constructor
 · intro h
   have h1 := congrArg (fun b : ByteArray => b.data.toList) h
   simpa using h1
 · intro h; rw [h]
theorem aK8 {n : Int} (h : 0 ≤ n ∧ n ≤ 18446744073709551615) : IntKind.u64.wrap n = n := by
 simp only [IntKind.wrap, IntKind.bits, IntKind.signed]
 simp
 omega
theorem mI {l : List NodeI} {s : ByteArray} {j : Nat} {y : NodeI} (hy : l[j]? = some y) (h : y.name = s) : iZ s l = true := by
 simp only [iZ, List.any_eq_true, decide_eq_true_eq]
 exact ⟨y, List.mem_of_getElem? hy, h⟩
theorem aCo {q r : List NodeI} {x : NodeI} (h : fE x = true) (hn : iZ x.name q = false) : iV none q (x :: r) = iV (some x) (q ++ [x]) r := by simp [iV, h, hn]
theorem aCp {q r : List NodeI} {x y : NodeI} (h : fE x = true) (ho : y.id < x.id) (hn : iZ x.name q = false) : iV (some y) q (x :: r) = iV (some x) (q ++ [x]) r := by simp [iV, h, hn, ho]
theorem lW {p : Option NodeI} {q r : List NodeI} {x : NodeI} (h : fE x = false) : iV p q (x :: r) = false := by cases p <;> simp [iV, h]
theorem iX {p : Option NodeI} {q r : List NodeI} {x : NodeI} (h : iZ x.name q = true) : iV p q (x :: r) = false := by cases p <;> simp [iV, h]
theorem lX {q r : List NodeI} {x y : NodeI} (h : ¬ y.id < x.id) : iV (some y) q (x :: r) = false := by simp [iV, h]
theorem fW {p : Option NodeI} {q : List NodeI} : iV p q [] = true := by cases p <;> rfl
theorem aJF {z n : Int} (p : Int) (h : 0 ≤ z) (hp : 0 ≤ p) (e : (2 : Int) ^ (min n.toNat IntKind.i64.bits) = p) : z.fdiv (2 ^ (min n.toNat IntKind.i64.bits)) = z / p := by
 rw [e, Int.fdiv_eq_ediv_of_nonneg _ hp]
theorem aLF {z : Int} (h : 0 ≤ z ∧ z ≤ 1099511627776) : lN .and .i64 z 1 = z % 2 := by
 obtain ⟨n, rfl⟩ : ∃ n : Nat, z = (n : Int) := ⟨z.toNat, by omega⟩
 have h1 := tV (a := n) (b := 1) (by omega) (by omega)
 rw [show ((1 : Nat) : Int) = 1 from rfl] at h1
 rw [h1, show n &&& 1 = n % 2 from Nat.and_one_is_mod n]; omega
theorem aK9 {z : Int} (h : 0 ≤ z ∧ z ≤ 1099511627776) : lN .and .i64 z 16777215 = z % 16777216 := by
 obtain ⟨n, rfl⟩ : ∃ n : Nat, z = (n : Int) := ⟨z.toNat, by omega⟩
 have h1 := tV (a := n) (b := 16777215) (by omega) (by omega)
 rw [show ((16777215 : Nat) : Int) = 16777215 from rfl] at h1
 rw [h1, show n &&& 16777215 = n % 16777216 from Nat.and_two_pow_sub_one_eq_mod n 24]; omega
theorem aIY {a b : Int} (ha : 0 ≤ a ∧ a ≤ 1) (hb : 0 ≤ b ∧ b ≤ 1) : lN .xor .i64 a b = (a + b) % 2 := by
 obtain ⟨n, rfl⟩ : ∃ n : Nat, a = (n : Int) := ⟨a.toNat, by omega⟩
 obtain ⟨k, rfl⟩ : ∃ k : Nat, b = (k : Int) := ⟨b.toNat, by omega⟩
 rw [xC (by omega) (by omega)]
 have h1 : n = 0 ∨ n = 1 := by omega
 have h2 : k = 0 ∨ k = 1 := by omega
 rcases h1 with rfl | rfl <;> rcases h2 with rfl | rfl <;> rfl
def aDo (r : Int) : Int := ((r.toNat ^^^ 6122955 : Nat) : Int)
def aEj (r b : Int) : Int := if (r / 8388608 + b) % 2 = 1 then aDo (r % 8388608 * 2) else r % 8388608 * 2
def aBm (r : Int) (l : List Int) : Int := l.foldl aEj r
theorem aIx {r : Int} (h : 0 ≤ r ∧ r < 16777216) : 0 ≤ aDo r ∧ aDo r < 16777216 := by
 unfold aDo
 have := Nat.xor_lt_two_pow (n := 24) (x := r.toNat) (y := 6122955) (by omega) (by decide)
 omega
theorem aFa {r : Int} (h : 0 ≤ r ∧ r < 16777216) : lN .xor .i64 r 6122955 = aDo r := by
 obtain ⟨n, rfl⟩ : ∃ n : Nat, r = (n : Int) := ⟨r.toNat, by omega⟩
 rw [show (6122955 : Int) = ((6122955 : Nat) : Int) from rfl, xC (by omega) (by decide)]; rfl
theorem aIy {r b : Int} (h : 0 ≤ r ∧ r < 16777216) : 0 ≤ aEj r b ∧ aEj r b < 16777216 := by
 unfold aEj
 split
 · exact aIx (by omega)
 · omega
theorem aAi : ∀ (l : List Int) {r : Int}, (0 ≤ r ∧ r < 16777216) → 0 ≤ aBm r l ∧ aBm r l < 16777216
 | [], _, h => h
 | _ :: l, _, h => aAi l (aIy h)
theorem uV {l : List Int} {k : Nat} {x r : Int} (h : l[k]? = some x) : aBm r (l.take (k + 1)) = aEj (aBm r (l.take k)) x := by
 rw [List.take_add_one, h]; simp [aBm, List.foldl_append]
def aDp (x : Int) (j : Nat) : Int := x / 2 ^ j % 2
def zQ (x : Int) (k : Nat) : List Int := (List.range k).map fun i => aDp x (7 - i)
def mJ (xs : List Int) : List Int := xs.flatMap fun x => zQ x 8
theorem aBG (x : Int) (k : Nat) : zQ x (k + 1) = zQ x k ++ [aDp x (7 - k)] := by simp [zQ, List.range_succ]
theorem aAW (x : Int) (k : Nat) : (zQ x k).length = k := by simp [zQ]
theorem aIz (x : Int) (j : Nat) : 0 ≤ aDp x j ∧ aDp x j ≤ 1 := by unfold aDp; omega
theorem rH : ∀ (xs : List Int), (mJ xs).length = 8 * xs.length
 | [] => rfl
 | x :: r => by
   have := rH r
   unfold mJ at this ⊢
   rw [List.flatMap_cons, List.length_append, aAW, this, List.length_cons]; omega
theorem aDq {xs : List Int} : ∀ b ∈ mJ xs, 0 ≤ b ∧ b ≤ 1 := fun b hb => by
 obtain ⟨x, _, h2⟩ := List.mem_flatMap.1 hb
 obtain ⟨i, _, rfl⟩ := List.mem_map.1 h2
 exact aIz _ _
theorem sL {xs : List Int} {k : Nat} {x : Int} (h : xs[k]? = some x) : mJ (xs.take (k + 1)) = mJ (xs.take k) ++ zQ x 8 := by
 unfold mJ
 rw [List.take_add_one, h]; simp [List.flatMap_append]
theorem aFb {x : Int} {j : Nat} (h : 0 ≤ x ∧ x ≤ 1099511627776) (hj : j ≤ 63) : lN .and .i64 (x / 2 ^ j) 1 = aDp x j := by
 have h1 : 0 ≤ x / 2 ^ j := Int.ediv_nonneg h.1 (Int.pow_nonneg (by omega))
 have h2 : x / 2 ^ j ≤ x := Int.ediv_le_self _ h.1
 rw [aLF (by omega)]; rfl
theorem aIA {z : Int} {j : Nat} (h : 0 ≤ z) (hj : j ≤ 63) : z.fdiv (2 ^ (min ((j : Int).toNat) IntKind.i64.bits)) = z / 2 ^ j := by
 rw [Int.toNat_natCast, show min j IntKind.i64.bits = j by show min j 64 = j; omega, Int.fdiv_eq_ediv_of_nonneg _ (Int.pow_nonneg (by omega))]
def id3 (z : Int) : List Int := [z / 65536, z / 256 % 256, z % 256]
def aF0 (k : Nat) (b : List Int) : Int := aBm ((k : Int) + 1) (mJ b)
def nX (k : Nat) (b : List Int) : List Int := id3 (aF0 k b)
theorem nP {k : Nat} (b : List Int) (h : k < 16777215) : 0 ≤ aF0 k b ∧ aF0 k b < 16777216 := aAi _ (by omega)
theorem aCq {c x y z : Int} (hc : 0 ≤ c ∧ c < 16777216) (hx : 0 ≤ x ∧ x ≤ 255) (hy : 0 ≤ y ∧ y ≤ 255) (hz : 0 ≤ z ∧ z ≤ 255) : id3 c = [x, y, z] ↔ c = x * 65536 + y * 256 + z := by
 simp only [id3, List.cons.injEq, and_true]
 omega
def iJ (xs : List Int) (k : Nat) : List Int := (xs.drop (28 * k)).take 28
def aDr (xs : List Int) (k : Nat) : Int := if xs.length ≤ 28 * (k + 1) then 128 else 0
def jK (xs : List Int) (k : Nat) : List Int := (k : Int) :: (((iJ xs k).length : Int) + aDr xs k) :: iJ xs k
def jN (xs : List Int) (k : Nat) : List Int := jK xs k ++ nX k (jK xs k)
def wH (xs : List Int) (k : Nat) : List Int := (List.range k).flatMap (jN xs)
def nB (n : Nat) : Nat := if n = 0 then 1 else (n + 27) / 28
def vM (xs : List Int) : List Int := wH xs (nB xs.length)
theorem fX (xs : List Int) (k : Nat) : wH xs (k + 1) = wH xs k ++ jN xs k := by
 simp [wH, List.range_succ, List.flatMap_append]
theorem jL (xs : List Int) (k : Nat) : (iJ xs k).length = min 28 (xs.length - 28 * k) := by simp [iJ]
theorem rI (xs : List Int) (k : Nat) : (jN xs k).length = min 28 (xs.length - 28 * k) + 5 := by
 rw [jN, List.length_append, jK, List.length_cons, List.length_cons, jL]; rfl
theorem aAX (xs : List Int) : ∀ k : Nat, 28 * k ≤ xs.length → (wH xs k).length = 33 * k
 | 0, _ => rfl
 | k + 1, h => by
   rw [fX, List.length_append, rI, aAX xs k (by omega)]; omega
theorem aEk (n : Nat) : 1 ≤ nB n := by unfold nB; split <;> omega
theorem zE (n : Nat) : 28 * nB n ≤ n + 28 := by unfold nB; split <;> omega
theorem aBH {n k : Nat} : k < nB n ↔ (k = 0 ∨ 28 * k < n) := by unfold nB; split <;> omega
theorem xF {n k : Nat} (h : k < nB n) : (n ≤ 28 * (k + 1)) ↔ k + 1 = nB n := by
 unfold nB at h ⊢; split <;> (split at h <;> omega)
theorem sM (xs : List Int) : (vM xs).length = xs.length + 5 * nB xs.length := by
 have h1 : nB xs.length = nB xs.length - 1 + 1 := by have := aEk xs.length; omega
 have h2 := zE xs.length
 have h3 := (xF (n := xs.length) (k := nB xs.length - 1) (by omega)).2 h1.symm
 unfold vM
 rw [h1, fX, List.length_append, rI, aAX xs _ (by omega)]; omega
def eH (xs : List Int) (k : Nat) : List Int := (xs.drop (33 * k)).take 33
def nS (n : Nat) : Nat := if n = 0 then 1 else (n + 32) / 33
def pK (xs : List Int) (k : Nat) : Bool := decide ((eH xs k).length < 5) || !decide (nX k ((eH xs k).take ((eH xs k).length - 3)) = (eH xs k).drop ((eH xs k).length - 3))
def xG (xs : List Int) (k : Nat) : List Int := ((List.range k).filter (pK xs)).map fun (j : Nat) => (j : Int)
def zR (xs : List Int) : List Int := xG xs (nS xs.length)
def aJG (xs : List Int) (k : Nat) : List Int := ((eH xs k).take ((eH xs k).length - 3)).drop 2
def aDs (xs : List Int) (k : Nat) : List Int := (List.range k).flatMap (aJG xs)
def qM (xs : List Int) : List Int := aDs xs (nS xs.length)
def iG (xs : List Int) : List Int × Int := if zR xs ≠ [] then ([], 7) else if (qM xs).length ≤ 868 ∧ vM (qM xs) = xs then (qM xs, 0) else ([], 6)
theorem aDt {n k : Nat} : k < nS n ↔ (k = 0 ∨ 33 * k < n) := by unfold nS; split <;> omega
theorem aEl (n : Nat) : 1 ≤ nS n := by unfold nS; split <;> omega
theorem aDu (n : Nat) : 33 * nS n ≤ n + 33 := by unfold nS; split <;> omega
theorem jT (xs : List Int) (k : Nat) : (eH xs k).length = min 33 (xs.length - 33 * k) := by simp [eH]
theorem gJ (xs : List Int) (k : Nat) : xG xs (k + 1) = if pK xs k = true then xG xs k ++ [(k : Int)] else xG xs k := by
 unfold xG
 rw [List.range_succ, List.filter_append, List.map_append]
 cases h : pK xs k <;> simp [h]
theorem aIB (xs : List Int) (k : Nat) : (xG xs k).length ≤ k := by
 unfold xG
 rw [List.length_map]
 exact Q7l (List.length_filter_le _ _) (by simp)
theorem uW (xs : List Int) (k : Nat) : aDs xs (k + 1) = aDs xs k ++ aJG xs k := by
 simp [aDs, List.range_succ, List.flatMap_append]
theorem aCr {xs : List Int} (h : zR xs = []) {k : Nat} (hk : k < nS xs.length) : pK xs k = false := by
 unfold zR xG at h
 have h1 := List.map_eq_nil_iff.1 h
 have h2 := (List.filter_eq_nil_iff.1 h1) k (List.mem_range.2 hk)
 simpa using h2
theorem sN {xs : List Int} {k : Nat} (h : pK xs k = false) : 5 ≤ (eH xs k).length ∧ nX k ((eH xs k).take ((eH xs k).length - 3)) = (eH xs k).drop ((eH xs k).length - 3) := by
 simp only [pK, Bool.or_eq_false_iff, decide_eq_false_iff_not, Bool.not_eq_false', decide_eq_true_eq] at h
 exact ⟨by omega, h.2⟩
theorem aF1 (xs : List Int) {k : Nat} (h : k < nB xs.length) : ∃ t, vM xs = wH xs k ++ (jN xs k ++ t) ∧ (t = [] ∨ (jN xs k).length = 33) := by
 obtain ⟨j, hj⟩ : ∃ j, nB xs.length = k + 1 + j := ⟨nB xs.length - (k + 1), by omega⟩
 unfold vM
 rw [hj]
 clear h
 have hL : 0 < j → 28 * (k + 1) ≤ xs.length := fun h0 => by
   have := (aBH (n := xs.length) (k := k + 1)).1 (by omega); omega
 have : ∀ i, ∃ t, wH xs (k + 1 + i) = wH xs k ++ (jN xs k ++ t) ∧ (i = 0 → t = []) := fun i => by
   induction i with
   | zero => exact ⟨[], by rw [Nat.add_zero, fX, List.append_nil], fun _ => rfl⟩
   | succ i ih =>
     obtain ⟨t, h1, _⟩ := ih
     exact ⟨t ++ jN xs (k + 1 + i), by rw [← Nat.add_assoc, fX, h1]; simp [List.append_assoc], fun h => absurd h (by omega)⟩
 obtain ⟨t, h1, h2⟩ := this j
 refine ⟨t, h1, ?_⟩
 rcases Nat.eq_zero_or_pos j with h0 | h0
 · exact .inl (h2 h0)
 · right; rw [rI]; have := hL h0; omega
theorem aHc (xs : List Int) {k : Nat} (h : k < nB xs.length) : eH (vM xs) k = jN xs k := by
 obtain ⟨t, h1, h2⟩ := aF1 xs h
 have h3 : (wH xs k).length = 33 * k := aAX xs k (by have := (aBH (n := xs.length)).1 h; omega)
 have h4 := rI xs k
 unfold eH
 rw [h1, ← h3, List.drop_left]
 rcases h2 with rfl | h2
 · rw [List.append_nil, List.take_of_length_le (by omega)]
 · rw [← h2, List.take_left]
theorem aJH (xs : List Int) : nS (vM xs).length = nB xs.length := by
 rw [sM]
 unfold nS nB
 split <;> (split <;> omega)
theorem aF2 (xs : List Int) (k : Nat) : (jN xs k).take ((jN xs k).length - 3) = jK xs k ∧ (jN xs k).drop ((jN xs k).length - 3) = nX k (jK xs k) := by
 have e : (jN xs k).length - 3 = (jK xs k).length := by rw [jN, List.length_append]; simp [nX, id3]
 rw [e]; unfold jN
 exact ⟨List.take_left, List.drop_left⟩
theorem aHd (xs : List Int) {k : Nat} (h : k < nB xs.length) : pK (vM xs) k = false := by
 have h1 := aF2 xs k
 have h2 := rI xs k
 rw [pK, aHc xs h, h1.1, h1.2]
 simp; omega
theorem aIC (xs : List Int) : zR (vM xs) = [] := by
 unfold zR xG
 rw [List.map_eq_nil_iff, List.filter_eq_nil_iff, aJH]
 intro k hk
 rw [aHd xs (List.mem_range.1 hk)]; simp
theorem aEm {xs d : List Int} (h : iG xs = (d, 0)) : d.length ≤ 868 ∧ vM d = xs := by
 unfold iG at h
 split at h
 · injection h with _ h2; cases h2
 · split at h
   · rename_i h3
     injection h with h1 _
     subst h1; exact h3
   · injection h with _ h2; cases h2
theorem aID {xs : List Int} (hb : ∀ x ∈ xs, 0 ≤ x ∧ x ≤ 255) (h : xs.length ≤ 868) : ∀ x ∈ vM xs, 0 ≤ x ∧ x ≤ 255 := fun x hx => by
 obtain ⟨k, hk, h2⟩ := List.mem_flatMap.1 hx
 have hk := List.mem_range.1 hk
 have hn := zE xs.length
 have hpl := jL xs k
 have hc := nP (k := k) (jK xs k) (by omega)
 rcases List.mem_append.1 h2 with h3 | h3
 · rcases List.mem_cons.1 h3 with rfl | h4
   · omega
   · rcases List.mem_cons.1 h4 with rfl | h5
     · unfold aDr; split <;> omega
     · exact hb x (List.mem_of_mem_drop (List.mem_of_mem_take h5))
 · simp only [nX, id3, List.mem_cons, List.not_mem_nil, or_false] at h3
   omega
end Go.Proofs.YtdoibplhbdkapaaGreatDoor
