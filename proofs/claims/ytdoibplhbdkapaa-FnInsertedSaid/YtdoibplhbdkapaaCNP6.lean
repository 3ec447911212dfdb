/- Texts of the seat that a law needs, put together. No condition. -/
import Derived.Test.YtdoibplhbdkapaaCNP5
import Derived.Lib.AppendZeros
import Derived.Lib.Overlaps
import Derived.Test.YtdoibplhbdkapaaCNP4
namespace Go.Proofs.Ytdoibplhbdkapaa
open Go.RowKit
set_option linter.unusedVariables false
set_option linter.unusedSimpArgs false
section
variable {P : Program} {e : List (Nat × Value)} {ty : TypeId} {w : World} {K : Value → World → Prop} {x y lo hi : Operand} {t el : TypeId} {s b : Nat} {z : List Value} {a : Bool}
/-- append(s, make([]T, k)...) without room: a new row; what was there stays as it was -/
theorem ow_appendZS {lo n c k : Nat} {A : Option Addr} {cs : List Value} {tn : TypeId} {ik kn : IntKind} {m : Int} (hown : Own w lo el s A n c cs) (ht : elO P t = some (el, s)) (htn : P.underlying tn = some (.int kn)) (hi : tiO P el = some (a, s, b, z)) (hzl : Nat.beq z.length s = true) (h0 : Nat.blt 0 s = true)
    (hx : evO e x = some (.slice A n c)) (hy : evO e y = some (.int ik m)) (hm : m = (k : Int)) (hk : 0 < k) (hroom : c < n + k) (hb : (n + k) * b ≤ 140737488355328) (hmx : n + k ≤ 9223372036854775807)
    (h : ∀ g c' w', g = w.heap.size → n + k ≤ c' → Own w' w.heap.size el s (some ⟨g, 0, none⟩) (n + k) c' (cs ++ repL k z) → Ext w w' → K (.slice (some ⟨g, 0, none⟩) (n + k) c') w') : OpWp P e (.call ⟨.builtin .append, #[x, y], #[t, tn]⟩) ty w K := fun ρ d p af gd hρ => by
  have g1 := hρ _ _ hx; have g2 := hρ _ _ hy
  subst hm
  obtain ⟨ti, hu, hti, hts⟩ := elO_spec ht
  obtain ⟨d', i', zv, hd, hi', hz, ha, hs, hb', hzv⟩ := tiO_spec hi
  obtain rfl : ti = i' := by rw [hti] at hi'; injection hi'
  have hzl' : z.length = s := Nat.eq_of_beq_eq_true hzl
  have h0' : 0 < s := by simpa using h0
  have hzc : zv.cells = z.toArray := by rw [← hzv]
  have hkw : IntKind.i64.wrap (k : Int) = k := by rw [IntKind.wrap_i64]; omega
  have hn : ¬ (n + k ≤ c) := by omega
  have h63' : ¬ (9223372036854775807 < ((n : Int) + (k : Int))) := by omega
  have hbk : k * b ≤ 140737488355328 := Nat.le_trans (Nat.mul_le_mul_right _ (by omega)) hb
  have h48i : ¬ (281474976710656 < (k : Int) * (ti.bytes : Int)) := by
    rw [hb', ← Int.natCast_mul]; omega
  have h48' : ¬ (281474976710656 < Builtin.nextslicecap (n + k) c * ti.bytes) := by
    have := growslice_fits (old := c) (need := n + k) (bytes := ti.bytes) (by omega) (by rw [hb']; exact hb)
    omega
  have hneg : ¬ ((k : Int) < 0) := by omega
  have hns : ¬ (k * ti.size = 0) := Nat.mul_ne_zero (by omega) (by omega)
  have hfo : ∀ (w1 : World), w1.heap = w.heap → (Builtin.firstCells ti.size n (.slice A n c)).run P w1 = .ok cs.toArray w1 := fun w1 hw => by
    rcases hown.2 with ⟨h1, h2⟩ | ⟨g, cap, cur, h1, _, hg, hnc, _⟩
    · simp only [Value.slice.injEq] at h1
      obtain ⟨rfl, rfl, rfl⟩ := h1
      have : cs = [] := List.eq_nil_of_length_eq_zero (by have := hown.1; simpa using this)
      subst this
      simp [Builtin.firstCells]
    · simp only [Value.slice.injEq] at h1
      obtain ⟨rfl, _, rfl⟩ := h1
      have holds := World.ownsRow.cells hown (g := g) rfl
      exact run_firstCells_some (P := P) w1 ti.size n _ n c cs (by rw [hts]; exact hown.1) (fun j v hj => by
        have := holds j v hj
        rw [World.cell?, hw]; exact this)
  have hr : (Builtin.append_ #[t, tn] ty #[.slice A n c, .int ik (k : Int)]).run P w = .ok (.slice (some ⟨w.heap.size, 0, none⟩) (n + k) (grownCap w (n + k) c el))
      (w.drew.alloc (.cells (cs.toArray ++ Builtin.zeroCells zv.cells k ++ Builtin.zeroCells zv.cells (grownCap w (n + k) c el - (n + k))) el)) := by
    have hfo' := hfo w.drew rfl
    simp [Builtin.append_, run_underlying hu, run_underlying htn, sizeOf, typeInfo, zeroValue, hti, hz, asInt, asIntOf, hkw, hn, hneg, hns, h63', h48', h48i, Question.forced, hfo', newRow, grownCap]
  have hzk : (Builtin.zeroCells zv.cells k).toList = repL k z := by
    have := range_zero z k (by omega)
    rw [hzc]; exact this
  have hge := grownCap_ge w (n + k) c el
  simp only [execOp, resolve, invoke, builtin, Sem.run_bind, Sem.run_pure, Result.andThen_ok, List.map_toArray, List.map_cons, List.map_nil, g1, g2, hr, upto]
  refine h _ _ _ rfl hge ?_ (Ext.trans (Ext.drew w) (Ext.alloc _ _))
  have hlen : (cs ++ repL k z).length = (n + k) * s := by rw [List.length_append, hown.1, repL_len, hzl', Nat.add_mul]
  refine ⟨hlen, .inr ⟨w.heap.size, _, _, rfl, Nat.le_refl _, heap_alloc_new w.drew _, hge, grownCap_le_maxLen w (n + k) c el (by unfold maxLen; omega), ?_, ?_⟩⟩
  · have e1 : (Builtin.zeroCells zv.cells k).size = k * s := by rw [size_zeroCells, hzc]; simp [hzl']
    have e2 : (Builtin.zeroCells zv.cells (grownCap w (n + k) c el - (n + k))).size = (grownCap w (n + k) c el - (n + k)) * s := by rw [size_zeroCells, hzc]; simp [hzl']
    rw [Array.size_append, Array.size_append, e1, e2, List.size_toArray, hown.1, ← Nat.add_mul, ← Nat.add_mul]
    congr 1; omega
  · rw [Array.toList_append, Array.toList_append, hzk, ← hlen]
    exact List.take_left
theorem run_copy_rowS (w : World) (dT sT ty elem : TypeId) (g o dLen dCap k : Nat) (aS : Addr) (sLen sCap : Nat) (cur : Array Value) (t : TypeId) (cs : List Value) (hu : P.underlying dT = some (.slice elem)) (hs : (P.info? elem).map (·.size) = some s)
    (hg : w.heap[g]? = some (.cells cur t (0, 0))) (hk : k = Nat.min sLen dLen) (hn : cs.length = k * s) (hsrc : ∀ j v, cs[j]? = some v → w.cell? (aS.add j) = some v) (hfit : o + cs.length ≤ cur.size) (h1 : ∀ v ∈ cs, v.oneCell' = true) :
    (Builtin.copy_ #[dT, sT] ty #[.slice (some ⟨g, o, none⟩) dLen dCap, .slice (some aS) sLen sCap]).run P w = .ok (goInt k) (w.setRow g (cur.toList.take o ++ cs ++ cur.toList.drop (o + cs.length)).toArray) := by
  have hl := run_loadCells_list (P := P) w aS cs hsrc
  have hst := run_storeCells_at P g o t cs 0 cur w hg (by simpa using hfit) h1
  cases hq : P.info? elem with
  | none => simp [hq] at hs
  | some i =>
    have hi : i.size = s := by simpa [hq] using hs
    simp [Builtin.copy_, run_underlying hu, Builtin.lenOf, Builtin.firstCells, sizeOf, typeInfo, hq, hi, ← hk, ← hn, hl, hst]
/-- a copy into a row of the call's own; the source may lie in the same row -/
theorem ow_copyS {lo' n c o dl dc k g sl sc : Nat} {aS : Addr} {cs ds : List Value} {dT sT : TypeId} (hown : Own w lo' el s (some ⟨g, 0, none⟩) n c cs) (hsrc : ∀ (j : Nat) (v : Value), ds[j]? = some v → w.cell? (aS.add j) = some v) (ht : P.underlying dT = some (.slice el)) (hi : tiO P el = some (a, s, b, z))
    (hx : evO e x = some (.slice (some ⟨g, o, none⟩) dl dc)) (hy : evO e y = some (.slice (some aS) sl sc)) (hm : k = Nat.min sl dl) (hk : ds.length = k * s) (hn : 0 < n) (hf : o + k * s ≤ n * s) (h1 : ∀ u ∈ ds, u.oneCell' = true)
    (h : ∀ w', Own w' lo' el s (some ⟨g, 0, none⟩) n c (cs.take o ++ ds ++ cs.drop (o + k * s)) → w.grownBy w' ((Value.slice (some ⟨g, 0, none⟩) n c).ownBlock) → K (.int .i64 (k : Nat)) w') : OpWp P e (.call ⟨.builtin .copy, #[x, y], #[dT, sT]⟩) ty w K := fun ρ d p af gd hρ => by
  have g1 := hρ _ _ hx; have g2 := hρ _ _ hy
  obtain ⟨g', cur, hA, hlo, hg, hnc, hsz, htk⟩ := hown.form hn
  injection hA with hA
  injection hA with hA
  subst hA
  obtain ⟨d', ti, zv, hd, hi', hz, ha, hts, hby, hzv⟩ := tiO_spec hi
  have hcn : n * s ≤ c * s := Nat.mul_le_mul_right _ hnc
  have hr := run_copy_rowS (P := P) w dT sT ty el g o dl dc k aS sl sc cur el ds ht (by rw [hi']; simp [hts]) hg hm hk hsrc (by rw [hk, hsz]; omega) h1
  simp only [execOp, resolve, invoke, builtin, Sem.run_bind, Sem.run_pure, Result.andThen_ok, List.map_toArray, List.map_cons, List.map_nil, g1, g2, hr, upto]
  refine h _ ?_ ⟨rfl, rfl, rfl, by simp, fun k' _ hk' => setRow_other w g k' _ (fun e => hk' (by rw [e]; rfl))⟩
  have hlen := hown.len
  refine ⟨by simp [hk, hlen]; omega, .inr ⟨g, c, _, rfl, hlo, setRow_heap w g cur _ el _ hg, hnc, ?_, ?_, ?_⟩⟩
  · rcases hown.2 with ⟨h5, _⟩ | ⟨g', cap', cur', h5, _, _, _, h6, _⟩
    · simp at h5
    · simp only [Value.slice.injEq] at h5
      obtain ⟨_, _, rfl⟩ := h5
      exact h6
  · simp [hk]; omega
  · rw [← htk]
    simp only []
    apply List.ext_getElem?
    intro i
    simp only [List.getElem?_take, List.getElem?_append, List.length_append, List.length_take, List.getElem?_drop, Array.length_toList, hk]
    repeat' split
    all_goals (try omega)
    all_goals (try rfl)
    all_goals (try (congr 1; omega))
    all_goals (symm; first | (apply List.getElem?_eq_none; omega) | skip)
/-- a row made longer, within its room -/
theorem Own.longer {lo n c n' : Nat} {A : Option Addr} {cs : List Value} (hown : Own w lo el s A n c cs) (hn : 0 < n) (h1 : n ≤ n') (h2 : n' ≤ c) : ∃ ex, ex.length = (n' - n) * s ∧ Own w lo el s A n' c (cs ++ ex) := by
  rcases hown.2 with ⟨h3, _⟩ | ⟨g, cap, cur, h3, hlo, hg, hnc, hcm, hcs, htk⟩
  · simp only [Value.slice.injEq] at h3; omega
  · simp only [Value.slice.injEq] at h3
    obtain ⟨rfl, _, rfl⟩ := h3
    have e1 : n * s ≤ n' * s := Nat.mul_le_mul_right _ h1
    have e2 : n' * s ≤ c * s := Nat.mul_le_mul_right _ h2
    refine ⟨(cur.toList.take (n' * s)).drop (n * s), by rw [List.length_drop, List.length_take, Array.length_toList, hcs, Nat.min_eq_left e2, Nat.sub_mul], ?_⟩
    have e3 : cs ++ (cur.toList.take (n' * s)).drop (n * s) = cur.toList.take (n' * s) := by
      rw [← htk]
      have := List.take_append_drop (n * s) (cur.toList.take (n' * s))
      rw [List.take_take, Nat.min_eq_left e1] at this
      exact this
    rw [e3]
    exact ⟨by rw [List.length_take, Array.length_toList, hcs, Nat.min_eq_left e2], .inr ⟨g, c, cur, rfl, hlo, hg, h2, hcm, hcs, rfl⟩⟩
end
end Go.Proofs.Ytdoibplhbdkapaa
namespace Go.Proofs.Ytdoibplhbdkapaa
open Go.RowKit
set_option linter.unusedVariables false
set_option linter.unusedSimpArgs false
section
variable {P : Program} {e : List (Nat × Value)} {ty : TypeId} {w : World} {K : Value → World → Prop}
theorem ow_ext1 {f : FuncId} {args : Array Operand} {ts : Array TypeId} {vs : List Value} {v : Value} (hr : (callFunc f vs.toArray).run P w = .ok (.value v) w) (hx : argsO e args.toList = some vs) (h : K v w) : OpWp P e (.call ⟨.value (.func f), args, ts⟩) ty w K := fun ρ d p a g hρ => by
  have h1 : args.map ρ = vs.toArray := Array.ext' (by simpa using argsO_spec hρ _ _ hx)
  have h2 : ρ (.func f) = .func (.func f) #[] #[] := hρ (.func f) _ rfl
  simp only [execOp, resolve, h1, h2, Deferred.ofValue, invoke]
  simp only [Sem.run_bind, Sem.run_pure, Result.andThen_ok, Array.append_empty, Array.empty_append]
  rw [hr]
  simp only [upto]
  exact h
theorem overlaps_c {tS tR el elA tB : TypeId} {s sA sB lo lo' n c n' c' ga gb ob la ca lb cb : Nat} {cs cs' : List Value} {f : FuncId} {fn : Func} (hf : P.funcs[f]? = some fn) (h1 : (fn.name == "runtime.NumGoroutine") = false) (h2 : fn.body.isNone = true) (h3 : Extern.findNext fn = none)
    (he : Extern.find fn = some (Extern.SlicesOverlaps.overlaps #[tS, tS] #[tR])) (ht : elO P tS = some (el, s)) (oA : Own w lo elA sA (some ⟨ga, 0, none⟩) n c cs) (hn : 0 < n) (oB : Own w lo' tB sB (some ⟨gb, 0, none⟩) n' c' cs') (hn' : 0 < n') (hs : 0 < sB) (hne : ga ≠ gb) :
    (callFunc f #[.slice (some ⟨ga, 0, none⟩) la ca, .slice (some ⟨gb, ob, none⟩) lb cb]).run P w = .ok (.value (.bool false)) w := by
  obtain ⟨ti, hu, hti, hts⟩ := elO_spec ht
  obtain ⟨g1, cur1, hA1, _, hg1, hc1, hs1, _⟩ := oA.form hn
  obtain ⟨g2, cur2, hA2, _, hg2, hc2, hs2, _⟩ := oB.form hn'
  injection hA1 with hA1; injection hA1 with hA1; subst hA1
  injection hA2 with hA2; injection hA2 with hA2; subst hA2
  have hk : cur2.size ≠ 0 := by rw [hs2]; exact Nat.mul_ne_zero (by omega) (by omega)
  rw [run_callFunc_extern hf h1 h2 h3 he, Go.Lib.run_overlaps_apart w tS tR el hu s (fun w => by simp [sizeOf, typeInfo, hti, hts]) ⟨ga, 0, none⟩ ⟨gb, ob, none⟩ la ca lb cb hne elA tB cur1.size cur2.size
    (by simp [World.shape?, hg1]) (by simp [World.shape?, hg2]) hk (by simp [World.frozen?, hg1]) (by simp [World.frozen?, hg1])]
  rfl
theorem own_src {lo n c s g o : Nat} {t : TypeId} {cs ds : List Value} (h : Own w lo t s (some ⟨g, 0, none⟩) n c cs) (hd : ∀ (j : Nat) (v : Value), ds[j]? = some v → cs[o + j]? = some v) : ∀ (j : Nat) (v : Value), ds[j]? = some v → w.cell? ((⟨g, o, none⟩ : Addr).add j) = some v := fun j v hj => by
  have h1 := (h.sl.2 (o + j) v (hd j v hj)).2.2
  have e : (base (some (⟨g, 0, none⟩ : Addr))).add (o + j) = (⟨g, o, none⟩ : Addr).add j := by
    show (⟨g, 0, none⟩ : Addr).add (o + j) = _
    rw [add_blk, add_blk]; congr 1; omega
  rw [← e]; exact h1
theorem drop_src {ds : List Value} (o : Nat) : ∀ (j : Nat) (v : Value), (ds.drop o)[j]? = some v → ds[o + j]? = some v := fun j v h => by
  rwa [List.getElem?_drop] at h
end
theorem ins_fill {U Z X D : List Value} {a b : Nat} (hU : U.length = a) (hX : X.length = b) (hZ : Z.length = b + D.length) : ((U ++ Z).take a ++ X ++ (U ++ Z).drop (a + b)).take (a + b) ++ D ++ ((U ++ Z).take a ++ X ++ (U ++ Z).drop (a + b)).drop (a + b + D.length) = U ++ X ++ D := by
  subst hU; subst hX
  have e1 : (U ++ Z).take U.length = U := List.take_left
  have e2 : (U ++ X ++ (U ++ Z).drop (U.length + X.length)).take (U.length + X.length) = U ++ X := by
    rw [← List.length_append]; exact List.take_left
  have e3 : (U ++ X ++ (U ++ Z).drop (U.length + X.length)).drop (U.length + X.length + D.length) = [] := by
    apply List.drop_eq_nil_of_le
    simp only [List.length_append, List.length_drop]; omega
  rw [e1, e2, e3, List.append_nil]
theorem ins_shift {C X : List Value} {a b m : Nat} (hC : C.length = a + m + b) (hX : X.length = b) : (C.take (a + b) ++ (C.drop a).take m ++ C.drop (a + b + m)).take a ++ X ++ (C.take (a + b) ++ (C.drop a).take m ++ C.drop (a + b + m)).drop (a + b) = C.take a ++ X ++ (C.drop a).take m := by
  have e0 : C.drop (a + b + m) = [] := List.drop_eq_nil_of_le (by omega)
  have e1 : (C.take (a + b)).length = a + b := by rw [List.length_take]; omega
  rw [e0, List.append_nil, List.drop_left' e1, List.take_append_of_le_length (by rw [e1]; omega), List.take_take, Nat.min_eq_left (by omega)]
end Go.Proofs.Ytdoibplhbdkapaa
namespace Go.Proofs.Ytdoibplhbdkapaa
open Go.RowKit
set_option linter.unusedVariables false
set_option linter.unusedSimpArgs false
set_option maxRecDepth 20000
theorem one_SlotI (xs : List SlotI) : ∀ u ∈ xs.flatMap SlotI.cells, u.oneCell' = true := fun u hu => by
  obtain ⟨x, _, h⟩ := List.mem_flatMap.1 hu
  simp only [SlotI.cells, Desc.cells, List.mem_cons, List.mem_append, List.not_mem_nil, or_false, List.cons_append, List.nil_append] at h
  rcases h with rfl | rfl | rfl | rfl | rfl | rfl | rfl | rfl <;> rfl
theorem snoc_ins (L G : List SlotI) (x y : SlotI) : (L ++ x :: (G ++ [y])).flatMap SlotI.cells = (L ++ x :: G).flatMap SlotI.cells ++ y.cells := by
  simp only [List.flatMap_append, List.flatMap_cons, List.flatMap_nil, List.append_nil, List.append_assoc]
theorem one_cells (x : SlotI) : ∀ u ∈ x.cells, u.oneCell' = true := fun u hu => one_SlotI [x] u (by simpa using hu)
theorem ins_flat (xs : List SlotI) (x : SlotI) (i : Nat) : (insL xs x i).flatMap SlotI.cells = (xs.flatMap SlotI.cells).take (i * 8) ++ x.cells ++ (xs.flatMap SlotI.cells).drop (i * 8) := by
  rw [insL, List.flatMap_append, List.flatMap_cons, flat_take SlotI.len, flat_drop SlotI.len, List.append_assoc]
theorem one_part (xs : List SlotI) (ex : List Value) (a m : Nat) {i : Nat} (hi : i ≤ xs.length) (he : ex.length = 8) (e1 : a = i * 8 := by rfl) (e2 : m = (xs.length - i) * 8 := by rfl) : ∀ u ∈ ((xs.flatMap SlotI.cells ++ ex).drop a).take m, u.oneCell' = true := fun u hu => by
  subst e1; subst e2
  rw [List.drop_append_of_le_length (by rw [flat_len SlotI.len]; omega), List.take_append_of_le_length (by rw [List.length_drop, flat_len SlotI.len]; omega)] at hu
  exact one_SlotI xs u (List.mem_of_mem_drop (List.mem_of_mem_take hu))
theorem cloneSlotI_c (A : Option Addr) (B c : Nat) (xs : List SlotI) (w : World) (hs : Sl B w A (xs.flatMap SlotI.cells)) (hl : xs.length ≤ 1048576) :
    Calls Try.prog 59 #[.slice A xs.length c] w (Ret fun v w' => ∃ A' c', v = .slice A' xs.length c' ∧ Own w' w.heap.size 49 8 A' xs.length c' (xs.flatMap SlotI.cells) ∧ Ext w w') := by
  have Bhs := hs.1
  have X := Ext.refl w
  refine calls_of (args := [.slice A xs.length c]) Try.func59 Try.ntmps59 rfl rfl ?_
  refine c_seqR ?_
  refine ops_cons rfl (ow_assign rfl ?_)
  refine ops_nil ?_
  refine c_seq ?_
  refine c_seqR ?_
  refine ops_cons rfl (ow_move rfl ?_)
  refine ops_cons rfl (ow_eqlN2 Try.underlying43 rfl rfl (fun hA => ?_) (fun hA => ?_))
  refine ops_nil ?_
  refine c_true rfl ?_
  refine c_seqR ?_
  refine ops_cons rfl (ow_assign rfl ?_)
  refine ops_nil ?_
  refine c_ret ?_
  refine tq_r ?_
  refine fin_ret1 rfl rfl ?_
  · skip
    first
    | (subst hA
       have e := hs.none_nil SlotI.len (by omega)
       subst e; exact ⟨none, 0, rfl, Own.nil_ _ _ _ _, X⟩)
    | (rw [Nat.zero_add] at oN; exact ⟨_, _, by rw [Nat.zero_add], oN, X⟩)
  refine ops_nil ?_
  refine c_false rfl ?_
  refine c_skip ?_
  refine tq_n ?_
  refine c_seqR ?_
  refine ops_cons rfl (ow_buildSlice el43 ti49 rfl rfl rfl rfl rfl ?_)
  intro gO w2 egO oO bbgO x1 zgO
  replace oO := Own.low oO X.size
  replace hs := hs.ext x1
  replace X := Ext.trans X x1; clear x1
  refine ops_cons rfl (ow_move rfl ?_)
  refine ops_cons rfl (ow_append (ts := #[]) oO X.size hs (flat_len SlotI.len xs) (one_SlotI xs) el43 ti49 rfl rfl rfl rfl (by omega) (by omega) ?_)
  intro AoN coN w4 oN hg3
  replace hs := hs.grown hg3 (fun g hg => Nat.le_trans Bhs (Own.lt oO hg).1)
  replace X := X.grown hg3 X.size (fun g hg => (Own.lt oO hg).1)
  clear hg3
  refine ops_cons rfl (ow_assign rfl ?_)
  refine ops_nil ?_
  refine c_ret ?_
  refine fin_ret1 rfl rfl ?_
  · skip
    first
    | (subst hA
       have e := hs.none_nil SlotI.len (by omega)
       subst e; exact ⟨none, 0, rfl, Own.nil_ _ _ _ _, X⟩)
    | (rw [Nat.zero_add] at oN; exact ⟨_, _, by rw [Nat.zero_add], oN, X⟩)

theorem insert_c (A : Option Addr) (lo c i gv cv lv : Nat) (xs : List SlotI) (x : SlotI) (w : World) (oA : Own w lo 49 8 A xs.length c (xs.flatMap SlotI.cells)) (oV : Own w lv 49 8 (some ⟨gv, 0, none⟩) 1 cv x.cells) (hne : ((Value.slice A xs.length c).ownBlock) ≠ some gv) (hi : i ≤ xs.length) (hl : xs.length ≤ 120) (hlo : lo ≤ w.heap.size) :
    Calls Try.prog 58 #[.slice A xs.length c, .int .i64 (i : Nat), .slice (some ⟨gv, 0, none⟩) 1 cv] w (Ret fun v w' => ∃ A' c', v = .slice A' (xs.length + 1) c' ∧ Own w' lo 49 8 A' (xs.length + 1) c' ((insL xs x i).flatMap SlotI.cells) ∧ w.grownBy w' ((Value.slice A xs.length c).ownBlock)) := by
  have hnc := oA.cap
  have X := gb_refl w ((Value.slice A xs.length c).ownBlock)
  refine calls_of (args := [.slice A xs.length c, .int .i64 (i : Nat), .slice (some ⟨gv, 0, none⟩) 1 cv]) Try.func58 Try.ntmps58 rfl rfl ?_
  refine c_seqR ?_
  refine ops_cons rfl (ow_assign rfl ?_)
  refine ops_nil ?_
  refine c_seqR ?_
  refine ops_cons rfl (ow_move rfl ?_)
  refine ops_cons rfl (ow_move rfl ?_)
  refine ops_cons rfl (ow_sliceL el43 oA.sl SlotI.len rfl rfl rfl rfl hi oA.cap ?_)
  intro A1 p1; clear p1
  refine ops_nil ?_
  refine c_seqR ?_
  refine ops_cons rfl (ow_move rfl ?_)
  refine ops_cons rfl (ow_len Try.underlying43 rfl ?_)
  refine ops_cons rfl (ow_assign rfl ?_)
  refine ops_nil ?_
  refine c_seq ?_
  refine c_seqR ?_
  refine ops_cons rfl (ow_move rfl ?_)
  refine ops_cons rfl (ow_eql2 rfl rfl (fun h1 => absurd h1 (by omega)) (fun h1 => ?_))
  refine ops_nil ?_
  refine c_false rfl ?_
  refine c_skip ?_
  refine tq_n ?_
  refine c_seqR ?_
  refine ops_cons rfl (ow_move rfl ?_)
  refine ops_cons rfl (ow_len Try.underlying43 rfl ?_)
  refine ops_cons rfl (ow_assign rfl ?_)
  refine ops_nil ?_
  refine c_seq ?_
  refine c_seqR ?_
  refine ops_cons rfl (ow_move rfl ?_)
  refine ops_cons rfl (ow_move rfl ?_)
  refine ops_cons rfl (ow_eql2 rfl rfl (fun hin => ?_) (fun hin => ?_))
  refine ops_nil ?_
  refine c_true rfl ?_
  refine c_seqR ?_
  refine ops_cons rfl (ow_move rfl ?_)
  refine ops_cons rfl (ow_move rfl ?_)
  refine ops_cons rfl (ow_append (ts := #[]) oA (Nat.le_trans hlo X.size) oV.sl rfl (one_cells x) el43 ti49 rfl rfl rfl rfl (by omega) (by omega) ?_)
  intro A2 c2 w2 o2 hg2
  replace X := gb_trans X hg2
  refine ops_cons rfl (ow_assign rfl ?_)
  refine ops_nil ?_
  refine c_ret ?_
  refine tq_r ?_
  refine fin_ret1 rfl rfl ?_
  · skip
    have e : i = xs.length := by omega
    subst e
    exact ⟨_, _, rfl, o2.to (by rw [ins_flat, flat_take SlotI.len, flat_drop SlotI.len, List.take_length, List.drop_length]; simp), X⟩
  obtain ⟨gA, curA, rfl, _⟩ := oA.form (by omega)
  refine ops_nil ?_
  refine c_false rfl ?_
  refine c_skip ?_
  refine tq_n ?_
  refine c_seq ?_
  refine c_seqR ?_
  refine ops_cons rfl (ow_move rfl ?_)
  refine ops_cons rfl (ow_move rfl ?_)
  refine ops_cons rfl (ow_add rfl rfl (w64 (by omega)) ?_)
  refine ops_cons rfl (ow_move rfl ?_)
  refine ops_cons rfl (ow_cap Try.underlying43 rfl ?_)
  refine ops_cons rfl (ow_gtr2 rfl rfl (fun hcap => ?_) (fun hcap => ?_))
  refine ops_nil ?_
  refine c_true rfl ?_
  refine c_seqR ?_
  refine ops_cons rfl (ow_move rfl ?_)
  refine ops_cons rfl (ow_move rfl ?_)
  refine ops_cons rfl (ow_sliceHO (h := i) el43 rfl rfl rfl (by omega) ?_)
  refine ops_cons rfl (ow_move rfl ?_)
  refine ops_cons rfl (ow_move rfl ?_)
  refine ops_cons rfl (ow_add rfl rfl (w64 (by omega)) ?_)
  refine ops_cons rfl (ow_move rfl ?_)
  obtain ⟨m, hm⟩ : ∃ m, xs.length + 1 - i = m := ⟨_, rfl⟩
  refine ops_cons rfl (ow_sub rfl rfl (show IntKind.i64.wrap _ = ((m : Nat) : Int) from (w64 (by omega)).trans (by omega)) ?_)
  refine ops_cons rfl (ow_appendZS (k := m) (oA.pre hi) el43 Try.underlying3 ti49 rfl rfl rfl rfl rfl (by omega) (by omega) (by omega) (by omega) ?_)
  intro gN cN wN eN hcN oN xN
  have nA : ∀ g, (Value.slice (some ⟨gN, 0, none⟩) (i + m) cN).ownBlock = some g → (Value.slice (some ⟨gA, 0, none⟩) xs.length c).ownBlock ≠ some g := fun g hg h => absurd (Own.lt oA h).2 (Nat.not_lt.2 (Own.lt oN hg).1)
  have nV : ∀ g, (Value.slice (some ⟨gN, 0, none⟩) (i + m) cN).ownBlock = some g → (Value.slice (some ⟨gv, 0, none⟩) 1 cv).ownBlock ≠ some g := fun g hg h => absurd (Own.lt oV h).2 (Nat.not_lt.2 (Own.lt oN hg).1)
  have lN := X.size
  replace oA := oA.ext xN
  replace oV := oV.ext xN
  replace X := gb_ext X xN
  refine ops_cons rfl (ow_assign rfl ?_)
  refine ops_nil ?_
  refine c_seqR ?_
  refine ops_cons rfl (ow_move rfl ?_)
  refine ops_cons rfl (ow_move rfl ?_)
  refine ops_cons rfl (ow_sliceLG (g := gN) (l := i) el43 rfl rfl rfl (by omega) hcN ?_)
  refine ops_cons rfl (ow_move rfl ?_)
  refine ops_cons rfl (ow_copyS (g := gN) (o := i * 8) (k := 1) (aS := ⟨gv, 0, none⟩) (ds := x.cells) oN (fun j v h => (oV.sl.2 j v h).2.2) Try.underlying43 ti49 rfl rfl (by show 1 = min 1 (i + m - i); omega) rfl (by omega) (by omega) (one_cells x) ?_)
  intro wC oC hgC
  replace oA := oA.grown hgC nA
  replace X := gb_new X hgC (fun g hg => Nat.le_trans lN (Own.lt oN hg).1)
  refine ops_nil ?_
  refine c_seqD [false, false, false, false, false, false, false, false] mixed (by kernel_rfl) ?_
  refine f_q rfl (fun wq sq => ow_move rfl ⟨rfl, Ext.refl _⟩) ?_
  refine f_q rfl (fun wq sq => ow_move rfl ⟨rfl, Ext.refl _⟩) ?_
  refine f_q rfl (fun wq sq => ow_move rfl ⟨rfl, Ext.refl _⟩) ?_
  refine f_q rfl (fun wq sq => ow_add rfl rfl (w64 (by omega)) ⟨rfl, Ext.refl _⟩) ?_
  refine f_q rfl (fun wq sq => ow_sliceLG (g := gN) (l := i + 1) el43 rfl rfl (by omega) (by omega) hcN ⟨rfl, Ext.refl _⟩) ?_
  refine f_q rfl (fun wq sq => ow_move rfl ⟨rfl, Ext.refl _⟩) ?_
  refine f_q rfl (fun wq sq => ow_move rfl ⟨rfl, Ext.refl _⟩) ?_
  refine f_q rfl (fun wq sq => ow_sliceLG (g := gA) (l := i) el43 rfl rfl rfl (by omega) hnc ⟨rfl, Ext.refl _⟩) ?_
  refine f_nil (fun w2 sq => ?_)
  have xq := sq
  replace oA := oA.ext xq
  replace oC := oC.ext xq
  replace X := gb_ext X xq; clear xq sq
  refine ops_cons rfl (ow_copyS (g := gN) (o := (i + 1) * 8) (k := xs.length - i) (aS := ⟨gA, i * 8, none⟩) (ds := ((xs.flatMap SlotI.cells).drop (i * 8))) oC (own_src oA (drop_src _)) Try.underlying43 ti49 rfl rfl (by show xs.length - i = min (xs.length - i) (i + m - (i + 1)); omega) (by rw [List.length_drop, flat_len SlotI.len]; omega) (by omega) (by omega) (fun u hu => one_SlotI xs u (List.mem_of_mem_drop hu)) ?_)
  intro wF oF hgF
  replace X := gb_new X hgF (fun g hg => Nat.le_trans lN (Own.lt oC hg).1)
  refine ops_nil ?_
  refine c_seqR ?_
  refine ops_cons rfl (ow_move rfl ?_)
  refine ops_cons rfl (ow_assign rfl ?_)
  refine ops_nil ?_
  refine c_ret ?_
  refine tq_r ?_
  refine fin_ret1 rfl rfl ?_
  · skip
    have e : i + m = xs.length + 1 := by omega
    have hU : ((xs.flatMap SlotI.cells).take (i * 8)).length = i * 8 := by rw [List.length_take, flat_len SlotI.len]; omega
    have hD : ((xs.flatMap SlotI.cells).drop (i * 8)).length = (xs.length - i) * 8 := by rw [List.length_drop, flat_len SlotI.len]; omega
    refine ⟨some ⟨gN, 0, none⟩, cN, by rw [e], ?_, X⟩
    rw [← e, ins_flat]
    refine (oF.low (Nat.le_trans hlo lN)).to ?_
    have h := ins_fill (U := (xs.flatMap SlotI.cells).take (i * 8)) (X := x.cells) (D := (xs.flatMap SlotI.cells).drop (i * 8)) (a := i * 8) (b := 8) (Z := repL m (⟨0, 0, 0, ⟨0, 0, 0, 0, false⟩⟩ : SlotI).cells) hU rfl (by rw [repL_len, hD]; show m * 8 = 8 + (xs.length - i) * 8; omega)
    rw [hD] at h
    rw [show (i + 1) * 8 = i * 8 + 8 by omega, Nat.one_mul]; exact h
  refine ops_nil ?_
  refine c_false rfl ?_
  refine c_skip ?_
  refine tq_n ?_
  refine c_seqR ?_
  refine ops_cons rfl (ow_move rfl ?_)
  refine ops_cons rfl (ow_move rfl ?_)
  refine ops_cons rfl (ow_move rfl ?_)
  refine ops_cons rfl (ow_add rfl rfl (w64 (by omega)) ?_)
  refine ops_cons rfl (ow_sliceHO (h := xs.length + 1) el43 rfl rfl (by omega) (by omega) ?_)
  obtain ⟨ex, hex, oB⟩ := oA.longer (n' := xs.length + 1) (by omega) (by omega) (by omega)
  have hex8 : ex.length = 8 := by rw [hex]; omega
  have hUB : ((xs.flatMap SlotI.cells) ++ ex).length = i * 8 + (xs.length - i) * 8 + 8 := by rw [List.length_append, flat_len SlotI.len, hex8]; omega
  clear oA
  refine ops_cons rfl (ow_assign rfl ?_)
  refine ops_nil ?_
  refine c_seq ?_
  refine c_seqR ?_
  refine ops_cons rfl (ow_move rfl ?_)
  refine ops_cons rfl (ow_move rfl ?_)
  refine ops_cons rfl (ow_move rfl ?_)
  refine ops_cons rfl (ow_move rfl ?_)
  refine ops_cons rfl (ow_add rfl rfl (w64 (by omega)) ?_)
  refine ops_cons rfl (ow_sliceLG (g := gA) (l := i + 1) el43 rfl rfl (by omega) (by omega) (by omega) ?_)
  refine ops_cons rfl (ow_ext1 (overlaps_c (tR := 4) Try.func84 (by kernel_rfl) (by kernel_rfl) (by kernel_rfl) (by kernel_rfl) el43 oV (by omega) oB (by omega) (by omega) (fun h => hne (by rw [h]; rfl))) rfl ?_)
  refine ops_cons rfl (ow_not rfl ?_)
  refine ops_nil ?_
  refine c_true rfl ?_
  refine c_seqD [false, false, false, false, false, false, false, false] mixed (by kernel_rfl) ?_
  refine f_q rfl (fun wq sq => ow_move rfl ⟨rfl, Ext.refl _⟩) ?_
  refine f_q rfl (fun wq sq => ow_move rfl ⟨rfl, Ext.refl _⟩) ?_
  refine f_q rfl (fun wq sq => ow_move rfl ⟨rfl, Ext.refl _⟩) ?_
  refine f_q rfl (fun wq sq => ow_add rfl rfl (w64 (by omega)) ⟨rfl, Ext.refl _⟩) ?_
  refine f_q rfl (fun wq sq => ow_sliceLG (g := gA) (l := i + 1) el43 rfl rfl (by omega) (by omega) (by omega) ⟨rfl, Ext.refl _⟩) ?_
  refine f_q rfl (fun wq sq => ow_move rfl ⟨rfl, Ext.refl _⟩) ?_
  refine f_q rfl (fun wq sq => ow_move rfl ⟨rfl, Ext.refl _⟩) ?_
  refine f_q rfl (fun wq sq => ow_sliceLG (g := gA) (l := i) el43 rfl rfl rfl (by omega) (by omega) ⟨rfl, Ext.refl _⟩) ?_
  refine f_nil (fun w3 sq => ?_)
  have xq := sq
  replace oV := oV.ext xq
  replace oB := oB.ext xq
  replace X := gb_ext X xq; clear xq sq
  refine ops_cons rfl (ow_copyS (g := gA) (o := (i + 1) * 8) (k := xs.length - i) (aS := ⟨gA, i * 8, none⟩) (ds := ((((xs.flatMap SlotI.cells) ++ ex).drop (i * 8)).take ((xs.length - i) * 8))) oB (own_src oB (fun j v h => drop_src _ j v (by rw [List.getElem?_take] at h; split at h; exact h; cases h))) Try.underlying43 ti49 rfl rfl (by show xs.length - i = min (xs.length + 1 - i) (xs.length + 1 - (i + 1)); omega) (by rw [List.length_take, List.length_drop, hUB]; omega) (by omega) (by omega) (one_part xs ex _ _ hi hex8) ?_)
  intro wD oD hgD
  replace oV := oV.grown hgD (fun g hg h => hne (by have h1 : some gA = some g := hg; have h2 : some gv = some g := h; show some gA = some gv; rw [h1, h2]))
  replace X := gb_trans X hgD
  refine ops_nil ?_
  refine c_seqR ?_
  refine ops_cons rfl (ow_move rfl ?_)
  refine ops_cons rfl (ow_move rfl ?_)
  refine ops_cons rfl (ow_sliceLG (g := gA) (l := i) el43 rfl rfl rfl (by omega) (by omega) ?_)
  refine ops_cons rfl (ow_move rfl ?_)
  refine ops_cons rfl (ow_copyS (g := gA) (o := i * 8) (k := 1) (aS := ⟨gv, 0, none⟩) (ds := x.cells) oD (fun j v h => (oV.sl.2 j v h).2.2) Try.underlying43 ti49 rfl rfl (by show 1 = min 1 (xs.length + 1 - i); omega) rfl (by omega) (by omega) (one_cells x) ?_)
  intro wF oF hgF
  replace X := gb_trans X hgF
  refine ops_nil ?_
  refine c_seqR ?_
  refine ops_cons rfl (ow_move rfl ?_)
  refine ops_cons rfl (ow_assign rfl ?_)
  refine ops_nil ?_
  refine c_ret ?_
  refine tq_r ?_
  refine fin_ret1 rfl rfl ?_
  · skip
    refine ⟨_, _, rfl, ?_, X⟩
    have e1 : ((xs.flatMap SlotI.cells) ++ ex).take (i * 8) = (xs.flatMap SlotI.cells).take (i * 8) := List.take_append_of_le_length (by rw [flat_len SlotI.len]; omega)
    have e2 : (((xs.flatMap SlotI.cells) ++ ex).drop (i * 8)).take ((xs.length - i) * 8) = (xs.flatMap SlotI.cells).drop (i * 8) := by
      rw [List.drop_append_of_le_length (by rw [flat_len SlotI.len]; omega)]
      exact List.take_left' (by rw [List.length_drop, flat_len SlotI.len]; omega)
    rw [ins_flat, ← e1, ← e2]
    refine oF.to ?_
    have h := ins_shift (C := (xs.flatMap SlotI.cells) ++ ex) (X := x.cells) (a := i * 8) (b := 8) (m := (xs.length - i) * 8) hUB rfl
    rw [show (i + 1) * 8 = i * 8 + 8 by omega, Nat.one_mul]; exact h
end Go.Proofs.Ytdoibplhbdkapaa
namespace Go.Proofs.Ytdoibplhbdkapaa
open Go.RowKit
set_option linter.unusedVariables false
set_option linter.unusedSimpArgs false
set_option maxRecDepth 20000
theorem iIns_c (A : Option Addr) (B c : Nat) (xs : List SlotI) (x : SlotI) (w : World) (hs : Sl B w A (xs.flatMap SlotI.cells)) (hl : xs.length ≤ 1048576) :
    Calls Try.prog 22 #[.slice A xs.length c, .agg x.cells.toArray] w (Ret fun v w' => ∃ A' c', v = .tuple #[.slice A' (insF xs x).1.length c', .int .i64 (insF xs x).2] ∧ Own w' w.heap.size 49 8 A' (insF xs x).1.length c' ((insF xs x).1.flatMap SlotI.cells) ∧ Ext w w') := by
  have Bhs := hs.1
  have X := Ext.refl w
  refine calls_of (args := [.slice A xs.length c, .agg x.cells.toArray]) Try.func22 Try.ntmps22 rfl rfl ?_
  refine c_seqR ?_
  refine ops_cons rfl (ow_box rfl rfl ?_)
  intro gX w2 egX bX x1 zgX
  have lgX : w.heap.size ≤ gX := Nat.le_trans X.size (Nat.le_of_eq egX.symm)
  have pgXhs := Nat.le_trans hs.1 (Nat.le_of_eq egX.symm)
  replace hs := hs.ext x1
  replace X := Ext.trans X x1; clear x1
  refine ops_cons rfl (ow_assign rfl ?_)
  refine ops_cons rfl (ow_assign rfl ?_)
  refine ops_nil ?_
  refine c_seq ?_
  refine c_seqR ?_
  refine ops_cons rfl (ow_move rfl ?_)
  refine ops_cons rfl (ow_callB ent34 rfl (iIsST_c _ _ _ _ _ hs hl) (fun w4 hT x3 => ?_) (fun w4 hT x3 => ?_))
  replace hs := hs.ext x3
  replace bX := bX.ext x3
  replace X := Ext.trans X x3; clear x3
  refine ops_cons rfl (ow_not rfl ?_)
  refine ops_nil ?_
  refine c_false rfl ?_
  refine c_skip ?_
  refine tq_n ?_
  refine c_seq ?_
  refine c_seqR ?_
  refine ops_cons rfl (ow_loadAB bX ti49 rfl rfl ?_)
  refine ops_cons rfl (ow_callB ent55 rfl (isSlotInfo_c _ _) (fun w6 hO x5 => ?_) (fun w6 hO x5 => ?_))
  replace hs := hs.ext x5
  replace bX := bX.ext x5
  replace X := Ext.trans X x5; clear x5
  refine ops_cons rfl (ow_not rfl ?_)
  refine ops_nil ?_
  refine c_false rfl ?_
  refine c_skip ?_
  refine tq_n ?_
  refine c_seqR ?_
  refine ops_cons rfl (ow_move rfl ?_)
  refine ops_cons rfl (ow_loadAB bX ti49 rfl rfl ?_)
  have hpw := isST_pw hT
  have hl120 := isST_len hT
  refine ops_cons rfl (ow_call ent56 rfl (ret_mono (bsearch_c _ _ _ xs x _ hs hl120 hpw) ?_))
  rintro _ wB ⟨p, rfl, hBS, xB⟩
  replace hs := hs.ext xB
  replace bX := bX.ext xB
  replace X := Ext.trans X xB; clear xB
  refine ops_cons rfl (ow_move rfl ?_)
  refine ops_cons rfl (ow_extract rfl rfl ?_)
  refine ops_cons rfl (ow_extract rfl rfl ?_)
  refine ops_cons rfl (ow_assign rfl ?_)
  refine ops_cons rfl (ow_assign rfl ?_)
  refine ops_nil ?_
  refine c_seq ?_
  refine c_seqR ?_
  refine ops_cons rfl (ow_move rfl ?_)
  refine ops_nil ?_
  refine c_split rfl (fun h7 => ?_) (fun h7 => ?_)
  refine c_seqR ?_
  refine ops_cons rfl (ow_assign rfl ?_)
  refine ops_cons rfl (ow_assign rfl ?_)
  refine ops_nil ?_
  refine c_ret ?_
  refine tq_r ?_
  refine fin_ret2 rfl rfl rfl ?_
  · skip
    first
    | (have e : insF xs x = ([], 5) := by rw [insF, if_pos hT, if_pos hO, if_neg ((bs_hit hpw hBS).1 ‹hitB xs x p = true›)]
       rw [e]; exact ⟨none, 0, rfl, Own.nil_ _ _ _ _, X⟩)
    | (have e : insF xs x = ([], 3) := by rw [insF, if_pos hT, if_pos hO, if_pos (by have h := ‹hitB xs x p = false›; have h2 := bs_hit hpw hBS; rw [h] at h2; simpa using h2), if_pos (by omega)]
       rw [e]; exact ⟨none, 0, rfl, Own.nil_ _ _ _ _, X⟩)
    | (have e : insF xs x = (insL xs x p, 0) := by rw [insF, if_pos hT, if_pos hO, if_pos (by have h := ‹hitB xs x p = false›; have h2 := bs_hit hpw hBS; rw [h] at h2; simpa using h2), if_neg (by omega), bs_filter hpw hBS ‹_›]
       rw [e]
       have el := insL_len (x := x) hBS.1
       exact ⟨AI, cI, by rw [el], by rw [el]; exact oI, X⟩)
  refine c_skip ?_
  refine tq_n ?_
  refine c_seq ?_
  refine c_seqR ?_
  refine ops_cons rfl (ow_move rfl ?_)
  refine ops_cons rfl (ow_len Try.underlying43 rfl ?_)
  refine ops_cons rfl (ow_eql2 rfl rfl (fun h120 => ?_) (fun h120 => ?_))
  refine ops_nil ?_
  refine c_true rfl ?_
  refine c_seqR ?_
  refine ops_cons rfl (ow_assign rfl ?_)
  refine ops_cons rfl (ow_assign rfl ?_)
  refine ops_nil ?_
  refine c_ret ?_
  refine tq_r ?_
  refine fin_ret2 rfl rfl rfl ?_
  · skip
    first
    | (have e : insF xs x = ([], 5) := by rw [insF, if_pos hT, if_pos hO, if_neg ((bs_hit hpw hBS).1 ‹hitB xs x p = true›)]
       rw [e]; exact ⟨none, 0, rfl, Own.nil_ _ _ _ _, X⟩)
    | (have e : insF xs x = ([], 3) := by rw [insF, if_pos hT, if_pos hO, if_pos (by have h := ‹hitB xs x p = false›; have h2 := bs_hit hpw hBS; rw [h] at h2; simpa using h2), if_pos (by omega)]
       rw [e]; exact ⟨none, 0, rfl, Own.nil_ _ _ _ _, X⟩)
    | (have e : insF xs x = (insL xs x p, 0) := by rw [insF, if_pos hT, if_pos hO, if_pos (by have h := ‹hitB xs x p = false›; have h2 := bs_hit hpw hBS; rw [h] at h2; simpa using h2), if_neg (by omega), bs_filter hpw hBS ‹_›]
       rw [e]
       have el := insL_len (x := x) hBS.1
       exact ⟨AI, cI, by rw [el], by rw [el]; exact oI, X⟩)
  refine ops_nil ?_
  refine c_false rfl ?_
  refine c_skip ?_
  refine tq_n ?_
  refine c_seqI (fun wz => Sl B wz A (xs.flatMap SlotI.cells) ∧ Blk wz gX 49 x.cells) mixed ?_
  obtain ⟨w9, ew9⟩ : ∃ wy, wy = World.drew wB := ⟨_, rfl⟩
  rw [← ew9]
  have xd : Ext wB w9 := ew9 ▸ Ext.drew wB
  replace hs := hs.ext xd
  replace bX := bX.ext xd
  replace X := Ext.trans X xd; clear xd ew9
  refine wi_take 0 rfl (by kernel_rfl) rfl (by kernel_rfl) (listed' := #[true, false, false, false, false, false, false, false]) rfl (fun wq sq => ow_move rfl ⟨rfl, rfl⟩) ?_
  refine wi_take 2 rfl (by kernel_rfl) rfl (by kernel_rfl) (listed' := #[true, false, true, false, false, false, false, false]) rfl (fun wq sq => ow_move rfl ⟨rfl, rfl⟩) ?_
  refine wi_take 3 rfl (by kernel_rfl) rfl (by kernel_rfl) (listed' := #[true, false, true, true, false, false, false, false]) rfl (fun wq sq => ow_loadAB sq.2 ti49 rfl rfl ⟨rfl, rfl⟩) ?_
  refine wi_two 1 4 rfl rfl rfl rfl (by kernel_rfl) (listed' := #[true, true, true, true, false, false, false, false]) (listed'' := #[true, false, true, true, true, false, false, false]) rfl rfl ⟨hs, bX⟩ ?_ ?_
  have UX := bX.lt
  refine (ow_call ent59 rfl (ret_mono (cloneSlotI_c _ _ _ xs _ hs (by omega)) ?_))
  rintro _ w11 ⟨AC, cC, rfl, oC, x10⟩
  have LoC := X.size
  replace hs := hs.ext x10
  replace bX := bX.ext x10
  replace X := Ext.trans X x10; clear x10
  have hbC : ∀ g, (Value.slice AC xs.length cC).ownBlock = some g → g ≠ gX := fun g hg e => absurd (Own.lt oC hg).1 (Nat.not_le.2 (e ▸ UX))
  replace oC := oC.low LoC
  have UC := fun g hg => (Own.lt oC (g := g) hg).2
  refine wi_one 4 rfl rfl (by kernel_rfl) (listed' := #[true, true, true, true, true, false, false, false]) rfl ⟨hs, bX⟩ (ow_buildSlice el43 ti49 rfl rfl rfl rfl rfl ?_)
  intro gv w13 egv oV bbgv x12 zgv
  replace oV := Own.low oV X.size
  replace hs := hs.ext x12
  replace bX := bX.ext x12
  replace oC := oC.ext x12
  replace X := Ext.trans X x12; clear x12
  have hne : (Value.slice AC xs.length cC).ownBlock ≠ some gv := fun h => absurd (UC _ h) (by omega)
  replace oV := oV.to (cs' := x.cells) rfl
  refine wi_one 5 rfl rfl (by kernel_rfl) (listed' := #[true, true, true, true, true, true, false, false]) rfl ⟨hs, bX⟩ (ow_call ent58 rfl (ret_mono (insert_c AC w.heap.size cC p gv 1 _ xs x _ oC oV hne hBS.1 hl120 X.size) ?_))
  rintro _ wI ⟨AI, cI, rfl, oI, gI⟩
  replace hs := hs.grown gI (fun g hg => Nat.le_trans Bhs (Own.lt oC hg).1)
  replace bX := bX.grown gI (fun h => hbC _ h.symm rfl)
  replace X := X.grown gI X.size (fun g hg => (Own.lt oC hg).1)
  refine wi_take 6 rfl (by kernel_rfl) rfl (by kernel_rfl) (listed' := #[true, true, true, true, true, true, true, false]) rfl (fun wq sq => ow_assign rfl ⟨rfl, rfl⟩) ?_
  refine wi_take 7 rfl (by kernel_rfl) rfl (by kernel_rfl) (listed' := #[true, true, true, true, true, true, true, true]) rfl (fun wq sq => ow_assign rfl ⟨rfl, rfl⟩) ?_
  refine wi_done rfl ⟨hs, bX⟩ (fun aj fj => ⟨_, fj, ?_⟩)
  refine c_ret ?_
  refine fin_ret2 rfl rfl rfl ?_
  · skip
    first
    | (have e : insF xs x = ([], 5) := by rw [insF, if_pos hT, if_pos hO, if_neg ((bs_hit hpw hBS).1 ‹hitB xs x p = true›)]
       rw [e]; exact ⟨none, 0, rfl, Own.nil_ _ _ _ _, X⟩)
    | (have e : insF xs x = ([], 3) := by rw [insF, if_pos hT, if_pos hO, if_pos (by have h := ‹hitB xs x p = false›; have h2 := bs_hit hpw hBS; rw [h] at h2; simpa using h2), if_pos (by omega)]
       rw [e]; exact ⟨none, 0, rfl, Own.nil_ _ _ _ _, X⟩)
    | (have e : insF xs x = (insL xs x p, 0) := by rw [insF, if_pos hT, if_pos hO, if_pos (by have h := ‹hitB xs x p = false›; have h2 := bs_hit hpw hBS; rw [h] at h2; simpa using h2), if_neg (by omega), bs_filter hpw hBS ‹_›]
       rw [e]
       have el := insL_len (x := x) hBS.1
       exact ⟨AI, cI, by rw [el], by rw [el]; exact oI, X⟩)
  refine (ow_buildSlice el43 ti49 rfl rfl rfl rfl rfl ?_)
  intro gv w15 egv oV bbgv x14 zgv
  replace oV := Own.low oV X.size
  replace hs := hs.ext x14
  replace bX := bX.ext x14
  replace X := Ext.trans X x14; clear x14
  replace oV := oV.to (cs' := x.cells) rfl
  have UX := bX.lt
  have LV := (Own.lt oV (g := gv) rfl).2
  refine wi_one 1 rfl rfl (by kernel_rfl) (listed' := #[true, true, true, true, true, false, false, false]) rfl ⟨hs, bX⟩ (ow_call ent59 rfl (ret_mono (cloneSlotI_c _ _ _ xs _ hs (by omega)) ?_))
  rintro _ w17 ⟨AC, cC, rfl, oC, x16⟩
  have LoC := X.size
  replace hs := hs.ext x16
  replace bX := bX.ext x16
  replace oV := oV.ext x16
  replace X := Ext.trans X x16; clear x16
  have hne : (Value.slice AC xs.length cC).ownBlock ≠ some gv := fun h => absurd (Own.lt oC h).1 (Nat.not_le.2 LV)
  have hbC : ∀ g, (Value.slice AC xs.length cC).ownBlock = some g → g ≠ gX := fun g hg e => absurd (Own.lt oC hg).1 (Nat.not_le.2 (e ▸ UX))
  replace oC := oC.low LoC
  refine wi_one 5 rfl rfl (by kernel_rfl) (listed' := #[true, true, true, true, true, true, false, false]) rfl ⟨hs, bX⟩ (ow_call ent58 rfl (ret_mono (insert_c AC w.heap.size cC p gv 1 _ xs x _ oC oV hne hBS.1 hl120 X.size) ?_))
  rintro _ wI ⟨AI, cI, rfl, oI, gI⟩
  replace hs := hs.grown gI (fun g hg => Nat.le_trans Bhs (Own.lt oC hg).1)
  replace bX := bX.grown gI (fun h => hbC _ h.symm rfl)
  replace X := X.grown gI X.size (fun g hg => (Own.lt oC hg).1)
  refine wi_take 6 rfl (by kernel_rfl) rfl (by kernel_rfl) (listed' := #[true, true, true, true, true, true, true, false]) rfl (fun wq sq => ow_assign rfl ⟨rfl, rfl⟩) ?_
  refine wi_take 7 rfl (by kernel_rfl) rfl (by kernel_rfl) (listed' := #[true, true, true, true, true, true, true, true]) rfl (fun wq sq => ow_assign rfl ⟨rfl, rfl⟩) ?_
  refine wi_done rfl ⟨hs, bX⟩ (fun aj fj => ⟨_, fj, ?_⟩)
  refine c_ret ?_
  refine fin_ret2 rfl rfl rfl ?_
  · skip
    first
    | (have e : insF xs x = ([], 5) := by rw [insF, if_pos hT, if_pos hO, if_neg ((bs_hit hpw hBS).1 ‹hitB xs x p = true›)]
       rw [e]; exact ⟨none, 0, rfl, Own.nil_ _ _ _ _, X⟩)
    | (have e : insF xs x = ([], 3) := by rw [insF, if_pos hT, if_pos hO, if_pos (by have h := ‹hitB xs x p = false›; have h2 := bs_hit hpw hBS; rw [h] at h2; simpa using h2), if_pos (by omega)]
       rw [e]; exact ⟨none, 0, rfl, Own.nil_ _ _ _ _, X⟩)
    | (have e : insF xs x = (insL xs x p, 0) := by rw [insF, if_pos hT, if_pos hO, if_pos (by have h := ‹hitB xs x p = false›; have h2 := bs_hit hpw hBS; rw [h] at h2; simpa using h2), if_neg (by omega), bs_filter hpw hBS ‹_›]
       rw [e]
       have el := insL_len (x := x) hBS.1
       exact ⟨AI, cI, by rw [el], by rw [el]; exact oI, X⟩)
  replace hs := hs.ext x5
  replace bX := bX.ext x5
  replace X := Ext.trans X x5; clear x5
  refine ops_cons rfl (ow_not rfl ?_)
  refine ops_nil ?_
  refine c_true rfl ?_
  refine c_seqR ?_
  refine ops_cons rfl (ow_assign rfl ?_)
  refine ops_cons rfl (ow_assign rfl ?_)
  refine ops_nil ?_
  refine c_ret ?_
  refine tq_r ?_
  refine fin_ret2 rfl rfl rfl ?_
  · skip
    have e : insF xs x = ([], 2) := by rw [insF, if_pos hT, if_neg (by simp [hO])]
    rw [e]; exact ⟨none, 0, rfl, Own.nil_ _ _ _ _, X⟩
  replace hs := hs.ext x3
  replace bX := bX.ext x3
  replace X := Ext.trans X x3; clear x3
  refine ops_cons rfl (ow_not rfl ?_)
  refine ops_nil ?_
  refine c_true rfl ?_
  refine c_seqR ?_
  refine ops_cons rfl (ow_assign rfl ?_)
  refine ops_cons rfl (ow_assign rfl ?_)
  refine ops_nil ?_
  refine c_ret ?_
  refine tq_r ?_
  refine fin_ret2 rfl rfl rfl ?_
  · skip
    have e : insF xs x = ([], 1) := by rw [insF, if_neg (by simp [hT])]
    rw [e]; exact ⟨none, 0, rfl, Own.nil_ _ _ _ _, X⟩

theorem sIns_c (A : Option Addr) (B c : Nat) (xs : List SlotI) (x : SlotI) (w : World) (hs : Sl B w A (xs.flatMap SlotI.cells)) (hl : xs.length ≤ 1048576) :
    Calls Try.prog 19 #[.slice A xs.length c, .agg x.cells.toArray] w (Ret fun v w' => ∃ A' c', v = .tuple #[.slice A' (insF xs x).1.length c', .int .i64 (insF xs x).2] ∧ Own w' w.heap.size 49 8 A' (insF xs x).1.length c' ((insF xs x).1.flatMap SlotI.cells) ∧ Ext w w') := by
  have Bhs := hs.1
  have X := Ext.refl w
  refine calls_of (args := [.slice A xs.length c, .agg x.cells.toArray]) Try.func19 Try.ntmps19 rfl rfl ?_
  refine c_seqR ?_
  refine ops_cons rfl (ow_box rfl rfl ?_)
  intro gX w2 egX bX x1 zgX
  have lgX : w.heap.size ≤ gX := Nat.le_trans X.size (Nat.le_of_eq egX.symm)
  have pgXhs := Nat.le_trans hs.1 (Nat.le_of_eq egX.symm)
  replace hs := hs.ext x1
  replace X := Ext.trans X x1; clear x1
  refine ops_cons rfl (ow_assign rfl ?_)
  refine ops_cons rfl (ow_assign rfl ?_)
  refine ops_nil ?_
  refine c_seq ?_
  refine c_block ?_
  refine c_seqR ?_
  refine ops_cons rfl (ow_move rfl ?_)
  refine ops_cons rfl (ow_callB ent51 rfl (sIsST_c _ _ _ _ _ hs hl) (fun w4 hT x3 => ?_) (fun w4 hT x3 => ?_))
  replace hs := hs.ext x3
  replace bX := bX.ext x3
  replace X := Ext.trans X x3; clear x3
  refine ops_cons rfl (ow_not rfl ?_)
  refine ops_cons rfl (ow_assign rfl ?_)
  refine ops_nil ?_
  refine c_false rfl ?_
  refine c_seqR ?_
  refine ops_cons rfl (ow_loadAB bX ti49 rfl rfl ?_)
  refine ops_cons rfl (ow_callB ent52 rfl (l12Is_c _ _) (fun w6 hO x5 => ?_) (fun w6 hO x5 => ?_))
  replace hs := hs.ext x5
  replace bX := bX.ext x5
  replace X := Ext.trans X x5; clear x5
  refine ops_cons rfl (ow_not rfl ?_)
  refine ops_cons rfl (ow_assign rfl ?_)
  refine ops_nil ?_
  refine c_false rfl ?_
  refine c_seqR ?_
  refine ops_cons rfl (ow_move rfl ?_)
  refine ops_cons rfl (ow_fieldAddrB off49_0 rfl rfl ?_)
  refine ops_cons rfl (ow_loadB bX ti2 rfl rfl ?_)
  refine ops_cons rfl (ow_fieldAddrB off49_1 rfl rfl ?_)
  refine ops_cons rfl (ow_loadB bX ti2 rfl rfl ?_)
  refine ops_cons rfl (ow_fieldAddrB off49_2 rfl rfl ?_)
  refine ops_cons rfl (ow_loadB bX ti2 rfl rfl ?_)
  refine ops_cons rfl (ow_call ent53 rfl (ret_mono (l12Find_c _ _ _ _ _ _ _ _ hs hl) ?_))
  rintro _ w9 ⟨rfl, x7⟩
  replace hs := hs.ext x7
  replace bX := bX.ext x7
  replace X := Ext.trans X x7; clear x7
  refine ops_cons rfl (ow_geq2 rfl rfl (fun hF => ?_) (fun hF => ?_))
  refine ops_cons rfl (ow_assign rfl ?_)
  refine ops_nil ?_
  refine c_true rfl ?_
  refine c_seqR ?_
  refine ops_cons rfl (ow_assign rfl ?_)
  refine ops_cons rfl (ow_assign rfl ?_)
  refine ops_nil ?_
  refine c_ret ?_
  refine bq_r ?_
  refine tq_r ?_
  refine fin_ret2 rfl rfl rfl ?_
  · skip
    first
    | (have e : insF xs x = ([], 5) := by rw [insF, if_pos hT, if_pos hO, if_neg (by omega)]
       rw [e]; exact ⟨none, 0, rfl, Own.nil_ _ _ _ _, X⟩)
    | (have e : insF xs x = ([], 3) := by rw [insF, if_pos hT, if_pos hO, if_pos (by omega), if_pos (by omega)]
       rw [e]; exact ⟨none, 0, rfl, Own.nil_ _ _ _ _, X⟩)
    | (have e : insF xs x = (ltL xs x ++ x :: gtL xs x, 0) := by rw [insF, if_pos hT, if_pos hO, if_pos (by omega), if_neg (by omega)]
       rw [e]
       have hkk : k = xs.length := by omega
       rw [hkk, List.take_length] at oP hn
       rw [← hn]
       exact ⟨A1, c1, rfl, oP.low (Nat.le_succ_of_le lgX), X⟩)
  refine ops_cons rfl (ow_assign rfl ?_)
  refine ops_nil ?_
  refine c_false rfl ?_
  refine c_seqR ?_
  refine ops_cons rfl (ow_move rfl ?_)
  refine ops_cons rfl (ow_len Try.underlying43 rfl ?_)
  refine ops_cons rfl (ow_eql2 rfl rfl (fun h120 => ?_) (fun h120 => ?_))
  refine ops_cons rfl (ow_assign rfl ?_)
  refine ops_nil ?_
  refine c_true rfl ?_
  refine c_seqR ?_
  refine ops_cons rfl (ow_assign rfl ?_)
  refine ops_cons rfl (ow_assign rfl ?_)
  refine ops_nil ?_
  refine c_ret ?_
  refine bq_r ?_
  refine tq_r ?_
  refine fin_ret2 rfl rfl rfl ?_
  · skip
    first
    | (have e : insF xs x = ([], 5) := by rw [insF, if_pos hT, if_pos hO, if_neg (by omega)]
       rw [e]; exact ⟨none, 0, rfl, Own.nil_ _ _ _ _, X⟩)
    | (have e : insF xs x = ([], 3) := by rw [insF, if_pos hT, if_pos hO, if_pos (by omega), if_pos (by omega)]
       rw [e]; exact ⟨none, 0, rfl, Own.nil_ _ _ _ _, X⟩)
    | (have e : insF xs x = (ltL xs x ++ x :: gtL xs x, 0) := by rw [insF, if_pos hT, if_pos hO, if_pos (by omega), if_neg (by omega)]
       rw [e]
       have hkk : k = xs.length := by omega
       rw [hkk, List.take_length] at oP hn
       rw [← hn]
       exact ⟨A1, c1, rfl, oP.low (Nat.le_succ_of_le lgX), X⟩)
  refine ops_cons rfl (ow_assign rfl ?_)
  refine ops_nil ?_
  refine c_false rfl ?_
  refine c_skip ?_
  refine bq_n ?_
  refine tq_n ?_
  refine c_seqR ?_
  have hl120 := isST_len hT
  refine ops_cons rfl (ow_buildSlice el43 ti49 rfl rfl rfl rfl rfl ?_)
  intro gO w11 egO oO bbgO x10 zgO
  replace oO := Own.low oO bX.lt
  replace hs := hs.ext x10
  replace bX := bX.ext x10
  replace X := Ext.trans X x10; clear x10
  replace oO := oO.to (cs' := (ltL (xs.take 0) x).flatMap SlotI.cells) rfl
  refine ops_cons rfl (ow_assign rfl ?_)
  refine ops_nil ?_
  refine c_seq ?_
  refine c_seqR ?_
  refine ops_cons rfl (ow_assign rfl ?_)
  refine ops_nil ?_
  refine c_block ?_
  refine c_loop (G := Nat × Nat × Option Addr × Nat) (fun ⟨k, n1, A1, c1⟩ => [(0, .slice A xs.length c), (3, .pointer (some ⟨gX, 0, none⟩)), (4, .slice none 0 0), (5, .int .i64 0), (6, .slice A1 n1 c1), (7, .int .i64 (k : Nat))]) (fun ⟨k, n1, A1, c1⟩ wr => k ≤ xs.length ∧ n1 = (ltL (xs.take k) x).length ∧ n1 ≤ 0 + k ∧ Own wr (gX + 1) 49 8 A1 n1 c1 ((ltL (xs.take k) x).flatMap SlotI.cells) ∧ Sl B wr A (xs.flatMap SlotI.cells) ∧ Blk wr gX 49 x.cells ∧ Ext w wr) (fun ⟨k, n1, A1, c1⟩ => xs.length - k) (0, 0, some ⟨gO, 0, none⟩, 0) (.cons rfl (.cons rfl (.cons rfl (.cons rfl (.cons rfl (.cons rfl (.nil _))))))) ?_ ?_
  · exact ⟨by omega, rfl, (by omega), oO, hs, bX, X⟩
  clear hs bX oO
  clear X
  rintro ⟨k, n1, A1, c1⟩ wr ⟨hk0, hn, hn1, oO, hs, bX, X⟩
  refine c_seq ?_
  refine c_seqR ?_
  refine ops_cons rfl (ow_move rfl ?_)
  refine ops_cons rfl (ow_move rfl ?_)
  refine ops_cons rfl (ow_len Try.underlying43 rfl ?_)
  refine ops_cons rfl (ow_lss2 rfl rfl (fun hk => ?_) (fun hk => ?_))
  obtain ⟨y, hy, dy⟩ := drop_at' hk
  refine ops_nil ?_
  refine c_true rfl ?_
  refine c_skip ?_
  refine tq_n ?_
  refine c_seq ?_
  refine c_block ?_
  refine c_seqD [false, false, false, false, false, false, false] mixed (by kernel_rfl) ?_
  refine f_q rfl (fun wq sq => ow_move rfl ⟨rfl, Ext.refl _⟩) ?_
  refine f_q rfl (fun wq sq => ow_move rfl ⟨rfl, Ext.refl _⟩) ?_
  refine f_q rfl (fun wq sq => ow_indexT (hs.ext sq) SlotI.len rfl el43 rfl rfl rfl hy rfl ⟨rfl, Ext.refl _⟩) ?_
  refine f_q rfl (fun wq sq => ow_loadTA (hs.ext sq) SlotI.len hy ti49 rfl ⟨rfl, Ext.refl _⟩) ?_
  refine f_q rfl (fun wq sq => ow_loadAB (bX.ext sq) ti49 rfl rfl ⟨rfl, Ext.refl _⟩) ?_
  refine f_q rfl (fun wq sq => ow_call ent31 rfl (sCompareSlots_c y x _)) ?_
  refine f_qb rfl (fun wq sq => ow_lss rfl rfl ⟨rfl, Ext.refl _⟩) (fun hc => ?_) (fun hc => ?_)
  refine f_nil (fun w12 sq => ?_)
  have xq := sq
  replace oO := oO.ext xq
  replace hs := hs.ext xq
  replace bX := bX.ext xq
  replace X := Ext.trans X xq; clear xq sq
  refine ops_nil ?_
  refine c_true rfl ?_
  refine c_region ?_
  refine ops_cons rfl (ow_move rfl ?_)
  refine ops_cons rfl (ow_move rfl ?_)
  refine ops_cons rfl (ow_move rfl ?_)
  refine ops_cons rfl (ow_indexT hs SlotI.len rfl el43 rfl rfl rfl hy rfl ?_)
  refine ops_cons rfl (ow_loadTA hs SlotI.len hy ti49 rfl ?_)
  refine ops_cons rfl (ow_buildSlice el43 ti49 rfl rfl rfl rfl rfl ?_)
  intro g13 w15 eg13 oB1 bbg13 x14 zg13
  replace oB1 := Own.low oB1 X.size
  replace oO := oO.ext x14
  replace hs := hs.ext x14
  replace bX := bX.ext x14
  replace X := Ext.trans X x14; clear x14
  refine ops_cons rfl (ow_append (ts := #[]) oO bX.lt oB1.sl rfl (one_cells y) el43 ti49 rfl rfl rfl rfl (by omega) (by omega) ?_)
  intro AoN coN w17 oN hg16
  replace hs := hs.grown hg16 (fun g hg => Nat.le_trans (Nat.le_succ_of_le pgXhs) (Own.lt oO hg).1)
  replace bX := bX.grown hg16 (fun h => by first | exact absurd (Own.lt oO h).1 (Nat.not_le.2 (Nat.lt_succ_self _)) | exact absurd (Own.lt oO h.symm).1 (Nat.not_le.2 (Nat.lt_succ_self _)))
  replace X := X.grown hg16 X.size (fun g hg => (Nat.le_trans (Nat.le_succ_of_le lgX) (Own.lt oO hg).1))
  clear hg16
  refine ops_cons rfl (ow_assign rfl ?_)
  refine ops_nil ?_
  refine bq_n ?_
  refine tq_n ?_
  refine c_region ?_
  refine ops_cons rfl (ow_move rfl ?_)
  refine ops_cons rfl (ow_add rfl rfl (w64 (by omega)) ?_)
  refine ops_cons rfl (ow_assign rfl ?_)
  refine ops_nil ?_
  refine tq_n ⟨(k + 1, n1 + 1, AoN, coN), (.cons rfl (.cons rfl (.cons rfl (.cons rfl (.cons rfl (.cons rfl (.nil _))))))), ?_, ?_⟩
  · exact ⟨by omega, (by rw [ltL_step hy, if_pos hc]; simp [hn] <;> omega), (by omega), (oN.to (by rw [ltL_step hy, if_pos hc, List.flatMap_append]; rfl)), hs, bX, X⟩
  · first | omega | (dsimp only; omega)
  refine f_nil (fun w18 sq => ?_)
  have xq := sq
  replace oO := oO.ext xq
  replace hs := hs.ext xq
  replace bX := bX.ext xq
  replace X := Ext.trans X xq; clear xq sq
  refine ops_nil ?_
  refine c_false rfl ?_
  refine c_skip ?_
  refine bq_n ?_
  refine tq_n ?_
  refine c_region ?_
  refine ops_cons rfl (ow_move rfl ?_)
  refine ops_cons rfl (ow_add rfl rfl (w64 (by omega)) ?_)
  refine ops_cons rfl (ow_assign rfl ?_)
  refine ops_nil ?_
  refine tq_n ⟨(k + 1, n1, A1, c1), (.cons rfl (.cons rfl (.cons rfl (.cons rfl (.cons rfl (.cons rfl (.nil _))))))), ?_, ?_⟩
  · exact ⟨by omega, (by rw [ltL_step hy, if_neg hc]; exact hn), (by omega), (oO.to (by rw [ltL_step hy, if_neg hc])), hs, bX, X⟩
  · first | omega | (dsimp only; omega)
  refine ops_nil ?_
  refine c_false rfl ?_
  refine c_exit ?_
  refine tq_e ?_
  refine tq_e ?_
  refine bq_e ?_
  refine tq_n ?_
  refine c_seqR ?_
  refine ops_cons rfl (ow_move rfl ?_)
  refine ops_cons rfl (ow_loadAB bX ti49 rfl rfl ?_)
  have hn0 := ltL_len xs x
  have hkk : k = xs.length := by omega
  rw [hkk, List.take_length] at oO hn
  refine ops_cons rfl (ow_buildSlice el43 ti49 rfl rfl rfl rfl rfl ?_)
  intro g19 w21 eg19 oB2 bbg19 x20 zg19
  replace oB2 := Own.low oB2 X.size
  replace oO := oO.ext x20
  replace hs := hs.ext x20
  replace bX := bX.ext x20
  replace X := Ext.trans X x20; clear x20
  refine ops_cons rfl (ow_append (ts := #[]) oO bX.lt oB2.sl rfl (one_cells x) el43 ti49 rfl rfl rfl rfl (by omega) (by omega) ?_)
  intro AoP coP w23 oP hg22
  replace hs := hs.grown hg22 (fun g hg => Nat.le_trans (Nat.le_succ_of_le pgXhs) (Own.lt oO hg).1)
  replace bX := bX.grown hg22 (fun h => by first | exact absurd (Own.lt oO h).1 (Nat.not_le.2 (Nat.lt_succ_self _)) | exact absurd (Own.lt oO h.symm).1 (Nat.not_le.2 (Nat.lt_succ_self _)))
  replace X := X.grown hg22 X.size (fun g hg => (Nat.le_trans (Nat.le_succ_of_le lgX) (Own.lt oO hg).1))
  clear hg22
  refine ops_cons rfl (ow_assign rfl ?_)
  refine ops_nil ?_
  refine c_seq ?_
  refine c_seqR ?_
  refine ops_cons rfl (ow_assign rfl ?_)
  refine ops_nil ?_
  refine c_block ?_
  refine c_loop (G := Nat × Nat × Option Addr × Nat) (fun ⟨k, n1, A1, c1⟩ => [(0, .slice A xs.length c), (3, .pointer (some ⟨gX, 0, none⟩)), (4, .slice none 0 0), (5, .int .i64 0), (6, .slice A1 n1 c1), (8, .int .i64 (k : Nat))]) (fun ⟨k, n1, A1, c1⟩ wr => k ≤ xs.length ∧ n1 = (ltL xs x ++ x :: gtL (xs.take k) x).length ∧ n1 ≤ (1 + xs.length) + k ∧ Own wr (gX + 1) 49 8 A1 n1 c1 ((ltL xs x ++ x :: gtL (xs.take k) x).flatMap SlotI.cells) ∧ Sl B wr A (xs.flatMap SlotI.cells) ∧ Blk wr gX 49 x.cells ∧ Ext w wr) (fun ⟨k, n1, A1, c1⟩ => xs.length - k) (0, n1 + 1, AoP, coP) (.cons rfl (.cons rfl (.cons rfl (.cons rfl (.cons rfl (.cons rfl (.nil _))))))) ?_ ?_
  · exact ⟨by omega, (by rw [List.take_zero, hn]; simp [gtL]), (by omega), (oP.to (by rw [List.take_zero, List.flatMap_append]; rfl)), hs, bX, X⟩
  clear hs bX oP
  clear X
  rintro ⟨k, n1, A1, c1⟩ wr ⟨hk0, hn, hn1, oP, hs, bX, X⟩
  refine c_seq ?_
  refine c_seqR ?_
  refine ops_cons rfl (ow_move rfl ?_)
  refine ops_cons rfl (ow_move rfl ?_)
  refine ops_cons rfl (ow_len Try.underlying43 rfl ?_)
  refine ops_cons rfl (ow_lss2 rfl rfl (fun hk => ?_) (fun hk => ?_))
  obtain ⟨y, hy, dy⟩ := drop_at' hk
  refine ops_nil ?_
  refine c_true rfl ?_
  refine c_skip ?_
  refine tq_n ?_
  refine c_seq ?_
  refine c_block ?_
  refine c_seqD [false, false, false, false, false, false, false] mixed (by kernel_rfl) ?_
  refine f_q rfl (fun wq sq => ow_move rfl ⟨rfl, Ext.refl _⟩) ?_
  refine f_q rfl (fun wq sq => ow_move rfl ⟨rfl, Ext.refl _⟩) ?_
  refine f_q rfl (fun wq sq => ow_indexT (hs.ext sq) SlotI.len rfl el43 rfl rfl rfl hy rfl ⟨rfl, Ext.refl _⟩) ?_
  refine f_q rfl (fun wq sq => ow_loadTA (hs.ext sq) SlotI.len hy ti49 rfl ⟨rfl, Ext.refl _⟩) ?_
  refine f_q rfl (fun wq sq => ow_loadAB (bX.ext sq) ti49 rfl rfl ⟨rfl, Ext.refl _⟩) ?_
  refine f_q rfl (fun wq sq => ow_call ent31 rfl (sCompareSlots_c y x _)) ?_
  refine f_qb rfl (fun wq sq => ow_gtr rfl rfl ⟨rfl, Ext.refl _⟩) (fun hc => ?_) (fun hc => ?_)
  refine f_nil (fun w24 sq => ?_)
  have xq := sq
  replace oP := oP.ext xq
  replace hs := hs.ext xq
  replace bX := bX.ext xq
  replace X := Ext.trans X xq; clear xq sq
  refine ops_nil ?_
  refine c_true rfl ?_
  refine c_region ?_
  refine ops_cons rfl (ow_move rfl ?_)
  refine ops_cons rfl (ow_move rfl ?_)
  refine ops_cons rfl (ow_move rfl ?_)
  refine ops_cons rfl (ow_indexT hs SlotI.len rfl el43 rfl rfl rfl hy rfl ?_)
  refine ops_cons rfl (ow_loadTA hs SlotI.len hy ti49 rfl ?_)
  refine ops_cons rfl (ow_buildSlice el43 ti49 rfl rfl rfl rfl rfl ?_)
  intro g25 w27 eg25 oB3 bbg25 x26 zg25
  replace oB3 := Own.low oB3 X.size
  replace oP := oP.ext x26
  replace hs := hs.ext x26
  replace bX := bX.ext x26
  replace X := Ext.trans X x26; clear x26
  refine ops_cons rfl (ow_append (ts := #[]) oP bX.lt oB3.sl rfl (one_cells y) el43 ti49 rfl rfl rfl rfl (by omega) (by omega) ?_)
  intro AoQ coQ w29 oQ hg28
  replace hs := hs.grown hg28 (fun g hg => Nat.le_trans (Nat.le_succ_of_le pgXhs) (Own.lt oP hg).1)
  replace bX := bX.grown hg28 (fun h => by first | exact absurd (Own.lt oP h).1 (Nat.not_le.2 (Nat.lt_succ_self _)) | exact absurd (Own.lt oP h.symm).1 (Nat.not_le.2 (Nat.lt_succ_self _)))
  replace X := X.grown hg28 X.size (fun g hg => (Nat.le_trans (Nat.le_succ_of_le lgX) (Own.lt oP hg).1))
  clear hg28
  refine ops_cons rfl (ow_assign rfl ?_)
  refine ops_nil ?_
  refine bq_n ?_
  refine tq_n ?_
  refine c_region ?_
  refine ops_cons rfl (ow_move rfl ?_)
  refine ops_cons rfl (ow_add rfl rfl (w64 (by omega)) ?_)
  refine ops_cons rfl (ow_assign rfl ?_)
  refine ops_nil ?_
  refine tq_n ⟨(k + 1, n1 + 1, AoQ, coQ), (.cons rfl (.cons rfl (.cons rfl (.cons rfl (.cons rfl (.cons rfl (.nil _))))))), ?_, ?_⟩
  · exact ⟨by omega, (by rw [gtL_step hy, if_pos hc]; simp [hn] <;> omega), (by omega), (oQ.to (by rw [gtL_step hy, if_pos hc, snoc_ins]; rfl)), hs, bX, X⟩
  · first | omega | (dsimp only; omega)
  refine f_nil (fun w30 sq => ?_)
  have xq := sq
  replace oP := oP.ext xq
  replace hs := hs.ext xq
  replace bX := bX.ext xq
  replace X := Ext.trans X xq; clear xq sq
  refine ops_nil ?_
  refine c_false rfl ?_
  refine c_skip ?_
  refine bq_n ?_
  refine tq_n ?_
  refine c_region ?_
  refine ops_cons rfl (ow_move rfl ?_)
  refine ops_cons rfl (ow_add rfl rfl (w64 (by omega)) ?_)
  refine ops_cons rfl (ow_assign rfl ?_)
  refine ops_nil ?_
  refine tq_n ⟨(k + 1, n1, A1, c1), (.cons rfl (.cons rfl (.cons rfl (.cons rfl (.cons rfl (.cons rfl (.nil _))))))), ?_, ?_⟩
  · exact ⟨by omega, (by rw [gtL_step hy, if_neg hc]; exact hn), (by omega), (oP.to (by rw [gtL_step hy, if_neg hc])), hs, bX, X⟩
  · first | omega | (dsimp only; omega)
  refine ops_nil ?_
  refine c_false rfl ?_
  refine c_exit ?_
  refine tq_e ?_
  refine tq_e ?_
  refine bq_e ?_
  refine tq_n ?_
  refine c_seqR ?_
  refine ops_cons rfl (ow_move rfl ?_)
  refine ops_cons rfl (ow_assign rfl ?_)
  refine ops_cons rfl (ow_assign rfl ?_)
  refine ops_nil ?_
  refine c_ret ?_
  refine fin_ret2 rfl rfl rfl ?_
  · skip
    first
    | (have e : insF xs x = ([], 5) := by rw [insF, if_pos hT, if_pos hO, if_neg (by omega)]
       rw [e]; exact ⟨none, 0, rfl, Own.nil_ _ _ _ _, X⟩)
    | (have e : insF xs x = ([], 3) := by rw [insF, if_pos hT, if_pos hO, if_pos (by omega), if_pos (by omega)]
       rw [e]; exact ⟨none, 0, rfl, Own.nil_ _ _ _ _, X⟩)
    | (have e : insF xs x = (ltL xs x ++ x :: gtL xs x, 0) := by rw [insF, if_pos hT, if_pos hO, if_pos (by omega), if_neg (by omega)]
       rw [e]
       have hkk : k = xs.length := by omega
       rw [hkk, List.take_length] at oP hn
       rw [← hn]
       exact ⟨A1, c1, rfl, oP.low (Nat.le_succ_of_le lgX), X⟩)
  replace hs := hs.ext x5
  replace bX := bX.ext x5
  replace X := Ext.trans X x5; clear x5
  refine ops_cons rfl (ow_not rfl ?_)
  refine ops_cons rfl (ow_assign rfl ?_)
  refine ops_nil ?_
  refine c_true rfl ?_
  refine c_seqR ?_
  refine ops_cons rfl (ow_assign rfl ?_)
  refine ops_cons rfl (ow_assign rfl ?_)
  refine ops_nil ?_
  refine c_ret ?_
  refine bq_r ?_
  refine tq_r ?_
  refine fin_ret2 rfl rfl rfl ?_
  · skip
    have e : insF xs x = ([], 2) := by rw [insF, if_pos hT, if_neg (by simp [hO])]
    rw [e]; exact ⟨none, 0, rfl, Own.nil_ _ _ _ _, X⟩
  replace hs := hs.ext x3
  replace bX := bX.ext x3
  replace X := Ext.trans X x3; clear x3
  refine ops_cons rfl (ow_not rfl ?_)
  refine ops_cons rfl (ow_assign rfl ?_)
  refine ops_nil ?_
  refine c_true rfl ?_
  refine c_seqR ?_
  refine ops_cons rfl (ow_assign rfl ?_)
  refine ops_cons rfl (ow_assign rfl ?_)
  refine ops_nil ?_
  refine c_ret ?_
  refine bq_r ?_
  refine tq_r ?_
  refine fin_ret2 rfl rfl rfl ?_
  · skip
    have e : insF xs x = ([], 1) := by rw [insF, if_neg (by simp [hT])]
    rw [e]; exact ⟨none, 0, rfl, Own.nil_ _ _ _ _, X⟩
end Go.Proofs.Ytdoibplhbdkapaa
namespace Go.Proofs.Ytdoibplhbdkapaa
open Go.RowKit
set_option linter.unusedVariables false
set_option linter.unusedSimpArgs false
set_option maxRecDepth 20000
def idxS (n : Int) (k : Nat) : List SlotI → List Int
  | [] => []
  | x :: r => if x.desc.node = n then (k : Int) :: idxS n (k + 1) r else idxS n (k + 1) r
def resN (xs : List SlotI) (n : Int) : List Int × Int := if isST xs = true then (idxS n 0 xs, 0) else ([], 1)
theorem idxS_len (n : Int) : ∀ (xs : List SlotI) (k : Nat), (idxS n k xs).length ≤ xs.length
  | [], k => by simp [idxS]
  | x :: r, k => by
    have := idxS_len n r (k + 1)
    rw [idxS]; split <;> simp <;> omega
theorem resN_len (xs : List SlotI) (n : Int) (h : xs.length ≤ 1048576) : (resN xs n).1.length ≤ 1048576 := by
  unfold resN
  split
  · have := idxS_len n xs 0; dsimp only; omega
  · simp
theorem iNodes_c (A : Option Addr) (B c : Nat) (xs : List SlotI) (n : Int) (w : World) (hs : Sl B w A (xs.flatMap SlotI.cells)) (hl : xs.length ≤ 1048576) :
    Calls Try.prog 33 #[.slice A xs.length c, .int .i64 n] w (Ret fun v w' => ∃ A' c', v = .tuple #[.slice A' (resN xs n).1.length c', .int .i64 (resN xs n).2] ∧ Own w' w.heap.size 2 1 A' (resN xs n).1.length c' ((resN xs n).1.flatMap eI) ∧ Ext w w') := by
  have Bhs := hs.1
  have X := Ext.refl w
  refine calls_of (args := [.slice A xs.length c, .int .i64 n]) Try.func33 Try.ntmps33 rfl rfl ?_
  refine c_seqR ?_
  refine ops_cons rfl (ow_assign rfl ?_)
  refine ops_cons rfl (ow_assign rfl ?_)
  refine ops_nil ?_
  refine c_seq ?_
  refine c_seqR ?_
  refine ops_cons rfl (ow_move rfl ?_)
  refine ops_cons rfl (ow_callB ent34 rfl (iIsST_c _ _ _ _ _ hs hl) (fun w2 hT x1 => ?_) (fun w2 hT x1 => ?_))
  replace hs := hs.ext x1
  replace X := Ext.trans X x1; clear x1
  refine ops_cons rfl (ow_not rfl ?_)
  refine ops_nil ?_
  refine c_false rfl ?_
  refine c_skip ?_
  refine tq_n ?_
  refine c_seqR ?_
  refine ops_cons rfl (ow_buildSlice el22 ti2 rfl rfl rfl rfl rfl ?_)
  intro gO w4 egO oO bbgO x3 zgO
  replace oO := Own.low oO X.size
  replace hs := hs.ext x3
  replace X := Ext.trans X x3; clear x3
  refine ops_cons rfl (ow_assign rfl ?_)
  refine ops_nil ?_
  refine c_seq ?_
  refine c_seqR ?_
  refine ops_cons rfl (ow_move rfl ?_)
  refine ops_cons rfl (ow_len Try.underlying43 rfl ?_)
  refine ops_cons rfl (ow_move rfl ?_)
  refine ops_nil ?_
  refine c_block ?_
  refine c_loop (G := Nat × Nat × List Int × Option Addr × Nat) (fun ⟨k, n1, ys, A1, c1⟩ => [(1, .int .i64 n), (4, .slice none 0 0), (5, .int .i64 0), (13, .slice A xs.length c), (14, .int .i64 (xs.length : Nat)), (6, .slice A1 n1 c1), (15, .int .i64 (k : Nat))]) (fun ⟨k, n1, ys, A1, c1⟩ wr => k ≤ xs.length ∧ n1 = ys.length ∧ n1 ≤ k ∧ idxS n 0 xs = ys ++ idxS n k (xs.drop k) ∧ Own wr w.heap.size 2 1 A1 n1 c1 (ys.flatMap eI) ∧ Sl B wr A (xs.flatMap SlotI.cells) ∧ Ext w wr) (fun ⟨k, n1, ys, A1, c1⟩ => xs.length - k) (0, 0, [], some ⟨gO, 0, none⟩, 0) (.cons rfl (.cons rfl (.cons rfl (.cons rfl (.cons rfl (.cons rfl (.cons rfl (.nil _)))))))) ?_ ?_
  · exact ⟨by omega, rfl, by omega, rfl, oO, hs, X⟩
  clear hs oO
  clear X
  rintro ⟨k, n1, ys, A1, c1⟩ wr ⟨hk0, hn, hn1, hi, oO, hs, X⟩
  refine c_seqR ?_
  refine ops_cons rfl (ow_lss2 rfl rfl (fun hk => ?_) (fun hk => ?_))
  obtain ⟨x, hx, dx⟩ := drop_at' hk
  refine ops_nil ?_
  refine c_seq ?_
  refine c_true rfl ?_
  refine c_skip ?_
  refine tq_n ?_
  refine c_seq ?_
  refine c_block ?_
  refine c_seqR ?_
  refine ops_cons rfl (ow_move rfl ?_)
  refine ops_cons rfl (ow_indexT hs SlotI.len rfl el43 rfl rfl rfl hx rfl ?_)
  refine ops_cons rfl (ow_loadTA hs SlotI.len hx ti49 rfl ?_)
  refine ops_cons rfl (ow_alloc ti49 ?_)
  intro g8 w7 eg8 b5 x6 zg8
  have lg8 : w.heap.size ≤ g8 := Nat.le_trans X.size (Nat.le_of_eq eg8.symm)
  have pg8hs := Nat.le_trans hs.1 (Nat.le_of_eq eg8.symm)
  replace oO := oO.ext x6
  replace hs := hs.ext x6
  replace X := Ext.trans X x6; clear x6
  refine ops_cons rfl (ow_assign rfl ?_)
  refine ops_cons rfl (ow_storeB b5 ti49 rfl rfl rfl rfl rfl rfl ?_)
  intro w10 b12 hg9 z11
  replace oO := oO.grownBlk hg9 (Own.neT oO b5 (by decide))
  replace hs := hs.grown hg9 (by intro g hg; injection hg; omega)
  replace X := X.grown hg9 X.size (by intro g hg; injection hg; omega)
  clear hg9 b5
  refine ops_nil ?_
  refine c_seqR ?_
  refine ops_cons rfl (ow_fieldAddrB off49_3 rfl rfl ?_)
  refine ops_cons rfl (ow_fieldAddrB off47_0 rfl rfl ?_)
  refine ops_cons rfl (ow_loadB b12 ti2 rfl rfl ?_)
  refine ops_cons rfl (ow_move rfl ?_)
  refine ops_cons rfl (ow_eql2 rfl rfl (fun h13 => ?_) (fun h13 => ?_))
  refine ops_nil ?_
  refine c_true rfl ?_
  refine c_region ?_
  refine ops_cons rfl (ow_move rfl ?_)
  refine ops_cons rfl (ow_move rfl ?_)
  refine ops_cons rfl (ow_buildSlice el22 ti2 rfl rfl rfl rfl rfl ?_)
  intro g15 w17 eg15 o14 bbg15 x16 zg15
  replace o14 := Own.low o14 X.size
  replace oO := oO.ext x16
  replace hs := hs.ext x16
  replace b12 := b12.ext x16
  replace X := Ext.trans X x16; clear x16
  refine ops_cons rfl (ow_append (ts := #[]) oO X.size o14.sl (by first | rfl | simp) (by first | exact List.all_eq_true.1 rfl | simp [Value.oneCell']) el22 ti2 rfl rfl rfl rfl (by omega) (by omega) ?_)
  intro AoN coN w19 oN hg18
  replace hs := hs.grown hg18 (fun g hg => Nat.le_trans Bhs (Own.lt oO hg).1)
  replace b12 := b12.grown hg18 (fun h => Own.neT oO b12 (by decide) h.symm)
  replace X := X.grown hg18 X.size (fun g hg => (Own.lt oO hg).1)
  clear hg18
  refine ops_cons rfl (ow_assign rfl ?_)
  refine ops_nil ?_
  refine bq_n ?_
  refine tq_n ?_
  refine c_region ?_
  refine ops_cons rfl (ow_add rfl rfl (w64 (by omega)) ?_)
  refine ops_cons rfl (ow_move rfl ?_)
  refine ops_nil ?_
  refine tq_n ⟨(k + 1, n1 + 1, ys ++ [(k : Int)], AoN, coN), (.cons rfl (.cons rfl (.cons rfl (.cons rfl (.cons rfl (.cons rfl (.cons rfl (.nil _)))))))), ?_, ?_⟩
  · exact ⟨by omega, by simp [hn], by omega, (by rw [hi, dx, idxS, if_pos ‹_›]; simp), oN.to (snoc eI ys _).symm, hs, X⟩
  · first | omega | (dsimp only; omega)
  refine ops_nil ?_
  refine c_false rfl ?_
  refine c_skip ?_
  refine bq_n ?_
  refine tq_n ?_
  refine c_region ?_
  refine ops_cons rfl (ow_add rfl rfl (w64 (by omega)) ?_)
  refine ops_cons rfl (ow_move rfl ?_)
  refine ops_nil ?_
  refine tq_n ⟨(k + 1, n1, ys, A1, c1), (.cons rfl (.cons rfl (.cons rfl (.cons rfl (.cons rfl (.cons rfl (.cons rfl (.nil _)))))))), ?_, ?_⟩
  · exact ⟨by omega, hn, by omega, (by rw [hi, dx, idxS, if_neg ‹_›]), oO, hs, X⟩
  · first | omega | (dsimp only; omega)
  refine ops_nil ?_
  refine c_seq ?_
  refine c_false rfl ?_
  refine c_exit ?_
  refine tq_e ?_
  refine tq_e ?_
  refine bq_e ?_
  refine tq_n ?_
  refine c_seqR ?_
  refine ops_cons rfl (ow_move rfl ?_)
  refine ops_cons rfl (ow_assign rfl ?_)
  refine ops_cons rfl (ow_assign rfl ?_)
  refine ops_nil ?_
  refine c_ret ?_
  refine fin_ret2 rfl rfl rfl ?_
  · skip
    first
    | (have e : resN xs n = ([], 1) := by rw [resN, if_neg (by simp [hT])]
       rw [e]; exact ⟨none, 0, rfl, Own.nil_ _ _ _ _, X⟩)
    | (have e : resN xs n = (ys, 0) := by rw [resN, if_pos hT, hi, drop_end hk]; simp [idxS]
       rw [e, ← hn]; exact ⟨A1, c1, rfl, oO, X⟩)
  replace hs := hs.ext x1
  replace X := Ext.trans X x1; clear x1
  refine ops_cons rfl (ow_not rfl ?_)
  refine ops_nil ?_
  refine c_true rfl ?_
  refine c_seqR ?_
  refine ops_cons rfl (ow_assign rfl ?_)
  refine ops_cons rfl (ow_assign rfl ?_)
  refine ops_nil ?_
  refine c_ret ?_
  refine tq_r ?_
  refine fin_ret2 rfl rfl rfl ?_
  · skip
    first
    | (have e : resN xs n = ([], 1) := by rw [resN, if_neg (by simp [hT])]
       rw [e]; exact ⟨none, 0, rfl, Own.nil_ _ _ _ _, X⟩)
    | (have e : resN xs n = (ys, 0) := by rw [resN, if_pos hT, hi, drop_end hk]; simp [idxS]
       rw [e, ← hn]; exact ⟨A1, c1, rfl, oO, X⟩)
end Go.Proofs.Ytdoibplhbdkapaa
