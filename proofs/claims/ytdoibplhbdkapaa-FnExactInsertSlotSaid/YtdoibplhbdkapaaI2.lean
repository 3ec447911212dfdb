/- A slot put into a row. No condition. -/
import Derived.Test.YtdoibplhbdkapaaI1
import Derived.Test.YtdoibplhbdkapaaFlowV
import Derived.Test.YtdoibplhbdkapaaFlowI
namespace Go.Proofs.Ytdoibplhbdkapaa
open Go.RowKit
set_option linter.unusedVariables false
set_option linter.unusedSimpArgs false
set_option maxRecDepth 20000
theorem one_SlotI (xs : List SlotI) : ∀ u ∈ xs.flatMap SlotI.cells, u.oneCell' = true := fun u hu => by
  obtain ⟨x, _, h⟩ := List.mem_flatMap.1 hu
  simp only [SlotI.cells, Desc.cells, List.mem_cons, List.mem_append, List.not_mem_nil, or_false, List.cons_append, List.nil_append] at h
  rcases h with rfl | rfl | rfl | rfl | rfl | rfl | rfl | rfl <;> rfl
theorem snoc_ins (L G : List SlotI) (x y : SlotI) : (L ++ x :: (G ++ [y])).flatMap SlotI.cells = (L ++ x :: G).flatMap SlotI.cells ++ y.cells := by
  simp only [List.flatMap_append, List.flatMap_cons, List.flatMap_nil, List.append_nil, List.append_assoc]
theorem one_cells (x : SlotI) : ∀ u ∈ x.cells, u.oneCell' = true := fun u hu => one_SlotI [x] u (by simpa using hu)
theorem ins_flat (xs : List SlotI) (x : SlotI) (i : Nat) : (insL xs x i).flatMap SlotI.cells = (xs.flatMap SlotI.cells).take (i * 8) ++ x.cells ++ (xs.flatMap SlotI.cells).drop (i * 8) := by
  rw [insL, List.flatMap_append, List.flatMap_cons, flat_take SlotI.len, flat_drop SlotI.len, List.append_assoc]
theorem one_part (xs : List SlotI) (ex : List Value) (a m : Nat) {i : Nat} (hi : i ≤ xs.length) (he : ex.length = 8) (e1 : a = i * 8 := by rfl) (e2 : m = (xs.length - i) * 8 := by rfl) : ∀ u ∈ ((xs.flatMap SlotI.cells ++ ex).drop a).take m, u.oneCell' = true := fun u hu => by
  subst e1; subst e2
  rw [List.drop_append_of_le_length (by rw [flat_len SlotI.len]; omega), List.take_append_of_le_length (by rw [List.length_drop, flat_len SlotI.len]; omega)] at hu
  exact one_SlotI xs u (List.mem_of_mem_drop (List.mem_of_mem_take hu))
theorem cloneSlotI_c (A : Option Addr) (B c : Nat) (xs : List SlotI) (w : World) (hs : Sl B w A (xs.flatMap SlotI.cells)) (hl : xs.length ≤ 1048576) :
    Calls Try.prog 59 #[.slice A xs.length c] w (Ret fun v w' => ∃ A' c', v = .slice A' xs.length c' ∧ Own w' w.heap.size 49 8 A' xs.length c' (xs.flatMap SlotI.cells) ∧ Ext w w') := by
  have Bhs := hs.1
  have X := Ext.refl w
  refine calls_of (args := [.slice A xs.length c]) Try.func59 Try.ntmps59 rfl rfl ?_
  refine c_seqR ?_
  refine ops_cons rfl (ow_assign rfl ?_)
  refine ops_nil ?_
  refine c_seq ?_
  refine c_seqR ?_
  refine ops_cons rfl (ow_move rfl ?_)
  refine ops_cons rfl (ow_eqlN2 Try.underlying43 rfl rfl (fun hA => ?_) (fun hA => ?_))
  refine ops_nil ?_
  refine c_true rfl ?_
  refine c_seqR ?_
  refine ops_cons rfl (ow_assign rfl ?_)
  refine ops_nil ?_
  refine c_ret ?_
  refine tq_r ?_
  refine fin_ret1 rfl rfl ?_
  · skip
    first
    | (subst hA
       have e := hs.none_nil SlotI.len (by omega)
       subst e; exact ⟨none, 0, rfl, Own.nil_ _ _ _ _, X⟩)
    | (rw [Nat.zero_add] at oN; exact ⟨_, _, by rw [Nat.zero_add], oN, X⟩)
  refine ops_nil ?_
  refine c_false rfl ?_
  refine c_skip ?_
  refine tq_n ?_
  refine c_seqR ?_
  refine ops_cons rfl (ow_buildSlice el43 ti49 rfl rfl rfl rfl rfl ?_)
  intro gO w2 egO oO bbgO x1 zgO
  replace oO := Own.low oO X.size
  replace hs := hs.ext x1
  replace X := Ext.trans X x1; clear x1
  refine ops_cons rfl (ow_move rfl ?_)
  refine ops_cons rfl (ow_append (ts := #[]) oO X.size hs (flat_len SlotI.len xs) (one_SlotI xs) el43 ti49 rfl rfl rfl rfl (by omega) (by omega) ?_)
  intro AoN coN w4 oN hg3
  replace hs := hs.grown hg3 (fun g hg => Nat.le_trans Bhs (Own.lt oO hg).1)
  replace X := X.grown hg3 X.size (fun g hg => (Own.lt oO hg).1)
  clear hg3
  refine ops_cons rfl (ow_assign rfl ?_)
  refine ops_nil ?_
  refine c_ret ?_
  refine fin_ret1 rfl rfl ?_
  · skip
    first
    | (subst hA
       have e := hs.none_nil SlotI.len (by omega)
       subst e; exact ⟨none, 0, rfl, Own.nil_ _ _ _ _, X⟩)
    | (rw [Nat.zero_add] at oN; exact ⟨_, _, by rw [Nat.zero_add], oN, X⟩)

theorem insert_c (A : Option Addr) (lo c i gv cv lv : Nat) (xs : List SlotI) (x : SlotI) (w : World) (oA : Own w lo 49 8 A xs.length c (xs.flatMap SlotI.cells)) (oV : Own w lv 49 8 (some ⟨gv, 0, none⟩) 1 cv x.cells) (hne : ((Value.slice A xs.length c).ownBlock) ≠ some gv) (hi : i ≤ xs.length) (hl : xs.length ≤ 120) (hlo : lo ≤ w.heap.size) :
    Calls Try.prog 58 #[.slice A xs.length c, .int .i64 (i : Nat), .slice (some ⟨gv, 0, none⟩) 1 cv] w (Ret fun v w' => ∃ A' c', v = .slice A' (xs.length + 1) c' ∧ Own w' lo 49 8 A' (xs.length + 1) c' ((insL xs x i).flatMap SlotI.cells) ∧ w.grownBy w' ((Value.slice A xs.length c).ownBlock)) := by
  have hnc := oA.cap
  have X := gb_refl w ((Value.slice A xs.length c).ownBlock)
  refine calls_of (args := [.slice A xs.length c, .int .i64 (i : Nat), .slice (some ⟨gv, 0, none⟩) 1 cv]) Try.func58 Try.ntmps58 rfl rfl ?_
  refine c_seqR ?_
  refine ops_cons rfl (ow_assign rfl ?_)
  refine ops_nil ?_
  refine c_seqR ?_
  refine ops_cons rfl (ow_move rfl ?_)
  refine ops_cons rfl (ow_move rfl ?_)
  refine ops_cons rfl (ow_sliceL el43 oA.sl SlotI.len rfl rfl rfl rfl hi oA.cap ?_)
  intro A1 p1; clear p1
  refine ops_nil ?_
  refine c_seqR ?_
  refine ops_cons rfl (ow_move rfl ?_)
  refine ops_cons rfl (ow_len Try.underlying43 rfl ?_)
  refine ops_cons rfl (ow_assign rfl ?_)
  refine ops_nil ?_
  refine c_seq ?_
  refine c_seqR ?_
  refine ops_cons rfl (ow_move rfl ?_)
  refine ops_cons rfl (ow_eql2 rfl rfl (fun h1 => absurd h1 (by omega)) (fun h1 => ?_))
  refine ops_nil ?_
  refine c_false rfl ?_
  refine c_skip ?_
  refine tq_n ?_
  refine c_seqR ?_
  refine ops_cons rfl (ow_move rfl ?_)
  refine ops_cons rfl (ow_len Try.underlying43 rfl ?_)
  refine ops_cons rfl (ow_assign rfl ?_)
  refine ops_nil ?_
  refine c_seq ?_
  refine c_seqR ?_
  refine ops_cons rfl (ow_move rfl ?_)
  refine ops_cons rfl (ow_move rfl ?_)
  refine ops_cons rfl (ow_eql2 rfl rfl (fun hin => ?_) (fun hin => ?_))
  refine ops_nil ?_
  refine c_true rfl ?_
  refine c_seqR ?_
  refine ops_cons rfl (ow_move rfl ?_)
  refine ops_cons rfl (ow_move rfl ?_)
  refine ops_cons rfl (ow_append (ts := #[]) oA (Nat.le_trans hlo X.size) oV.sl rfl (one_cells x) el43 ti49 rfl rfl rfl rfl (by omega) (by omega) ?_)
  intro A2 c2 w2 o2 hg2
  replace X := gb_trans X hg2
  refine ops_cons rfl (ow_assign rfl ?_)
  refine ops_nil ?_
  refine c_ret ?_
  refine tq_r ?_
  refine fin_ret1 rfl rfl ?_
  · skip
    have e : i = xs.length := by omega
    subst e
    exact ⟨_, _, rfl, o2.to (by rw [ins_flat, flat_take SlotI.len, flat_drop SlotI.len, List.take_length, List.drop_length]; simp), X⟩
  obtain ⟨gA, curA, rfl, _⟩ := oA.form (by omega)
  refine ops_nil ?_
  refine c_false rfl ?_
  refine c_skip ?_
  refine tq_n ?_
  refine c_seq ?_
  refine c_seqR ?_
  refine ops_cons rfl (ow_move rfl ?_)
  refine ops_cons rfl (ow_move rfl ?_)
  refine ops_cons rfl (ow_add rfl rfl (w64 (by omega)) ?_)
  refine ops_cons rfl (ow_move rfl ?_)
  refine ops_cons rfl (ow_cap Try.underlying43 rfl ?_)
  refine ops_cons rfl (ow_gtr2 rfl rfl (fun hcap => ?_) (fun hcap => ?_))
  refine ops_nil ?_
  refine c_true rfl ?_
  refine c_seqR ?_
  refine ops_cons rfl (ow_move rfl ?_)
  refine ops_cons rfl (ow_move rfl ?_)
  refine ops_cons rfl (ow_sliceHO (h := i) el43 rfl rfl rfl (by omega) ?_)
  refine ops_cons rfl (ow_move rfl ?_)
  refine ops_cons rfl (ow_move rfl ?_)
  refine ops_cons rfl (ow_add rfl rfl (w64 (by omega)) ?_)
  refine ops_cons rfl (ow_move rfl ?_)
  obtain ⟨m, hm⟩ : ∃ m, xs.length + 1 - i = m := ⟨_, rfl⟩
  refine ops_cons rfl (ow_sub rfl rfl (show IntKind.i64.wrap _ = ((m : Nat) : Int) from (w64 (by omega)).trans (by omega)) ?_)
  refine ops_cons rfl (ow_appendZS (k := m) (oA.pre hi) el43 Try.underlying3 ti49 rfl rfl rfl rfl rfl (by omega) (by omega) (by omega) (by omega) ?_)
  intro gN cN wN eN hcN oN xN
  have nA : ∀ g, (Value.slice (some ⟨gN, 0, none⟩) (i + m) cN).ownBlock = some g → (Value.slice (some ⟨gA, 0, none⟩) xs.length c).ownBlock ≠ some g := fun g hg h => absurd (Own.lt oA h).2 (Nat.not_lt.2 (Own.lt oN hg).1)
  have nV : ∀ g, (Value.slice (some ⟨gN, 0, none⟩) (i + m) cN).ownBlock = some g → (Value.slice (some ⟨gv, 0, none⟩) 1 cv).ownBlock ≠ some g := fun g hg h => absurd (Own.lt oV h).2 (Nat.not_lt.2 (Own.lt oN hg).1)
  have lN := X.size
  replace oA := oA.ext xN
  replace oV := oV.ext xN
  replace X := gb_ext X xN
  refine ops_cons rfl (ow_assign rfl ?_)
  refine ops_nil ?_
  refine c_seqR ?_
  refine ops_cons rfl (ow_move rfl ?_)
  refine ops_cons rfl (ow_move rfl ?_)
  refine ops_cons rfl (ow_sliceLG (g := gN) (l := i) el43 rfl rfl rfl (by omega) hcN ?_)
  refine ops_cons rfl (ow_move rfl ?_)
  refine ops_cons rfl (ow_copyS (g := gN) (o := i * 8) (k := 1) (aS := ⟨gv, 0, none⟩) (ds := x.cells) oN (fun j v h => (oV.sl.2 j v h).2.2) Try.underlying43 ti49 rfl rfl (by show 1 = min 1 (i + m - i); omega) rfl (by omega) (by omega) (one_cells x) ?_)
  intro wC oC hgC
  replace oA := oA.grown hgC nA
  replace X := gb_new X hgC (fun g hg => Nat.le_trans lN (Own.lt oN hg).1)
  refine ops_nil ?_
  refine c_seqD [false, false, false, false, false, false, false, false] mixed (by kernel_rfl) ?_
  refine f_q rfl (fun wq sq => ow_move rfl ⟨rfl, Ext.refl _⟩) ?_
  refine f_q rfl (fun wq sq => ow_move rfl ⟨rfl, Ext.refl _⟩) ?_
  refine f_q rfl (fun wq sq => ow_move rfl ⟨rfl, Ext.refl _⟩) ?_
  refine f_q rfl (fun wq sq => ow_add rfl rfl (w64 (by omega)) ⟨rfl, Ext.refl _⟩) ?_
  refine f_q rfl (fun wq sq => ow_sliceLG (g := gN) (l := i + 1) el43 rfl rfl (by omega) (by omega) hcN ⟨rfl, Ext.refl _⟩) ?_
  refine f_q rfl (fun wq sq => ow_move rfl ⟨rfl, Ext.refl _⟩) ?_
  refine f_q rfl (fun wq sq => ow_move rfl ⟨rfl, Ext.refl _⟩) ?_
  refine f_q rfl (fun wq sq => ow_sliceLG (g := gA) (l := i) el43 rfl rfl rfl (by omega) hnc ⟨rfl, Ext.refl _⟩) ?_
  refine f_nil (fun w2 sq => ?_)
  have xq := sq
  replace oA := oA.ext xq
  replace oC := oC.ext xq
  replace X := gb_ext X xq; clear xq sq
  refine ops_cons rfl (ow_copyS (g := gN) (o := (i + 1) * 8) (k := xs.length - i) (aS := ⟨gA, i * 8, none⟩) (ds := ((xs.flatMap SlotI.cells).drop (i * 8))) oC (own_src oA (drop_src _)) Try.underlying43 ti49 rfl rfl (by show xs.length - i = min (xs.length - i) (i + m - (i + 1)); omega) (by rw [List.length_drop, flat_len SlotI.len]; omega) (by omega) (by omega) (fun u hu => one_SlotI xs u (List.mem_of_mem_drop hu)) ?_)
  intro wF oF hgF
  replace X := gb_new X hgF (fun g hg => Nat.le_trans lN (Own.lt oC hg).1)
  refine ops_nil ?_
  refine c_seqR ?_
  refine ops_cons rfl (ow_move rfl ?_)
  refine ops_cons rfl (ow_assign rfl ?_)
  refine ops_nil ?_
  refine c_ret ?_
  refine tq_r ?_
  refine fin_ret1 rfl rfl ?_
  · skip
    have e : i + m = xs.length + 1 := by omega
    have hU : ((xs.flatMap SlotI.cells).take (i * 8)).length = i * 8 := by rw [List.length_take, flat_len SlotI.len]; omega
    have hD : ((xs.flatMap SlotI.cells).drop (i * 8)).length = (xs.length - i) * 8 := by rw [List.length_drop, flat_len SlotI.len]; omega
    refine ⟨some ⟨gN, 0, none⟩, cN, by rw [e], ?_, X⟩
    rw [← e, ins_flat]
    refine (oF.low (Nat.le_trans hlo lN)).to ?_
    have h := ins_fill (U := (xs.flatMap SlotI.cells).take (i * 8)) (X := x.cells) (D := (xs.flatMap SlotI.cells).drop (i * 8)) (a := i * 8) (b := 8) (Z := repL m (⟨0, 0, 0, ⟨0, 0, 0, 0, false⟩⟩ : SlotI).cells) hU rfl (by rw [repL_len, hD]; show m * 8 = 8 + (xs.length - i) * 8; omega)
    rw [hD] at h
    rw [show (i + 1) * 8 = i * 8 + 8 by omega, Nat.one_mul]; exact h
  refine ops_nil ?_
  refine c_false rfl ?_
  refine c_skip ?_
  refine tq_n ?_
  refine c_seqR ?_
  refine ops_cons rfl (ow_move rfl ?_)
  refine ops_cons rfl (ow_move rfl ?_)
  refine ops_cons rfl (ow_move rfl ?_)
  refine ops_cons rfl (ow_add rfl rfl (w64 (by omega)) ?_)
  refine ops_cons rfl (ow_sliceHO (h := xs.length + 1) el43 rfl rfl (by omega) (by omega) ?_)
  obtain ⟨ex, hex, oB⟩ := oA.longer (n' := xs.length + 1) (by omega) (by omega) (by omega)
  have hex8 : ex.length = 8 := by rw [hex]; omega
  have hUB : ((xs.flatMap SlotI.cells) ++ ex).length = i * 8 + (xs.length - i) * 8 + 8 := by rw [List.length_append, flat_len SlotI.len, hex8]; omega
  clear oA
  refine ops_cons rfl (ow_assign rfl ?_)
  refine ops_nil ?_
  refine c_seq ?_
  refine c_seqR ?_
  refine ops_cons rfl (ow_move rfl ?_)
  refine ops_cons rfl (ow_move rfl ?_)
  refine ops_cons rfl (ow_move rfl ?_)
  refine ops_cons rfl (ow_move rfl ?_)
  refine ops_cons rfl (ow_add rfl rfl (w64 (by omega)) ?_)
  refine ops_cons rfl (ow_sliceLG (g := gA) (l := i + 1) el43 rfl rfl (by omega) (by omega) (by omega) ?_)
  refine ops_cons rfl (ow_ext1 (overlaps_c (tR := 4) Try.func84 (by kernel_rfl) (by kernel_rfl) (by kernel_rfl) (by kernel_rfl) el43 oV (by omega) oB (by omega) (by omega) (fun h => hne (by rw [h]; rfl))) rfl ?_)
  refine ops_cons rfl (ow_not rfl ?_)
  refine ops_nil ?_
  refine c_true rfl ?_
  refine c_seqD [false, false, false, false, false, false, false, false] mixed (by kernel_rfl) ?_
  refine f_q rfl (fun wq sq => ow_move rfl ⟨rfl, Ext.refl _⟩) ?_
  refine f_q rfl (fun wq sq => ow_move rfl ⟨rfl, Ext.refl _⟩) ?_
  refine f_q rfl (fun wq sq => ow_move rfl ⟨rfl, Ext.refl _⟩) ?_
  refine f_q rfl (fun wq sq => ow_add rfl rfl (w64 (by omega)) ⟨rfl, Ext.refl _⟩) ?_
  refine f_q rfl (fun wq sq => ow_sliceLG (g := gA) (l := i + 1) el43 rfl rfl (by omega) (by omega) (by omega) ⟨rfl, Ext.refl _⟩) ?_
  refine f_q rfl (fun wq sq => ow_move rfl ⟨rfl, Ext.refl _⟩) ?_
  refine f_q rfl (fun wq sq => ow_move rfl ⟨rfl, Ext.refl _⟩) ?_
  refine f_q rfl (fun wq sq => ow_sliceLG (g := gA) (l := i) el43 rfl rfl rfl (by omega) (by omega) ⟨rfl, Ext.refl _⟩) ?_
  refine f_nil (fun w3 sq => ?_)
  have xq := sq
  replace oV := oV.ext xq
  replace oB := oB.ext xq
  replace X := gb_ext X xq; clear xq sq
  refine ops_cons rfl (ow_copyS (g := gA) (o := (i + 1) * 8) (k := xs.length - i) (aS := ⟨gA, i * 8, none⟩) (ds := ((((xs.flatMap SlotI.cells) ++ ex).drop (i * 8)).take ((xs.length - i) * 8))) oB (own_src oB (fun j v h => drop_src _ j v (by rw [List.getElem?_take] at h; split at h; exact h; cases h))) Try.underlying43 ti49 rfl rfl (by show xs.length - i = min (xs.length + 1 - i) (xs.length + 1 - (i + 1)); omega) (by rw [List.length_take, List.length_drop, hUB]; omega) (by omega) (by omega) (one_part xs ex _ _ hi hex8) ?_)
  intro wD oD hgD
  replace oV := oV.grown hgD (fun g hg h => hne (by have h1 : some gA = some g := hg; have h2 : some gv = some g := h; show some gA = some gv; rw [h1, h2]))
  replace X := gb_trans X hgD
  refine ops_nil ?_
  refine c_seqR ?_
  refine ops_cons rfl (ow_move rfl ?_)
  refine ops_cons rfl (ow_move rfl ?_)
  refine ops_cons rfl (ow_sliceLG (g := gA) (l := i) el43 rfl rfl rfl (by omega) (by omega) ?_)
  refine ops_cons rfl (ow_move rfl ?_)
  refine ops_cons rfl (ow_copyS (g := gA) (o := i * 8) (k := 1) (aS := ⟨gv, 0, none⟩) (ds := x.cells) oD (fun j v h => (oV.sl.2 j v h).2.2) Try.underlying43 ti49 rfl rfl (by show 1 = min 1 (xs.length + 1 - i); omega) rfl (by omega) (by omega) (one_cells x) ?_)
  intro wF oF hgF
  replace X := gb_trans X hgF
  refine ops_nil ?_
  refine c_seqR ?_
  refine ops_cons rfl (ow_move rfl ?_)
  refine ops_cons rfl (ow_assign rfl ?_)
  refine ops_nil ?_
  refine c_ret ?_
  refine tq_r ?_
  refine fin_ret1 rfl rfl ?_
  · skip
    refine ⟨_, _, rfl, ?_, X⟩
    have e1 : ((xs.flatMap SlotI.cells) ++ ex).take (i * 8) = (xs.flatMap SlotI.cells).take (i * 8) := List.take_append_of_le_length (by rw [flat_len SlotI.len]; omega)
    have e2 : (((xs.flatMap SlotI.cells) ++ ex).drop (i * 8)).take ((xs.length - i) * 8) = (xs.flatMap SlotI.cells).drop (i * 8) := by
      rw [List.drop_append_of_le_length (by rw [flat_len SlotI.len]; omega)]
      exact List.take_left' (by rw [List.length_drop, flat_len SlotI.len]; omega)
    rw [ins_flat, ← e1, ← e2]
    refine oF.to ?_
    have h := ins_shift (C := (xs.flatMap SlotI.cells) ++ ex) (X := x.cells) (a := i * 8) (b := 8) (m := (xs.length - i) * 8) hUB rfl
    rw [show (i + 1) * 8 = i * 8 + 8 by omega, Nat.one_mul]; exact h
end Go.Proofs.Ytdoibplhbdkapaa
