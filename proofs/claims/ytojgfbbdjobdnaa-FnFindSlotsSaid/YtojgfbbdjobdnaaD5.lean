/- The slots of a node. No condition. -/
import Derived.Test.YtojgfbbdjobdnaaD2
namespace Go.Proofs.Ytojgfbbdjobdnaa
open Go.RowKit
set_option linter.unusedVariables false
set_option linter.unusedSimpArgs false
set_option maxRecDepth 20000
def idxS (n : Int) (k : Nat) : List SlotI → List Int
  | [] => []
  | x :: r => if x.desc.node = n then (k : Int) :: idxS n (k + 1) r else idxS n (k + 1) r
def resN (xs : List SlotI) (n : Int) : List Int × Int := if isST xs = true then (idxS n 0 xs, 0) else ([], 1)
theorem idxS_len (n : Int) : ∀ (xs : List SlotI) (k : Nat), (idxS n k xs).length ≤ xs.length
  | [], k => by simp [idxS]
  | x :: r, k => by
    have := idxS_len n r (k + 1)
    rw [idxS]; split <;> simp <;> omega
theorem resN_len (xs : List SlotI) (n : Int) (h : xs.length ≤ 1048576) : (resN xs n).1.length ≤ 1048576 := by
  unfold resN
  split
  · have := idxS_len n xs 0; dsimp only; omega
  · simp
theorem sNodes_c (A : Option Addr) (B c : Nat) (xs : List SlotI) (n : Int) (w : World) (hs : Sl B w A (xs.flatMap SlotI.cells)) (hl : xs.length ≤ 1048576) :
    Calls Try.prog 23 #[.slice A xs.length c, .int .i64 n] w (Ret fun v w' => ∃ A' c', v = .tuple #[.slice A' (resN xs n).1.length c', .int .i64 (resN xs n).2] ∧ Own w' w.heap.size 2 1 A' (resN xs n).1.length c' ((resN xs n).1.flatMap eI) ∧ Ext w w') := by
  have Bhs := hs.1
  have X := Ext.refl w
  refine calls_of (args := [.slice A xs.length c, .int .i64 n]) Try.func23 Try.ntmps23 rfl rfl ?_
  refine c_seqR ?_
  refine ops_cons rfl (ow_assign rfl ?_)
  refine ops_cons rfl (ow_assign rfl ?_)
  refine ops_nil ?_
  refine c_seq ?_
  refine c_seqR ?_
  refine ops_cons rfl (ow_move rfl ?_)
  refine ops_cons rfl (ow_callB ent32 rfl (sIsST_c _ _ _ _ _ hs hl) (fun w2 hT x1 => ?_) (fun w2 hT x1 => ?_))
  · skip
    replace hs := hs.ext x1
    replace X := Ext.trans X x1; clear x1
    refine ops_cons rfl (ow_not rfl ?_)
    refine ops_nil ?_
    refine c_false rfl ?_
    refine c_skip ?_
    refine tq_n ?_
    refine c_seqR ?_
    refine ops_cons rfl (ow_buildSlice el26 ti2 rfl rfl rfl rfl rfl ?_)
    intro gO w4 egO oO bbgO x3 zgO
    replace oO := Own.low oO X.size
    replace hs := hs.ext x3
    replace X := Ext.trans X x3; clear x3
    refine ops_cons rfl (ow_assign rfl ?_)
    refine ops_nil ?_
    refine c_seq ?_
    refine c_seqR ?_
    refine ops_cons rfl (ow_assign rfl ?_)
    refine ops_nil ?_
    refine c_block ?_
    refine c_loop (G := Nat × Nat × List Int × Option Addr × Nat) (fun ⟨k, n1, ys, A1, c1⟩ => [(0, .slice A xs.length c), (1, .int .i64 n), (4, .slice none 0 0), (5, .int .i64 0), (6, .slice A1 n1 c1), (7, .int .i64 (k : Nat))]) (fun ⟨k, n1, ys, A1, c1⟩ wr => k ≤ xs.length ∧ n1 = ys.length ∧ n1 ≤ k ∧ idxS n 0 xs = ys ++ idxS n k (xs.drop k) ∧ Own wr w.heap.size 2 1 A1 n1 c1 (ys.flatMap eI) ∧ Sl B wr A (xs.flatMap SlotI.cells) ∧ Ext w wr) (fun ⟨k, n1, ys, A1, c1⟩ => xs.length - k) (0, 0, [], some ⟨gO, 0, none⟩, 0) (.cons rfl (.cons rfl (.cons rfl (.cons rfl (.cons rfl (.cons rfl (.nil _))))))) ?_ ?_
    · exact ⟨by omega, rfl, by omega, rfl, oO, hs, X⟩
    clear hs oO
    clear X
    rintro ⟨k, n1, ys, A1, c1⟩ wr ⟨hk0, hn, hn1, hi, oO, hs, X⟩
    refine c_seq ?_
    refine c_seqR ?_
    refine ops_cons rfl (ow_move rfl ?_)
    refine ops_cons rfl (ow_move rfl ?_)
    refine ops_cons rfl (ow_len Try.underlying35 rfl ?_)
    refine ops_cons rfl (ow_lss2 rfl rfl (fun hk => ?_) (fun hk => ?_))
    · skip
      obtain ⟨x, hx, dx⟩ := drop_at' hk
      refine ops_nil ?_
      refine c_true rfl ?_
      refine c_skip ?_
      refine tq_n ?_
      refine c_seq ?_
      refine c_block ?_
      refine c_seqR ?_
      refine ops_cons rfl (ow_move rfl ?_)
      refine ops_cons rfl (ow_move rfl ?_)
      refine ops_cons rfl (ow_indexT hs SlotI.len rfl el35 rfl rfl rfl hx rfl ?_)
      refine ops_cons rfl (ow_fieldAddr off46_3 rfl ?_)
      refine ops_cons rfl (ow_fieldAddr off39_0 rfl ?_)
      refine ops_cons rfl (ow_loadTFF hs SlotI.len hx ti2 rfl rfl rfl ?_)
      refine ops_cons rfl (ow_move rfl ?_)
      refine ops_cons rfl (ow_eql2 rfl rfl (fun h5 => ?_) (fun h5 => ?_))
      · skip
        refine ops_nil ?_
        refine c_true rfl ?_
        refine c_region ?_
        refine ops_cons rfl (ow_move rfl ?_)
        refine ops_cons rfl (ow_move rfl ?_)
        refine ops_cons rfl (ow_buildSlice el26 ti2 rfl rfl rfl rfl rfl ?_)
        intro g7 w9 eg7 o6 bbg7 x8 zg7
        replace o6 := Own.low o6 X.size
        replace oO := oO.ext x8
        replace hs := hs.ext x8
        replace X := Ext.trans X x8; clear x8
        refine ops_cons rfl (ow_append (ts := #[]) oO X.size o6.sl (by first | rfl | simp) (by first | exact List.all_eq_true.1 rfl | simp [Value.oneCell']) el26 ti2 rfl rfl rfl rfl (by omega) (by omega) ?_)
        intro AoN coN w11 oN hg10
        replace hs := hs.grown hg10 (fun g hg => Nat.le_trans Bhs (Own.lt oO hg).1)
        replace X := X.grown hg10 X.size (fun g hg => (Own.lt oO hg).1)
        clear hg10
        refine ops_cons rfl (ow_assign rfl ?_)
        refine ops_nil ?_
        refine bq_n ?_
        refine tq_n ?_
        refine c_region ?_
        refine ops_cons rfl (ow_move rfl ?_)
        refine ops_cons rfl (ow_add rfl rfl (w64 (by omega)) ?_)
        refine ops_cons rfl (ow_assign rfl ?_)
        refine ops_nil ?_
        refine tq_n ⟨(k + 1, n1 + 1, ys ++ [(k : Int)], AoN, coN), (.cons rfl (.cons rfl (.cons rfl (.cons rfl (.cons rfl (.cons rfl (.nil _))))))), ?_, ?_⟩
        · exact ⟨by omega, by simp [hn], by omega, (by rw [hi, dx, idxS, if_pos ‹_›]; simp), oN.to (snoc eI ys _).symm, hs, X⟩
        · first | omega | (dsimp only; omega)
      · skip
        refine ops_nil ?_
        refine c_false rfl ?_
        refine c_skip ?_
        refine bq_n ?_
        refine tq_n ?_
        refine c_region ?_
        refine ops_cons rfl (ow_move rfl ?_)
        refine ops_cons rfl (ow_add rfl rfl (w64 (by omega)) ?_)
        refine ops_cons rfl (ow_assign rfl ?_)
        refine ops_nil ?_
        refine tq_n ⟨(k + 1, n1, ys, A1, c1), (.cons rfl (.cons rfl (.cons rfl (.cons rfl (.cons rfl (.cons rfl (.nil _))))))), ?_, ?_⟩
        · exact ⟨by omega, hn, by omega, (by rw [hi, dx, idxS, if_neg ‹_›]), oO, hs, X⟩
        · first | omega | (dsimp only; omega)
    · skip
      refine ops_nil ?_
      refine c_false rfl ?_
      refine c_exit ?_
      refine tq_e ?_
      refine tq_e ?_
      refine bq_e ?_
      refine tq_n ?_
      refine c_seqR ?_
      refine ops_cons rfl (ow_move rfl ?_)
      refine ops_cons rfl (ow_assign rfl ?_)
      refine ops_cons rfl (ow_assign rfl ?_)
      refine ops_nil ?_
      refine c_ret ?_
      refine fin_ret2 rfl rfl rfl ?_
      first
      | (have e : resN xs n = ([], 1) := by rw [resN, if_neg (by simp [hT])]
         rw [e]; exact ⟨none, 0, rfl, Own.nil_ _ _ _ _, X⟩)
      | (have e : resN xs n = (ys, 0) := by rw [resN, if_pos hT, hi, drop_end hk]; simp [idxS]
         rw [e, ← hn]; exact ⟨A1, c1, rfl, oO, X⟩)
  · skip
    replace hs := hs.ext x1
    replace X := Ext.trans X x1; clear x1
    refine ops_cons rfl (ow_not rfl ?_)
    refine ops_nil ?_
    refine c_true rfl ?_
    refine c_seqR ?_
    refine ops_cons rfl (ow_assign rfl ?_)
    refine ops_cons rfl (ow_assign rfl ?_)
    refine ops_nil ?_
    refine c_ret ?_
    refine tq_r ?_
    refine fin_ret2 rfl rfl rfl ?_
    first
    | (have e : resN xs n = ([], 1) := by rw [resN, if_neg (by simp [hT])]
       rw [e]; exact ⟨none, 0, rfl, Own.nil_ _ _ _ _, X⟩)
    | (have e : resN xs n = (ys, 0) := by rw [resN, if_pos hT, hi, drop_end hk]; simp [idxS]
       rw [e, ← hn]; exact ⟨A1, c1, rfl, oO, X⟩)

theorem iNodes_c (A : Option Addr) (B c : Nat) (xs : List SlotI) (n : Int) (w : World) (hs : Sl B w A (xs.flatMap SlotI.cells)) (hl : xs.length ≤ 1048576) :
    Calls Try.prog 22 #[.slice A xs.length c, .int .i64 n] w (Ret fun v w' => ∃ A' c', v = .tuple #[.slice A' (resN xs n).1.length c', .int .i64 (resN xs n).2] ∧ Own w' w.heap.size 2 1 A' (resN xs n).1.length c' ((resN xs n).1.flatMap eI) ∧ Ext w w') := by
  have Bhs := hs.1
  have X := Ext.refl w
  refine calls_of (args := [.slice A xs.length c, .int .i64 n]) Try.func22 Try.ntmps22 rfl rfl ?_
  refine c_seqR ?_
  refine ops_cons rfl (ow_assign rfl ?_)
  refine ops_cons rfl (ow_assign rfl ?_)
  refine ops_nil ?_
  refine c_seq ?_
  refine c_seqR ?_
  refine ops_cons rfl (ow_move rfl ?_)
  refine ops_cons rfl (ow_callB ent31 rfl (iIsST_c _ _ _ _ _ hs hl) (fun w2 hT x1 => ?_) (fun w2 hT x1 => ?_))
  · skip
    replace hs := hs.ext x1
    replace X := Ext.trans X x1; clear x1
    refine ops_cons rfl (ow_not rfl ?_)
    refine ops_nil ?_
    refine c_false rfl ?_
    refine c_skip ?_
    refine tq_n ?_
    refine c_seqR ?_
    refine ops_cons rfl (ow_buildSlice el26 ti2 rfl rfl rfl rfl rfl ?_)
    intro gO w4 egO oO bbgO x3 zgO
    replace oO := Own.low oO X.size
    replace hs := hs.ext x3
    replace X := Ext.trans X x3; clear x3
    refine ops_cons rfl (ow_assign rfl ?_)
    refine ops_nil ?_
    refine c_seq ?_
    refine c_seqR ?_
    refine ops_cons rfl (ow_move rfl ?_)
    refine ops_cons rfl (ow_len Try.underlying35 rfl ?_)
    refine ops_cons rfl (ow_move rfl ?_)
    refine ops_nil ?_
    refine c_block ?_
    refine c_loop (G := Nat × Nat × List Int × Option Addr × Nat) (fun ⟨k, n1, ys, A1, c1⟩ => [(1, .int .i64 n), (4, .slice none 0 0), (5, .int .i64 0), (13, .slice A xs.length c), (14, .int .i64 (xs.length : Nat)), (6, .slice A1 n1 c1), (15, .int .i64 (k : Nat))]) (fun ⟨k, n1, ys, A1, c1⟩ wr => k ≤ xs.length ∧ n1 = ys.length ∧ n1 ≤ k ∧ idxS n 0 xs = ys ++ idxS n k (xs.drop k) ∧ Own wr w.heap.size 2 1 A1 n1 c1 (ys.flatMap eI) ∧ Sl B wr A (xs.flatMap SlotI.cells) ∧ Ext w wr) (fun ⟨k, n1, ys, A1, c1⟩ => xs.length - k) (0, 0, [], some ⟨gO, 0, none⟩, 0) (.cons rfl (.cons rfl (.cons rfl (.cons rfl (.cons rfl (.cons rfl (.cons rfl (.nil _)))))))) ?_ ?_
    · exact ⟨by omega, rfl, by omega, rfl, oO, hs, X⟩
    clear hs oO
    clear X
    rintro ⟨k, n1, ys, A1, c1⟩ wr ⟨hk0, hn, hn1, hi, oO, hs, X⟩
    refine c_seqR ?_
    refine ops_cons rfl (ow_lss2 rfl rfl (fun hk => ?_) (fun hk => ?_))
    · skip
      obtain ⟨x, hx, dx⟩ := drop_at' hk
      refine ops_nil ?_
      refine c_seq ?_
      refine c_true rfl ?_
      refine c_skip ?_
      refine tq_n ?_
      refine c_seq ?_
      refine c_block ?_
      refine c_seqR ?_
      refine ops_cons rfl (ow_move rfl ?_)
      refine ops_cons rfl (ow_indexT hs SlotI.len rfl el35 rfl rfl rfl hx rfl ?_)
      refine ops_cons rfl (ow_loadTA hs SlotI.len hx ti46 rfl ?_)
      refine ops_cons rfl (ow_alloc ti46 ?_)
      intro g8 w7 eg8 b5 x6 zg8
      have lg8 : w.heap.size ≤ g8 := Nat.le_trans X.size (Nat.le_of_eq eg8.symm)
      have pg8hs := Nat.le_trans hs.1 (Nat.le_of_eq eg8.symm)
      replace oO := oO.ext x6
      replace hs := hs.ext x6
      replace X := Ext.trans X x6; clear x6
      refine ops_cons rfl (ow_assign rfl ?_)
      refine ops_cons rfl (ow_storeB b5 ti46 rfl rfl rfl rfl rfl rfl ?_)
      intro w10 b12 hg9 z11
      replace oO := oO.grownBlk hg9 (Own.neT oO b5 (by decide))
      replace hs := hs.grown hg9 (by intro g hg; injection hg; omega)
      replace X := X.grown hg9 X.size (by intro g hg; injection hg; omega)
      clear hg9 b5
      refine ops_nil ?_
      refine c_seqR ?_
      refine ops_cons rfl (ow_fieldAddrB off46_3 rfl rfl ?_)
      refine ops_cons rfl (ow_fieldAddrB off39_0 rfl rfl ?_)
      refine ops_cons rfl (ow_loadB b12 ti2 rfl rfl ?_)
      refine ops_cons rfl (ow_move rfl ?_)
      refine ops_cons rfl (ow_eql2 rfl rfl (fun h13 => ?_) (fun h13 => ?_))
      · skip
        refine ops_nil ?_
        refine c_true rfl ?_
        refine c_region ?_
        refine ops_cons rfl (ow_move rfl ?_)
        refine ops_cons rfl (ow_move rfl ?_)
        refine ops_cons rfl (ow_buildSlice el26 ti2 rfl rfl rfl rfl rfl ?_)
        intro g15 w17 eg15 o14 bbg15 x16 zg15
        replace o14 := Own.low o14 X.size
        replace oO := oO.ext x16
        replace hs := hs.ext x16
        replace b12 := b12.ext x16
        replace X := Ext.trans X x16; clear x16
        refine ops_cons rfl (ow_append (ts := #[]) oO X.size o14.sl (by first | rfl | simp) (by first | exact List.all_eq_true.1 rfl | simp [Value.oneCell']) el26 ti2 rfl rfl rfl rfl (by omega) (by omega) ?_)
        intro AoN coN w19 oN hg18
        replace hs := hs.grown hg18 (fun g hg => Nat.le_trans Bhs (Own.lt oO hg).1)
        replace b12 := b12.grown hg18 (fun h => Own.neT oO b12 (by decide) h.symm)
        replace X := X.grown hg18 X.size (fun g hg => (Own.lt oO hg).1)
        clear hg18
        refine ops_cons rfl (ow_assign rfl ?_)
        refine ops_nil ?_
        refine bq_n ?_
        refine tq_n ?_
        refine c_region ?_
        refine ops_cons rfl (ow_add rfl rfl (w64 (by omega)) ?_)
        refine ops_cons rfl (ow_move rfl ?_)
        refine ops_nil ?_
        refine tq_n ⟨(k + 1, n1 + 1, ys ++ [(k : Int)], AoN, coN), (.cons rfl (.cons rfl (.cons rfl (.cons rfl (.cons rfl (.cons rfl (.cons rfl (.nil _)))))))), ?_, ?_⟩
        · exact ⟨by omega, by simp [hn], by omega, (by rw [hi, dx, idxS, if_pos ‹_›]; simp), oN.to (snoc eI ys _).symm, hs, X⟩
        · first | omega | (dsimp only; omega)
      · skip
        refine ops_nil ?_
        refine c_false rfl ?_
        refine c_skip ?_
        refine bq_n ?_
        refine tq_n ?_
        refine c_region ?_
        refine ops_cons rfl (ow_add rfl rfl (w64 (by omega)) ?_)
        refine ops_cons rfl (ow_move rfl ?_)
        refine ops_nil ?_
        refine tq_n ⟨(k + 1, n1, ys, A1, c1), (.cons rfl (.cons rfl (.cons rfl (.cons rfl (.cons rfl (.cons rfl (.cons rfl (.nil _)))))))), ?_, ?_⟩
        · exact ⟨by omega, hn, by omega, (by rw [hi, dx, idxS, if_neg ‹_›]), oO, hs, X⟩
        · first | omega | (dsimp only; omega)
    · skip
      refine ops_nil ?_
      refine c_seq ?_
      refine c_false rfl ?_
      refine c_exit ?_
      refine tq_e ?_
      refine tq_e ?_
      refine bq_e ?_
      refine tq_n ?_
      refine c_seqR ?_
      refine ops_cons rfl (ow_move rfl ?_)
      refine ops_cons rfl (ow_assign rfl ?_)
      refine ops_cons rfl (ow_assign rfl ?_)
      refine ops_nil ?_
      refine c_ret ?_
      refine fin_ret2 rfl rfl rfl ?_
      first
      | (have e : resN xs n = ([], 1) := by rw [resN, if_neg (by simp [hT])]
         rw [e]; exact ⟨none, 0, rfl, Own.nil_ _ _ _ _, X⟩)
      | (have e : resN xs n = (ys, 0) := by rw [resN, if_pos hT, hi, drop_end hk]; simp [idxS]
         rw [e, ← hn]; exact ⟨A1, c1, rfl, oO, X⟩)
  · skip
    replace hs := hs.ext x1
    replace X := Ext.trans X x1; clear x1
    refine ops_cons rfl (ow_not rfl ?_)
    refine ops_nil ?_
    refine c_true rfl ?_
    refine c_seqR ?_
    refine ops_cons rfl (ow_assign rfl ?_)
    refine ops_cons rfl (ow_assign rfl ?_)
    refine ops_nil ?_
    refine c_ret ?_
    refine tq_r ?_
    refine fin_ret2 rfl rfl rfl ?_
    first
    | (have e : resN xs n = ([], 1) := by rw [resN, if_neg (by simp [hT])]
       rw [e]; exact ⟨none, 0, rfl, Own.nil_ _ _ _ _, X⟩)
    | (have e : resN xs n = (ys, 0) := by rw [resN, if_pos hT, hi, drop_end hk]; simp [idxS]
       rw [e, ← hn]; exact ⟨A1, c1, rfl, oO, X⟩)
end Go.Proofs.Ytojgfbbdjobdnaa
