/- Reading by a cursor. No condition. -/
import Derived.Test.YtojgfbbdjobdnaaFlowT
import Derived.Test.YtojgfbbdjobdnaaMod10
namespace Go.Proofs.Ytojgfbbdjobdnaa
open Go.RowKit
set_option linter.unusedVariables false
set_option linter.unusedSimpArgs false
set_option maxRecDepth 20000
theorem l01In_c (a b c : Int) (w : World)  :
    Calls Try.prog 53 #[.int .i64 a, .int .i64 b, .int .i64 c] w (Ret fun v w' => v = .bool (inB a b c) ∧ Ext w w') := by
  have X := Ext.refl w
  refine calls_of (args := [.int .i64 a, .int .i64 b, .int .i64 c]) Try.func53 Try.ntmps53 rfl rfl ?_
  refine c_seqR ?_
  refine ops_cons rfl (ow_assign rfl ?_)
  refine ops_nil ?_
  refine c_seqR ?_
  refine ops_cons rfl (ow_move rfl ?_)
  refine ops_cons rfl (ow_move rfl ?_)
  refine ops_cons rfl (ow_geq2 rfl rfl (fun h1 => ?_) (fun h1 => ?_))
  · skip
    refine ops_cons rfl (ow_move rfl ?_)
    refine ops_want rfl rfl rfl (ow_move rfl ?_)
    refine ops_want rfl rfl rfl (ow_move rfl ?_)
    refine ops_want rfl rfl rfl (ow_leq rfl rfl ?_)
    refine ops_cons rfl (ow_pick rfl rfl ?_)
    refine ops_cons rfl (ow_assign rfl ?_)
    refine ops_nil ?_
    refine c_ret ?_
    refine fin_ret1 rfl rfl ?_
    exact ⟨by simp [inB, *], X⟩
  · skip
    refine ops_cons rfl (ow_move rfl ?_)
    refine ops_skip rfl rfl rfl rfl ?_
    refine ops_skip rfl rfl rfl rfl ?_
    refine ops_skip rfl rfl rfl rfl ?_
    refine ops_cons rfl (ow_pick rfl rfl ?_)
    refine ops_cons rfl (ow_assign rfl ?_)
    refine ops_nil ?_
    refine c_ret ?_
    refine fin_ret1 rfl rfl ?_
    exact ⟨by simp [inB, *], X⟩

theorem within_c (a b c : Int) (w : World)  :
    Calls Try.prog 50 #[.int .i64 a, .int .i64 b, .int .i64 c] w (Ret fun v w' => v = .bool (inB a b c) ∧ Ext w w') := by
  have X := Ext.refl w
  refine calls_of (args := [.int .i64 a, .int .i64 b, .int .i64 c]) Try.func50 Try.ntmps50 rfl rfl ?_
  refine c_seqR ?_
  refine ops_cons rfl (ow_assign rfl ?_)
  refine ops_nil ?_
  refine c_seqR ?_
  refine ops_cons rfl (ow_move rfl ?_)
  refine ops_cons rfl (ow_move rfl ?_)
  refine ops_cons rfl (ow_geq2 rfl rfl (fun h1 => ?_) (fun h1 => ?_))
  · skip
    refine ops_cons rfl (ow_move rfl ?_)
    refine ops_want rfl rfl rfl (ow_move rfl ?_)
    refine ops_want rfl rfl rfl (ow_move rfl ?_)
    refine ops_want rfl rfl rfl (ow_leq rfl rfl ?_)
    refine ops_cons rfl (ow_pick rfl rfl ?_)
    refine ops_cons rfl (ow_assign rfl ?_)
    refine ops_nil ?_
    refine c_ret ?_
    refine fin_ret1 rfl rfl ?_
    exact ⟨by simp [inB, *], X⟩
  · skip
    refine ops_cons rfl (ow_move rfl ?_)
    refine ops_skip rfl rfl rfl rfl ?_
    refine ops_skip rfl rfl rfl rfl ?_
    refine ops_skip rfl rfl rfl rfl ?_
    refine ops_cons rfl (ow_pick rfl rfl ?_)
    refine ops_cons rfl (ow_assign rfl ?_)
    refine ops_nil ?_
    refine c_ret ?_
    refine fin_ret1 rfl rfl ?_
    exact ⟨by simp [inB, *], X⟩

theorem l05Node_c (a : Int) (w : World)  :
    Calls Try.prog 97 #[.int .i64 a] w (Ret fun v w' => v = .bool (inB a 0 31) ∧ Ext w w') := by
  have X := Ext.refl w
  refine calls_of (args := [.int .i64 a]) Try.func97 Try.ntmps97 rfl rfl ?_
  refine c_seqR ?_
  refine ops_cons rfl (ow_assign rfl ?_)
  refine ops_nil ?_
  refine c_seqR ?_
  refine ops_cons rfl (ow_move rfl ?_)
  refine ops_cons rfl (ow_call ent53 rfl (ret_mono (l01In_c _ _ _ _) ?_))
  rintro _ w2 ⟨rfl, x1⟩
  replace X := Ext.trans X x1; clear x1
  refine ops_cons rfl (ow_assign rfl ?_)
  refine ops_nil ?_
  refine c_ret ?_
  refine fin_ret1 rfl rfl ?_
  exact ⟨by first | rfl | (simp [*]; done), X⟩

theorem isNode_c (a : Int) (w : World)  :
    Calls Try.prog 93 #[.int .i64 a] w (Ret fun v w' => v = .bool (inB a 0 31) ∧ Ext w w') := by
  have X := Ext.refl w
  refine calls_of (args := [.int .i64 a]) Try.func93 Try.ntmps93 rfl rfl ?_
  refine c_seqR ?_
  refine ops_cons rfl (ow_assign rfl ?_)
  refine ops_nil ?_
  refine c_seqR ?_
  refine ops_cons rfl (ow_move rfl ?_)
  refine ops_cons rfl (ow_call ent50 rfl (ret_mono (within_c _ _ _ _) ?_))
  rintro _ w2 ⟨rfl, x1⟩
  replace X := Ext.trans X x1; clear x1
  refine ops_cons rfl (ow_assign rfl ?_)
  refine ops_nil ?_
  refine c_ret ?_
  refine fin_ret1 rfl rfl ?_
  exact ⟨by first | rfl | (simp [*]; done), X⟩

theorem next_c (A : Option Addr) (B c : Nat) (xs : List Int) (gC a : Nat) (bad : Bool) (w : World) (q : Blk w gC 95 (curC A c xs a bad)) (hs : Sl B w A (xs.flatMap eI)) (hl : xs.length ≤ 1048576) (ha : a ≤ xs.length) (hB : B ≤ gC) :
    Calls Try.prog 73 #[.pointer (some ⟨gC, 0, none⟩)] w (Ret fun v w' => v = .int .i64 (nV xs a) ∧ Blk w' gC 95 (curC A c xs (nAt xs a) (nBad xs a bad)) ∧ w.grownBy w' (some gC)) := by
  have Bhs := hs.1
  have X := gb_refl w (some gC)
  refine calls_of (args := [.pointer (some ⟨gC, 0, none⟩)]) Try.func73 Try.ntmps73 rfl rfl ?_
  refine c_seqR ?_
  refine ops_cons rfl (ow_assign rfl ?_)
  refine ops_nil ?_
  refine c_seq ?_
  refine c_seqD [false, false, false, false, false, false, false, false, false, false] mixed (by kernel_rfl) ?_
  refine f_q rfl (fun wq sq => ow_move rfl ⟨rfl, Ext.refl _⟩) ?_
  refine f_q rfl (fun wq sq => ow_nilCheck rfl ⟨rfl, Ext.refl _⟩) ?_
  refine f_q rfl (fun wq sq => ow_fieldAddrB off95_1 rfl rfl ⟨rfl, Ext.refl _⟩) ?_
  refine f_q rfl (fun wq sq => ow_loadB (q.ext sq) ti3 rfl rfl ⟨rfl, Ext.refl _⟩) ?_
  refine f_q rfl (fun wq sq => ow_move rfl ⟨rfl, Ext.refl _⟩) ?_
  refine f_q rfl (fun wq sq => ow_nilCheck rfl ⟨rfl, Ext.refl _⟩) ?_
  refine f_q rfl (fun wq sq => ow_fieldAddrB off95_0 rfl rfl ⟨rfl, Ext.refl _⟩) ?_
  refine f_q rfl (fun wq sq => ow_loadB (q.ext sq) ti26 rfl rfl ⟨rfl, Ext.refl _⟩) ?_
  refine f_q rfl (fun wq sq => ow_len Try.underlying26 rfl ⟨rfl, Ext.refl _⟩) ?_
  refine f_qb rfl (fun wq sq => ow_eql rfl rfl ⟨rfl, Ext.refl _⟩) (fun he => ?_) (fun he => ?_)
  · skip
    refine f_nil (fun w1 sq => ?_)
    have xq := sq
    replace q := q.ext xq
    replace hs := hs.ext xq
    replace X := gb_ext X xq; clear xq sq
    refine ops_nil ?_
    refine c_true rfl ?_
    refine c_seqR ?_
    refine ops_cons rfl (ow_move rfl ?_)
    refine ops_cons rfl (ow_nilCheck rfl ?_)
    refine ops_cons rfl (ow_fieldAddrB off95_2 rfl rfl ?_)
    refine ops_cons rfl (ow_storeB q ti4 rfl rfl rfl rfl rfl rfl ?_)
    intro w3 q2 hg2 z4
    replace hs := hs.grown hg2 (by intro g hg; injection hg; omega)
    replace X : w.grownBy w3 (some gC) := by first | exact gb_trans X hg2 | exact gb_new X hg2 (by intro g hg; injection hg; omega)
    clear hg2 q
    refine ops_nil ?_
    refine c_seqR ?_
    refine ops_cons rfl (ow_assign rfl ?_)
    refine ops_nil ?_
    refine c_ret ?_
    refine tq_r ?_
    refine fin_ret1 rfl rfl ?_
    first
    | (have e1 : nV xs a = 0 := by unfold nV; rw [if_pos (by omega)]
       have e2 : nAt xs a = a := by unfold nAt; rw [if_pos (by omega)]
       have e3 : nBad xs a bad = true := by unfold nBad; rw [if_pos (by omega)]
       rw [e1, e2, e3]; exact ⟨rfl, q2, X⟩)
    | (have e1 : nV xs a = x := by unfold nV; rw [if_neg (by omega), List.getD_eq_getElem?_getD, hx]; rfl
       have e2 : nAt xs a = a + 1 := by unfold nAt; rw [if_neg (by omega)]
       have e3 : nBad xs a bad = bad := by unfold nBad; rw [if_neg (by omega)]
       rw [e1, e2, e3]; exact ⟨rfl, q2, X⟩)
  · skip
    obtain ⟨x, hx, dx⟩ := drop_at (xs := xs) (k := a) (by omega)
    refine f_nil (fun w5 sq => ?_)
    have xq := sq
    replace q := q.ext xq
    replace hs := hs.ext xq
    replace X := gb_ext X xq; clear xq sq
    refine ops_nil ?_
    refine c_false rfl ?_
    refine c_skip ?_
    refine tq_n ?_
    refine c_seqR ?_
    refine ops_cons rfl (ow_move rfl ?_)
    refine ops_cons rfl (ow_nilCheck rfl ?_)
    refine ops_cons rfl (ow_fieldAddrB off95_1 rfl rfl ?_)
    refine ops_cons rfl (ow_loadB q ti3 rfl rfl ?_)
    refine ops_cons rfl (ow_add rfl rfl (w64 (by omega)) ?_)
    refine ops_cons rfl (ow_nilCheck rfl ?_)
    refine ops_cons rfl (ow_fieldAddrB off95_1 rfl rfl ?_)
    refine ops_cons rfl (ow_storeB q ti3 rfl rfl rfl rfl rfl rfl ?_)
    intro w7 q2 hg6 z8
    replace hs := hs.grown hg6 (by intro g hg; injection hg; omega)
    replace X : w.grownBy w7 (some gC) := by first | exact gb_trans X hg6 | exact gb_new X hg6 (by intro g hg; injection hg; omega)
    clear hg6 q
    refine ops_nil ?_
    refine c_seqD [false, false, false, false, false, false, false, false, false, false, false, false] mixed (by kernel_rfl) ?_
    refine f_q rfl (fun wq sq => ow_move rfl ⟨rfl, Ext.refl _⟩) ?_
    refine f_q rfl (fun wq sq => ow_nilCheck rfl ⟨rfl, Ext.refl _⟩) ?_
    refine f_q rfl (fun wq sq => ow_fieldAddrB off95_0 rfl rfl ⟨rfl, Ext.refl _⟩) ?_
    refine f_q rfl (fun wq sq => ow_loadB (q2.ext sq) ti26 rfl rfl ⟨rfl, Ext.refl _⟩) ?_
    refine f_q rfl (fun wq sq => ow_move rfl ⟨rfl, Ext.refl _⟩) ?_
    refine f_q rfl (fun wq sq => ow_nilCheck rfl ⟨rfl, Ext.refl _⟩) ?_
    refine f_q rfl (fun wq sq => ow_fieldAddrB off95_1 rfl rfl ⟨rfl, Ext.refl _⟩) ?_
    refine f_q rfl (fun wq sq => ow_loadB (q2.ext sq) ti3 rfl rfl ⟨rfl, Ext.refl _⟩) ?_
    refine f_q rfl (fun wq sq => ow_sub rfl rfl (w64 (by omega)) ⟨rfl, Ext.refl _⟩) ?_
    refine f_q rfl (fun wq sq => ow_indexT (hs.ext sq) eI_len rfl el26 rfl rfl rfl hx (by omega) ⟨rfl, Ext.refl _⟩) ?_
    refine f_q rfl (fun wq sq => ow_loadT (hs.ext sq) eI_len hx ti2 rfl rfl rfl ⟨rfl, Ext.refl _⟩) ?_
    refine f_q rfl (fun wq sq => ow_assign rfl ⟨rfl, Ext.refl _⟩) ?_
    refine f_nil (fun w9 sq => ?_)
    have xq := sq
    replace hs := hs.ext xq
    replace q2 := q2.ext xq
    replace X := gb_ext X xq; clear xq sq
    refine ops_nil ?_
    refine c_ret ?_
    refine fin_ret1 rfl rfl ?_
    first
    | (have e1 : nV xs a = 0 := by unfold nV; rw [if_pos (by omega)]
       have e2 : nAt xs a = a := by unfold nAt; rw [if_pos (by omega)]
       have e3 : nBad xs a bad = true := by unfold nBad; rw [if_pos (by omega)]
       rw [e1, e2, e3]; exact ⟨rfl, q2, X⟩)
    | (have e1 : nV xs a = x := by unfold nV; rw [if_neg (by omega), List.getD_eq_getElem?_getD, hx]; rfl
       have e2 : nAt xs a = a + 1 := by unfold nAt; rw [if_neg (by omega)]
       have e3 : nBad xs a bad = bad := by unfold nBad; rw [if_neg (by omega)]
       rw [e1, e2, e3]; exact ⟨rfl, q2, X⟩)

theorem some_c (A : Option Addr) (B c : Nat) (xs : List Int) (gC a : Nat) (bad : Bool) (z : Int) (w : World) (q : Blk w gC 95 (curC A c xs a bad)) (hs : Sl B w A (xs.flatMap eI)) (hl : xs.length ≤ 1048576) (ha : a ≤ xs.length) (hB : B ≤ gC) (hz0 : 0 ≤ z ∧ z ≤ 1048576) :
    Calls Try.prog 74 #[.pointer (some ⟨gC, 0, none⟩), .int .i64 z] w (Ret fun v w' => ∃ A' c', v = .slice A' (someR xs z.toNat a bad).1.length c' ∧ Own w' w.heap.size 2 1 A' (someR xs z.toNat a bad).1.length c' ((someR xs z.toNat a bad).1.flatMap eI) ∧ Blk w' gC 95 (curC A c xs (someR xs z.toNat a bad).2.1 (someR xs z.toNat a bad).2.2) ∧ w.grownBy w' (some gC)) := by
  have Bhs := hs.1
  have X := gb_refl w (some gC)
  refine calls_of (args := [.pointer (some ⟨gC, 0, none⟩), .int .i64 z]) Try.func74 Try.ntmps74 rfl rfl ?_
  refine c_seqR ?_
  refine ops_cons rfl (ow_assign rfl ?_)
  refine ops_nil ?_
  refine c_seqR ?_
  refine ops_cons rfl (ow_buildSlice el26 ti2 rfl rfl rfl rfl rfl ?_)
  intro gO w2 egO oO bbgO x1 zgO
  replace oO := Own.low oO X.size
  replace q := q.ext x1
  replace hs := hs.ext x1
  replace X := gb_ext X x1; clear x1
  refine ops_cons rfl (ow_assign rfl ?_)
  refine ops_nil ?_
  refine c_seq ?_
  refine c_block ?_
  refine c_loop (G := Nat × List Int × Nat × Bool × Nat × Option Addr × Nat × Int) (fun ⟨k, ys, a1, b1, n1, A1, c1, tm⟩ => [(0, .pointer (some ⟨gC, 0, none⟩)), (4, .slice none 0 0), (1, .int .i64 tm), (5, .slice A1 n1 c1)]) (fun ⟨k, ys, a1, b1, n1, A1, c1, tm⟩ wr => k ≤ z.toNat ∧ tm = z - k ∧ a1 ≤ xs.length ∧ (n1 = ys.length ∧ n1 ≤ k) ∧ someR xs z.toNat a bad = (ys ++ (someR xs (z.toNat - k) a1 b1).1, (someR xs (z.toNat - k) a1 b1).2) ∧ Blk wr gC 95 (curC A c xs a1 b1) ∧ Own wr w.heap.size 2 1 A1 n1 c1 (ys.flatMap eI) ∧ Sl B wr A (xs.flatMap eI) ∧ w.grownBy wr (some gC)) (fun ⟨k, ys, a1, b1, n1, A1, c1, tm⟩ => z.toNat - k) (0, [], a, bad, 0, some ⟨gO, 0, none⟩, 0, z) (.cons rfl (.cons rfl (.cons rfl (.cons rfl (.nil _))))) ?_ ?_
  · exact ⟨by omega, by omega, ha, ⟨rfl, by omega⟩, rfl, q, oO, hs, X⟩
  clear q hs oO
  clear X
  rintro ⟨k, ys, a1, b1, n1, A1, c1, tm⟩ wr ⟨hk0, htm, ha1, hn, hi, q, oO, hs, X⟩
  refine c_seq ?_
  refine c_seqR ?_
  refine ops_cons rfl (ow_move rfl ?_)
  refine ops_cons rfl (ow_gtr2 rfl rfl (fun hk => ?_) (fun hk => ?_))
  · skip
    refine ops_cons rfl (ow_move rfl ?_)
    refine ops_want rfl rfl rfl (ow_move rfl ?_)
    refine ops_want rfl rfl rfl (ow_nilCheck rfl ?_)
    refine ops_want rfl rfl rfl (ow_fieldAddrB off95_2 rfl rfl ?_)
    refine ops_want rfl rfl rfl (ow_loadB q ti4 rfl rfl ?_)
    refine ops_want rfl rfl rfl (ow_not rfl ?_)
    refine ops_cons rfl (ow_pick rfl rfl ?_)
    refine ops_nil ?_
    refine c_split rfl (fun h3 => ?_) (fun h3 => ?_)
    · skip
      refine c_skip ?_
      refine tq_n ?_
      refine c_seq ?_
      refine c_block ?_
      refine c_region ?_
      refine ops_cons rfl (ow_move rfl ?_)
      refine ops_cons rfl (ow_move rfl ?_)
      refine ops_cons rfl (ow_call ent73 rfl (ret_mono (next_c _ _ _ _ _ _ _ _ q hs hl ha1 hB) ?_))
      rintro _ w5 ⟨rfl, q2, x4⟩
      replace oO := oO.grownBlk x4 (Own.neT oO q (by decide))
      replace hs := hs.grown x4 (by intro g hg; injection hg; omega)
      replace X : w.grownBy w5 (some gC) := by first | exact gb_trans X x4 | exact gb_new X x4 (by intro g hg; injection hg; omega)
      clear x4 q
      refine ops_cons rfl (ow_buildSlice el26 ti2 rfl rfl rfl rfl rfl ?_)
      intro g6 w8 eg6 oT bbg6 x7 zg6
      replace oT := Own.low oT X.size
      replace oO := oO.ext x7
      replace hs := hs.ext x7
      replace q2 := q2.ext x7
      replace X := gb_ext X x7; clear x7
      refine ops_cons rfl (ow_append (ts := #[]) oO X.size oT.sl (by first | rfl | simp) (by first | exact List.all_eq_true.1 rfl | simp [Value.oneCell']) el26 ti2 rfl rfl rfl rfl (by omega) (by omega) ?_)
      intro AoN coN w10 oN hg9
      replace hs := hs.grown hg9 (fun g hg => Nat.le_trans Bhs (Own.lt oO hg).1)
      replace q2 := q2.grown hg9 (fun h => Own.neT oO q2 (by decide) h.symm)
      replace X := gb_new X hg9 (fun g hg => (Own.lt oO hg).1)
      clear hg9
      refine ops_cons rfl (ow_assign rfl ?_)
      refine ops_nil ?_
      refine bq_n ?_
      refine tq_n ?_
      refine c_region ?_
      refine ops_cons rfl (ow_move rfl ?_)
      refine ops_cons rfl (ow_sub rfl rfl (w64 (by omega)) ?_)
      refine ops_cons rfl (ow_assign rfl ?_)
      refine ops_nil ?_
      refine tq_n ⟨(k + 1, ys ++ [nV xs a1], nAt xs a1, nBad xs a1 b1, n1 + 1, AoN, coN, tm - 1), (.cons rfl (.cons rfl (.cons rfl (.cons rfl (.nil _))))), ?_, ?_⟩
      · skip
        exact ⟨by omega, by omega, nAt_le ha1, ⟨by simp [hn.1], by omega⟩, (by
          have hb : b1 = false := by simpa using ‹(!b1) = true›
          rw [hi, someR_step xs (show 0 < z.toNat - k by omega) hb, show z.toNat - k - 1 = z.toNat - (k + 1) by omega]; simp), q2, oN.to (snoc eI ys _).symm, hs, X⟩
      · first | omega | (dsimp only; omega)
    · skip
      refine c_exit ?_
      refine tq_e ?_
      refine tq_e ?_
      refine bq_e ?_
      refine tq_n ?_
      refine c_seqR ?_
      refine ops_cons rfl (ow_move rfl ?_)
      refine ops_cons rfl (ow_assign rfl ?_)
      refine ops_nil ?_
      refine c_ret ?_
      refine fin_ret1 rfl rfl ?_
      have hst : z.toNat - k = 0 ∨ b1 = true := by
        first
        | (left; omega)
        | (right; simpa using ‹(!b1) = false›)
      rw [hi, someR_stop xs _ _ hst, List.append_nil, ← hn.1]
      exact ⟨_, _, rfl, oO, q, X⟩
  · skip
    refine ops_cons rfl (ow_move rfl ?_)
    refine ops_skip rfl rfl rfl rfl ?_
    refine ops_skip rfl rfl rfl rfl ?_
    refine ops_skip rfl rfl rfl rfl ?_
    refine ops_skip rfl rfl rfl rfl ?_
    refine ops_skip rfl rfl rfl rfl ?_
    refine ops_cons rfl (ow_pick rfl rfl ?_)
    refine ops_nil ?_
    refine c_false rfl ?_
    refine c_exit ?_
    refine tq_e ?_
    refine tq_e ?_
    refine bq_e ?_
    refine tq_n ?_
    refine c_seqR ?_
    refine ops_cons rfl (ow_move rfl ?_)
    refine ops_cons rfl (ow_assign rfl ?_)
    refine ops_nil ?_
    refine c_ret ?_
    refine fin_ret1 rfl rfl ?_
    have hst : z.toNat - k = 0 ∨ b1 = true := by
      first
      | (left; omega)
      | (right; simpa using ‹(!b1) = false›)
    rw [hi, someR_stop xs _ _ hst, List.append_nil, ← hn.1]
    exact ⟨_, _, rfl, oO, q, X⟩
end Go.Proofs.Ytojgfbbdjobdnaa
