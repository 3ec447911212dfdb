/- Texts of the seat that a law needs, put together. No condition. -/
import Derived.Test.YtdoibplhbdkapaaGreatDoorDLP3
import Derived.Test.YtdoibplhbdkapaaGreatDoorDLP8
import Derived.Test.YtdoibplhbdkapaaGreatDoorDLP6
import Derived.Test.YtdoibplhbdkapaaGreatDoorDLP7
import Derived.Shelf.Strings.SlTrimAscii
import Derived.Test.YtdoibplhbdkapaaGreatDoorDLP4
namespace Go.Proofs.YtdoibplhbdkapaaGreatDoor
open Go.RowKit
set_option linter.unusedVariables false
set_option linter.unusedSimpArgs false
set_option maxRecDepth 20000
theorem next_c (A : Option Addr) (B c : Nat) (xs : List Int) (gC a : Nat) (bad : Bool) (w : World) (q : Blk w gC 166 (curC A c xs a bad)) (hs : Sl B w A (xs.flatMap eI)) (hl : xs.length ≤ 1048576) (ha : a ≤ xs.length) (hB : B ≤ gC) :
    Calls Tryz.prog 160 #[.pointer (some ⟨gC, 0, none⟩)] w (Ret fun v w' => v = .int .i64 (nV xs a) ∧ Blk w' gC 166 (curC A c xs (nAt xs a) (nBad xs a bad)) ∧ w.grownBy w' (some gC)) := by
  have Bhs := hs.1
  have X := gb_refl w (some gC)
  refine calls_of (args := [.pointer (some ⟨gC, 0, none⟩)]) Tryz.func160 Tryz.ntmps160 rfl rfl ?_
  refine c_seqR ?_
  refine ops_cons rfl (ow_assign rfl ?_)
  refine ops_nil ?_
  refine c_seq ?_
  refine c_seqD [false, false, false, false, false, false, false, false, false, false] mixed (by kernel_rfl) ?_
  refine f_q rfl (fun wq sq => ow_move rfl ⟨rfl, Ext.refl _⟩) ?_
  refine f_q rfl (fun wq sq => ow_nilCheck rfl ⟨rfl, Ext.refl _⟩) ?_
  refine f_q rfl (fun wq sq => ow_fieldAddrB off166_1 rfl rfl ⟨rfl, Ext.refl _⟩) ?_
  refine f_q rfl (fun wq sq => ow_loadB (q.ext sq) ti3 rfl rfl ⟨rfl, Ext.refl _⟩) ?_
  refine f_q rfl (fun wq sq => ow_move rfl ⟨rfl, Ext.refl _⟩) ?_
  refine f_q rfl (fun wq sq => ow_nilCheck rfl ⟨rfl, Ext.refl _⟩) ?_
  refine f_q rfl (fun wq sq => ow_fieldAddrB off166_0 rfl rfl ⟨rfl, Ext.refl _⟩) ?_
  refine f_q rfl (fun wq sq => ow_loadB (q.ext sq) ti30 rfl rfl ⟨rfl, Ext.refl _⟩) ?_
  refine f_q rfl (fun wq sq => ow_len Tryz.underlying30 rfl ⟨rfl, Ext.refl _⟩) ?_
  refine f_qb rfl (fun wq sq => ow_eql rfl rfl ⟨rfl, Ext.refl _⟩) (fun he => ?_) (fun he => ?_)
  refine f_nil (fun w1 sq => ?_)
  have xq := sq
  replace q := q.ext xq
  replace hs := hs.ext xq
  replace X := gb_ext X xq; clear xq sq
  refine ops_nil ?_
  refine c_true rfl ?_
  refine c_seqR ?_
  refine ops_cons rfl (ow_move rfl ?_)
  refine ops_cons rfl (ow_nilCheck rfl ?_)
  refine ops_cons rfl (ow_fieldAddrB off166_2 rfl rfl ?_)
  refine ops_cons rfl (ow_storeB q ti4 rfl rfl rfl rfl rfl rfl ?_)
  intro w3 q2 hg2 z4
  replace hs := hs.grown hg2 (by intro g hg; injection hg; omega)
  replace X := gb_trans X hg2
  clear hg2 q
  refine ops_nil ?_
  refine c_seqR ?_
  refine ops_cons rfl (ow_assign rfl ?_)
  refine ops_nil ?_
  refine c_ret ?_
  refine tq_r ?_
  refine fin_ret1 rfl rfl ?_
  · skip
    first
    | (have e1 : nV xs a = 0 := by unfold nV; rw [if_pos (by omega)]
       have e2 : nAt xs a = a := by unfold nAt; rw [if_pos (by omega)]
       have e3 : nBad xs a bad = true := by unfold nBad; rw [if_pos (by omega)]
       rw [e1, e2, e3]; exact ⟨rfl, q2, X⟩)
    | (have e1 : nV xs a = x := by unfold nV; rw [if_neg (by omega), List.getD_eq_getElem?_getD, hx]; rfl
       have e2 : nAt xs a = a + 1 := by unfold nAt; rw [if_neg (by omega)]
       have e3 : nBad xs a bad = bad := by unfold nBad; rw [if_neg (by omega)]
       rw [e1, e2, e3]; exact ⟨rfl, q2, X⟩)
  obtain ⟨x, hx, dx⟩ := drop_at (xs := xs) (k := a) (by omega)
  refine f_nil (fun w5 sq => ?_)
  have xq := sq
  replace q := q.ext xq
  replace hs := hs.ext xq
  replace X := gb_ext X xq; clear xq sq
  refine ops_nil ?_
  refine c_false rfl ?_
  refine c_skip ?_
  refine tq_n ?_
  refine c_seqR ?_
  refine ops_cons rfl (ow_move rfl ?_)
  refine ops_cons rfl (ow_nilCheck rfl ?_)
  refine ops_cons rfl (ow_fieldAddrB off166_1 rfl rfl ?_)
  refine ops_cons rfl (ow_loadB q ti3 rfl rfl ?_)
  refine ops_cons rfl (ow_add rfl rfl (w64 (by omega)) ?_)
  refine ops_cons rfl (ow_nilCheck rfl ?_)
  refine ops_cons rfl (ow_fieldAddrB off166_1 rfl rfl ?_)
  refine ops_cons rfl (ow_storeB q ti3 rfl rfl rfl rfl rfl rfl ?_)
  intro w7 q2 hg6 z8
  replace hs := hs.grown hg6 (by intro g hg; injection hg; omega)
  replace X := gb_trans X hg6
  clear hg6 q
  refine ops_nil ?_
  refine c_seqD [false, false, false, false, false, false, false, false, false, false, false, false] mixed (by kernel_rfl) ?_
  refine f_q rfl (fun wq sq => ow_move rfl ⟨rfl, Ext.refl _⟩) ?_
  refine f_q rfl (fun wq sq => ow_nilCheck rfl ⟨rfl, Ext.refl _⟩) ?_
  refine f_q rfl (fun wq sq => ow_fieldAddrB off166_0 rfl rfl ⟨rfl, Ext.refl _⟩) ?_
  refine f_q rfl (fun wq sq => ow_loadB (q2.ext sq) ti30 rfl rfl ⟨rfl, Ext.refl _⟩) ?_
  refine f_q rfl (fun wq sq => ow_move rfl ⟨rfl, Ext.refl _⟩) ?_
  refine f_q rfl (fun wq sq => ow_nilCheck rfl ⟨rfl, Ext.refl _⟩) ?_
  refine f_q rfl (fun wq sq => ow_fieldAddrB off166_1 rfl rfl ⟨rfl, Ext.refl _⟩) ?_
  refine f_q rfl (fun wq sq => ow_loadB (q2.ext sq) ti3 rfl rfl ⟨rfl, Ext.refl _⟩) ?_
  refine f_q rfl (fun wq sq => ow_sub rfl rfl (w64 (by omega)) ⟨rfl, Ext.refl _⟩) ?_
  refine f_q rfl (fun wq sq => ow_indexT (hs.ext sq) eI_len rfl el30 rfl rfl rfl hx (by omega) ⟨rfl, Ext.refl _⟩) ?_
  refine f_q rfl (fun wq sq => ow_loadT (hs.ext sq) eI_len hx ti2 rfl rfl rfl ⟨rfl, Ext.refl _⟩) ?_
  refine f_q rfl (fun wq sq => ow_assign rfl ⟨rfl, Ext.refl _⟩) ?_
  refine f_nil (fun w9 sq => ?_)
  have xq := sq
  replace hs := hs.ext xq
  replace q2 := q2.ext xq
  replace X := gb_ext X xq; clear xq sq
  refine ops_nil ?_
  refine c_ret ?_
  refine fin_ret1 rfl rfl ?_
  · skip
    first
    | (have e1 : nV xs a = 0 := by unfold nV; rw [if_pos (by omega)]
       have e2 : nAt xs a = a := by unfold nAt; rw [if_pos (by omega)]
       have e3 : nBad xs a bad = true := by unfold nBad; rw [if_pos (by omega)]
       rw [e1, e2, e3]; exact ⟨rfl, q2, X⟩)
    | (have e1 : nV xs a = x := by unfold nV; rw [if_neg (by omega), List.getD_eq_getElem?_getD, hx]; rfl
       have e2 : nAt xs a = a + 1 := by unfold nAt; rw [if_neg (by omega)]
       have e3 : nBad xs a bad = bad := by unfold nBad; rw [if_neg (by omega)]
       rw [e1, e2, e3]; exact ⟨rfl, q2, X⟩)

theorem some_c (A : Option Addr) (B c : Nat) (xs : List Int) (gC a : Nat) (bad : Bool) (z : Int) (w : World) (q : Blk w gC 166 (curC A c xs a bad)) (hs : Sl B w A (xs.flatMap eI)) (hl : xs.length ≤ 1048576) (ha : a ≤ xs.length) (hB : B ≤ gC) (hz0 : 0 ≤ z ∧ z ≤ 1048576) :
    Calls Tryz.prog 161 #[.pointer (some ⟨gC, 0, none⟩), .int .i64 z] w (Ret fun v w' => ∃ A' c', v = .slice A' (someR xs z.toNat a bad).1.length c' ∧ Own w' w.heap.size 2 1 A' (someR xs z.toNat a bad).1.length c' ((someR xs z.toNat a bad).1.flatMap eI) ∧ Blk w' gC 166 (curC A c xs (someR xs z.toNat a bad).2.1 (someR xs z.toNat a bad).2.2) ∧ w.grownBy w' (some gC)) := by
  have Bhs := hs.1
  have X := gb_refl w (some gC)
  refine calls_of (args := [.pointer (some ⟨gC, 0, none⟩), .int .i64 z]) Tryz.func161 Tryz.ntmps161 rfl rfl ?_
  refine c_seqR ?_
  refine ops_cons rfl (ow_assign rfl ?_)
  refine ops_nil ?_
  refine c_seqR ?_
  refine ops_cons rfl (ow_buildSlice el30 ti2 rfl rfl rfl rfl rfl ?_)
  intro gO w2 egO oO bbgO x1 zgO
  replace oO := Own.low oO X.size
  replace q := q.ext x1
  replace hs := hs.ext x1
  replace X := gb_ext X x1; clear x1
  refine ops_cons rfl (ow_assign rfl ?_)
  refine ops_nil ?_
  refine c_seq ?_
  refine c_block ?_
  refine c_loop (G := Nat × List Int × Nat × Bool × Nat × Option Addr × Nat × Int) (fun ⟨k, ys, a1, b1, n1, A1, c1, tm⟩ => [(0, .pointer (some ⟨gC, 0, none⟩)), (4, .slice none 0 0), (1, .int .i64 tm), (5, .slice A1 n1 c1)]) (fun ⟨k, ys, a1, b1, n1, A1, c1, tm⟩ wr => k ≤ z.toNat ∧ tm = z - k ∧ a1 ≤ xs.length ∧ (n1 = ys.length ∧ n1 ≤ k) ∧ someR xs z.toNat a bad = (ys ++ (someR xs (z.toNat - k) a1 b1).1, (someR xs (z.toNat - k) a1 b1).2) ∧ Blk wr gC 166 (curC A c xs a1 b1) ∧ Own wr w.heap.size 2 1 A1 n1 c1 (ys.flatMap eI) ∧ Sl B wr A (xs.flatMap eI) ∧ w.grownBy wr (some gC)) (fun ⟨k, ys, a1, b1, n1, A1, c1, tm⟩ => z.toNat - k) (0, [], a, bad, 0, some ⟨gO, 0, none⟩, 0, z) (.cons rfl (.cons rfl (.cons rfl (.cons rfl (.nil _))))) ?_ ?_
  · exact ⟨by omega, by omega, ha, ⟨rfl, by omega⟩, rfl, q, oO, hs, X⟩
  clear q hs oO
  clear X
  rintro ⟨k, ys, a1, b1, n1, A1, c1, tm⟩ wr ⟨hk0, htm, ha1, hn, hi, q, oO, hs, X⟩
  refine c_seq ?_
  refine c_seqR ?_
  refine ops_cons rfl (ow_move rfl ?_)
  refine ops_cons rfl (ow_gtr2 rfl rfl (fun hk => ?_) (fun hk => ?_))
  refine ops_cons rfl (ow_move rfl ?_)
  refine ops_want rfl rfl rfl (ow_move rfl ?_)
  refine ops_want rfl rfl rfl (ow_nilCheck rfl ?_)
  refine ops_want rfl rfl rfl (ow_fieldAddrB off166_2 rfl rfl ?_)
  refine ops_want rfl rfl rfl (ow_loadB q ti4 rfl rfl ?_)
  refine ops_want rfl rfl rfl (ow_not rfl ?_)
  refine ops_cons rfl (ow_pick rfl rfl ?_)
  refine ops_nil ?_
  refine c_split rfl (fun h3 => ?_) (fun h3 => ?_)
  refine c_skip ?_
  refine tq_n ?_
  refine c_seq ?_
  refine c_block ?_
  refine c_region ?_
  refine ops_cons rfl (ow_move rfl ?_)
  refine ops_cons rfl (ow_move rfl ?_)
  refine ops_cons rfl (ow_call ent160 rfl (ret_mono (next_c _ _ _ _ _ _ _ _ q hs hl ha1 hB) ?_))
  rintro _ w5 ⟨rfl, q2, x4⟩
  replace oO := oO.grownBlk x4 (Own.neT oO q (by decide))
  replace hs := hs.grown x4 (by intro g hg; injection hg; omega)
  replace X := gb_trans X x4
  clear x4 q
  refine ops_cons rfl (ow_buildSlice el30 ti2 rfl rfl rfl rfl rfl ?_)
  intro g6 w9 eg6 oT bbg6 x7 zg6
  replace oT := Own.low oT X.size
  replace oO := oO.ext x7
  replace hs := hs.ext x7
  replace q2 := q2.ext x7
  replace X := gb_ext X x7; clear x7
  refine ops_cons rfl (ow_append (ts := #[]) oO X.size oT.sl (by first | rfl | simp) (by first | exact List.all_eq_true.1 rfl | simp [Value.oneCell']) el30 ti2 rfl rfl rfl rfl (by omega) (by omega) ?_)
  intro AoN coN w11 oN hg10
  replace hs := hs.grown hg10 (fun g hg => Nat.le_trans Bhs (Own.lt oO hg).1)
  replace q2 := q2.grown hg10 (fun h => Own.neT oO q2 (by decide) h.symm)
  replace X := gb_new X hg10 (fun g hg => (Own.lt oO hg).1)
  clear hg10
  refine ops_cons rfl (ow_assign rfl ?_)
  refine ops_nil ?_
  refine bq_n ?_
  refine tq_n ?_
  refine c_region ?_
  refine ops_cons rfl (ow_move rfl ?_)
  refine ops_cons rfl (ow_sub rfl rfl (w64 (by omega)) ?_)
  refine ops_cons rfl (ow_assign rfl ?_)
  refine ops_nil ?_
  refine tq_n ⟨(k + 1, ys ++ [nV xs a1], nAt xs a1, nBad xs a1 b1, n1 + 1, AoN, coN, tm - 1), (.cons rfl (.cons rfl (.cons rfl (.cons rfl (.nil _))))), ?_, ?_⟩
  · skip
    exact ⟨by omega, by omega, nAt_le ha1, ⟨by simp [hn.1], by omega⟩, (by
      have hb : b1 = false := by simpa using ‹(!b1) = true›
      rw [hi, someR_step xs (show 0 < z.toNat - k by omega) hb, show z.toNat - k - 1 = z.toNat - (k + 1) by omega]; simp), q2, oN.to (snoc eI ys _).symm, hs, X⟩
  · first | omega | (dsimp only; omega)
  refine c_exit ?_
  refine tq_e ?_
  refine tq_e ?_
  refine bq_e ?_
  refine tq_n ?_
  refine c_seqR ?_
  refine ops_cons rfl (ow_move rfl ?_)
  refine ops_cons rfl (ow_assign rfl ?_)
  refine ops_nil ?_
  refine c_ret ?_
  refine fin_ret1 rfl rfl ?_
  · skip
    have hst : z.toNat - k = 0 ∨ b1 = true := by
      first
      | (left; omega)
      | (right; simpa using ‹(!b1) = false›)
    rw [hi, someR_stop xs _ _ hst, List.append_nil, ← hn.1]
    exact ⟨_, _, rfl, oO, q, X⟩
  refine ops_cons rfl (ow_move rfl ?_)
  refine ops_skip rfl rfl rfl rfl ?_
  refine ops_skip rfl rfl rfl rfl ?_
  refine ops_skip rfl rfl rfl rfl ?_
  refine ops_skip rfl rfl rfl rfl ?_
  refine ops_skip rfl rfl rfl rfl ?_
  refine ops_cons rfl (ow_pick rfl rfl ?_)
  refine ops_nil ?_
  refine c_false rfl ?_
  refine c_exit ?_
  refine tq_e ?_
  refine tq_e ?_
  refine bq_e ?_
  refine tq_n ?_
  refine c_seqR ?_
  refine ops_cons rfl (ow_move rfl ?_)
  refine ops_cons rfl (ow_assign rfl ?_)
  refine ops_nil ?_
  refine c_ret ?_
  refine fin_ret1 rfl rfl ?_
  · skip
    have hst : z.toNat - k = 0 ∨ b1 = true := by
      first
      | (left; omega)
      | (right; simpa using ‹(!b1) = false›)
    rw [hi, someR_stop xs _ _ hst, List.append_nil, ← hn.1]
    exact ⟨_, _, rfl, oO, q, X⟩
end Go.Proofs.YtdoibplhbdkapaaGreatDoor
namespace Go.Proofs.YtdoibplhbdkapaaGreatDoor
open Go.RowKit
set_option linter.unusedVariables false
set_option linter.unusedSimpArgs false
set_option maxRecDepth 20000
theorem l01All_c (A : Option Addr) (B c : Nat) (xs : List Int) (m hi0 : Int) (w : World) (hs : Sl B w A (xs.flatMap eI)) (hl : xs.length ≤ 1048576) :
    Calls Tryz.prog 178 #[.slice A xs.length c, .int .i64 m, .int .i64 hi0] w (Ret fun v w' => v = .bool (decide ((xs.length : Int) ≤ m) && xs.all fun x => inB x 0 hi0) ∧ Ext w w') := by
  have Bhs := hs.1
  have X := Ext.refl w
  refine calls_of (args := [.slice A xs.length c, .int .i64 m, .int .i64 hi0]) Tryz.func178 Tryz.ntmps178 rfl rfl ?_
  refine c_seqR ?_
  refine ops_cons rfl (ow_assign rfl ?_)
  refine ops_nil ?_
  refine c_seq ?_
  refine c_seqR ?_
  refine ops_cons rfl (ow_move rfl ?_)
  refine ops_cons rfl (ow_len Tryz.underlying30 rfl ?_)
  refine ops_cons rfl (ow_move rfl ?_)
  refine ops_cons rfl (ow_gtr2 rfl rfl (fun hm => ?_) (fun hm => ?_))
  refine ops_nil ?_
  refine c_true rfl ?_
  refine c_seqR ?_
  refine ops_cons rfl (ow_assign rfl ?_)
  refine ops_nil ?_
  refine c_ret ?_
  refine tq_r ?_
  refine fin_ret1 rfl rfl ?_
  · skip
    refine ⟨congrArg Value.bool ?_, X⟩
    first | (rw [decide_eq_false (by omega)]; rfl) | (rw [decide_eq_true (by omega), hi, drop_end hk]; rfl) | (rw [hi, dx]; simp [*])
  refine ops_nil ?_
  refine c_false rfl ?_
  refine c_skip ?_
  refine tq_n ?_
  refine c_seq ?_
  refine c_seqR ?_
  refine ops_cons rfl (ow_assign rfl ?_)
  refine ops_nil ?_
  refine c_block ?_
  refine c_loop (G := Nat) (fun k => [(0, .slice A xs.length c), (2, .int .i64 hi0), (7, .int .i64 (k : Nat))]) (fun k wr => k ≤ xs.length ∧ xs.all (fun x => inB x 0 hi0) = (xs.drop k).all (fun x => inB x 0 hi0) ∧ Sl B wr A (xs.flatMap eI) ∧ Ext w wr) (fun k => xs.length - k) 0 (.cons rfl (.cons rfl (.cons rfl (.nil _)))) ?_ ?_
  · exact ⟨by omega, rfl, hs, X⟩
  clear hs
  clear X
  rintro k wr ⟨hk0, hi, hs, X⟩
  refine c_seq ?_
  refine c_seqR ?_
  refine ops_cons rfl (ow_move rfl ?_)
  refine ops_cons rfl (ow_move rfl ?_)
  refine ops_cons rfl (ow_len Tryz.underlying30 rfl ?_)
  refine ops_cons rfl (ow_lss2 rfl rfl (fun hk => ?_) (fun hk => ?_))
  obtain ⟨x, hx, dx⟩ := drop_at' hk
  refine ops_nil ?_
  refine c_true rfl ?_
  refine c_skip ?_
  refine tq_n ?_
  refine c_seq ?_
  refine c_block ?_
  refine c_seqR ?_
  refine ops_cons rfl (ow_move rfl ?_)
  refine ops_cons rfl (ow_move rfl ?_)
  refine ops_cons rfl (ow_indexT hs eI_len rfl el30 rfl rfl rfl hx rfl ?_)
  refine ops_cons rfl (ow_loadT hs eI_len hx ti2 rfl rfl rfl ?_)
  refine ops_cons rfl (ow_move rfl ?_)
  refine ops_cons rfl (ow_callB ent111 rfl (l01In_c _ _ _ _) (fun w3 h1 x2 => ?_) (fun w3 h1 x2 => ?_))
  replace hs := hs.ext x2
  replace X := Ext.trans X x2; clear x2
  refine ops_cons rfl (ow_not rfl ?_)
  refine ops_nil ?_
  refine c_false rfl ?_
  refine c_skip ?_
  refine bq_n ?_
  refine tq_n ?_
  refine c_region ?_
  refine ops_cons rfl (ow_move rfl ?_)
  refine ops_cons rfl (ow_add rfl rfl (w64 (by omega)) ?_)
  refine ops_cons rfl (ow_assign rfl ?_)
  refine ops_nil ?_
  refine tq_n ⟨k + 1, (.cons rfl (.cons rfl (.cons rfl (.nil _)))), ?_, ?_⟩
  · exact ⟨by omega, (by rw [hi, dx]; simp [*]), hs, X⟩
  · first | omega | (dsimp only; omega)
  replace hs := hs.ext x2
  replace X := Ext.trans X x2; clear x2
  refine ops_cons rfl (ow_not rfl ?_)
  refine ops_nil ?_
  refine c_true rfl ?_
  refine c_seqR ?_
  refine ops_cons rfl (ow_assign rfl ?_)
  refine ops_nil ?_
  refine c_ret ?_
  refine bq_r ?_
  refine tq_r ?_
  refine tq_r ?_
  refine bq_r ?_
  refine tq_r ?_
  refine fin_ret1 rfl rfl ?_
  · skip
    refine ⟨congrArg Value.bool ?_, X⟩
    first | (rw [decide_eq_false (by omega)]; rfl) | (rw [decide_eq_true (by omega), hi, drop_end hk]; rfl) | (rw [hi, dx]; simp [*])
  refine ops_nil ?_
  refine c_false rfl ?_
  refine c_exit ?_
  refine tq_e ?_
  refine tq_e ?_
  refine bq_e ?_
  refine tq_n ?_
  refine c_seqR ?_
  refine ops_cons rfl (ow_assign rfl ?_)
  refine ops_nil ?_
  refine c_ret ?_
  refine fin_ret1 rfl rfl ?_
  · skip
    refine ⟨congrArg Value.bool ?_, X⟩
    first | (rw [decide_eq_false (by omega)]; rfl) | (rw [decide_eq_true (by omega), hi, drop_end hk]; rfl) | (rw [hi, dx]; simp [*])

theorem sIsBytes_c (A : Option Addr) (B c : Nat) (xs : List Int) (w : World) (hs : Sl B w A (xs.flatMap eI)) (hl : xs.length ≤ 1048576) :
    Calls Tryz.prog 98 #[.slice A xs.length c] w (Ret fun v w' => v = .bool (isB xs) ∧ Ext w w') := by
  have Bhs := hs.1
  have X := Ext.refl w
  refine calls_of (args := [.slice A xs.length c]) Tryz.func98 Tryz.ntmps98 rfl rfl ?_
  refine c_seqR ?_
  refine ops_cons rfl (ow_assign rfl ?_)
  refine ops_nil ?_
  refine c_seqR ?_
  refine ops_cons rfl (ow_move rfl ?_)
  refine ops_cons rfl (ow_call ent178 rfl (ret_mono (l01All_c _ _ _ _ _ _ _ hs hl) ?_))
  rintro _ w2 ⟨rfl, x1⟩
  replace hs := hs.ext x1
  replace X := Ext.trans X x1; clear x1
  refine ops_cons rfl (ow_assign rfl ?_)
  refine ops_nil ?_
  refine c_ret ?_
  refine fin_ret1 rfl rfl ?_
  exact ⟨by rfl, X⟩

theorem iIsBytes_c (A : Option Addr) (B c : Nat) (xs : List Int) (w : World) (hs : Sl B w A (xs.flatMap eI)) (hl : xs.length ≤ 1048576) :
    Calls Tryz.prog 74 #[.slice A xs.length c] w (Ret fun v w' => v = .bool (isB xs) ∧ Ext w w') := by
  have Bhs := hs.1
  have X := Ext.refl w
  refine calls_of (args := [.slice A xs.length c]) Tryz.func74 Tryz.ntmps74 rfl rfl ?_
  refine c_seqR ?_
  refine ops_cons rfl (ow_assign rfl ?_)
  refine ops_nil ?_
  refine c_seqR ?_
  refine ops_cons rfl (ow_move rfl ?_)
  refine ops_cons rfl (ow_len Tryz.underlying30 rfl ?_)
  refine ops_cons rfl (ow_leq2 rfl rfl (fun hm => ?_) (fun hm => ?_))
  refine ops_cons rfl (ow_move rfl ?_)
  refine ops_want rfl rfl rfl (ow_move rfl ?_)
  refine ops_want rfl rfl rfl (ow_call ent159 rfl (ret_mono (allWithin_c _ _ _ _ _ _ _ hs hl) ?_))
  rintro _ w2 ⟨rfl, x1⟩
  replace hs := hs.ext x1
  replace X := Ext.trans X x1; clear x1
  refine ops_cons rfl (ow_pick rfl rfl ?_)
  refine ops_cons rfl (ow_assign rfl ?_)
  refine ops_nil ?_
  refine c_ret ?_
  refine fin_ret1 rfl rfl ?_
  · skip
    refine ⟨congrArg Value.bool ?_, X⟩
    first | (rw [isB, decide_eq_false (by omega)]; rfl) | (rw [isB, decide_eq_true (by omega)]; simp [*])
  refine ops_cons rfl (ow_move rfl ?_)
  refine ops_skip rfl rfl rfl rfl ?_
  refine ops_skip rfl rfl rfl rfl ?_
  refine ops_cons rfl (ow_pick rfl rfl ?_)
  refine ops_cons rfl (ow_assign rfl ?_)
  refine ops_nil ?_
  refine c_ret ?_
  refine fin_ret1 rfl rfl ?_
  · skip
    refine ⟨congrArg Value.bool ?_, X⟩
    first | (rw [isB, decide_eq_false (by omega)]; rfl) | (rw [isB, decide_eq_true (by omega)]; simp [*])

theorem l01Own_c (A : Option Addr) (B c n : Nat) (xs : List Int) (w : World) (hs : Sl B w A (xs.flatMap eI)) (en : n = xs.length) (hl : xs.length ≤ 1048576) :
    Calls Tryz.prog 196 #[.slice A n c] w (Ret fun v w' => ∃ A' c', v = .slice A' xs.length c' ∧ Own w' w.heap.size 2 1 A' xs.length c' (xs.flatMap eI) ∧ Ext w w') := by
  have Bhs := hs.1
  have X := Ext.refl w
  refine calls_of (args := [.slice A n c]) Tryz.func196 Tryz.ntmps196 rfl rfl ?_
  refine c_seqR ?_
  refine ops_cons rfl (ow_assign rfl ?_)
  refine ops_nil ?_
  refine c_seqR ?_
  refine ops_cons rfl (ow_buildSlice el30 ti2 rfl rfl rfl rfl rfl ?_)
  intro gO w2 egO oO bbgO x1 zgO
  replace oO := Own.low oO X.size
  replace hs := hs.ext x1
  replace X := Ext.trans X x1; clear x1
  refine ops_cons rfl (ow_move rfl ?_)
  refine ops_cons rfl (ow_append (ts := #[]) oO X.size hs (by rw [flat_len eI_len xs, en]) (one_ints _) el30 ti2 rfl rfl rfl rfl (by omega) (by omega) ?_)
  intro AoN coN w4 oN hg3
  replace hs := hs.grown hg3 (fun g hg => Nat.le_trans Bhs (Own.lt oO hg).1)
  replace X := X.grown hg3 X.size (fun g hg => (Own.lt oO hg).1)
  clear hg3
  refine ops_cons rfl (ow_assign rfl ?_)
  refine ops_nil ?_
  refine c_ret ?_
  refine fin_ret1 rfl rfl ?_
  · skip
    rw [Nat.zero_add, en] at oN
    exact ⟨_, _, by rw [Nat.zero_add, en], oN, X⟩
end Go.Proofs.YtdoibplhbdkapaaGreatDoor
namespace Go.Proofs.YtdoibplhbdkapaaGreatDoor
open Go.RowKit Go.Shelf Go.Lib
set_option linter.unusedVariables false
def lays160_ren : Go.Shelf.Ren := ⟨fun x => match x with | 160 => 248 | 232 => 268 | 231 => 267 | 227 => 269 | 234 => 271 | 233 => 270 | 236 => 273 | 235 => 272 | 228 => 280 | 271 => 283 | 151 => 282 | 197 => 281 | 120 => 288 | 152 => 287 | 260 => 286 | 137 => 289 | 119 => 290 | 224 => 291 | 225 => 292 | 217 => 293 | 266 => 294 | n => n, fun x => match x with | 9 => 9 | 4 => 4 | 3 => 3 | 5 => 5 | 117 => 234 | 116 => 233 | 0 => 0 | 124 => 237 | 21 => 21 | 105 => 240 | 46 => 140 | 119 => 244 | 139 => 247 | 138 => 246 | n => n, fun x => match x with | 3 => 0 | 4 => 1 | n => n⟩
set_option maxRecDepth 100000
theorem lays160 : Lays.n160 Tryz.prog lays160_ren where
  mixed := by kernel_rfl
  f119 := Tryz.func290.trans (congrArg some (by kernel_rfl))
  f120 := Tryz.func288.trans (congrArg some (by kernel_rfl))
  f137 := Tryz.func289.trans (congrArg some (by kernel_rfl))
  f151 := Tryz.func282.trans (congrArg some (by kernel_rfl))
  f152 := Tryz.func287.trans (congrArg some (by kernel_rfl))
  f160 := Tryz.func248.trans (congrArg some (by kernel_rfl))
  f197 := Tryz.func281.trans (congrArg some (by kernel_rfl))
  f217 := Tryz.func293.trans (congrArg some (by kernel_rfl))
  f224 := Tryz.func291.trans (congrArg some (by kernel_rfl))
  f225 := Tryz.func292.trans (congrArg some (by kernel_rfl))
  f227 := Tryz.func269.trans (congrArg some (by kernel_rfl))
  f228 := Tryz.func280.trans (congrArg some (by kernel_rfl))
  f231 := Tryz.func267.trans (congrArg some (by kernel_rfl))
  f232 := Tryz.func268.trans (congrArg some (by kernel_rfl))
  f233 := Tryz.func270.trans (congrArg some (by kernel_rfl))
  f234 := Tryz.func271.trans (congrArg some (by kernel_rfl))
  f235 := Tryz.func272.trans (congrArg some (by kernel_rfl))
  f236 := Tryz.func273.trans (congrArg some (by kernel_rfl))
  f260 := Tryz.func286.trans (congrArg some (by kernel_rfl))
  f266 := Tryz.func294.trans (congrArg some (by kernel_rfl))
  f271 := Tryz.func283.trans (congrArg some (by kernel_rfl))
  t0 := Tryz.underlying0
  a0 := Tryz.isAgg0
  z0 := Tryz.sizeOf0
  v0 := Tryz.zeroValue0
  t3 := Tryz.underlying3
  a3 := Tryz.isAgg3
  z3 := Tryz.sizeOf3
  v3 := Tryz.zeroValue3
  t4 := Tryz.underlying4
  a4 := Tryz.isAgg4
  z4 := Tryz.sizeOf4
  v4 := Tryz.zeroValue4
  t5 := Tryz.underlying5
  a5 := Tryz.isAgg5
  z5 := Tryz.sizeOf5
  v5 := Tryz.zeroValue5
  t9 := Tryz.underlying9
  a9 := Tryz.isAgg9
  z9 := Tryz.sizeOf9
  v9 := Tryz.zeroValue9
  t21 := Tryz.underlying21
  a21 := Tryz.isAgg21
  z21 := Tryz.sizeOf21
  v21 := Tryz.zeroValue21
  t46 := Tryz.underlying140
  a46 := Tryz.isAgg140
  z46 := Tryz.sizeOf140
  v46 := Tryz.zeroValue140
  t105 := Tryz.underlying240
  a105 := Tryz.isAgg240
  z105 := Tryz.sizeOf240
  v105 := Tryz.zeroValue240
  t116 := Tryz.underlying233
  a116 := Tryz.isAgg233
  z116 := Tryz.sizeOf233
  t117 := Tryz.underlying234
  a117 := Tryz.isAgg234
  z117 := Tryz.sizeOf234
  v117 := Tryz.zeroValue234
  t119 := Tryz.underlying244
  a119 := Tryz.isAgg244
  z119 := Tryz.sizeOf244
  t124 := Tryz.underlying237
  a124 := Tryz.isAgg237
  z124 := Tryz.sizeOf237
  v124 := Tryz.zeroValue237
  t138 := Tryz.underlying246
  a138 := Tryz.isAgg246
  z138 := Tryz.sizeOf246
  v138 := Tryz.zeroValue246
  t139 := Tryz.underlying247
  a139 := Tryz.isAgg247
  z139 := Tryz.sizeOf247
  v139 := Tryz.zeroValue247
  g3 := by kernel_rfl
  g4 := by kernel_rfl
theorem trim_c (s : ByteArray) (w : World) (hs : s.size ≤ 9223372036854775807) :
    Calls Tryz.prog 248 #[.string s, .string ⟨#[97, 98, 99, 100, 101, 102, 103, 104, 105, 106, 107, 108, 109, 110, 111, 112, 113, 114, 115, 116, 117, 118, 119, 120, 121, 122, 48, 49, 50, 51, 52, 53, 54, 55, 56, 57]⟩] w (Ret fun v w' => v = .string (trimV s) ∧ Ext w w') := by
  have hcon := Any.strings_Trim_laid lays160 (by kernel_rfl) s ⟨#[97, 98, 99, 100, 101, 102, 103, 104, 105, 106, 107, 108, 109, 110, 111, 112, 113, 114, 115, 116, 117, 118, 119, 120, 121, 122, 48, 49, 50, 51, 52, 53, 54, 55, 56, 57]⟩ w hs (by decide) (ascii_of_all (by decide))
  refine Calls.mono hcon fun e w' h => ?_
  obtain ⟨rfl, hb⟩ := h
  exact ⟨rfl, hb⟩
end Go.Proofs.YtdoibplhbdkapaaGreatDoor
namespace Go.Proofs.YtdoibplhbdkapaaGreatDoor
open Go.RowKit
set_option linter.unusedVariables false
set_option linter.unusedSimpArgs false
set_option maxRecDepth 20000
theorem l05Has_c (a : Nat) (n : Int) (w : World) (ha : a < 4294967296) (hn : 0 ≤ n ∧ n ≤ 31) :
    Calls Tryz.prog 245 #[.int .i64 (a : Nat), .int .i64 n] w (Ret fun v w' => v = .bool (hasN a n) ∧ Ext w w') := by
  have X := Ext.refl w
  refine calls_of (args := [.int .i64 (a : Nat), .int .i64 n]) Tryz.func245 Tryz.ntmps245 rfl rfl ?_
  refine c_seqR ?_
  refine ops_cons rfl (ow_assign rfl ?_)
  refine ops_nil ?_
  refine c_seqR ?_
  refine ops_cons rfl (ow_move rfl ?_)
  refine ops_cons rfl (ow_move rfl ?_)
  refine ops_cons rfl (ow_conv Tryz.underlying2 Tryz.underlying140 rfl (wu64 (by omega)) ?_)
  refine ops_cons rfl (ow_shr rfl rfl (by omega) rfl ?_)
  refine ops_cons rfl (ow_and rfl rfl rfl ?_)
  refine ops_cons rfl (ow_eql rfl rfl ?_)
  refine ops_cons rfl (ow_assign rfl ?_)
  refine ops_nil ?_
  refine c_ret ?_
  refine fin_ret1 rfl rfl ?_
  exact ⟨congrArg Value.bool (bit_has (by omega) hn), X⟩

theorem l05Set_c (a : Nat) (n : Int) (w : World) (ha : a < 4294967296) (hn : 0 ≤ n ∧ n ≤ 31) :
    Calls Tryz.prog 246 #[.int .i64 (a : Nat), .int .i64 n, .bool true] w (Ret fun v w' => v = .int .i64 (withN a n : Nat) ∧ Ext w w') := by
  have X := Ext.refl w
  refine calls_of (args := [.int .i64 (a : Nat), .int .i64 n, .bool true]) Tryz.func246 Tryz.ntmps246 rfl rfl ?_
  refine c_seqR ?_
  refine ops_cons rfl (ow_assign rfl ?_)
  refine ops_nil ?_
  refine c_seq ?_
  refine c_seqR ?_
  refine ops_cons rfl (ow_move rfl ?_)
  refine ops_cons rfl (ow_move rfl ?_)
  refine ops_cons rfl (ow_call ent245 rfl (ret_mono (l05Has_c _ _ _ ha hn) ?_))
  rintro _ w2 ⟨rfl, x1⟩
  replace X := Ext.trans X x1; clear x1
  refine ops_cons rfl (ow_move rfl ?_)
  refine ops_cons rfl (ow_eqlBd2 Tryz.underlying4 rfl rfl (fun h3 => ?_) (fun h3 => ?_))
  refine ops_nil ?_
  refine c_true rfl ?_
  refine c_seqR ?_
  refine ops_cons rfl (ow_move rfl ?_)
  refine ops_cons rfl (ow_assign rfl ?_)
  refine ops_nil ?_
  refine c_ret ?_
  refine tq_r ?_
  refine fin_ret1 rfl rfl ?_
  · skip
    refine ⟨congrArg (Value.int .i64) ?_, X⟩
    first
    | (rw [with_has ‹hasN a n = true›]; done)
    | (have hh : hasN a n = false := by cases h : hasN a n <;> simp_all
       have hp := pow_lt hn
       exact (congrArg (bitsV .xor .i64 (a : Int)) (shl_bit hn)).trans ((bits_xor (by omega) (by omega)).trans (congrArg Int.ofNat (with_xor hh))))
  refine ops_nil ?_
  refine c_false rfl ?_
  refine c_skip ?_
  refine tq_n ?_
  refine c_seqR ?_
  refine ops_cons rfl (ow_move rfl ?_)
  refine ops_cons rfl (ow_move rfl ?_)
  refine ops_cons rfl (ow_conv Tryz.underlying2 Tryz.underlying140 rfl (wu64 (by omega)) ?_)
  refine ops_cons rfl (ow_shl rfl rfl (by omega) rfl ?_)
  refine ops_cons rfl (ow_xor rfl rfl rfl ?_)
  refine ops_cons rfl (ow_assign rfl ?_)
  refine ops_nil ?_
  refine c_ret ?_
  refine fin_ret1 rfl rfl ?_
  · skip
    refine ⟨congrArg (Value.int .i64) ?_, X⟩
    first
    | (rw [with_has ‹hasN a n = true›]; done)
    | (have hh : hasN a n = false := by cases h : hasN a n <;> simp_all
       have hp := pow_lt hn
       exact (congrArg (bitsV .xor .i64 (a : Int)) (shl_bit hn)).trans ((bits_xor (by omega) (by omega)).trans (congrArg Int.ofNat (with_xor hh))))

theorem has_c (a : Nat) (n : Int) (w : World) (ha : a < 4294967296) (hn : 0 ≤ n ∧ n ≤ 31) :
    Calls Tryz.prog 117 #[.int .i64 (a : Nat), .int .i64 n] w (Ret fun v w' => v = .bool (hasN a n) ∧ Ext w w') := by
  have X := Ext.refl w
  refine calls_of (args := [.int .i64 (a : Nat), .int .i64 n]) Tryz.func117 Tryz.ntmps117 rfl rfl ?_
  refine c_seqR ?_
  refine ops_cons rfl (ow_assign rfl ?_)
  refine ops_nil ?_
  refine c_seqR ?_
  refine ops_cons rfl (ow_move rfl ?_)
  refine ops_cons rfl (ow_move rfl ?_)
  refine ops_cons rfl (ow_shr rfl rfl (by omega) rfl ?_)
  refine ops_cons rfl (ow_and rfl rfl rfl ?_)
  refine ops_cons rfl (ow_eql rfl rfl ?_)
  refine ops_cons rfl (ow_assign rfl ?_)
  refine ops_nil ?_
  refine c_ret ?_
  refine fin_ret1 rfl rfl ?_
  exact ⟨congrArg Value.bool (bit_has (by omega) hn), X⟩

theorem l10Active_c (A : Option Addr) (B c : Nat) (xs : List NodeI) (w : World) (hs : Sl B w A (xs.flatMap NodeI.cells)) (hl : xs.length ≤ 1048576) (hid : ∀ x ∈ xs, 0 ≤ x.id ∧ x.id ≤ 31) :
    Calls Tryz.prog 181 #[.slice A xs.length c] w (Ret fun v w' => v = .int .i64 (actV xs : Nat) ∧ Ext w w') := by
  have Bhs := hs.1
  have X := Ext.refl w
  refine calls_of (args := [.slice A xs.length c]) Tryz.func181 Tryz.ntmps181 rfl rfl ?_
  refine c_seqR ?_
  refine ops_cons rfl (ow_assign rfl ?_)
  refine ops_nil ?_
  refine c_seqR ?_
  refine ops_cons rfl (ow_assign rfl ?_)
  refine ops_nil ?_
  refine c_seq ?_
  refine c_seqR ?_
  refine ops_cons rfl (ow_assign rfl ?_)
  refine ops_nil ?_
  refine c_block ?_
  refine c_loop (G := Nat × Nat) (fun ⟨k, a⟩ => [(0, .slice A xs.length c), (2, .int .i64 0), (3, .int .i64 (a : Nat)), (4, .int .i64 (k : Nat))]) (fun ⟨k, a⟩ wr => k ≤ xs.length ∧ a < 4294967296 ∧ actV xs = vecF (fun x : NodeI => !x.passive) (·.id) a (xs.drop k) ∧ Sl B wr A (xs.flatMap NodeI.cells) ∧ Ext w wr) (fun ⟨k, a⟩ => xs.length - k) (0, 0) (.cons rfl (.cons rfl (.cons rfl (.cons rfl (.nil _))))) ?_ ?_
  · exact ⟨by omega, (by omega), rfl, hs, X⟩
  clear hs
  clear X
  rintro ⟨k, a⟩ wr ⟨hk0, ha, hi, hs, X⟩
  refine c_seq ?_
  refine c_seqR ?_
  refine ops_cons rfl (ow_move rfl ?_)
  refine ops_cons rfl (ow_move rfl ?_)
  refine ops_cons rfl (ow_len Tryz.underlying24 rfl ?_)
  refine ops_cons rfl (ow_lss2 rfl rfl (fun hk => ?_) (fun hk => ?_))
  obtain ⟨x, hx, dx⟩ := drop_at' hk
  have hx2 := hid x (List.mem_of_getElem? hx)
  refine ops_nil ?_
  refine c_true rfl ?_
  refine c_skip ?_
  refine tq_n ?_
  refine c_seq ?_
  refine c_block ?_
  refine c_seqR ?_
  refine ops_cons rfl (ow_move rfl ?_)
  refine ops_cons rfl (ow_move rfl ?_)
  refine ops_cons rfl (ow_indexT hs NodeI.len rfl el24 rfl rfl rfl hx rfl ?_)
  refine ops_cons rfl (ow_fieldAddr off59_3 rfl ?_)
  refine ops_cons rfl (ow_loadTF hs NodeI.len hx ti4 rfl rfl rfl ?_)
  refine ops_cons rfl (ow_not rfl ?_)
  refine ops_nil ?_
  refine c_split rfl (fun h1 => ?_) (fun h1 => ?_)
  refine c_region ?_
  refine ops_cons rfl (ow_move rfl ?_)
  refine ops_cons rfl (ow_move rfl ?_)
  refine ops_cons rfl (ow_move rfl ?_)
  refine ops_cons rfl (ow_indexT hs NodeI.len rfl el24 rfl rfl rfl hx rfl ?_)
  refine ops_cons rfl (ow_fieldAddr off59_0 rfl ?_)
  refine ops_cons rfl (ow_loadTF hs NodeI.len hx ti2 rfl rfl rfl ?_)
  refine ops_cons rfl (ow_call ent246 rfl (ret_mono (l05Set_c _ _ _ ha hx2) ?_))
  rintro _ w3 ⟨rfl, x2⟩
  replace hs := hs.ext x2
  replace X := Ext.trans X x2; clear x2
  refine ops_cons rfl (ow_assign rfl ?_)
  refine ops_nil ?_
  refine bq_n ?_
  refine tq_n ?_
  refine c_region ?_
  refine ops_cons rfl (ow_move rfl ?_)
  refine ops_cons rfl (ow_add rfl rfl (w64 (by omega)) ?_)
  refine ops_cons rfl (ow_assign rfl ?_)
  refine ops_nil ?_
  refine tq_n ⟨(k + 1, withN a x.id), (.cons rfl (.cons rfl (.cons rfl (.cons rfl (.nil _))))), ?_, ?_⟩
  · exact ⟨by omega, (withN_lt ha hx2), (by rw [hi, dx, vecF]; simp [*]), hs, X⟩
  · first | omega | (dsimp only; omega)
  refine c_skip ?_
  refine bq_n ?_
  refine tq_n ?_
  refine c_region ?_
  refine ops_cons rfl (ow_move rfl ?_)
  refine ops_cons rfl (ow_add rfl rfl (w64 (by omega)) ?_)
  refine ops_cons rfl (ow_assign rfl ?_)
  refine ops_nil ?_
  refine tq_n ⟨(k + 1, a), (.cons rfl (.cons rfl (.cons rfl (.cons rfl (.nil _))))), ?_, ?_⟩
  · exact ⟨by omega, ha, (by rw [hi, dx, vecF]; simp [*]), hs, X⟩
  · first | omega | (dsimp only; omega)
  refine ops_nil ?_
  refine c_false rfl ?_
  refine c_exit ?_
  refine tq_e ?_
  refine tq_e ?_
  refine bq_e ?_
  refine tq_n ?_
  refine c_seqR ?_
  refine ops_cons rfl (ow_move rfl ?_)
  refine ops_cons rfl (ow_assign rfl ?_)
  refine ops_nil ?_
  refine c_ret ?_
  refine fin_ret1 rfl rfl ?_
  exact ⟨by rw [hi, drop_end hk]; rfl, X⟩

theorem activeVector_c (A : Option Addr) (B c : Nat) (xs : List NodeI) (w : World) (hs : Sl B w A (xs.flatMap NodeI.cells)) (hl : xs.length ≤ 1048576) (hid : ∀ x ∈ xs, 0 ≤ x.id ∧ x.id ≤ 31) :
    Calls Tryz.prog 114 #[.slice A xs.length c] w (Ret fun v w' => v = .int .i64 (actV xs : Nat) ∧ Ext w w') := by
  have Bhs := hs.1
  have X := Ext.refl w
  refine calls_of (args := [.slice A xs.length c]) Tryz.func114 Tryz.ntmps114 rfl rfl ?_
  refine c_seqR ?_
  refine ops_cons rfl (ow_assign rfl ?_)
  refine ops_nil ?_
  refine c_seqR ?_
  refine ops_cons rfl (ow_assign rfl ?_)
  refine ops_nil ?_
  refine c_seq ?_
  refine c_seqR ?_
  refine ops_cons rfl (ow_move rfl ?_)
  refine ops_cons rfl (ow_len Tryz.underlying24 rfl ?_)
  refine ops_cons rfl (ow_move rfl ?_)
  refine ops_nil ?_
  refine c_block ?_
  refine c_loop (G := Nat × Nat) (fun ⟨k, a⟩ => [(2, .int .i64 0), (6, .slice A xs.length c), (7, .int .i64 (xs.length : Nat)), (3, .int .i64 (a : Nat)), (8, .int .i64 (k : Nat))]) (fun ⟨k, a⟩ wr => k ≤ xs.length ∧ a < 4294967296 ∧ actV xs = vecF (fun x : NodeI => !x.passive) (·.id) a (xs.drop k) ∧ Sl B wr A (xs.flatMap NodeI.cells) ∧ Ext w wr) (fun ⟨k, a⟩ => xs.length - k) (0, 0) (.cons rfl (.cons rfl (.cons rfl (.cons rfl (.cons rfl (.nil _)))))) ?_ ?_
  · exact ⟨by omega, (by omega), rfl, hs, X⟩
  clear hs
  clear X
  rintro ⟨k, a⟩ wr ⟨hk0, ha, hi, hs, X⟩
  refine c_seqR ?_
  refine ops_cons rfl (ow_lss2 rfl rfl (fun hk => ?_) (fun hk => ?_))
  obtain ⟨x, hx, dx⟩ := drop_at' hk
  have hx2 := hid x (List.mem_of_getElem? hx)
  refine ops_nil ?_
  refine c_seq ?_
  refine c_true rfl ?_
  refine c_skip ?_
  refine tq_n ?_
  refine c_seq ?_
  refine c_block ?_
  refine c_seqR ?_
  refine ops_cons rfl (ow_indexT hs NodeI.len rfl el24 rfl rfl rfl hx rfl ?_)
  refine ops_cons rfl (ow_loadTA hs NodeI.len hx ti59 rfl ?_)
  refine ops_cons rfl (ow_alloc ti59 ?_)
  intro g4 w3 eg4 b1 x2 zg4
  have lg4 : w.heap.size ≤ g4 := Nat.le_trans X.size (Nat.le_of_eq eg4.symm)
  have pg4hs := Nat.le_trans hs.1 (Nat.le_of_eq eg4.symm)
  replace hs := hs.ext x2
  replace X := Ext.trans X x2; clear x2
  refine ops_cons rfl (ow_storeB b1 ti59 rfl rfl rfl rfl rfl rfl ?_)
  intro w6 b8 hg5 z7
  replace hs := hs.grown hg5 (by intro g hg; injection hg; omega)
  replace X := X.grown hg5 X.size (by intro g hg; injection hg; omega)
  clear hg5 b1
  refine ops_nil ?_
  refine c_seqR ?_
  refine ops_cons rfl (ow_fieldAddrB off59_3 rfl rfl ?_)
  refine ops_cons rfl (ow_loadB b8 ti4 rfl rfl ?_)
  refine ops_cons rfl (ow_not rfl ?_)
  refine ops_nil ?_
  refine c_split rfl (fun h9 => ?_) (fun h9 => ?_)
  refine c_region ?_
  refine ops_cons rfl (ow_move rfl ?_)
  refine ops_cons rfl (ow_fieldAddrB off59_0 rfl rfl ?_)
  refine ops_cons rfl (ow_loadB b8 ti2 rfl rfl ?_)
  refine ops_cons rfl (ow_shl rfl rfl hx2.1 rfl ?_)
  refine ops_cons rfl (ow_or rfl rfl (bits_with ha hx2) ?_)
  refine ops_cons rfl (ow_assign rfl ?_)
  refine ops_nil ?_
  refine bq_n ?_
  refine tq_n ?_
  refine c_region ?_
  refine ops_cons rfl (ow_add rfl rfl (w64 (by omega)) ?_)
  refine ops_cons rfl (ow_move rfl ?_)
  refine ops_nil ?_
  refine tq_n ⟨(k + 1, withN a x.id), (.cons rfl (.cons rfl (.cons rfl (.cons rfl (.cons rfl (.nil _)))))), ?_, ?_⟩
  · exact ⟨by omega, (withN_lt ha hx2), (by rw [hi, dx, vecF]; simp [*]), hs, X⟩
  · first | omega | (dsimp only; omega)
  refine c_skip ?_
  refine bq_n ?_
  refine tq_n ?_
  refine c_region ?_
  refine ops_cons rfl (ow_add rfl rfl (w64 (by omega)) ?_)
  refine ops_cons rfl (ow_move rfl ?_)
  refine ops_nil ?_
  refine tq_n ⟨(k + 1, a), (.cons rfl (.cons rfl (.cons rfl (.cons rfl (.cons rfl (.nil _)))))), ?_, ?_⟩
  · exact ⟨by omega, ha, (by rw [hi, dx, vecF]; simp [*]), hs, X⟩
  · first | omega | (dsimp only; omega)
  refine ops_nil ?_
  refine c_seq ?_
  refine c_false rfl ?_
  refine c_exit ?_
  refine tq_e ?_
  refine tq_e ?_
  refine bq_e ?_
  refine tq_n ?_
  refine c_seqR ?_
  refine ops_cons rfl (ow_move rfl ?_)
  refine ops_cons rfl (ow_assign rfl ?_)
  refine ops_nil ?_
  refine c_ret ?_
  refine fin_ret1 rfl rfl ?_
  exact ⟨by rw [hi, drop_end hk]; rfl, X⟩

theorem l10Name_c (s : ByteArray) (w : World) (hm : s.size ≤ 9223372036854775807) :
    Calls Tryz.prog 276 #[.string s] w (Ret fun v w' => v = .bool (nameOk s) ∧ Ext w w') := by
  have hsz : s.data.toList.length = s.size := by simp
  have X := Ext.refl w
  refine calls_of (args := [.string s]) Tryz.func276 Tryz.ntmps276 rfl rfl ?_
  refine c_seqR ?_
  refine ops_cons rfl (ow_assign rfl ?_)
  refine ops_nil ?_
  refine c_seq ?_
  refine c_seqR ?_
  refine ops_cons rfl (ow_assign rfl ?_)
  refine ops_nil ?_
  refine c_block ?_
  refine c_loop (G := Nat) (fun k => [(0, .string s), (3, .int .i64 (k : Nat))]) (fun k wr => k ≤ s.size ∧ s.data.toList.all nameB = (s.data.toList.drop k).all nameB ∧ Ext w wr) (fun k => s.size - k) 0 (.cons rfl (.cons rfl (.nil _))) ?_ ?_
  · exact ⟨by omega, rfl, X⟩
  clear X
  rintro k wr ⟨hk0, hi, X⟩
  refine c_seq ?_
  refine c_seqR ?_
  refine ops_cons rfl (ow_move rfl ?_)
  refine ops_cons rfl (ow_move rfl ?_)
  refine ops_cons rfl (ow_lenS Tryz.underlying9 rfl ?_)
  refine ops_cons rfl (ow_lss2 rfl rfl (fun hk => ?_) (fun hk => ?_))
  obtain ⟨x, hx, dx⟩ := drop_at' (xs := s.data.toList) (k := k) (by omega)
  have hg : s.data.toList.getD ((k : Int)).toNat 0 = x := by rw [List.getD_eq_getElem?_getD, Int.toNat_natCast, hx]; rfl
  refine ops_nil ?_
  refine c_true rfl ?_
  refine c_skip ?_
  refine tq_n ?_
  refine c_seq ?_
  refine c_block ?_
  refine c_seqR ?_
  refine ops_cons rfl (ow_move rfl ?_)
  refine ops_cons rfl (ow_move rfl ?_)
  refine ops_cons rfl (ow_indexS Tryz.underlying9 rfl rfl (by omega) (by omega) ?_)
  refine ops_cons rfl (ow_lss2 rfl rfl (fun c1 => ?_) (fun c1 => ?_))
  refine ops_cons rfl (ow_move rfl ?_)
  refine ops_skip rfl rfl rfl rfl ?_
  refine ops_skip rfl rfl rfl rfl ?_
  refine ops_skip rfl rfl rfl rfl ?_
  refine ops_skip rfl rfl rfl rfl ?_
  refine ops_cons rfl (ow_pick rfl rfl ?_)
  refine ops_cons rfl (ow_move rfl ?_)
  refine ops_want rfl rfl rfl (ow_move rfl ?_)
  refine ops_want rfl rfl rfl (ow_move rfl ?_)
  refine ops_want rfl rfl rfl (ow_indexS Tryz.underlying9 rfl rfl (by omega) (by omega) ?_)
  refine ops_want rfl rfl rfl (ow_lss2 rfl rfl (fun c3 => ?_) (fun c3 => ?_))
  refine ops_want rfl rfl rfl (ow_move rfl ?_)
  refine ops_skip rfl rfl rfl rfl ?_
  refine ops_skip rfl rfl rfl rfl ?_
  refine ops_skip rfl rfl rfl rfl ?_
  refine ops_skip rfl rfl rfl rfl ?_
  refine ops_want rfl rfl rfl (ow_pick rfl rfl ?_)
  refine ops_cons rfl (ow_pick rfl rfl ?_)
  refine ops_nil ?_
  refine c_true rfl ?_
  refine c_seqR ?_
  refine ops_cons rfl (ow_assign rfl ?_)
  refine ops_nil ?_
  refine c_ret ?_
  refine bq_r ?_
  refine tq_r ?_
  refine tq_r ?_
  refine bq_r ?_
  refine tq_r ?_
  refine fin_ret1 rfl rfl ?_
  · skip
    refine ⟨congrArg Value.bool ?_, X⟩
    first
    | (have hd : s.data.toList.drop k = [] := drop_end (by omega)
       rw [nameOk, hi, hd]; simp [*]; done)
    | (have hd : s.data.toList.drop k = [] := drop_end (by omega)
       rw [nameOk, hi, hd, Bool.eq_iff_iff]; simp; omega)
    | (simp only [hg] at *
       have hb : nameB x = false := by
         cases e : nameB x
         · rfl
         · simp only [nameB, Bool.or_eq_true, Bool.and_eq_true, decide_eq_true_eq] at e; omega
       rw [nameOk, hi, dx, List.all_cons, hb]; rfl)
  refine ops_want rfl rfl rfl (ow_move rfl ?_)
  refine ops_want rfl rfl rfl (ow_move rfl ?_)
  refine ops_want rfl rfl rfl (ow_move rfl ?_)
  refine ops_want rfl rfl rfl (ow_indexS Tryz.underlying9 rfl rfl (by omega) (by omega) ?_)
  refine ops_want rfl rfl rfl (ow_gtr2 rfl rfl (fun c4 => ?_) (fun c4 => ?_))
  refine ops_want rfl rfl rfl (ow_pick rfl rfl ?_)
  refine ops_cons rfl (ow_pick rfl rfl ?_)
  refine ops_nil ?_
  refine c_true rfl ?_
  refine c_seqR ?_
  refine ops_cons rfl (ow_assign rfl ?_)
  refine ops_nil ?_
  refine c_ret ?_
  refine bq_r ?_
  refine tq_r ?_
  refine tq_r ?_
  refine bq_r ?_
  refine tq_r ?_
  refine fin_ret1 rfl rfl ?_
  · skip
    refine ⟨congrArg Value.bool ?_, X⟩
    first
    | (have hd : s.data.toList.drop k = [] := drop_end (by omega)
       rw [nameOk, hi, hd]; simp [*]; done)
    | (have hd : s.data.toList.drop k = [] := drop_end (by omega)
       rw [nameOk, hi, hd, Bool.eq_iff_iff]; simp; omega)
    | (simp only [hg] at *
       have hb : nameB x = false := by
         cases e : nameB x
         · rfl
         · simp only [nameB, Bool.or_eq_true, Bool.and_eq_true, decide_eq_true_eq] at e; omega
       rw [nameOk, hi, dx, List.all_cons, hb]; rfl)
  refine ops_want rfl rfl rfl (ow_pick rfl rfl ?_)
  refine ops_cons rfl (ow_pick rfl rfl ?_)
  refine ops_nil ?_
  refine c_false rfl ?_
  refine c_skip ?_
  refine bq_n ?_
  refine tq_n ?_
  refine c_region ?_
  refine ops_cons rfl (ow_move rfl ?_)
  refine ops_cons rfl (ow_add rfl rfl (w64 (by omega)) ?_)
  refine ops_cons rfl (ow_assign rfl ?_)
  refine ops_nil ?_
  refine tq_n ⟨k + 1, (.cons rfl (.cons rfl (.nil _))), ?_, ?_⟩
  · skip
    exact ⟨by omega, (by
      simp only [hg] at *
      rw [hi, dx, List.all_cons]
      have hb : nameB x = true := by simp only [nameB, Bool.or_eq_true, Bool.and_eq_true, decide_eq_true_eq]; omega
      rw [hb]; rfl), X⟩
  · first | omega | (dsimp only; omega)
  refine ops_cons rfl (ow_move rfl ?_)
  refine ops_want rfl rfl rfl (ow_move rfl ?_)
  refine ops_want rfl rfl rfl (ow_move rfl ?_)
  refine ops_want rfl rfl rfl (ow_indexS Tryz.underlying9 rfl rfl (by omega) (by omega) ?_)
  refine ops_want rfl rfl rfl (ow_gtr2 rfl rfl (fun c2 => ?_) (fun c2 => ?_))
  refine ops_cons rfl (ow_pick rfl rfl ?_)
  refine ops_cons rfl (ow_move rfl ?_)
  refine ops_want rfl rfl rfl (ow_move rfl ?_)
  refine ops_want rfl rfl rfl (ow_move rfl ?_)
  refine ops_want rfl rfl rfl (ow_indexS Tryz.underlying9 rfl rfl (by omega) (by omega) ?_)
  refine ops_want rfl rfl rfl (ow_lss2 rfl rfl (fun c3 => ?_) (fun c3 => ?_))
  refine ops_want rfl rfl rfl (ow_move rfl ?_)
  refine ops_skip rfl rfl rfl rfl ?_
  refine ops_skip rfl rfl rfl rfl ?_
  refine ops_skip rfl rfl rfl rfl ?_
  refine ops_skip rfl rfl rfl rfl ?_
  refine ops_want rfl rfl rfl (ow_pick rfl rfl ?_)
  refine ops_cons rfl (ow_pick rfl rfl ?_)
  refine ops_nil ?_
  refine c_true rfl ?_
  refine c_seqR ?_
  refine ops_cons rfl (ow_assign rfl ?_)
  refine ops_nil ?_
  refine c_ret ?_
  refine bq_r ?_
  refine tq_r ?_
  refine tq_r ?_
  refine bq_r ?_
  refine tq_r ?_
  refine fin_ret1 rfl rfl ?_
  · skip
    refine ⟨congrArg Value.bool ?_, X⟩
    first
    | (have hd : s.data.toList.drop k = [] := drop_end (by omega)
       rw [nameOk, hi, hd]; simp [*]; done)
    | (have hd : s.data.toList.drop k = [] := drop_end (by omega)
       rw [nameOk, hi, hd, Bool.eq_iff_iff]; simp; omega)
    | (simp only [hg] at *
       have hb : nameB x = false := by
         cases e : nameB x
         · rfl
         · simp only [nameB, Bool.or_eq_true, Bool.and_eq_true, decide_eq_true_eq] at e; omega
       rw [nameOk, hi, dx, List.all_cons, hb]; rfl)
  refine ops_want rfl rfl rfl (ow_move rfl ?_)
  refine ops_want rfl rfl rfl (ow_move rfl ?_)
  refine ops_want rfl rfl rfl (ow_move rfl ?_)
  refine ops_want rfl rfl rfl (ow_indexS Tryz.underlying9 rfl rfl (by omega) (by omega) ?_)
  refine ops_want rfl rfl rfl (ow_gtr2 rfl rfl (fun c4 => ?_) (fun c4 => ?_))
  refine ops_want rfl rfl rfl (ow_pick rfl rfl ?_)
  refine ops_cons rfl (ow_pick rfl rfl ?_)
  refine ops_nil ?_
  refine c_true rfl ?_
  refine c_seqR ?_
  refine ops_cons rfl (ow_assign rfl ?_)
  refine ops_nil ?_
  refine c_ret ?_
  refine bq_r ?_
  refine tq_r ?_
  refine tq_r ?_
  refine bq_r ?_
  refine tq_r ?_
  refine fin_ret1 rfl rfl ?_
  · skip
    refine ⟨congrArg Value.bool ?_, X⟩
    first
    | (have hd : s.data.toList.drop k = [] := drop_end (by omega)
       rw [nameOk, hi, hd]; simp [*]; done)
    | (have hd : s.data.toList.drop k = [] := drop_end (by omega)
       rw [nameOk, hi, hd, Bool.eq_iff_iff]; simp; omega)
    | (simp only [hg] at *
       have hb : nameB x = false := by
         cases e : nameB x
         · rfl
         · simp only [nameB, Bool.or_eq_true, Bool.and_eq_true, decide_eq_true_eq] at e; omega
       rw [nameOk, hi, dx, List.all_cons, hb]; rfl)
  refine ops_want rfl rfl rfl (ow_pick rfl rfl ?_)
  refine ops_cons rfl (ow_pick rfl rfl ?_)
  refine ops_nil ?_
  refine c_false rfl ?_
  refine c_skip ?_
  refine bq_n ?_
  refine tq_n ?_
  refine c_region ?_
  refine ops_cons rfl (ow_move rfl ?_)
  refine ops_cons rfl (ow_add rfl rfl (w64 (by omega)) ?_)
  refine ops_cons rfl (ow_assign rfl ?_)
  refine ops_nil ?_
  refine tq_n ⟨k + 1, (.cons rfl (.cons rfl (.nil _))), ?_, ?_⟩
  · skip
    exact ⟨by omega, (by
      simp only [hg] at *
      rw [hi, dx, List.all_cons]
      have hb : nameB x = true := by simp only [nameB, Bool.or_eq_true, Bool.and_eq_true, decide_eq_true_eq]; omega
      rw [hb]; rfl), X⟩
  · first | omega | (dsimp only; omega)
  refine ops_cons rfl (ow_pick rfl rfl ?_)
  refine ops_cons rfl (ow_move rfl ?_)
  refine ops_skip rfl rfl rfl rfl ?_
  refine ops_skip rfl rfl rfl rfl ?_
  refine ops_skip rfl rfl rfl rfl ?_
  refine ops_skip rfl rfl rfl rfl ?_
  refine ops_skip rfl rfl rfl rfl ?_
  refine ops_skip2 rfl rfl rfl ?_
  refine ops_skip2 rfl rfl rfl ?_
  refine ops_skip2 rfl rfl rfl ?_
  refine ops_skip2 rfl rfl rfl ?_
  refine ops_skip rfl rfl rfl rfl ?_
  refine ops_cons rfl (ow_pick rfl rfl ?_)
  refine ops_nil ?_
  refine c_false rfl ?_
  refine c_skip ?_
  refine bq_n ?_
  refine tq_n ?_
  refine c_region ?_
  refine ops_cons rfl (ow_move rfl ?_)
  refine ops_cons rfl (ow_add rfl rfl (w64 (by omega)) ?_)
  refine ops_cons rfl (ow_assign rfl ?_)
  refine ops_nil ?_
  refine tq_n ⟨k + 1, (.cons rfl (.cons rfl (.nil _))), ?_, ?_⟩
  · skip
    exact ⟨by omega, (by
      simp only [hg] at *
      rw [hi, dx, List.all_cons]
      have hb : nameB x = true := by simp only [nameB, Bool.or_eq_true, Bool.and_eq_true, decide_eq_true_eq]; omega
      rw [hb]; rfl), X⟩
  · first | omega | (dsimp only; omega)
  refine ops_nil ?_
  refine c_false rfl ?_
  refine c_exit ?_
  refine tq_e ?_
  refine tq_e ?_
  refine bq_e ?_
  refine tq_n ?_
  refine c_seqR ?_
  refine ops_cons rfl (ow_move rfl ?_)
  refine ops_cons rfl (ow_lenS Tryz.underlying9 rfl ?_)
  refine ops_cons rfl (ow_geq2 rfl rfl (fun h1 => ?_) (fun h1 => ?_))
  refine ops_cons rfl (ow_move rfl ?_)
  refine ops_want rfl rfl rfl (ow_move rfl ?_)
  refine ops_want rfl rfl rfl (ow_lenS Tryz.underlying9 rfl ?_)
  refine ops_want rfl rfl rfl (ow_leq rfl rfl ?_)
  refine ops_cons rfl (ow_pick rfl rfl ?_)
  refine ops_cons rfl (ow_assign rfl ?_)
  refine ops_nil ?_
  refine c_ret ?_
  refine fin_ret1 rfl rfl ?_
  · skip
    refine ⟨congrArg Value.bool ?_, X⟩
    first
    | (have hd : s.data.toList.drop k = [] := drop_end (by omega)
       rw [nameOk, hi, hd]; simp [*]; done)
    | (have hd : s.data.toList.drop k = [] := drop_end (by omega)
       rw [nameOk, hi, hd, Bool.eq_iff_iff]; simp; omega)
    | (simp only [hg] at *
       have hb : nameB x = false := by
         cases e : nameB x
         · rfl
         · simp only [nameB, Bool.or_eq_true, Bool.and_eq_true, decide_eq_true_eq] at e; omega
       rw [nameOk, hi, dx, List.all_cons, hb]; rfl)
  refine ops_cons rfl (ow_move rfl ?_)
  refine ops_skip rfl rfl rfl rfl ?_
  refine ops_skip rfl rfl rfl rfl ?_
  refine ops_skip rfl rfl rfl rfl ?_
  refine ops_cons rfl (ow_pick rfl rfl ?_)
  refine ops_cons rfl (ow_assign rfl ?_)
  refine ops_nil ?_
  refine c_ret ?_
  refine fin_ret1 rfl rfl ?_
  · skip
    refine ⟨congrArg Value.bool ?_, X⟩
    first
    | (have hd : s.data.toList.drop k = [] := drop_end (by omega)
       rw [nameOk, hi, hd]; simp [*]; done)
    | (have hd : s.data.toList.drop k = [] := drop_end (by omega)
       rw [nameOk, hi, hd, Bool.eq_iff_iff]; simp; omega)
    | (simp only [hg] at *
       have hb : nameB x = false := by
         cases e : nameB x
         · rfl
         · simp only [nameB, Bool.or_eq_true, Bool.and_eq_true, decide_eq_true_eq] at e; omega
       rw [nameOk, hi, dx, List.all_cons, hb]; rfl)

theorem sIsNode_c (x : NodeI) (w : World) (hm : x.name.size ≤ 9223372036854775807) :
    Calls Tryz.prog 258 #[.agg x.cells.toArray] w (Ret fun v w' => v = .bool (nodeOk x) ∧ Ext w w') := by
  have X := Ext.refl w
  refine calls_of (args := [.agg x.cells.toArray]) Tryz.func258 Tryz.ntmps258 rfl rfl ?_
  refine c_seqR ?_
  refine ops_cons rfl (ow_box rfl rfl ?_)
  intro g4 w3 eg4 b1 x2 zg4
  have lg4 : w.heap.size ≤ g4 := Nat.le_trans X.size (Nat.le_of_eq eg4.symm)
  replace X := Ext.trans X x2; clear x2
  refine ops_cons rfl (ow_assign rfl ?_)
  refine ops_nil ?_
  refine c_seqR ?_
  refine ops_cons rfl (ow_fieldAddrB off59_0 rfl rfl ?_)
  refine ops_cons rfl (ow_loadB b1 ti2 rfl rfl ?_)
  refine ops_cons rfl (ow_callB ent275 rfl (l05Node_c _ _) (fun w7 h5 x6 => ?_) (fun w7 h5 x6 => ?_))
  replace b1 := b1.ext x6
  replace X := Ext.trans X x6; clear x6
  refine ops_cons rfl (ow_move rfl ?_)
  refine ops_want rfl rfl rfl (ow_fieldAddrB off59_1 rfl rfl ?_)
  refine ops_want rfl rfl rfl (ow_loadB b1 ti9 rfl rfl ?_)
  refine ops_want rfl rfl rfl (ow_callB ent276 rfl (l10Name_c _ _ hm) (fun w10 h8 x9 => ?_) (fun w10 h8 x9 => ?_))
  replace b1 := b1.ext x9
  replace X := Ext.trans X x9; clear x9
  refine ops_cons rfl (ow_pick rfl rfl ?_)
  refine ops_cons rfl (ow_move rfl ?_)
  refine ops_want rfl rfl rfl (ow_fieldAddrB off59_2 rfl rfl ?_)
  refine ops_want rfl rfl rfl (ow_loadB b1 ti2 rfl rfl ?_)
  refine ops_want rfl rfl rfl (ow_call ent111 rfl (ret_mono (l01In_c _ _ _ _) ?_))
  rintro _ w12 ⟨rfl, x11⟩
  replace b1 := b1.ext x11
  replace X := Ext.trans X x11; clear x11
  refine ops_cons rfl (ow_pick rfl rfl ?_)
  refine ops_cons rfl (ow_assign rfl ?_)
  refine ops_nil ?_
  refine c_ret ?_
  refine fin_ret1 rfl rfl ?_
  · skip
    refine ⟨congrArg Value.bool ?_, X⟩
    simp [nodeOk, *]
  replace b1 := b1.ext x9
  replace X := Ext.trans X x9; clear x9
  refine ops_cons rfl (ow_pick rfl rfl ?_)
  refine ops_cons rfl (ow_move rfl ?_)
  refine ops_skip rfl rfl rfl rfl ?_
  refine ops_skip rfl rfl rfl rfl ?_
  refine ops_skip rfl rfl rfl rfl ?_
  refine ops_cons rfl (ow_pick rfl rfl ?_)
  refine ops_cons rfl (ow_assign rfl ?_)
  refine ops_nil ?_
  refine c_ret ?_
  refine fin_ret1 rfl rfl ?_
  · skip
    refine ⟨congrArg Value.bool ?_, X⟩
    simp [nodeOk, *]
  replace b1 := b1.ext x6
  replace X := Ext.trans X x6; clear x6
  refine ops_cons rfl (ow_move rfl ?_)
  refine ops_skip rfl rfl rfl rfl ?_
  refine ops_skip rfl rfl rfl rfl ?_
  refine ops_skip rfl rfl rfl rfl ?_
  refine ops_cons rfl (ow_pick rfl rfl ?_)
  refine ops_cons rfl (ow_move rfl ?_)
  refine ops_skip rfl rfl rfl rfl ?_
  refine ops_skip rfl rfl rfl rfl ?_
  refine ops_skip rfl rfl rfl rfl ?_
  refine ops_cons rfl (ow_pick rfl rfl ?_)
  refine ops_cons rfl (ow_assign rfl ?_)
  refine ops_nil ?_
  refine c_ret ?_
  refine fin_ret1 rfl rfl ?_
  · skip
    refine ⟨congrArg Value.bool ?_, X⟩
    simp [nodeOk, *]

theorem iIsNode_c (x : NodeI) (w : World) (hm : x.name.size ≤ 9223372036854775807) :
    Calls Tryz.prog 197 #[.agg x.cells.toArray] w (Ret fun v w' => v = .bool (nodeOk x) ∧ Ext w w') := by
  have X := Ext.refl w
  refine calls_of (args := [.agg x.cells.toArray]) Tryz.func197 Tryz.ntmps197 rfl rfl ?_
  refine c_seqR ?_
  refine ops_cons rfl (ow_box rfl rfl ?_)
  intro g4 w3 eg4 b1 x2 zg4
  have lg4 : w.heap.size ≤ g4 := Nat.le_trans X.size (Nat.le_of_eq eg4.symm)
  replace X := Ext.trans X x2; clear x2
  refine ops_cons rfl (ow_assign rfl ?_)
  refine ops_nil ?_
  refine c_seqR ?_
  refine ops_cons rfl (ow_fieldAddrB off59_1 rfl rfl ?_)
  refine ops_cons rfl (ow_loadB b1 ti9 rfl rfl ?_)
  refine ops_cons rfl (ow_lenS Tryz.underlying9 rfl ?_)
  refine ops_cons rfl (ow_geq2 rfl rfl (fun n1 => ?_) (fun n1 => ?_))
  refine ops_cons rfl (ow_move rfl ?_)
  refine ops_want rfl rfl rfl (ow_fieldAddrB off59_1 rfl rfl ?_)
  refine ops_want rfl rfl rfl (ow_loadB b1 ti9 rfl rfl ?_)
  refine ops_want rfl rfl rfl (ow_lenS Tryz.underlying9 rfl ?_)
  refine ops_want rfl rfl rfl (ow_leq2 rfl rfl (fun n2 => ?_) (fun n2 => ?_))
  refine ops_cons rfl (ow_pick rfl rfl ?_)
  refine ops_cons rfl (ow_move rfl ?_)
  refine ops_want rfl rfl rfl (ow_fieldAddrB off59_1 rfl rfl ?_)
  refine ops_want rfl rfl rfl (ow_loadB b1 ti9 rfl rfl ?_)
  refine ops_want rfl rfl rfl (ow_call ent248 rfl (ret_mono (trim_c _ _ hm) ?_))
  rintro _ w6 ⟨rfl, x5⟩
  replace b1 := b1.ext x5
  replace X := Ext.trans X x5; clear x5
  refine ops_want rfl rfl rfl (ow_eqlS2 rfl rfl (fun n3 => ?_) (fun n3 => ?_))
  refine ops_cons rfl (ow_pick rfl rfl ?_)
  refine ops_cons rfl (ow_assign rfl ?_)
  refine ops_nil ?_
  refine c_seqR ?_
  refine ops_cons rfl (ow_move rfl ?_)
  refine ops_cons rfl (ow_move rfl ?_)
  refine ops_want rfl rfl rfl (ow_fieldAddrB off59_0 rfl rfl ?_)
  refine ops_want rfl rfl rfl (ow_loadB b1 ti2 rfl rfl ?_)
  refine ops_want rfl rfl rfl (ow_callB ent116 rfl (isNode_c _ _) (fun w9 h7 x8 => ?_) (fun w9 h7 x8 => ?_))
  replace b1 := b1.ext x8
  replace X := Ext.trans X x8; clear x8
  refine ops_cons rfl (ow_pick rfl rfl ?_)
  refine ops_cons rfl (ow_move rfl ?_)
  refine ops_want rfl rfl rfl (ow_fieldAddrB off59_2 rfl rfl ?_)
  refine ops_want rfl rfl rfl (ow_loadB b1 ti2 rfl rfl ?_)
  refine ops_want rfl rfl rfl (ow_call ent109 rfl (ret_mono (within_c _ _ _ _) ?_))
  rintro _ w11 ⟨rfl, x10⟩
  replace b1 := b1.ext x10
  replace X := Ext.trans X x10; clear x10
  refine ops_cons rfl (ow_pick rfl rfl ?_)
  refine ops_cons rfl (ow_assign rfl ?_)
  refine ops_nil ?_
  refine c_ret ?_
  refine fin_ret1 rfl rfl ?_
  · skip
    refine ⟨congrArg Value.bool ?_, X⟩
    first
    | (rw [trimV_nil] at n3; simp only [nodeOk, nameOk, n3, decide_eq_true (show 1 ≤ x.name.size by omega), decide_eq_true (show x.name.size ≤ 6 by omega)]; simp [*]; done)
    | (rw [trimV_nil] at n3; simp only [nodeOk, nameOk, n3]; simp; done)
    | (simp only [nodeOk, nameOk, decide_eq_false (show ¬ x.name.size ≤ 6 by omega)]; simp; done)
    | (simp only [nodeOk, nameOk, decide_eq_false (show ¬ 1 ≤ x.name.size by omega)]; simp; done)
  replace b1 := b1.ext x8
  replace X := Ext.trans X x8; clear x8
  refine ops_cons rfl (ow_pick rfl rfl ?_)
  refine ops_cons rfl (ow_move rfl ?_)
  refine ops_skip rfl rfl rfl rfl ?_
  refine ops_skip rfl rfl rfl rfl ?_
  refine ops_skip rfl rfl rfl rfl ?_
  refine ops_cons rfl (ow_pick rfl rfl ?_)
  refine ops_cons rfl (ow_assign rfl ?_)
  refine ops_nil ?_
  refine c_ret ?_
  refine fin_ret1 rfl rfl ?_
  · skip
    refine ⟨congrArg Value.bool ?_, X⟩
    first
    | (rw [trimV_nil] at n3; simp only [nodeOk, nameOk, n3, decide_eq_true (show 1 ≤ x.name.size by omega), decide_eq_true (show x.name.size ≤ 6 by omega)]; simp [*]; done)
    | (rw [trimV_nil] at n3; simp only [nodeOk, nameOk, n3]; simp; done)
    | (simp only [nodeOk, nameOk, decide_eq_false (show ¬ x.name.size ≤ 6 by omega)]; simp; done)
    | (simp only [nodeOk, nameOk, decide_eq_false (show ¬ 1 ≤ x.name.size by omega)]; simp; done)
  refine ops_cons rfl (ow_pick rfl rfl ?_)
  refine ops_cons rfl (ow_assign rfl ?_)
  refine ops_nil ?_
  refine c_seqR ?_
  refine ops_cons rfl (ow_move rfl ?_)
  refine ops_cons rfl (ow_move rfl ?_)
  refine ops_skip rfl rfl rfl rfl ?_
  refine ops_skip rfl rfl rfl rfl ?_
  refine ops_skip rfl rfl rfl rfl ?_
  refine ops_cons rfl (ow_pick rfl rfl ?_)
  refine ops_cons rfl (ow_move rfl ?_)
  refine ops_skip rfl rfl rfl rfl ?_
  refine ops_skip rfl rfl rfl rfl ?_
  refine ops_skip rfl rfl rfl rfl ?_
  refine ops_cons rfl (ow_pick rfl rfl ?_)
  refine ops_cons rfl (ow_assign rfl ?_)
  refine ops_nil ?_
  refine c_ret ?_
  refine fin_ret1 rfl rfl ?_
  · skip
    refine ⟨congrArg Value.bool ?_, X⟩
    first
    | (rw [trimV_nil] at n3; simp only [nodeOk, nameOk, n3, decide_eq_true (show 1 ≤ x.name.size by omega), decide_eq_true (show x.name.size ≤ 6 by omega)]; simp [*]; done)
    | (rw [trimV_nil] at n3; simp only [nodeOk, nameOk, n3]; simp; done)
    | (simp only [nodeOk, nameOk, decide_eq_false (show ¬ x.name.size ≤ 6 by omega)]; simp; done)
    | (simp only [nodeOk, nameOk, decide_eq_false (show ¬ 1 ≤ x.name.size by omega)]; simp; done)
  refine ops_cons rfl (ow_pick rfl rfl ?_)
  refine ops_cons rfl (ow_move rfl ?_)
  refine ops_skip rfl rfl rfl rfl ?_
  refine ops_skip rfl rfl rfl rfl ?_
  refine ops_skip rfl rfl rfl rfl ?_
  refine ops_skip rfl rfl rfl rfl ?_
  refine ops_cons rfl (ow_pick rfl rfl ?_)
  refine ops_cons rfl (ow_assign rfl ?_)
  refine ops_nil ?_
  refine c_seqR ?_
  refine ops_cons rfl (ow_move rfl ?_)
  refine ops_cons rfl (ow_move rfl ?_)
  refine ops_skip rfl rfl rfl rfl ?_
  refine ops_skip rfl rfl rfl rfl ?_
  refine ops_skip rfl rfl rfl rfl ?_
  refine ops_cons rfl (ow_pick rfl rfl ?_)
  refine ops_cons rfl (ow_move rfl ?_)
  refine ops_skip rfl rfl rfl rfl ?_
  refine ops_skip rfl rfl rfl rfl ?_
  refine ops_skip rfl rfl rfl rfl ?_
  refine ops_cons rfl (ow_pick rfl rfl ?_)
  refine ops_cons rfl (ow_assign rfl ?_)
  refine ops_nil ?_
  refine c_ret ?_
  refine fin_ret1 rfl rfl ?_
  · skip
    refine ⟨congrArg Value.bool ?_, X⟩
    first
    | (rw [trimV_nil] at n3; simp only [nodeOk, nameOk, n3, decide_eq_true (show 1 ≤ x.name.size by omega), decide_eq_true (show x.name.size ≤ 6 by omega)]; simp [*]; done)
    | (rw [trimV_nil] at n3; simp only [nodeOk, nameOk, n3]; simp; done)
    | (simp only [nodeOk, nameOk, decide_eq_false (show ¬ x.name.size ≤ 6 by omega)]; simp; done)
    | (simp only [nodeOk, nameOk, decide_eq_false (show ¬ 1 ≤ x.name.size by omega)]; simp; done)
  refine ops_cons rfl (ow_move rfl ?_)
  refine ops_skip rfl rfl rfl rfl ?_
  refine ops_skip rfl rfl rfl rfl ?_
  refine ops_skip rfl rfl rfl rfl ?_
  refine ops_skip rfl rfl rfl rfl ?_
  refine ops_cons rfl (ow_pick rfl rfl ?_)
  refine ops_cons rfl (ow_move rfl ?_)
  refine ops_skip rfl rfl rfl rfl ?_
  refine ops_skip rfl rfl rfl rfl ?_
  refine ops_skip rfl rfl rfl rfl ?_
  refine ops_skip rfl rfl rfl rfl ?_
  refine ops_cons rfl (ow_pick rfl rfl ?_)
  refine ops_cons rfl (ow_assign rfl ?_)
  refine ops_nil ?_
  refine c_seqR ?_
  refine ops_cons rfl (ow_move rfl ?_)
  refine ops_cons rfl (ow_move rfl ?_)
  refine ops_skip rfl rfl rfl rfl ?_
  refine ops_skip rfl rfl rfl rfl ?_
  refine ops_skip rfl rfl rfl rfl ?_
  refine ops_cons rfl (ow_pick rfl rfl ?_)
  refine ops_cons rfl (ow_move rfl ?_)
  refine ops_skip rfl rfl rfl rfl ?_
  refine ops_skip rfl rfl rfl rfl ?_
  refine ops_skip rfl rfl rfl rfl ?_
  refine ops_cons rfl (ow_pick rfl rfl ?_)
  refine ops_cons rfl (ow_assign rfl ?_)
  refine ops_nil ?_
  refine c_ret ?_
  refine fin_ret1 rfl rfl ?_
  · skip
    refine ⟨congrArg Value.bool ?_, X⟩
    first
    | (rw [trimV_nil] at n3; simp only [nodeOk, nameOk, n3, decide_eq_true (show 1 ≤ x.name.size by omega), decide_eq_true (show x.name.size ≤ 6 by omega)]; simp [*]; done)
    | (rw [trimV_nil] at n3; simp only [nodeOk, nameOk, n3]; simp; done)
    | (simp only [nodeOk, nameOk, decide_eq_false (show ¬ x.name.size ≤ 6 by omega)]; simp; done)
    | (simp only [nodeOk, nameOk, decide_eq_false (show ¬ 1 ≤ x.name.size by omega)]; simp; done)
end Go.Proofs.YtdoibplhbdkapaaGreatDoor
