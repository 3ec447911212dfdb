/- Rows of tables are compared, marked and read again. No condition. -/
import Derived.Test.YtimabffnoanciaaPV
import Derived.Test.YtimabffnoanciaaFlowH
import Derived.Test.YtimabffnoanciaaFlowG
namespace Go.Proofs.Ytimabffnoanciaa
open Go.RowKit
set_option linter.unusedVariables false
set_option linter.unusedSimpArgs false
set_option maxRecDepth 20000
def mkRow (a : Int) (x : ModeI) : ModeI := ⟨⟨x.m.rounds, x.m.slots, seqI a x.m.next.length⟩, x.A, x.c⟩
def mkRows : Int → List ModeI → List ModeI
  | _, [] => []
  | a, x :: r => mkRow a x :: mkRows (a + x.m.next.length) r
def endRows : Int → List ModeI → Int
  | a, [] => a
  | a, x :: r => endRows (a + x.m.next.length) r
theorem mkRow_blk (a : Int) (x : ModeI) : (mkRow a x).blk = x.blk := by unfold ModeI.blk mkRow; simp only [seqI_len]
theorem mkRow_row (a : Int) (x : ModeI) : rowC (mkRow a x) = rowC x := by unfold rowC mkRow; simp only [seqI_len]
theorem mkRow_len (a : Int) (x : ModeI) : (mkRow a x).m.next.length = x.m.next.length := seqI_len _ _
theorem mkRows_len : ∀ (m : Int) (l : List ModeI), (mkRows m l).length = l.length
  | _, [] => rfl
  | m, x :: r => by rw [mkRows, List.length_cons, List.length_cons, mkRows_len]
theorem mkRows_flat : ∀ (m : Int) (l : List ModeI), (mkRows m l).flatMap rowC = l.flatMap rowC
  | _, [] => rfl
  | m, x :: r => by rw [mkRows, List.flatMap_cons, List.flatMap_cons, mkRow_row, mkRows_flat]
theorem mkRows_blk : ∀ (m : Int) (l : List ModeI), (mkRows m l).map ModeI.blk = l.map ModeI.blk
  | _, [] => rfl
  | m, x :: r => by rw [mkRows, List.map_cons, List.map_cons, mkRow_blk, mkRows_blk]
theorem mkRows_at : ∀ (m : Int) (l : List ModeI) (k : Nat) (x : ModeI), l[k]? = some x → (mkRows m l)[k]? = some (mkRow (endRows m (l.take k)) x)
  | _, [], k, x, h => by simp at h
  | m, y :: r, 0, x, h => by simp at h; subst h; rfl
  | m, y :: r, k + 1, x, h => by
    rw [mkRows, List.getElem?_cons_succ, List.take_succ_cons, endRows]
    exact mkRows_at _ r k x (by simpa using h)
theorem endRows_snoc : ∀ (m : Int) (l : List ModeI) (x : ModeI), endRows m (l ++ [x]) = endRows m l + x.m.next.length
  | m, [], x => rfl
  | m, y :: r, x => by rw [List.cons_append, endRows, endRows, endRows_snoc]
theorem mkRows_snoc : ∀ (m : Int) (l : List ModeI) (x : ModeI), mkRows m (l ++ [x]) = mkRows m l ++ [mkRow (endRows m l) x]
  | m, [], x => rfl
  | m, y :: r, x => by rw [List.cons_append, mkRows, mkRows_snoc, mkRows, endRows]; rfl
theorem endRows_step {m : Int} {xs : List ModeI} {k : Nat} {x : ModeI} (hx : xs[k]? = some x) : endRows m (xs.take (k + 1)) = endRows m (xs.take k) + x.m.next.length := by rw [List.take_add_one, hx]; exact endRows_snoc _ _ _
/-- the rows of which the first k have been marked -/
def mrk (m : Int) (xs : List ModeI) (k : Nat) : List ModeI := mkRows m (xs.take k) ++ xs.drop k
theorem mrk_at {m : Int} {xs : List ModeI} {k : Nat} {x : ModeI} (hx : xs[k]? = some x) : (mrk m xs k)[k]? = some x := by
  have hk := (List.getElem?_eq_some_iff.1 hx).1
  have e : (mkRows m (xs.take k)).length = k := by rw [mkRows_len, List.length_take]; omega
  rw [mrk, List.getElem?_append_right (by omega), e, Nat.sub_self, List.getElem?_drop, Nat.add_zero, hx]
theorem mrk_len (m : Int) (xs : List ModeI) (k : Nat) : (mrk m xs k).length = xs.length := by rw [mrk, List.length_append, mkRows_len, List.length_take, List.length_drop]; omega
theorem mrk_flat (m : Int) (xs : List ModeI) (k : Nat) : (mrk m xs k).flatMap rowC = xs.flatMap rowC := by rw [mrk, List.flatMap_append, mkRows_flat, ← List.flatMap_append, List.take_append_drop]
theorem mrk_blk (m : Int) (xs : List ModeI) (k : Nat) : (mrk m xs k).map ModeI.blk = xs.map ModeI.blk := by rw [mrk, List.map_append, mkRows_blk, ← List.map_append, List.take_append_drop]
theorem mrk_set {m : Int} {xs : List ModeI} {k : Nat} {x : ModeI} (hx : xs[k]? = some x) : (mrk m xs k).set k (mkRow (endRows m (xs.take k)) x) = mrk m xs (k + 1) := by
  have hk := (List.getElem?_eq_some_iff.1 hx).1
  have e : (mkRows m (xs.take k)).length = k := by rw [mkRows_len, List.length_take]; omega
  have e2 : xs[k] = x := by have := List.getElem?_eq_getElem hk; rw [hx] at this; injection this with h; exact h.symm
  rw [mrk, mrk, List.take_add_one, hx, Option.toList_some, mkRows_snoc, List.set_append_right _ _ (by omega), e, Nat.sub_self, List.drop_eq_getElem_cons hk, List.set_cons_zero, List.append_assoc]; rfl
theorem mrk_end (m : Int) (xs : List ModeI) : mrk m xs xs.length = mkRows m xs := by rw [mrk, List.take_length, List.drop_length, List.append_nil]
theorem Disj.ofBlk {xs ys : List ModeI} (h : ys.map ModeI.blk = xs.map ModeI.blk) (hd : Disj xs) : Disj ys := fun i j a b hi hj hij g ha hb => by
  have h1 := congrArg (fun l => l[i]?) h
  have h2 := congrArg (fun l => l[j]?) h
  simp only [List.getElem?_map, hi, hj, Option.map_some] at h1 h2
  cases h3 : xs[i]? with
  | none => rw [h3] at h1; simp at h1
  | some x =>
    cases h4 : xs[j]? with
    | none => rw [h4] at h2; simp at h2
    | some y =>
      rw [h3] at h1; rw [h4] at h2
      simp only [Option.map_some, Option.some.injEq] at h1 h2
      exact hd i j x y h3 h4 hij g (by rw [← h1]; exact ha) (by rw [← h2]; exact hb)
theorem tabF_small {xs : List Dem} {rounds slots : Int} {bks : List Bk} {ys : List ModeI} (e : tblOf ys = (tabF xs rounds slots bks).1) : ys.length ≤ 8 ∧ ∀ y ∈ ys, y.m.next.length ≤ 16 := by
  have h : (tabF xs rounds slots bks).1.length ≤ 8 ∧ ∀ l ∈ (tabF xs rounds slots bks).1, l.length ≤ 16 := by
    by_cases hc : codeP xs rounds slots ≠ 0
    · rw [tabF_code hc]; exact ⟨Nat.zero_le _, fun l hl => by simp at hl⟩
    · obtain ⟨hD, hr, hs⟩ := codeP_ok hc
      rw [tabF, if_neg hc]
      split
      · exact ⟨Nat.zero_le _, fun l hl => by simp at hl⟩
      · rename_i T hT
        have h1 := tabL_tab _ _ _ _ _ hT (tab0_tab rounds.toNat slots.toNat)
        refine ⟨by show T.length ≤ 8; rw [h1.1]; omega, fun l hl => ?_⟩
        rw [h1.2 l hl]; omega
  rw [← e] at h
  refine ⟨by rw [← tblOf_len]; exact h.1, fun y hy => h.2 _ (List.mem_map_of_mem hy)⟩
theorem toInt_c (A : Option Addr) (B c : Nat) (xs : List Int) (w : World) (hs : Sl B w A (xs.flatMap eI)) (hl : xs.length ≤ 1048576) :
    Calls Try.prog 117 #[.slice A xs.length c] w (Ret fun v w' => ∃ A' c', v = .slice A' xs.length c' ∧ Own w' w.heap.size 2 1 A' xs.length c' (xs.flatMap eI) ∧ Ext w w') := by
  have Bhs := hs.1
  have X := Ext.refl w
  refine calls_of (args := [.slice A xs.length c]) Try.func117 Try.ntmps117 rfl rfl ?_
  refine c_seqR ?_
  refine ops_cons rfl (ow_assign rfl ?_)
  refine ops_nil ?_
  refine c_seqR ?_
  refine ops_cons rfl (ow_move rfl ?_)
  refine ops_cons rfl (ow_len Try.underlying24 rfl ?_)
  refine ops_cons rfl (ow_make el24 ti2 rfl rfl rfl rfl rfl rfl (by omega) (by omega) ?_)
  intro gO w2 egO oO x1
  replace oO := Own.low oO X.size
  replace hs := hs.ext x1
  replace X := Ext.trans X x1; clear x1
  replace oO := oO.to (cs' := (xs.take 0 ++ List.replicate (xs.length - 0) 0).flatMap eI) (by rw [List.take_zero, List.nil_append, Nat.sub_zero, ← repL_flat]; rfl)
  refine ops_cons rfl (ow_assign rfl ?_)
  refine ops_nil ?_
  refine c_seq ?_
  refine c_seqR ?_
  refine ops_cons rfl (ow_assign rfl ?_)
  refine ops_nil ?_
  refine c_block ?_
  refine c_loop (G := Nat) (fun k => [(0, .slice A xs.length c), (3, .slice (some ⟨gO, 0, none⟩) xs.length xs.length), (4, .int .i64 (k : Nat))]) (fun k wr => k ≤ xs.length ∧ Sl B wr A (xs.flatMap eI) ∧ Own wr w.heap.size 2 1 (some ⟨gO, 0, none⟩) xs.length xs.length ((xs.take k ++ List.replicate (xs.length - k) 0).flatMap eI) ∧ Ext w wr) (fun k => xs.length - k) 0 (.cons rfl (.cons rfl (.cons rfl (.nil _)))) ?_ ?_
  · exact ⟨by omega, hs, oO, X⟩
  clear hs oO
  clear X
  rintro k wr ⟨hk0, hs, oO, X⟩
  refine c_seq ?_
  refine c_seqR ?_
  refine ops_cons rfl (ow_move rfl ?_)
  refine ops_cons rfl (ow_move rfl ?_)
  refine ops_cons rfl (ow_len Try.underlying24 rfl ?_)
  refine ops_cons rfl (ow_lss2 rfl rfl (fun hk => ?_) (fun hk => ?_))
  · skip
    obtain ⟨x, hx, dx⟩ := drop_at' hk
    refine ops_nil ?_
    refine c_true rfl ?_
    refine c_skip ?_
    refine tq_n ?_
    refine c_seq ?_
    refine c_block ?_
    refine c_region ?_
    refine ops_cons rfl (ow_move rfl ?_)
    refine ops_cons rfl (ow_move rfl ?_)
    refine ops_cons rfl (ow_move rfl ?_)
    refine ops_cons rfl (ow_move rfl ?_)
    refine ops_cons rfl (ow_indexT hs eI_len rfl el24 rfl rfl rfl hx rfl ?_)
    refine ops_cons rfl (ow_loadT hs eI_len hx ti2 rfl rfl rfl ?_)
    refine ops_cons rfl (ow_indexT (oO).sl eI_len rfl el24 rfl (by simp <;> omega) rfl (at_fill (by omega)) rfl ?_)
    refine ops_cons rfl (ow_storeR oO ti2 rfl rfl rfl rfl (by omega) (by omega) rfl ?_)
    intro w4 oN hg3 z5
    replace hs := hs.grown hg3 (fun g hg => Nat.le_trans Bhs (Own.lt oO hg).1)
    replace X := X.grown hg3 X.size (fun g hg => (Own.lt oO hg).1)
    clear hg3 z5
    replace oN := oN.to (cs' := (xs.take (k + 1) ++ List.replicate (xs.length - (k + 1)) 0).flatMap eI) (by rw [← set_fill hx, ← set_flat eI_len x _ k (by simp <;> omega)]; try rfl)
    refine ops_nil ?_
    refine bq_n ?_
    refine tq_n ?_
    refine c_region ?_
    refine ops_cons rfl (ow_move rfl ?_)
    refine ops_cons rfl (ow_add rfl rfl (w64 (by omega)) ?_)
    refine ops_cons rfl (ow_assign rfl ?_)
    refine ops_nil ?_
    refine tq_n ⟨k + 1, (.cons rfl (.cons rfl (.cons rfl (.nil _)))), ?_, ?_⟩
    · exact ⟨by omega, hs, oN, X⟩
    · omega
  · skip
    rw [end_fill hk] at oO
    refine ops_nil ?_
    refine c_false rfl ?_
    refine c_exit ?_
    refine tq_e ?_
    refine tq_e ?_
    refine bq_e ?_
    refine tq_n ?_
    refine c_seqR ?_
    refine ops_cons rfl (ow_move rfl ?_)
    refine ops_cons rfl (ow_assign rfl ?_)
    refine ops_nil ?_
    refine c_ret ?_
    refine fin_ret1 rfl rfl ?_
    exact ⟨_, _, rfl, oO, X⟩

theorem eqInt_c (A A' : Option Addr) (B B' c c' : Nat) (xs : List Int) (w : World) (hs : Sl B w A (xs.flatMap eI)) (ht : Sl B' w A' (xs.flatMap eI)) (hl : xs.length ≤ 1048576) :
    Calls Try.prog 46 #[.slice A xs.length c, .slice A' xs.length c'] w (Ret fun v w' => v = .bool true ∧ Ext w w') := by
  have Bhs := hs.1
  have Bht := ht.1
  have X := Ext.refl w
  refine calls_of (args := [.slice A xs.length c, .slice A' xs.length c']) Try.func46 Try.ntmps46 rfl rfl ?_
  refine c_seqR ?_
  refine ops_cons rfl (ow_assign rfl ?_)
  refine ops_nil ?_
  refine c_seq ?_
  refine c_seqR ?_
  refine ops_cons rfl (ow_move rfl ?_)
  refine ops_cons rfl (ow_len Try.underlying24 rfl ?_)
  refine ops_cons rfl (ow_move rfl ?_)
  refine ops_cons rfl (ow_len Try.underlying24 rfl ?_)
  refine ops_cons rfl (ow_neq2 rfl rfl (fun h1 => absurd h1 (by simp)) (fun h1 => ?_))
  refine ops_nil ?_
  refine c_false rfl ?_
  refine c_skip ?_
  refine tq_n ?_
  refine c_seq ?_
  refine c_seqR ?_
  refine ops_cons rfl (ow_assign rfl ?_)
  refine ops_nil ?_
  refine c_block ?_
  refine c_loop (G := Nat) (fun k => [(0, .slice A xs.length c), (1, .slice A' xs.length c'), (5, .int .i64 (k : Nat))]) (fun k wr => k ≤ xs.length ∧ Sl B wr A (xs.flatMap eI) ∧ Sl B' wr A' (xs.flatMap eI) ∧ Ext w wr) (fun k => xs.length - k) 0 (.cons rfl (.cons rfl (.cons rfl (.nil _)))) ?_ ?_
  · exact ⟨by omega, hs, ht, X⟩
  clear hs ht
  clear X
  rintro k wr ⟨hk0, hs, ht, X⟩
  refine c_seq ?_
  refine c_seqR ?_
  refine ops_cons rfl (ow_move rfl ?_)
  refine ops_cons rfl (ow_move rfl ?_)
  refine ops_cons rfl (ow_len Try.underlying24 rfl ?_)
  refine ops_cons rfl (ow_lss2 rfl rfl (fun hk => ?_) (fun hk => ?_))
  · skip
    obtain ⟨x, hx, dx⟩ := drop_at' hk
    refine ops_nil ?_
    refine c_true rfl ?_
    refine c_skip ?_
    refine tq_n ?_
    refine c_seq ?_
    refine c_block ?_
    refine c_seqD [false, false, false, false, false, false, false, false, false] mixed (by kernel_rfl) ?_
    refine f_q rfl (fun wq sq => ow_move rfl ⟨rfl, Ext.refl _⟩) ?_
    refine f_q rfl (fun wq sq => ow_move rfl ⟨rfl, Ext.refl _⟩) ?_
    refine f_q rfl (fun wq sq => ow_indexT (hs.ext sq) eI_len rfl el24 rfl rfl rfl hx rfl ⟨rfl, Ext.refl _⟩) ?_
    refine f_q rfl (fun wq sq => ow_loadT (hs.ext sq) eI_len hx ti2 rfl rfl rfl ⟨rfl, Ext.refl _⟩) ?_
    refine f_q rfl (fun wq sq => ow_move rfl ⟨rfl, Ext.refl _⟩) ?_
    refine f_q rfl (fun wq sq => ow_move rfl ⟨rfl, Ext.refl _⟩) ?_
    refine f_q rfl (fun wq sq => ow_indexT (ht.ext sq) eI_len rfl el24 rfl rfl rfl hx rfl ⟨rfl, Ext.refl _⟩) ?_
    refine f_q rfl (fun wq sq => ow_loadT (ht.ext sq) eI_len hx ti2 rfl rfl rfl ⟨rfl, Ext.refl _⟩) ?_
    refine f_qb rfl (fun wq sq => ow_neq rfl rfl ⟨rfl, Ext.refl _⟩) (fun h2 => absurd h2 (by simp)) (fun h2 => ?_)
    refine f_nil (fun w3 sq => ?_)
    have xq := sq
    replace hs := hs.ext xq
    replace ht := ht.ext xq
    replace X := Ext.trans X xq; clear xq sq
    refine ops_nil ?_
    refine c_false rfl ?_
    refine c_skip ?_
    refine bq_n ?_
    refine tq_n ?_
    refine c_region ?_
    refine ops_cons rfl (ow_move rfl ?_)
    refine ops_cons rfl (ow_add rfl rfl (w64 (by omega)) ?_)
    refine ops_cons rfl (ow_assign rfl ?_)
    refine ops_nil ?_
    refine tq_n ⟨k + 1, (.cons rfl (.cons rfl (.cons rfl (.nil _)))), ?_, ?_⟩
    · exact ⟨by omega, hs, ht, X⟩
    · omega
  · skip
    refine ops_nil ?_
    refine c_false rfl ?_
    refine c_exit ?_
    refine tq_e ?_
    refine tq_e ?_
    refine bq_e ?_
    refine tq_n ?_
    refine c_seqR ?_
    refine ops_cons rfl (ow_assign rfl ?_)
    refine ops_nil ?_
    refine c_ret ?_
    refine fin_ret1 rfl rfl ?_
    exact ⟨by rfl, X⟩

theorem markI_c (A : Option Addr) (c lo : Nat) (xs : List Int) (m : Int) (w : World) (oO : Own w lo 2 1 A xs.length c (xs.flatMap eI)) (hl : xs.length ≤ 1048576) (hm : 0 ≤ m ∧ m ≤ 1125899906842624) :
    Calls Try.prog 49 #[.slice A xs.length c, .int .i64 m] w (Ret fun v w' => v = .int .i64 (m + xs.length) ∧ Own w' lo 2 1 A xs.length c ((seqI m xs.length).flatMap eI) ∧ w.grownBy w' (Value.slice A xs.length c).ownBlock) := by
  replace oO := oO.to (cs' := (seqI m 0 ++ xs.drop 0).flatMap eI) rfl
  have X := gb_refl w (Value.slice A xs.length c).ownBlock
  refine calls_of (args := [.slice A xs.length c, .int .i64 m]) Try.func49 Try.ntmps49 rfl rfl ?_
  refine c_seqR ?_
  refine ops_cons rfl (ow_assign rfl ?_)
  refine ops_nil ?_
  refine c_seq ?_
  refine c_seqR ?_
  refine ops_cons rfl (ow_assign rfl ?_)
  refine ops_nil ?_
  refine c_block ?_
  refine c_loop (G := Nat × Int) (fun ⟨k, a⟩ => [(0, .slice A xs.length c), (1, .int .i64 a), (5, .int .i64 (k : Nat))]) (fun ⟨k, a⟩ wr => a = m + k ∧ k ≤ xs.length ∧ Own wr lo 2 1 A xs.length c ((seqI m k ++ xs.drop k).flatMap eI) ∧ w.grownBy wr (Value.slice A xs.length c).ownBlock) (fun ⟨k, a⟩ => xs.length - k) (0, m) (.cons rfl (.cons rfl (.cons rfl (.nil _)))) ?_ ?_
  · exact ⟨by simp, by omega, oO, X⟩
  clear oO
  clear X
  rintro ⟨k, a⟩ wr ⟨ha, hk0, oO, X⟩
  subst ha
  refine c_seq ?_
  refine c_seqR ?_
  refine ops_cons rfl (ow_move rfl ?_)
  refine ops_cons rfl (ow_move rfl ?_)
  refine ops_cons rfl (ow_len Try.underlying24 rfl ?_)
  refine ops_cons rfl (ow_lss2 rfl rfl (fun hk => ?_) (fun hk => ?_))
  · skip
    have hk1 : k < xs.length := by omega
    refine ops_nil ?_
    refine c_true rfl ?_
    refine c_skip ?_
    refine tq_n ?_
    refine c_seq ?_
    refine c_block ?_
    refine c_seqR ?_
    refine ops_cons rfl (ow_move rfl ?_)
    refine ops_cons rfl (ow_move rfl ?_)
    refine ops_cons rfl (ow_move rfl ?_)
    refine ops_cons rfl (ow_indexT (oO).sl eI_len rfl el24 rfl (by simp [seqI_len]; omega) rfl (seqI_at' hk1) rfl ?_)
    refine ops_cons rfl (ow_storeR oO ti2 rfl rfl rfl rfl (by omega) (by omega) rfl ?_)
    intro w2 oN hg1 z3
    replace X : w.grownBy w2 (Value.slice A xs.length c).ownBlock := by first | exact gb_trans X hg1 | exact gb_new X hg1 (fun g hg => (Own.lt oO hg).1)
    clear hg1 z3
    replace oN := oN.to (cs' := (seqI m (k + 1) ++ xs.drop (k + 1)).flatMap eI) (by rw [← seqI_set hk1, ← set_flat eI_len _ _ k (by simp [seqI_len]; omega)]; try rfl)
    refine ops_nil ?_
    refine c_region ?_
    refine ops_cons rfl (ow_move rfl ?_)
    refine ops_cons rfl (ow_add rfl rfl (w64 (by omega)) ?_)
    refine ops_cons rfl (ow_assign rfl ?_)
    refine ops_nil ?_
    refine bq_n ?_
    refine tq_n ?_
    refine c_region ?_
    refine ops_cons rfl (ow_move rfl ?_)
    refine ops_cons rfl (ow_add rfl rfl (w64 (by omega)) ?_)
    refine ops_cons rfl (ow_assign rfl ?_)
    refine ops_nil ?_
    refine tq_n ⟨(k + 1, m + k + 1), (.cons rfl (.cons rfl (.cons rfl (.nil _)))), ?_, ?_⟩
    · exact ⟨by omega, by omega, oN, X⟩
    · dsimp only; omega
  · skip
    rw [seqI_end hk0 hk] at oO
    refine ops_nil ?_
    refine c_false rfl ?_
    refine c_exit ?_
    refine tq_e ?_
    refine tq_e ?_
    refine bq_e ?_
    refine tq_n ?_
    refine c_seqR ?_
    refine ops_cons rfl (ow_move rfl ?_)
    refine ops_cons rfl (ow_assign rfl ?_)
    refine ops_nil ?_
    refine c_ret ?_
    refine fin_ret1 rfl rfl ?_
    exact ⟨by rw [show k = xs.length by omega], oO, X⟩

theorem heldI_c (A : Option Addr) (B c n : Nat) (m : Int) (w : World) (hs : Sl B w A ((seqI m n).flatMap eI)) (hl : n ≤ 1048576) (hm : 0 ≤ m ∧ m ≤ 1125899906842624) :
    Calls Try.prog 50 #[.slice A n c, .int .i64 m] w (Ret fun v w' => v = .int .i64 (m + n) ∧ Ext w w') := by
  have Bhs := hs.1
  have X := Ext.refl w
  refine calls_of (args := [.slice A n c, .int .i64 m]) Try.func50 Try.ntmps50 rfl rfl ?_
  refine c_seqR ?_
  refine ops_cons rfl (ow_assign rfl ?_)
  refine ops_nil ?_
  refine c_seq ?_
  refine c_seqR ?_
  refine ops_cons rfl (ow_assign rfl ?_)
  refine ops_nil ?_
  refine c_block ?_
  refine c_loop (G := Nat × Int) (fun ⟨k, a⟩ => [(0, .slice A n c), (1, .int .i64 a), (5, .int .i64 (k : Nat))]) (fun ⟨k, a⟩ wr => a = m + k ∧ k ≤ n ∧ Sl B wr A ((seqI m n).flatMap eI) ∧ Ext w wr) (fun ⟨k, a⟩ => n - k) (0, m) (.cons rfl (.cons rfl (.cons rfl (.nil _)))) ?_ ?_
  · exact ⟨by simp, by omega, hs, X⟩
  clear hs
  clear X
  rintro ⟨k, a⟩ wr ⟨ha, hk0, hs, X⟩
  subst ha
  refine c_seq ?_
  refine c_seqR ?_
  refine ops_cons rfl (ow_move rfl ?_)
  refine ops_cons rfl (ow_move rfl ?_)
  refine ops_cons rfl (ow_len Try.underlying24 rfl ?_)
  refine ops_cons rfl (ow_lss2 rfl rfl (fun hk => ?_) (fun hk => ?_))
  · skip
    have hk1 : k < n := by omega
    refine ops_nil ?_
    refine c_true rfl ?_
    refine c_skip ?_
    refine tq_n ?_
    refine c_seq ?_
    refine c_block ?_
    refine c_seq ?_
    refine c_seqR ?_
    refine ops_cons rfl (ow_move rfl ?_)
    refine ops_cons rfl (ow_move rfl ?_)
    refine ops_cons rfl (ow_indexT hs eI_len rfl el24 rfl (seqI_len _ _).symm rfl (seqI_at hk1) rfl ?_)
    refine ops_cons rfl (ow_loadT hs eI_len (seqI_at hk1) ti2 rfl rfl rfl ?_)
    refine ops_cons rfl (ow_move rfl ?_)
    refine ops_cons rfl (ow_neq2 rfl rfl (fun h1 => absurd h1 (by simp)) (fun h1 => ?_))
    refine ops_nil ?_
    refine c_false rfl ?_
    refine c_skip ?_
    refine tq_n ?_
    refine c_region ?_
    refine ops_cons rfl (ow_move rfl ?_)
    refine ops_cons rfl (ow_add rfl rfl (w64 (by omega)) ?_)
    refine ops_cons rfl (ow_assign rfl ?_)
    refine ops_nil ?_
    refine bq_n ?_
    refine tq_n ?_
    refine c_region ?_
    refine ops_cons rfl (ow_move rfl ?_)
    refine ops_cons rfl (ow_add rfl rfl (w64 (by omega)) ?_)
    refine ops_cons rfl (ow_assign rfl ?_)
    refine ops_nil ?_
    refine tq_n ⟨(k + 1, m + k + 1), (.cons rfl (.cons rfl (.cons rfl (.nil _)))), ?_, ?_⟩
    · exact ⟨by omega, by omega, hs, X⟩
    · dsimp only; omega
  · skip
    refine ops_nil ?_
    refine c_false rfl ?_
    refine c_exit ?_
    refine tq_e ?_
    refine tq_e ?_
    refine bq_e ?_
    refine tq_n ?_
    refine c_seqR ?_
    refine ops_cons rfl (ow_move rfl ?_)
    refine ops_cons rfl (ow_assign rfl ?_)
    refine ops_nil ?_
    refine c_ret ?_
    refine fin_ret1 rfl rfl ?_
    exact ⟨by rw [show k = n by omega], X⟩

theorem eqSS_c (A A' : Option Addr) (B B' B2 B3 c c' : Nat) (xs ys : List ModeI) (w : World) (hs : Sl B w A (xs.flatMap rowC)) (hn : Nexts B2 w xs) (ht : Sl B' w A' (ys.flatMap rowC)) (hn2 : Nexts B3 w ys) (em : tblOf xs = tblOf ys) (hl : xs.length ≤ 8) (hz : ∀ x ∈ xs, x.m.next.length ≤ 16) :
    Calls Try.prog 63 #[.slice A xs.length c, .slice A' ys.length c'] w (Ret fun v w' => v = .bool true ∧ Ext w w') := by
  have el : xs.length = ys.length := by rw [← tblOf_len, em, tblOf_len]
  have Bhs := hs.1
  have Bhn := hn.1
  have Bht := ht.1
  have Bhn2 := hn2.1
  have X := Ext.refl w
  refine calls_of (args := [.slice A xs.length c, .slice A' ys.length c']) Try.func63 Try.ntmps63 rfl rfl ?_
  refine c_seqR ?_
  refine ops_cons rfl (ow_assign rfl ?_)
  refine ops_nil ?_
  refine c_seq ?_
  refine c_seqR ?_
  refine ops_cons rfl (ow_move rfl ?_)
  refine ops_cons rfl (ow_len Try.underlying74 rfl ?_)
  refine ops_cons rfl (ow_move rfl ?_)
  refine ops_cons rfl (ow_len Try.underlying74 rfl ?_)
  refine ops_cons rfl (ow_neq2 rfl rfl (fun h1 => absurd h1 (by rw [el]; simp)) (fun h1 => ?_))
  refine ops_nil ?_
  refine c_false rfl ?_
  refine c_skip ?_
  refine tq_n ?_
  refine c_seq ?_
  refine c_seqR ?_
  refine ops_cons rfl (ow_assign rfl ?_)
  refine ops_nil ?_
  refine c_block ?_
  refine c_loop (G := Nat) (fun k => [(0, .slice A xs.length c), (1, .slice A' ys.length c'), (5, .int .i64 (k : Nat))]) (fun k wr => k ≤ xs.length ∧ Sl B wr A (xs.flatMap rowC) ∧ Nexts B2 wr xs ∧ Sl B' wr A' (ys.flatMap rowC) ∧ Nexts B3 wr ys ∧ Ext w wr) (fun k => xs.length - k) 0 (.cons rfl (.cons rfl (.cons rfl (.nil _)))) ?_ ?_
  · exact ⟨by omega, hs, hn, ht, hn2, X⟩
  clear hs hn ht hn2
  clear X
  rintro k wr ⟨hk0, hs, hn, ht, hn2, X⟩
  refine c_seq ?_
  refine c_seqR ?_
  refine ops_cons rfl (ow_move rfl ?_)
  refine ops_cons rfl (ow_move rfl ?_)
  refine ops_cons rfl (ow_len Try.underlying74 rfl ?_)
  refine ops_cons rfl (ow_lss2 rfl rfl (fun hk => ?_) (fun hk => ?_))
  · skip
    obtain ⟨x, hx, dx⟩ := drop_at' hk
    obtain ⟨y, hy, _⟩ := drop_at (xs := ys) (k := k) (by omega)
    have exy : x.m.next = y.m.next := by rw [← tblOf_at hx, em, tblOf_at hy]
    have hlx := hz x (List.mem_of_getElem? hx)
    refine ops_nil ?_
    refine c_true rfl ?_
    refine c_skip ?_
    refine tq_n ?_
    refine c_seq ?_
    refine c_block ?_
    refine c_seqD [false, false, false, false, false, false, false, false, false, false] mixed (by kernel_rfl) ?_
    refine f_q rfl (fun wq sq => ow_move rfl ⟨rfl, Ext.refl _⟩) ?_
    refine f_q rfl (fun wq sq => ow_move rfl ⟨rfl, Ext.refl _⟩) ?_
    refine f_q rfl (fun wq sq => ow_indexT (hs.ext sq) rowC_len rfl el74 rfl rfl rfl hx rfl ⟨rfl, Ext.refl _⟩) ?_
    refine f_q rfl (fun wq sq => ow_loadT (hs.ext sq) rowC_len hx ti24 rfl rfl rfl ⟨rfl, Ext.refl _⟩) ?_
    refine f_q rfl (fun wq sq => ow_move rfl ⟨rfl, Ext.refl _⟩) ?_
    refine f_q rfl (fun wq sq => ow_move rfl ⟨rfl, Ext.refl _⟩) ?_
    refine f_q rfl (fun wq sq => ow_indexT (ht.ext sq) rowC_len rfl el74 rfl rfl rfl hy rfl ⟨rfl, Ext.refl _⟩) ?_
    refine f_q rfl (fun wq sq => ow_loadT (ht.ext sq) rowC_len hy ti24 rfl rfl rfl ⟨rfl, Ext.refl _⟩) ?_
    refine f_q rfl (fun wq sq => ow_call ent46 rfl (by have h := eqInt_c x.A y.A _ _ x.c y.c x.m.next _ ((hn.at_ hx).ext sq) (by rw [exy]; exact (hn2.at_ hy).ext sq) (by omega); rwa [show y.m.next.length = x.m.next.length by rw [exy]])) ?_
    refine f_q rfl (fun wq sq => ow_not rfl ⟨rfl, Ext.refl _⟩) ?_
    refine f_nil (fun w2 sq => ?_)
    have xq := sq
    replace hs := hs.ext xq
    replace hn := hn.ext xq
    replace ht := ht.ext xq
    replace hn2 := hn2.ext xq
    replace X := Ext.trans X xq; clear xq sq
    refine ops_nil ?_
    refine c_false rfl ?_
    refine c_skip ?_
    refine bq_n ?_
    refine tq_n ?_
    refine c_region ?_
    refine ops_cons rfl (ow_move rfl ?_)
    refine ops_cons rfl (ow_add rfl rfl (w64 (by omega)) ?_)
    refine ops_cons rfl (ow_assign rfl ?_)
    refine ops_nil ?_
    refine tq_n ⟨k + 1, (.cons rfl (.cons rfl (.cons rfl (.nil _)))), ?_, ?_⟩
    · exact ⟨by omega, hs, hn, ht, hn2, X⟩
    · first | omega | (dsimp only; omega)
  · skip
    refine ops_nil ?_
    refine c_false rfl ?_
    refine c_exit ?_
    refine tq_e ?_
    refine tq_e ?_
    refine bq_e ?_
    refine tq_n ?_
    refine c_seqR ?_
    refine ops_cons rfl (ow_assign rfl ?_)
    refine ops_nil ?_
    refine c_ret ?_
    refine fin_ret1 rfl rfl ?_
    exact ⟨by rfl, X⟩

theorem markSS_c (A : Option Addr) (c lo hi : Nat) (xs : List ModeI) (m : Int) (w : World) (oT : Own w lo 24 1 A xs.length c (xs.flatMap rowC)) (oN : NOwn w lo 2 xs) (hd : Disj xs) (hU0 : ∀ y ∈ xs, ∀ g, y.blk = some g → g < hi) (hl : xs.length ≤ 8) (hz : ∀ x ∈ xs, x.m.next.length ≤ 16) (hm : 0 ≤ m ∧ m ≤ 1099511627776) :
    Calls Try.prog 64 #[.slice A xs.length c, .int .i64 m] w (Ret fun v w' => v = .int .i64 (endRows m xs) ∧ (m ≤ endRows m xs ∧ endRows m xs ≤ m + 128) ∧ Own w' lo 24 1 A xs.length c (xs.flatMap rowC) ∧ NOwn w' lo 2 (mkRows m xs) ∧ WinK lo hi [2] w w') := by
  have X := WinK.refl lo hi [2] w
  refine calls_of (args := [.slice A xs.length c, .int .i64 m]) Try.func64 Try.ntmps64 rfl rfl ?_
  refine c_seqR ?_
  refine ops_cons rfl (ow_assign rfl ?_)
  refine ops_nil ?_
  refine c_seq ?_
  refine c_seqR ?_
  refine ops_cons rfl (ow_assign rfl ?_)
  refine ops_nil ?_
  refine c_block ?_
  refine c_loop (G := Nat × Int) (fun ⟨k, a⟩ => [(0, .slice A xs.length c), (4, .int .i64 0), (1, .int .i64 a), (5, .int .i64 (k : Nat))]) (fun ⟨k, a⟩ wr => k ≤ xs.length ∧ (a = endRows m (xs.take k) ∧ m ≤ a ∧ a ≤ m + 16 * k) ∧ NOwn wr lo 2 (mrk m xs k) ∧ Own wr lo 24 1 A xs.length c (xs.flatMap rowC) ∧ WinK lo hi [2] w wr) (fun ⟨k, a⟩ => xs.length - k) (0, m) (.cons rfl (.cons rfl (.cons rfl (.cons rfl (.nil _))))) ?_ ?_
  · exact ⟨by omega, ⟨rfl, by omega⟩, (by rw [show mrk m xs 0 = xs from rfl]; exact oN), oT, X⟩
  clear oT oN
  clear X
  rintro ⟨k, a⟩ wr ⟨hk0, ha, oN, oT, X⟩
  refine c_seq ?_
  refine c_seqR ?_
  refine ops_cons rfl (ow_move rfl ?_)
  refine ops_cons rfl (ow_move rfl ?_)
  refine ops_cons rfl (ow_len Try.underlying74 rfl ?_)
  refine ops_cons rfl (ow_lss2 rfl rfl (fun hk => ?_) (fun hk => ?_))
  · skip
    obtain ⟨x, hx, dx⟩ := drop_at' hk
    have hax := ha.2
    have ha1 := ha.1
    have hxl := hz x (List.mem_of_getElem? hx)
    have hLx := mrk_at (m := m) hx
    refine ops_nil ?_
    refine c_true rfl ?_
    refine c_skip ?_
    refine tq_n ?_
    refine c_seq ?_
    refine c_block ?_
    refine c_region ?_
    refine ops_cons rfl (ow_move rfl ?_)
    refine ops_cons rfl (ow_move rfl ?_)
    refine ops_cons rfl (ow_indexT (oT).sl rowC_len rfl el74 rfl rfl rfl hx rfl ?_)
    refine ops_cons rfl (ow_loadT (oT).sl rowC_len hx ti24 rfl rfl rfl ?_)
    refine ops_cons rfl (ow_move rfl ?_)
    have oX := (oN x (List.mem_of_getElem? hLx)).1
    have oE := oN.erase k
    have hde := (Disj.ofBlk (mrk_blk m xs k) hd).erase hLx
    refine ops_cons rfl (ow_call ent49 rfl (ret_mono (markI_c x.A x.c lo x.m.next a _ oX (by omega) (by omega)) ?_))
    rintro _ wN ⟨rfl, oR, xR⟩
    replace oT := oT.grown xR (Own.neO oT oX (by decide))
    replace oE := oE.grownX xR hde
    replace X := X.grownK xR oX (by decide) (fun g hg => ⟨(Own.lt oX hg).1, hU0 x (List.mem_of_getElem? hx) g hg⟩)
    clear oX
    have oN2 := oE.put (x' := mkRow a x) (by show Own _ _ _ _ _ (seqI a x.m.next.length).length _ _; rw [seqI_len]; exact oR) (by show (seqI a x.m.next.length).length ≤ _; rw [seqI_len]; omega)
    rw [ha1, mrk_set hx] at oN2
    refine ops_cons rfl (ow_assign rfl ?_)
    refine ops_nil ?_
    refine bq_n ?_
    refine tq_n ?_
    refine c_region ?_
    refine ops_cons rfl (ow_move rfl ?_)
    refine ops_cons rfl (ow_add rfl rfl (w64 (by omega)) ?_)
    refine ops_cons rfl (ow_assign rfl ?_)
    refine ops_nil ?_
    refine tq_n ⟨(k + 1, a + x.m.next.length), (.cons rfl (.cons rfl (.cons rfl (.cons rfl (.nil _))))), ?_, ?_⟩
    · exact ⟨by omega, ⟨by rw [endRows_step hx, ← ha1], by omega, by omega⟩, oN2, oT, X⟩
    · first | omega | (dsimp only; omega)
  · skip
    refine ops_nil ?_
    refine c_false rfl ?_
    refine c_exit ?_
    refine tq_e ?_
    refine tq_e ?_
    refine bq_e ?_
    refine tq_n ?_
    refine c_seqR ?_
    refine ops_cons rfl (ow_move rfl ?_)
    refine ops_cons rfl (ow_assign rfl ?_)
    refine ops_nil ?_
    refine c_ret ?_
    refine fin_ret1 rfl rfl ?_
    rw [show k = xs.length by omega, List.take_length] at ha
    rw [show k = xs.length by omega, mrk_end] at oN
    exact ⟨by rw [ha.1], by omega, oT, oN, X⟩

theorem heldSS_c (A : Option Addr) (B B2 c : Nat) (xs : List ModeI) (m : Int) (w : World) (hs : Sl B w A (xs.flatMap rowC)) (hn : Nexts B2 w (mkRows m xs)) (hl : xs.length ≤ 8) (hz : ∀ x ∈ xs, x.m.next.length ≤ 16) (hm : 0 ≤ m ∧ m ≤ 1099511627776) :
    Calls Try.prog 65 #[.slice A xs.length c, .int .i64 m] w (Ret fun v w' => v = .int .i64 (endRows m xs) ∧ Ext w w') := by
  have Bhs := hs.1
  have Bhn := hn.1
  have X := Ext.refl w
  refine calls_of (args := [.slice A xs.length c, .int .i64 m]) Try.func65 Try.ntmps65 rfl rfl ?_
  refine c_seqR ?_
  refine ops_cons rfl (ow_assign rfl ?_)
  refine ops_nil ?_
  refine c_seq ?_
  refine c_seqR ?_
  refine ops_cons rfl (ow_assign rfl ?_)
  refine ops_nil ?_
  refine c_block ?_
  refine c_loop (G := Nat × Int) (fun ⟨k, a⟩ => [(0, .slice A xs.length c), (1, .int .i64 a), (5, .int .i64 (k : Nat))]) (fun ⟨k, a⟩ wr => k ≤ xs.length ∧ (a = endRows m (xs.take k) ∧ m ≤ a ∧ a ≤ m + 16 * k) ∧ Sl B wr A (xs.flatMap rowC) ∧ Nexts B2 wr (mkRows m xs) ∧ Ext w wr) (fun ⟨k, a⟩ => xs.length - k) (0, m) (.cons rfl (.cons rfl (.cons rfl (.nil _)))) ?_ ?_
  · exact ⟨by omega, ⟨rfl, by omega⟩, hs, hn, X⟩
  clear hs hn
  clear X
  rintro ⟨k, a⟩ wr ⟨hk0, ha, hs, hn, X⟩
  refine c_seq ?_
  refine c_seqR ?_
  refine ops_cons rfl (ow_move rfl ?_)
  refine ops_cons rfl (ow_move rfl ?_)
  refine ops_cons rfl (ow_len Try.underlying74 rfl ?_)
  refine ops_cons rfl (ow_lss2 rfl rfl (fun hk => ?_) (fun hk => ?_))
  · skip
    obtain ⟨x, hx, dx⟩ := drop_at' hk
    have hax := ha.2
    have ha1 := ha.1
    have hxl := hz x (List.mem_of_getElem? hx)
    have hy := mkRows_at m xs k x hx
    rw [← ha1] at hy
    refine ops_nil ?_
    refine c_true rfl ?_
    refine c_skip ?_
    refine tq_n ?_
    refine c_seq ?_
    refine c_block ?_
    refine c_seqR ?_
    refine ops_cons rfl (ow_move rfl ?_)
    refine ops_cons rfl (ow_move rfl ?_)
    refine ops_cons rfl (ow_indexT hs rowC_len rfl el74 rfl rfl rfl hx rfl ?_)
    refine ops_cons rfl (ow_loadT hs rowC_len hx ti24 rfl rfl rfl ?_)
    refine ops_cons rfl (ow_move rfl ?_)
    refine ops_cons rfl (ow_call ent50 rfl (ret_mono (heldI_c x.A _ x.c x.m.next.length a _ (hn.at_ hy) (by omega) (by omega)) ?_))
    rintro _ w2 ⟨rfl, x1⟩
    replace hs := hs.ext x1
    replace hn := hn.ext x1
    replace X := Ext.trans X x1; clear x1
    refine ops_cons rfl (ow_assign rfl ?_)
    refine ops_nil ?_
    refine c_seqR ?_
    refine ops_cons rfl (ow_move rfl ?_)
    refine ops_cons rfl (ow_lss2 rfl rfl (fun h3 => absurd h3 (by omega)) (fun h3 => ?_))
    refine ops_nil ?_
    refine c_false rfl ?_
    refine c_skip ?_
    refine bq_n ?_
    refine tq_n ?_
    refine c_region ?_
    refine ops_cons rfl (ow_move rfl ?_)
    refine ops_cons rfl (ow_add rfl rfl (w64 (by omega)) ?_)
    refine ops_cons rfl (ow_assign rfl ?_)
    refine ops_nil ?_
    refine tq_n ⟨(k + 1, a + x.m.next.length), (.cons rfl (.cons rfl (.cons rfl (.nil _)))), ?_, ?_⟩
    · exact ⟨by omega, ⟨by rw [endRows_step hx, ← ha1], by omega, by omega⟩, hs, hn, X⟩
    · first | omega | (dsimp only; omega)
  · skip
    refine ops_nil ?_
    refine c_false rfl ?_
    refine c_exit ?_
    refine tq_e ?_
    refine tq_e ?_
    refine bq_e ?_
    refine tq_n ?_
    refine c_seqR ?_
    refine ops_cons rfl (ow_move rfl ?_)
    refine ops_cons rfl (ow_assign rfl ?_)
    refine ops_nil ?_
    refine c_ret ?_
    refine fin_ret1 rfl rfl ?_
    rw [show k = xs.length by omega, List.take_length] at ha
    exact ⟨by rw [ha.1], X⟩

theorem szBkL_c (A : Option Addr) (c : Nat) (xs : List Bk) (left : Int) (w : World) (hl : xs.length ≤ 9223372036854775807) (h2 : -1 ≤ left ∧ left ≤ 1048576) :
    Calls Try.prog 34 #[.slice A xs.length c, .int .i64 left] w (Ret fun v w' => v = .int .i64 (szInt xs.length left) ∧ Ext w w') := by
  have X := Ext.refl w
  refine calls_of (args := [.slice A xs.length c, .int .i64 left]) Try.func34 Try.ntmps34 rfl rfl ?_
  refine c_seqR ?_
  refine ops_cons rfl (ow_assign rfl ?_)
  refine ops_nil ?_
  refine c_seqR ?_
  refine ops_cons rfl (ow_move rfl ?_)
  refine ops_cons rfl (ow_move rfl ?_)
  refine ops_cons rfl (ow_len Try.underlying48 rfl ?_)
  refine ops_cons rfl (ow_sub rfl rfl (w64 (by omega)) ?_)
  refine ops_cons rfl (ow_assign rfl ?_)
  refine ops_nil ?_
  refine c_seq ?_
  refine c_seqR ?_
  refine ops_cons rfl (ow_move rfl ?_)
  refine ops_cons rfl (ow_lss2 rfl rfl (fun h1 => ?_) (fun h1 => ?_))
  · skip
    refine ops_nil ?_
    refine c_true rfl ?_
    refine c_seqR ?_
    refine ops_cons rfl (ow_assign rfl ?_)
    refine ops_nil ?_
    refine c_ret ?_
    refine tq_r ?_
    refine fin_ret1 rfl rfl ?_
    refine ⟨congrArg (Value.int .i64) ?_, X⟩
    unfold szInt
    first | rw [if_pos ‹_›] | rw [if_neg ‹_›]
  · skip
    refine ops_nil ?_
    refine c_false rfl ?_
    refine c_skip ?_
    refine tq_n ?_
    refine c_seqR ?_
    refine ops_cons rfl (ow_move rfl ?_)
    refine ops_cons rfl (ow_assign rfl ?_)
    refine ops_nil ?_
    refine c_ret ?_
    refine fin_ret1 rfl rfl ?_
    refine ⟨congrArg (Value.int .i64) ?_, X⟩
    unfold szInt
    first | rw [if_pos ‹_›] | rw [if_neg ‹_›]
end Go.Proofs.Ytimabffnoanciaa
