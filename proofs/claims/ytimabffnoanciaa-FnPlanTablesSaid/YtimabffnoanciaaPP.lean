/- Plans. No condition. -/
import Derived.Test.YtimabffnoanciaaPF
namespace Go.Proofs.Ytimabffnoanciaa
open Go.RowKit
set_option linter.unusedVariables false
set_option linter.unusedSimpArgs false
set_option maxRecDepth 20000
def firstR (T : Tbl) (e : Int) (S : Nat) : Bk := match firstB T e S with
  | some i => bkOf e.toNat i
  | none => ⟨0, 0⟩
theorem firstR_some {T : Tbl} {e : Int} {S i : Nat} (h : firstB T e S = some i) : firstR T e S = bkOf e.toNat i := by rw [firstR, h]
theorem firstR_none {T : Tbl} {e : Int} {S : Nat} (h : firstB T e S = none) : firstR T e S = ⟨0, 0⟩ := by rw [firstR, h]
theorem firstF_zero {p : Nat → Bool} {n i : Nat} (h : n = 0) : firstF p n i = none := by subst h; rfl
/-- a booking that is possible lies in the table -/
theorem fits_in {T : Tbl} {e : Int} {b : Bk} (h : fitsB T e b = true) : (0 ≤ b.phase) ∧ (0 ≤ b.slot) ∧ b.slot < (slotsOf T : Int) := by
  simp only [fitsB, Bool.and_eq_true] at h
  have h1 := inB_iff.1 h.2.1
  have h2 := inB_iff.1 h.2.2.1
  omega
theorem firstB_fits {T : Tbl} {e : Int} {S : Nat} (h : (firstB T e S).isSome = true) : fitsB T e (firstR T e S) = true := by
  cases h1 : firstB T e S with
  | none => rw [h1] at h; cases h
  | some i => rw [firstR_some h1]; exact (firstF_spec _ _ _ h1).2.2.1
theorem planL_first {S k : Nat} {d : Dem} {ds : List Dem} {T : Tbl} (h : (firstB T d.every S).isSome = true) : planL S (d :: ds) k T = (planL S ds (k + 1) (putB T d.every (firstR T d.every S) (k : Int))).map (firstR T d.every S :: ·) := by
  cases h1 : firstB T d.every S with
  | none => rw [h1] at h; cases h
  | some i => rw [firstR_some h1, planL_some h1]
theorem map_snoc {q : Option (List Bk)} {bs : List Bk} {b : Bk} : (q.map (b :: ·)).map (bs ++ ·) = q.map ((bs ++ [b]) ++ ·) := by cases q <;> simp
theorem first_c (A : Option Addr) (B B2 c : Nat) (xs : List ModeI) (R S : Nat) (d : Dem) (w : World) (hs : Sl B w A (xs.flatMap rowC)) (hn : Nexts B2 w xs) (ht : Tab R S (tblOf xs)) (hR : 1 ≤ R ∧ R ≤ 8) (hS : 1 ≤ S ∧ S ≤ 16) (he : 1 ≤ d.every ∧ d.every ≤ 8) :
    Calls Try.prog 110 #[.slice A xs.length c, .agg d.cells.toArray] w (Ret fun v w' => v = .tuple #[.agg (firstR (tblOf xs) d.every S).cells.toArray, .bool (firstB (tblOf xs) d.every S).isSome] ∧ Ext w w') := by
  have hxl : xs.length = R := by rw [← tblOf_len]; exact ht.1
  obtain ⟨x0, hx0⟩ : ∃ x0, xs[0]? = some x0 := ⟨_, List.getElem?_eq_getElem (by omega)⟩
  have e0 : x0.m.next.length = S := by have h := (ht.row (r := 0) (by omega)).2; rwa [tblOf_at hx0] at h
  have hsl : slotsOf (tblOf xs) = S := ht.slots (by omega)
  have hE8 : 1 ≤ d.every.toNat ∧ d.every.toNat ≤ 8 := by omega
  have Bhs := hs.1
  have Bhn := hn.1
  have X := Ext.refl w
  refine calls_of (args := [.slice A xs.length c, .agg d.cells.toArray]) Try.func110 Try.ntmps110 rfl rfl ?_
  refine c_seqR ?_
  refine ops_cons rfl (ow_box rfl rfl ?_)
  intro gD w2 egD bD x1 zgD
  have lgD : w.heap.size ≤ gD := Nat.le_trans X.size (Nat.le_of_eq egD.symm)
  have pgDhs := Nat.le_trans hs.1 (Nat.le_of_eq egD.symm)
  have pgDhn := Nat.le_trans hn.1 (Nat.le_of_eq egD.symm)
  replace hs := hs.ext x1
  replace hn := hn.ext x1
  replace X := Ext.trans X x1; clear x1
  refine ops_cons rfl (ow_alloc ti102 ?_)
  intro gR w4 egR bR x3 zgR
  have lgR : w.heap.size ≤ gR := Nat.le_trans X.size (Nat.le_of_eq egR.symm)
  have pgRhs := Nat.le_trans hs.1 (Nat.le_of_eq egR.symm)
  have pgRhn := Nat.le_trans hn.1 (Nat.le_of_eq egR.symm)
  have ngRbD := Nat.lt_of_lt_of_eq bD.lt egR.symm
  replace hs := hs.ext x3
  replace hn := hn.ext x3
  replace bD := bD.ext x3
  replace X := Ext.trans X x3; clear x3
  refine ops_cons rfl (ow_assign rfl ?_)
  refine ops_nil ?_
  refine c_seq ?_
  refine c_seqR ?_
  refine ops_cons rfl (ow_assign rfl ?_)
  refine ops_nil ?_
  refine c_block ?_
  refine c_loop (G := Nat) (fun s => [(0, .slice A xs.length c), (3, .pointer (some ⟨gD, 0, none⟩)), (4, .pointer (some ⟨gR, 0, none⟩)), (6, .int .i64 (s : Nat))]) (fun s wr => s ≤ S ∧ (firstB (tblOf xs) d.every S) = firstF (fun i => fitsB (tblOf xs) d.every (bkOf d.every.toNat i)) (S * d.every.toNat - s * d.every.toNat) (s * d.every.toNat) ∧ Sl B wr A (xs.flatMap rowC) ∧ Nexts B2 wr xs ∧ Blk wr gD 79 d.cells ∧ Blk wr gR 102 (⟨0, 0⟩ : Bk).cells ∧ Ext w wr) (fun s => S - s) 0 (.cons rfl (.cons rfl (.cons rfl (.cons rfl (.nil _))))) ?_ ?_
  · exact ⟨by omega, (by unfold firstB; rw [Nat.zero_mul]; rfl), hs, hn, bD, bR, X⟩
  clear hs hn bD bR
  clear X
  rintro s wr ⟨hs0, hq, hs, hn, bD, bR, X⟩
  refine c_seq ?_
  refine c_seqR ?_
  refine ops_cons rfl (ow_move rfl ?_)
  refine ops_cons rfl (ow_move rfl ?_)
  refine ops_cons rfl (ow_indexT hs rowC_len rfl el74 rfl rfl rfl hx0 rfl ?_)
  refine ops_cons rfl (ow_loadT hs rowC_len hx0 ti24 rfl rfl rfl ?_)
  refine ops_cons rfl (ow_len Try.underlying24 rfl ?_)
  refine ops_cons rfl (ow_lss2 rfl rfl (fun hs1 => ?_) (fun hs1 => ?_))
  · skip
    have hsS : s + 1 ≤ S := by omega
    have hmul := Nat.mul_le_mul_right d.every.toNat hsS
    rw [Nat.add_mul, Nat.one_mul] at hmul
    refine ops_nil ?_
    refine c_true rfl ?_
    refine c_skip ?_
    refine tq_n ?_
    refine c_seq ?_
    refine c_block ?_
    refine c_seqR ?_
    refine ops_cons rfl (ow_assign rfl ?_)
    refine ops_nil ?_
    refine c_block ?_
    refine c_loop (G := Nat) (fun p => [(0, .slice A xs.length c), (3, .pointer (some ⟨gD, 0, none⟩)), (4, .pointer (some ⟨gR, 0, none⟩)), (6, .int .i64 (s : Nat)), (9, .int .i64 (s : Nat)), (10, .slice A xs.length c), (12, .slice x0.A x0.m.next.length x0.c), (13, .int .i64 (x0.m.next.length : Nat)), (7, .int .i64 (p : Nat))]) (fun p wr => p ≤ d.every.toNat ∧ (firstB (tblOf xs) d.every S) = firstF (fun i => fitsB (tblOf xs) d.every (bkOf d.every.toNat i)) (S * d.every.toNat - (s * d.every.toNat + p)) (s * d.every.toNat + p) ∧ Sl B wr A (xs.flatMap rowC) ∧ Nexts B2 wr xs ∧ Blk wr gD 79 d.cells ∧ Blk wr gR 102 (⟨0, 0⟩ : Bk).cells ∧ Ext w wr) (fun p => d.every.toNat - p) 0 (.cons rfl (.cons rfl (.cons rfl (.cons rfl (.cons rfl (.cons rfl (.cons rfl (.cons rfl (.cons rfl (.nil _)))))))))) ?_ ?_
    · exact ⟨by omega, hq, hs, hn, bD, bR, X⟩
    clear hs hn bD bR
    clear X
    rintro p wr ⟨hp0, hq2, hs, hn, bD, bR, X⟩
    refine c_seq ?_
    refine c_seqR ?_
    refine ops_cons rfl (ow_move rfl ?_)
    refine ops_cons rfl (ow_fieldAddrB off79_1 rfl rfl ?_)
    refine ops_cons rfl (ow_loadB bD ti2 rfl rfl ?_)
    refine ops_cons rfl (ow_lss2 rfl rfl (fun hp1 => ?_) (fun hp1 => ?_))
    · skip
      have hpe : p < d.every.toNat := by omega
      have hbk := bkOf_two (e := d.every.toNat) (s := s) hpe
      refine ops_nil ?_
      refine c_true rfl ?_
      refine c_skip ?_
      refine tq_n ?_
      refine c_seq ?_
      refine c_block ?_
      refine c_seqR ?_
      refine ops_cons rfl (ow_move rfl ?_)
      refine ops_cons rfl (ow_move rfl ?_)
      refine ops_cons rfl (ow_buildP pl102 ti102 rfl rfl ?_)
      refine ops_cons rfl (ow_alloc ti102 ?_)
      intro gQ w6 egQ bQ x5 zgQ
      have lgQ : w.heap.size ≤ gQ := Nat.le_trans X.size (Nat.le_of_eq egQ.symm)
      have pgQhs := Nat.le_trans hs.1 (Nat.le_of_eq egQ.symm)
      have pgQhn := Nat.le_trans hn.1 (Nat.le_of_eq egQ.symm)
      have ngQbD := Nat.lt_of_lt_of_eq bD.lt egQ.symm
      have ngQbR := Nat.lt_of_lt_of_eq bR.lt egQ.symm
      replace hs := hs.ext x5
      replace hn := hn.ext x5
      replace bD := bD.ext x5
      replace bR := bR.ext x5
      replace X := Ext.trans X x5; clear x5
      refine ops_cons rfl (ow_storeB bQ ti102 rfl rfl rfl rfl rfl rfl ?_)
      intro w8 bQ2 hg7 z9
      replace hs := hs.grown hg7 (by intro g hg; injection hg; omega)
      replace hn := hn.grown hg7 (by intro g hg; injection hg; omega)
      replace bD := bD.grown hg7 (by intro h; injection h; omega)
      replace bR := bR.grown hg7 (by intro h; injection h; omega)
      replace X := X.grown hg7 X.size (by intro g hg; injection hg; omega)
      clear hg7 bQ
      refine ops_nil ?_
      refine c_seqR ?_
      refine ops_cons rfl (ow_move rfl ?_)
      refine ops_cons rfl (ow_loadAB bD ti79 rfl rfl ?_)
      refine ops_cons rfl (ow_loadAB bQ2 ti102 rfl rfl ?_)
      refine ops_cons rfl (ow_callB ent126 rfl (fits_c A _ _ _ xs R S d ⟨(s : Int), (p : Int)⟩ _ hs hn ht hR hS he) (fun w11 hF x10 => ?_) (fun w11 hF x10 => ?_))
      · skip
        replace hs := hs.ext x10
        replace hn := hn.ext x10
        replace bD := bD.ext x10
        replace bR := bR.ext x10
        replace bQ2 := bQ2.ext x10
        replace X := Ext.trans X x10; clear x10
        have hY : (firstB (tblOf xs) d.every S) = some (s * d.every.toNat + p) := by rw [hq2, firstF_yes (by omega) (by show fitsB _ _ (bkOf _ _) = true; rw [hbk]; exact hF)]
        refine ops_nil ?_
        refine c_true rfl ?_
        refine c_seqR ?_
        refine ops_cons rfl (ow_loadAB bQ2 ti102 rfl rfl ?_)
        refine ops_cons rfl (ow_storeB bR ti102 rfl rfl rfl rfl rfl rfl ?_)
        intro w13 bR2 hg12 z14
        replace hs := hs.grown hg12 (by intro g hg; injection hg; omega)
        replace hn := hn.grown hg12 (by intro g hg; injection hg; omega)
        replace bD := bD.grown hg12 (by intro h; injection h; omega)
        replace bQ2 := bQ2.grown hg12 (by intro h; injection h; omega)
        replace X := X.grown hg12 X.size (by intro g hg; injection hg; omega)
        clear hg12 bR
        refine ops_cons rfl (ow_assign rfl ?_)
        refine ops_nil ?_
        refine c_ret ?_
        refine bq_r ?_
        refine tq_r ?_
        refine tq_r ?_
        refine bq_r ?_
        refine bq_r ?_
        refine tq_r ?_
        refine tq_r ?_
        refine bq_r ?_
        refine tq_r ?_
        refine fin_cell2 rfl rfl bR2 ti102 rfl rfl ?_
        first
        | (rw [hY, firstR_some hY, hbk]; exact ⟨rfl, X⟩)
        | (have hN : (firstB (tblOf xs) d.every S) = none := by rw [hq, show s = S by omega, firstF_zero (by omega)]
           rw [hN, firstR_none hN]; exact ⟨rfl, X⟩)
      · skip
        replace hs := hs.ext x10
        replace hn := hn.ext x10
        replace bD := bD.ext x10
        replace bR := bR.ext x10
        replace bQ2 := bQ2.ext x10
        replace X := Ext.trans X x10; clear x10
        have hN : (fun i => fitsB (tblOf xs) d.every (bkOf d.every.toNat i)) (s * d.every.toNat + p) = false := by show fitsB _ _ (bkOf _ _) = false; rw [hbk]; exact hF
        refine ops_nil ?_
        refine c_false rfl ?_
        refine c_skip ?_
        refine bq_n ?_
        refine tq_n ?_
        refine c_region ?_
        refine ops_cons rfl (ow_move rfl ?_)
        refine ops_cons rfl (ow_add rfl rfl (w64 (by omega)) ?_)
        refine ops_cons rfl (ow_assign rfl ?_)
        refine ops_nil ?_
        refine tq_n ⟨p + 1, (.cons rfl (.cons rfl (.cons rfl (.cons rfl (.cons rfl (.cons rfl (.cons rfl (.cons rfl (.cons rfl (.nil _)))))))))), ?_, ?_⟩
        · exact ⟨by omega, (by rw [hq2, firstF_no (by omega) hN, show S * d.every.toNat - (s * d.every.toNat + p) - 1 = S * d.every.toNat - (s * d.every.toNat + (p + 1)) by omega]; rfl), hs, hn, bD, bR, X⟩
        · first | omega | (dsimp only; omega)
    · skip
      refine ops_nil ?_
      refine c_false rfl ?_
      refine c_exit ?_
      refine tq_e ?_
      refine tq_e ?_
      refine bq_e ?_
      refine bq_n ?_
      refine tq_n ?_
      refine c_region ?_
      refine ops_cons rfl (ow_move rfl ?_)
      refine ops_cons rfl (ow_add rfl rfl (w64 (by omega)) ?_)
      refine ops_cons rfl (ow_assign rfl ?_)
      refine ops_nil ?_
      refine tq_n ⟨s + 1, (.cons rfl (.cons rfl (.cons rfl (.cons rfl (.nil _))))), ?_, ?_⟩
      · exact ⟨by omega, (by rw [hq2, show p = d.every.toNat by omega, Nat.add_mul, Nat.one_mul]), hs, hn, bD, bR, X⟩
      · first | omega | (dsimp only; omega)
  · skip
    refine ops_nil ?_
    refine c_false rfl ?_
    refine c_exit ?_
    refine tq_e ?_
    refine tq_e ?_
    refine bq_e ?_
    refine tq_n ?_
    refine c_seqR ?_
    refine ops_cons rfl (ow_buildP pl102 ti102 rfl rfl ?_)
    refine ops_cons rfl (ow_storeB bR ti102 rfl rfl rfl rfl rfl rfl ?_)
    intro w16 bR2 hg15 z17
    replace hs := hs.grown hg15 (by intro g hg; injection hg; omega)
    replace hn := hn.grown hg15 (by intro g hg; injection hg; omega)
    replace bD := bD.grown hg15 (by intro h; injection h; omega)
    replace X := X.grown hg15 X.size (by intro g hg; injection hg; omega)
    clear hg15 bR
    refine ops_cons rfl (ow_assign rfl ?_)
    refine ops_nil ?_
    refine c_ret ?_
    refine fin_cell2 rfl rfl bR2 ti102 rfl rfl ?_
    first
    | (rw [hY, firstR_some hY, hbk]; exact ⟨rfl, X⟩)
    | (have hN : (firstB (tblOf xs) d.every S) = none := by rw [hq, show s = S by omega, firstF_zero (by omega)]
       rw [hN, firstR_none hN]; exact ⟨rfl, X⟩)

theorem sPlan_c (A : Option Addr) (B c : Nat) (xs : List Dem) (R S : Nat) (w : World) (hs : Sl B w A (xs.flatMap Dem.cells)) (hE : ∀ d ∈ xs, 1 ≤ d.every ∧ d.every ≤ 8) (hl : xs.length ≤ 40) (hR : 1 ≤ R ∧ R ≤ 8) (hS : 1 ≤ S ∧ S ≤ 16) :
    Calls Try.prog 75 #[.slice A xs.length c, .int .i64 (R : Nat), .int .i64 (S : Nat)] w (Ret fun v w' => ∃ A' c', v = .tuple #[.slice A' ((planL S xs 0 (tab0 R S)).getD []).length c', .bool (planL S xs 0 (tab0 R S)).isSome] ∧ Own w' w.heap.size 102 2 A' ((planL S xs 0 (tab0 R S)).getD []).length c' (((planL S xs 0 (tab0 R S)).getD []).flatMap Bk.cells) ∧ Ext w w') := by
  have Bhs := hs.1
  have X := Ext.refl w
  refine calls_of (args := [.slice A xs.length c, .int .i64 (R : Nat), .int .i64 (S : Nat)]) Try.func75 Try.ntmps75 rfl rfl ?_
  refine c_seqR ?_
  refine ops_cons rfl (ow_assign rfl ?_)
  refine ops_cons rfl (ow_assign rfl ?_)
  refine ops_nil ?_
  refine c_seqR ?_
  refine ops_cons rfl (ow_move rfl ?_)
  refine ops_cons rfl (ow_move rfl ?_)
  refine ops_cons rfl (ow_call ent109 rfl (ret_mono (sFree_c R S _ hR.2 hS) ?_))
  rintro _ w2 ⟨AT, cT, y0, rfl, em, hdj, oT, oTn, x1⟩
  replace oT := Own.low oT X.size
  replace oTn := NOwn.low oTn X.size
  replace hs := hs.ext x1
  replace X := Ext.trans X x1; clear x1
  have hy0 : y0.length = R := by rw [← tblOf_len, em]; exact (tab0_tab R S).1
  refine ops_cons rfl (ow_assign rfl ?_)
  refine ops_nil ?_
  refine c_seqR ?_
  refine ops_cons rfl (ow_buildSlice el45 ti102 rfl rfl rfl rfl rfl ?_)
  intro gB w4 egB oB bbgB x3 zgB
  replace oB := Own.low oB X.size
  replace hs := hs.ext x3
  replace oT := oT.ext x3
  replace oTn := oTn.ext x3
  replace X := Ext.trans X x3; clear x3
  refine ops_cons rfl (ow_assign rfl ?_)
  refine ops_nil ?_
  refine c_seq ?_
  refine c_seqR ?_
  refine ops_cons rfl (ow_assign rfl ?_)
  refine ops_nil ?_
  refine c_block ?_
  refine c_loop (G := Nat × List ModeI × List Bk × Nat × Option Addr × Nat) (fun ⟨k, ys, bs, n1, A1, c1⟩ => [(0, .slice A xs.length c), (9, .slice A1 n1 c1), (8, .slice AT y0.length cT), (10, .int .i64 (k : Nat))]) (fun ⟨k, ys, bs, n1, A1, c1⟩ wr => k ≤ xs.length ∧ ys.length = y0.length ∧ Tab R S (tblOf ys) ∧ Disj ys ∧ n1 = bs.length ∧ bs.length = k ∧ (planL S xs 0 (tab0 R S)) = (planL S (xs.drop k) k (tblOf ys)).map (bs ++ ·) ∧ Own wr w.heap.size 24 1 AT y0.length cT (ys.flatMap rowC) ∧ NOwn wr w.heap.size 2 ys ∧ Own wr w.heap.size 102 2 A1 n1 c1 (bs.flatMap Bk.cells) ∧ Sl B wr A (xs.flatMap Dem.cells) ∧ Ext w wr) (fun ⟨k, ys, bs, n1, A1, c1⟩ => xs.length - k) (0, y0, [], 0, some ⟨gB, 0, none⟩, 0) (.cons rfl (.cons rfl (.cons rfl (.cons rfl (.nil _))))) ?_ ?_
  · exact ⟨by omega, rfl, (by rw [em]; exact tab0_tab R S), hdj, rfl, rfl, (by rw [em, List.drop_zero]; cases planL S xs 0 (tab0 R S) <;> rfl), oT, oTn, oB, hs, X⟩
  clear hs oT oTn oB
  clear X
  rintro ⟨k, ys, bs, n1, A1, c1⟩ wr ⟨hk0, hyl, hT, hd, hn, hnk, hq, oT, oN, oB, hs, X⟩
  refine c_seq ?_
  refine c_seqR ?_
  refine ops_cons rfl (ow_move rfl ?_)
  refine ops_cons rfl (ow_move rfl ?_)
  refine ops_cons rfl (ow_len Try.underlying36 rfl ?_)
  refine ops_cons rfl (ow_lss2 rfl rfl (fun hk => ?_) (fun hk => ?_))
  · skip
    obtain ⟨x, hx, dx⟩ := drop_at' hk
    have hex := hE x (List.mem_of_getElem? hx)
    refine ops_nil ?_
    refine c_true rfl ?_
    refine c_skip ?_
    refine tq_n ?_
    refine c_seq ?_
    refine c_block ?_
    refine c_seqR ?_
    refine ops_cons rfl (ow_move rfl ?_)
    refine ops_cons rfl (ow_move rfl ?_)
    refine ops_cons rfl (ow_move rfl ?_)
    refine ops_cons rfl (ow_indexT hs Dem.len rfl el36 rfl rfl rfl hx rfl ?_)
    refine ops_cons rfl (ow_loadTA hs Dem.len hx ti79 rfl ?_)
    refine ops_cons rfl (ow_call ent110 rfl (ret_mono (by have h := first_c AT _ _ cT ys R S x _ oT.sl oN.nexts hT hR hS hex; rw [hyl] at h; exact h) ?_))
    rintro _ w6 ⟨rfl, x5⟩
    replace oT := oT.ext x5
    replace oN := oN.ext x5
    replace oB := oB.ext x5
    replace hs := hs.ext x5
    replace X := Ext.trans X x5; clear x5
    refine ops_cons rfl (ow_move rfl ?_)
    refine ops_cons rfl (ow_extract rfl rfl ?_)
    refine ops_cons rfl (ow_extract rfl rfl ?_)
    have UB := fun g hg => (Own.lt oB (g := g) hg).2
    refine ops_cons rfl (ow_alloc ti102 ?_)
    intro gQ w8 egQ bQ x7 zgQ
    have lgQ : w.heap.size ≤ gQ := Nat.le_trans X.size (Nat.le_of_eq egQ.symm)
    have pgQhs := Nat.le_trans hs.1 (Nat.le_of_eq egQ.symm)
    replace oT := oT.ext x7
    replace oN := oN.ext x7
    replace oB := oB.ext x7
    replace hs := hs.ext x7
    replace X := Ext.trans X x7; clear x7
    refine ops_cons rfl (ow_storeB bQ ti102 rfl rfl rfl rfl rfl rfl ?_)
    intro w10 bQ2 hg9 z11
    replace oT := oT.grownBlk hg9 (Own.neT oT bQ (by decide))
    replace oN := oN.grownB bQ hg9 (by decide)
    replace oB := oB.grownBlk hg9 (fun h => by have := UB _ h; omega)
    replace hs := hs.grown hg9 (by intro g hg; injection hg; omega)
    replace X := X.grown hg9 X.size (by intro g hg; injection hg; omega)
    clear hg9 bQ
    refine ops_cons rfl (ow_assign rfl ?_)
    refine ops_nil ?_
    refine c_seq ?_
    refine c_seqR ?_
    refine ops_cons rfl (ow_move rfl ?_)
    refine ops_cons rfl (ow_not rfl ?_)
    cases hF0 : (!(firstB (tblOf ys) x.every S).isSome)
    · skip
      have hF : (firstB (tblOf ys) x.every S).isSome = true := by simpa using hF0
      refine ops_nil ?_
      refine c_false rfl ?_
      refine c_skip ?_
      refine tq_n ?_
      refine c_seqD [false, false, false, false, false, false, false] mixed (by kernel_rfl) ?_
      refine f_q rfl (fun wq sq => ow_move rfl ⟨rfl, Ext.refl _⟩) ?_
      refine f_q rfl (fun wq sq => ow_move rfl ⟨rfl, Ext.refl _⟩) ?_
      refine f_q rfl (fun wq sq => ow_move rfl ⟨rfl, Ext.refl _⟩) ?_
      refine f_q rfl (fun wq sq => ow_indexT (hs.ext sq) Dem.len rfl el36 rfl rfl rfl hx rfl ⟨rfl, Ext.refl _⟩) ?_
      refine f_q rfl (fun wq sq => ow_loadTA (hs.ext sq) Dem.len hx ti79 rfl ⟨rfl, Ext.refl _⟩) ?_
      refine f_q rfl (fun wq sq => ow_loadAB (bQ2.ext sq) ti102 rfl rfl ⟨rfl, Ext.refl _⟩) ?_
      refine f_q rfl (fun wq sq => ow_move rfl ⟨rfl, Ext.refl _⟩) ?_
      refine f_nil (fun w12 sq => ?_)
      have xq := sq
      replace oT := oT.ext xq
      replace oN := oN.ext xq
      replace oB := oB.ext xq
      replace hs := hs.ext xq
      replace bQ2 := bQ2.ext xq
      replace X := Ext.trans X xq; clear xq sq
      refine ops_cons rfl (ow_call ent111 rfl (ret_mono (by have h := put_c AT cT w.heap.size _ ys R S x (firstR (tblOf ys) x.every S) (k : Int) _ (by rw [hyl]; exact oT) oN hd (fun y hy g hg => (Own.lt (oN y hy).1 hg).2) X.size hT hR hS hex (by have h := fits_in (firstB_fits hF); rw [hT.slots (by omega)] at h; omega); rw [hyl] at h; exact h) ?_))
      rintro _ wM ⟨zs, rfl, eZ, hdZ, hlZ, oTZ, oNZ, xM⟩
      have xB := xM.below X.size
      replace hs := hs.below (Below.mono xB Bhs)
      replace oB := oB.kep xM.kep (by decide)
      replace bQ2 := bQ2.kep xM.kep (by decide)
      replace X := Below.trans X xB
      replace oT := oTZ
      replace oN := oNZ
      refine ops_nil ?_
      refine c_region ?_
      refine ops_cons rfl (ow_move rfl ?_)
      refine ops_cons rfl (ow_loadAB bQ2 ti102 rfl rfl ?_)
      refine ops_cons rfl (ow_buildSlice el45 ti102 rfl rfl rfl rfl rfl ?_)
      intro g13 w15 eg13 oV bbg13 x14 zg13
      replace oV := Own.low oV X.size
      replace oT := oT.ext x14
      replace oN := oN.ext x14
      replace oB := oB.ext x14
      replace hs := hs.ext x14
      replace bQ2 := bQ2.ext x14
      replace X := Ext.trans X x14; clear x14
      refine ops_cons rfl (ow_append (ts := #[]) oB X.size oV.sl (by first | rfl | simp) (by first | exact List.all_eq_true.1 rfl | simp [Value.oneCell']) el45 ti102 rfl rfl rfl rfl (by omega) (by omega) ?_)
      intro AoA coA w17 oA hg16
      replace oT := oT.grown hg16 (Own.neO oT oB (by decide))
      replace oN := oN.grownO oB hg16 (by decide)
      replace hs := hs.grown hg16 (fun g hg => Nat.le_trans Bhs (Own.lt oB hg).1)
      replace bQ2 := bQ2.grown hg16 (fun h => by have := UB _ h.symm; omega)
      replace X := X.grown hg16 X.size (fun g hg => (Own.lt oB hg).1)
      clear hg16
      refine ops_cons rfl (ow_assign rfl ?_)
      refine ops_nil ?_
      refine bq_n ?_
      refine tq_n ?_
      refine c_region ?_
      refine ops_cons rfl (ow_move rfl ?_)
      refine ops_cons rfl (ow_add rfl rfl (w64 (by omega)) ?_)
      refine ops_cons rfl (ow_assign rfl ?_)
      refine ops_nil ?_
      refine tq_n ⟨(k + 1, zs, bs ++ [(firstR (tblOf ys) x.every S)], n1 + 1, AoA, coA), (.cons rfl (.cons rfl (.cons rfl (.cons rfl (.nil _))))), ?_, ?_⟩
      · exact ⟨by omega, hlZ, (by rw [eZ]; exact hT.putB _ _ _), hdZ, (by simp [hn]), (by simp [hnk]), (by rw [hq, dx, planL_first hF, map_snoc, ← eZ]), oT, oN, oA.to (snoc Bk.cells bs (firstR (tblOf ys) x.every S)).symm, hs, X⟩
      · first | omega | (dsimp only; omega)
    · skip
      have hF : (firstB (tblOf ys) x.every S).isSome = false := by simpa using hF0
      refine ops_nil ?_
      refine c_true rfl ?_
      refine c_seqR ?_
      refine ops_cons rfl (ow_assign rfl ?_)
      refine ops_cons rfl (ow_assign rfl ?_)
      refine ops_nil ?_
      refine c_ret ?_
      refine tq_r ?_
      refine bq_r ?_
      refine tq_r ?_
      refine tq_r ?_
      refine bq_r ?_
      refine tq_r ?_
      refine fin_ret2 rfl rfl rfl ?_
      first
      | (have hN : (planL S xs 0 (tab0 R S)) = none := by
           rw [hq, dx, planL_none (by cases h1 : firstB (tblOf ys) x.every S with
             | none => rfl
             | some i => rw [h1] at hF; cases hF)]; rfl
         rw [hN]; exact ⟨none, 0, rfl, Own.nil_ _ _ _ _, X⟩)
      | (have hY : (planL S xs 0 (tab0 R S)) = some bs := by rw [hq, hkk, List.drop_length]; simp [planL]
         rw [hY]
         subst hn
         exact ⟨A1, c1, rfl, oB, X⟩)
  · skip
    have hkk : k = xs.length := by omega
    refine ops_nil ?_
    refine c_false rfl ?_
    refine c_exit ?_
    refine tq_e ?_
    refine tq_e ?_
    refine bq_e ?_
    refine tq_n ?_
    refine c_seqR ?_
    refine ops_cons rfl (ow_move rfl ?_)
    refine ops_cons rfl (ow_assign rfl ?_)
    refine ops_cons rfl (ow_assign rfl ?_)
    refine ops_nil ?_
    refine c_ret ?_
    refine fin_ret2 rfl rfl rfl ?_
    first
    | (have hN : (planL S xs 0 (tab0 R S)) = none := by
         rw [hq, dx, planL_none (by cases h1 : firstB (tblOf ys) x.every S with
           | none => rfl
           | some i => rw [h1] at hF; cases hF)]; rfl
       rw [hN]; exact ⟨none, 0, rfl, Own.nil_ _ _ _ _, X⟩)
    | (have hY : (planL S xs 0 (tab0 R S)) = some bs := by rw [hq, hkk, List.drop_length]; simp [planL]
       rw [hY]
       subst hn
       exact ⟨A1, c1, rfl, oB, X⟩)
end Go.Proofs.Ytimabffnoanciaa
