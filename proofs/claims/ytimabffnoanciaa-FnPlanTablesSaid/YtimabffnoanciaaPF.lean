/- Bookings are tried and made. No condition. -/
import Derived.Test.YtimabffnoanciaaPT
import Derived.Test.YtimabffnoanciaaU2
namespace Go.Proofs.Ytimabffnoanciaa
open Go.RowKit
set_option linter.unusedVariables false
set_option linter.unusedSimpArgs false
set_option maxRecDepth 20000
theorem fits_c (A : Option Addr) (B B2 c : Nat) (xs : List ModeI) (R S : Nat) (d : Dem) (b : Bk) (w : World) (hs : Sl B w A (xs.flatMap rowC)) (hn : Nexts B2 w xs) (ht : Tab R S (tblOf xs)) (hR : 1 ≤ R ∧ R ≤ 8) (hS : 1 ≤ S ∧ S ≤ 16) (he : 1 ≤ d.every ∧ d.every ≤ 8) :
    Calls Try.prog 126 #[.slice A xs.length c, .agg d.cells.toArray, .agg b.cells.toArray] w (Ret fun v w' => v = .bool (fitsB (tblOf xs) d.every b) ∧ Ext w w') := by
  have hxl : xs.length = R := by rw [← tblOf_len]; exact ht.1
  obtain ⟨x0, hx0⟩ : ∃ x0, xs[0]? = some x0 := ⟨_, List.getElem?_eq_getElem (by omega)⟩
  have e0 : x0.m.next.length = S := by have h := (ht.row (r := 0) (by omega)).2; rwa [tblOf_at hx0] at h
  have hsl : slotsOf (tblOf xs) = S := ht.slots (by omega)
  have Bhs := hs.1
  have Bhn := hn.1
  have X := Ext.refl w
  refine calls_of (args := [.slice A xs.length c, .agg d.cells.toArray, .agg b.cells.toArray]) Try.func126 Try.ntmps126 rfl rfl ?_
  refine c_seqR ?_
  refine ops_cons rfl (ow_box rfl rfl ?_)
  intro gD w2 egD bD x1 zgD
  have lgD : w.heap.size ≤ gD := Nat.le_trans X.size (Nat.le_of_eq egD.symm)
  have pgDhs := Nat.le_trans hs.1 (Nat.le_of_eq egD.symm)
  have pgDhn := Nat.le_trans hn.1 (Nat.le_of_eq egD.symm)
  replace hs := hs.ext x1
  replace hn := hn.ext x1
  replace X := Ext.trans X x1; clear x1
  refine ops_cons rfl (ow_box rfl rfl ?_)
  intro gB w4 egB bB x3 zgB
  have lgB : w.heap.size ≤ gB := Nat.le_trans X.size (Nat.le_of_eq egB.symm)
  have pgBhs := Nat.le_trans hs.1 (Nat.le_of_eq egB.symm)
  have pgBhn := Nat.le_trans hn.1 (Nat.le_of_eq egB.symm)
  have ngBbD := Nat.lt_of_lt_of_eq bD.lt egB.symm
  replace hs := hs.ext x3
  replace hn := hn.ext x3
  replace bD := bD.ext x3
  replace X := Ext.trans X x3; clear x3
  refine ops_cons rfl (ow_assign rfl ?_)
  refine ops_nil ?_
  refine c_seqR ?_
  refine ops_cons rfl (ow_move rfl ?_)
  refine ops_cons rfl (ow_len Try.underlying74 rfl ?_)
  refine ops_cons rfl (ow_assign rfl ?_)
  refine ops_nil ?_
  refine c_seq ?_
  refine c_seqD [false, false, false, false, false, false, false, false, false, false, false, false, false, false, false, false, false, false, false, false, false, false, false, false] mixed (by kernel_rfl) ?_
  refine f_q rfl (fun wq sq => ow_fieldAddrB off79_1 rfl rfl ⟨rfl, Ext.refl _⟩) ?_
  refine f_q rfl (fun wq sq => ow_loadB (bD.ext sq) ti2 rfl rfl ⟨rfl, Ext.refl _⟩) ?_
  refine f_q rfl (fun wq sq => ow_move rfl ⟨rfl, Ext.refl _⟩) ?_
  refine f_qb rfl (fun wq sq => ow_gtr rfl rfl ⟨rfl, Ext.refl _⟩) (fun h1 => ?_) (fun h1 => ?_)
  · skip
    refine f_q rfl (fun wq sq => ow_move rfl ⟨rfl, Ext.refl _⟩) ?_
    refine f_qs rfl rfl rfl rfl ?_
    refine f_qs rfl rfl rfl rfl ?_
    refine f_qs rfl rfl rfl rfl ?_
    refine f_qs rfl rfl rfl rfl ?_
    refine f_qs rfl rfl rfl rfl ?_
    refine f_qs rfl rfl rfl rfl ?_
    refine f_qs rfl rfl rfl rfl ?_
    refine f_qs rfl rfl rfl rfl ?_
    refine f_qs rfl rfl rfl rfl ?_
    refine f_q rfl (fun wq sq => ow_pick rfl rfl ⟨rfl, Ext.refl _⟩) ?_
    refine f_q rfl (fun wq sq => ow_move rfl ⟨rfl, Ext.refl _⟩) ?_
    refine f_qs rfl rfl rfl rfl ?_
    refine f_qs rfl rfl rfl rfl ?_
    refine f_qs rfl rfl rfl rfl ?_
    refine f_qs rfl rfl rfl rfl ?_
    refine f_qs rfl rfl rfl rfl ?_
    refine f_qs rfl rfl rfl rfl ?_
    refine f_qs rfl rfl rfl rfl ?_
    refine f_q rfl (fun wq sq => ow_pick rfl rfl ⟨rfl, Ext.refl _⟩) ?_
    refine f_nil (fun w5 sq => ?_)
    have xq := sq
    replace hs := hs.ext xq
    replace hn := hn.ext xq
    replace bD := bD.ext xq
    replace bB := bB.ext xq
    replace X := Ext.trans X xq; clear xq sq
    refine ops_nil ?_
    refine c_true rfl ?_
    refine c_seqR ?_
    refine ops_cons rfl (ow_assign rfl ?_)
    refine ops_nil ?_
    refine c_ret ?_
    refine tq_r ?_
    refine fin_ret1 rfl rfl ?_
    refine ⟨congrArg Value.bool (Eq.symm ?_), X⟩
    unfold fitsB
    first
    | (rw [decide_eq_false (by rw [tblOf_len]; omega)]; rfl)
    | (rw [decide_eq_true (by rw [tblOf_len]; omega), hsl, ← e0, h2]; rfl)
    | (rw [decide_eq_true (by rw [tblOf_len]; omega), hsl, ← e0, h2, h3]; rfl)
    | (rw [decide_eq_true (by rw [tblOf_len]; omega), hsl, ← e0, h2, h3, tblOf_len, hf, freeL_bad (by omega) (by rw [tblOf_len]; omega) (by omega)]; rfl)
    | (rw [decide_eq_true (by rw [tblOf_len]; omega), hsl, ← e0, h2, h3, tblOf_len, hf, freeL_end (by rw [tblOf_len]; omega)]; rfl)
  · skip
    refine f_q rfl (fun wq sq => ow_move rfl ⟨rfl, Ext.refl _⟩) ?_
    refine f_qw rfl rfl rfl (fun wq sq => ow_fieldAddrB off102_0 rfl rfl ⟨rfl, Ext.refl _⟩) ?_
    refine f_qw rfl rfl rfl (fun wq sq => ow_loadB (bB.ext sq) ti2 rfl rfl ⟨rfl, Ext.refl _⟩) ?_
    refine f_qw rfl rfl rfl (fun wq sq => ow_move rfl ⟨rfl, Ext.refl _⟩) ?_
    refine f_qw rfl rfl rfl (fun wq sq => ow_indexT (hs.ext sq) rowC_len rfl el74 rfl rfl rfl hx0 rfl ⟨rfl, Ext.refl _⟩) ?_
    refine f_qw rfl rfl rfl (fun wq sq => ow_loadT (hs.ext sq) rowC_len hx0 ti24 rfl rfl rfl ⟨rfl, Ext.refl _⟩) ?_
    refine f_qw rfl rfl rfl (fun wq sq => ow_len Try.underlying24 rfl ⟨rfl, Ext.refl _⟩) ?_
    refine f_qw rfl rfl rfl (fun wq sq => ow_sub rfl rfl (w64 (by omega)) ⟨rfl, Ext.refl _⟩) ?_
    refine f_qwB rfl rfl rfl (fun wq sq => ow_call ent106 rfl (l01In_c _ _ _ _)) (fun h2 => ?_) (fun h2 => ?_)
    · skip
      refine f_qw rfl rfl rfl (fun wq sq => ow_not rfl ⟨rfl, Ext.refl _⟩) ?_
      refine f_q rfl (fun wq sq => ow_pick rfl rfl ⟨rfl, Ext.refl _⟩) ?_
      refine f_q rfl (fun wq sq => ow_move rfl ⟨rfl, Ext.refl _⟩) ?_
      refine f_qw rfl rfl rfl (fun wq sq => ow_fieldAddrB off102_1 rfl rfl ⟨rfl, Ext.refl _⟩) ?_
      refine f_qw rfl rfl rfl (fun wq sq => ow_loadB (bB.ext sq) ti2 rfl rfl ⟨rfl, Ext.refl _⟩) ?_
      refine f_qw rfl rfl rfl (fun wq sq => ow_fieldAddrB off79_1 rfl rfl ⟨rfl, Ext.refl _⟩) ?_
      refine f_qw rfl rfl rfl (fun wq sq => ow_loadB (bD.ext sq) ti2 rfl rfl ⟨rfl, Ext.refl _⟩) ?_
      refine f_qw rfl rfl rfl (fun wq sq => ow_sub rfl rfl (w64 (by omega)) ⟨rfl, Ext.refl _⟩) ?_
      refine f_qwB rfl rfl rfl (fun wq sq => ow_call ent106 rfl (l01In_c _ _ _ _)) (fun h3 => ?_) (fun h3 => ?_)
      · skip
        refine f_qw rfl rfl rfl (fun wq sq => ow_not rfl ⟨rfl, Ext.refl _⟩) ?_
        refine f_q rfl (fun wq sq => ow_pick rfl rfl ⟨rfl, Ext.refl _⟩) ?_
        refine f_nil (fun w10 sq => ?_)
        have xq := sq
        replace hs := hs.ext xq
        replace hn := hn.ext xq
        replace bD := bD.ext xq
        replace bB := bB.ext xq
        replace X := Ext.trans X xq; clear xq sq
        refine ops_nil ?_
        refine c_false rfl ?_
        refine c_skip ?_
        refine tq_n ?_
        refine c_seq ?_
        refine c_seqR ?_
        refine ops_cons rfl (ow_fieldAddrB off102_1 rfl rfl ?_)
        refine ops_cons rfl (ow_loadB bB ti2 rfl rfl ?_)
        refine ops_cons rfl (ow_assign rfl ?_)
        refine ops_nil ?_
        refine c_block ?_
        refine c_loop (G := Int × Nat) (fun ⟨r, n⟩ => [(0, .slice A xs.length c), (4, .pointer (some ⟨gD, 0, none⟩)), (5, .pointer (some ⟨gB, 0, none⟩)), (7, .int .i64 (xs.length : Nat)), (8, .int .i64 r)]) (fun ⟨r, n⟩ wr => 0 ≤ r ∧ (xs.length : Int) ≤ r + n ∧ freeL (tblOf xs) d.every.toNat b.slot.toNat xs.length b.phase.toNat = freeL (tblOf xs) d.every.toNat b.slot.toNat n r.toNat ∧ Sl B wr A (xs.flatMap rowC) ∧ Nexts B2 wr xs ∧ Blk wr gD 79 d.cells ∧ Blk wr gB 102 b.cells ∧ Ext w wr) (fun ⟨r, n⟩ => (xs.length - r).toNat) (b.phase, xs.length) (.cons rfl (.cons rfl (.cons rfl (.cons rfl (.cons rfl (.nil _)))))) ?_ ?_
        · exact ⟨(inB_iff.1 h3).1, (by have := (inB_iff.1 h3).1; omega), rfl, hs, hn, bD, bB, X⟩
        clear hs hn bD bB
        clear X
        rintro ⟨r, n⟩ wr ⟨hr0, hrn, hf, hs, hn, bD, bB, X⟩
        refine c_seq ?_
        refine c_seqR ?_
        refine ops_cons rfl (ow_move rfl ?_)
        refine ops_cons rfl (ow_move rfl ?_)
        refine ops_cons rfl (ow_lss2 rfl rfl (fun hrl => ?_) (fun hrl => ?_))
        · skip
          have hs3 := inB_iff.1 h2
          obtain ⟨x, hx⟩ : ∃ x, xs[r.toNat]? = some x := ⟨_, List.getElem?_eq_getElem (by omega)⟩
          have hnx := hn.at_ hx
          have hc := ht.cell (r := r.toNat) (s := b.slot.toNat) (by omega) (by omega)
          rw [tblOf_at hx] at hc
          refine ops_nil ?_
          refine c_true rfl ?_
          refine c_skip ?_
          refine tq_n ?_
          refine c_seq ?_
          refine c_block ?_
          refine c_seqD [false, false, false, false, false, false, false, false, false] mixed (by kernel_rfl) ?_
          refine f_q rfl (fun wq sq => ow_move rfl ⟨rfl, Ext.refl _⟩) ?_
          refine f_q rfl (fun wq sq => ow_move rfl ⟨rfl, Ext.refl _⟩) ?_
          refine f_q rfl (fun wq sq => ow_indexT (hs.ext sq) rowC_len rfl el74 rfl rfl rfl hx (by omega) ⟨rfl, Ext.refl _⟩) ?_
          refine f_q rfl (fun wq sq => ow_loadT (hs.ext sq) rowC_len hx ti24 rfl rfl rfl ⟨rfl, Ext.refl _⟩) ?_
          refine f_q rfl (fun wq sq => ow_fieldAddrB off102_0 rfl rfl ⟨rfl, Ext.refl _⟩) ?_
          refine f_q rfl (fun wq sq => ow_loadB (bB.ext sq) ti2 rfl rfl ⟨rfl, Ext.refl _⟩) ?_
          refine f_q rfl (fun wq sq => ow_indexT (hnx.ext sq) eI_len rfl el24 rfl rfl rfl hc (by omega) ⟨rfl, Ext.refl _⟩) ?_
          refine f_q rfl (fun wq sq => ow_loadT (hnx.ext sq) eI_len hc ti2 rfl rfl rfl ⟨rfl, Ext.refl _⟩) ?_
          refine f_qb rfl (fun wq sq => ow_geq rfl rfl ⟨rfl, Ext.refl _⟩) (fun h5 => ?_) (fun h5 => ?_)
          · skip
            refine f_nil (fun w11 sq => ?_)
            have xq := sq
            replace hs := hs.ext xq
            replace hn := hn.ext xq
            replace bD := bD.ext xq
            replace bB := bB.ext xq
            replace X := Ext.trans X xq; clear xq sq
            refine ops_nil ?_
            refine c_true rfl ?_
            refine c_seqR ?_
            refine ops_cons rfl (ow_assign rfl ?_)
            refine ops_nil ?_
            refine c_ret ?_
            refine bq_r ?_
            refine tq_r ?_
            refine tq_r ?_
            refine bq_r ?_
            refine tq_r ?_
            refine fin_ret1 rfl rfl ?_
            refine ⟨congrArg Value.bool (Eq.symm ?_), X⟩
            unfold fitsB
            first
            | (rw [decide_eq_false (by rw [tblOf_len]; omega)]; rfl)
            | (rw [decide_eq_true (by rw [tblOf_len]; omega), hsl, ← e0, h2]; rfl)
            | (rw [decide_eq_true (by rw [tblOf_len]; omega), hsl, ← e0, h2, h3]; rfl)
            | (rw [decide_eq_true (by rw [tblOf_len]; omega), hsl, ← e0, h2, h3, tblOf_len, hf, freeL_bad (by omega) (by rw [tblOf_len]; omega) (by omega)]; rfl)
            | (rw [decide_eq_true (by rw [tblOf_len]; omega), hsl, ← e0, h2, h3, tblOf_len, hf, freeL_end (by rw [tblOf_len]; omega)]; rfl)
          · skip
            refine f_nil (fun w12 sq => ?_)
            have xq := sq
            replace hs := hs.ext xq
            replace hn := hn.ext xq
            replace bD := bD.ext xq
            replace bB := bB.ext xq
            replace X := Ext.trans X xq; clear xq sq
            refine ops_nil ?_
            refine c_false rfl ?_
            refine c_skip ?_
            refine bq_n ?_
            refine tq_n ?_
            refine c_region ?_
            refine ops_cons rfl (ow_move rfl ?_)
            refine ops_cons rfl (ow_fieldAddrB off79_1 rfl rfl ?_)
            refine ops_cons rfl (ow_loadB bD ti2 rfl rfl ?_)
            refine ops_cons rfl (ow_add rfl rfl (w64 (by omega)) ?_)
            refine ops_cons rfl (ow_assign rfl ?_)
            refine ops_nil ?_
            refine tq_n ⟨(r + d.every, n - 1), (.cons rfl (.cons rfl (.cons rfl (.cons rfl (.cons rfl (.nil _)))))), ?_, ?_⟩
            · exact ⟨(by omega), (by omega), (by rw [hf, freeL_ok (by omega) (by rw [tblOf_len]; omega) (by omega), show (r + d.every).toNat = r.toNat + d.every.toNat by omega]), hs, hn, bD, bB, X⟩
            · first | omega | (dsimp only; omega)
        · skip
          refine ops_nil ?_
          refine c_false rfl ?_
          refine c_exit ?_
          refine tq_e ?_
          refine tq_e ?_
          refine bq_e ?_
          refine tq_n ?_
          refine c_seqR ?_
          refine ops_cons rfl (ow_assign rfl ?_)
          refine ops_nil ?_
          refine c_ret ?_
          refine fin_ret1 rfl rfl ?_
          refine ⟨congrArg Value.bool (Eq.symm ?_), X⟩
          unfold fitsB
          first
          | (rw [decide_eq_false (by rw [tblOf_len]; omega)]; rfl)
          | (rw [decide_eq_true (by rw [tblOf_len]; omega), hsl, ← e0, h2]; rfl)
          | (rw [decide_eq_true (by rw [tblOf_len]; omega), hsl, ← e0, h2, h3]; rfl)
          | (rw [decide_eq_true (by rw [tblOf_len]; omega), hsl, ← e0, h2, h3, tblOf_len, hf, freeL_bad (by omega) (by rw [tblOf_len]; omega) (by omega)]; rfl)
          | (rw [decide_eq_true (by rw [tblOf_len]; omega), hsl, ← e0, h2, h3, tblOf_len, hf, freeL_end (by rw [tblOf_len]; omega)]; rfl)
      · skip
        refine f_qw rfl rfl rfl (fun wq sq => ow_not rfl ⟨rfl, Ext.refl _⟩) ?_
        refine f_q rfl (fun wq sq => ow_pick rfl rfl ⟨rfl, Ext.refl _⟩) ?_
        refine f_nil (fun w13 sq => ?_)
        have xq := sq
        replace hs := hs.ext xq
        replace hn := hn.ext xq
        replace bD := bD.ext xq
        replace bB := bB.ext xq
        replace X := Ext.trans X xq; clear xq sq
        refine ops_nil ?_
        refine c_true rfl ?_
        refine c_seqR ?_
        refine ops_cons rfl (ow_assign rfl ?_)
        refine ops_nil ?_
        refine c_ret ?_
        refine tq_r ?_
        refine fin_ret1 rfl rfl ?_
        refine ⟨congrArg Value.bool (Eq.symm ?_), X⟩
        unfold fitsB
        first
        | (rw [decide_eq_false (by rw [tblOf_len]; omega)]; rfl)
        | (rw [decide_eq_true (by rw [tblOf_len]; omega), hsl, ← e0, h2]; rfl)
        | (rw [decide_eq_true (by rw [tblOf_len]; omega), hsl, ← e0, h2, h3]; rfl)
        | (rw [decide_eq_true (by rw [tblOf_len]; omega), hsl, ← e0, h2, h3, tblOf_len, hf, freeL_bad (by omega) (by rw [tblOf_len]; omega) (by omega)]; rfl)
        | (rw [decide_eq_true (by rw [tblOf_len]; omega), hsl, ← e0, h2, h3, tblOf_len, hf, freeL_end (by rw [tblOf_len]; omega)]; rfl)
    · skip
      refine f_qw rfl rfl rfl (fun wq sq => ow_not rfl ⟨rfl, Ext.refl _⟩) ?_
      refine f_q rfl (fun wq sq => ow_pick rfl rfl ⟨rfl, Ext.refl _⟩) ?_
      refine f_q rfl (fun wq sq => ow_move rfl ⟨rfl, Ext.refl _⟩) ?_
      refine f_qs rfl rfl rfl rfl ?_
      refine f_qs rfl rfl rfl rfl ?_
      refine f_qs rfl rfl rfl rfl ?_
      refine f_qs rfl rfl rfl rfl ?_
      refine f_qs rfl rfl rfl rfl ?_
      refine f_qs rfl rfl rfl rfl ?_
      refine f_qs rfl rfl rfl rfl ?_
      refine f_q rfl (fun wq sq => ow_pick rfl rfl ⟨rfl, Ext.refl _⟩) ?_
      refine f_nil (fun w14 sq => ?_)
      have xq := sq
      replace hs := hs.ext xq
      replace hn := hn.ext xq
      replace bD := bD.ext xq
      replace bB := bB.ext xq
      replace X := Ext.trans X xq; clear xq sq
      refine ops_nil ?_
      refine c_true rfl ?_
      refine c_seqR ?_
      refine ops_cons rfl (ow_assign rfl ?_)
      refine ops_nil ?_
      refine c_ret ?_
      refine tq_r ?_
      refine fin_ret1 rfl rfl ?_
      refine ⟨congrArg Value.bool (Eq.symm ?_), X⟩
      unfold fitsB
      first
      | (rw [decide_eq_false (by rw [tblOf_len]; omega)]; rfl)
      | (rw [decide_eq_true (by rw [tblOf_len]; omega), hsl, ← e0, h2]; rfl)
      | (rw [decide_eq_true (by rw [tblOf_len]; omega), hsl, ← e0, h2, h3]; rfl)
      | (rw [decide_eq_true (by rw [tblOf_len]; omega), hsl, ← e0, h2, h3, tblOf_len, hf, freeL_bad (by omega) (by rw [tblOf_len]; omega) (by omega)]; rfl)
      | (rw [decide_eq_true (by rw [tblOf_len]; omega), hsl, ← e0, h2, h3, tblOf_len, hf, freeL_end (by rw [tblOf_len]; omega)]; rfl)

theorem put_c (A : Option Addr) (c lo hi : Nat) (xs : List ModeI) (R S : Nat) (d : Dem) (b : Bk) (k : Int) (w : World) (oT : Own w lo 24 1 A xs.length c (xs.flatMap rowC)) (oN : NOwn w lo 2 xs) (hd : Disj xs) (hU0 : ∀ y ∈ xs, ∀ g, y.blk = some g → g < hi) (hlo : lo ≤ w.heap.size) (ht : Tab R S (tblOf xs)) (hR : 1 ≤ R ∧ R ≤ 8) (hS : 1 ≤ S ∧ S ≤ 16) (he : 1 ≤ d.every ∧ d.every ≤ 8) (hb : 0 ≤ b.phase ∧ 0 ≤ b.slot ∧ b.slot < S) :
    Calls Try.prog 111 #[.slice A xs.length c, .agg d.cells.toArray, .agg b.cells.toArray, .int .i64 k] w (Ret fun v w' => ∃ ys, v = .tuple #[] ∧ tblOf ys = (putB (tblOf xs) d.every b k) ∧ Disj ys ∧ ys.length = xs.length ∧ Own w' lo 24 1 A xs.length c (ys.flatMap rowC) ∧ NOwn w' lo 2 ys ∧ WinK lo hi [2] w w') := by
  have hxl : xs.length = R := by rw [← tblOf_len]; exact ht.1
  obtain ⟨x0, hx0⟩ : ∃ x0, xs[0]? = some x0 := ⟨_, List.getElem?_eq_getElem (by omega)⟩
  have e0 : x0.m.next.length = S := by have h := (ht.row (r := 0) (by omega)).2; rwa [tblOf_at hx0] at h
  have hsl : slotsOf (tblOf xs) = S := ht.slots (by omega)
  have X := WinK.refl lo hi [2] w
  refine calls_of (args := [.slice A xs.length c, .agg d.cells.toArray, .agg b.cells.toArray, .int .i64 k]) Try.func111 Try.ntmps111 rfl rfl ?_
  refine c_seqR ?_
  refine ops_cons rfl (ow_box rfl rfl ?_)
  intro gD w2 egD bD x1 zgD
  have lgD : w.heap.size ≤ gD := Nat.le_trans X.size (Nat.le_of_eq egD.symm)
  replace oT := oT.ext x1
  replace oN := oN.ext x1
  replace X := X.ext x1; clear x1
  refine ops_cons rfl (ow_box rfl rfl ?_)
  intro gB w4 egB bB x3 zgB
  have lgB : w.heap.size ≤ gB := Nat.le_trans X.size (Nat.le_of_eq egB.symm)
  have ngBbD := Nat.lt_of_lt_of_eq bD.lt egB.symm
  replace oT := oT.ext x3
  replace oN := oN.ext x3
  replace bD := bD.ext x3
  replace X := X.ext x3; clear x3
  refine ops_nil ?_
  refine c_seqR ?_
  refine ops_cons rfl (ow_fieldAddrB off102_1 rfl rfl ?_)
  refine ops_cons rfl (ow_loadB bB ti2 rfl rfl ?_)
  refine ops_cons rfl (ow_assign rfl ?_)
  refine ops_nil ?_
  refine c_block ?_
  refine c_loop (G := Int × Nat × List ModeI) (fun ⟨r, n, ys⟩ => [(0, .slice A xs.length c), (3, .int .i64 k), (5, .pointer (some ⟨gD, 0, none⟩)), (6, .pointer (some ⟨gB, 0, none⟩)), (8, .int .i64 r)]) (fun ⟨r, n, ys⟩ wr => 0 ≤ r ∧ (xs.length : Int) ≤ r + n ∧ ys.length = xs.length ∧ Tab R S (tblOf ys) ∧ Disj ys ∧ (∀ y ∈ ys, ∀ g, y.blk = some g → g < hi) ∧ (putB (tblOf xs) d.every b k) = putL d.every.toNat b.slot.toNat k n r.toNat (tblOf ys) ∧ Own wr lo 24 1 A xs.length c (ys.flatMap rowC) ∧ NOwn wr lo 2 ys ∧ Blk wr gD 79 d.cells ∧ Blk wr gB 102 b.cells ∧ WinK lo hi [2] w wr) (fun ⟨r, n, ys⟩ => (xs.length - r).toNat) (b.phase, xs.length, xs) (.cons rfl (.cons rfl (.cons rfl (.cons rfl (.cons rfl (.nil _)))))) ?_ ?_
  · exact ⟨hb.1, (by omega), rfl, ht, hd, hU0, (by unfold putB; rw [tblOf_len]), oT, oN, bD, bB, X⟩
  clear oT oN bD bB
  clear X
  rintro ⟨r, n, ys⟩ wr ⟨hr0, hrn, hlen, hT, hd, hU0, hp, oT, oN, bD, bB, X⟩
  refine c_seq ?_
  refine c_seqR ?_
  refine ops_cons rfl (ow_move rfl ?_)
  refine ops_cons rfl (ow_move rfl ?_)
  refine ops_cons rfl (ow_len Try.underlying74 rfl ?_)
  refine ops_cons rfl (ow_lss2 rfl rfl (fun hrl => ?_) (fun hrl => ?_))
  · skip
    obtain ⟨x, hx⟩ : ∃ x, ys[r.toNat]? = some x := ⟨_, List.getElem?_eq_getElem (by omega)⟩
    have hc := hT.cell (r := r.toNat) (s := b.slot.toNat) (by omega) (by omega)
    rw [tblOf_at hx] at hc
    have hxn : x.m.next.length = S := by have h := (hT.row (r := r.toNat) (by omega)).2; rwa [tblOf_at hx] at h
    refine ops_nil ?_
    refine c_true rfl ?_
    refine c_skip ?_
    refine tq_n ?_
    refine c_seq ?_
    refine c_block ?_
    refine c_draw [false, false, false, false, false, false, false, false] mixed (by kernel_rfl) ?_
    have oX := (oN x (List.mem_of_getElem? hx)).1
    have oE := oN.erase r.toNat
    have hde := hd.erase hx
    have hU := fun g hg => hU0 x (List.mem_of_getElem? hx) g hg
    refine f_q rfl (fun wq sq => ow_move rfl ⟨rfl, Ext.refl _⟩) ?_
    refine f_q rfl (fun wq sq => ow_move rfl ⟨rfl, Ext.refl _⟩) ?_
    refine f_q rfl (fun wq sq => ow_indexT ((oT.ext sq)).sl rowC_len rfl el74 rfl hlen.symm rfl hx (by omega) ⟨rfl, Ext.refl _⟩) ?_
    refine f_q rfl (fun wq sq => ow_loadT ((oT.ext sq)).sl rowC_len hx ti24 rfl rfl rfl ⟨rfl, Ext.refl _⟩) ?_
    refine f_q rfl (fun wq sq => ow_fieldAddrB off102_0 rfl rfl ⟨rfl, Ext.refl _⟩) ?_
    refine f_q rfl (fun wq sq => ow_loadB (bB.ext sq) ti2 rfl rfl ⟨rfl, Ext.refl _⟩) ?_
    refine f_q rfl (fun wq sq => ow_move rfl ⟨rfl, Ext.refl _⟩) ?_
    refine f_q rfl (fun wq sq => ow_indexT ((oX.ext sq)).sl eI_len rfl el24 rfl rfl rfl hc (by omega) ⟨rfl, Ext.refl _⟩) ?_
    refine f_nil (fun w5 sq => ?_)
    have xq := sq
    replace oT := oT.ext xq
    replace bD := bD.ext xq
    replace bB := bB.ext xq
    replace oX := oX.ext xq
    replace oE := oE.ext xq
    replace X := X.ext xq; clear xq sq
    refine ops_cons rfl (ow_storeR oX ti2 rfl rfl rfl rfl (by omega) (by omega) rfl ?_)
    intro w7 oY hg6 z8
    replace oT := oT.grown hg6 (Own.neO oT oX (by decide))
    replace bD := bD.grown hg6 (fun h => Own.neT oX bD (by decide) h.symm)
    replace bB := bB.grown hg6 (fun h => Own.neT oX bB (by decide) h.symm)
    replace oE := oE.grownX hg6 hde
    replace X := X.grownK hg6 oX (by decide) (fun g hg => ⟨(Own.lt oX hg).1, hU g hg⟩)
    clear hg6 z8
    replace oY := oY.to (cs' := (x.m.next.set b.slot.toNat k).flatMap eI) (set_field (x := cellT (tblOf ys) r.toNat b.slot.toNat) (x' := k) (vs := [.int .i64 k]) eI_len (s' := 1) (f := 0) rfl (by omega) x.m.next b.slot.toNat hc)
    refine ops_nil ?_
    refine bq_n ?_
    refine tq_n ?_
    refine c_region ?_
    refine ops_cons rfl (ow_move rfl ?_)
    refine ops_cons rfl (ow_fieldAddrB off79_1 rfl rfl ?_)
    refine ops_cons rfl (ow_loadB bD ti2 rfl rfl ?_)
    refine ops_cons rfl (ow_add rfl rfl (w64 (by omega)) ?_)
    refine ops_cons rfl (ow_assign rfl ?_)
    refine ops_nil ?_
    refine tq_n ⟨(r + d.every, n - 1, ys.set r.toNat (setX x b.slot.toNat k)), (.cons rfl (.cons rfl (.cons rfl (.cons rfl (.cons rfl (.nil _)))))), ?_, ?_⟩
    · exact ⟨(by omega), (by omega), (by rw [List.length_set, hlen]), (by rw [tblOf_set hx]; exact hT.putC _ _ _ (by omega)), (hd.set_same hx (setX_blk x _ _)), (bound_set hU0 hx (setX_blk x _ _)), (by rw [hp, putL_ok (by omega) (by rw [tblOf_len]; omega), ← tblOf_set hx, show (r + d.every).toNat = r.toNat + d.every.toNat by omega]), oT.to (rowC_set (setX_row x b.slot.toNat k) hx).symm, (oE.wrote oY (by omega)), bD, bB, X⟩
    · first | omega | (dsimp only; omega)
  · skip
    refine ops_nil ?_
    refine c_false rfl ?_
    refine c_exit ?_
    refine tq_e ?_
    refine tq_e ?_
    refine bq_e ?_
    refine fin_end0 rfl ?_
    exact ⟨ys, rfl, by rw [hp, putL_end (by rw [tblOf_len]; omega)], hd, hlen, oT, oN, X⟩

theorem book_c (A : Option Addr) (c lo hi : Nat) (xs : List ModeI) (R S : Nat) (d : Dem) (b : Bk) (k : Int) (w : World) (oT : Own w lo 24 1 A xs.length c (xs.flatMap rowC)) (oN : NOwn w lo 2 xs) (hd : Disj xs) (hU0 : ∀ y ∈ xs, ∀ g, y.blk = some g → g < hi) (hlo : lo ≤ w.heap.size) (ht : Tab R S (tblOf xs)) (hR : 1 ≤ R ∧ R ≤ 8) (hS : 1 ≤ S ∧ S ≤ 16) (he : 1 ≤ d.every ∧ d.every ≤ 8) :
    Calls Try.prog 113 #[.slice A xs.length c, .agg d.cells.toArray, .agg b.cells.toArray, .int .i64 k] w (Ret fun v w' => ∃ ys, v = .bool (fitsB (tblOf xs) d.every b) ∧ tblOf ys = (if (fitsB (tblOf xs) d.every b) = true then (putB (tblOf xs) d.every b k) else tblOf xs) ∧ Disj ys ∧ ys.length = xs.length ∧ Own w' lo 24 1 A xs.length c (ys.flatMap rowC) ∧ NOwn w' lo 2 ys ∧ WinK lo hi [2] w w') := by
  have hxl : xs.length = R := by rw [← tblOf_len]; exact ht.1
  obtain ⟨x0, hx0⟩ : ∃ x0, xs[0]? = some x0 := ⟨_, List.getElem?_eq_getElem (by omega)⟩
  have e0 : x0.m.next.length = S := by have h := (ht.row (r := 0) (by omega)).2; rwa [tblOf_at hx0] at h
  have hsl : slotsOf (tblOf xs) = S := ht.slots (by omega)
  have X := WinK.refl lo hi [2] w
  refine calls_of (args := [.slice A xs.length c, .agg d.cells.toArray, .agg b.cells.toArray, .int .i64 k]) Try.func113 Try.ntmps113 rfl rfl ?_
  refine c_seqR ?_
  refine ops_cons rfl (ow_box rfl rfl ?_)
  intro gD w2 egD bD x1 zgD
  have lgD : w.heap.size ≤ gD := Nat.le_trans X.size (Nat.le_of_eq egD.symm)
  replace oT := oT.ext x1
  replace oN := oN.ext x1
  replace X := X.ext x1; clear x1
  refine ops_cons rfl (ow_box rfl rfl ?_)
  intro gB w4 egB bB x3 zgB
  have lgB : w.heap.size ≤ gB := Nat.le_trans X.size (Nat.le_of_eq egB.symm)
  have ngBbD := Nat.lt_of_lt_of_eq bD.lt egB.symm
  replace oT := oT.ext x3
  replace oN := oN.ext x3
  replace bD := bD.ext x3
  replace X := X.ext x3; clear x3
  refine ops_cons rfl (ow_assign rfl ?_)
  refine ops_nil ?_
  refine c_seqR ?_
  refine ops_cons rfl (ow_move rfl ?_)
  refine ops_cons rfl (ow_len Try.underlying74 rfl ?_)
  refine ops_cons rfl (ow_assign rfl ?_)
  refine ops_nil ?_
  refine c_seq ?_
  refine c_seqD [false, false, false, false, false, false, false, false, false, false, false, false, false, false, false, false, false, false, false, false, false, false, false, false] mixed (by kernel_rfl) ?_
  refine f_q rfl (fun wq sq => ow_fieldAddrB off79_1 rfl rfl ⟨rfl, Ext.refl _⟩) ?_
  refine f_q rfl (fun wq sq => ow_loadB (bD.ext sq) ti2 rfl rfl ⟨rfl, Ext.refl _⟩) ?_
  refine f_q rfl (fun wq sq => ow_move rfl ⟨rfl, Ext.refl _⟩) ?_
  refine f_qb rfl (fun wq sq => ow_gtr rfl rfl ⟨rfl, Ext.refl _⟩) (fun h1 => ?_) (fun h1 => ?_)
  · skip
    refine f_q rfl (fun wq sq => ow_move rfl ⟨rfl, Ext.refl _⟩) ?_
    refine f_qs rfl rfl rfl rfl ?_
    refine f_qs rfl rfl rfl rfl ?_
    refine f_qs rfl rfl rfl rfl ?_
    refine f_qs rfl rfl rfl rfl ?_
    refine f_qs rfl rfl rfl rfl ?_
    refine f_qs rfl rfl rfl rfl ?_
    refine f_qs rfl rfl rfl rfl ?_
    refine f_qs rfl rfl rfl rfl ?_
    refine f_qs rfl rfl rfl rfl ?_
    refine f_q rfl (fun wq sq => ow_pick rfl rfl ⟨rfl, Ext.refl _⟩) ?_
    refine f_q rfl (fun wq sq => ow_move rfl ⟨rfl, Ext.refl _⟩) ?_
    refine f_qs rfl rfl rfl rfl ?_
    refine f_qs rfl rfl rfl rfl ?_
    refine f_qs rfl rfl rfl rfl ?_
    refine f_qs rfl rfl rfl rfl ?_
    refine f_qs rfl rfl rfl rfl ?_
    refine f_qs rfl rfl rfl rfl ?_
    refine f_qs rfl rfl rfl rfl ?_
    refine f_q rfl (fun wq sq => ow_pick rfl rfl ⟨rfl, Ext.refl _⟩) ?_
    refine f_nil (fun w5 sq => ?_)
    have xq := sq
    replace oT := oT.ext xq
    replace oN := oN.ext xq
    replace bD := bD.ext xq
    replace bB := bB.ext xq
    replace X := X.ext xq; clear xq sq
    refine ops_nil ?_
    refine c_true rfl ?_
    refine c_seqR ?_
    refine ops_cons rfl (ow_assign rfl ?_)
    refine ops_nil ?_
    refine c_ret ?_
    refine tq_r ?_
    refine fin_ret1 rfl rfl ?_
    first
    | (have hF : fitsB (tblOf xs) d.every b = false := by
         unfold fitsB
         first
         | (rw [decide_eq_false (by rw [tblOf_len]; omega)]; rfl)
         | (rw [decide_eq_true (by rw [tblOf_len]; omega), hsl, ← e0, h2]; rfl)
         | (rw [decide_eq_true (by rw [tblOf_len]; omega), hsl, ← e0, h2, h3]; rfl)
         | (rw [decide_eq_true (by rw [tblOf_len]; omega), hsl, ← e0, h2, h3, tblOf_len, hf, freeL_bad (by omega) (by rw [tblOf_len]; omega) (by omega)]; rfl)
       exact ⟨xs, by rw [hF], by rw [hF]; rfl, hd, rfl, oT, oN, X⟩)
    | (exact ⟨ys, by rw [hF], by rw [hF, if_pos rfl, hp, putL_end (by rw [tblOf_len]; omega)], hd, hlen, oT, oN, X⟩)
  · skip
    refine f_q rfl (fun wq sq => ow_move rfl ⟨rfl, Ext.refl _⟩) ?_
    refine f_qw rfl rfl rfl (fun wq sq => ow_fieldAddrB off102_0 rfl rfl ⟨rfl, Ext.refl _⟩) ?_
    refine f_qw rfl rfl rfl (fun wq sq => ow_loadB (bB.ext sq) ti2 rfl rfl ⟨rfl, Ext.refl _⟩) ?_
    refine f_qw rfl rfl rfl (fun wq sq => ow_move rfl ⟨rfl, Ext.refl _⟩) ?_
    refine f_qw rfl rfl rfl (fun wq sq => ow_indexT ((oT.ext sq)).sl rowC_len rfl el74 rfl rfl rfl hx0 rfl ⟨rfl, Ext.refl _⟩) ?_
    refine f_qw rfl rfl rfl (fun wq sq => ow_loadT ((oT.ext sq)).sl rowC_len hx0 ti24 rfl rfl rfl ⟨rfl, Ext.refl _⟩) ?_
    refine f_qw rfl rfl rfl (fun wq sq => ow_len Try.underlying24 rfl ⟨rfl, Ext.refl _⟩) ?_
    refine f_qw rfl rfl rfl (fun wq sq => ow_sub rfl rfl (w64 (by omega)) ⟨rfl, Ext.refl _⟩) ?_
    refine f_qwB rfl rfl rfl (fun wq sq => ow_call ent103 rfl (within_c _ _ _ _)) (fun h2 => ?_) (fun h2 => ?_)
    · skip
      refine f_qw rfl rfl rfl (fun wq sq => ow_not rfl ⟨rfl, Ext.refl _⟩) ?_
      refine f_q rfl (fun wq sq => ow_pick rfl rfl ⟨rfl, Ext.refl _⟩) ?_
      refine f_q rfl (fun wq sq => ow_move rfl ⟨rfl, Ext.refl _⟩) ?_
      refine f_qw rfl rfl rfl (fun wq sq => ow_fieldAddrB off102_1 rfl rfl ⟨rfl, Ext.refl _⟩) ?_
      refine f_qw rfl rfl rfl (fun wq sq => ow_loadB (bB.ext sq) ti2 rfl rfl ⟨rfl, Ext.refl _⟩) ?_
      refine f_qw rfl rfl rfl (fun wq sq => ow_fieldAddrB off79_1 rfl rfl ⟨rfl, Ext.refl _⟩) ?_
      refine f_qw rfl rfl rfl (fun wq sq => ow_loadB (bD.ext sq) ti2 rfl rfl ⟨rfl, Ext.refl _⟩) ?_
      refine f_qw rfl rfl rfl (fun wq sq => ow_sub rfl rfl (w64 (by omega)) ⟨rfl, Ext.refl _⟩) ?_
      refine f_qwB rfl rfl rfl (fun wq sq => ow_call ent103 rfl (within_c _ _ _ _)) (fun h3 => ?_) (fun h3 => ?_)
      · skip
        refine f_qw rfl rfl rfl (fun wq sq => ow_not rfl ⟨rfl, Ext.refl _⟩) ?_
        refine f_q rfl (fun wq sq => ow_pick rfl rfl ⟨rfl, Ext.refl _⟩) ?_
        refine f_nil (fun w10 sq => ?_)
        have xq := sq
        replace oT := oT.ext xq
        replace oN := oN.ext xq
        replace bD := bD.ext xq
        replace bB := bB.ext xq
        replace X := X.ext xq; clear xq sq
        refine ops_nil ?_
        refine c_false rfl ?_
        refine c_skip ?_
        refine tq_n ?_
        refine c_seq ?_
        refine c_seqR ?_
        refine ops_cons rfl (ow_fieldAddrB off102_1 rfl rfl ?_)
        refine ops_cons rfl (ow_loadB bB ti2 rfl rfl ?_)
        refine ops_cons rfl (ow_assign rfl ?_)
        refine ops_nil ?_
        refine c_block ?_
        refine c_loop (G := Int × Nat) (fun ⟨r, n⟩ => [(0, .slice A xs.length c), (3, .int .i64 k), (5, .pointer (some ⟨gD, 0, none⟩)), (6, .pointer (some ⟨gB, 0, none⟩)), (9, .int .i64 (xs.length : Nat)), (10, .int .i64 r)]) (fun ⟨r, n⟩ wr => 0 ≤ r ∧ (xs.length : Int) ≤ r + n ∧ freeL (tblOf xs) d.every.toNat b.slot.toNat xs.length b.phase.toNat = freeL (tblOf xs) d.every.toNat b.slot.toNat n r.toNat ∧ Own wr lo 24 1 A xs.length c (xs.flatMap rowC) ∧ NOwn wr lo 2 xs ∧ Blk wr gD 79 d.cells ∧ Blk wr gB 102 b.cells ∧ WinK lo hi [2] w wr) (fun ⟨r, n⟩ => (xs.length - r).toNat) (b.phase, xs.length) (.cons rfl (.cons rfl (.cons rfl (.cons rfl (.cons rfl (.cons rfl (.nil _))))))) ?_ ?_
        · exact ⟨(inB_iff.1 h3).1, (by have := (inB_iff.1 h3).1; omega), rfl, oT, oN, bD, bB, X⟩
        clear oT oN bD bB
        clear X
        rintro ⟨r, n⟩ wr ⟨hr0, hrn, hf, oT, oN, bD, bB, X⟩
        refine c_seq ?_
        refine c_seqR ?_
        refine ops_cons rfl (ow_move rfl ?_)
        refine ops_cons rfl (ow_move rfl ?_)
        refine ops_cons rfl (ow_lss2 rfl rfl (fun hrl => ?_) (fun hrl => ?_))
        · skip
          have hs3 := inB_iff.1 h2
          obtain ⟨x, hx⟩ : ∃ x, xs[r.toNat]? = some x := ⟨_, List.getElem?_eq_getElem (by omega)⟩
          have hnx := (oN x (List.mem_of_getElem? hx)).1.sl
          have hc := ht.cell (r := r.toNat) (s := b.slot.toNat) (by omega) (by omega)
          rw [tblOf_at hx] at hc
          refine ops_nil ?_
          refine c_true rfl ?_
          refine c_skip ?_
          refine tq_n ?_
          refine c_seq ?_
          refine c_block ?_
          refine c_seqD [false, false, false, false, false, false, false, false, false] mixed (by kernel_rfl) ?_
          refine f_q rfl (fun wq sq => ow_move rfl ⟨rfl, Ext.refl _⟩) ?_
          refine f_q rfl (fun wq sq => ow_move rfl ⟨rfl, Ext.refl _⟩) ?_
          refine f_q rfl (fun wq sq => ow_indexT ((oT.ext sq)).sl rowC_len rfl el74 rfl rfl rfl hx (by omega) ⟨rfl, Ext.refl _⟩) ?_
          refine f_q rfl (fun wq sq => ow_loadT ((oT.ext sq)).sl rowC_len hx ti24 rfl rfl rfl ⟨rfl, Ext.refl _⟩) ?_
          refine f_q rfl (fun wq sq => ow_fieldAddrB off102_0 rfl rfl ⟨rfl, Ext.refl _⟩) ?_
          refine f_q rfl (fun wq sq => ow_loadB (bB.ext sq) ti2 rfl rfl ⟨rfl, Ext.refl _⟩) ?_
          refine f_q rfl (fun wq sq => ow_indexT (hnx.ext sq) eI_len rfl el24 rfl rfl rfl hc (by omega) ⟨rfl, Ext.refl _⟩) ?_
          refine f_q rfl (fun wq sq => ow_loadT (hnx.ext sq) eI_len hc ti2 rfl rfl rfl ⟨rfl, Ext.refl _⟩) ?_
          refine f_qb rfl (fun wq sq => ow_geq rfl rfl ⟨rfl, Ext.refl _⟩) (fun h5 => ?_) (fun h5 => ?_)
          · skip
            refine f_nil (fun w11 sq => ?_)
            have xq := sq
            replace oT := oT.ext xq
            replace oN := oN.ext xq
            replace bD := bD.ext xq
            replace bB := bB.ext xq
            replace X := X.ext xq; clear xq sq
            refine ops_nil ?_
            refine c_true rfl ?_
            refine c_seqR ?_
            refine ops_cons rfl (ow_assign rfl ?_)
            refine ops_nil ?_
            refine c_ret ?_
            refine bq_r ?_
            refine tq_r ?_
            refine tq_r ?_
            refine bq_r ?_
            refine tq_r ?_
            refine fin_ret1 rfl rfl ?_
            first
            | (have hF : fitsB (tblOf xs) d.every b = false := by
                 unfold fitsB
                 first
                 | (rw [decide_eq_false (by rw [tblOf_len]; omega)]; rfl)
                 | (rw [decide_eq_true (by rw [tblOf_len]; omega), hsl, ← e0, h2]; rfl)
                 | (rw [decide_eq_true (by rw [tblOf_len]; omega), hsl, ← e0, h2, h3]; rfl)
                 | (rw [decide_eq_true (by rw [tblOf_len]; omega), hsl, ← e0, h2, h3, tblOf_len, hf, freeL_bad (by omega) (by rw [tblOf_len]; omega) (by omega)]; rfl)
               exact ⟨xs, by rw [hF], by rw [hF]; rfl, hd, rfl, oT, oN, X⟩)
            | (exact ⟨ys, by rw [hF], by rw [hF, if_pos rfl, hp, putL_end (by rw [tblOf_len]; omega)], hd, hlen, oT, oN, X⟩)
          · skip
            refine f_nil (fun w12 sq => ?_)
            have xq := sq
            replace oT := oT.ext xq
            replace oN := oN.ext xq
            replace bD := bD.ext xq
            replace bB := bB.ext xq
            replace X := X.ext xq; clear xq sq
            refine ops_nil ?_
            refine c_false rfl ?_
            refine c_skip ?_
            refine bq_n ?_
            refine tq_n ?_
            refine c_region ?_
            refine ops_cons rfl (ow_move rfl ?_)
            refine ops_cons rfl (ow_fieldAddrB off79_1 rfl rfl ?_)
            refine ops_cons rfl (ow_loadB bD ti2 rfl rfl ?_)
            refine ops_cons rfl (ow_add rfl rfl (w64 (by omega)) ?_)
            refine ops_cons rfl (ow_assign rfl ?_)
            refine ops_nil ?_
            refine tq_n ⟨(r + d.every, n - 1), (.cons rfl (.cons rfl (.cons rfl (.cons rfl (.cons rfl (.cons rfl (.nil _))))))), ?_, ?_⟩
            · exact ⟨(by omega), (by omega), (by rw [hf, freeL_ok (by omega) (by rw [tblOf_len]; omega) (by omega), show (r + d.every).toNat = r.toNat + d.every.toNat by omega]), oT, oN, bD, bB, X⟩
            · first | omega | (dsimp only; omega)
        · skip
          refine ops_nil ?_
          refine c_false rfl ?_
          refine c_exit ?_
          refine tq_e ?_
          refine tq_e ?_
          refine bq_e ?_
          refine tq_n ?_
          refine c_seq ?_
          refine c_seqR ?_
          refine ops_cons rfl (ow_fieldAddrB off102_1 rfl rfl ?_)
          have hs3 := inB_iff.1 h2
          have hp3 := inB_iff.1 h3
          have hF : fitsB (tblOf xs) d.every b = true := by
            unfold fitsB
            rw [decide_eq_true (by rw [tblOf_len]; omega), hsl, ← e0, h2, h3, tblOf_len, hf, freeL_end (by rw [tblOf_len]; omega)]; rfl
          refine ops_cons rfl (ow_loadB bB ti2 rfl rfl ?_)
          refine ops_cons rfl (ow_assign rfl ?_)
          refine ops_nil ?_
          refine c_block ?_
          refine c_loop (G := Int × Nat × List ModeI) (fun ⟨r, n, ys⟩ => [(0, .slice A xs.length c), (3, .int .i64 k), (5, .pointer (some ⟨gD, 0, none⟩)), (6, .pointer (some ⟨gB, 0, none⟩)), (9, .int .i64 (xs.length : Nat)), (11, .int .i64 r)]) (fun ⟨r, n, ys⟩ wr => 0 ≤ r ∧ (xs.length : Int) ≤ r + n ∧ ys.length = xs.length ∧ Tab R S (tblOf ys) ∧ Disj ys ∧ (∀ y ∈ ys, ∀ g, y.blk = some g → g < hi) ∧ (putB (tblOf xs) d.every b k) = putL d.every.toNat b.slot.toNat k n r.toNat (tblOf ys) ∧ Own wr lo 24 1 A xs.length c (ys.flatMap rowC) ∧ NOwn wr lo 2 ys ∧ Blk wr gD 79 d.cells ∧ Blk wr gB 102 b.cells ∧ WinK lo hi [2] w wr) (fun ⟨r, n, ys⟩ => (xs.length - r).toNat) (b.phase, xs.length, xs) (.cons rfl (.cons rfl (.cons rfl (.cons rfl (.cons rfl (.cons rfl (.nil _))))))) ?_ ?_
          · exact ⟨hp3.1, (by omega), rfl, ht, hd, hU0, (by unfold putB; rw [tblOf_len]), oT, oN, bD, bB, X⟩
          clear oT oN bD bB
          clear X
          rintro ⟨r, n, ys⟩ wr ⟨hr0, hrn, hlen, hT, hd, hU0, hp, oT, oN, bD, bB, X⟩
          refine c_seq ?_
          refine c_seqR ?_
          refine ops_cons rfl (ow_move rfl ?_)
          refine ops_cons rfl (ow_move rfl ?_)
          refine ops_cons rfl (ow_lss2 rfl rfl (fun hrl => ?_) (fun hrl => ?_))
          · skip
            obtain ⟨x, hx⟩ : ∃ x, ys[r.toNat]? = some x := ⟨_, List.getElem?_eq_getElem (by omega)⟩
            have hc := hT.cell (r := r.toNat) (s := b.slot.toNat) (by omega) (by omega)
            rw [tblOf_at hx] at hc
            have hxn : x.m.next.length = S := by have h := (hT.row (r := r.toNat) (by omega)).2; rwa [tblOf_at hx] at h
            refine ops_nil ?_
            refine c_true rfl ?_
            refine c_skip ?_
            refine tq_n ?_
            refine c_seq ?_
            refine c_block ?_
            refine c_draw [false, false, false, false, false, false, false, false] mixed (by kernel_rfl) ?_
            have oX := (oN x (List.mem_of_getElem? hx)).1
            have oE := oN.erase r.toNat
            have hde := hd.erase hx
            have hU := fun g hg => hU0 x (List.mem_of_getElem? hx) g hg
            refine f_q rfl (fun wq sq => ow_move rfl ⟨rfl, Ext.refl _⟩) ?_
            refine f_q rfl (fun wq sq => ow_move rfl ⟨rfl, Ext.refl _⟩) ?_
            refine f_q rfl (fun wq sq => ow_indexT ((oT.ext sq)).sl rowC_len rfl el74 rfl hlen.symm rfl hx (by omega) ⟨rfl, Ext.refl _⟩) ?_
            refine f_q rfl (fun wq sq => ow_loadT ((oT.ext sq)).sl rowC_len hx ti24 rfl rfl rfl ⟨rfl, Ext.refl _⟩) ?_
            refine f_q rfl (fun wq sq => ow_fieldAddrB off102_0 rfl rfl ⟨rfl, Ext.refl _⟩) ?_
            refine f_q rfl (fun wq sq => ow_loadB (bB.ext sq) ti2 rfl rfl ⟨rfl, Ext.refl _⟩) ?_
            refine f_q rfl (fun wq sq => ow_move rfl ⟨rfl, Ext.refl _⟩) ?_
            refine f_q rfl (fun wq sq => ow_indexT ((oX.ext sq)).sl eI_len rfl el24 rfl rfl rfl hc (by omega) ⟨rfl, Ext.refl _⟩) ?_
            refine f_nil (fun w13 sq => ?_)
            have xq := sq
            replace oT := oT.ext xq
            replace bD := bD.ext xq
            replace bB := bB.ext xq
            replace oX := oX.ext xq
            replace oE := oE.ext xq
            replace X := X.ext xq; clear xq sq
            refine ops_cons rfl (ow_storeR oX ti2 rfl rfl rfl rfl (by omega) (by omega) rfl ?_)
            intro w15 oY hg14 z16
            replace oT := oT.grown hg14 (Own.neO oT oX (by decide))
            replace bD := bD.grown hg14 (fun h => Own.neT oX bD (by decide) h.symm)
            replace bB := bB.grown hg14 (fun h => Own.neT oX bB (by decide) h.symm)
            replace oE := oE.grownX hg14 hde
            replace X := X.grownK hg14 oX (by decide) (fun g hg => ⟨(Own.lt oX hg).1, hU g hg⟩)
            clear hg14 z16
            replace oY := oY.to (cs' := (x.m.next.set b.slot.toNat k).flatMap eI) (set_field (x := cellT (tblOf ys) r.toNat b.slot.toNat) (x' := k) (vs := [.int .i64 k]) eI_len (s' := 1) (f := 0) rfl (by omega) x.m.next b.slot.toNat hc)
            refine ops_nil ?_
            refine bq_n ?_
            refine tq_n ?_
            refine c_region ?_
            refine ops_cons rfl (ow_move rfl ?_)
            refine ops_cons rfl (ow_fieldAddrB off79_1 rfl rfl ?_)
            refine ops_cons rfl (ow_loadB bD ti2 rfl rfl ?_)
            refine ops_cons rfl (ow_add rfl rfl (w64 (by omega)) ?_)
            refine ops_cons rfl (ow_assign rfl ?_)
            refine ops_nil ?_
            refine tq_n ⟨(r + d.every, n - 1, ys.set r.toNat (setX x b.slot.toNat k)), (.cons rfl (.cons rfl (.cons rfl (.cons rfl (.cons rfl (.cons rfl (.nil _))))))), ?_, ?_⟩
            · exact ⟨(by omega), (by omega), (by rw [List.length_set, hlen]), (by rw [tblOf_set hx]; exact hT.putC _ _ _ (by omega)), (hd.set_same hx (setX_blk x _ _)), (bound_set hU0 hx (setX_blk x _ _)), (by rw [hp, putL_ok (by omega) (by rw [tblOf_len]; omega), ← tblOf_set hx, show (r + d.every).toNat = r.toNat + d.every.toNat by omega]), oT.to (rowC_set (setX_row x b.slot.toNat k) hx).symm, (oE.wrote oY (by omega)), bD, bB, X⟩
            · first | omega | (dsimp only; omega)
          · skip
            refine ops_nil ?_
            refine c_false rfl ?_
            refine c_exit ?_
            refine tq_e ?_
            refine tq_e ?_
            refine bq_e ?_
            refine tq_n ?_
            refine c_seqR ?_
            refine ops_cons rfl (ow_assign rfl ?_)
            refine ops_nil ?_
            refine c_ret ?_
            refine fin_ret1 rfl rfl ?_
            first
            | (have hF : fitsB (tblOf xs) d.every b = false := by
                 unfold fitsB
                 first
                 | (rw [decide_eq_false (by rw [tblOf_len]; omega)]; rfl)
                 | (rw [decide_eq_true (by rw [tblOf_len]; omega), hsl, ← e0, h2]; rfl)
                 | (rw [decide_eq_true (by rw [tblOf_len]; omega), hsl, ← e0, h2, h3]; rfl)
                 | (rw [decide_eq_true (by rw [tblOf_len]; omega), hsl, ← e0, h2, h3, tblOf_len, hf, freeL_bad (by omega) (by rw [tblOf_len]; omega) (by omega)]; rfl)
               exact ⟨xs, by rw [hF], by rw [hF]; rfl, hd, rfl, oT, oN, X⟩)
            | (exact ⟨ys, by rw [hF], by rw [hF, if_pos rfl, hp, putL_end (by rw [tblOf_len]; omega)], hd, hlen, oT, oN, X⟩)
      · skip
        refine f_qw rfl rfl rfl (fun wq sq => ow_not rfl ⟨rfl, Ext.refl _⟩) ?_
        refine f_q rfl (fun wq sq => ow_pick rfl rfl ⟨rfl, Ext.refl _⟩) ?_
        refine f_nil (fun w17 sq => ?_)
        have xq := sq
        replace oT := oT.ext xq
        replace oN := oN.ext xq
        replace bD := bD.ext xq
        replace bB := bB.ext xq
        replace X := X.ext xq; clear xq sq
        refine ops_nil ?_
        refine c_true rfl ?_
        refine c_seqR ?_
        refine ops_cons rfl (ow_assign rfl ?_)
        refine ops_nil ?_
        refine c_ret ?_
        refine tq_r ?_
        refine fin_ret1 rfl rfl ?_
        first
        | (have hF : fitsB (tblOf xs) d.every b = false := by
             unfold fitsB
             first
             | (rw [decide_eq_false (by rw [tblOf_len]; omega)]; rfl)
             | (rw [decide_eq_true (by rw [tblOf_len]; omega), hsl, ← e0, h2]; rfl)
             | (rw [decide_eq_true (by rw [tblOf_len]; omega), hsl, ← e0, h2, h3]; rfl)
             | (rw [decide_eq_true (by rw [tblOf_len]; omega), hsl, ← e0, h2, h3, tblOf_len, hf, freeL_bad (by omega) (by rw [tblOf_len]; omega) (by omega)]; rfl)
           exact ⟨xs, by rw [hF], by rw [hF]; rfl, hd, rfl, oT, oN, X⟩)
        | (exact ⟨ys, by rw [hF], by rw [hF, if_pos rfl, hp, putL_end (by rw [tblOf_len]; omega)], hd, hlen, oT, oN, X⟩)
    · skip
      refine f_qw rfl rfl rfl (fun wq sq => ow_not rfl ⟨rfl, Ext.refl _⟩) ?_
      refine f_q rfl (fun wq sq => ow_pick rfl rfl ⟨rfl, Ext.refl _⟩) ?_
      refine f_q rfl (fun wq sq => ow_move rfl ⟨rfl, Ext.refl _⟩) ?_
      refine f_qs rfl rfl rfl rfl ?_
      refine f_qs rfl rfl rfl rfl ?_
      refine f_qs rfl rfl rfl rfl ?_
      refine f_qs rfl rfl rfl rfl ?_
      refine f_qs rfl rfl rfl rfl ?_
      refine f_qs rfl rfl rfl rfl ?_
      refine f_qs rfl rfl rfl rfl ?_
      refine f_q rfl (fun wq sq => ow_pick rfl rfl ⟨rfl, Ext.refl _⟩) ?_
      refine f_nil (fun w18 sq => ?_)
      have xq := sq
      replace oT := oT.ext xq
      replace oN := oN.ext xq
      replace bD := bD.ext xq
      replace bB := bB.ext xq
      replace X := X.ext xq; clear xq sq
      refine ops_nil ?_
      refine c_true rfl ?_
      refine c_seqR ?_
      refine ops_cons rfl (ow_assign rfl ?_)
      refine ops_nil ?_
      refine c_ret ?_
      refine tq_r ?_
      refine fin_ret1 rfl rfl ?_
      first
      | (have hF : fitsB (tblOf xs) d.every b = false := by
           unfold fitsB
           first
           | (rw [decide_eq_false (by rw [tblOf_len]; omega)]; rfl)
           | (rw [decide_eq_true (by rw [tblOf_len]; omega), hsl, ← e0, h2]; rfl)
           | (rw [decide_eq_true (by rw [tblOf_len]; omega), hsl, ← e0, h2, h3]; rfl)
           | (rw [decide_eq_true (by rw [tblOf_len]; omega), hsl, ← e0, h2, h3, tblOf_len, hf, freeL_bad (by omega) (by rw [tblOf_len]; omega) (by omega)]; rfl)
         exact ⟨xs, by rw [hF], by rw [hF]; rfl, hd, rfl, oT, oN, X⟩)
      | (exact ⟨ys, by rw [hF], by rw [hF, if_pos rfl, hp, putL_end (by rw [tblOf_len]; omega)], hd, hlen, oT, oN, X⟩)
end Go.Proofs.Ytimabffnoanciaa
