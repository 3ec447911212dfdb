/- Texts of the seat that a law needs, put together. No condition. -/
import Derived.Test.YtdoibplhbdkapaaGreatDoorDMP11
import Derived.Test.YtdoibplhbdkapaaGreatDoorDMP6
import Derived.Test.YtdoibplhbdkapaaGreatDoorDMP5
import Derived.Test.YtdoibplhbdkapaaGreatDoorDMP8
namespace Go.Proofs.YtdoibplhbdkapaaGreatDoor
open Go.RowKit
set_option linter.unusedVariables false
set_option linter.unusedSimpArgs false
set_option maxRecDepth 20000
theorem descV_same {p0 p1 p2 p3 p4 : Int} (hd : descOk (descR p0 p1 p2 p3 p4) = true) (b0 : 0 ≤ p0 ∧ p0 ≤ 255) (b1 : 0 ≤ p1 ∧ p1 ≤ 255) (b2 : 0 ≤ p2 ∧ p2 ≤ 255) (b3 : 0 ≤ p3 ∧ p3 ≤ 255) (b4 : 0 ≤ p4 ∧ p4 ≤ 255) :
    descV p0 p1 p2 p3 p4 = decide (descB (descR p0 p1 p2 p3 p4) = [p0, p1, p2, p3, p4]) := by
  rw [descV, hd, Bool.true_and, Bool.eq_iff_iff, decide_eq_true_eq, decide_eq_true_eq]
  simp only [descB, descR, List.cons.injEq, and_true, decide_eq_true_eq]
  refine ⟨fun h => ⟨trivial, by omega, by omega, by omega, by split <;> omega⟩, fun h => ?_⟩
  have h5 := h.2.2.2.2
  split at h5 <;> omega
theorem descFrom_c (A : Option Addr) (B c : Nat) (p0 p1 p2 p3 p4 : Int) (w : World) (hs : Sl B w A ([p0, p1, p2, p3, p4].flatMap eI)) (b0 : 0 ≤ p0 ∧ p0 ≤ 255) (b1 : 0 ≤ p1 ∧ p1 ≤ 255) (b2 : 0 ≤ p2 ∧ p2 ≤ 255) (b3 : 0 ≤ p3 ∧ p3 ≤ 255) (b4 : 0 ≤ p4 ∧ p4 ≤ 255) :
    Calls Tryz.prog 164 #[.slice A 5 c] w (Ret fun v w' => v = .tuple #[.agg (descR p0 p1 p2 p3 p4).cells.toArray, .bool (descV p0 p1 p2 p3 p4)] ∧ Ext w w') := by
  have Bhs := hs.1
  have X := Ext.refl w
  refine calls_of (args := [.slice A 5 c]) Tryz.func164 Tryz.ntmps164 rfl rfl ?_
  refine c_seqR ?_
  refine ops_cons rfl (ow_alloc ti67 ?_)
  intro g0 w2 eg0 b0 x1 zg0
  have lg0 : w.heap.size ≤ g0 := Nat.le_trans X.size (Nat.le_of_eq eg0.symm)
  have pg0hs := Nat.le_trans hs.1 (Nat.le_of_eq eg0.symm)
  replace hs := hs.ext x1
  replace X := Ext.trans X x1; clear x1
  refine ops_cons rfl (ow_assign rfl ?_)
  refine ops_nil ?_
  have Rhs := hs.1
  refine c_seqD [false, false, false, false, false, false, false, false, false, false, false, false, false, false, false, false, false, false, false, false, false, false, false, false, true] mixed (by kernel_rfl) ?_
  refine f_q rfl (fun wq sq => ow_move rfl ⟨rfl, Ext.refl _⟩) ?_
  refine f_q rfl (fun wq sq => ow_indexT (hs.ext sq) eI_len rfl el30 rfl rfl rfl (show [p0, p1, p2, p3, p4][0]? = some p0 from rfl) rfl ⟨rfl, Ext.refl _⟩) ?_
  refine f_q rfl (fun wq sq => ow_loadT (hs.ext sq) eI_len (show [p0, p1, p2, p3, p4][0]? = some p0 from rfl) ti2 rfl rfl rfl ⟨rfl, Ext.refl _⟩) ?_
  refine f_q rfl (fun wq sq => ow_move rfl ⟨rfl, Ext.refl _⟩) ?_
  refine f_q rfl (fun wq sq => ow_indexT (hs.ext sq) eI_len rfl el30 rfl rfl rfl (show [p0, p1, p2, p3, p4][1]? = some p1 from rfl) rfl ⟨rfl, Ext.refl _⟩) ?_
  refine f_q rfl (fun wq sq => ow_loadT (hs.ext sq) eI_len (show [p0, p1, p2, p3, p4][1]? = some p1 from rfl) ti2 rfl rfl rfl ⟨rfl, Ext.refl _⟩) ?_
  refine f_q rfl (fun wq sq => ow_quo rfl rfl (by omega) (q64 (by omega)) ⟨rfl, Ext.refl _⟩) ?_
  refine f_q rfl (fun wq sq => ow_move rfl ⟨rfl, Ext.refl _⟩) ?_
  refine f_q rfl (fun wq sq => ow_indexT (hs.ext sq) eI_len rfl el30 rfl rfl rfl (show [p0, p1, p2, p3, p4][1]? = some p1 from rfl) rfl ⟨rfl, Ext.refl _⟩) ?_
  refine f_q rfl (fun wq sq => ow_loadT (hs.ext sq) eI_len (show [p0, p1, p2, p3, p4][1]? = some p1 from rfl) ti2 rfl rfl rfl ⟨rfl, Ext.refl _⟩) ?_
  refine f_q rfl (fun wq sq => ow_rem rfl rfl (by omega) (m64 (by omega)) ⟨rfl, Ext.refl _⟩) ?_
  refine f_q rfl (fun wq sq => ow_move rfl ⟨rfl, Ext.refl _⟩) ?_
  refine f_q rfl (fun wq sq => ow_indexT (hs.ext sq) eI_len rfl el30 rfl rfl rfl (show [p0, p1, p2, p3, p4][2]? = some p2 from rfl) rfl ⟨rfl, Ext.refl _⟩) ?_
  refine f_q rfl (fun wq sq => ow_loadT (hs.ext sq) eI_len (show [p0, p1, p2, p3, p4][2]? = some p2 from rfl) ti2 rfl rfl rfl ⟨rfl, Ext.refl _⟩) ?_
  refine f_q rfl (fun wq sq => ow_mul rfl rfl ((w64 (by omega)).trans (Int.mul_comm _ _)) ⟨rfl, Ext.refl _⟩) ?_
  refine f_q rfl (fun wq sq => ow_move rfl ⟨rfl, Ext.refl _⟩) ?_
  refine f_q rfl (fun wq sq => ow_indexT (hs.ext sq) eI_len rfl el30 rfl rfl rfl (show [p0, p1, p2, p3, p4][3]? = some p3 from rfl) rfl ⟨rfl, Ext.refl _⟩) ?_
  refine f_q rfl (fun wq sq => ow_loadT (hs.ext sq) eI_len (show [p0, p1, p2, p3, p4][3]? = some p3 from rfl) ti2 rfl rfl rfl ⟨rfl, Ext.refl _⟩) ?_
  refine f_q rfl (fun wq sq => ow_add rfl rfl (w64 (by omega)) ⟨rfl, Ext.refl _⟩) ?_
  refine f_q rfl (fun wq sq => ow_move rfl ⟨rfl, Ext.refl _⟩) ?_
  refine f_q rfl (fun wq sq => ow_indexT (hs.ext sq) eI_len rfl el30 rfl rfl rfl (show [p0, p1, p2, p3, p4][4]? = some p4 from rfl) rfl ⟨rfl, Ext.refl _⟩) ?_
  refine f_q rfl (fun wq sq => ow_loadT (hs.ext sq) eI_len (show [p0, p1, p2, p3, p4][4]? = some p4 from rfl) ti2 rfl rfl rfl ⟨rfl, Ext.refl _⟩) ?_
  refine f_q rfl (fun wq sq => ow_eql rfl rfl ⟨rfl, Ext.refl _⟩) ?_
  refine f_q rfl (fun wq sq => ow_buildP pl67 ti67 rfl rfl ⟨rfl, Ext.refl _⟩) ?_
  refine f_op (fun gD : Nat => Value.pointer (some ⟨gD, 0, none⟩)) (fun gD wz => Blk wz gD 67 (⟨0, 0, 0, 0, false⟩ : Desc).cells ∧ w.heap.size ≤ gD ∧ w2.heap.size ≤ gD ∧ g0 < gD) 0 rfl ⟨inj_ptr, fun _ _ _ h k => ⟨h.1.ext k, h.2⟩, fun wq sq => ow_alloc ti67 (fun g w' hg hb hx hz => ⟨g, rfl, ⟨hb, Nat.le_trans (Nat.le_trans X.size (sq).size) (Nat.le_of_eq hg.symm), Nat.le_trans (sq).size (Nat.le_of_eq hg.symm), Nat.lt_of_lt_of_eq (b0.ext sq).lt hg.symm⟩, hx⟩)⟩ ?_
  intro gD
  refine f_nil (fun w3 sq => ?_)
  have xq := sq.1
  have bD := sq.2.1
  have lgD := sq.2.2.1
  have rgD := sq.2.2.2.1
  have ngDg0 := sq.2.2.2.2
  replace hs := hs.ext xq
  replace b0 := b0.ext xq
  replace X := Ext.trans X xq; clear xq sq
  refine ops_cons rfl (ow_storeB bD ti67 rfl rfl rfl rfl rfl rfl ?_)
  intro w5 bE hg4 z6
  replace hs := hs.grown hg4 (by intro g hg; injection hg; omega)
  replace b0 := b0.grown hg4 (by intro h; injection h; omega)
  replace X := X.grown hg4 X.size (by intro g hg; injection hg; omega)
  clear hg4 bD
  have bE : Blk _ gD 67 (descR p0 p1 p2 p3 p4).cells := bE
  refine ops_nil ?_
  refine c_seqI (fun wz => Sl B wz A ([p0, p1, p2, p3, p4].flatMap eI) ∧ Blk wz gD 67 (descR p0 p1 p2 p3 p4).cells) mixed ?_
  obtain ⟨w7, ew7⟩ : ∃ wy, wy = World.drew w5 := ⟨_, rfl⟩
  rw [← ew7]
  have xd : Ext w5 w7 := ew7 ▸ Ext.drew w5
  replace hs := hs.ext xd
  replace b0 := b0.ext xd
  replace bE := bE.ext xd
  replace X := Ext.trans X xd; clear xd ew7
  refine wi_take 0 rfl (by kernel_rfl) rfl (by kernel_rfl) (listed' := #[true, false, false, false, false, false, false, false, false, false, false]) rfl (fun wq sq => ow_loadAB sq.2 ti67 rfl rfl ⟨rfl, rfl⟩) ?_
  refine wi_take 1 rfl (by kernel_rfl) rfl (by kernel_rfl) (listed' := #[true, true, false, false, false, false, false, false, false, false, false]) rfl (fun wq sq => ow_loadAB sq.2 ti67 rfl rfl ⟨rfl, rfl⟩) ?_
  refine wi_one 2 rfl rfl (by kernel_rfl) (listed' := #[true, true, true, false, false, false, false, false, false, false, false]) rfl ⟨hs, bE⟩ (ow_callB ent237 rfl (iIsDesc_c _ _) (fun w9 hd x8 => ?_) (fun w9 hd x8 => ?_))
  replace hs := hs.ext x8
  replace b0 := b0.ext x8
  replace bE := bE.ext x8
  replace X := Ext.trans X x8; clear x8
  refine wi_take 3 rfl (by kernel_rfl) rfl (by kernel_rfl) (listed' := #[true, true, true, true, false, false, false, false, false, false, false]) rfl (fun wq sq => ow_move rfl ⟨rfl, rfl⟩) ?_
  refine wi_takeW 4 rfl (by kernel_rfl) rfl (by kernel_rfl) (listed' := #[true, true, true, true, true, false, false, false, false, false, false]) rfl rfl rfl (fun wq sq => ow_move rfl ⟨rfl, rfl⟩) ?_
  refine wi_takeW 5 rfl (by kernel_rfl) rfl (by kernel_rfl) (listed' := #[true, true, true, true, true, true, false, false, false, false, false]) rfl rfl rfl (fun wq sq => ow_indexT sq.1 eI_len rfl el30 rfl rfl rfl (show [p0, p1, p2, p3, p4][4]? = some p4 from rfl) rfl ⟨rfl, rfl⟩) ?_
  refine wi_takeW 6 rfl (by kernel_rfl) rfl (by kernel_rfl) (listed' := #[true, true, true, true, true, true, true, false, false, false, false]) rfl rfl rfl (fun wq sq => ow_loadT sq.1 eI_len (show [p0, p1, p2, p3, p4][4]? = some p4 from rfl) ti2 rfl rfl rfl ⟨rfl, rfl⟩) ?_
  refine wi_takeW 7 rfl (by kernel_rfl) rfl (by kernel_rfl) (listed' := #[true, true, true, true, true, true, true, true, false, false, false]) rfl rfl rfl (fun wq sq => ow_leq rfl rfl ⟨rfl, rfl⟩) ?_
  refine wi_take 8 rfl (by kernel_rfl) rfl (by kernel_rfl) (listed' := #[true, true, true, true, true, true, true, true, true, false, false]) rfl (fun wq sq => ow_pick rfl rfl ⟨rfl, rfl⟩) ?_
  refine wi_one 9 rfl rfl (by kernel_rfl) (listed' := #[true, true, true, true, true, true, true, true, true, true, false]) rfl ⟨hs, bE⟩ (ow_storeB b0 ti67 rfl rfl rfl rfl rfl rfl ?_)
  intro w11 b9 hg10 z12
  replace hs := hs.grown hg10 (by intro g hg; injection hg; omega)
  replace bE := bE.grown hg10 (by intro h; injection h; omega)
  replace X := X.grown hg10 X.size (by intro g hg; injection hg; omega)
  clear hg10 b0
  refine wi_take 10 rfl (by kernel_rfl) rfl (by kernel_rfl) (listed' := #[true, true, true, true, true, true, true, true, true, true, true]) rfl (fun wq sq => ow_assign rfl ⟨rfl, rfl⟩) ?_
  refine wi_done rfl ⟨hs, bE⟩ (fun aj fj => ⟨_, fj, ?_⟩)
  refine c_ret ?_
  refine fin_cell2 rfl rfl b9 ti67 rfl rfl ?_
  · skip
    first
    | (rw [descV, hd, Bool.true_and]; exact ⟨rfl, X⟩)
    | (rw [descV, hd, Bool.false_and]; exact ⟨rfl, X⟩)
  replace hs := hs.ext x8
  replace b0 := b0.ext x8
  replace bE := bE.ext x8
  replace X := Ext.trans X x8; clear x8
  refine wi_take 3 rfl (by kernel_rfl) rfl (by kernel_rfl) (listed' := #[true, true, true, true, false, false, false, false, false, false, false]) rfl (fun wq sq => ow_move rfl ⟨rfl, rfl⟩) ?_
  refine wi_takeS 4 rfl (by kernel_rfl) rfl (by kernel_rfl) (listed' := #[true, true, true, true, true, false, false, false, false, false, false]) rfl rfl rfl rfl ?_
  refine wi_takeS 5 rfl (by kernel_rfl) rfl (by kernel_rfl) (listed' := #[true, true, true, true, true, true, false, false, false, false, false]) rfl rfl rfl rfl ?_
  refine wi_takeS 6 rfl (by kernel_rfl) rfl (by kernel_rfl) (listed' := #[true, true, true, true, true, true, true, false, false, false, false]) rfl rfl rfl rfl ?_
  refine wi_takeS 7 rfl (by kernel_rfl) rfl (by kernel_rfl) (listed' := #[true, true, true, true, true, true, true, true, false, false, false]) rfl rfl rfl rfl ?_
  refine wi_take 8 rfl (by kernel_rfl) rfl (by kernel_rfl) (listed' := #[true, true, true, true, true, true, true, true, true, false, false]) rfl (fun wq sq => ow_pick rfl rfl ⟨rfl, rfl⟩) ?_
  refine wi_one 9 rfl rfl (by kernel_rfl) (listed' := #[true, true, true, true, true, true, true, true, true, true, false]) rfl ⟨hs, bE⟩ (ow_storeB b0 ti67 rfl rfl rfl rfl rfl rfl ?_)
  intro w14 b9 hg13 z15
  replace hs := hs.grown hg13 (by intro g hg; injection hg; omega)
  replace bE := bE.grown hg13 (by intro h; injection h; omega)
  replace X := X.grown hg13 X.size (by intro g hg; injection hg; omega)
  clear hg13 b0
  refine wi_take 10 rfl (by kernel_rfl) rfl (by kernel_rfl) (listed' := #[true, true, true, true, true, true, true, true, true, true, true]) rfl (fun wq sq => ow_assign rfl ⟨rfl, rfl⟩) ?_
  refine wi_done rfl ⟨hs, bE⟩ (fun aj fj => ⟨_, fj, ?_⟩)
  refine c_ret ?_
  refine fin_cell2 rfl rfl b9 ti67 rfl rfl ?_
  · skip
    first
    | (rw [descV, hd, Bool.true_and]; exact ⟨rfl, X⟩)
    | (rw [descV, hd, Bool.false_and]; exact ⟨rfl, X⟩)

theorem l01Same_c (A A' : Option Addr) (B B' c c' : Nat) (xs ys : List Int) (w : World) (hs : Sl B w A (xs.flatMap eI)) (ht : Sl B' w A' (ys.flatMap eI)) (hl : xs.length ≤ 1048576) (hl2 : ys.length ≤ 1048576) :
    Calls Tryz.prog 240 #[.slice A xs.length c, .slice A' ys.length c'] w (Ret fun v w' => v = .bool (decide (xs = ys)) ∧ Ext w w') := by
  have Bhs := hs.1
  have Bht := ht.1
  have X := Ext.refl w
  refine calls_of (args := [.slice A xs.length c, .slice A' ys.length c']) Tryz.func240 Tryz.ntmps240 rfl rfl ?_
  refine c_seqR ?_
  refine ops_cons rfl (ow_assign rfl ?_)
  refine ops_nil ?_
  refine c_seq ?_
  refine c_seqR ?_
  refine ops_cons rfl (ow_move rfl ?_)
  refine ops_cons rfl (ow_len Tryz.underlying30 rfl ?_)
  refine ops_cons rfl (ow_move rfl ?_)
  refine ops_cons rfl (ow_len Tryz.underlying30 rfl ?_)
  refine ops_cons rfl (ow_neq2 rfl rfl (fun hn => ?_) (fun hn => ?_))
  refine ops_nil ?_
  refine c_true rfl ?_
  refine c_seqR ?_
  refine ops_cons rfl (ow_assign rfl ?_)
  refine ops_nil ?_
  refine c_ret ?_
  refine tq_r ?_
  refine fin_ret1 rfl rfl ?_
  · skip
    refine ⟨congrArg Value.bool ?_, X⟩
    first
    | (rw [decide_eq_false (fun e => hn (congrArg (fun l : List Int => (l.length : Int)) e))]; done)
    | (rw [hi, dx, dy, Bool.eq_iff_iff]; simp; exact fun e => absurd e he)
    | (rw [hi, drop_end hk, List.drop_eq_nil_of_le (by omega)]; rfl)
  refine ops_nil ?_
  refine c_false rfl ?_
  refine c_skip ?_
  refine tq_n ?_
  refine c_seq ?_
  refine c_seqR ?_
  refine ops_cons rfl (ow_assign rfl ?_)
  refine ops_nil ?_
  refine c_block ?_
  refine c_loop (G := Nat) (fun k => [(0, .slice A xs.length c), (1, .slice A' ys.length c'), (5, .int .i64 (k : Nat))]) (fun k wr => k ≤ xs.length ∧ decide (xs = ys) = decide (xs.drop k = ys.drop k) ∧ Sl B wr A (xs.flatMap eI) ∧ Sl B' wr A' (ys.flatMap eI) ∧ Ext w wr) (fun k => xs.length - k) 0 (.cons rfl (.cons rfl (.cons rfl (.nil _)))) ?_ ?_
  · exact ⟨by omega, rfl, hs, ht, X⟩
  clear hs ht
  clear X
  rintro k wr ⟨hk0, hi, hs, ht, X⟩
  refine c_seq ?_
  refine c_seqR ?_
  refine ops_cons rfl (ow_move rfl ?_)
  refine ops_cons rfl (ow_move rfl ?_)
  refine ops_cons rfl (ow_len Tryz.underlying30 rfl ?_)
  refine ops_cons rfl (ow_lss2 rfl rfl (fun hk => ?_) (fun hk => ?_))
  obtain ⟨x, hx, dx⟩ := drop_at' hk
  obtain ⟨y, hy, dy⟩ := drop_at (xs := ys) (k := k) (by omega)
  refine ops_nil ?_
  refine c_true rfl ?_
  refine c_skip ?_
  refine tq_n ?_
  refine c_seq ?_
  refine c_block ?_
  refine c_seqD [false, false, false, false, false, false, false, false, false] mixed (by kernel_rfl) ?_
  refine f_q rfl (fun wq sq => ow_move rfl ⟨rfl, Ext.refl _⟩) ?_
  refine f_q rfl (fun wq sq => ow_move rfl ⟨rfl, Ext.refl _⟩) ?_
  refine f_q rfl (fun wq sq => ow_indexT (hs.ext sq) eI_len rfl el30 rfl rfl rfl hx rfl ⟨rfl, Ext.refl _⟩) ?_
  refine f_q rfl (fun wq sq => ow_loadT (hs.ext sq) eI_len hx ti2 rfl rfl rfl ⟨rfl, Ext.refl _⟩) ?_
  refine f_q rfl (fun wq sq => ow_move rfl ⟨rfl, Ext.refl _⟩) ?_
  refine f_q rfl (fun wq sq => ow_move rfl ⟨rfl, Ext.refl _⟩) ?_
  refine f_q rfl (fun wq sq => ow_indexT (ht.ext sq) eI_len rfl el30 rfl rfl rfl hy rfl ⟨rfl, Ext.refl _⟩) ?_
  refine f_q rfl (fun wq sq => ow_loadT (ht.ext sq) eI_len hy ti2 rfl rfl rfl ⟨rfl, Ext.refl _⟩) ?_
  refine f_qb rfl (fun wq sq => ow_neq rfl rfl ⟨rfl, Ext.refl _⟩) (fun he => ?_) (fun he => ?_)
  refine f_nil (fun w1 sq => ?_)
  have xq := sq
  replace hs := hs.ext xq
  replace ht := ht.ext xq
  replace X := Ext.trans X xq; clear xq sq
  refine ops_nil ?_
  refine c_true rfl ?_
  refine c_seqR ?_
  refine ops_cons rfl (ow_assign rfl ?_)
  refine ops_nil ?_
  refine c_ret ?_
  refine bq_r ?_
  refine tq_r ?_
  refine tq_r ?_
  refine bq_r ?_
  refine tq_r ?_
  refine fin_ret1 rfl rfl ?_
  · skip
    refine ⟨congrArg Value.bool ?_, X⟩
    first
    | (rw [decide_eq_false (fun e => hn (congrArg (fun l : List Int => (l.length : Int)) e))]; done)
    | (rw [hi, dx, dy, Bool.eq_iff_iff]; simp; exact fun e => absurd e he)
    | (rw [hi, drop_end hk, List.drop_eq_nil_of_le (by omega)]; rfl)
  refine f_nil (fun w2 sq => ?_)
  have xq := sq
  replace hs := hs.ext xq
  replace ht := ht.ext xq
  replace X := Ext.trans X xq; clear xq sq
  refine ops_nil ?_
  refine c_false rfl ?_
  refine c_skip ?_
  refine bq_n ?_
  refine tq_n ?_
  refine c_region ?_
  refine ops_cons rfl (ow_move rfl ?_)
  refine ops_cons rfl (ow_add rfl rfl (w64 (by omega)) ?_)
  refine ops_cons rfl (ow_assign rfl ?_)
  refine ops_nil ?_
  refine tq_n ⟨k + 1, (.cons rfl (.cons rfl (.cons rfl (.nil _)))), ?_, ?_⟩
  · exact ⟨by omega, (by rw [hi, dx, dy, Classical.not_not.1 he, Bool.eq_iff_iff]; simp), hs, ht, X⟩
  · first | omega | (dsimp only; omega)
  refine ops_nil ?_
  refine c_false rfl ?_
  refine c_exit ?_
  refine tq_e ?_
  refine tq_e ?_
  refine bq_e ?_
  refine tq_n ?_
  refine c_seqR ?_
  refine ops_cons rfl (ow_assign rfl ?_)
  refine ops_nil ?_
  refine c_ret ?_
  refine fin_ret1 rfl rfl ?_
  · skip
    refine ⟨congrArg Value.bool ?_, X⟩
    first
    | (rw [decide_eq_false (fun e => hn (congrArg (fun l : List Int => (l.length : Int)) e))]; done)
    | (rw [hi, dx, dy, Bool.eq_iff_iff]; simp; exact fun e => absurd e he)
    | (rw [hi, drop_end hk, List.drop_eq_nil_of_le (by omega)]; rfl)

theorem l08From_c (A : Option Addr) (B c : Nat) (p0 p1 p2 p3 p4 : Int) (w : World) (hs : Sl B w A ([p0, p1, p2, p3, p4].flatMap eI)) (b0 : 0 ≤ p0 ∧ p0 ≤ 255) (b1 : 0 ≤ p1 ∧ p1 ≤ 255) (b2 : 0 ≤ p2 ∧ p2 ≤ 255) (b3 : 0 ≤ p3 ∧ p3 ≤ 255) (b4 : 0 ≤ p4 ∧ p4 ≤ 255) :
    Calls Tryz.prog 241 #[.slice A 5 c] w (Ret fun v w' => v = .tuple #[.agg (descR p0 p1 p2 p3 p4).cells.toArray, .bool (descV p0 p1 p2 p3 p4)] ∧ Ext w w') := by
  have Bhs := hs.1
  have X := Ext.refl w
  refine calls_of (args := [.slice A 5 c]) Tryz.func241 Tryz.ntmps241 rfl rfl ?_
  refine c_seqR ?_
  refine ops_cons rfl (ow_alloc ti67 ?_)
  intro g0 w2 eg0 b0 x1 zg0
  have lg0 : w.heap.size ≤ g0 := Nat.le_trans X.size (Nat.le_of_eq eg0.symm)
  have pg0hs := Nat.le_trans hs.1 (Nat.le_of_eq eg0.symm)
  replace hs := hs.ext x1
  replace X := Ext.trans X x1; clear x1
  refine ops_cons rfl (ow_assign rfl ?_)
  refine ops_nil ?_
  have Rhs := hs.1
  refine c_seqD [false, false, false, false, false, false, false, false, false, false, false, false, false, false, false, false, false, false, false, false, false, false, false, false, true] mixed (by kernel_rfl) ?_
  refine f_q rfl (fun wq sq => ow_move rfl ⟨rfl, Ext.refl _⟩) ?_
  refine f_q rfl (fun wq sq => ow_indexT (hs.ext sq) eI_len rfl el30 rfl rfl rfl (show [p0, p1, p2, p3, p4][0]? = some p0 from rfl) rfl ⟨rfl, Ext.refl _⟩) ?_
  refine f_q rfl (fun wq sq => ow_loadT (hs.ext sq) eI_len (show [p0, p1, p2, p3, p4][0]? = some p0 from rfl) ti2 rfl rfl rfl ⟨rfl, Ext.refl _⟩) ?_
  refine f_q rfl (fun wq sq => ow_move rfl ⟨rfl, Ext.refl _⟩) ?_
  refine f_q rfl (fun wq sq => ow_indexT (hs.ext sq) eI_len rfl el30 rfl rfl rfl (show [p0, p1, p2, p3, p4][1]? = some p1 from rfl) rfl ⟨rfl, Ext.refl _⟩) ?_
  refine f_q rfl (fun wq sq => ow_loadT (hs.ext sq) eI_len (show [p0, p1, p2, p3, p4][1]? = some p1 from rfl) ti2 rfl rfl rfl ⟨rfl, Ext.refl _⟩) ?_
  refine f_q rfl (fun wq sq => ow_quo rfl rfl (by omega) (q64 (by omega)) ⟨rfl, Ext.refl _⟩) ?_
  refine f_q rfl (fun wq sq => ow_move rfl ⟨rfl, Ext.refl _⟩) ?_
  refine f_q rfl (fun wq sq => ow_indexT (hs.ext sq) eI_len rfl el30 rfl rfl rfl (show [p0, p1, p2, p3, p4][1]? = some p1 from rfl) rfl ⟨rfl, Ext.refl _⟩) ?_
  refine f_q rfl (fun wq sq => ow_loadT (hs.ext sq) eI_len (show [p0, p1, p2, p3, p4][1]? = some p1 from rfl) ti2 rfl rfl rfl ⟨rfl, Ext.refl _⟩) ?_
  refine f_q rfl (fun wq sq => ow_rem rfl rfl (by omega) (m64 (by omega)) ⟨rfl, Ext.refl _⟩) ?_
  refine f_q rfl (fun wq sq => ow_move rfl ⟨rfl, Ext.refl _⟩) ?_
  refine f_q rfl (fun wq sq => ow_indexT (hs.ext sq) eI_len rfl el30 rfl rfl rfl (show [p0, p1, p2, p3, p4][2]? = some p2 from rfl) rfl ⟨rfl, Ext.refl _⟩) ?_
  refine f_q rfl (fun wq sq => ow_loadT (hs.ext sq) eI_len (show [p0, p1, p2, p3, p4][2]? = some p2 from rfl) ti2 rfl rfl rfl ⟨rfl, Ext.refl _⟩) ?_
  refine f_q rfl (fun wq sq => ow_mul rfl rfl (w64 (by omega)) ⟨rfl, Ext.refl _⟩) ?_
  refine f_q rfl (fun wq sq => ow_move rfl ⟨rfl, Ext.refl _⟩) ?_
  refine f_q rfl (fun wq sq => ow_indexT (hs.ext sq) eI_len rfl el30 rfl rfl rfl (show [p0, p1, p2, p3, p4][3]? = some p3 from rfl) rfl ⟨rfl, Ext.refl _⟩) ?_
  refine f_q rfl (fun wq sq => ow_loadT (hs.ext sq) eI_len (show [p0, p1, p2, p3, p4][3]? = some p3 from rfl) ti2 rfl rfl rfl ⟨rfl, Ext.refl _⟩) ?_
  refine f_q rfl (fun wq sq => ow_add rfl rfl (w64 (by omega)) ⟨rfl, Ext.refl _⟩) ?_
  refine f_q rfl (fun wq sq => ow_move rfl ⟨rfl, Ext.refl _⟩) ?_
  refine f_q rfl (fun wq sq => ow_indexT (hs.ext sq) eI_len rfl el30 rfl rfl rfl (show [p0, p1, p2, p3, p4][4]? = some p4 from rfl) rfl ⟨rfl, Ext.refl _⟩) ?_
  refine f_q rfl (fun wq sq => ow_loadT (hs.ext sq) eI_len (show [p0, p1, p2, p3, p4][4]? = some p4 from rfl) ti2 rfl rfl rfl ⟨rfl, Ext.refl _⟩) ?_
  refine f_q rfl (fun wq sq => ow_eql rfl rfl ⟨rfl, Ext.refl _⟩) ?_
  refine f_q rfl (fun wq sq => ow_buildP pl67 ti67 rfl rfl ⟨rfl, Ext.refl _⟩) ?_
  refine f_op (fun gD : Nat => Value.pointer (some ⟨gD, 0, none⟩)) (fun gD wz => Blk wz gD 67 (⟨0, 0, 0, 0, false⟩ : Desc).cells ∧ w.heap.size ≤ gD ∧ w2.heap.size ≤ gD ∧ g0 < gD) 0 rfl ⟨inj_ptr, fun _ _ _ h k => ⟨h.1.ext k, h.2⟩, fun wq sq => ow_alloc ti67 (fun g w' hg hb hx hz => ⟨g, rfl, ⟨hb, Nat.le_trans (Nat.le_trans X.size (sq).size) (Nat.le_of_eq hg.symm), Nat.le_trans (sq).size (Nat.le_of_eq hg.symm), Nat.lt_of_lt_of_eq (b0.ext sq).lt hg.symm⟩, hx⟩)⟩ ?_
  intro gD
  refine f_nil (fun w3 sq => ?_)
  have xq := sq.1
  have bD := sq.2.1
  have lgD := sq.2.2.1
  have rgD := sq.2.2.2.1
  have ngDg0 := sq.2.2.2.2
  replace hs := hs.ext xq
  replace b0 := b0.ext xq
  replace X := Ext.trans X xq; clear xq sq
  refine ops_cons rfl (ow_storeB bD ti67 rfl rfl rfl rfl rfl rfl ?_)
  intro w5 bE hg4 z6
  replace hs := hs.grown hg4 (by intro g hg; injection hg; omega)
  replace b0 := b0.grown hg4 (by intro h; injection h; omega)
  replace X := X.grown hg4 X.size (by intro g hg; injection hg; omega)
  clear hg4 bD
  have bE : Blk _ gD 67 (descR p0 p1 p2 p3 p4).cells := bE
  refine ops_nil ?_
  refine c_seqI (fun wz => Blk wz gD 67 (descR p0 p1 p2 p3 p4).cells) mixed ?_
  obtain ⟨w7, ew7⟩ : ∃ wy, wy = World.drew w5 := ⟨_, rfl⟩
  rw [← ew7]
  have xd : Ext w5 w7 := ew7 ▸ Ext.drew w5
  replace hs := hs.ext xd
  replace b0 := b0.ext xd
  replace bE := bE.ext xd
  replace X := Ext.trans X xd; clear xd ew7
  refine wi_take 0 rfl (by kernel_rfl) rfl (by kernel_rfl) (listed' := #[true, false, false, false, false, false, false, false, false, false, false]) rfl (fun wq sq => ow_loadAB sq ti67 rfl rfl ⟨rfl, rfl⟩) ?_
  refine wi_take 1 rfl (by kernel_rfl) rfl (by kernel_rfl) (listed' := #[true, true, false, false, false, false, false, false, false, false, false]) rfl (fun wq sq => ow_loadAB sq ti67 rfl rfl ⟨rfl, rfl⟩) ?_
  refine wi_one 2 rfl rfl (by kernel_rfl) (listed' := #[true, true, true, false, false, false, false, false, false, false, false]) rfl bE (ow_callB ent266 rfl (sIsDesc_c _ _) (fun w9 hd x8 => ?_) (fun w9 hd x8 => ?_))
  replace hs := hs.ext x8
  replace b0 := b0.ext x8
  replace bE := bE.ext x8
  replace X := Ext.trans X x8; clear x8
  refine wi_take 3 rfl (by kernel_rfl) rfl (by kernel_rfl) (listed' := #[true, true, true, true, false, false, false, false, false, false, false]) rfl (fun wq sq => ow_move rfl ⟨rfl, rfl⟩) ?_
  refine wi_takeW 4 rfl (by kernel_rfl) rfl (by kernel_rfl) (listed' := #[true, true, true, true, true, false, false, false, false, false, false]) rfl rfl rfl (fun wq sq => ow_loadAB sq ti67 rfl rfl ⟨rfl, rfl⟩) ?_
  refine wi_takeW 6 rfl (by kernel_rfl) rfl (by kernel_rfl) (listed' := #[true, true, true, true, true, false, true, false, false, false, false]) rfl rfl rfl (fun wq sq => ow_move rfl ⟨rfl, rfl⟩) ?_
  refine wi_oneW 5 rfl rfl (by kernel_rfl) (listed' := #[true, true, true, true, true, true, true, false, false, false, false]) rfl rfl rfl bE (ow_call ent232 rfl (ret_mono (l08Bytes_c _ _ hd) ?_))
  rintro _ w11 ⟨AS, cS, rfl, oS, x10⟩
  replace oS := Own.low oS X.size
  replace hs := hs.ext x10
  replace b0 := b0.ext x10
  replace bE := bE.ext x10
  replace X := Ext.trans X x10; clear x10
  refine wi_oneW 7 rfl rfl (by kernel_rfl) (listed' := #[true, true, true, true, true, true, true, true, false, false, false]) rfl rfl rfl bE (ow_call ent240 rfl (ret_mono (l01Same_c _ _ _ _ _ _ (descB (descR p0 p1 p2 p3 p4)) [p0, p1, p2, p3, p4] _ oS.sl hs (by simp [descB]) (by simp)) ?_))
  rintro _ w13 ⟨rfl, x12⟩
  replace hs := hs.ext x12
  replace b0 := b0.ext x12
  replace bE := bE.ext x12
  replace oS := oS.ext x12
  replace X := Ext.trans X x12; clear x12
  refine wi_take 8 rfl (by kernel_rfl) rfl (by kernel_rfl) (listed' := #[true, true, true, true, true, true, true, true, true, false, false]) rfl (fun wq sq => ow_pick rfl rfl ⟨rfl, rfl⟩) ?_
  refine wi_one 9 rfl rfl (by kernel_rfl) (listed' := #[true, true, true, true, true, true, true, true, true, true, false]) rfl bE (ow_storeB b0 ti67 rfl rfl rfl rfl rfl rfl ?_)
  intro w15 b9 hg14 z16
  replace hs := hs.grown hg14 (by intro g hg; injection hg; omega)
  replace bE := bE.grown hg14 (by intro h; injection h; omega)
  replace oS := oS.grownBlk hg14 (Own.neT oS b0 (by decide))
  replace X := X.grown hg14 X.size (by intro g hg; injection hg; omega)
  clear hg14 b0
  refine wi_take 10 rfl (by kernel_rfl) rfl (by kernel_rfl) (listed' := #[true, true, true, true, true, true, true, true, true, true, true]) rfl (fun wq sq => ow_assign rfl ⟨rfl, rfl⟩) ?_
  refine wi_done rfl bE (fun aj fj => ⟨_, fj, ?_⟩)
  refine c_ret ?_
  refine fin_cell2 rfl rfl b9 ti67 rfl rfl ?_
  · skip
    first
    | (rw [descV_same hd b0 b1 b2 b3 b4]; exact ⟨rfl, X⟩)
    | (rw [descV, hd, Bool.false_and]; exact ⟨rfl, X⟩)
  replace hs := hs.ext x8
  replace b0 := b0.ext x8
  replace bE := bE.ext x8
  replace X := Ext.trans X x8; clear x8
  refine wi_take 3 rfl (by kernel_rfl) rfl (by kernel_rfl) (listed' := #[true, true, true, true, false, false, false, false, false, false, false]) rfl (fun wq sq => ow_move rfl ⟨rfl, rfl⟩) ?_
  refine wi_takeS 4 rfl (by kernel_rfl) rfl (by kernel_rfl) (listed' := #[true, true, true, true, true, false, false, false, false, false, false]) rfl rfl rfl rfl ?_
  refine wi_takeS 5 rfl (by kernel_rfl) rfl (by kernel_rfl) (listed' := #[true, true, true, true, true, true, false, false, false, false, false]) rfl rfl rfl rfl ?_
  refine wi_takeS 6 rfl (by kernel_rfl) rfl (by kernel_rfl) (listed' := #[true, true, true, true, true, true, true, false, false, false, false]) rfl rfl rfl rfl ?_
  refine wi_takeS 7 rfl (by kernel_rfl) rfl (by kernel_rfl) (listed' := #[true, true, true, true, true, true, true, true, false, false, false]) rfl rfl rfl rfl ?_
  refine wi_take 8 rfl (by kernel_rfl) rfl (by kernel_rfl) (listed' := #[true, true, true, true, true, true, true, true, true, false, false]) rfl (fun wq sq => ow_pick rfl rfl ⟨rfl, rfl⟩) ?_
  refine wi_one 9 rfl rfl (by kernel_rfl) (listed' := #[true, true, true, true, true, true, true, true, true, true, false]) rfl bE (ow_storeB b0 ti67 rfl rfl rfl rfl rfl rfl ?_)
  intro w18 b9 hg17 z19
  replace hs := hs.grown hg17 (by intro g hg; injection hg; omega)
  replace bE := bE.grown hg17 (by intro h; injection h; omega)
  replace X := X.grown hg17 X.size (by intro g hg; injection hg; omega)
  clear hg17 b0
  refine wi_take 10 rfl (by kernel_rfl) rfl (by kernel_rfl) (listed' := #[true, true, true, true, true, true, true, true, true, true, true]) rfl (fun wq sq => ow_assign rfl ⟨rfl, rfl⟩) ?_
  refine wi_done rfl bE (fun aj fj => ⟨_, fj, ?_⟩)
  refine c_ret ?_
  refine fin_cell2 rfl rfl b9 ti67 rfl rfl ?_
  · skip
    first
    | (rw [descV_same hd b0 b1 b2 b3 b4]; exact ⟨rfl, X⟩)
    | (rw [descV, hd, Bool.false_and]; exact ⟨rfl, X⟩)

theorem descFrom_n (A : Option Addr) (B c n : Nat) (p0 p1 p2 p3 p4 : Int) (w : World) (hs : Sl B w A ([p0, p1, p2, p3, p4].flatMap eI)) (b0 : 0 ≤ p0 ∧ p0 ≤ 255) (b1 : 0 ≤ p1 ∧ p1 ≤ 255) (b2 : 0 ≤ p2 ∧ p2 ≤ 255) (b3 : 0 ≤ p3 ∧ p3 ≤ 255) (b4 : 0 ≤ p4 ∧ p4 ≤ 255) (en : n = 5) :
    Calls Tryz.prog 164 #[.slice A n c] w (Ret fun v w' => v = .tuple #[.agg (descR p0 p1 p2 p3 p4).cells.toArray, .bool (descV p0 p1 p2 p3 p4)] ∧ Ext w w') := by
  subst en
  exact descFrom_c A B c p0 p1 p2 p3 p4 w hs b0 b1 b2 b3 b4

theorem l08From_n (A : Option Addr) (B c n : Nat) (p0 p1 p2 p3 p4 : Int) (w : World) (hs : Sl B w A ([p0, p1, p2, p3, p4].flatMap eI)) (b0 : 0 ≤ p0 ∧ p0 ≤ 255) (b1 : 0 ≤ p1 ∧ p1 ≤ 255) (b2 : 0 ≤ p2 ∧ p2 ≤ 255) (b3 : 0 ≤ p3 ∧ p3 ≤ 255) (b4 : 0 ≤ p4 ∧ p4 ≤ 255) (en : n = 5) :
    Calls Tryz.prog 241 #[.slice A n c] w (Ret fun v w' => v = .tuple #[.agg (descR p0 p1 p2 p3 p4).cells.toArray, .bool (descV p0 p1 p2 p3 p4)] ∧ Ext w w') := by
  subst en
  exact l08From_c A B c p0 p1 p2 p3 p4 w hs b0 b1 b2 b3 b4

theorem readSlots_c (A : Option Addr) (B c : Nat) (xs : List Int) (w : World) (hs : Sl B w A (xs.flatMap eI)) (hl : xs.length ≤ 1048576) (hB : isB xs = true) :
    Calls Tryz.prog 78 #[.slice A xs.length c] w (Ret fun v w' => ∃ A' c' ys sz ok, v = .tuple #[.slice A' (List.length ys) c', .int .i64 sz, .bool ok] ∧ RdS (rdS xs) ys sz ok ∧ Own w' w.heap.size 89 8 A' ys.length c' (ys.flatMap SlotI.cells) ∧ Ext w w') := by
  have Bhs := hs.1
  have X := Ext.refl w
  refine calls_of (args := [.slice A xs.length c]) Tryz.func78 Tryz.ntmps78 rfl rfl ?_
  refine c_seqR ?_
  refine ops_cons rfl (ow_assign rfl ?_)
  refine ops_cons rfl (ow_assign rfl ?_)
  refine ops_cons rfl (ow_assign rfl ?_)
  refine ops_nil ?_
  refine c_seqR ?_
  refine ops_cons rfl (ow_move rfl ?_)
  refine ops_cons rfl (ow_buildP pl166 ti166 rfl rfl ?_)
  refine ops_cons rfl (ow_box rfl rfl ?_)
  intro gC w2 egC q x1 zgC
  have lgC : w.heap.size ≤ gC := Nat.le_trans X.size (Nat.le_of_eq egC.symm)
  have pgChs := Nat.le_trans hs.1 (Nat.le_of_eq egC.symm)
  replace hs := hs.ext x1
  replace X := Ext.trans X x1; clear x1
  have q : Blk _ gC 166 (curC A c xs 0 false) := q
  refine ops_cons rfl (ow_buildSlice el26 ti89 rfl rfl rfl rfl rfl ?_)
  intro gO w4 egO oT bbgO x3 zgO
  replace oT := Own.low oT X.size
  replace hs := hs.ext x3
  replace q := q.ext x3
  replace X := Ext.trans X x3; clear x3
  refine ops_cons rfl (ow_assign rfl ?_)
  refine ops_cons rfl (ow_assign rfl ?_)
  refine ops_nil ?_
  refine c_seq ?_
  refine c_seqR ?_
  refine ops_cons rfl (ow_move rfl ?_)
  refine ops_cons rfl (ow_call ent160 rfl (ret_mono (next_c A B c xs gC 0 false _ q hs hl (Nat.zero_le _) (by omega)) ?_))
  rintro _ w6 ⟨rfl, q1, x5⟩
  replace hs := hs.grown x5 (by intro g hg; injection hg; omega)
  replace oT := oT.grownBlk x5 (Own.neT oT q (by decide))
  replace X := X.grown x5 X.size (by intro g hg; injection hg; omega)
  clear x5 q
  refine ops_cons rfl (ow_assign rfl ?_)
  refine ops_nil ?_
  refine c_block ?_
  refine c_loop (G := Nat × Nat × Bool × List SlotI × Nat × Option Addr × Nat × Int) (fun ⟨rem, a, b, ys, n1, A1, c1, tm⟩ => [(5, .pointer (some ⟨gC, 0, none⟩)), (7, .int .i64 tm), (6, .slice A1 n1 c1)]) (fun ⟨rem, a, b, ys, n1, A1, c1, tm⟩ wr => a ≤ xs.length ∧ n1 = ys.length ∧ tm = (rem : Int) ∧ n1 + rem ≤ 255 ∧ (b = false → a = 1 + 7 * n1) ∧ HgS xs rem a b ys ∧ Blk wr gC 166 (curC A c xs a b) ∧ Own wr w.heap.size 89 8 A1 n1 c1 (ys.flatMap SlotI.cells) ∧ Sl B wr A (xs.flatMap eI) ∧ Ext w wr) (fun ⟨rem, a, b, ys, n1, A1, c1, tm⟩ => rem) ((nV xs 0).toNat, nAt xs 0, nBad xs 0 false, [], 0, some ⟨gO, 0, none⟩, 0, nV xs 0) (.cons rfl (.cons rfl (.cons rfl (.nil _)))) ?_ ?_
  · exact ⟨(nAt_le (Nat.zero_le _)), rfl, (by have := nV_in hB 0; omega), (by have := nV_in hB 0; show 0 + _ ≤ _; omega), (fun h => (start_at1 h)), (HgS.start xs), q1, oT, hs, X⟩
  clear hs oT q1
  clear X
  rintro ⟨rem, a, b, ys, n1, A1, c1, tm⟩ wr ⟨ha1, hn, htm, hrm, hai, hg, q, oT, hs, X⟩
  refine c_seq ?_
  refine c_seqR ?_
  refine ops_cons rfl (ow_move rfl ?_)
  refine ops_cons rfl (ow_gtr2 rfl rfl (fun h7 => ?_) (fun h7 => ?_))
  refine ops_cons rfl (ow_move rfl ?_)
  refine ops_want rfl rfl rfl (ow_move rfl ?_)
  refine ops_want rfl rfl rfl (ow_nilCheck rfl ?_)
  refine ops_want rfl rfl rfl (ow_fieldAddrB off166_2 rfl rfl ?_)
  refine ops_want rfl rfl rfl (ow_loadB q ti4 rfl rfl ?_)
  refine ops_want rfl rfl rfl (ow_not rfl ?_)
  refine ops_cons rfl (ow_pick rfl rfl ?_)
  refine ops_nil ?_
  refine c_split rfl (fun h8 => ?_) (fun h8 => ?_)
  refine c_skip ?_
  refine tq_n ?_
  refine c_seq ?_
  refine c_block ?_
  refine c_seqR ?_
  refine ops_cons rfl (ow_move rfl ?_)
  have hb0 : b = false := by simpa using ‹(!b) = true›
  subst hb0
  have hv0 := nV_in hB a
  refine ops_cons rfl (ow_call ent160 rfl (ret_mono (next_c A B c xs gC a false _ q hs hl ha1 (by omega)) ?_))
  rintro _ w10 ⟨rfl, q2, x9⟩
  replace oT := oT.grownBlk x9 (Own.neT oT q (by decide))
  replace hs := hs.grown x9 (by intro g hg; injection hg; omega)
  replace X := X.grown x9 X.size (by intro g hg; injection hg; omega)
  clear x9 q
  refine ops_cons rfl (ow_assign rfl ?_)
  refine ops_nil ?_
  refine c_seqR ?_
  refine ops_cons rfl (ow_move rfl ?_)
  refine ops_cons rfl (ow_quo rfl rfl (by omega) (q64 (by omega)) ?_)
  refine ops_cons rfl (ow_move rfl ?_)
  refine ops_cons rfl (ow_rem rfl rfl (by omega) (m64 (by omega)) ?_)
  refine ops_cons rfl (ow_move rfl ?_)
  refine ops_cons rfl (ow_call ent160 rfl (ret_mono (next_c A B c xs gC _ _ _ q2 hs hl (nAt_le ha1) (by omega)) ?_))
  rintro _ w12 ⟨rfl, q3, x11⟩
  replace oT := oT.grownBlk x11 (Own.neT oT q2 (by decide))
  replace hs := hs.grown x11 (by intro g hg; injection hg; omega)
  replace X := X.grown x11 X.size (by intro g hg; injection hg; omega)
  clear x11 q2
  refine ops_cons rfl (ow_buildP pl89 ti89 rfl rfl ?_)
  have UT := fun g hg => (Own.lt oT (g := g) hg).2
  refine ops_cons rfl (ow_alloc ti89 ?_)
  intro gX w14 egX bX x13 zgX
  have lgX : w.heap.size ≤ gX := Nat.le_trans X.size (Nat.le_of_eq egX.symm)
  have pgXhs := Nat.le_trans hs.1 (Nat.le_of_eq egX.symm)
  have ngXq3 := Nat.lt_of_lt_of_eq q3.lt egX.symm
  replace oT := oT.ext x13
  replace hs := hs.ext x13
  replace q3 := q3.ext x13
  replace X := Ext.trans X x13; clear x13
  refine ops_cons rfl (ow_storeB bX ti89 rfl rfl rfl rfl rfl rfl ?_)
  intro w16 bY hg15 z17
  replace oT := oT.grownBlk hg15 (fun h => by have := UT _ h; omega)
  replace hs := hs.grown hg15 (by intro g hg; injection hg; omega)
  replace q3 := q3.grown hg15 (by intro h; injection h; omega)
  replace X := X.grown hg15 X.size (by intro g hg; injection hg; omega)
  clear hg15 bX
  refine ops_nil ?_
  refine c_seqR ?_
  refine ops_cons rfl (ow_move rfl ?_)
  refine ops_cons rfl (ow_call ent161 rfl (ret_mono (some_c A B c xs gC _ _ 5 _ q3 hs hl (nAt_le (nAt_le ha1)) (by omega) (by omega)) ?_))
  rintro _ w19 ⟨AP, cP, rfl, oP, q5, x18⟩
  replace oT := oT.grownBlk x18 (Own.neT oT q3 (by decide))
  replace hs := hs.grown x18 (by intro g hg; injection hg; omega)
  replace bY := bY.grown x18 (by intro h; injection h; omega)
  replace X := X.grown x18 X.size (by intro g hg; injection hg; omega)
  clear x18 q3
  have oP : Own _ _ 2 1 AP (entS xs a).1.length cP ((entS xs a).1.flatMap eI) := oP
  have q5 : Blk _ gC 166 (curC A c xs (entS xs a).2.1 (entS xs a).2.2) := q5
  refine ops_cons rfl (ow_assign rfl ?_)
  refine ops_nil ?_
  refine c_seq ?_
  refine c_seqR ?_
  refine ops_cons rfl (ow_move rfl ?_)
  refine ops_cons rfl (ow_nilCheck rfl ?_)
  refine ops_cons rfl (ow_fieldAddrB off166_2 rfl rfl ?_)
  refine ops_cons rfl (ow_loadB q5 ti4 rfl rfl ?_)
  cases hb3 : (entS xs a).2.2
  obtain ⟨_, ha7, hv1, hv2, hp5, ha8⟩ := (entS_cases ha1).resolve_left (fun h => by rw [hb3] at h; cases h.1)
  refine ops_nil ?_
  refine c_false rfl ?_
  refine c_skip ?_
  refine tq_n ?_
  refine c_seqR ?_
  refine ops_cons rfl (ow_move rfl ?_)
  refine ops_cons rfl (ow_call ent164 rfl (ret_mono (descFrom_n AP _ _ _ (xs.getD (a + 2) 0) (xs.getD (a + 2 + 1) 0) (xs.getD (a + 2 + 2) 0) (xs.getD (a + 2 + 3) 0) (xs.getD (a + 2 + 4) 0) _ (by have h := oP.sl; rw [hp5] at h; exact h) (gB hB _) (gB hB _) (gB hB _) (gB hB _) (gB hB _) (by show (entS xs a).1.length = 5; rw [hp5]; rfl)) ?_))
  rintro _ w21 ⟨rfl, x20⟩
  replace oT := oT.ext x20
  replace hs := hs.ext x20
  replace bY := bY.ext x20
  replace q5 := q5.ext x20
  replace oP := oP.ext x20
  replace X := Ext.trans X x20; clear x20
  refine ops_cons rfl (ow_move rfl ?_)
  refine ops_cons rfl (ow_extract rfl rfl ?_)
  refine ops_cons rfl (ow_extract rfl rfl ?_)
  refine ops_cons rfl (ow_alloc ti67 ?_)
  intro gD w23 egD bD x22 zgD
  have lgD : w.heap.size ≤ gD := Nat.le_trans X.size (Nat.le_of_eq egD.symm)
  have pgDhs := Nat.le_trans hs.1 (Nat.le_of_eq egD.symm)
  have ngDbY := Nat.lt_of_lt_of_eq bY.lt egD.symm
  have ngDq5 := Nat.lt_of_lt_of_eq q5.lt egD.symm
  replace oT := oT.ext x22
  replace hs := hs.ext x22
  replace bY := bY.ext x22
  replace q5 := q5.ext x22
  replace oP := oP.ext x22
  replace X := Ext.trans X x22; clear x22
  refine ops_cons rfl (ow_storeB bD ti67 rfl rfl rfl rfl rfl rfl ?_)
  intro w25 bE hg24 z26
  replace oT := oT.grownBlk hg24 (Own.neT oT bD (by decide))
  replace hs := hs.grown hg24 (by intro g hg; injection hg; omega)
  replace bY := bY.grown hg24 (by intro h; injection h; omega)
  replace q5 := q5.grown hg24 (by intro h; injection h; omega)
  replace oP := oP.grownBlk hg24 (Own.neT oP bD (by decide))
  replace X := X.grown hg24 X.size (by intro g hg; injection hg; omega)
  clear hg24 bD
  refine ops_cons rfl (ow_assign rfl ?_)
  cases hv : (descV (xs.getD (a + 2) 0) (xs.getD (a + 2 + 1) 0) (xs.getD (a + 2 + 2) 0) (xs.getD (a + 2 + 3) 0) (xs.getD (a + 2 + 4) 0))
  refine ops_nil ?_
  refine c_seq ?_
  refine c_seqR ?_
  refine ops_cons rfl (ow_move rfl ?_)
  refine ops_cons rfl (ow_not rfl ?_)
  refine ops_nil ?_
  refine c_true rfl ?_
  refine c_seqR ?_
  refine ops_cons rfl (ow_assign rfl ?_)
  refine ops_cons rfl (ow_assign rfl ?_)
  refine ops_cons rfl (ow_assign rfl ?_)
  refine ops_nil ?_
  refine c_ret ?_
  refine tq_r ?_
  refine bq_r ?_
  refine tq_r ?_
  refine tq_r ?_
  refine bq_r ?_
  refine tq_r ?_
  refine fin_ret3 rfl rfl rfl rfl ?_
  · skip
    first
    | (exact absurd (hb3.symm.trans hb1) (by decide))
    | (subst hb1; exact absurd ‹(!false) = false› (by decide))
    | (have HN : rdS xs = none := hg.inval (by omega) hv
       exact ⟨none, 0, [], 0, false, rfl, (by rw [HN]; rfl), Own.nil_ _ _ _ _, X⟩)
    | (have HN : rdS xs = none := hg.bad (by omega) ha1 hb3
       exact ⟨none, 0, [], 0, false, rfl, (by rw [HN]; rfl), Own.nil_ _ _ _ _, X⟩)
    | (subst hb1
       have HN : rdS xs = none := hg.2 rfl
       exact ⟨none, 0, [], 0, false, rfl, (by rw [HN]; rfl), Own.nil_ _ _ _ _, X⟩)
    | (subst hb1
       have hr0 : rem = 0 := by omega
       subst hr0
       have HN : rdS xs = none := hg.stop.2 hIT
       exact ⟨none, 0, [], 0, false, rfl, (by rw [HN]; rfl), Own.nil_ _ _ _ _, X⟩)
    | (subst hb1
       have hr0 : rem = 0 := by omega
       subst hr0
       have HS : rdS xs = some ys := hg.stop.1 hIT
       exact ⟨_, _, ys, _, true, rfl, (by rw [HS]; exact ⟨rfl, by have := hai rfl; omega, rfl⟩), oT, X⟩)
  refine ops_nil ?_
  refine c_seq ?_
  refine c_seqR ?_
  refine ops_cons rfl (ow_move rfl ?_)
  refine ops_cons rfl (ow_not rfl ?_)
  refine ops_nil ?_
  refine c_false rfl ?_
  refine c_skip ?_
  refine tq_n ?_
  refine c_seqR ?_
  refine ops_cons rfl (ow_loadAB bE ti67 rfl rfl ?_)
  refine ops_cons rfl (ow_fieldAddrB off89_3 rfl rfl ?_)
  refine ops_cons rfl (ow_storeB bY ti67 rfl rfl rfl rfl rfl rfl ?_)
  intro w28 bW hg27 z29
  replace oT := oT.grownBlk hg27 (fun h => by have := UT _ h; omega)
  replace hs := hs.grown hg27 (by intro g hg; injection hg; omega)
  replace q5 := q5.grown hg27 (by intro h; injection h; omega)
  replace oP := oP.grownBlk hg27 (Own.neT oP bY (by decide))
  replace bE := bE.grown hg27 (by intro h; injection h; omega)
  replace X := X.grown hg27 X.size (by intro g hg; injection hg; omega)
  clear hg27 bY
  refine ops_nil ?_
  refine c_region ?_
  refine ops_cons rfl (ow_move rfl ?_)
  refine ops_cons rfl (ow_loadAB bW ti89 rfl rfl ?_)
  refine ops_cons rfl (ow_buildSlice el26 ti89 rfl rfl rfl rfl rfl ?_)
  intro g30 w32 eg30 oV bbg30 x31 zg30
  replace oV := Own.low oV X.size
  replace oT := oT.ext x31
  replace hs := hs.ext x31
  replace q5 := q5.ext x31
  replace oP := oP.ext x31
  replace bE := bE.ext x31
  replace bW := bW.ext x31
  replace X := Ext.trans X x31; clear x31
  have eY : ((⟨nV xs a / 16, nV xs a % 16, nV xs (nAt xs a), dAt xs (a + 2)⟩) : SlotI) = slotE xs a := by rw [slotE, hv1, hv2]
  refine ops_cons rfl (ow_append (ts := #[]) oT X.size oV.sl (by first | rfl | simp) (by first | exact List.all_eq_true.1 rfl | simp [Value.oneCell']) el26 ti89 rfl rfl rfl rfl (by omega) (by omega) ?_)
  intro AoU coU w34 oU hg33
  replace hs := hs.grown hg33 (fun g hg => Nat.le_trans Bhs (Own.lt oT hg).1)
  replace q5 := q5.grown hg33 (fun h => Own.neT oT q5 (by decide) h.symm)
  replace oP := oP.grown hg33 (Own.neO oP oT (by decide))
  replace bE := bE.grown hg33 (fun h => Own.neT oT bE (by decide) h.symm)
  replace bW := bW.grown hg33 (fun h => by have := UT _ h.symm; omega)
  replace X := X.grown hg33 X.size (fun g hg => (Own.lt oT hg).1)
  clear hg33
  refine ops_cons rfl (ow_assign rfl ?_)
  refine ops_nil ?_
  refine bq_n ?_
  refine tq_n ?_
  refine c_region ?_
  refine ops_cons rfl (ow_move rfl ?_)
  refine ops_cons rfl (ow_sub rfl rfl (w64 (by omega)) ?_)
  refine ops_cons rfl (ow_assign rfl ?_)
  refine ops_nil ?_
  refine tq_n ⟨(rem - 1, (entS xs a).2.1, (entS xs a).2.2, ys ++ [⟨nV xs a / 16, nV xs a % 16, nV xs (nAt xs a), dAt xs (a + 2)⟩], n1 + 1, AoU, coU, tm - 1), (.cons rfl (.cons rfl (.cons rfl (.nil _)))), ?_, ?_⟩
  · exact ⟨(by omega), (by simp [hn]), (by omega), (by omega), (fun _ => by have := hai rfl; omega), (by rw [hb3, ha8, eY]; exact hg.step (by omega) ha7 hv), q5, oU.to (snoc SlotI.cells ys ⟨nV xs a / 16, nV xs a % 16, nV xs (nAt xs a), dAt xs (a + 2)⟩).symm, hs, X⟩
  · first | omega | (dsimp only; omega)
  refine ops_nil ?_
  refine c_true rfl ?_
  refine c_exit ?_
  refine tq_e ?_
  refine bq_o rfl ?_
  refine tq_e ?_
  refine tq_e ?_
  refine bq_e ?_
  refine tq_n ?_
  refine c_seq ?_
  refine c_seqR ?_
  refine ops_cons rfl (ow_move rfl ?_)
  subst hn
  refine ops_cons rfl (ow_nilCheck rfl ?_)
  refine ops_cons rfl (ow_fieldAddrB off166_2 rfl rfl ?_)
  refine ops_cons rfl (ow_loadB q5 ti4 rfl rfl ?_)
  cases hb1 : (entS xs a).2.2
  refine ops_cons rfl (ow_move rfl ?_)
  refine ops_want rfl rfl rfl (ow_move rfl ?_)
  refine ops_want rfl rfl rfl (ow_callB ent165 rfl (iIsST_c _ _ _ ys _ oT.sl (by omega)) (fun w36 hIT x35 => ?_) (fun w36 hIT x35 => ?_))
  replace oT := oT.ext x35
  replace hs := hs.ext x35
  replace bY := bY.ext x35
  replace q5 := q5.ext x35
  replace oP := oP.ext x35
  replace X := Ext.trans X x35; clear x35
  refine ops_want rfl rfl rfl (ow_not rfl ?_)
  refine ops_cons rfl (ow_pick rfl rfl ?_)
  refine ops_nil ?_
  refine c_false rfl ?_
  refine c_skip ?_
  refine tq_n ?_
  refine c_seqD [false, false, false, false, false, false, false, false] mixed (by kernel_rfl) ?_
  refine f_q rfl (fun wq sq => ow_move rfl ⟨rfl, Ext.refl _⟩) ?_
  refine f_q rfl (fun wq sq => ow_move rfl ⟨rfl, Ext.refl _⟩) ?_
  refine f_q rfl (fun wq sq => ow_nilCheck rfl ⟨rfl, Ext.refl _⟩) ?_
  refine f_q rfl (fun wq sq => ow_fieldAddrB off166_1 rfl rfl ⟨rfl, Ext.refl _⟩) ?_
  refine f_q rfl (fun wq sq => ow_loadB (q5.ext sq) ti3 rfl rfl ⟨rfl, Ext.refl _⟩) ?_
  refine f_q rfl (fun wq sq => ow_assign rfl ⟨rfl, Ext.refl _⟩) ?_
  refine f_q rfl (fun wq sq => ow_assign rfl ⟨rfl, Ext.refl _⟩) ?_
  refine f_q rfl (fun wq sq => ow_assign rfl ⟨rfl, Ext.refl _⟩) ?_
  refine f_nil (fun w37 sq => ?_)
  have xq := sq
  replace oT := oT.ext xq
  replace hs := hs.ext xq
  replace bY := bY.ext xq
  replace q5 := q5.ext xq
  replace oP := oP.ext xq
  replace X := Ext.trans X xq; clear xq sq
  refine ops_nil ?_
  refine c_ret ?_
  refine fin_ret3 rfl rfl rfl rfl ?_
  · skip
    first
    | (exact absurd (hb3.symm.trans hb1) (by decide))
    | (subst hb1; exact absurd ‹(!false) = false› (by decide))
    | (have HN : rdS xs = none := hg.inval (by omega) hv
       exact ⟨none, 0, [], 0, false, rfl, (by rw [HN]; rfl), Own.nil_ _ _ _ _, X⟩)
    | (have HN : rdS xs = none := hg.bad (by omega) ha1 hb3
       exact ⟨none, 0, [], 0, false, rfl, (by rw [HN]; rfl), Own.nil_ _ _ _ _, X⟩)
    | (subst hb1
       have HN : rdS xs = none := hg.2 rfl
       exact ⟨none, 0, [], 0, false, rfl, (by rw [HN]; rfl), Own.nil_ _ _ _ _, X⟩)
    | (subst hb1
       have hr0 : rem = 0 := by omega
       subst hr0
       have HN : rdS xs = none := hg.stop.2 hIT
       exact ⟨none, 0, [], 0, false, rfl, (by rw [HN]; rfl), Own.nil_ _ _ _ _, X⟩)
    | (subst hb1
       have hr0 : rem = 0 := by omega
       subst hr0
       have HS : rdS xs = some ys := hg.stop.1 hIT
       exact ⟨_, _, ys, _, true, rfl, (by rw [HS]; exact ⟨rfl, by have := hai rfl; omega, rfl⟩), oT, X⟩)
  replace oT := oT.ext x35
  replace hs := hs.ext x35
  replace bY := bY.ext x35
  replace q5 := q5.ext x35
  replace oP := oP.ext x35
  replace X := Ext.trans X x35; clear x35
  refine ops_want rfl rfl rfl (ow_not rfl ?_)
  refine ops_cons rfl (ow_pick rfl rfl ?_)
  refine ops_nil ?_
  refine c_true rfl ?_
  refine c_seqR ?_
  refine ops_cons rfl (ow_assign rfl ?_)
  refine ops_cons rfl (ow_assign rfl ?_)
  refine ops_cons rfl (ow_assign rfl ?_)
  refine ops_nil ?_
  refine c_ret ?_
  refine tq_r ?_
  refine fin_ret3 rfl rfl rfl rfl ?_
  · skip
    first
    | (exact absurd (hb3.symm.trans hb1) (by decide))
    | (subst hb1; exact absurd ‹(!false) = false› (by decide))
    | (have HN : rdS xs = none := hg.inval (by omega) hv
       exact ⟨none, 0, [], 0, false, rfl, (by rw [HN]; rfl), Own.nil_ _ _ _ _, X⟩)
    | (have HN : rdS xs = none := hg.bad (by omega) ha1 hb3
       exact ⟨none, 0, [], 0, false, rfl, (by rw [HN]; rfl), Own.nil_ _ _ _ _, X⟩)
    | (subst hb1
       have HN : rdS xs = none := hg.2 rfl
       exact ⟨none, 0, [], 0, false, rfl, (by rw [HN]; rfl), Own.nil_ _ _ _ _, X⟩)
    | (subst hb1
       have hr0 : rem = 0 := by omega
       subst hr0
       have HN : rdS xs = none := hg.stop.2 hIT
       exact ⟨none, 0, [], 0, false, rfl, (by rw [HN]; rfl), Own.nil_ _ _ _ _, X⟩)
    | (subst hb1
       have hr0 : rem = 0 := by omega
       subst hr0
       have HS : rdS xs = some ys := hg.stop.1 hIT
       exact ⟨_, _, ys, _, true, rfl, (by rw [HS]; exact ⟨rfl, by have := hai rfl; omega, rfl⟩), oT, X⟩)
  refine ops_cons rfl (ow_move rfl ?_)
  refine ops_skip rfl rfl rfl rfl ?_
  refine ops_skip rfl rfl rfl rfl ?_
  refine ops_skip rfl rfl rfl rfl ?_
  refine ops_cons rfl (ow_pick rfl rfl ?_)
  refine ops_nil ?_
  refine c_true rfl ?_
  refine c_seqR ?_
  refine ops_cons rfl (ow_assign rfl ?_)
  refine ops_cons rfl (ow_assign rfl ?_)
  refine ops_cons rfl (ow_assign rfl ?_)
  refine ops_nil ?_
  refine c_ret ?_
  refine tq_r ?_
  refine fin_ret3 rfl rfl rfl rfl ?_
  · skip
    first
    | (exact absurd (hb3.symm.trans hb1) (by decide))
    | (subst hb1; exact absurd ‹(!false) = false› (by decide))
    | (have HN : rdS xs = none := hg.inval (by omega) hv
       exact ⟨none, 0, [], 0, false, rfl, (by rw [HN]; rfl), Own.nil_ _ _ _ _, X⟩)
    | (have HN : rdS xs = none := hg.bad (by omega) ha1 hb3
       exact ⟨none, 0, [], 0, false, rfl, (by rw [HN]; rfl), Own.nil_ _ _ _ _, X⟩)
    | (subst hb1
       have HN : rdS xs = none := hg.2 rfl
       exact ⟨none, 0, [], 0, false, rfl, (by rw [HN]; rfl), Own.nil_ _ _ _ _, X⟩)
    | (subst hb1
       have hr0 : rem = 0 := by omega
       subst hr0
       have HN : rdS xs = none := hg.stop.2 hIT
       exact ⟨none, 0, [], 0, false, rfl, (by rw [HN]; rfl), Own.nil_ _ _ _ _, X⟩)
    | (subst hb1
       have hr0 : rem = 0 := by omega
       subst hr0
       have HS : rdS xs = some ys := hg.stop.1 hIT
       exact ⟨_, _, ys, _, true, rfl, (by rw [HS]; exact ⟨rfl, by have := hai rfl; omega, rfl⟩), oT, X⟩)
  refine c_exit ?_
  refine tq_e ?_
  refine tq_e ?_
  refine bq_e ?_
  refine tq_n ?_
  refine c_seq ?_
  refine c_seqR ?_
  refine ops_cons rfl (ow_move rfl ?_)
  subst hn
  refine ops_cons rfl (ow_nilCheck rfl ?_)
  refine ops_cons rfl (ow_fieldAddrB off166_2 rfl rfl ?_)
  refine ops_cons rfl (ow_loadB q ti4 rfl rfl ?_)
  cases hb1 : b
  refine ops_cons rfl (ow_move rfl ?_)
  refine ops_want rfl rfl rfl (ow_move rfl ?_)
  refine ops_want rfl rfl rfl (ow_callB ent165 rfl (iIsST_c _ _ _ ys _ oT.sl (by omega)) (fun w39 hIT x38 => ?_) (fun w39 hIT x38 => ?_))
  replace q := q.ext x38
  replace oT := oT.ext x38
  replace hs := hs.ext x38
  replace X := Ext.trans X x38; clear x38
  refine ops_want rfl rfl rfl (ow_not rfl ?_)
  refine ops_cons rfl (ow_pick rfl rfl ?_)
  refine ops_nil ?_
  refine c_false rfl ?_
  refine c_skip ?_
  refine tq_n ?_
  refine c_seqD [false, false, false, false, false, false, false, false] mixed (by kernel_rfl) ?_
  refine f_q rfl (fun wq sq => ow_move rfl ⟨rfl, Ext.refl _⟩) ?_
  refine f_q rfl (fun wq sq => ow_move rfl ⟨rfl, Ext.refl _⟩) ?_
  refine f_q rfl (fun wq sq => ow_nilCheck rfl ⟨rfl, Ext.refl _⟩) ?_
  refine f_q rfl (fun wq sq => ow_fieldAddrB off166_1 rfl rfl ⟨rfl, Ext.refl _⟩) ?_
  refine f_q rfl (fun wq sq => ow_loadB (q.ext sq) ti3 rfl rfl ⟨rfl, Ext.refl _⟩) ?_
  refine f_q rfl (fun wq sq => ow_assign rfl ⟨rfl, Ext.refl _⟩) ?_
  refine f_q rfl (fun wq sq => ow_assign rfl ⟨rfl, Ext.refl _⟩) ?_
  refine f_q rfl (fun wq sq => ow_assign rfl ⟨rfl, Ext.refl _⟩) ?_
  refine f_nil (fun w40 sq => ?_)
  have xq := sq
  replace q := q.ext xq
  replace oT := oT.ext xq
  replace hs := hs.ext xq
  replace X := Ext.trans X xq; clear xq sq
  refine ops_nil ?_
  refine c_ret ?_
  refine fin_ret3 rfl rfl rfl rfl ?_
  · skip
    first
    | (exact absurd (hb3.symm.trans hb1) (by decide))
    | (subst hb1; exact absurd ‹(!false) = false› (by decide))
    | (have HN : rdS xs = none := hg.inval (by omega) hv
       exact ⟨none, 0, [], 0, false, rfl, (by rw [HN]; rfl), Own.nil_ _ _ _ _, X⟩)
    | (have HN : rdS xs = none := hg.bad (by omega) ha1 hb3
       exact ⟨none, 0, [], 0, false, rfl, (by rw [HN]; rfl), Own.nil_ _ _ _ _, X⟩)
    | (subst hb1
       have HN : rdS xs = none := hg.2 rfl
       exact ⟨none, 0, [], 0, false, rfl, (by rw [HN]; rfl), Own.nil_ _ _ _ _, X⟩)
    | (subst hb1
       have hr0 : rem = 0 := by omega
       subst hr0
       have HN : rdS xs = none := hg.stop.2 hIT
       exact ⟨none, 0, [], 0, false, rfl, (by rw [HN]; rfl), Own.nil_ _ _ _ _, X⟩)
    | (subst hb1
       have hr0 : rem = 0 := by omega
       subst hr0
       have HS : rdS xs = some ys := hg.stop.1 hIT
       exact ⟨_, _, ys, _, true, rfl, (by rw [HS]; exact ⟨rfl, by have := hai rfl; omega, rfl⟩), oT, X⟩)
  replace q := q.ext x38
  replace oT := oT.ext x38
  replace hs := hs.ext x38
  replace X := Ext.trans X x38; clear x38
  refine ops_want rfl rfl rfl (ow_not rfl ?_)
  refine ops_cons rfl (ow_pick rfl rfl ?_)
  refine ops_nil ?_
  refine c_true rfl ?_
  refine c_seqR ?_
  refine ops_cons rfl (ow_assign rfl ?_)
  refine ops_cons rfl (ow_assign rfl ?_)
  refine ops_cons rfl (ow_assign rfl ?_)
  refine ops_nil ?_
  refine c_ret ?_
  refine tq_r ?_
  refine fin_ret3 rfl rfl rfl rfl ?_
  · skip
    first
    | (exact absurd (hb3.symm.trans hb1) (by decide))
    | (subst hb1; exact absurd ‹(!false) = false› (by decide))
    | (have HN : rdS xs = none := hg.inval (by omega) hv
       exact ⟨none, 0, [], 0, false, rfl, (by rw [HN]; rfl), Own.nil_ _ _ _ _, X⟩)
    | (have HN : rdS xs = none := hg.bad (by omega) ha1 hb3
       exact ⟨none, 0, [], 0, false, rfl, (by rw [HN]; rfl), Own.nil_ _ _ _ _, X⟩)
    | (subst hb1
       have HN : rdS xs = none := hg.2 rfl
       exact ⟨none, 0, [], 0, false, rfl, (by rw [HN]; rfl), Own.nil_ _ _ _ _, X⟩)
    | (subst hb1
       have hr0 : rem = 0 := by omega
       subst hr0
       have HN : rdS xs = none := hg.stop.2 hIT
       exact ⟨none, 0, [], 0, false, rfl, (by rw [HN]; rfl), Own.nil_ _ _ _ _, X⟩)
    | (subst hb1
       have hr0 : rem = 0 := by omega
       subst hr0
       have HS : rdS xs = some ys := hg.stop.1 hIT
       exact ⟨_, _, ys, _, true, rfl, (by rw [HS]; exact ⟨rfl, by have := hai rfl; omega, rfl⟩), oT, X⟩)
  refine ops_cons rfl (ow_move rfl ?_)
  refine ops_skip rfl rfl rfl rfl ?_
  refine ops_skip rfl rfl rfl rfl ?_
  refine ops_skip rfl rfl rfl rfl ?_
  refine ops_cons rfl (ow_pick rfl rfl ?_)
  refine ops_nil ?_
  refine c_true rfl ?_
  refine c_seqR ?_
  refine ops_cons rfl (ow_assign rfl ?_)
  refine ops_cons rfl (ow_assign rfl ?_)
  refine ops_cons rfl (ow_assign rfl ?_)
  refine ops_nil ?_
  refine c_ret ?_
  refine tq_r ?_
  refine fin_ret3 rfl rfl rfl rfl ?_
  · skip
    first
    | (exact absurd (hb3.symm.trans hb1) (by decide))
    | (subst hb1; exact absurd ‹(!false) = false› (by decide))
    | (have HN : rdS xs = none := hg.inval (by omega) hv
       exact ⟨none, 0, [], 0, false, rfl, (by rw [HN]; rfl), Own.nil_ _ _ _ _, X⟩)
    | (have HN : rdS xs = none := hg.bad (by omega) ha1 hb3
       exact ⟨none, 0, [], 0, false, rfl, (by rw [HN]; rfl), Own.nil_ _ _ _ _, X⟩)
    | (subst hb1
       have HN : rdS xs = none := hg.2 rfl
       exact ⟨none, 0, [], 0, false, rfl, (by rw [HN]; rfl), Own.nil_ _ _ _ _, X⟩)
    | (subst hb1
       have hr0 : rem = 0 := by omega
       subst hr0
       have HN : rdS xs = none := hg.stop.2 hIT
       exact ⟨none, 0, [], 0, false, rfl, (by rw [HN]; rfl), Own.nil_ _ _ _ _, X⟩)
    | (subst hb1
       have hr0 : rem = 0 := by omega
       subst hr0
       have HS : rdS xs = some ys := hg.stop.1 hIT
       exact ⟨_, _, ys, _, true, rfl, (by rw [HS]; exact ⟨rfl, by have := hai rfl; omega, rfl⟩), oT, X⟩)
  refine ops_cons rfl (ow_move rfl ?_)
  refine ops_skip rfl rfl rfl rfl ?_
  refine ops_skip rfl rfl rfl rfl ?_
  refine ops_skip rfl rfl rfl rfl ?_
  refine ops_skip rfl rfl rfl rfl ?_
  refine ops_skip rfl rfl rfl rfl ?_
  refine ops_cons rfl (ow_pick rfl rfl ?_)
  refine ops_nil ?_
  refine c_false rfl ?_
  refine c_exit ?_
  refine tq_e ?_
  refine tq_e ?_
  refine bq_e ?_
  refine tq_n ?_
  refine c_seq ?_
  refine c_seqR ?_
  refine ops_cons rfl (ow_move rfl ?_)
  subst hn
  refine ops_cons rfl (ow_nilCheck rfl ?_)
  refine ops_cons rfl (ow_fieldAddrB off166_2 rfl rfl ?_)
  refine ops_cons rfl (ow_loadB q ti4 rfl rfl ?_)
  cases hb1 : b
  refine ops_cons rfl (ow_move rfl ?_)
  refine ops_want rfl rfl rfl (ow_move rfl ?_)
  refine ops_want rfl rfl rfl (ow_callB ent165 rfl (iIsST_c _ _ _ ys _ oT.sl (by omega)) (fun w42 hIT x41 => ?_) (fun w42 hIT x41 => ?_))
  replace q := q.ext x41
  replace oT := oT.ext x41
  replace hs := hs.ext x41
  replace X := Ext.trans X x41; clear x41
  refine ops_want rfl rfl rfl (ow_not rfl ?_)
  refine ops_cons rfl (ow_pick rfl rfl ?_)
  refine ops_nil ?_
  refine c_false rfl ?_
  refine c_skip ?_
  refine tq_n ?_
  refine c_seqD [false, false, false, false, false, false, false, false] mixed (by kernel_rfl) ?_
  refine f_q rfl (fun wq sq => ow_move rfl ⟨rfl, Ext.refl _⟩) ?_
  refine f_q rfl (fun wq sq => ow_move rfl ⟨rfl, Ext.refl _⟩) ?_
  refine f_q rfl (fun wq sq => ow_nilCheck rfl ⟨rfl, Ext.refl _⟩) ?_
  refine f_q rfl (fun wq sq => ow_fieldAddrB off166_1 rfl rfl ⟨rfl, Ext.refl _⟩) ?_
  refine f_q rfl (fun wq sq => ow_loadB (q.ext sq) ti3 rfl rfl ⟨rfl, Ext.refl _⟩) ?_
  refine f_q rfl (fun wq sq => ow_assign rfl ⟨rfl, Ext.refl _⟩) ?_
  refine f_q rfl (fun wq sq => ow_assign rfl ⟨rfl, Ext.refl _⟩) ?_
  refine f_q rfl (fun wq sq => ow_assign rfl ⟨rfl, Ext.refl _⟩) ?_
  refine f_nil (fun w43 sq => ?_)
  have xq := sq
  replace q := q.ext xq
  replace oT := oT.ext xq
  replace hs := hs.ext xq
  replace X := Ext.trans X xq; clear xq sq
  refine ops_nil ?_
  refine c_ret ?_
  refine fin_ret3 rfl rfl rfl rfl ?_
  · skip
    first
    | (exact absurd (hb3.symm.trans hb1) (by decide))
    | (subst hb1; exact absurd ‹(!false) = false› (by decide))
    | (have HN : rdS xs = none := hg.inval (by omega) hv
       exact ⟨none, 0, [], 0, false, rfl, (by rw [HN]; rfl), Own.nil_ _ _ _ _, X⟩)
    | (have HN : rdS xs = none := hg.bad (by omega) ha1 hb3
       exact ⟨none, 0, [], 0, false, rfl, (by rw [HN]; rfl), Own.nil_ _ _ _ _, X⟩)
    | (subst hb1
       have HN : rdS xs = none := hg.2 rfl
       exact ⟨none, 0, [], 0, false, rfl, (by rw [HN]; rfl), Own.nil_ _ _ _ _, X⟩)
    | (subst hb1
       have hr0 : rem = 0 := by omega
       subst hr0
       have HN : rdS xs = none := hg.stop.2 hIT
       exact ⟨none, 0, [], 0, false, rfl, (by rw [HN]; rfl), Own.nil_ _ _ _ _, X⟩)
    | (subst hb1
       have hr0 : rem = 0 := by omega
       subst hr0
       have HS : rdS xs = some ys := hg.stop.1 hIT
       exact ⟨_, _, ys, _, true, rfl, (by rw [HS]; exact ⟨rfl, by have := hai rfl; omega, rfl⟩), oT, X⟩)
  replace q := q.ext x41
  replace oT := oT.ext x41
  replace hs := hs.ext x41
  replace X := Ext.trans X x41; clear x41
  refine ops_want rfl rfl rfl (ow_not rfl ?_)
  refine ops_cons rfl (ow_pick rfl rfl ?_)
  refine ops_nil ?_
  refine c_true rfl ?_
  refine c_seqR ?_
  refine ops_cons rfl (ow_assign rfl ?_)
  refine ops_cons rfl (ow_assign rfl ?_)
  refine ops_cons rfl (ow_assign rfl ?_)
  refine ops_nil ?_
  refine c_ret ?_
  refine tq_r ?_
  refine fin_ret3 rfl rfl rfl rfl ?_
  · skip
    first
    | (exact absurd (hb3.symm.trans hb1) (by decide))
    | (subst hb1; exact absurd ‹(!false) = false› (by decide))
    | (have HN : rdS xs = none := hg.inval (by omega) hv
       exact ⟨none, 0, [], 0, false, rfl, (by rw [HN]; rfl), Own.nil_ _ _ _ _, X⟩)
    | (have HN : rdS xs = none := hg.bad (by omega) ha1 hb3
       exact ⟨none, 0, [], 0, false, rfl, (by rw [HN]; rfl), Own.nil_ _ _ _ _, X⟩)
    | (subst hb1
       have HN : rdS xs = none := hg.2 rfl
       exact ⟨none, 0, [], 0, false, rfl, (by rw [HN]; rfl), Own.nil_ _ _ _ _, X⟩)
    | (subst hb1
       have hr0 : rem = 0 := by omega
       subst hr0
       have HN : rdS xs = none := hg.stop.2 hIT
       exact ⟨none, 0, [], 0, false, rfl, (by rw [HN]; rfl), Own.nil_ _ _ _ _, X⟩)
    | (subst hb1
       have hr0 : rem = 0 := by omega
       subst hr0
       have HS : rdS xs = some ys := hg.stop.1 hIT
       exact ⟨_, _, ys, _, true, rfl, (by rw [HS]; exact ⟨rfl, by have := hai rfl; omega, rfl⟩), oT, X⟩)
  refine ops_cons rfl (ow_move rfl ?_)
  refine ops_skip rfl rfl rfl rfl ?_
  refine ops_skip rfl rfl rfl rfl ?_
  refine ops_skip rfl rfl rfl rfl ?_
  refine ops_cons rfl (ow_pick rfl rfl ?_)
  refine ops_nil ?_
  refine c_true rfl ?_
  refine c_seqR ?_
  refine ops_cons rfl (ow_assign rfl ?_)
  refine ops_cons rfl (ow_assign rfl ?_)
  refine ops_cons rfl (ow_assign rfl ?_)
  refine ops_nil ?_
  refine c_ret ?_
  refine tq_r ?_
  refine fin_ret3 rfl rfl rfl rfl ?_
  · skip
    first
    | (exact absurd (hb3.symm.trans hb1) (by decide))
    | (subst hb1; exact absurd ‹(!false) = false› (by decide))
    | (have HN : rdS xs = none := hg.inval (by omega) hv
       exact ⟨none, 0, [], 0, false, rfl, (by rw [HN]; rfl), Own.nil_ _ _ _ _, X⟩)
    | (have HN : rdS xs = none := hg.bad (by omega) ha1 hb3
       exact ⟨none, 0, [], 0, false, rfl, (by rw [HN]; rfl), Own.nil_ _ _ _ _, X⟩)
    | (subst hb1
       have HN : rdS xs = none := hg.2 rfl
       exact ⟨none, 0, [], 0, false, rfl, (by rw [HN]; rfl), Own.nil_ _ _ _ _, X⟩)
    | (subst hb1
       have hr0 : rem = 0 := by omega
       subst hr0
       have HN : rdS xs = none := hg.stop.2 hIT
       exact ⟨none, 0, [], 0, false, rfl, (by rw [HN]; rfl), Own.nil_ _ _ _ _, X⟩)
    | (subst hb1
       have hr0 : rem = 0 := by omega
       subst hr0
       have HS : rdS xs = some ys := hg.stop.1 hIT
       exact ⟨_, _, ys, _, true, rfl, (by rw [HS]; exact ⟨rfl, by have := hai rfl; omega, rfl⟩), oT, X⟩)

theorem l12Read_c (A : Option Addr) (B c : Nat) (xs : List Int) (w : World) (hs : Sl B w A (xs.flatMap eI)) (hl : xs.length ≤ 1048576) (hB : isB xs = true) (hcap : xs.length ≤ c) :
    Calls Tryz.prog 172 #[.slice A xs.length c] w (Ret fun v w' => ∃ A' c' ys sz ok, v = .tuple #[.slice A' (List.length ys) c', .int .i64 sz, .bool ok] ∧ RdS (rdS xs) ys sz ok ∧ Own w' w.heap.size 89 8 A' ys.length c' (ys.flatMap SlotI.cells) ∧ Ext w w') := by
  have Bhs := hs.1
  have X := Ext.refl w
  refine calls_of (args := [.slice A xs.length c]) Tryz.func172 Tryz.ntmps172 rfl rfl ?_
  refine c_seqR ?_
  refine ops_cons rfl (ow_assign rfl ?_)
  refine ops_cons rfl (ow_assign rfl ?_)
  refine ops_cons rfl (ow_assign rfl ?_)
  refine ops_nil ?_
  refine c_seq ?_
  refine c_seqR ?_
  refine ops_cons rfl (ow_move rfl ?_)
  refine ops_cons rfl (ow_len Tryz.underlying30 rfl ?_)
  refine ops_cons rfl (ow_eql2 rfl rfl (fun h0 => ?_) (fun h0 => ?_))
  refine ops_cons rfl (ow_move rfl ?_)
  refine ops_skip rfl rfl rfl rfl ?_
  refine ops_skip rfl rfl rfl rfl ?_
  refine ops_skip rfl rfl rfl rfl ?_
  refine ops_skip rfl rfl rfl rfl ?_
  refine ops_skip rfl rfl rfl rfl ?_
  refine ops_skip rfl rfl rfl rfl ?_
  refine ops_skip rfl rfl rfl rfl ?_
  refine ops_skip rfl rfl rfl rfl ?_
  refine ops_cons rfl (ow_pick rfl rfl ?_)
  refine ops_nil ?_
  refine c_true rfl ?_
  refine c_seqR ?_
  refine ops_cons rfl (ow_assign rfl ?_)
  refine ops_cons rfl (ow_assign rfl ?_)
  refine ops_cons rfl (ow_assign rfl ?_)
  refine ops_nil ?_
  refine c_ret ?_
  refine tq_r ?_
  refine fin_ret3 rfl rfl rfl rfl ?_
  · skip
    first
    | (have HN : rdS xs = none := rdS_empty (by omega)
       exact ⟨none, 0, [], 0, false, rfl, (by rw [HN]; rfl), Own.nil_ _ _ _ _, X⟩)
    | (have HN : rdS xs = none := rdS_short hne (by rw [hg0]; omega)
       exact ⟨none, 0, [], 0, false, rfl, (by rw [HN]; rfl), Own.nil_ _ _ _ _, X⟩)
    | (have HN : rdS xs = none := rdS_none hne (by rw [hg, prsS_inv (by omega) hv]; rfl)
       exact ⟨none, 0, [], 0, false, rfl, (by rw [HN]; rfl), Own.nil_ _ _ _ _, X⟩)
    | (have hp : prsS xs (xs.getD 0 0).toNat 1 = some ys := by rw [hg, show z0.toNat - k = 0 by omega]; simp [prsS]
       refine ⟨_, _, ys, _, _, rfl, ?_, oT, X⟩
       cases hT : isST ys
       · rw [rdS_not hne hp hT]; rfl
       · rw [rdS_some hne hp hT]; exact ⟨rfl, by omega, rfl⟩)
  obtain ⟨z0, h00, _⟩ := drop_at (xs := xs) (k := 0) (by omega)
  have hz0 := isB_at hB h00
  have hne : xs.length ≠ 0 := by omega
  have hg0 := get_D0 h00
  refine ops_cons rfl (ow_move rfl ?_)
  refine ops_want rfl rfl rfl (ow_move rfl ?_)
  refine ops_want rfl rfl rfl (ow_indexT hs eI_len rfl el30 rfl rfl rfl h00 rfl ?_)
  refine ops_want rfl rfl rfl (ow_loadT hs eI_len h00 ti2 rfl rfl rfl ?_)
  refine ops_want rfl rfl rfl (ow_mul rfl rfl (w64 (by omega)) ?_)
  refine ops_want rfl rfl rfl (ow_add rfl rfl (w64 (by omega)) ?_)
  refine ops_want rfl rfl rfl (ow_move rfl ?_)
  refine ops_want rfl rfl rfl (ow_len Tryz.underlying30 rfl ?_)
  refine ops_want rfl rfl rfl (ow_gtr2 rfl rfl (fun hsh => ?_) (fun hsh => ?_))
  refine ops_cons rfl (ow_pick rfl rfl ?_)
  refine ops_nil ?_
  refine c_true rfl ?_
  refine c_seqR ?_
  refine ops_cons rfl (ow_assign rfl ?_)
  refine ops_cons rfl (ow_assign rfl ?_)
  refine ops_cons rfl (ow_assign rfl ?_)
  refine ops_nil ?_
  refine c_ret ?_
  refine tq_r ?_
  refine fin_ret3 rfl rfl rfl rfl ?_
  · skip
    first
    | (have HN : rdS xs = none := rdS_empty (by omega)
       exact ⟨none, 0, [], 0, false, rfl, (by rw [HN]; rfl), Own.nil_ _ _ _ _, X⟩)
    | (have HN : rdS xs = none := rdS_short hne (by rw [hg0]; omega)
       exact ⟨none, 0, [], 0, false, rfl, (by rw [HN]; rfl), Own.nil_ _ _ _ _, X⟩)
    | (have HN : rdS xs = none := rdS_none hne (by rw [hg, prsS_inv (by omega) hv]; rfl)
       exact ⟨none, 0, [], 0, false, rfl, (by rw [HN]; rfl), Own.nil_ _ _ _ _, X⟩)
    | (have hp : prsS xs (xs.getD 0 0).toNat 1 = some ys := by rw [hg, show z0.toNat - k = 0 by omega]; simp [prsS]
       refine ⟨_, _, ys, _, _, rfl, ?_, oT, X⟩
       cases hT : isST ys
       · rw [rdS_not hne hp hT]; rfl
       · rw [rdS_some hne hp hT]; exact ⟨rfl, by omega, rfl⟩)
  refine ops_cons rfl (ow_pick rfl rfl ?_)
  refine ops_nil ?_
  refine c_false rfl ?_
  refine c_skip ?_
  refine tq_n ?_
  refine c_seqR ?_
  refine ops_cons rfl (ow_buildSlice el26 ti89 rfl rfl rfl rfl rfl ?_)
  intro gO w2 egO oT bbgO x1 zgO
  replace oT := Own.low oT X.size
  replace hs := hs.ext x1
  replace X := Ext.trans X x1; clear x1
  refine ops_cons rfl (ow_assign rfl ?_)
  refine ops_nil ?_
  refine c_seq ?_
  refine c_seqR ?_
  refine ops_cons rfl (ow_assign rfl ?_)
  refine ops_nil ?_
  refine c_block ?_
  refine c_loop (G := Nat × List SlotI × Nat × Option Addr × Nat) (fun ⟨k, ys, n1, A1, c1⟩ => [(0, .slice A xs.length c), (6, .int .i64 ((1 + 7 * k : Nat) : Int)), (5, .slice A1 n1 c1)]) (fun ⟨k, ys, n1, A1, c1⟩ wr => (k : Int) ≤ z0 ∧ n1 = ys.length ∧ n1 = k ∧ prsS xs (xs.getD 0 0).toNat 1 = (prsS xs (z0.toNat - k) (1 + 7 * k)).map (fun r => ys ++ r) ∧ Own wr w.heap.size 89 8 A1 n1 c1 (ys.flatMap SlotI.cells) ∧ Sl B wr A (xs.flatMap eI) ∧ Ext w wr) (fun ⟨k, ys, n1, A1, c1⟩ => z0.toNat - k) (0, [], 0, some ⟨gO, 0, none⟩, 0) (.cons rfl (.cons rfl (.cons rfl (.nil _)))) ?_ ?_
  · exact ⟨by omega, rfl, rfl, (by rw [hg0]; cases prsS xs z0.toNat 1 <;> simp), oT, hs, X⟩
  clear hs oT
  clear X
  rintro ⟨k, ys, n1, A1, c1⟩ wr ⟨hk0, hn, hnk, hg, oT, hs, X⟩
  refine c_seq ?_
  refine c_seqR ?_
  refine ops_cons rfl (ow_move rfl ?_)
  refine ops_cons rfl (ow_move rfl ?_)
  refine ops_cons rfl (ow_indexT hs eI_len rfl el30 rfl rfl rfl h00 rfl ?_)
  refine ops_cons rfl (ow_loadT hs eI_len h00 ti2 rfl rfl rfl ?_)
  refine ops_cons rfl (ow_mul rfl rfl (w64 (by omega)) ?_)
  refine ops_cons rfl (ow_add rfl rfl (w64 (by omega)) ?_)
  refine ops_cons rfl (ow_lss2 rfl rfl (fun hk => ?_) (fun hk => ?_))
  refine ops_nil ?_
  refine c_true rfl ?_
  refine c_skip ?_
  refine tq_n ?_
  refine c_seq ?_
  refine c_block ?_
  refine c_seqR ?_
  refine ops_cons rfl (ow_move rfl ?_)
  refine ops_cons rfl (ow_move rfl ?_)
  refine ops_cons rfl (ow_add rfl rfl (w64 (by omega)) ?_)
  refine ops_cons rfl (ow_move rfl ?_)
  refine ops_cons rfl (ow_add rfl rfl (w64 (by omega)) ?_)
  refine ops_cons rfl (ow_sliceLH el30 hs eI_len rfl rfl rfl (show _ = ((1 + 7 * k + 2 : Nat) : Int) by omega) (show _ = ((1 + 7 * k + 7 : Nat) : Int) by omega) (by omega) (by omega) ?_)
  intro Ap pS
  refine ops_cons rfl (ow_call ent241 rfl (ret_mono (l08From_n Ap B _ _ (xs.getD ((1 + 7 * k) + 2) 0) (xs.getD ((1 + 7 * k) + 2 + 1) 0) (xs.getD ((1 + 7 * k) + 2 + 2) 0) (xs.getD ((1 + 7 * k) + 2 + 3) 0) (xs.getD ((1 + 7 * k) + 2 + 4) 0) _ (by have h := pS; rw [show 1 + 7 * k + 7 - (1 + 7 * k + 2) = 5 by omega, five_eq (by omega)] at h; exact h) (gB hB _) (gB hB _) (gB hB _) (gB hB _) (gB hB _) (by omega)) ?_))
  rintro _ w4 ⟨rfl, x3⟩
  replace oT := oT.ext x3
  replace hs := hs.ext x3
  replace pS := pS.ext x3
  replace X := Ext.trans X x3; clear x3
  clear pS
  refine ops_cons rfl (ow_move rfl ?_)
  refine ops_cons rfl (ow_extract rfl rfl ?_)
  refine ops_cons rfl (ow_extract rfl rfl ?_)
  refine ops_cons rfl (ow_alloc ti67 ?_)
  intro gD w6 egD bD x5 zgD
  have lgD : w.heap.size ≤ gD := Nat.le_trans X.size (Nat.le_of_eq egD.symm)
  have pgDhs := Nat.le_trans hs.1 (Nat.le_of_eq egD.symm)
  replace oT := oT.ext x5
  replace hs := hs.ext x5
  replace X := Ext.trans X x5; clear x5
  refine ops_cons rfl (ow_storeB bD ti67 rfl rfl rfl rfl rfl rfl ?_)
  intro w9 bE hg7 z10
  replace oT := oT.grownBlk hg7 (Own.neT oT bD (by decide))
  replace hs := hs.grown hg7 (by intro g hg; injection hg; omega)
  replace X := X.grown hg7 X.size (by intro g hg; injection hg; omega)
  clear hg7 bD
  refine ops_cons rfl (ow_assign rfl ?_)
  cases hv : (descV (xs.getD ((1 + 7 * k) + 2) 0) (xs.getD ((1 + 7 * k) + 2 + 1) 0) (xs.getD ((1 + 7 * k) + 2 + 2) 0) (xs.getD ((1 + 7 * k) + 2 + 3) 0) (xs.getD ((1 + 7 * k) + 2 + 4) 0))
  refine ops_nil ?_
  refine c_seq ?_
  refine c_seqR ?_
  refine ops_cons rfl (ow_move rfl ?_)
  refine ops_cons rfl (ow_not rfl ?_)
  refine ops_nil ?_
  refine c_true rfl ?_
  refine c_seqR ?_
  refine ops_cons rfl (ow_assign rfl ?_)
  refine ops_cons rfl (ow_assign rfl ?_)
  refine ops_cons rfl (ow_assign rfl ?_)
  refine ops_nil ?_
  refine c_ret ?_
  refine tq_r ?_
  refine bq_r ?_
  refine tq_r ?_
  refine tq_r ?_
  refine bq_r ?_
  refine tq_r ?_
  refine fin_ret3 rfl rfl rfl rfl ?_
  · skip
    first
    | (have HN : rdS xs = none := rdS_empty (by omega)
       exact ⟨none, 0, [], 0, false, rfl, (by rw [HN]; rfl), Own.nil_ _ _ _ _, X⟩)
    | (have HN : rdS xs = none := rdS_short hne (by rw [hg0]; omega)
       exact ⟨none, 0, [], 0, false, rfl, (by rw [HN]; rfl), Own.nil_ _ _ _ _, X⟩)
    | (have HN : rdS xs = none := rdS_none hne (by rw [hg, prsS_inv (by omega) hv]; rfl)
       exact ⟨none, 0, [], 0, false, rfl, (by rw [HN]; rfl), Own.nil_ _ _ _ _, X⟩)
    | (have hp : prsS xs (xs.getD 0 0).toNat 1 = some ys := by rw [hg, show z0.toNat - k = 0 by omega]; simp [prsS]
       refine ⟨_, _, ys, _, _, rfl, ?_, oT, X⟩
       cases hT : isST ys
       · rw [rdS_not hne hp hT]; rfl
       · rw [rdS_some hne hp hT]; exact ⟨rfl, by omega, rfl⟩)
  refine ops_nil ?_
  refine c_seq ?_
  refine c_seqR ?_
  refine ops_cons rfl (ow_move rfl ?_)
  refine ops_cons rfl (ow_not rfl ?_)
  refine ops_nil ?_
  refine c_false rfl ?_
  refine c_skip ?_
  refine tq_n ?_
  refine c_draw [false, false, false, false, false, false, false, false, false, false, false, false, false, false, false, false, false, false, true] mixed (by kernel_rfl) ?_
  obtain ⟨xa, hxa, _⟩ := drop_at (xs := xs) (k := 1 + 7 * k) (by omega)
  obtain ⟨xb, hxb, _⟩ := drop_at (xs := xs) (k := 1 + 7 * k + 1) (by omega)
  have hxab := isB_at hB hxa
  refine f_q rfl (fun wq sq => ow_move rfl ⟨rfl, Ext.refl _⟩) ?_
  refine f_q rfl (fun wq sq => ow_move rfl ⟨rfl, Ext.refl _⟩) ?_
  refine f_q rfl (fun wq sq => ow_move rfl ⟨rfl, Ext.refl _⟩) ?_
  refine f_q rfl (fun wq sq => ow_indexT (hs.ext sq) eI_len rfl el30 rfl rfl rfl hxa rfl ⟨rfl, Ext.refl _⟩) ?_
  refine f_q rfl (fun wq sq => ow_loadT (hs.ext sq) eI_len hxa ti2 rfl rfl rfl ⟨rfl, Ext.refl _⟩) ?_
  refine f_q rfl (fun wq sq => ow_quo rfl rfl (by omega) (q64 (by omega)) ⟨rfl, Ext.refl _⟩) ?_
  refine f_q rfl (fun wq sq => ow_move rfl ⟨rfl, Ext.refl _⟩) ?_
  refine f_q rfl (fun wq sq => ow_move rfl ⟨rfl, Ext.refl _⟩) ?_
  refine f_q rfl (fun wq sq => ow_indexT (hs.ext sq) eI_len rfl el30 rfl rfl rfl hxa rfl ⟨rfl, Ext.refl _⟩) ?_
  refine f_q rfl (fun wq sq => ow_loadT (hs.ext sq) eI_len hxa ti2 rfl rfl rfl ⟨rfl, Ext.refl _⟩) ?_
  refine f_q rfl (fun wq sq => ow_rem rfl rfl (by omega) (m64 (by omega)) ⟨rfl, Ext.refl _⟩) ?_
  refine f_q rfl (fun wq sq => ow_move rfl ⟨rfl, Ext.refl _⟩) ?_
  refine f_q rfl (fun wq sq => ow_move rfl ⟨rfl, Ext.refl _⟩) ?_
  refine f_q rfl (fun wq sq => ow_add rfl rfl (w64 (by omega)) ⟨rfl, Ext.refl _⟩) ?_
  refine f_q rfl (fun wq sq => ow_indexT (hs.ext sq) eI_len rfl el30 rfl rfl rfl hxb (by omega) ⟨rfl, Ext.refl _⟩) ?_
  refine f_q rfl (fun wq sq => ow_loadT (hs.ext sq) eI_len hxb ti2 rfl rfl rfl ⟨rfl, Ext.refl _⟩) ?_
  refine f_q rfl (fun wq sq => ow_loadAB (bE.ext sq) ti67 rfl rfl ⟨rfl, Ext.refl _⟩) ?_
  refine f_q rfl (fun wq sq => ow_buildP pl89 ti89 rfl rfl ⟨rfl, Ext.refl _⟩) ?_
  refine f_op (fun g11 : Nat => Value.slice (some ⟨g11, 0, none⟩) 1 1) (fun g11 wz => Own wz w.heap.size 89 8 (some ⟨g11, 0, none⟩) 1 1 (SlotI.cells ⟨xa / 16, xa % 16, xb, dAt xs (1 + 7 * k + 2)⟩)) 0 rfl ⟨inj_own, fun _ _ _ h k => h.ext k, fun wq sq => ow_buildSlice el26 ti89 rfl rfl rfl rfl rfl (fun g w' hg ho hb hx hz => ⟨g, rfl, Own.low ho (Nat.le_trans X.size (sq).size), hx⟩)⟩ ?_
  intro g11
  refine f_nil (fun w12 sq => ?_)
  have xq := sq.1
  have oV := sq.2
  replace oT := oT.ext xq
  replace hs := hs.ext xq
  replace bE := bE.ext xq
  replace X := Ext.trans X xq; clear xq sq
  have eY : ((⟨xa / 16, xa % 16, xb, dAt xs (1 + 7 * k + 2)⟩) : SlotI) = slotE xs (1 + 7 * k) := by rw [slotE, get_D0 hxa, get_D0 hxb]
  refine ops_cons rfl (ow_append (ts := #[]) oT X.size oV.sl (by first | rfl | simp) (by first | exact List.all_eq_true.1 rfl | simp [Value.oneCell']) el26 ti89 rfl rfl rfl rfl (by omega) (by omega) ?_)
  intro AoU coU w14 oU hg13
  replace hs := hs.grown hg13 (fun g hg => Nat.le_trans Bhs (Own.lt oT hg).1)
  replace bE := bE.grown hg13 (fun h => Own.neT oT bE (by decide) h.symm)
  replace X := X.grown hg13 X.size (fun g hg => (Own.lt oT hg).1)
  clear hg13
  refine ops_cons rfl (ow_assign rfl ?_)
  refine ops_nil ?_
  refine bq_n ?_
  refine tq_n ?_
  refine c_region ?_
  refine ops_cons rfl (ow_move rfl ?_)
  refine ops_cons rfl (ow_add rfl rfl (w64 (by omega)) ?_)
  refine ops_cons rfl (ow_assign rfl ?_)
  refine ops_nil ?_
  refine tq_n ⟨(k + 1, ys ++ [⟨xa / 16, xa % 16, xb, dAt xs (1 + 7 * k + 2)⟩], n1 + 1, AoU, coU), (.cons rfl (.cons rfl (.cons rfl (.nil _)))), ?_, ?_⟩
  · exact ⟨by omega, (by simp [hn]), (by omega), (by rw [hg, prsS_step (by omega) (by omega) hv, eY, show z0.toNat - k - 1 = z0.toNat - (k + 1) by omega, show 1 + 7 * k + 7 = 1 + 7 * (k + 1) by omega]; cases prsS xs (z0.toNat - (k + 1)) (1 + 7 * (k + 1)) <;> simp), oU.to (snoc SlotI.cells ys ⟨xa / 16, xa % 16, xb, dAt xs (1 + 7 * k + 2)⟩).symm, hs, X⟩
  · first | omega | (dsimp only; omega)
  refine ops_nil ?_
  refine c_false rfl ?_
  refine c_exit ?_
  refine tq_e ?_
  refine tq_e ?_
  refine bq_e ?_
  refine tq_n ?_
  refine c_seqD [false, false, false, false, false, false, false, false, false, false, false] mixed (by kernel_rfl) ?_
  subst hn
  refine f_q rfl (fun wq sq => ow_move rfl ⟨rfl, Ext.refl _⟩) ?_
  refine f_q rfl (fun wq sq => ow_move rfl ⟨rfl, Ext.refl _⟩) ?_
  refine f_q rfl (fun wq sq => ow_indexT (hs.ext sq) eI_len rfl el30 rfl rfl rfl h00 rfl ⟨rfl, Ext.refl _⟩) ?_
  refine f_q rfl (fun wq sq => ow_loadT (hs.ext sq) eI_len h00 ti2 rfl rfl rfl ⟨rfl, Ext.refl _⟩) ?_
  refine f_q rfl (fun wq sq => ow_mul rfl rfl (w64 (by omega)) ⟨rfl, Ext.refl _⟩) ?_
  refine f_q rfl (fun wq sq => ow_add rfl rfl (w64 (by omega)) ⟨rfl, Ext.refl _⟩) ?_
  refine f_q rfl (fun wq sq => ow_move rfl ⟨rfl, Ext.refl _⟩) ?_
  refine f_q rfl (fun wq sq => ow_call ent226 rfl (sIsST_c _ _ _ ys _ (oT.ext sq).sl (by omega))) ?_
  refine f_q rfl (fun wq sq => ow_assign rfl ⟨rfl, Ext.refl _⟩) ?_
  refine f_q rfl (fun wq sq => ow_assign rfl ⟨rfl, Ext.refl _⟩) ?_
  refine f_q rfl (fun wq sq => ow_assign rfl ⟨rfl, Ext.refl _⟩) ?_
  refine f_nil (fun w15 sq => ?_)
  have xq := sq
  replace oT := oT.ext xq
  replace hs := hs.ext xq
  replace X := Ext.trans X xq; clear xq sq
  refine ops_nil ?_
  refine c_ret ?_
  refine fin_ret3 rfl rfl rfl rfl ?_
  · skip
    first
    | (have HN : rdS xs = none := rdS_empty (by omega)
       exact ⟨none, 0, [], 0, false, rfl, (by rw [HN]; rfl), Own.nil_ _ _ _ _, X⟩)
    | (have HN : rdS xs = none := rdS_short hne (by rw [hg0]; omega)
       exact ⟨none, 0, [], 0, false, rfl, (by rw [HN]; rfl), Own.nil_ _ _ _ _, X⟩)
    | (have HN : rdS xs = none := rdS_none hne (by rw [hg, prsS_inv (by omega) hv]; rfl)
       exact ⟨none, 0, [], 0, false, rfl, (by rw [HN]; rfl), Own.nil_ _ _ _ _, X⟩)
    | (have hp : prsS xs (xs.getD 0 0).toNat 1 = some ys := by rw [hg, show z0.toNat - k = 0 by omega]; simp [prsS]
       refine ⟨_, _, ys, _, _, rfl, ?_, oT, X⟩
       cases hT : isST ys
       · rw [rdS_not hne hp hT]; rfl
       · rw [rdS_some hne hp hT]; exact ⟨rfl, by omega, rfl⟩)
end Go.Proofs.YtdoibplhbdkapaaGreatDoor
