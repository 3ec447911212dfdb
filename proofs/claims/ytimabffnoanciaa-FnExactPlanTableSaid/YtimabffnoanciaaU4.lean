/- Copies, comparisons and marks of bookings. No condition. -/
import Derived.Test.YtimabffnoanciaaU1
import Derived.Test.YtimabffnoanciaaMod15
import Derived.Test.YtimabffnoanciaaFlowH
namespace Go.Proofs.Ytimabffnoanciaa
open Go.RowKit
set_option linter.unusedVariables false
set_option linter.unusedSimpArgs false
set_option maxRecDepth 20000
def mkDem (a : Int) : Dem := (⟨a, a + 1, a + 1 + 1⟩ : Dem)
def mkBk (a : Int) : Bk := (⟨a, a + 1⟩ : Bk)
theorem szBk_c (A : Option Addr) (c : Nat) (xs : List Bk) (w : World) (hl : xs.length ≤ 9223372036854775807) :
    Calls Try.prog 34 #[.slice A xs.length c, .int .i64 1048576] w (Ret fun v w' => v = .int .i64 (if 1048576 - (xs.length : Int) < 0 then -1 else 1048576 - (xs.length : Int)) ∧ Ext w w') := by
  have X := Ext.refl w
  refine calls_of (args := [.slice A xs.length c, .int .i64 1048576]) Try.func34 Try.ntmps34 rfl rfl ?_
  refine c_seqR ?_
  refine ops_cons rfl (ow_assign rfl ?_)
  refine ops_nil ?_
  refine c_seqR ?_
  refine ops_cons rfl (ow_move rfl ?_)
  refine ops_cons rfl (ow_move rfl ?_)
  refine ops_cons rfl (ow_len Try.underlying48 rfl ?_)
  refine ops_cons rfl (ow_sub rfl rfl (w64 (by omega)) ?_)
  refine ops_cons rfl (ow_assign rfl ?_)
  refine ops_nil ?_
  refine c_seq ?_
  refine c_seqR ?_
  refine ops_cons rfl (ow_move rfl ?_)
  refine ops_cons rfl (ow_lss2 rfl rfl (fun h1 => ?_) (fun h1 => ?_))
  · skip
    refine ops_nil ?_
    refine c_true rfl ?_
    refine c_seqR ?_
    refine ops_cons rfl (ow_assign rfl ?_)
    refine ops_nil ?_
    refine c_ret ?_
    refine tq_r ?_
    refine fin_ret1 rfl rfl ?_
    exact ⟨by first | rw [if_pos ‹_›] | rw [if_neg ‹_›], X⟩
  · skip
    refine ops_nil ?_
    refine c_false rfl ?_
    refine c_skip ?_
    refine tq_n ?_
    refine c_seqR ?_
    refine ops_cons rfl (ow_move rfl ?_)
    refine ops_cons rfl (ow_assign rfl ?_)
    refine ops_nil ?_
    refine c_ret ?_
    refine fin_ret1 rfl rfl ?_
    exact ⟨by first | rw [if_pos ‹_›] | rw [if_neg ‹_›], X⟩

theorem toBk_c (d : Bk) (w : World)  :
    Calls Try.prog 85 #[.agg d.cells.toArray] w (Ret fun v w' => v = .agg d.cells.toArray ∧ Ext w w') := by
  have X := Ext.refl w
  refine calls_of (args := [.agg d.cells.toArray]) Try.func85 Try.ntmps85 rfl rfl ?_
  refine c_seqR ?_
  refine ops_cons rfl (ow_box rfl rfl ?_)
  intro g4 w3 eg4 b1 x2 zg4
  have lg4 : w.heap.size ≤ g4 := Nat.le_trans X.size (Nat.le_of_eq eg4.symm)
  replace X := Ext.trans X x2; clear x2
  refine ops_cons rfl (ow_alloc ti102 ?_)
  intro g8 w7 eg8 b5 x6 zg8
  have lg8 : w.heap.size ≤ g8 := Nat.le_trans X.size (Nat.le_of_eq eg8.symm)
  have ng8b1 := Nat.lt_of_lt_of_eq b1.lt eg8.symm
  replace b1 := b1.ext x6
  replace X := Ext.trans X x6; clear x6
  refine ops_nil ?_
  refine c_seqR ?_
  refine ops_cons rfl (ow_alloc ti102 ?_)
  intro g12 w11 eg12 b9 x10 zg12
  have lg12 : w.heap.size ≤ g12 := Nat.le_trans X.size (Nat.le_of_eq eg12.symm)
  have ng12b1 := Nat.lt_of_lt_of_eq b1.lt eg12.symm
  have ng12b5 := Nat.lt_of_lt_of_eq b5.lt eg12.symm
  replace b1 := b1.ext x10
  replace b5 := b5.ext x10
  replace X := Ext.trans X x10; clear x10
  refine ops_nil ?_
  refine c_seqR ?_
  refine ops_cons rfl (ow_fieldAddrB off104_0 rfl rfl ?_)
  refine ops_cons rfl (ow_loadB b1 ti2 rfl rfl ?_)
  refine ops_cons rfl (ow_fieldAddrB off102_0 rfl rfl ?_)
  refine ops_cons rfl (ow_storeB b9 ti2 rfl rfl rfl rfl rfl rfl ?_)
  intro w14 b16 hg13 z15
  replace b1 := b1.grown hg13 (by intro h; injection h; omega)
  replace b5 := b5.grown hg13 (by intro h; injection h; omega)
  replace X := X.grown hg13 X.size (by intro g hg; injection hg; omega)
  clear hg13 b9
  refine ops_nil ?_
  refine c_seqR ?_
  refine ops_cons rfl (ow_fieldAddrB off104_1 rfl rfl ?_)
  refine ops_cons rfl (ow_loadB b1 ti2 rfl rfl ?_)
  refine ops_cons rfl (ow_fieldAddrB off102_1 rfl rfl ?_)
  refine ops_cons rfl (ow_storeB b16 ti2 rfl rfl rfl rfl rfl rfl ?_)
  intro w18 b20 hg17 z19
  replace b1 := b1.grown hg17 (by intro h; injection h; omega)
  replace b5 := b5.grown hg17 (by intro h; injection h; omega)
  replace X := X.grown hg17 X.size (by intro g hg; injection hg; omega)
  clear hg17 b16
  refine ops_nil ?_
  refine c_seqR ?_
  refine ops_cons rfl (ow_loadAB b20 ti102 rfl rfl ?_)
  refine ops_cons rfl (ow_storeB b5 ti102 rfl rfl rfl rfl rfl rfl ?_)
  intro w22 b24 hg21 z23
  replace b1 := b1.grown hg21 (by intro h; injection h; omega)
  replace b20 := b20.grown hg21 (by intro h; injection h; omega)
  replace X := X.grown hg21 X.size (by intro g hg; injection hg; omega)
  clear hg21 b5
  refine ops_nil ?_
  refine c_ret ?_
  refine fin_cell1 rfl rfl b24 ti102 rfl ?_
  exact ⟨by rfl, X⟩

theorem toBkS_c (A : Option Addr) (B c : Nat) (xs : List Bk) (w : World) (hs : Sl B w A (xs.flatMap Bk.cells)) (hl : xs.length ≤ 1048576) :
    Calls Try.prog 36 #[.slice A xs.length c] w (Ret fun v w' => ∃ A' c', v = .slice A' xs.length c' ∧ Own w' w.heap.size 102 2 A' xs.length c' (xs.flatMap Bk.cells) ∧ Ext w w') := by
  have Bhs := hs.1
  have X := Ext.refl w
  refine calls_of (args := [.slice A xs.length c]) Try.func36 Try.ntmps36 rfl rfl ?_
  refine c_seqR ?_
  refine ops_cons rfl (ow_assign rfl ?_)
  refine ops_nil ?_
  refine c_seqR ?_
  refine ops_cons rfl (ow_move rfl ?_)
  refine ops_cons rfl (ow_len Try.underlying48 rfl ?_)
  refine ops_cons rfl (ow_make el45 ti102 rfl rfl rfl rfl rfl rfl (by omega) (by omega) ?_)
  intro gO w2 egO oO x1
  replace oO := Own.low oO X.size
  replace hs := hs.ext x1
  replace X := Ext.trans X x1; clear x1
  replace oO := oO.to (cs' := (xs.take 0 ++ List.replicate (xs.length - 0) (⟨0, 0⟩ : Bk)).flatMap Bk.cells) (by rw [List.take_zero, List.nil_append, Nat.sub_zero, ← repL_flat]; rfl)
  refine ops_cons rfl (ow_assign rfl ?_)
  refine ops_nil ?_
  refine c_seq ?_
  refine c_seqR ?_
  refine ops_cons rfl (ow_assign rfl ?_)
  refine ops_nil ?_
  refine c_block ?_
  refine c_loop (G := Nat) (fun k => [(0, .slice A xs.length c), (3, .slice (some ⟨gO, 0, none⟩) xs.length xs.length), (4, .int .i64 (k : Nat))]) (fun k wr => k ≤ xs.length ∧ Sl B wr A (xs.flatMap Bk.cells) ∧ Own wr w.heap.size 102 2 (some ⟨gO, 0, none⟩) xs.length xs.length ((xs.take k ++ List.replicate (xs.length - k) (⟨0, 0⟩ : Bk)).flatMap Bk.cells) ∧ Ext w wr) (fun k => xs.length - k) 0 (.cons rfl (.cons rfl (.cons rfl (.nil _)))) ?_ ?_
  · exact ⟨by omega, hs, oO, X⟩
  clear hs oO
  clear X
  rintro k wr ⟨hk0, hs, oO, X⟩
  refine c_seq ?_
  refine c_seqR ?_
  refine ops_cons rfl (ow_move rfl ?_)
  refine ops_cons rfl (ow_move rfl ?_)
  refine ops_cons rfl (ow_len Try.underlying48 rfl ?_)
  refine ops_cons rfl (ow_lss2 rfl rfl (fun hk => ?_) (fun hk => ?_))
  · skip
    obtain ⟨x, hx, dx⟩ := drop_at' hk
    refine ops_nil ?_
    refine c_true rfl ?_
    refine c_skip ?_
    refine tq_n ?_
    refine c_seq ?_
    refine c_block ?_
    refine c_region ?_
    refine ops_cons rfl (ow_move rfl ?_)
    refine ops_cons rfl (ow_move rfl ?_)
    refine ops_cons rfl (ow_move rfl ?_)
    refine ops_cons rfl (ow_move rfl ?_)
    refine ops_cons rfl (ow_indexT hs Bk.len rfl el48 rfl rfl rfl hx rfl ?_)
    refine ops_cons rfl (ow_loadTA hs Bk.len hx ti104 rfl ?_)
    refine ops_cons rfl (ow_call ent85 rfl (ret_mono (toBk_c _ _) ?_))
    rintro _ w4 ⟨rfl, x3⟩
    replace hs := hs.ext x3
    replace oO := oO.ext x3
    replace X := Ext.trans X x3; clear x3
    refine ops_cons rfl (ow_indexT (oO).sl Bk.len rfl el45 rfl (by simp <;> omega) rfl (at_fill (by omega)) rfl ?_)
    refine ops_cons rfl (ow_storeR oO ti102 rfl rfl rfl rfl (by omega) (by omega) rfl ?_)
    intro w6 oN hg5 z7
    replace hs := hs.grown hg5 (fun g hg => Nat.le_trans Bhs (Own.lt oO hg).1)
    replace X := X.grown hg5 X.size (fun g hg => (Own.lt oO hg).1)
    clear hg5 z7
    replace oN := oN.to (cs' := (xs.take (k + 1) ++ List.replicate (xs.length - (k + 1)) (⟨0, 0⟩ : Bk)).flatMap Bk.cells) (by rw [← set_fill hx, ← set_flat Bk.len x _ k (by simp <;> omega)]; try rfl)
    refine ops_nil ?_
    refine bq_n ?_
    refine tq_n ?_
    refine c_region ?_
    refine ops_cons rfl (ow_move rfl ?_)
    refine ops_cons rfl (ow_add rfl rfl (w64 (by omega)) ?_)
    refine ops_cons rfl (ow_assign rfl ?_)
    refine ops_nil ?_
    refine tq_n ⟨k + 1, (.cons rfl (.cons rfl (.cons rfl (.nil _)))), ?_, ?_⟩
    · exact ⟨by omega, hs, oN, X⟩
    · omega
  · skip
    rw [end_fill hk] at oO
    refine ops_nil ?_
    refine c_false rfl ?_
    refine c_exit ?_
    refine tq_e ?_
    refine tq_e ?_
    refine bq_e ?_
    refine tq_n ?_
    refine c_seqR ?_
    refine ops_cons rfl (ow_move rfl ?_)
    refine ops_cons rfl (ow_assign rfl ?_)
    refine ops_nil ?_
    refine c_ret ?_
    refine fin_ret1 rfl rfl ?_
    exact ⟨_, _, rfl, oO, X⟩

theorem eqBk_c (d : Bk) (w : World)  :
    Calls Try.prog 87 #[.agg d.cells.toArray, .agg d.cells.toArray] w (Ret fun v w' => v = .bool true ∧ Ext w w') := by
  have X := Ext.refl w
  refine calls_of (args := [.agg d.cells.toArray, .agg d.cells.toArray]) Try.func87 Try.ntmps87 rfl rfl ?_
  refine c_seqR ?_
  refine ops_cons rfl (ow_box rfl rfl ?_)
  intro g4 w3 eg4 b1 x2 zg4
  have lg4 : w.heap.size ≤ g4 := Nat.le_trans X.size (Nat.le_of_eq eg4.symm)
  replace X := Ext.trans X x2; clear x2
  refine ops_cons rfl (ow_box rfl rfl ?_)
  intro g8 w7 eg8 b5 x6 zg8
  have lg8 : w.heap.size ≤ g8 := Nat.le_trans X.size (Nat.le_of_eq eg8.symm)
  have ng8b1 := Nat.lt_of_lt_of_eq b1.lt eg8.symm
  replace b1 := b1.ext x6
  replace X := Ext.trans X x6; clear x6
  refine ops_cons rfl (ow_assign rfl ?_)
  refine ops_nil ?_
  refine c_seq ?_
  refine c_seqR ?_
  refine ops_cons rfl (ow_fieldAddrB off102_0 rfl rfl ?_)
  refine ops_cons rfl (ow_loadB b1 ti2 rfl rfl ?_)
  refine ops_cons rfl (ow_fieldAddrB off102_0 rfl rfl ?_)
  refine ops_cons rfl (ow_loadB b5 ti2 rfl rfl ?_)
  refine ops_cons rfl (ow_neq2 rfl rfl (fun h9 => absurd h9 (by simp)) (fun h9 => ?_))
  refine ops_nil ?_
  refine c_false rfl ?_
  refine c_skip ?_
  refine tq_n ?_
  refine c_seq ?_
  refine c_seqR ?_
  refine ops_cons rfl (ow_fieldAddrB off102_1 rfl rfl ?_)
  refine ops_cons rfl (ow_loadB b1 ti2 rfl rfl ?_)
  refine ops_cons rfl (ow_fieldAddrB off102_1 rfl rfl ?_)
  refine ops_cons rfl (ow_loadB b5 ti2 rfl rfl ?_)
  refine ops_cons rfl (ow_neq2 rfl rfl (fun h10 => absurd h10 (by simp)) (fun h10 => ?_))
  refine ops_nil ?_
  refine c_false rfl ?_
  refine c_skip ?_
  refine tq_n ?_
  refine c_seqR ?_
  refine ops_cons rfl (ow_assign rfl ?_)
  refine ops_nil ?_
  refine c_ret ?_
  refine fin_ret1 rfl rfl ?_
  exact ⟨by rfl, X⟩

theorem eqBkS_c (A A' : Option Addr) (B B' c c' : Nat) (xs : List Bk) (w : World) (hs : Sl B w A (xs.flatMap Bk.cells)) (ht : Sl B' w A' (xs.flatMap Bk.cells)) (hl : xs.length ≤ 1048576) :
    Calls Try.prog 38 #[.slice A xs.length c, .slice A' xs.length c'] w (Ret fun v w' => v = .bool true ∧ Ext w w') := by
  have Bhs := hs.1
  have Bht := ht.1
  have X := Ext.refl w
  refine calls_of (args := [.slice A xs.length c, .slice A' xs.length c']) Try.func38 Try.ntmps38 rfl rfl ?_
  refine c_seqR ?_
  refine ops_cons rfl (ow_assign rfl ?_)
  refine ops_nil ?_
  refine c_seq ?_
  refine c_seqR ?_
  refine ops_cons rfl (ow_move rfl ?_)
  refine ops_cons rfl (ow_len Try.underlying45 rfl ?_)
  refine ops_cons rfl (ow_move rfl ?_)
  refine ops_cons rfl (ow_len Try.underlying45 rfl ?_)
  refine ops_cons rfl (ow_neq2 rfl rfl (fun h1 => absurd h1 (by simp)) (fun h1 => ?_))
  refine ops_nil ?_
  refine c_false rfl ?_
  refine c_skip ?_
  refine tq_n ?_
  refine c_seq ?_
  refine c_seqR ?_
  refine ops_cons rfl (ow_assign rfl ?_)
  refine ops_nil ?_
  refine c_block ?_
  refine c_loop (G := Nat) (fun k => [(0, .slice A xs.length c), (1, .slice A' xs.length c'), (5, .int .i64 (k : Nat))]) (fun k wr => k ≤ xs.length ∧ Sl B wr A (xs.flatMap Bk.cells) ∧ Sl B' wr A' (xs.flatMap Bk.cells) ∧ Ext w wr) (fun k => xs.length - k) 0 (.cons rfl (.cons rfl (.cons rfl (.nil _)))) ?_ ?_
  · exact ⟨by omega, hs, ht, X⟩
  clear hs ht
  clear X
  rintro k wr ⟨hk0, hs, ht, X⟩
  refine c_seq ?_
  refine c_seqR ?_
  refine ops_cons rfl (ow_move rfl ?_)
  refine ops_cons rfl (ow_move rfl ?_)
  refine ops_cons rfl (ow_len Try.underlying45 rfl ?_)
  refine ops_cons rfl (ow_lss2 rfl rfl (fun hk => ?_) (fun hk => ?_))
  · skip
    obtain ⟨x, hx, dx⟩ := drop_at' hk
    refine ops_nil ?_
    refine c_true rfl ?_
    refine c_skip ?_
    refine tq_n ?_
    refine c_seq ?_
    refine c_block ?_
    refine c_seqD [false, false, false, false, false, false, false, false, false, false] mixed (by kernel_rfl) ?_
    refine f_q rfl (fun wq sq => ow_move rfl ⟨rfl, Ext.refl _⟩) ?_
    refine f_q rfl (fun wq sq => ow_move rfl ⟨rfl, Ext.refl _⟩) ?_
    refine f_q rfl (fun wq sq => ow_indexT (hs.ext sq) Bk.len rfl el45 rfl rfl rfl hx rfl ⟨rfl, Ext.refl _⟩) ?_
    refine f_q rfl (fun wq sq => ow_loadTA (hs.ext sq) Bk.len hx ti102 rfl ⟨rfl, Ext.refl _⟩) ?_
    refine f_q rfl (fun wq sq => ow_move rfl ⟨rfl, Ext.refl _⟩) ?_
    refine f_q rfl (fun wq sq => ow_move rfl ⟨rfl, Ext.refl _⟩) ?_
    refine f_q rfl (fun wq sq => ow_indexT (ht.ext sq) Bk.len rfl el45 rfl rfl rfl hx rfl ⟨rfl, Ext.refl _⟩) ?_
    refine f_q rfl (fun wq sq => ow_loadTA (ht.ext sq) Bk.len hx ti102 rfl ⟨rfl, Ext.refl _⟩) ?_
    refine f_q rfl (fun wq sq => ow_call ent87 rfl (eqBk_c _ _)) ?_
    refine f_q rfl (fun wq sq => ow_not rfl ⟨rfl, Ext.refl _⟩) ?_
    refine f_nil (fun w2 sq => ?_)
    have xq := sq
    replace hs := hs.ext xq
    replace ht := ht.ext xq
    replace X := Ext.trans X xq; clear xq sq
    refine ops_nil ?_
    refine c_false rfl ?_
    refine c_skip ?_
    refine bq_n ?_
    refine tq_n ?_
    refine c_region ?_
    refine ops_cons rfl (ow_move rfl ?_)
    refine ops_cons rfl (ow_add rfl rfl (w64 (by omega)) ?_)
    refine ops_cons rfl (ow_assign rfl ?_)
    refine ops_nil ?_
    refine tq_n ⟨k + 1, (.cons rfl (.cons rfl (.cons rfl (.nil _)))), ?_, ?_⟩
    · exact ⟨by omega, hs, ht, X⟩
    · omega
  · skip
    refine ops_nil ?_
    refine c_false rfl ?_
    refine c_exit ?_
    refine tq_e ?_
    refine tq_e ?_
    refine bq_e ?_
    refine tq_n ?_
    refine c_seqR ?_
    refine ops_cons rfl (ow_assign rfl ?_)
    refine ops_nil ?_
    refine c_ret ?_
    refine fin_ret1 rfl rfl ?_
    exact ⟨by rfl, X⟩

theorem markDem_c (A : Option Addr) (c lo : Nat) (xs : List Dem) (m : Int) (w : World) (oO : Own w lo 79 3 A xs.length c (xs.flatMap Dem.cells)) (hl : xs.length ≤ 1048576) (hm : 0 ≤ m ∧ m ≤ 1125899906842624) :
    Calls Try.prog 30 #[.slice A xs.length c, .int .i64 m] w (Ret fun v w' => v = .int .i64 (m + 3 * xs.length) ∧ Own w' lo 79 3 A xs.length c ((seqG (fun i => mkDem (m + 3 * (i : Nat))) xs.length).flatMap Dem.cells) ∧ w.grownBy w' (Value.slice A xs.length c).ownBlock) := by
  replace oO := oO.to (cs' := ((seqG (fun i => mkDem (m + 3 * (i : Nat))) 0 ++ xs.drop 0)).flatMap Dem.cells) rfl
  have X := gb_refl w (Value.slice A xs.length c).ownBlock
  refine calls_of (args := [.slice A xs.length c, .int .i64 m]) Try.func30 Try.ntmps30 rfl rfl ?_
  refine c_seqR ?_
  refine ops_cons rfl (ow_assign rfl ?_)
  refine ops_nil ?_
  refine c_seq ?_
  refine c_seqR ?_
  refine ops_cons rfl (ow_assign rfl ?_)
  refine ops_nil ?_
  refine c_block ?_
  refine c_loop (G := Nat × Int) (fun ⟨k, a⟩ => [(0, .slice A xs.length c), (1, .int .i64 a), (5, .int .i64 (k : Nat))]) (fun ⟨k, a⟩ wr => a = m + 3 * k ∧ k ≤ xs.length ∧ Own wr lo 79 3 A xs.length c ((seqG (fun i => mkDem (m + 3 * (i : Nat))) k ++ xs.drop k).flatMap Dem.cells) ∧ w.grownBy wr (Value.slice A xs.length c).ownBlock) (fun ⟨k, a⟩ => xs.length - k) (0, m) (.cons rfl (.cons rfl (.cons rfl (.nil _)))) ?_ ?_
  · exact ⟨by simp, by omega, oO, X⟩
  clear oO
  clear X
  rintro ⟨k, a⟩ wr ⟨ha, hk0, oO, X⟩
  subst ha
  refine c_seq ?_
  refine c_seqR ?_
  refine ops_cons rfl (ow_move rfl ?_)
  refine ops_cons rfl (ow_move rfl ?_)
  refine ops_cons rfl (ow_len Try.underlying36 rfl ?_)
  refine ops_cons rfl (ow_lss2 rfl rfl (fun hk => ?_) (fun hk => ?_))
  · skip
    have hk1 : k < xs.length := by omega
    obtain ⟨x, hx, dx⟩ := drop_at' hk
    have hL := seqG_at' (g := fun i => mkDem (m + 3 * (i : Nat))) hx
    have hn := seqG_all (g := fun i => mkDem (m + 3 * (i : Nat))) hk0
    refine ops_nil ?_
    refine c_true rfl ?_
    refine c_skip ?_
    refine tq_n ?_
    refine c_seq ?_
    refine c_block ?_
    refine c_seqR ?_
    refine ops_cons rfl (ow_move rfl ?_)
    refine ops_cons rfl (ow_move rfl ?_)
    refine ops_cons rfl (ow_move rfl ?_)
    refine ops_cons rfl (ow_indexT (oO).sl Dem.len rfl el36 rfl (by omega) rfl hL rfl ?_)
    refine ops_cons rfl (ow_fieldAddr off79_0 rfl ?_)
    refine ops_cons rfl (ow_storeRF oO ti2 rfl rfl rfl rfl (by omega) (by omega) rfl ?_)
    intro w2 oO hg1 z3
    replace X : w.grownBy w2 (Value.slice A xs.length c).ownBlock := by first | exact gb_trans X hg1 | exact gb_new X hg1 (fun g hg => (Own.lt oO hg).1)
    clear hg1 z3
    replace oO := oO.to (cs' := ((seqG (fun i => mkDem (m + 3 * (i : Nat))) k ++ xs.drop k).set k (⟨m + 3 * k, x.every, x.size⟩ : Dem)).flatMap Dem.cells) (by
      have e1 := set_field (x := x) (x' := (⟨m + 3 * k, x.every, x.size⟩ : Dem)) (vs := [.int .i64 (m + 3 * k)]) Dem.len (s' := 1) (f := 0) rfl (by omega) (seqG (fun i => mkDem (m + 3 * (i : Nat))) k ++ xs.drop k) k (hL)
      exact e1)
    refine ops_nil ?_
    refine c_seqR ?_
    refine ops_cons rfl (ow_move rfl ?_)
    refine ops_cons rfl (ow_add rfl rfl (w64 (by omega)) ?_)
    refine ops_cons rfl (ow_assign rfl ?_)
    refine ops_nil ?_
    refine c_seqR ?_
    refine ops_cons rfl (ow_move rfl ?_)
    refine ops_cons rfl (ow_move rfl ?_)
    refine ops_cons rfl (ow_move rfl ?_)
    refine ops_cons rfl (ow_indexT (oO).sl Dem.len rfl el36 rfl (by simp only [List.length_set]; omega) rfl (set_at (by omega)) rfl ?_)
    refine ops_cons rfl (ow_fieldAddr off79_1 rfl ?_)
    refine ops_cons rfl (ow_storeRF oO ti2 rfl rfl rfl rfl (by omega) (by omega) rfl ?_)
    intro w5 oO hg4 z6
    replace X : w.grownBy w5 (Value.slice A xs.length c).ownBlock := by first | exact gb_trans X hg4 | exact gb_new X hg4 (fun g hg => (Own.lt oO hg).1)
    clear hg4 z6
    replace oO := oO.to (cs' := ((seqG (fun i => mkDem (m + 3 * (i : Nat))) k ++ xs.drop k).set k (⟨m + 3 * k, m + 3 * k + 1, x.size⟩ : Dem)).flatMap Dem.cells) (by
      have e1 := set_field (x := (⟨m + 3 * k, x.every, x.size⟩ : Dem)) (x' := (⟨m + 3 * k, m + 3 * k + 1, x.size⟩ : Dem)) (vs := [.int .i64 (m + 3 * k + 1)]) Dem.len (s' := 1) (f := 1) rfl (by omega) ((seqG (fun i => mkDem (m + 3 * (i : Nat))) k ++ xs.drop k).set k (⟨m + 3 * k, x.every, x.size⟩ : Dem)) k (set_at (x := (⟨m + 3 * k, x.every, x.size⟩ : Dem)) (l := (seqG (fun i => mkDem (m + 3 * (i : Nat))) k ++ xs.drop k)) (by omega))
      rw [List.set_set] at e1; exact e1)
    refine ops_nil ?_
    refine c_seqR ?_
    refine ops_cons rfl (ow_move rfl ?_)
    refine ops_cons rfl (ow_add rfl rfl (w64 (by omega)) ?_)
    refine ops_cons rfl (ow_assign rfl ?_)
    refine ops_nil ?_
    refine c_seqR ?_
    refine ops_cons rfl (ow_move rfl ?_)
    refine ops_cons rfl (ow_move rfl ?_)
    refine ops_cons rfl (ow_move rfl ?_)
    refine ops_cons rfl (ow_indexT (oO).sl Dem.len rfl el36 rfl (by simp only [List.length_set]; omega) rfl (set_at (by omega)) rfl ?_)
    refine ops_cons rfl (ow_fieldAddr off79_2 rfl ?_)
    refine ops_cons rfl (ow_storeRF oO ti2 rfl rfl rfl rfl (by omega) (by omega) rfl ?_)
    intro w8 oO hg7 z9
    replace X : w.grownBy w8 (Value.slice A xs.length c).ownBlock := by first | exact gb_trans X hg7 | exact gb_new X hg7 (fun g hg => (Own.lt oO hg).1)
    clear hg7 z9
    replace oO := oO.to (cs' := ((seqG (fun i => mkDem (m + 3 * (i : Nat))) k ++ xs.drop k).set k (⟨m + 3 * k, m + 3 * k + 1, m + 3 * k + 1 + 1⟩ : Dem)).flatMap Dem.cells) (by
      have e1 := set_field (x := (⟨m + 3 * k, m + 3 * k + 1, x.size⟩ : Dem)) (x' := (⟨m + 3 * k, m + 3 * k + 1, m + 3 * k + 1 + 1⟩ : Dem)) (vs := [.int .i64 (m + 3 * k + 1 + 1)]) Dem.len (s' := 1) (f := 2) rfl (by omega) ((seqG (fun i => mkDem (m + 3 * (i : Nat))) k ++ xs.drop k).set k (⟨m + 3 * k, m + 3 * k + 1, x.size⟩ : Dem)) k (set_at (x := (⟨m + 3 * k, m + 3 * k + 1, x.size⟩ : Dem)) (l := (seqG (fun i => mkDem (m + 3 * (i : Nat))) k ++ xs.drop k)) (by omega))
      rw [List.set_set] at e1; exact e1)
    replace oO := oO.to (cs' := ((seqG (fun i => mkDem (m + 3 * (i : Nat))) (k + 1)) ++ xs.drop (k + 1)).flatMap Dem.cells) (by rw [← seqG_set hk1]; rfl)
    refine ops_nil ?_
    refine c_region ?_
    refine ops_cons rfl (ow_move rfl ?_)
    refine ops_cons rfl (ow_add rfl rfl (w64 (by omega)) ?_)
    refine ops_cons rfl (ow_assign rfl ?_)
    refine ops_nil ?_
    refine bq_n ?_
    refine tq_n ?_
    refine c_region ?_
    refine ops_cons rfl (ow_move rfl ?_)
    refine ops_cons rfl (ow_add rfl rfl (w64 (by omega)) ?_)
    refine ops_cons rfl (ow_assign rfl ?_)
    refine ops_nil ?_
    refine tq_n ⟨(k + 1, m + 3 * k + 1 + 1 + 1), (.cons rfl (.cons rfl (.cons rfl (.nil _)))), ?_, ?_⟩
    · exact ⟨by omega, by omega, oO, X⟩
    · dsimp only; omega
  · skip
    rw [seqG_end hk0 hk] at oO
    refine ops_nil ?_
    refine c_false rfl ?_
    refine c_exit ?_
    refine tq_e ?_
    refine tq_e ?_
    refine bq_e ?_
    refine tq_n ?_
    refine c_seqR ?_
    refine ops_cons rfl (ow_move rfl ?_)
    refine ops_cons rfl (ow_assign rfl ?_)
    refine ops_nil ?_
    refine c_ret ?_
    refine fin_ret1 rfl rfl ?_
    exact ⟨by rw [show k = xs.length by omega], oO, X⟩

theorem heldDem_c (A : Option Addr) (B c n : Nat) (m : Int) (w : World) (hs : Sl B w A ((seqG (fun i => mkDem (m + 3 * (i : Nat))) n).flatMap Dem.cells)) (hl : n ≤ 1048576) (hm : 0 ≤ m ∧ m ≤ 1125899906842624) :
    Calls Try.prog 31 #[.slice A n c, .int .i64 m] w (Ret fun v w' => v = .int .i64 (m + 3 * n) ∧ Ext w w') := by
  have Bhs := hs.1
  have X := Ext.refl w
  refine calls_of (args := [.slice A n c, .int .i64 m]) Try.func31 Try.ntmps31 rfl rfl ?_
  refine c_seqR ?_
  refine ops_cons rfl (ow_assign rfl ?_)
  refine ops_nil ?_
  refine c_seq ?_
  refine c_seqR ?_
  refine ops_cons rfl (ow_assign rfl ?_)
  refine ops_nil ?_
  refine c_block ?_
  refine c_loop (G := Nat × Int) (fun ⟨k, a⟩ => [(0, .slice A n c), (1, .int .i64 a), (5, .int .i64 (k : Nat))]) (fun ⟨k, a⟩ wr => a = m + 3 * k ∧ k ≤ n ∧ Sl B wr A ((seqG (fun i => mkDem (m + 3 * (i : Nat))) n).flatMap Dem.cells) ∧ Ext w wr) (fun ⟨k, a⟩ => n - k) (0, m) (.cons rfl (.cons rfl (.cons rfl (.nil _)))) ?_ ?_
  · exact ⟨by simp, by omega, hs, X⟩
  clear hs
  clear X
  rintro ⟨k, a⟩ wr ⟨ha, hk0, hs, X⟩
  subst ha
  refine c_seq ?_
  refine c_seqR ?_
  refine ops_cons rfl (ow_move rfl ?_)
  refine ops_cons rfl (ow_move rfl ?_)
  refine ops_cons rfl (ow_len Try.underlying36 rfl ?_)
  refine ops_cons rfl (ow_lss2 rfl rfl (fun hk => ?_) (fun hk => ?_))
  · skip
    have hk1 : k < n := by omega
    refine ops_nil ?_
    refine c_true rfl ?_
    refine c_skip ?_
    refine tq_n ?_
    refine c_seq ?_
    refine c_block ?_
    refine c_seq ?_
    refine c_seqR ?_
    refine ops_cons rfl (ow_move rfl ?_)
    refine ops_cons rfl (ow_move rfl ?_)
    refine ops_cons rfl (ow_indexT hs Dem.len rfl el36 rfl (seqG_len _ _).symm rfl (seqG_at hk1) rfl ?_)
    refine ops_cons rfl (ow_fieldAddr off79_0 rfl ?_)
    refine ops_cons rfl (ow_loadTF hs Dem.len (seqG_at hk1) ti2 rfl rfl rfl ?_)
    refine ops_cons rfl (ow_move rfl ?_)
    refine ops_cons rfl (ow_neq2 rfl rfl (fun h1 => absurd h1 (by exact fun h => h rfl)) (fun h1 => ?_))
    refine ops_nil ?_
    refine c_false rfl ?_
    refine c_skip ?_
    refine tq_n ?_
    refine c_seqR ?_
    refine ops_cons rfl (ow_move rfl ?_)
    refine ops_cons rfl (ow_add rfl rfl (w64 (by omega)) ?_)
    refine ops_cons rfl (ow_assign rfl ?_)
    refine ops_nil ?_
    refine c_seq ?_
    refine c_seqR ?_
    refine ops_cons rfl (ow_move rfl ?_)
    refine ops_cons rfl (ow_move rfl ?_)
    refine ops_cons rfl (ow_indexT hs Dem.len rfl el36 rfl (seqG_len _ _).symm rfl (seqG_at hk1) rfl ?_)
    refine ops_cons rfl (ow_fieldAddr off79_1 rfl ?_)
    refine ops_cons rfl (ow_loadTF hs Dem.len (seqG_at hk1) ti2 rfl rfl rfl ?_)
    refine ops_cons rfl (ow_move rfl ?_)
    refine ops_cons rfl (ow_neq2 rfl rfl (fun h2 => absurd h2 (by exact fun h => h rfl)) (fun h2 => ?_))
    refine ops_nil ?_
    refine c_false rfl ?_
    refine c_skip ?_
    refine tq_n ?_
    refine c_seqR ?_
    refine ops_cons rfl (ow_move rfl ?_)
    refine ops_cons rfl (ow_add rfl rfl (w64 (by omega)) ?_)
    refine ops_cons rfl (ow_assign rfl ?_)
    refine ops_nil ?_
    refine c_seq ?_
    refine c_seqR ?_
    refine ops_cons rfl (ow_move rfl ?_)
    refine ops_cons rfl (ow_move rfl ?_)
    refine ops_cons rfl (ow_indexT hs Dem.len rfl el36 rfl (seqG_len _ _).symm rfl (seqG_at hk1) rfl ?_)
    refine ops_cons rfl (ow_fieldAddr off79_2 rfl ?_)
    refine ops_cons rfl (ow_loadTF hs Dem.len (seqG_at hk1) ti2 rfl rfl rfl ?_)
    refine ops_cons rfl (ow_move rfl ?_)
    refine ops_cons rfl (ow_neq2 rfl rfl (fun h3 => absurd h3 (by exact fun h => h rfl)) (fun h3 => ?_))
    refine ops_nil ?_
    refine c_false rfl ?_
    refine c_skip ?_
    refine tq_n ?_
    refine c_region ?_
    refine ops_cons rfl (ow_move rfl ?_)
    refine ops_cons rfl (ow_add rfl rfl (w64 (by omega)) ?_)
    refine ops_cons rfl (ow_assign rfl ?_)
    refine ops_nil ?_
    refine bq_n ?_
    refine tq_n ?_
    refine c_region ?_
    refine ops_cons rfl (ow_move rfl ?_)
    refine ops_cons rfl (ow_add rfl rfl (w64 (by omega)) ?_)
    refine ops_cons rfl (ow_assign rfl ?_)
    refine ops_nil ?_
    refine tq_n ⟨(k + 1, m + 3 * k + 1 + 1 + 1), (.cons rfl (.cons rfl (.cons rfl (.nil _)))), ?_, ?_⟩
    · exact ⟨by omega, by omega, hs, X⟩
    · dsimp only; omega
  · skip
    refine ops_nil ?_
    refine c_false rfl ?_
    refine c_exit ?_
    refine tq_e ?_
    refine tq_e ?_
    refine bq_e ?_
    refine tq_n ?_
    refine c_seqR ?_
    refine ops_cons rfl (ow_move rfl ?_)
    refine ops_cons rfl (ow_assign rfl ?_)
    refine ops_nil ?_
    refine c_ret ?_
    refine fin_ret1 rfl rfl ?_
    exact ⟨by rw [show k = n by omega], X⟩

theorem markBk_c (A : Option Addr) (c lo : Nat) (xs : List Bk) (m : Int) (w : World) (oO : Own w lo 102 2 A xs.length c (xs.flatMap Bk.cells)) (hl : xs.length ≤ 1048576) (hm : 0 ≤ m ∧ m ≤ 1125899906842624) :
    Calls Try.prog 40 #[.slice A xs.length c, .int .i64 m] w (Ret fun v w' => v = .int .i64 (m + 2 * xs.length) ∧ Own w' lo 102 2 A xs.length c ((seqG (fun i => mkBk (m + 2 * (i : Nat))) xs.length).flatMap Bk.cells) ∧ w.grownBy w' (Value.slice A xs.length c).ownBlock) := by
  replace oO := oO.to (cs' := ((seqG (fun i => mkBk (m + 2 * (i : Nat))) 0 ++ xs.drop 0)).flatMap Bk.cells) rfl
  have X := gb_refl w (Value.slice A xs.length c).ownBlock
  refine calls_of (args := [.slice A xs.length c, .int .i64 m]) Try.func40 Try.ntmps40 rfl rfl ?_
  refine c_seqR ?_
  refine ops_cons rfl (ow_assign rfl ?_)
  refine ops_nil ?_
  refine c_seq ?_
  refine c_seqR ?_
  refine ops_cons rfl (ow_assign rfl ?_)
  refine ops_nil ?_
  refine c_block ?_
  refine c_loop (G := Nat × Int) (fun ⟨k, a⟩ => [(0, .slice A xs.length c), (1, .int .i64 a), (5, .int .i64 (k : Nat))]) (fun ⟨k, a⟩ wr => a = m + 2 * k ∧ k ≤ xs.length ∧ Own wr lo 102 2 A xs.length c ((seqG (fun i => mkBk (m + 2 * (i : Nat))) k ++ xs.drop k).flatMap Bk.cells) ∧ w.grownBy wr (Value.slice A xs.length c).ownBlock) (fun ⟨k, a⟩ => xs.length - k) (0, m) (.cons rfl (.cons rfl (.cons rfl (.nil _)))) ?_ ?_
  · exact ⟨by simp, by omega, oO, X⟩
  clear oO
  clear X
  rintro ⟨k, a⟩ wr ⟨ha, hk0, oO, X⟩
  subst ha
  refine c_seq ?_
  refine c_seqR ?_
  refine ops_cons rfl (ow_move rfl ?_)
  refine ops_cons rfl (ow_move rfl ?_)
  refine ops_cons rfl (ow_len Try.underlying45 rfl ?_)
  refine ops_cons rfl (ow_lss2 rfl rfl (fun hk => ?_) (fun hk => ?_))
  · skip
    have hk1 : k < xs.length := by omega
    obtain ⟨x, hx, dx⟩ := drop_at' hk
    have hL := seqG_at' (g := fun i => mkBk (m + 2 * (i : Nat))) hx
    have hn := seqG_all (g := fun i => mkBk (m + 2 * (i : Nat))) hk0
    refine ops_nil ?_
    refine c_true rfl ?_
    refine c_skip ?_
    refine tq_n ?_
    refine c_seq ?_
    refine c_block ?_
    refine c_seqR ?_
    refine ops_cons rfl (ow_move rfl ?_)
    refine ops_cons rfl (ow_move rfl ?_)
    refine ops_cons rfl (ow_move rfl ?_)
    refine ops_cons rfl (ow_indexT (oO).sl Bk.len rfl el45 rfl (by omega) rfl hL rfl ?_)
    refine ops_cons rfl (ow_fieldAddr off102_0 rfl ?_)
    refine ops_cons rfl (ow_storeRF oO ti2 rfl rfl rfl rfl (by omega) (by omega) rfl ?_)
    intro w2 oO hg1 z3
    replace X : w.grownBy w2 (Value.slice A xs.length c).ownBlock := by first | exact gb_trans X hg1 | exact gb_new X hg1 (fun g hg => (Own.lt oO hg).1)
    clear hg1 z3
    replace oO := oO.to (cs' := ((seqG (fun i => mkBk (m + 2 * (i : Nat))) k ++ xs.drop k).set k (⟨m + 2 * k, x.phase⟩ : Bk)).flatMap Bk.cells) (by
      have e1 := set_field (x := x) (x' := (⟨m + 2 * k, x.phase⟩ : Bk)) (vs := [.int .i64 (m + 2 * k)]) Bk.len (s' := 1) (f := 0) rfl (by omega) (seqG (fun i => mkBk (m + 2 * (i : Nat))) k ++ xs.drop k) k (hL)
      exact e1)
    refine ops_nil ?_
    refine c_seqR ?_
    refine ops_cons rfl (ow_move rfl ?_)
    refine ops_cons rfl (ow_add rfl rfl (w64 (by omega)) ?_)
    refine ops_cons rfl (ow_assign rfl ?_)
    refine ops_nil ?_
    refine c_seqR ?_
    refine ops_cons rfl (ow_move rfl ?_)
    refine ops_cons rfl (ow_move rfl ?_)
    refine ops_cons rfl (ow_move rfl ?_)
    refine ops_cons rfl (ow_indexT (oO).sl Bk.len rfl el45 rfl (by simp only [List.length_set]; omega) rfl (set_at (by omega)) rfl ?_)
    refine ops_cons rfl (ow_fieldAddr off102_1 rfl ?_)
    refine ops_cons rfl (ow_storeRF oO ti2 rfl rfl rfl rfl (by omega) (by omega) rfl ?_)
    intro w5 oO hg4 z6
    replace X : w.grownBy w5 (Value.slice A xs.length c).ownBlock := by first | exact gb_trans X hg4 | exact gb_new X hg4 (fun g hg => (Own.lt oO hg).1)
    clear hg4 z6
    replace oO := oO.to (cs' := ((seqG (fun i => mkBk (m + 2 * (i : Nat))) k ++ xs.drop k).set k (⟨m + 2 * k, m + 2 * k + 1⟩ : Bk)).flatMap Bk.cells) (by
      have e1 := set_field (x := (⟨m + 2 * k, x.phase⟩ : Bk)) (x' := (⟨m + 2 * k, m + 2 * k + 1⟩ : Bk)) (vs := [.int .i64 (m + 2 * k + 1)]) Bk.len (s' := 1) (f := 1) rfl (by omega) ((seqG (fun i => mkBk (m + 2 * (i : Nat))) k ++ xs.drop k).set k (⟨m + 2 * k, x.phase⟩ : Bk)) k (set_at (x := (⟨m + 2 * k, x.phase⟩ : Bk)) (l := (seqG (fun i => mkBk (m + 2 * (i : Nat))) k ++ xs.drop k)) (by omega))
      rw [List.set_set] at e1; exact e1)
    replace oO := oO.to (cs' := ((seqG (fun i => mkBk (m + 2 * (i : Nat))) (k + 1)) ++ xs.drop (k + 1)).flatMap Bk.cells) (by rw [← seqG_set hk1]; rfl)
    refine ops_nil ?_
    refine c_region ?_
    refine ops_cons rfl (ow_move rfl ?_)
    refine ops_cons rfl (ow_add rfl rfl (w64 (by omega)) ?_)
    refine ops_cons rfl (ow_assign rfl ?_)
    refine ops_nil ?_
    refine bq_n ?_
    refine tq_n ?_
    refine c_region ?_
    refine ops_cons rfl (ow_move rfl ?_)
    refine ops_cons rfl (ow_add rfl rfl (w64 (by omega)) ?_)
    refine ops_cons rfl (ow_assign rfl ?_)
    refine ops_nil ?_
    refine tq_n ⟨(k + 1, m + 2 * k + 1 + 1), (.cons rfl (.cons rfl (.cons rfl (.nil _)))), ?_, ?_⟩
    · exact ⟨by omega, by omega, oO, X⟩
    · dsimp only; omega
  · skip
    rw [seqG_end hk0 hk] at oO
    refine ops_nil ?_
    refine c_false rfl ?_
    refine c_exit ?_
    refine tq_e ?_
    refine tq_e ?_
    refine bq_e ?_
    refine tq_n ?_
    refine c_seqR ?_
    refine ops_cons rfl (ow_move rfl ?_)
    refine ops_cons rfl (ow_assign rfl ?_)
    refine ops_nil ?_
    refine c_ret ?_
    refine fin_ret1 rfl rfl ?_
    exact ⟨by rw [show k = xs.length by omega], oO, X⟩

theorem heldBk_c (A : Option Addr) (B c n : Nat) (m : Int) (w : World) (hs : Sl B w A ((seqG (fun i => mkBk (m + 2 * (i : Nat))) n).flatMap Bk.cells)) (hl : n ≤ 1048576) (hm : 0 ≤ m ∧ m ≤ 1125899906842624) :
    Calls Try.prog 41 #[.slice A n c, .int .i64 m] w (Ret fun v w' => v = .int .i64 (m + 2 * n) ∧ Ext w w') := by
  have Bhs := hs.1
  have X := Ext.refl w
  refine calls_of (args := [.slice A n c, .int .i64 m]) Try.func41 Try.ntmps41 rfl rfl ?_
  refine c_seqR ?_
  refine ops_cons rfl (ow_assign rfl ?_)
  refine ops_nil ?_
  refine c_seq ?_
  refine c_seqR ?_
  refine ops_cons rfl (ow_assign rfl ?_)
  refine ops_nil ?_
  refine c_block ?_
  refine c_loop (G := Nat × Int) (fun ⟨k, a⟩ => [(0, .slice A n c), (1, .int .i64 a), (5, .int .i64 (k : Nat))]) (fun ⟨k, a⟩ wr => a = m + 2 * k ∧ k ≤ n ∧ Sl B wr A ((seqG (fun i => mkBk (m + 2 * (i : Nat))) n).flatMap Bk.cells) ∧ Ext w wr) (fun ⟨k, a⟩ => n - k) (0, m) (.cons rfl (.cons rfl (.cons rfl (.nil _)))) ?_ ?_
  · exact ⟨by simp, by omega, hs, X⟩
  clear hs
  clear X
  rintro ⟨k, a⟩ wr ⟨ha, hk0, hs, X⟩
  subst ha
  refine c_seq ?_
  refine c_seqR ?_
  refine ops_cons rfl (ow_move rfl ?_)
  refine ops_cons rfl (ow_move rfl ?_)
  refine ops_cons rfl (ow_len Try.underlying45 rfl ?_)
  refine ops_cons rfl (ow_lss2 rfl rfl (fun hk => ?_) (fun hk => ?_))
  · skip
    have hk1 : k < n := by omega
    refine ops_nil ?_
    refine c_true rfl ?_
    refine c_skip ?_
    refine tq_n ?_
    refine c_seq ?_
    refine c_block ?_
    refine c_seq ?_
    refine c_seqR ?_
    refine ops_cons rfl (ow_move rfl ?_)
    refine ops_cons rfl (ow_move rfl ?_)
    refine ops_cons rfl (ow_indexT hs Bk.len rfl el45 rfl (seqG_len _ _).symm rfl (seqG_at hk1) rfl ?_)
    refine ops_cons rfl (ow_fieldAddr off102_0 rfl ?_)
    refine ops_cons rfl (ow_loadTF hs Bk.len (seqG_at hk1) ti2 rfl rfl rfl ?_)
    refine ops_cons rfl (ow_move rfl ?_)
    refine ops_cons rfl (ow_neq2 rfl rfl (fun h1 => absurd h1 (by exact fun h => h rfl)) (fun h1 => ?_))
    refine ops_nil ?_
    refine c_false rfl ?_
    refine c_skip ?_
    refine tq_n ?_
    refine c_seqR ?_
    refine ops_cons rfl (ow_move rfl ?_)
    refine ops_cons rfl (ow_add rfl rfl (w64 (by omega)) ?_)
    refine ops_cons rfl (ow_assign rfl ?_)
    refine ops_nil ?_
    refine c_seq ?_
    refine c_seqR ?_
    refine ops_cons rfl (ow_move rfl ?_)
    refine ops_cons rfl (ow_move rfl ?_)
    refine ops_cons rfl (ow_indexT hs Bk.len rfl el45 rfl (seqG_len _ _).symm rfl (seqG_at hk1) rfl ?_)
    refine ops_cons rfl (ow_fieldAddr off102_1 rfl ?_)
    refine ops_cons rfl (ow_loadTF hs Bk.len (seqG_at hk1) ti2 rfl rfl rfl ?_)
    refine ops_cons rfl (ow_move rfl ?_)
    refine ops_cons rfl (ow_neq2 rfl rfl (fun h2 => absurd h2 (by exact fun h => h rfl)) (fun h2 => ?_))
    refine ops_nil ?_
    refine c_false rfl ?_
    refine c_skip ?_
    refine tq_n ?_
    refine c_region ?_
    refine ops_cons rfl (ow_move rfl ?_)
    refine ops_cons rfl (ow_add rfl rfl (w64 (by omega)) ?_)
    refine ops_cons rfl (ow_assign rfl ?_)
    refine ops_nil ?_
    refine bq_n ?_
    refine tq_n ?_
    refine c_region ?_
    refine ops_cons rfl (ow_move rfl ?_)
    refine ops_cons rfl (ow_add rfl rfl (w64 (by omega)) ?_)
    refine ops_cons rfl (ow_assign rfl ?_)
    refine ops_nil ?_
    refine tq_n ⟨(k + 1, m + 2 * k + 1 + 1), (.cons rfl (.cons rfl (.cons rfl (.nil _)))), ?_, ?_⟩
    · exact ⟨by omega, by omega, hs, X⟩
    · dsimp only; omega
  · skip
    refine ops_nil ?_
    refine c_false rfl ?_
    refine c_exit ?_
    refine tq_e ?_
    refine tq_e ?_
    refine bq_e ?_
    refine tq_n ?_
    refine c_seqR ?_
    refine ops_cons rfl (ow_move rfl ?_)
    refine ops_cons rfl (ow_assign rfl ?_)
    refine ops_nil ?_
    refine c_ret ?_
    refine fin_ret1 rfl rfl ?_
    exact ⟨by rw [show k = n by omega], X⟩
end Go.Proofs.Ytimabffnoanciaa
