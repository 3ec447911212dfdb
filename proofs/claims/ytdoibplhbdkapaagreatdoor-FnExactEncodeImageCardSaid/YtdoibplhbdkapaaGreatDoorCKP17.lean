/- Texts of the seat that a law needs, put together. No condition. -/
import Derived.Test.YtdoibplhbdkapaaGreatDoorCKP4
import Derived.Test.YtdoibplhbdkapaaGreatDoorCKP8
import Derived.Test.YtdoibplhbdkapaaGreatDoorCKP16
import Derived.Test.YtdoibplhbdkapaaGreatDoorCKP3
namespace Go.Proofs.YtdoibplhbdkapaaGreatDoor
open Go.RowKit
set_option linter.unusedVariables false
set_option linter.unusedSimpArgs false
set_option maxRecDepth 20000
theorem szInt_c (A : Option Addr) (c n : Nat) (left : Int) (w : World) (hl : 0 ≤ left ∧ left ≤ 1048576) (hn : n ≤ 9223372036854775807) :
    Calls Tryz.prog 254 #[.slice A n c, .int .i64 left] w (Ret fun v w' => v = .int .i64 (szInt n left) ∧ Ext w w') := by
  have X := Ext.refl w
  refine calls_of (args := [.slice A n c, .int .i64 left]) Tryz.func254 Tryz.ntmps254 rfl rfl ?_
  refine c_seqR ?_
  refine ops_cons rfl (ow_assign rfl ?_)
  refine ops_nil ?_
  refine c_seqR ?_
  refine ops_cons rfl (ow_move rfl ?_)
  refine ops_cons rfl (ow_move rfl ?_)
  refine ops_cons rfl (ow_len Tryz.underlying30 rfl ?_)
  refine ops_cons rfl (ow_sub rfl rfl (w64 (by omega)) ?_)
  refine ops_cons rfl (ow_assign rfl ?_)
  refine ops_nil ?_
  refine c_seq ?_
  refine c_seqR ?_
  refine ops_cons rfl (ow_move rfl ?_)
  refine ops_cons rfl (ow_lss2 rfl rfl (fun h1 => ?_) (fun h1 => ?_))
  refine ops_nil ?_
  refine c_true rfl ?_
  refine c_seqR ?_
  refine ops_cons rfl (ow_assign rfl ?_)
  refine ops_nil ?_
  refine c_ret ?_
  refine tq_r ?_
  refine fin_ret1 rfl rfl ?_
  · skip
    refine ⟨congrArg (Value.int .i64) ?_, X⟩
    unfold szInt
    first | rw [if_pos ‹_›] | rw [if_neg ‹_›]
  refine ops_nil ?_
  refine c_false rfl ?_
  refine c_skip ?_
  refine tq_n ?_
  refine c_seqR ?_
  refine ops_cons rfl (ow_move rfl ?_)
  refine ops_cons rfl (ow_assign rfl ?_)
  refine ops_nil ?_
  refine c_ret ?_
  refine fin_ret1 rfl rfl ?_
  · skip
    refine ⟨congrArg (Value.int .i64) ?_, X⟩
    unfold szInt
    first | rw [if_pos ‹_›] | rw [if_neg ‹_›]

theorem szMode_c (x : ModeI) (left : Int) (w : World) (hl : 0 ≤ left ∧ left ≤ 1048576) (hn : x.m.next.length ≤ 9223372036854775807) :
    Calls Tryz.prog 210 #[.agg x.cells.toArray, .int .i64 left] w (Ret fun v w' => v = .int .i64 (szInt x.m.next.length left) ∧ Ext w w') := by
  have X := Ext.refl w
  refine calls_of (args := [.agg x.cells.toArray, .int .i64 left]) Tryz.func210 Tryz.ntmps210 rfl rfl ?_
  refine c_seqR ?_
  refine ops_cons rfl (ow_box rfl rfl ?_)
  intro g4 w3 eg4 b1 x2 zg4
  have lg4 : w.heap.size ≤ g4 := Nat.le_trans X.size (Nat.le_of_eq eg4.symm)
  replace X := Ext.trans X x2; clear x2
  refine ops_cons rfl (ow_assign rfl ?_)
  refine ops_nil ?_
  refine c_seqR ?_
  refine ops_cons rfl (ow_fieldAddrB off204_2 rfl rfl ?_)
  refine ops_cons rfl (ow_loadB b1 ti30 rfl rfl ?_)
  refine ops_cons rfl (ow_move rfl ?_)
  refine ops_cons rfl (ow_call ent254 rfl (ret_mono (szInt_c _ _ _ _ _ hl hn) ?_))
  rintro _ w6 ⟨rfl, x5⟩
  replace b1 := b1.ext x5
  replace X := Ext.trans X x5; clear x5
  refine ops_cons rfl (ow_assign rfl ?_)
  refine ops_nil ?_
  refine c_seq ?_
  refine c_seqR ?_
  refine ops_cons rfl (ow_move rfl ?_)
  refine ops_cons rfl (ow_lss2 rfl rfl (fun h7 => ?_) (fun h7 => ?_))
  refine ops_nil ?_
  refine c_true rfl ?_
  refine c_seqR ?_
  refine ops_cons rfl (ow_assign rfl ?_)
  refine ops_nil ?_
  refine c_ret ?_
  refine tq_r ?_
  refine fin_ret1 rfl rfl ?_
  · skip
    refine ⟨congrArg (Value.int .i64) ?_, X⟩
    first | rfl | (unfold szInt at *; split <;> split at * <;> omega)
  refine ops_nil ?_
  refine c_false rfl ?_
  refine c_skip ?_
  refine tq_n ?_
  refine c_seqR ?_
  refine ops_cons rfl (ow_move rfl ?_)
  refine ops_cons rfl (ow_assign rfl ?_)
  refine ops_nil ?_
  refine c_ret ?_
  refine fin_ret1 rfl rfl ?_
  · skip
    refine ⟨congrArg (Value.int .i64) ?_, X⟩
    first | rfl | (unfold szInt at *; split <;> split at * <;> omega)

theorem toInt_c (A : Option Addr) (B c : Nat) (xs : List Int) (w : World) (hs : Sl B w A (xs.flatMap eI)) (hl : xs.length ≤ 1048576) :
    Calls Tryz.prog 23 #[.slice A xs.length c] w (Ret fun v w' => ∃ A' c', v = .slice A' xs.length c' ∧ Own w' w.heap.size 2 1 A' xs.length c' (xs.flatMap eI) ∧ Ext w w') := by
  have Bhs := hs.1
  have X := Ext.refl w
  refine calls_of (args := [.slice A xs.length c]) Tryz.func23 Tryz.ntmps23 rfl rfl ?_
  refine c_seqR ?_
  refine ops_cons rfl (ow_assign rfl ?_)
  refine ops_nil ?_
  refine c_seqR ?_
  refine ops_cons rfl (ow_move rfl ?_)
  refine ops_cons rfl (ow_len Tryz.underlying30 rfl ?_)
  refine ops_cons rfl (ow_make el30 ti2 rfl rfl rfl rfl rfl rfl (by omega) (by omega) ?_)
  intro gO w2 egO oO x1
  replace oO := Own.low oO X.size
  replace hs := hs.ext x1
  replace X := Ext.trans X x1; clear x1
  replace oO := oO.to (cs' := (xs.take 0 ++ List.replicate (xs.length - 0) 0).flatMap eI) (by rw [List.take_zero, List.nil_append, Nat.sub_zero, ← repL_flat]; rfl)
  refine ops_cons rfl (ow_assign rfl ?_)
  refine ops_nil ?_
  refine c_seq ?_
  refine c_seqR ?_
  refine ops_cons rfl (ow_assign rfl ?_)
  refine ops_nil ?_
  refine c_block ?_
  refine c_loop (G := Nat) (fun k => [(0, .slice A xs.length c), (3, .slice (some ⟨gO, 0, none⟩) xs.length xs.length), (4, .int .i64 (k : Nat))]) (fun k wr => k ≤ xs.length ∧ Sl B wr A (xs.flatMap eI) ∧ Own wr w.heap.size 2 1 (some ⟨gO, 0, none⟩) xs.length xs.length ((xs.take k ++ List.replicate (xs.length - k) 0).flatMap eI) ∧ Ext w wr) (fun k => xs.length - k) 0 (.cons rfl (.cons rfl (.cons rfl (.nil _)))) ?_ ?_
  · exact ⟨by omega, hs, oO, X⟩
  clear hs oO
  clear X
  rintro k wr ⟨hk0, hs, oO, X⟩
  refine c_seq ?_
  refine c_seqR ?_
  refine ops_cons rfl (ow_move rfl ?_)
  refine ops_cons rfl (ow_move rfl ?_)
  refine ops_cons rfl (ow_len Tryz.underlying30 rfl ?_)
  refine ops_cons rfl (ow_lss2 rfl rfl (fun hk => ?_) (fun hk => ?_))
  obtain ⟨x, hx, dx⟩ := drop_at' hk
  refine ops_nil ?_
  refine c_true rfl ?_
  refine c_skip ?_
  refine tq_n ?_
  refine c_seq ?_
  refine c_block ?_
  refine c_region ?_
  refine ops_cons rfl (ow_move rfl ?_)
  refine ops_cons rfl (ow_move rfl ?_)
  refine ops_cons rfl (ow_move rfl ?_)
  refine ops_cons rfl (ow_move rfl ?_)
  refine ops_cons rfl (ow_indexT hs eI_len rfl el30 rfl rfl rfl hx rfl ?_)
  refine ops_cons rfl (ow_loadT hs eI_len hx ti2 rfl rfl rfl ?_)
  refine ops_cons rfl (ow_indexT (oO).sl eI_len rfl el30 rfl (by simp <;> omega) rfl (at_fill (by omega)) rfl ?_)
  refine ops_cons rfl (ow_storeR oO ti2 rfl rfl rfl rfl (by omega) (by omega) rfl ?_)
  intro w4 oN hg3 z5
  replace hs := hs.grown hg3 (fun g hg => Nat.le_trans Bhs (Own.lt oO hg).1)
  replace X := X.grown hg3 X.size (fun g hg => (Own.lt oO hg).1)
  clear hg3 z5
  replace oN := oN.to (cs' := (xs.take (k + 1) ++ List.replicate (xs.length - (k + 1)) 0).flatMap eI) (by rw [← set_fill hx, ← set_flat eI_len x _ k (by simp <;> omega)]; try rfl)
  refine ops_nil ?_
  refine bq_n ?_
  refine tq_n ?_
  refine c_region ?_
  refine ops_cons rfl (ow_move rfl ?_)
  refine ops_cons rfl (ow_add rfl rfl (w64 (by omega)) ?_)
  refine ops_cons rfl (ow_assign rfl ?_)
  refine ops_nil ?_
  refine tq_n ⟨k + 1, (.cons rfl (.cons rfl (.cons rfl (.nil _)))), ?_, ?_⟩
  · exact ⟨by omega, hs, oN, X⟩
  · omega
  rw [end_fill hk] at oO
  refine ops_nil ?_
  refine c_false rfl ?_
  refine c_exit ?_
  refine tq_e ?_
  refine tq_e ?_
  refine bq_e ?_
  refine tq_n ?_
  refine c_seqR ?_
  refine ops_cons rfl (ow_move rfl ?_)
  refine ops_cons rfl (ow_assign rfl ?_)
  refine ops_nil ?_
  refine c_ret ?_
  refine fin_ret1 rfl rfl ?_
  exact ⟨_, _, rfl, oO, X⟩

theorem eqInt_c (A A' : Option Addr) (B B' c c' : Nat) (xs : List Int) (w : World) (hs : Sl B w A (xs.flatMap eI)) (ht : Sl B' w A' (xs.flatMap eI)) (hl : xs.length ≤ 1048576) :
    Calls Tryz.prog 25 #[.slice A xs.length c, .slice A' xs.length c'] w (Ret fun v w' => v = .bool true ∧ Ext w w') := by
  have Bhs := hs.1
  have Bht := ht.1
  have X := Ext.refl w
  refine calls_of (args := [.slice A xs.length c, .slice A' xs.length c']) Tryz.func25 Tryz.ntmps25 rfl rfl ?_
  refine c_seqR ?_
  refine ops_cons rfl (ow_assign rfl ?_)
  refine ops_nil ?_
  refine c_seq ?_
  refine c_seqR ?_
  refine ops_cons rfl (ow_move rfl ?_)
  refine ops_cons rfl (ow_len Tryz.underlying30 rfl ?_)
  refine ops_cons rfl (ow_move rfl ?_)
  refine ops_cons rfl (ow_len Tryz.underlying30 rfl ?_)
  refine ops_cons rfl (ow_neq2 rfl rfl (fun h1 => absurd h1 (by simp)) (fun h1 => ?_))
  refine ops_nil ?_
  refine c_false rfl ?_
  refine c_skip ?_
  refine tq_n ?_
  refine c_seq ?_
  refine c_seqR ?_
  refine ops_cons rfl (ow_assign rfl ?_)
  refine ops_nil ?_
  refine c_block ?_
  refine c_loop (G := Nat) (fun k => [(0, .slice A xs.length c), (1, .slice A' xs.length c'), (5, .int .i64 (k : Nat))]) (fun k wr => k ≤ xs.length ∧ Sl B wr A (xs.flatMap eI) ∧ Sl B' wr A' (xs.flatMap eI) ∧ Ext w wr) (fun k => xs.length - k) 0 (.cons rfl (.cons rfl (.cons rfl (.nil _)))) ?_ ?_
  · exact ⟨by omega, hs, ht, X⟩
  clear hs ht
  clear X
  rintro k wr ⟨hk0, hs, ht, X⟩
  refine c_seq ?_
  refine c_seqR ?_
  refine ops_cons rfl (ow_move rfl ?_)
  refine ops_cons rfl (ow_move rfl ?_)
  refine ops_cons rfl (ow_len Tryz.underlying30 rfl ?_)
  refine ops_cons rfl (ow_lss2 rfl rfl (fun hk => ?_) (fun hk => ?_))
  obtain ⟨x, hx, dx⟩ := drop_at' hk
  refine ops_nil ?_
  refine c_true rfl ?_
  refine c_skip ?_
  refine tq_n ?_
  refine c_seq ?_
  refine c_block ?_
  refine c_seqD [false, false, false, false, false, false, false, false, false] mixed (by kernel_rfl) ?_
  refine f_q rfl (fun wq sq => ow_move rfl ⟨rfl, Ext.refl _⟩) ?_
  refine f_q rfl (fun wq sq => ow_move rfl ⟨rfl, Ext.refl _⟩) ?_
  refine f_q rfl (fun wq sq => ow_indexT (hs.ext sq) eI_len rfl el30 rfl rfl rfl hx rfl ⟨rfl, Ext.refl _⟩) ?_
  refine f_q rfl (fun wq sq => ow_loadT (hs.ext sq) eI_len hx ti2 rfl rfl rfl ⟨rfl, Ext.refl _⟩) ?_
  refine f_q rfl (fun wq sq => ow_move rfl ⟨rfl, Ext.refl _⟩) ?_
  refine f_q rfl (fun wq sq => ow_move rfl ⟨rfl, Ext.refl _⟩) ?_
  refine f_q rfl (fun wq sq => ow_indexT (ht.ext sq) eI_len rfl el30 rfl rfl rfl hx rfl ⟨rfl, Ext.refl _⟩) ?_
  refine f_q rfl (fun wq sq => ow_loadT (ht.ext sq) eI_len hx ti2 rfl rfl rfl ⟨rfl, Ext.refl _⟩) ?_
  refine f_qb rfl (fun wq sq => ow_neq rfl rfl ⟨rfl, Ext.refl _⟩) (fun h2 => absurd h2 (by simp)) (fun h2 => ?_)
  refine f_nil (fun w3 sq => ?_)
  have xq := sq
  replace hs := hs.ext xq
  replace ht := ht.ext xq
  replace X := Ext.trans X xq; clear xq sq
  refine ops_nil ?_
  refine c_false rfl ?_
  refine c_skip ?_
  refine bq_n ?_
  refine tq_n ?_
  refine c_region ?_
  refine ops_cons rfl (ow_move rfl ?_)
  refine ops_cons rfl (ow_add rfl rfl (w64 (by omega)) ?_)
  refine ops_cons rfl (ow_assign rfl ?_)
  refine ops_nil ?_
  refine tq_n ⟨k + 1, (.cons rfl (.cons rfl (.cons rfl (.nil _)))), ?_, ?_⟩
  · exact ⟨by omega, hs, ht, X⟩
  · omega
  refine ops_nil ?_
  refine c_false rfl ?_
  refine c_exit ?_
  refine tq_e ?_
  refine tq_e ?_
  refine bq_e ?_
  refine tq_n ?_
  refine c_seqR ?_
  refine ops_cons rfl (ow_assign rfl ?_)
  refine ops_nil ?_
  refine c_ret ?_
  refine fin_ret1 rfl rfl ?_
  exact ⟨by rfl, X⟩

theorem toMode_c (x : ModeI) (B : Nat) (w : World) (hs : Sl B w x.A (x.m.next.flatMap eI)) (hl : x.m.next.length ≤ 1048576) :
    Calls Tryz.prog 212 #[.agg x.cells.toArray] w (Ret fun v w' => ∃ A' c', v = .agg (⟨x.m, A', c'⟩ : ModeI).cells.toArray ∧ Own w' w.heap.size 2 1 A' x.m.next.length c' (x.m.next.flatMap eI) ∧ Ext w w') := by
  have Bhs := hs.1
  have X := Ext.refl w
  refine calls_of (args := [.agg x.cells.toArray]) Tryz.func212 Tryz.ntmps212 rfl rfl ?_
  refine c_seqR ?_
  refine ops_cons rfl (ow_box rfl rfl ?_)
  intro g4 w3 eg4 b1 x2 zg4
  have lg4 : w.heap.size ≤ g4 := Nat.le_trans X.size (Nat.le_of_eq eg4.symm)
  have pg4hs := Nat.le_trans hs.1 (Nat.le_of_eq eg4.symm)
  replace hs := hs.ext x2
  replace X := Ext.trans X x2; clear x2
  refine ops_cons rfl (ow_alloc ti92 ?_)
  intro g8 w7 eg8 b5 x6 zg8
  have lg8 : w.heap.size ≤ g8 := Nat.le_trans X.size (Nat.le_of_eq eg8.symm)
  have pg8hs := Nat.le_trans hs.1 (Nat.le_of_eq eg8.symm)
  have ng8b1 := Nat.lt_of_lt_of_eq b1.lt eg8.symm
  replace hs := hs.ext x6
  replace b1 := b1.ext x6
  replace X := Ext.trans X x6; clear x6
  refine ops_nil ?_
  refine c_seqR ?_
  refine ops_cons rfl (ow_alloc ti92 ?_)
  intro g12 w11 eg12 b9 x10 zg12
  have lg12 : w.heap.size ≤ g12 := Nat.le_trans X.size (Nat.le_of_eq eg12.symm)
  have pg12hs := Nat.le_trans hs.1 (Nat.le_of_eq eg12.symm)
  have ng12b1 := Nat.lt_of_lt_of_eq b1.lt eg12.symm
  have ng12b5 := Nat.lt_of_lt_of_eq b5.lt eg12.symm
  replace hs := hs.ext x10
  replace b1 := b1.ext x10
  replace b5 := b5.ext x10
  replace X := Ext.trans X x10; clear x10
  refine ops_nil ?_
  refine c_seqR ?_
  refine ops_cons rfl (ow_fieldAddrB off204_0 rfl rfl ?_)
  refine ops_cons rfl (ow_loadB b1 ti2 rfl rfl ?_)
  refine ops_cons rfl (ow_fieldAddrB off92_0 rfl rfl ?_)
  refine ops_cons rfl (ow_storeB b9 ti2 rfl rfl rfl rfl rfl rfl ?_)
  intro w14 b16 hg13 z15
  replace hs := hs.grown hg13 (by intro g hg; injection hg; omega)
  replace b1 := b1.grown hg13 (by intro h; injection h; omega)
  replace b5 := b5.grown hg13 (by intro h; injection h; omega)
  replace X := X.grown hg13 X.size (by intro g hg; injection hg; omega)
  clear hg13 b9
  refine ops_nil ?_
  refine c_seqR ?_
  refine ops_cons rfl (ow_fieldAddrB off204_1 rfl rfl ?_)
  refine ops_cons rfl (ow_loadB b1 ti2 rfl rfl ?_)
  refine ops_cons rfl (ow_fieldAddrB off92_1 rfl rfl ?_)
  refine ops_cons rfl (ow_storeB b16 ti2 rfl rfl rfl rfl rfl rfl ?_)
  intro w18 b20 hg17 z19
  replace hs := hs.grown hg17 (by intro g hg; injection hg; omega)
  replace b1 := b1.grown hg17 (by intro h; injection h; omega)
  replace b5 := b5.grown hg17 (by intro h; injection h; omega)
  replace X := X.grown hg17 X.size (by intro g hg; injection hg; omega)
  clear hg17 b16
  refine ops_nil ?_
  refine c_seqR ?_
  refine ops_cons rfl (ow_fieldAddrB off204_2 rfl rfl ?_)
  refine ops_cons rfl (ow_loadB b1 ti30 rfl rfl ?_)
  refine ops_cons rfl (ow_call ent23 rfl (ret_mono (toInt_c _ _ _ _ _ hs hl) ?_))
  rintro _ w22 ⟨A23, c24, rfl, oN, x21⟩
  replace oN := Own.low oN X.size
  replace hs := hs.ext x21
  replace b1 := b1.ext x21
  replace b5 := b5.ext x21
  replace b20 := b20.ext x21
  replace X := Ext.trans X x21; clear x21
  refine ops_cons rfl (ow_fieldAddrB off92_2 rfl rfl ?_)
  refine ops_cons rfl (ow_storeB b20 ti30 rfl rfl rfl rfl rfl rfl ?_)
  intro w26 b28 hg25 z27
  replace hs := hs.grown hg25 (by intro g hg; injection hg; omega)
  replace b1 := b1.grown hg25 (by intro h; injection h; omega)
  replace b5 := b5.grown hg25 (by intro h; injection h; omega)
  replace oN := oN.grownBlk hg25 (Own.neT oN b20 (by decide))
  replace X := X.grown hg25 X.size (by intro g hg; injection hg; omega)
  clear hg25 b20
  refine ops_nil ?_
  refine c_seqR ?_
  refine ops_cons rfl (ow_loadAB b28 ti92 rfl rfl ?_)
  refine ops_cons rfl (ow_storeB b5 ti92 rfl rfl rfl rfl rfl rfl ?_)
  intro w30 b32 hg29 z31
  replace hs := hs.grown hg29 (by intro g hg; injection hg; omega)
  replace b1 := b1.grown hg29 (by intro h; injection h; omega)
  replace oN := oN.grownBlk hg29 (Own.neT oN b5 (by decide))
  replace b28 := b28.grown hg29 (by intro h; injection h; omega)
  replace X := X.grown hg29 X.size (by intro g hg; injection hg; omega)
  clear hg29 b5
  refine ops_nil ?_
  refine c_ret ?_
  refine fin_cell1 rfl rfl b32 ti92 rfl ?_
  exact ⟨_, _, rfl, oN, X⟩

theorem toModes_c (A : Option Addr) (B B2 c : Nat) (xs : List ModeI) (w : World) (hs : Sl B w A (xs.flatMap ModeI.cells)) (hn : Nexts B2 w xs) (hl : xs.length ≤ 1048576) (hz : ∀ x ∈ xs, x.m.next.length ≤ 1048576) :
    Calls Tryz.prog 141 #[.slice A xs.length c] w (Ret fun v w' => ∃ A' c' ys, v = .slice A' (List.length ys) c' ∧ ys.map (·.m) = xs.map (·.m) ∧ Disj ys ∧ Own w' w.heap.size 92 3 A' ys.length c' (ys.flatMap ModeI.cells) ∧ NOwn w' w.heap.size 2 ys ∧ Ext w w') := by
  have Bhs := hs.1
  have Bhn := hn.1
  have X := Ext.refl w
  refine calls_of (args := [.slice A xs.length c]) Tryz.func141 Tryz.ntmps141 rfl rfl ?_
  refine c_seqR ?_
  refine ops_cons rfl (ow_assign rfl ?_)
  refine ops_nil ?_
  refine c_seqR ?_
  refine ops_cons rfl (ow_move rfl ?_)
  refine ops_cons rfl (ow_len Tryz.underlying78 rfl ?_)
  refine ops_cons rfl (ow_make el25 ti92 rfl rfl rfl rfl rfl rfl (by omega) (by omega) ?_)
  intro gO w2 egO oO x1
  replace oO := Own.low oO X.size
  replace hs := hs.ext x1
  replace hn := hn.ext x1
  replace X := Ext.trans X x1; clear x1
  replace oO := oO.to (cs' := (([] : List ModeI) ++ List.replicate (xs.length - 0) (⟨⟨0, 0, []⟩, none, 0⟩ : ModeI)).flatMap ModeI.cells) (by rw [List.nil_append, Nat.sub_zero, ← repL_flat]; try rfl)
  refine ops_cons rfl (ow_assign rfl ?_)
  refine ops_nil ?_
  refine c_seq ?_
  refine c_seqR ?_
  refine ops_cons rfl (ow_assign rfl ?_)
  refine ops_nil ?_
  refine c_block ?_
  refine c_loop (G := Nat × List ModeI) (fun ⟨k, ys⟩ => [(0, .slice A xs.length c), (2, .slice none 0 0), (3, .slice (some ⟨gO, 0, none⟩) xs.length xs.length), (4, .int .i64 (k : Nat))]) (fun ⟨k, ys⟩ wr => k ≤ xs.length ∧ ys.length = k ∧ ys.map (·.m) = (xs.take k).map (·.m) ∧ Disj ys ∧ Own wr w.heap.size 92 3 (some ⟨gO, 0, none⟩) xs.length xs.length ((ys ++ List.replicate (xs.length - k) (⟨⟨0, 0, []⟩, none, 0⟩ : ModeI)).flatMap ModeI.cells) ∧ NOwn wr w.heap.size 2 ys ∧ Sl B wr A (xs.flatMap ModeI.cells) ∧ Nexts B2 wr xs ∧ Ext w wr) (fun ⟨k, ys⟩ => xs.length - k) (0, []) (.cons rfl (.cons rfl (.cons rfl (.cons rfl (.nil _))))) ?_ ?_
  · exact ⟨by omega, rfl, rfl, Disj.nil_, oO, NOwn.nil_, hs, hn, X⟩
  clear hs hn oO
  clear X
  rintro ⟨k, ys⟩ wr ⟨hk0, hy, em, hd, oO, oM, hs, hn, X⟩
  refine c_seq ?_
  refine c_seqR ?_
  refine ops_cons rfl (ow_move rfl ?_)
  refine ops_cons rfl (ow_move rfl ?_)
  refine ops_cons rfl (ow_len Tryz.underlying78 rfl ?_)
  refine ops_cons rfl (ow_lss2 rfl rfl (fun hk => ?_) (fun hk => ?_))
  obtain ⟨x, hx, dx⟩ := drop_at' hk
  refine ops_nil ?_
  refine c_true rfl ?_
  refine c_skip ?_
  refine tq_n ?_
  refine c_seq ?_
  refine c_block ?_
  refine c_region ?_
  refine ops_cons rfl (ow_move rfl ?_)
  refine ops_cons rfl (ow_move rfl ?_)
  refine ops_cons rfl (ow_move rfl ?_)
  refine ops_cons rfl (ow_move rfl ?_)
  refine ops_cons rfl (ow_indexT hs ModeI.len rfl el78 rfl rfl rfl hx rfl ?_)
  have hnx := hn.at_ hx
  have hlx := hz x (List.mem_of_getElem? hx)
  refine ops_cons rfl (ow_loadTA hs ModeI.len hx ti204 rfl ?_)
  have hbd := fun y hy g hg => (Own.lt (oM y hy).1 (g := g) hg).2
  refine ops_cons rfl (ow_call ent212 rfl (ret_mono (toMode_c _ _ _ hnx hlx) ?_))
  rintro _ w4 ⟨AN, cN, rfl, oN, x3⟩
  have LoN := X.size
  replace oO := oO.ext x3
  replace oM := oM.ext x3
  replace hs := hs.ext x3
  replace hn := hn.ext x3
  replace hnx := hnx.ext x3
  replace X := Ext.trans X x3; clear x3
  have hnb := fun g hg => (Own.lt oN (g := g) hg).1
  replace oN := Own.low oN LoN
  refine ops_cons rfl (ow_indexT (oO).sl ModeI.len rfl el25 rfl (by simp [hy]; omega) rfl (fill2_at hy (by omega)) rfl ?_)
  refine ops_cons rfl (ow_storeR oO ti92 rfl rfl rfl rfl (by omega) (by omega) rfl ?_)
  intro w6 oP hg5 z7
  replace oM := oM.grownO oO hg5 (by decide)
  replace hs := hs.grown hg5 (fun g hg => Nat.le_trans Bhs (Own.lt oO hg).1)
  replace hn := hn.grown hg5 (fun g hg => Nat.le_trans Bhn (Own.lt oO hg).1)
  replace hnx := hnx.grown hg5 (fun g hg => Nat.le_trans Bhn (Own.lt oO hg).1)
  replace oN := oN.grown hg5 (Own.neO oN oO (by decide))
  replace X := X.grown hg5 X.size (fun g hg => (Own.lt oO hg).1)
  clear hg5 z7
  replace oP := oP.to (cs' := ((ys ++ [(⟨x.m, AN, cN⟩ : ModeI)]) ++ List.replicate (xs.length - (k + 1)) (⟨⟨0, 0, []⟩, none, 0⟩ : ModeI)).flatMap ModeI.cells) (by rw [← fill2_set hy (by omega), ← set_flat ModeI.len _ _ k (by simp [hy]; omega)]; try rfl)
  refine ops_nil ?_
  refine bq_n ?_
  refine tq_n ?_
  refine c_region ?_
  refine ops_cons rfl (ow_move rfl ?_)
  refine ops_cons rfl (ow_add rfl rfl (w64 (by omega)) ?_)
  refine ops_cons rfl (ow_assign rfl ?_)
  refine ops_nil ?_
  refine tq_n ⟨(k + 1, ys ++ [⟨x.m, AN, cN⟩]), (.cons rfl (.cons rfl (.cons rfl (.cons rfl (.nil _))))), ?_, ?_⟩
  · exact ⟨by omega, (by simp [hy]), (by rw [List.take_add_one, hx]; simp [em]), hd.snoc (x := ⟨x.m, AN, cN⟩) (fun y hy g hg e => absurd (hbd y hy g hg) (Nat.not_lt.2 (hnb g e))), oP, oM.snoc (x := ⟨x.m, AN, cN⟩) oN (by show x.m.next.length ≤ _; omega), hs, hn, X⟩
  · first | omega | (dsimp only; omega)
  rw [fill2_end (by omega)] at oO
  have hkk : k = xs.length := by omega
  refine ops_nil ?_
  refine c_false rfl ?_
  refine c_exit ?_
  refine tq_e ?_
  refine tq_e ?_
  refine bq_e ?_
  refine tq_n ?_
  refine c_seqR ?_
  refine ops_cons rfl (ow_move rfl ?_)
  refine ops_cons rfl (ow_assign rfl ?_)
  refine ops_nil ?_
  refine c_ret ?_
  refine fin_ret1 rfl rfl ?_
  · skip
    have e : ys.length = xs.length := by omega
    rw [← e] at oO
    exact ⟨_, _, ys, by rw [e], by rw [em, List.take_of_length_le (by omega)], hd, oO, oM, X⟩

theorem eqMode_c (m : Mode) (A1 A2 : Option Addr) (c1 c2 B B2 : Nat) (w : World) (hs : Sl B w A1 (m.next.flatMap eI)) (ht : Sl B2 w A2 (m.next.flatMap eI)) (hl : m.next.length ≤ 1048576) :
    Calls Tryz.prog 174 #[.agg (⟨m, A1, c1⟩ : ModeI).cells.toArray, .agg (⟨m, A2, c2⟩ : ModeI).cells.toArray] w (Ret fun v w' => v = .bool true ∧ Ext w w') := by
  have Bhs := hs.1
  have Bht := ht.1
  have X := Ext.refl w
  refine calls_of (args := [.agg (⟨m, A1, c1⟩ : ModeI).cells.toArray, .agg (⟨m, A2, c2⟩ : ModeI).cells.toArray]) Tryz.func174 Tryz.ntmps174 rfl rfl ?_
  refine c_seqR ?_
  refine ops_cons rfl (ow_box rfl rfl ?_)
  intro g4 w3 eg4 b1 x2 zg4
  have lg4 : w.heap.size ≤ g4 := Nat.le_trans X.size (Nat.le_of_eq eg4.symm)
  have pg4hs := Nat.le_trans hs.1 (Nat.le_of_eq eg4.symm)
  have pg4ht := Nat.le_trans ht.1 (Nat.le_of_eq eg4.symm)
  replace hs := hs.ext x2
  replace ht := ht.ext x2
  replace X := Ext.trans X x2; clear x2
  refine ops_cons rfl (ow_box rfl rfl ?_)
  intro g8 w7 eg8 b5 x6 zg8
  have lg8 : w.heap.size ≤ g8 := Nat.le_trans X.size (Nat.le_of_eq eg8.symm)
  have pg8hs := Nat.le_trans hs.1 (Nat.le_of_eq eg8.symm)
  have pg8ht := Nat.le_trans ht.1 (Nat.le_of_eq eg8.symm)
  have ng8b1 := Nat.lt_of_lt_of_eq b1.lt eg8.symm
  replace hs := hs.ext x6
  replace ht := ht.ext x6
  replace b1 := b1.ext x6
  replace X := Ext.trans X x6; clear x6
  refine ops_cons rfl (ow_assign rfl ?_)
  refine ops_nil ?_
  refine c_seq ?_
  refine c_seqR ?_
  refine ops_cons rfl (ow_fieldAddrB off92_0 rfl rfl ?_)
  refine ops_cons rfl (ow_loadB b1 ti2 rfl rfl ?_)
  refine ops_cons rfl (ow_fieldAddrB off92_0 rfl rfl ?_)
  refine ops_cons rfl (ow_loadB b5 ti2 rfl rfl ?_)
  refine ops_cons rfl (ow_neq2 rfl rfl (fun h9 => absurd h9 (by simp)) (fun h9 => ?_))
  refine ops_nil ?_
  refine c_false rfl ?_
  refine c_skip ?_
  refine tq_n ?_
  refine c_seq ?_
  refine c_seqR ?_
  refine ops_cons rfl (ow_fieldAddrB off92_1 rfl rfl ?_)
  refine ops_cons rfl (ow_loadB b1 ti2 rfl rfl ?_)
  refine ops_cons rfl (ow_fieldAddrB off92_1 rfl rfl ?_)
  refine ops_cons rfl (ow_loadB b5 ti2 rfl rfl ?_)
  refine ops_cons rfl (ow_neq2 rfl rfl (fun h10 => absurd h10 (by simp)) (fun h10 => ?_))
  refine ops_nil ?_
  refine c_false rfl ?_
  refine c_skip ?_
  refine tq_n ?_
  refine c_seq ?_
  refine c_seqR ?_
  refine ops_cons rfl (ow_fieldAddrB off92_2 rfl rfl ?_)
  refine ops_cons rfl (ow_loadB b1 ti30 rfl rfl ?_)
  refine ops_cons rfl (ow_fieldAddrB off92_2 rfl rfl ?_)
  refine ops_cons rfl (ow_loadB b5 ti30 rfl rfl ?_)
  refine ops_cons rfl (ow_call ent25 rfl (ret_mono (eqInt_c _ _ _ _ _ _ _ _ hs ht hl) ?_))
  rintro _ w12 ⟨rfl, x11⟩
  replace hs := hs.ext x11
  replace ht := ht.ext x11
  replace b1 := b1.ext x11
  replace b5 := b5.ext x11
  replace X := Ext.trans X x11; clear x11
  refine ops_cons rfl (ow_not rfl ?_)
  refine ops_nil ?_
  refine c_false rfl ?_
  refine c_skip ?_
  refine tq_n ?_
  refine c_seqR ?_
  refine ops_cons rfl (ow_assign rfl ?_)
  refine ops_nil ?_
  refine c_ret ?_
  refine fin_ret1 rfl rfl ?_
  exact ⟨by rfl, X⟩

theorem eqModes_c (A A' : Option Addr) (B B' B2 B3 c c' : Nat) (xs ys : List ModeI) (w : World) (hs : Sl B w A (xs.flatMap ModeI.cells)) (hn : Nexts B2 w xs) (ht : Sl B' w A' (ys.flatMap ModeI.cells)) (hn2 : Nexts B3 w ys) (em : xs.map (·.m) = ys.map (·.m)) (hl : xs.length ≤ 1048576) (hz : ∀ x ∈ xs, x.m.next.length ≤ 1048576) :
    Calls Tryz.prog 89 #[.slice A xs.length c, .slice A' ys.length c'] w (Ret fun v w' => v = .bool true ∧ Ext w w') := by
  have el : xs.length = ys.length := by have := congrArg List.length em; simpa using this
  have Bhs := hs.1
  have Bhn := hn.1
  have Bht := ht.1
  have Bhn2 := hn2.1
  have X := Ext.refl w
  refine calls_of (args := [.slice A xs.length c, .slice A' ys.length c']) Tryz.func89 Tryz.ntmps89 rfl rfl ?_
  refine c_seqR ?_
  refine ops_cons rfl (ow_assign rfl ?_)
  refine ops_nil ?_
  refine c_seq ?_
  refine c_seqR ?_
  refine ops_cons rfl (ow_move rfl ?_)
  refine ops_cons rfl (ow_len Tryz.underlying25 rfl ?_)
  refine ops_cons rfl (ow_move rfl ?_)
  refine ops_cons rfl (ow_len Tryz.underlying25 rfl ?_)
  refine ops_cons rfl (ow_neq2 rfl rfl (fun h1 => absurd h1 (by rw [el]; simp)) (fun h1 => ?_))
  refine ops_nil ?_
  refine c_false rfl ?_
  refine c_skip ?_
  refine tq_n ?_
  refine c_seq ?_
  refine c_seqR ?_
  refine ops_cons rfl (ow_assign rfl ?_)
  refine ops_nil ?_
  refine c_block ?_
  refine c_loop (G := Nat) (fun k => [(0, .slice A xs.length c), (1, .slice A' ys.length c'), (5, .int .i64 (k : Nat))]) (fun k wr => k ≤ xs.length ∧ Sl B wr A (xs.flatMap ModeI.cells) ∧ Nexts B2 wr xs ∧ Sl B' wr A' (ys.flatMap ModeI.cells) ∧ Nexts B3 wr ys ∧ Ext w wr) (fun k => xs.length - k) 0 (.cons rfl (.cons rfl (.cons rfl (.nil _)))) ?_ ?_
  · exact ⟨by omega, hs, hn, ht, hn2, X⟩
  clear hs hn ht hn2
  clear X
  rintro k wr ⟨hk0, hs, hn, ht, hn2, X⟩
  refine c_seq ?_
  refine c_seqR ?_
  refine ops_cons rfl (ow_move rfl ?_)
  refine ops_cons rfl (ow_move rfl ?_)
  refine ops_cons rfl (ow_len Tryz.underlying25 rfl ?_)
  refine ops_cons rfl (ow_lss2 rfl rfl (fun hk => ?_) (fun hk => ?_))
  obtain ⟨x, hx, dx⟩ := drop_at' hk
  obtain ⟨y, hy, _⟩ := drop_at (xs := ys) (k := k) (by omega)
  have exy : x.m = y.m := by have h1 := map_at (f := (·.m)) hx; rw [em, map_at hy] at h1; injection h1 with h1; exact h1.symm
  obtain ⟨my, Ay, cy⟩ := y
  simp only at exy
  subst exy
  have hlx := hz x (List.mem_of_getElem? hx)
  refine ops_nil ?_
  refine c_true rfl ?_
  refine c_skip ?_
  refine tq_n ?_
  refine c_seq ?_
  refine c_block ?_
  refine c_seqD [false, false, false, false, false, false, false, false, false, false] mixed (by kernel_rfl) ?_
  refine f_q rfl (fun wq sq => ow_move rfl ⟨rfl, Ext.refl _⟩) ?_
  refine f_q rfl (fun wq sq => ow_move rfl ⟨rfl, Ext.refl _⟩) ?_
  refine f_q rfl (fun wq sq => ow_indexT (hs.ext sq) ModeI.len rfl el25 rfl rfl rfl hx rfl ⟨rfl, Ext.refl _⟩) ?_
  refine f_q rfl (fun wq sq => ow_loadTA (hs.ext sq) ModeI.len hx ti92 rfl ⟨rfl, Ext.refl _⟩) ?_
  refine f_q rfl (fun wq sq => ow_move rfl ⟨rfl, Ext.refl _⟩) ?_
  refine f_q rfl (fun wq sq => ow_move rfl ⟨rfl, Ext.refl _⟩) ?_
  refine f_q rfl (fun wq sq => ow_indexT (ht.ext sq) ModeI.len rfl el25 rfl rfl rfl hy rfl ⟨rfl, Ext.refl _⟩) ?_
  refine f_q rfl (fun wq sq => ow_loadTA (ht.ext sq) ModeI.len hy ti92 rfl ⟨rfl, Ext.refl _⟩) ?_
  refine f_q rfl (fun wq sq => ow_call ent174 rfl (eqMode_c x.m x.A Ay x.c cy _ _ _ ((hn.at_ hx).ext sq) ((hn2.at_ hy).ext sq) hlx)) ?_
  refine f_q rfl (fun wq sq => ow_not rfl ⟨rfl, Ext.refl _⟩) ?_
  refine f_nil (fun w2 sq => ?_)
  have xq := sq
  replace hs := hs.ext xq
  replace hn := hn.ext xq
  replace ht := ht.ext xq
  replace hn2 := hn2.ext xq
  replace X := Ext.trans X xq; clear xq sq
  refine ops_nil ?_
  refine c_false rfl ?_
  refine c_skip ?_
  refine bq_n ?_
  refine tq_n ?_
  refine c_region ?_
  refine ops_cons rfl (ow_move rfl ?_)
  refine ops_cons rfl (ow_add rfl rfl (w64 (by omega)) ?_)
  refine ops_cons rfl (ow_assign rfl ?_)
  refine ops_nil ?_
  refine tq_n ⟨k + 1, (.cons rfl (.cons rfl (.cons rfl (.nil _)))), ?_, ?_⟩
  · exact ⟨by omega, hs, hn, ht, hn2, X⟩
  · first | omega | (dsimp only; omega)
  refine ops_nil ?_
  refine c_false rfl ?_
  refine c_exit ?_
  refine tq_e ?_
  refine tq_e ?_
  refine bq_e ?_
  refine tq_n ?_
  refine c_seqR ?_
  refine ops_cons rfl (ow_assign rfl ?_)
  refine ops_nil ?_
  refine c_ret ?_
  refine fin_ret1 rfl rfl ?_
  exact ⟨by rfl, X⟩

theorem szModesG_c (A : Option Addr) (B B2 c : Nat) (xs : List ModeI) (left : Int) (w : World) (hs : Sl B w A (xs.flatMap ModeI.cells)) (hn : Nexts B2 w xs) (hm : xs.length ≤ 9223372036854775807) (hl : 0 ≤ left ∧ left ≤ 1048576) :
    Calls Tryz.prog 138 #[.slice A xs.length c, .int .i64 left] w (Ret fun v w' => v = .int .i64 (szM xs left) ∧ Ext w w') := by
  have Bhs := hs.1
  have Bhn := hn.1
  have X := Ext.refl w
  refine calls_of (args := [.slice A xs.length c, .int .i64 left]) Tryz.func138 Tryz.ntmps138 rfl rfl ?_
  refine c_seqR ?_
  refine ops_cons rfl (ow_assign rfl ?_)
  refine ops_nil ?_
  refine c_seqR ?_
  refine ops_cons rfl (ow_move rfl ?_)
  refine ops_cons rfl (ow_move rfl ?_)
  refine ops_cons rfl (ow_len Tryz.underlying78 rfl ?_)
  refine ops_cons rfl (ow_sub rfl rfl (w64 (by omega)) ?_)
  refine ops_cons rfl (ow_assign rfl ?_)
  refine ops_nil ?_
  refine c_seq ?_
  refine c_seqR ?_
  refine ops_cons rfl (ow_move rfl ?_)
  refine ops_cons rfl (ow_lss2 rfl rfl (fun h1 => ?_) (fun h1 => ?_))
  refine ops_nil ?_
  refine c_true rfl ?_
  refine c_seqR ?_
  refine ops_cons rfl (ow_assign rfl ?_)
  refine ops_nil ?_
  refine c_ret ?_
  refine tq_r ?_
  refine fin_ret1 rfl rfl ?_
  · skip
    refine ⟨congrArg (Value.int .i64) ?_, X⟩
    first
    | (unfold szM; rw [if_pos ‹_›]; done)
    | (rw [hi, drop_end hk]; rfl)
    | (rw [hi, dx, szMs, if_pos ‹_›])
  refine ops_nil ?_
  refine c_false rfl ?_
  refine c_skip ?_
  refine tq_n ?_
  refine c_seq ?_
  refine c_seqR ?_
  refine ops_cons rfl (ow_assign rfl ?_)
  refine ops_nil ?_
  refine c_block ?_
  refine c_loop (G := Nat × Int) (fun ⟨k, lf⟩ => [(0, .slice A xs.length c), (1, .int .i64 lf), (5, .int .i64 (k : Nat))]) (fun ⟨k, lf⟩ wr => k ≤ xs.length ∧ (0 ≤ lf ∧ lf ≤ 1048576) ∧ szM xs left = szMs (xs.drop k) lf ∧ Sl B wr A (xs.flatMap ModeI.cells) ∧ Nexts B2 wr xs ∧ Ext w wr) (fun ⟨k, lf⟩ => xs.length - k) (0, left - (xs.length : Int)) (.cons rfl (.cons rfl (.cons rfl (.nil _)))) ?_ ?_
  · exact ⟨by omega, by omega, (by unfold szM; rw [if_neg ‹_›]; rfl), hs, hn, X⟩
  clear hs hn
  clear X
  rintro ⟨k, lf⟩ wr ⟨hk0, hl0, hi, hs, hn, X⟩
  refine c_seq ?_
  refine c_seqR ?_
  refine ops_cons rfl (ow_move rfl ?_)
  refine ops_cons rfl (ow_move rfl ?_)
  refine ops_cons rfl (ow_len Tryz.underlying78 rfl ?_)
  refine ops_cons rfl (ow_lss2 rfl rfl (fun hk => ?_) (fun hk => ?_))
  obtain ⟨x, hx, dx⟩ := drop_at' hk
  refine ops_nil ?_
  refine c_true rfl ?_
  refine c_skip ?_
  refine tq_n ?_
  refine c_seq ?_
  refine c_block ?_
  refine c_seqR ?_
  refine ops_cons rfl (ow_move rfl ?_)
  refine ops_cons rfl (ow_move rfl ?_)
  refine ops_cons rfl (ow_indexT hs ModeI.len rfl el78 rfl rfl rfl hx rfl ?_)
  refine ops_cons rfl (ow_loadTA hs ModeI.len hx ti204 rfl ?_)
  refine ops_cons rfl (ow_move rfl ?_)
  have hsz : szInt x.m.next.length lf ≤ 1048576 := by unfold szInt; split <;> omega
  refine ops_cons rfl (ow_call ent210 rfl (ret_mono (szMode_c _ _ _ hl0 (hn.len hx)) ?_))
  rintro _ w3 ⟨rfl, x2⟩
  replace hs := hs.ext x2
  replace hn := hn.ext x2
  replace X := Ext.trans X x2; clear x2
  refine ops_cons rfl (ow_assign rfl ?_)
  refine ops_nil ?_
  refine c_seqR ?_
  refine ops_cons rfl (ow_move rfl ?_)
  refine ops_cons rfl (ow_lss2 rfl rfl (fun h4 => ?_) (fun h4 => ?_))
  refine ops_nil ?_
  refine c_true rfl ?_
  refine c_seqR ?_
  refine ops_cons rfl (ow_assign rfl ?_)
  refine ops_nil ?_
  refine c_ret ?_
  refine bq_r ?_
  refine tq_r ?_
  refine tq_r ?_
  refine bq_r ?_
  refine tq_r ?_
  refine fin_ret1 rfl rfl ?_
  · skip
    refine ⟨congrArg (Value.int .i64) ?_, X⟩
    first
    | (unfold szM; rw [if_pos ‹_›]; done)
    | (rw [hi, drop_end hk]; rfl)
    | (rw [hi, dx, szMs, if_pos ‹_›])
  refine ops_nil ?_
  refine c_false rfl ?_
  refine c_skip ?_
  refine bq_n ?_
  refine tq_n ?_
  refine c_region ?_
  refine ops_cons rfl (ow_move rfl ?_)
  refine ops_cons rfl (ow_add rfl rfl (w64 (by omega)) ?_)
  refine ops_cons rfl (ow_assign rfl ?_)
  refine ops_nil ?_
  refine tq_n ⟨(k + 1, szInt x.m.next.length lf), (.cons rfl (.cons rfl (.cons rfl (.nil _)))), ?_, ?_⟩
  · exact ⟨by omega, by omega, (by rw [hi, dx, szMs, if_neg ‹_›]), hs, hn, X⟩
  · first | omega | (dsimp only; omega)
  refine ops_nil ?_
  refine c_false rfl ?_
  refine c_exit ?_
  refine tq_e ?_
  refine tq_e ?_
  refine bq_e ?_
  refine tq_n ?_
  refine c_seqR ?_
  refine ops_cons rfl (ow_move rfl ?_)
  refine ops_cons rfl (ow_assign rfl ?_)
  refine ops_nil ?_
  refine c_ret ?_
  refine fin_ret1 rfl rfl ?_
  · skip
    refine ⟨congrArg (Value.int .i64) ?_, X⟩
    first
    | (unfold szM; rw [if_pos ‹_›]; done)
    | (rw [hi, drop_end hk]; rfl)
    | (rw [hi, dx, szMs, if_pos ‹_›])
end Go.Proofs.YtdoibplhbdkapaaGreatDoor
namespace Go.Proofs.YtdoibplhbdkapaaGreatDoor
open Go.RowKit
set_option linter.unusedVariables false
set_option linter.unusedSimpArgs false
set_option maxRecDepth 20000
theorem szMedl_c (m : MedlI) (B : Nat) (w : World) (hm : Med B w m) (hw : m.fit) :
    Calls Tryz.prog 61 #[.agg m.cells.toArray, .int .i64 1048576] w (Ret fun v w' => v = .int .i64 (szMedlF m 1048576) ∧ Ext w w') := by
  obtain ⟨f1, f2, f3, f4⟩ := hw
  have Bhm := hm.1
  have X := Ext.refl w
  refine calls_of (args := [.agg m.cells.toArray, .int .i64 1048576]) Tryz.func61 Tryz.ntmps61 rfl rfl ?_
  refine c_seqR ?_
  refine ops_cons rfl (ow_box rfl rfl ?_)
  intro g4 w3 eg4 b1 x2 zg4
  have lg4 : w.heap.size ≤ g4 := Nat.le_trans X.size (Nat.le_of_eq eg4.symm)
  have pg4hm := Nat.le_trans hm.1 (Nat.le_of_eq eg4.symm)
  replace hm := hm.ext x2
  replace X := Ext.trans X x2; clear x2
  refine ops_cons rfl (ow_assign rfl ?_)
  refine ops_nil ?_
  refine c_seqR ?_
  refine ops_cons rfl (ow_fieldAddrB off81_1 rfl rfl ?_)
  refine ops_cons rfl (ow_loadB b1 ti77 rfl rfl ?_)
  refine ops_cons rfl (ow_move rfl ?_)
  refine ops_cons rfl (ow_call ent137 rfl (ret_mono (szNodes_c _ _ _ _ _ _ hm.sn f1 f4 (by omega)) ?_))
  rintro _ w6 ⟨rfl, x5⟩
  replace hm := hm.ext x5
  replace b1 := b1.ext x5
  replace X := Ext.trans X x5; clear x5
  refine ops_cons rfl (ow_assign rfl ?_)
  refine ops_nil ?_
  refine c_seq ?_
  refine c_seqR ?_
  refine ops_cons rfl (ow_move rfl ?_)
  refine ops_cons rfl (ow_lss2 rfl rfl (fun q1 => ?_) (fun q1 => ?_))
  refine ops_nil ?_
  refine c_true rfl ?_
  refine c_seqR ?_
  refine ops_cons rfl (ow_assign rfl ?_)
  refine ops_nil ?_
  refine c_ret ?_
  refine tq_r ?_
  refine fin_ret1 rfl rfl ?_
  · skip
    refine ⟨congrArg (Value.int .i64) ?_, X⟩
    unfold szMedlF
    first | (rw [if_pos q1]; done) | (rw [if_neg q1, if_pos q2]; done) | (rw [if_neg q1, if_neg q2, if_pos q3]; done) | rw [if_neg q1, if_neg q2, if_neg q3]
  have k1 := szN_le q1
  refine ops_nil ?_
  refine c_false rfl ?_
  refine c_skip ?_
  refine tq_n ?_
  refine c_seqR ?_
  refine ops_cons rfl (ow_fieldAddrB off81_2 rfl rfl ?_)
  refine ops_cons rfl (ow_loadB b1 ti78 rfl rfl ?_)
  refine ops_cons rfl (ow_move rfl ?_)
  refine ops_cons rfl (ow_call ent138 rfl (ret_mono (szModesG_c _ _ _ _ _ _ _ hm.sm hm.sx f2 ⟨by omega, k1.1⟩) ?_))
  rintro _ w9 ⟨rfl, x7⟩
  replace hm := hm.ext x7
  replace b1 := b1.ext x7
  replace X := Ext.trans X x7; clear x7
  refine ops_cons rfl (ow_assign rfl ?_)
  refine ops_nil ?_
  refine c_seq ?_
  refine c_seqR ?_
  refine ops_cons rfl (ow_move rfl ?_)
  refine ops_cons rfl (ow_lss2 rfl rfl (fun q2 => ?_) (fun q2 => ?_))
  refine ops_nil ?_
  refine c_true rfl ?_
  refine c_seqR ?_
  refine ops_cons rfl (ow_assign rfl ?_)
  refine ops_nil ?_
  refine c_ret ?_
  refine tq_r ?_
  refine fin_ret1 rfl rfl ?_
  · skip
    refine ⟨congrArg (Value.int .i64) ?_, X⟩
    unfold szMedlF
    first | (rw [if_pos q1]; done) | (rw [if_neg q1, if_pos q2]; done) | (rw [if_neg q1, if_neg q2, if_pos q3]; done) | rw [if_neg q1, if_neg q2, if_neg q3]
  have k2 := szM_le2 q2
  refine ops_nil ?_
  refine c_false rfl ?_
  refine c_skip ?_
  refine tq_n ?_
  refine c_seqR ?_
  refine ops_cons rfl (ow_fieldAddrB off81_3 rfl rfl ?_)
  refine ops_cons rfl (ow_loadB b1 ti79 rfl rfl ?_)
  refine ops_cons rfl (ow_move rfl ?_)
  refine ops_cons rfl (ow_call ent139 rfl (ret_mono (szSlots_c _ B _ m.ss _ _ f3 ⟨by omega, by omega⟩) ?_))
  rintro _ w11 ⟨rfl, x10⟩
  replace hm := hm.ext x10
  replace b1 := b1.ext x10
  replace X := Ext.trans X x10; clear x10
  refine ops_cons rfl (ow_assign rfl ?_)
  refine ops_nil ?_
  refine c_seq ?_
  refine c_seqR ?_
  refine ops_cons rfl (ow_move rfl ?_)
  refine ops_cons rfl (ow_lss2 rfl rfl (fun q3 => ?_) (fun q3 => ?_))
  refine ops_nil ?_
  refine c_true rfl ?_
  refine c_seqR ?_
  refine ops_cons rfl (ow_assign rfl ?_)
  refine ops_nil ?_
  refine c_ret ?_
  refine tq_r ?_
  refine fin_ret1 rfl rfl ?_
  · skip
    refine ⟨congrArg (Value.int .i64) ?_, X⟩
    unfold szMedlF
    first | (rw [if_pos q1]; done) | (rw [if_neg q1, if_pos q2]; done) | (rw [if_neg q1, if_neg q2, if_pos q3]; done) | rw [if_neg q1, if_neg q2, if_neg q3]
  refine ops_nil ?_
  refine c_false rfl ?_
  refine c_skip ?_
  refine tq_n ?_
  refine c_seqR ?_
  refine ops_cons rfl (ow_move rfl ?_)
  refine ops_cons rfl (ow_assign rfl ?_)
  refine ops_nil ?_
  refine c_ret ?_
  refine fin_ret1 rfl rfl ?_
  · skip
    refine ⟨congrArg (Value.int .i64) ?_, X⟩
    unfold szMedlF
    first | (rw [if_pos q1]; done) | (rw [if_neg q1, if_pos q2]; done) | (rw [if_neg q1, if_neg q2, if_pos q3]; done) | rw [if_neg q1, if_neg q2, if_neg q3]

theorem toMedl_c (m : MedlI) (B : Nat) (w : World) (hm : Med B w m) (hz : m.small) :
    Calls Tryz.prog 62 #[.agg m.cells.toArray] w (Ret fun v w' => ∃ m', v = .agg m'.cells.toArray ∧ m'.d = m.d ∧ MOwn w' w.heap.size 59 92 2 89 m' ∧ Ext w w') := by
  have hls := hz.ls
  have hlm := hz.lm
  have hln := hz.ln
  have Bhm := hm.1
  have X := Ext.refl w
  refine calls_of (args := [.agg m.cells.toArray]) Tryz.func62 Tryz.ntmps62 rfl rfl ?_
  refine c_seqR ?_
  refine ops_cons rfl (ow_box rfl rfl ?_)
  intro g4 w3 eg4 b1 x2 zg4
  have lg4 : w.heap.size ≤ g4 := Nat.le_trans X.size (Nat.le_of_eq eg4.symm)
  have pg4hm := Nat.le_trans hm.1 (Nat.le_of_eq eg4.symm)
  replace hm := hm.ext x2
  replace X := Ext.trans X x2; clear x2
  refine ops_cons rfl (ow_alloc ti28 ?_)
  intro g8 w7 eg8 b5 x6 zg8
  have lg8 : w.heap.size ≤ g8 := Nat.le_trans X.size (Nat.le_of_eq eg8.symm)
  have pg8hm := Nat.le_trans hm.1 (Nat.le_of_eq eg8.symm)
  have ng8b1 := Nat.lt_of_lt_of_eq b1.lt eg8.symm
  replace hm := hm.ext x6
  replace b1 := b1.ext x6
  replace X := Ext.trans X x6; clear x6
  refine ops_nil ?_
  refine c_seqR ?_
  refine ops_cons rfl (ow_alloc ti28 ?_)
  intro g12 w11 eg12 b9 x10 zg12
  have lg12 : w.heap.size ≤ g12 := Nat.le_trans X.size (Nat.le_of_eq eg12.symm)
  have pg12hm := Nat.le_trans hm.1 (Nat.le_of_eq eg12.symm)
  have ng12b1 := Nat.lt_of_lt_of_eq b1.lt eg12.symm
  have ng12b5 := Nat.lt_of_lt_of_eq b5.lt eg12.symm
  replace hm := hm.ext x10
  replace b1 := b1.ext x10
  replace b5 := b5.ext x10
  replace X := Ext.trans X x10; clear x10
  refine ops_nil ?_
  refine c_seqR ?_
  refine ops_cons rfl (ow_fieldAddrB off81_0 rfl rfl ?_)
  refine ops_cons rfl (ow_loadB b1 ti2 rfl rfl ?_)
  refine ops_cons rfl (ow_fieldAddrB off28_0 rfl rfl ?_)
  refine ops_cons rfl (ow_storeB b9 ti2 rfl rfl rfl rfl rfl rfl ?_)
  intro w14 b16 hg13 z15
  replace hm := hm.grown hg13 (by intro g hg; injection hg; omega)
  replace b1 := b1.grown hg13 (by intro h; injection h; omega)
  replace b5 := b5.grown hg13 (by intro h; injection h; omega)
  replace X := X.grown hg13 X.size (by intro g hg; injection hg; omega)
  clear hg13 b9
  refine ops_nil ?_
  refine c_seqR ?_
  refine ops_cons rfl (ow_fieldAddrB off81_1 rfl rfl ?_)
  refine ops_cons rfl (ow_loadB b1 ti77 rfl rfl ?_)
  refine ops_cons rfl (ow_call ent140 rfl (ret_mono (toNodeS_c _ _ _ _ _ hm.sn hln) ?_))
  rintro _ w18 ⟨A19, c20, rfl, oN, x17⟩
  replace oN := Own.low oN X.size
  replace hm := hm.ext x17
  replace b1 := b1.ext x17
  replace b5 := b5.ext x17
  replace b16 := b16.ext x17
  replace X := Ext.trans X x17; clear x17
  refine ops_cons rfl (ow_fieldAddrB off28_1 rfl rfl ?_)
  refine ops_cons rfl (ow_storeB b16 ti24 rfl rfl rfl rfl rfl rfl ?_)
  intro w22 b24 hg21 z23
  replace hm := hm.grown hg21 (by intro g hg; injection hg; omega)
  replace b1 := b1.grown hg21 (by intro h; injection h; omega)
  replace b5 := b5.grown hg21 (by intro h; injection h; omega)
  replace oN := oN.grownBlk hg21 (Own.neT oN b16 (by decide))
  replace X := X.grown hg21 X.size (by intro g hg; injection hg; omega)
  clear hg21 b16
  refine ops_nil ?_
  refine c_seqR ?_
  refine ops_cons rfl (ow_fieldAddrB off81_2 rfl rfl ?_)
  refine ops_cons rfl (ow_loadB b1 ti78 rfl rfl ?_)
  refine ops_cons rfl (ow_call ent141 rfl (ret_mono (toModes_c _ _ _ _ _ _ hm.sm hm.sx hlm hz.lx) ?_))
  rintro _ w26 ⟨A27, c28, ys, rfl, em, hdj, oM, oMn, x25⟩
  replace oM := Own.low oM X.size
  replace oMn := NOwn.low oMn X.size
  replace hm := hm.ext x25
  replace b1 := b1.ext x25
  replace b5 := b5.ext x25
  replace oN := oN.ext x25
  replace b24 := b24.ext x25
  replace X := Ext.trans X x25; clear x25
  refine ops_cons rfl (ow_fieldAddrB off28_2 rfl rfl ?_)
  refine ops_cons rfl (ow_storeB b24 ti25 rfl rfl rfl rfl rfl rfl ?_)
  intro w30 b32 hg29 z31
  replace hm := hm.grown hg29 (by intro g hg; injection hg; omega)
  replace b1 := b1.grown hg29 (by intro h; injection h; omega)
  replace b5 := b5.grown hg29 (by intro h; injection h; omega)
  replace oN := oN.grownBlk hg29 (Own.neT oN b24 (by decide))
  replace oM := oM.grownBlk hg29 (Own.neT oM b24 (by decide))
  replace oMn := oMn.grownB b24 hg29 (by decide)
  replace X := X.grown hg29 X.size (by intro g hg; injection hg; omega)
  clear hg29 b24
  refine ops_nil ?_
  refine c_seqR ?_
  refine ops_cons rfl (ow_fieldAddrB off81_3 rfl rfl ?_)
  refine ops_cons rfl (ow_loadB b1 ti79 rfl rfl ?_)
  refine ops_cons rfl (ow_call ent142 rfl (ret_mono (toSlotIS_c _ _ _ _ _ hm.ss hls) ?_))
  rintro _ w34 ⟨A35, c36, rfl, oS, x33⟩
  replace oS := Own.low oS X.size
  replace hm := hm.ext x33
  replace b1 := b1.ext x33
  replace b5 := b5.ext x33
  replace oN := oN.ext x33
  replace oM := oM.ext x33
  replace oMn := oMn.ext x33
  replace b32 := b32.ext x33
  replace X := Ext.trans X x33; clear x33
  refine ops_cons rfl (ow_fieldAddrB off28_3 rfl rfl ?_)
  refine ops_cons rfl (ow_storeB b32 ti26 rfl rfl rfl rfl rfl rfl ?_)
  intro w38 b40 hg37 z39
  replace hm := hm.grown hg37 (by intro g hg; injection hg; omega)
  replace b1 := b1.grown hg37 (by intro h; injection h; omega)
  replace b5 := b5.grown hg37 (by intro h; injection h; omega)
  replace oN := oN.grownBlk hg37 (Own.neT oN b32 (by decide))
  replace oM := oM.grownBlk hg37 (Own.neT oM b32 (by decide))
  replace oMn := oMn.grownB b32 hg37 (by decide)
  replace oS := oS.grownBlk hg37 (Own.neT oS b32 (by decide))
  replace X := X.grown hg37 X.size (by intro g hg; injection hg; omega)
  clear hg37 b32
  refine ops_nil ?_
  refine c_seqR ?_
  refine ops_cons rfl (ow_loadAB b40 ti28 rfl rfl ?_)
  refine ops_cons rfl (ow_storeB b5 ti28 rfl rfl rfl rfl rfl rfl ?_)
  intro w42 b44 hg41 z43
  replace hm := hm.grown hg41 (by intro g hg; injection hg; omega)
  replace b1 := b1.grown hg41 (by intro h; injection h; omega)
  replace oN := oN.grownBlk hg41 (Own.neT oN b5 (by decide))
  replace oM := oM.grownBlk hg41 (Own.neT oM b5 (by decide))
  replace oMn := oMn.grownB b5 hg41 (by decide)
  replace oS := oS.grownBlk hg41 (Own.neT oS b5 (by decide))
  replace b40 := b40.grown hg41 (by intro h; injection h; omega)
  replace X := X.grown hg41 X.size (by intro g hg; injection hg; omega)
  clear hg41 b5
  refine ops_nil ?_
  refine c_ret ?_
  refine fin_cell1 rfl rfl b44 ti28 rfl ?_
  exact ⟨⟨m.id, _, m.ns, _, _, ys, _, _, m.ss, _⟩, rfl, congrArg (fun z => (⟨m.id, m.ns, z, m.ss⟩ : MedlD)) em, ⟨oN, oM, oMn, hdj, oS⟩, X⟩

theorem eqMedl0_c (m : MedlI) (B B2 : Nat) (A2 : Option Addr) (c2 : Nat) (A3 : Option Addr) (ms2 : List ModeI) (c3 : Nat) (A4 : Option Addr) (c4 : Nat) (w : World) (hm : Med B w m) (h2 : Med B2 w (⟨m.id, A2, m.ns, c2, A3, ms2, c3, A4, m.ss, c4⟩ : MedlI)) (em : ms2.map (·.m) = m.ms.map (·.m)) (hz : m.small) :
    Calls Tryz.prog 24 #[.agg m.cells.toArray, .agg (⟨m.id, A2, m.ns, c2, A3, ms2, c3, A4, m.ss, c4⟩ : MedlI).cells.toArray] w (Ret fun v w' => v = .bool true ∧ Ext w w') := by
  have hls := hz.ls
  have hlm := hz.lm
  have hln := hz.ln
  have Bhm := hm.1
  have Bh2 := h2.1
  have X := Ext.refl w
  refine calls_of (args := [.agg m.cells.toArray, .agg (⟨m.id, A2, m.ns, c2, A3, ms2, c3, A4, m.ss, c4⟩ : MedlI).cells.toArray]) Tryz.func24 Tryz.ntmps24 rfl rfl ?_
  refine c_seqR ?_
  refine ops_cons rfl (ow_box rfl rfl ?_)
  intro g4 w3 eg4 b1 x2 zg4
  have lg4 : w.heap.size ≤ g4 := Nat.le_trans X.size (Nat.le_of_eq eg4.symm)
  have pg4hm := Nat.le_trans hm.1 (Nat.le_of_eq eg4.symm)
  have pg4h2 := Nat.le_trans h2.1 (Nat.le_of_eq eg4.symm)
  replace hm := hm.ext x2
  replace h2 := h2.ext x2
  replace X := Ext.trans X x2; clear x2
  refine ops_cons rfl (ow_box rfl rfl ?_)
  intro g8 w7 eg8 b5 x6 zg8
  have lg8 : w.heap.size ≤ g8 := Nat.le_trans X.size (Nat.le_of_eq eg8.symm)
  have pg8hm := Nat.le_trans hm.1 (Nat.le_of_eq eg8.symm)
  have pg8h2 := Nat.le_trans h2.1 (Nat.le_of_eq eg8.symm)
  have ng8b1 := Nat.lt_of_lt_of_eq b1.lt eg8.symm
  replace hm := hm.ext x6
  replace h2 := h2.ext x6
  replace b1 := b1.ext x6
  replace X := Ext.trans X x6; clear x6
  refine ops_cons rfl (ow_assign rfl ?_)
  refine ops_nil ?_
  refine c_seq ?_
  refine c_seqR ?_
  refine ops_cons rfl (ow_fieldAddrB off28_0 rfl rfl ?_)
  refine ops_cons rfl (ow_loadB b1 ti2 rfl rfl ?_)
  refine ops_cons rfl (ow_fieldAddrB off28_0 rfl rfl ?_)
  refine ops_cons rfl (ow_loadB b5 ti2 rfl rfl ?_)
  refine ops_cons rfl (ow_neq2 rfl rfl (fun h9 => absurd h9 (by simp)) (fun h9 => ?_))
  refine ops_nil ?_
  refine c_false rfl ?_
  refine c_skip ?_
  refine tq_n ?_
  refine c_seq ?_
  refine c_seqR ?_
  refine ops_cons rfl (ow_fieldAddrB off28_1 rfl rfl ?_)
  refine ops_cons rfl (ow_loadB b1 ti24 rfl rfl ?_)
  refine ops_cons rfl (ow_fieldAddrB off28_1 rfl rfl ?_)
  refine ops_cons rfl (ow_loadB b5 ti24 rfl rfl ?_)
  refine ops_cons rfl (ow_call ent88 rfl (ret_mono (eqNodeS_c _ _ _ _ _ _ m.ns _ hm.sn h2.sn hln) ?_))
  rintro _ w11 ⟨rfl, x10⟩
  replace hm := hm.ext x10
  replace h2 := h2.ext x10
  replace b1 := b1.ext x10
  replace b5 := b5.ext x10
  replace X := Ext.trans X x10; clear x10
  refine ops_cons rfl (ow_not rfl ?_)
  refine ops_nil ?_
  refine c_false rfl ?_
  refine c_skip ?_
  refine tq_n ?_
  refine c_seq ?_
  refine c_seqR ?_
  refine ops_cons rfl (ow_fieldAddrB off28_2 rfl rfl ?_)
  refine ops_cons rfl (ow_loadB b1 ti25 rfl rfl ?_)
  refine ops_cons rfl (ow_fieldAddrB off28_2 rfl rfl ?_)
  refine ops_cons rfl (ow_loadB b5 ti25 rfl rfl ?_)
  refine ops_cons rfl (ow_call ent89 rfl (ret_mono (eqModes_c _ _ _ _ _ _ _ _ m.ms ms2 _ hm.sm hm.sx h2.sm h2.sx em.symm hlm hz.lx) ?_))
  rintro _ w13 ⟨rfl, x12⟩
  replace hm := hm.ext x12
  replace h2 := h2.ext x12
  replace b1 := b1.ext x12
  replace b5 := b5.ext x12
  replace X := Ext.trans X x12; clear x12
  refine ops_cons rfl (ow_not rfl ?_)
  refine ops_nil ?_
  refine c_false rfl ?_
  refine c_skip ?_
  refine tq_n ?_
  refine c_seq ?_
  refine c_seqR ?_
  refine ops_cons rfl (ow_fieldAddrB off28_3 rfl rfl ?_)
  refine ops_cons rfl (ow_loadB b1 ti26 rfl rfl ?_)
  refine ops_cons rfl (ow_fieldAddrB off28_3 rfl rfl ?_)
  refine ops_cons rfl (ow_loadB b5 ti26 rfl rfl ?_)
  refine ops_cons rfl (ow_call ent90 rfl (ret_mono (eqSlotIS_c _ _ _ _ _ _ m.ss _ hm.ss h2.ss hls) ?_))
  rintro _ w15 ⟨rfl, x14⟩
  replace hm := hm.ext x14
  replace h2 := h2.ext x14
  replace b1 := b1.ext x14
  replace b5 := b5.ext x14
  replace X := Ext.trans X x14; clear x14
  refine ops_cons rfl (ow_not rfl ?_)
  refine ops_nil ?_
  refine c_false rfl ?_
  refine c_skip ?_
  refine tq_n ?_
  refine c_seqR ?_
  refine ops_cons rfl (ow_assign rfl ?_)
  refine ops_nil ?_
  refine c_ret ?_
  refine fin_ret1 rfl rfl ?_
  exact ⟨by rfl, X⟩

theorem eqMedl_c (m m2 : MedlI) (B B2 : Nat) (w : World) (hm : Med B w m) (h2 : Med B2 w m2) (e : m2.d = m.d) (hz : m.small) :
    Calls Tryz.prog 24 #[.agg m.cells.toArray, .agg m2.cells.toArray] w (Ret fun v w' => v = .bool true ∧ Ext w w') := by
  obtain ⟨id2, An2, ns2, cn2, Am2, ms2, cm2, As2, ss2, cs2⟩ := m2
  simp only [MedlI.d, MedlD.mk.injEq] at e
  obtain ⟨rfl, rfl, e3, rfl⟩ := e
  exact eqMedl0_c m B B2 An2 cn2 Am2 ms2 cm2 As2 cs2 w hm h2 e3 hz

end Go.Proofs.YtdoibplhbdkapaaGreatDoor
namespace Go.Proofs.YtdoibplhbdkapaaGreatDoor
open Go.RowKit
set_option linter.unusedVariables false
set_option linter.unusedSimpArgs false

def digF : Nat → Nat → ByteArray → ByteArray
  | 0, _, out => out
  | f + 1, k, out => if k = 0 then out else digF f (k / 10) (strOf [UInt8.ofNat (48 + k % 10)] ++ out)
def markT (k : Int) : ByteArray := if k ≤ 0 then ⟨#[109, 48]⟩ else ⟨#[109]⟩ ++ digF k.toNat k.toNat ⟨#[]⟩
theorem dig_size (b : UInt8) (out : ByteArray) : (strOf [b] ++ out).size = out.size + 1 := by
  rw [ByteArray.size_append]
  show 1 + out.size = _
  omega
theorem u8dig {k : Nat} : ((UInt8.ofNat (48 + k % 10)).toNat : Int) = 48 + (k : Int) % 10 := by
  have : k % 10 < 10 := Nat.mod_lt _ (by omega)
  rw [UInt8.toNat_ofNat']
  omega
theorem wu8 {n : Int} (h : 0 ≤ n ∧ n ≤ 255) : IntKind.u8.wrap n = n := by
  simp only [IntKind.wrap, IntKind.bits, IntKind.signed]
  simp
  omega

def seqI (m : Int) (n : Nat) : List Int := (List.range n).map fun (i : Nat) => m + i
theorem seqI_len (m : Int) (n : Nat) : (seqI m n).length = n := by simp [seqI]
theorem seqI_set {m : Int} {k : Nat} {xs : List Int} (hk : k < xs.length) : (seqI m k ++ xs.drop k).set k (m + k) = seqI m (k + 1) ++ xs.drop (k + 1) := by
  rw [List.set_append, if_neg (by simp [seqI_len]), seqI_len, Nat.sub_self, List.drop_eq_getElem_cons hk, List.set_cons_zero]
  simp [seqI, List.range_succ]
theorem seqI_at {m : Int} {k n : Nat} (h : k < n) : (seqI m n)[k]? = some (m + k) := by simp [seqI, h]
theorem seqI_at' {m : Int} {k : Nat} {xs : List Int} (hk : k < xs.length) : (seqI m k ++ xs.drop k)[k]? = some (xs[k]) := by
  rw [List.getElem?_append_right (by simp [seqI_len]), seqI_len, Nat.sub_self, List.getElem?_drop, Nat.add_zero, List.getElem?_eq_getElem hk]
theorem seqI_end {m : Int} {k : Nat} {xs : List Int} (h0 : k ≤ xs.length) (hk : ¬ (k : Int) < (xs.length : Int)) : seqI m k ++ xs.drop k = seqI m xs.length := by
  rw [drop_end hk, List.append_nil, show k = xs.length by omega]
def mkMode (a : Int) (x : ModeI) : ModeI := ⟨⟨a, a + 1, seqI (a + 1 + 1) x.m.next.length⟩, x.A, x.c⟩
def endMode (a : Int) (x : ModeI) : Int := a + 1 + 1 + x.m.next.length
def mkModes (a : Int) : List ModeI → List ModeI
  | [] => []
  | x :: r => mkMode a x :: mkModes (endMode a x) r
def endModes (a : Int) : List ModeI → Int
  | [] => a
  | x :: r => endModes (endMode a x) r
theorem mkModes_len : ∀ (l : List ModeI) (a : Int), (mkModes a l).length = l.length
  | [], _ => rfl
  | x :: r, a => by rw [mkModes, List.length_cons, mkModes_len r, List.length_cons]
theorem mkModes_snoc : ∀ (l : List ModeI) (a : Int) (x : ModeI), mkModes a (l ++ [x]) = mkModes a l ++ [mkMode (endModes a l) x]
  | [], a, x => rfl
  | y :: r, a, x => by rw [List.cons_append, mkModes, mkModes_snoc r, mkModes, List.cons_append, endModes]
theorem endModes_snoc : ∀ (l : List ModeI) (a : Int) (x : ModeI), endModes a (l ++ [x]) = endMode (endModes a l) x
  | [], a, x => rfl
  | y :: r, a, x => by rw [List.cons_append, endModes, endModes_snoc r, endModes]
theorem mkMode_blk (a : Int) (x : ModeI) : (mkMode a x).blk = x.blk := by
  unfold ModeI.blk mkMode
  simp only [seqI_len]
theorem mkModes_mem : ∀ (l : List ModeI) (a : Int) (y : ModeI), y ∈ mkModes a l → ∃ (i : Nat) (x : ModeI), l[i]? = some x ∧ y.blk = x.blk
  | [], a, y, h => by simp [mkModes] at h
  | x :: r, a, y, h => by
    rw [mkModes] at h
    rcases List.mem_cons.1 h with rfl | h
    · exact ⟨0, x, rfl, mkMode_blk a x⟩
    · obtain ⟨i, z, h1, h2⟩ := mkModes_mem r _ y h
      exact ⟨i + 1, z, by simpa using h1, h2⟩
theorem mkMode_cells (a : Int) (x : ModeI) : (mkMode a x).cells = (⟨⟨a, a + 1, x.m.next⟩, x.A, x.c⟩ : ModeI).cells := by
  simp only [mkMode, ModeI.cells, seqI_len]
/-- the marks in all lists of a schedule -/
structure MSeen (w : World) (lo : Nat) (tN tM tI tS : TypeId) (m : MedlI) (a : Int) (ns : List NodeI) (ms : List ModeI) (ss : List SlotI) : Prop where
  on : Own w lo tN 4 m.An m.ns.length m.cn (ns.flatMap NodeI.cells)
  om : Own w lo tM 3 m.Am m.ms.length m.cm (ms.flatMap ModeI.cells)
  ox : NOwn w lo tI ms
  os : Own w lo tS 8 m.As m.ss.length m.cs (ss.flatMap SlotI.cells)
theorem Win.trans {lo hi : Nat} {a b c : World} (h : Win lo hi a b) (k : Win lo hi b c) : Win lo hi a c :=
  ⟨k.os.trans h.os, k.tape.trans h.tape, k.output.trans h.output, Nat.le_trans h.size k.size, fun i hi' ho => (k.block i (Nat.lt_of_lt_of_le hi' h.size) ho).trans (h.block i hi' ho)⟩
theorem Win.ofExt {lo hi : Nat} {a b : World} (h : Ext a b) : Win lo hi a b := ⟨h.os, h.tape, h.output, h.size, fun i hi' _ => h.block i hi'⟩
theorem Win.ofGrown {lo hi : Nat} {a b : World} {row : Option Nat} (h : a.grownBy b row) (hr : ∀ g, row = some g → lo ≤ g ∧ g < hi) : Win lo hi a b :=
  ⟨h.os, h.tape, h.output, h.size, fun k hk ho => h.block k hk (fun e => by have := hr k e.symm; omega)⟩
theorem NOwn.grownX {w w' : World} {lo : Nat} {t : TypeId} {xs : List ModeI} {row : Option Nat} (h : NOwn w lo t xs) (hg : w.grownBy w' row) (hr : ∀ x ∈ xs, ∀ g, row = some g → x.blk ≠ some g) : NOwn w' lo t xs :=
  fun x hx => ⟨(h x hx).1.grown hg (hr x hx), (h x hx).2⟩
theorem Disj.not {xs : List ModeI} (h : Disj xs) {i k : Nat} {x y : ModeI} (hx : xs[i]? = some x) (hy : xs[k]? = some y) (hik : i ≠ k) (g : Nat) (hg : y.blk = some g) : x.blk ≠ some g := fun e => h k i y x hy hx (fun e => hik e.symm) g hg e
theorem take_get {α : Type} {xs : List α} {k i : Nat} {x : α} (h : (xs.take k)[i]? = some x) : i < k ∧ xs[i]? = some x := by
  rw [List.getElem?_take] at h
  split at h
  · rename_i h1; exact ⟨h1, h⟩
  · cases h
def Kep (ts : List TypeId) (w w' : World) : Prop := w.heap.size ≤ w'.heap.size ∧ ∀ (k : Nat) (cur : Array Value) (t : TypeId) (e : Nat × Nat), w.heap[k]? = some (Obj.cells cur t e) → t ∉ ts → w'.heap[k]? = some (Obj.cells cur t e)
section
variable {ts : List TypeId} {w w' w'' : World} {lo hi lo' n c s g : Nat} {t : TypeId} {A : Option Addr} {cs : List Value} {xs : List ModeI}
theorem Kep.refl : Kep ts w w := ⟨Nat.le_refl _, fun _ _ _ _ h _ => h⟩
theorem Kep.trans (h : Kep ts w w') (k : Kep ts w' w'') : Kep ts w w'' := ⟨Nat.le_trans h.1 k.1, fun i cur t e hi ht => k.2 i cur t e (h.2 i cur t e hi ht) ht⟩
theorem Kep.ofGrown (hg : w.grownBy w' (Value.slice A n c).ownBlock) (o : Own w lo t s A n c cs) (ht : t ∈ ts) : Kep ts w w' := ⟨hg.size, fun i cur t' e hi ht' => by
  have hlt := (Array.getElem?_eq_some_iff.1 hi).1
  refine (hg.block i hlt (fun e' => ?_)).trans hi
  obtain ⟨cur2, h2⟩ := o.at_ e'.symm
  rw [hi] at h2
  injection h2 with h2
  injection h2 with _ h3
  rw [h3] at ht'; exact ht' ht⟩
theorem Own.kep (h : Own w lo t s A n c cs) (k : Kep ts w w') (ht : t ∉ ts) : Own w' lo t s A n c cs := by
  refine ⟨h.1, ?_⟩
  rcases h.2 with h2 | ⟨g, cap, cur, hv, hlo, hh, r⟩
  · exact .inl h2
  · exact .inr ⟨g, cap, cur, hv, hlo, k.2 _ _ _ _ hh ht, r⟩
theorem Blk.kep (h : Blk w g t cs) (k : Kep ts w w') (ht : t ∉ ts) : Blk w' g t cs := k.2 _ _ _ _ h ht
theorem NOwn.kep (h : NOwn w lo t xs) (k : Kep ts w w') (ht : t ∉ ts) : NOwn w' lo t xs := fun x hx => ⟨(h x hx).1.kep k ht, (h x hx).2⟩
structure WinK (lo hi : Nat) (ts : List TypeId) (w w' : World) : Prop where
  win : Win lo hi w w'
  kep : Kep ts w w'
theorem WinK.refl (lo hi : Nat) (ts : List TypeId) (w : World) : WinK lo hi ts w w := ⟨Win.refl lo hi w, Kep.refl⟩
theorem WinK.grownK (h : WinK lo hi ts w w') (hg : w'.grownBy w'' (Value.slice A n c).ownBlock) (o : Own w' lo' t s A n c cs) (ht : t ∈ ts) (hr : ∀ g, (Value.slice A n c).ownBlock = some g → lo ≤ g ∧ g < hi) : WinK lo hi ts w w'' :=
  ⟨h.win.grown hg hr, h.kep.trans (Kep.ofGrown hg o ht)⟩
end
/-- the lists of a marked schedule -/
def nsM (a : Int) (m : MedlI) (mk : Int → NodeI) : List NodeI := seqG (fun i => mk (a + 4 * (i : Nat))) m.ns.length
def a1M (a : Int) (m : MedlI) : Int := a + 4 * m.ns.length
def a2M (a : Int) (m : MedlI) : Int := endModes (a1M a m) m.ms
def endMedl (a : Int) (m : MedlI) : Int := a2M a m + 8 * m.ss.length
def ssM (a : Int) (m : MedlI) (mk : Int → SlotI) : List SlotI := seqG (fun i => mk (a2M a m + 8 * (i : Nat))) m.ss.length
theorem endModes_in : ∀ (l : List ModeI) (a : Int), (∀ x ∈ l, x.m.next.length ≤ 1048576) → a ≤ endModes a l ∧ endModes a l ≤ a + 1048578 * l.length
  | [], a, _ => by simp [endModes]
  | x :: r, a, h => by
    have h1 := h x (by simp)
    have h2 := endModes_in r (endMode a x) fun y hy => h y (by simp [hy])
    rw [endModes, List.length_cons]
    unfold endMode at *
    omega
theorem endMedl_pos {a : Int} {m : MedlI} (hz : m.small) (ha : 0 ≤ a) : 0 ≤ endMedl a m := by
  have h1 := endModes_in m.ms (a1M a m) hz.lx
  unfold endMedl a2M
  unfold a1M at *
  omega
end Go.Proofs.YtdoibplhbdkapaaGreatDoor
