/- Texts of the seat that a law needs, put together. No condition. -/
import Derived.Test.YtdoibplhbdkapaaGreatDoorDMP4
import Derived.Test.YtdoibplhbdkapaaGreatDoorDMP7
import Derived.Test.YtdoibplhbdkapaaGreatDoorDMP11
namespace Go.Proofs.YtdoibplhbdkapaaGreatDoor
open Go.RowKit
set_option linter.unusedVariables false
set_option linter.unusedSimpArgs false
set_option maxRecDepth 20000
theorem l05Has_c (a : Nat) (n : Int) (w : World) (ha : a < 4294967296) (hn : 0 ≤ n ∧ n ≤ 31) :
    Calls Tryz.prog 245 #[.int .i64 (a : Nat), .int .i64 n] w (Ret fun v w' => v = .bool (hasN a n) ∧ Ext w w') := by
  have X := Ext.refl w
  refine calls_of (args := [.int .i64 (a : Nat), .int .i64 n]) Tryz.func245 Tryz.ntmps245 rfl rfl ?_
  refine c_seqR ?_
  refine ops_cons rfl (ow_assign rfl ?_)
  refine ops_nil ?_
  refine c_seqR ?_
  refine ops_cons rfl (ow_move rfl ?_)
  refine ops_cons rfl (ow_move rfl ?_)
  refine ops_cons rfl (ow_conv Tryz.underlying2 Tryz.underlying140 rfl (wu64 (by omega)) ?_)
  refine ops_cons rfl (ow_shr rfl rfl (by omega) rfl ?_)
  refine ops_cons rfl (ow_and rfl rfl rfl ?_)
  refine ops_cons rfl (ow_eql rfl rfl ?_)
  refine ops_cons rfl (ow_assign rfl ?_)
  refine ops_nil ?_
  refine c_ret ?_
  refine fin_ret1 rfl rfl ?_
  exact ⟨congrArg Value.bool (bit_has (by omega) hn), X⟩

theorem l05Set_c (a : Nat) (n : Int) (w : World) (ha : a < 4294967296) (hn : 0 ≤ n ∧ n ≤ 31) :
    Calls Tryz.prog 246 #[.int .i64 (a : Nat), .int .i64 n, .bool true] w (Ret fun v w' => v = .int .i64 (withN a n : Nat) ∧ Ext w w') := by
  have X := Ext.refl w
  refine calls_of (args := [.int .i64 (a : Nat), .int .i64 n, .bool true]) Tryz.func246 Tryz.ntmps246 rfl rfl ?_
  refine c_seqR ?_
  refine ops_cons rfl (ow_assign rfl ?_)
  refine ops_nil ?_
  refine c_seq ?_
  refine c_seqR ?_
  refine ops_cons rfl (ow_move rfl ?_)
  refine ops_cons rfl (ow_move rfl ?_)
  refine ops_cons rfl (ow_call ent245 rfl (ret_mono (l05Has_c _ _ _ ha hn) ?_))
  rintro _ w2 ⟨rfl, x1⟩
  replace X := Ext.trans X x1; clear x1
  refine ops_cons rfl (ow_move rfl ?_)
  refine ops_cons rfl (ow_eqlBd2 Tryz.underlying4 rfl rfl (fun h3 => ?_) (fun h3 => ?_))
  refine ops_nil ?_
  refine c_true rfl ?_
  refine c_seqR ?_
  refine ops_cons rfl (ow_move rfl ?_)
  refine ops_cons rfl (ow_assign rfl ?_)
  refine ops_nil ?_
  refine c_ret ?_
  refine tq_r ?_
  refine fin_ret1 rfl rfl ?_
  · skip
    refine ⟨congrArg (Value.int .i64) ?_, X⟩
    first
    | (rw [with_has ‹hasN a n = true›]; done)
    | (have hh : hasN a n = false := by cases h : hasN a n <;> simp_all
       have hp := pow_lt hn
       exact (congrArg (bitsV .xor .i64 (a : Int)) (shl_bit hn)).trans ((bits_xor (by omega) (by omega)).trans (congrArg Int.ofNat (with_xor hh))))
  refine ops_nil ?_
  refine c_false rfl ?_
  refine c_skip ?_
  refine tq_n ?_
  refine c_seqR ?_
  refine ops_cons rfl (ow_move rfl ?_)
  refine ops_cons rfl (ow_move rfl ?_)
  refine ops_cons rfl (ow_conv Tryz.underlying2 Tryz.underlying140 rfl (wu64 (by omega)) ?_)
  refine ops_cons rfl (ow_shl rfl rfl (by omega) rfl ?_)
  refine ops_cons rfl (ow_xor rfl rfl rfl ?_)
  refine ops_cons rfl (ow_assign rfl ?_)
  refine ops_nil ?_
  refine c_ret ?_
  refine fin_ret1 rfl rfl ?_
  · skip
    refine ⟨congrArg (Value.int .i64) ?_, X⟩
    first
    | (rw [with_has ‹hasN a n = true›]; done)
    | (have hh : hasN a n = false := by cases h : hasN a n <;> simp_all
       have hp := pow_lt hn
       exact (congrArg (bitsV .xor .i64 (a : Int)) (shl_bit hn)).trans ((bits_xor (by omega) (by omega)).trans (congrArg Int.ofNat (with_xor hh))))

theorem has_c (a : Nat) (n : Int) (w : World) (ha : a < 4294967296) (hn : 0 ≤ n ∧ n ≤ 31) :
    Calls Tryz.prog 117 #[.int .i64 (a : Nat), .int .i64 n] w (Ret fun v w' => v = .bool (hasN a n) ∧ Ext w w') := by
  have X := Ext.refl w
  refine calls_of (args := [.int .i64 (a : Nat), .int .i64 n]) Tryz.func117 Tryz.ntmps117 rfl rfl ?_
  refine c_seqR ?_
  refine ops_cons rfl (ow_assign rfl ?_)
  refine ops_nil ?_
  refine c_seqR ?_
  refine ops_cons rfl (ow_move rfl ?_)
  refine ops_cons rfl (ow_move rfl ?_)
  refine ops_cons rfl (ow_shr rfl rfl (by omega) rfl ?_)
  refine ops_cons rfl (ow_and rfl rfl rfl ?_)
  refine ops_cons rfl (ow_eql rfl rfl ?_)
  refine ops_cons rfl (ow_assign rfl ?_)
  refine ops_nil ?_
  refine c_ret ?_
  refine fin_ret1 rfl rfl ?_
  exact ⟨congrArg Value.bool (bit_has (by omega) hn), X⟩

theorem l10Active_c (A : Option Addr) (B c : Nat) (xs : List NodeI) (w : World) (hs : Sl B w A (xs.flatMap NodeI.cells)) (hl : xs.length ≤ 1048576) (hid : ∀ x ∈ xs, 0 ≤ x.id ∧ x.id ≤ 31) :
    Calls Tryz.prog 181 #[.slice A xs.length c] w (Ret fun v w' => v = .int .i64 (actV xs : Nat) ∧ Ext w w') := by
  have Bhs := hs.1
  have X := Ext.refl w
  refine calls_of (args := [.slice A xs.length c]) Tryz.func181 Tryz.ntmps181 rfl rfl ?_
  refine c_seqR ?_
  refine ops_cons rfl (ow_assign rfl ?_)
  refine ops_nil ?_
  refine c_seqR ?_
  refine ops_cons rfl (ow_assign rfl ?_)
  refine ops_nil ?_
  refine c_seq ?_
  refine c_seqR ?_
  refine ops_cons rfl (ow_assign rfl ?_)
  refine ops_nil ?_
  refine c_block ?_
  refine c_loop (G := Nat × Nat) (fun ⟨k, a⟩ => [(0, .slice A xs.length c), (2, .int .i64 0), (3, .int .i64 (a : Nat)), (4, .int .i64 (k : Nat))]) (fun ⟨k, a⟩ wr => k ≤ xs.length ∧ a < 4294967296 ∧ actV xs = vecF (fun x : NodeI => !x.passive) (·.id) a (xs.drop k) ∧ Sl B wr A (xs.flatMap NodeI.cells) ∧ Ext w wr) (fun ⟨k, a⟩ => xs.length - k) (0, 0) (.cons rfl (.cons rfl (.cons rfl (.cons rfl (.nil _))))) ?_ ?_
  · exact ⟨by omega, (by omega), rfl, hs, X⟩
  clear hs
  clear X
  rintro ⟨k, a⟩ wr ⟨hk0, ha, hi, hs, X⟩
  refine c_seq ?_
  refine c_seqR ?_
  refine ops_cons rfl (ow_move rfl ?_)
  refine ops_cons rfl (ow_move rfl ?_)
  refine ops_cons rfl (ow_len Tryz.underlying24 rfl ?_)
  refine ops_cons rfl (ow_lss2 rfl rfl (fun hk => ?_) (fun hk => ?_))
  obtain ⟨x, hx, dx⟩ := drop_at' hk
  have hx2 := hid x (List.mem_of_getElem? hx)
  refine ops_nil ?_
  refine c_true rfl ?_
  refine c_skip ?_
  refine tq_n ?_
  refine c_seq ?_
  refine c_block ?_
  refine c_seqR ?_
  refine ops_cons rfl (ow_move rfl ?_)
  refine ops_cons rfl (ow_move rfl ?_)
  refine ops_cons rfl (ow_indexT hs NodeI.len rfl el24 rfl rfl rfl hx rfl ?_)
  refine ops_cons rfl (ow_fieldAddr off59_3 rfl ?_)
  refine ops_cons rfl (ow_loadTF hs NodeI.len hx ti4 rfl rfl rfl ?_)
  refine ops_cons rfl (ow_not rfl ?_)
  refine ops_nil ?_
  refine c_split rfl (fun h1 => ?_) (fun h1 => ?_)
  refine c_region ?_
  refine ops_cons rfl (ow_move rfl ?_)
  refine ops_cons rfl (ow_move rfl ?_)
  refine ops_cons rfl (ow_move rfl ?_)
  refine ops_cons rfl (ow_indexT hs NodeI.len rfl el24 rfl rfl rfl hx rfl ?_)
  refine ops_cons rfl (ow_fieldAddr off59_0 rfl ?_)
  refine ops_cons rfl (ow_loadTF hs NodeI.len hx ti2 rfl rfl rfl ?_)
  refine ops_cons rfl (ow_call ent246 rfl (ret_mono (l05Set_c _ _ _ ha hx2) ?_))
  rintro _ w3 ⟨rfl, x2⟩
  replace hs := hs.ext x2
  replace X := Ext.trans X x2; clear x2
  refine ops_cons rfl (ow_assign rfl ?_)
  refine ops_nil ?_
  refine bq_n ?_
  refine tq_n ?_
  refine c_region ?_
  refine ops_cons rfl (ow_move rfl ?_)
  refine ops_cons rfl (ow_add rfl rfl (w64 (by omega)) ?_)
  refine ops_cons rfl (ow_assign rfl ?_)
  refine ops_nil ?_
  refine tq_n ⟨(k + 1, withN a x.id), (.cons rfl (.cons rfl (.cons rfl (.cons rfl (.nil _))))), ?_, ?_⟩
  · exact ⟨by omega, (withN_lt ha hx2), (by rw [hi, dx, vecF]; simp [*]), hs, X⟩
  · first | omega | (dsimp only; omega)
  refine c_skip ?_
  refine bq_n ?_
  refine tq_n ?_
  refine c_region ?_
  refine ops_cons rfl (ow_move rfl ?_)
  refine ops_cons rfl (ow_add rfl rfl (w64 (by omega)) ?_)
  refine ops_cons rfl (ow_assign rfl ?_)
  refine ops_nil ?_
  refine tq_n ⟨(k + 1, a), (.cons rfl (.cons rfl (.cons rfl (.cons rfl (.nil _))))), ?_, ?_⟩
  · exact ⟨by omega, ha, (by rw [hi, dx, vecF]; simp [*]), hs, X⟩
  · first | omega | (dsimp only; omega)
  refine ops_nil ?_
  refine c_false rfl ?_
  refine c_exit ?_
  refine tq_e ?_
  refine tq_e ?_
  refine bq_e ?_
  refine tq_n ?_
  refine c_seqR ?_
  refine ops_cons rfl (ow_move rfl ?_)
  refine ops_cons rfl (ow_assign rfl ?_)
  refine ops_nil ?_
  refine c_ret ?_
  refine fin_ret1 rfl rfl ?_
  exact ⟨by rw [hi, drop_end hk]; rfl, X⟩

theorem activeVector_c (A : Option Addr) (B c : Nat) (xs : List NodeI) (w : World) (hs : Sl B w A (xs.flatMap NodeI.cells)) (hl : xs.length ≤ 1048576) (hid : ∀ x ∈ xs, 0 ≤ x.id ∧ x.id ≤ 31) :
    Calls Tryz.prog 114 #[.slice A xs.length c] w (Ret fun v w' => v = .int .i64 (actV xs : Nat) ∧ Ext w w') := by
  have Bhs := hs.1
  have X := Ext.refl w
  refine calls_of (args := [.slice A xs.length c]) Tryz.func114 Tryz.ntmps114 rfl rfl ?_
  refine c_seqR ?_
  refine ops_cons rfl (ow_assign rfl ?_)
  refine ops_nil ?_
  refine c_seqR ?_
  refine ops_cons rfl (ow_assign rfl ?_)
  refine ops_nil ?_
  refine c_seq ?_
  refine c_seqR ?_
  refine ops_cons rfl (ow_move rfl ?_)
  refine ops_cons rfl (ow_len Tryz.underlying24 rfl ?_)
  refine ops_cons rfl (ow_move rfl ?_)
  refine ops_nil ?_
  refine c_block ?_
  refine c_loop (G := Nat × Nat) (fun ⟨k, a⟩ => [(2, .int .i64 0), (6, .slice A xs.length c), (7, .int .i64 (xs.length : Nat)), (3, .int .i64 (a : Nat)), (8, .int .i64 (k : Nat))]) (fun ⟨k, a⟩ wr => k ≤ xs.length ∧ a < 4294967296 ∧ actV xs = vecF (fun x : NodeI => !x.passive) (·.id) a (xs.drop k) ∧ Sl B wr A (xs.flatMap NodeI.cells) ∧ Ext w wr) (fun ⟨k, a⟩ => xs.length - k) (0, 0) (.cons rfl (.cons rfl (.cons rfl (.cons rfl (.cons rfl (.nil _)))))) ?_ ?_
  · exact ⟨by omega, (by omega), rfl, hs, X⟩
  clear hs
  clear X
  rintro ⟨k, a⟩ wr ⟨hk0, ha, hi, hs, X⟩
  refine c_seqR ?_
  refine ops_cons rfl (ow_lss2 rfl rfl (fun hk => ?_) (fun hk => ?_))
  obtain ⟨x, hx, dx⟩ := drop_at' hk
  have hx2 := hid x (List.mem_of_getElem? hx)
  refine ops_nil ?_
  refine c_seq ?_
  refine c_true rfl ?_
  refine c_skip ?_
  refine tq_n ?_
  refine c_seq ?_
  refine c_block ?_
  refine c_seqR ?_
  refine ops_cons rfl (ow_indexT hs NodeI.len rfl el24 rfl rfl rfl hx rfl ?_)
  refine ops_cons rfl (ow_loadTA hs NodeI.len hx ti59 rfl ?_)
  refine ops_cons rfl (ow_alloc ti59 ?_)
  intro g4 w3 eg4 b1 x2 zg4
  have lg4 : w.heap.size ≤ g4 := Nat.le_trans X.size (Nat.le_of_eq eg4.symm)
  have pg4hs := Nat.le_trans hs.1 (Nat.le_of_eq eg4.symm)
  replace hs := hs.ext x2
  replace X := Ext.trans X x2; clear x2
  refine ops_cons rfl (ow_storeB b1 ti59 rfl rfl rfl rfl rfl rfl ?_)
  intro w6 b8 hg5 z7
  replace hs := hs.grown hg5 (by intro g hg; injection hg; omega)
  replace X := X.grown hg5 X.size (by intro g hg; injection hg; omega)
  clear hg5 b1
  refine ops_nil ?_
  refine c_seqR ?_
  refine ops_cons rfl (ow_fieldAddrB off59_3 rfl rfl ?_)
  refine ops_cons rfl (ow_loadB b8 ti4 rfl rfl ?_)
  refine ops_cons rfl (ow_not rfl ?_)
  refine ops_nil ?_
  refine c_split rfl (fun h9 => ?_) (fun h9 => ?_)
  refine c_region ?_
  refine ops_cons rfl (ow_move rfl ?_)
  refine ops_cons rfl (ow_fieldAddrB off59_0 rfl rfl ?_)
  refine ops_cons rfl (ow_loadB b8 ti2 rfl rfl ?_)
  refine ops_cons rfl (ow_shl rfl rfl hx2.1 rfl ?_)
  refine ops_cons rfl (ow_or rfl rfl (bits_with ha hx2) ?_)
  refine ops_cons rfl (ow_assign rfl ?_)
  refine ops_nil ?_
  refine bq_n ?_
  refine tq_n ?_
  refine c_region ?_
  refine ops_cons rfl (ow_add rfl rfl (w64 (by omega)) ?_)
  refine ops_cons rfl (ow_move rfl ?_)
  refine ops_nil ?_
  refine tq_n ⟨(k + 1, withN a x.id), (.cons rfl (.cons rfl (.cons rfl (.cons rfl (.cons rfl (.nil _)))))), ?_, ?_⟩
  · exact ⟨by omega, (withN_lt ha hx2), (by rw [hi, dx, vecF]; simp [*]), hs, X⟩
  · first | omega | (dsimp only; omega)
  refine c_skip ?_
  refine bq_n ?_
  refine tq_n ?_
  refine c_region ?_
  refine ops_cons rfl (ow_add rfl rfl (w64 (by omega)) ?_)
  refine ops_cons rfl (ow_move rfl ?_)
  refine ops_nil ?_
  refine tq_n ⟨(k + 1, a), (.cons rfl (.cons rfl (.cons rfl (.cons rfl (.cons rfl (.nil _)))))), ?_, ?_⟩
  · exact ⟨by omega, ha, (by rw [hi, dx, vecF]; simp [*]), hs, X⟩
  · first | omega | (dsimp only; omega)
  refine ops_nil ?_
  refine c_seq ?_
  refine c_false rfl ?_
  refine c_exit ?_
  refine tq_e ?_
  refine tq_e ?_
  refine bq_e ?_
  refine tq_n ?_
  refine c_seqR ?_
  refine ops_cons rfl (ow_move rfl ?_)
  refine ops_cons rfl (ow_assign rfl ?_)
  refine ops_nil ?_
  refine c_ret ?_
  refine fin_ret1 rfl rfl ?_
  exact ⟨by rw [hi, drop_end hk]; rfl, X⟩

theorem l10Name_c (s : ByteArray) (w : World) (hm : s.size ≤ 9223372036854775807) :
    Calls Tryz.prog 276 #[.string s] w (Ret fun v w' => v = .bool (nameOk s) ∧ Ext w w') := by
  have hsz : s.data.toList.length = s.size := by simp
  have X := Ext.refl w
  refine calls_of (args := [.string s]) Tryz.func276 Tryz.ntmps276 rfl rfl ?_
  refine c_seqR ?_
  refine ops_cons rfl (ow_assign rfl ?_)
  refine ops_nil ?_
  refine c_seq ?_
  refine c_seqR ?_
  refine ops_cons rfl (ow_assign rfl ?_)
  refine ops_nil ?_
  refine c_block ?_
  refine c_loop (G := Nat) (fun k => [(0, .string s), (3, .int .i64 (k : Nat))]) (fun k wr => k ≤ s.size ∧ s.data.toList.all nameB = (s.data.toList.drop k).all nameB ∧ Ext w wr) (fun k => s.size - k) 0 (.cons rfl (.cons rfl (.nil _))) ?_ ?_
  · exact ⟨by omega, rfl, X⟩
  clear X
  rintro k wr ⟨hk0, hi, X⟩
  refine c_seq ?_
  refine c_seqR ?_
  refine ops_cons rfl (ow_move rfl ?_)
  refine ops_cons rfl (ow_move rfl ?_)
  refine ops_cons rfl (ow_lenS Tryz.underlying9 rfl ?_)
  refine ops_cons rfl (ow_lss2 rfl rfl (fun hk => ?_) (fun hk => ?_))
  obtain ⟨x, hx, dx⟩ := drop_at' (xs := s.data.toList) (k := k) (by omega)
  have hg : s.data.toList.getD ((k : Int)).toNat 0 = x := by rw [List.getD_eq_getElem?_getD, Int.toNat_natCast, hx]; rfl
  refine ops_nil ?_
  refine c_true rfl ?_
  refine c_skip ?_
  refine tq_n ?_
  refine c_seq ?_
  refine c_block ?_
  refine c_seqR ?_
  refine ops_cons rfl (ow_move rfl ?_)
  refine ops_cons rfl (ow_move rfl ?_)
  refine ops_cons rfl (ow_indexS Tryz.underlying9 rfl rfl (by omega) (by omega) ?_)
  refine ops_cons rfl (ow_lss2 rfl rfl (fun c1 => ?_) (fun c1 => ?_))
  refine ops_cons rfl (ow_move rfl ?_)
  refine ops_skip rfl rfl rfl rfl ?_
  refine ops_skip rfl rfl rfl rfl ?_
  refine ops_skip rfl rfl rfl rfl ?_
  refine ops_skip rfl rfl rfl rfl ?_
  refine ops_cons rfl (ow_pick rfl rfl ?_)
  refine ops_cons rfl (ow_move rfl ?_)
  refine ops_want rfl rfl rfl (ow_move rfl ?_)
  refine ops_want rfl rfl rfl (ow_move rfl ?_)
  refine ops_want rfl rfl rfl (ow_indexS Tryz.underlying9 rfl rfl (by omega) (by omega) ?_)
  refine ops_want rfl rfl rfl (ow_lss2 rfl rfl (fun c3 => ?_) (fun c3 => ?_))
  refine ops_want rfl rfl rfl (ow_move rfl ?_)
  refine ops_skip rfl rfl rfl rfl ?_
  refine ops_skip rfl rfl rfl rfl ?_
  refine ops_skip rfl rfl rfl rfl ?_
  refine ops_skip rfl rfl rfl rfl ?_
  refine ops_want rfl rfl rfl (ow_pick rfl rfl ?_)
  refine ops_cons rfl (ow_pick rfl rfl ?_)
  refine ops_nil ?_
  refine c_true rfl ?_
  refine c_seqR ?_
  refine ops_cons rfl (ow_assign rfl ?_)
  refine ops_nil ?_
  refine c_ret ?_
  refine bq_r ?_
  refine tq_r ?_
  refine tq_r ?_
  refine bq_r ?_
  refine tq_r ?_
  refine fin_ret1 rfl rfl ?_
  · skip
    refine ⟨congrArg Value.bool ?_, X⟩
    first
    | (have hd : s.data.toList.drop k = [] := drop_end (by omega)
       rw [nameOk, hi, hd]; simp [*]; done)
    | (have hd : s.data.toList.drop k = [] := drop_end (by omega)
       rw [nameOk, hi, hd, Bool.eq_iff_iff]; simp; omega)
    | (simp only [hg] at *
       have hb : nameB x = false := by
         cases e : nameB x
         · rfl
         · simp only [nameB, Bool.or_eq_true, Bool.and_eq_true, decide_eq_true_eq] at e; omega
       rw [nameOk, hi, dx, List.all_cons, hb]; rfl)
  refine ops_want rfl rfl rfl (ow_move rfl ?_)
  refine ops_want rfl rfl rfl (ow_move rfl ?_)
  refine ops_want rfl rfl rfl (ow_move rfl ?_)
  refine ops_want rfl rfl rfl (ow_indexS Tryz.underlying9 rfl rfl (by omega) (by omega) ?_)
  refine ops_want rfl rfl rfl (ow_gtr2 rfl rfl (fun c4 => ?_) (fun c4 => ?_))
  refine ops_want rfl rfl rfl (ow_pick rfl rfl ?_)
  refine ops_cons rfl (ow_pick rfl rfl ?_)
  refine ops_nil ?_
  refine c_true rfl ?_
  refine c_seqR ?_
  refine ops_cons rfl (ow_assign rfl ?_)
  refine ops_nil ?_
  refine c_ret ?_
  refine bq_r ?_
  refine tq_r ?_
  refine tq_r ?_
  refine bq_r ?_
  refine tq_r ?_
  refine fin_ret1 rfl rfl ?_
  · skip
    refine ⟨congrArg Value.bool ?_, X⟩
    first
    | (have hd : s.data.toList.drop k = [] := drop_end (by omega)
       rw [nameOk, hi, hd]; simp [*]; done)
    | (have hd : s.data.toList.drop k = [] := drop_end (by omega)
       rw [nameOk, hi, hd, Bool.eq_iff_iff]; simp; omega)
    | (simp only [hg] at *
       have hb : nameB x = false := by
         cases e : nameB x
         · rfl
         · simp only [nameB, Bool.or_eq_true, Bool.and_eq_true, decide_eq_true_eq] at e; omega
       rw [nameOk, hi, dx, List.all_cons, hb]; rfl)
  refine ops_want rfl rfl rfl (ow_pick rfl rfl ?_)
  refine ops_cons rfl (ow_pick rfl rfl ?_)
  refine ops_nil ?_
  refine c_false rfl ?_
  refine c_skip ?_
  refine bq_n ?_
  refine tq_n ?_
  refine c_region ?_
  refine ops_cons rfl (ow_move rfl ?_)
  refine ops_cons rfl (ow_add rfl rfl (w64 (by omega)) ?_)
  refine ops_cons rfl (ow_assign rfl ?_)
  refine ops_nil ?_
  refine tq_n ⟨k + 1, (.cons rfl (.cons rfl (.nil _))), ?_, ?_⟩
  · skip
    exact ⟨by omega, (by
      simp only [hg] at *
      rw [hi, dx, List.all_cons]
      have hb : nameB x = true := by simp only [nameB, Bool.or_eq_true, Bool.and_eq_true, decide_eq_true_eq]; omega
      rw [hb]; rfl), X⟩
  · first | omega | (dsimp only; omega)
  refine ops_cons rfl (ow_move rfl ?_)
  refine ops_want rfl rfl rfl (ow_move rfl ?_)
  refine ops_want rfl rfl rfl (ow_move rfl ?_)
  refine ops_want rfl rfl rfl (ow_indexS Tryz.underlying9 rfl rfl (by omega) (by omega) ?_)
  refine ops_want rfl rfl rfl (ow_gtr2 rfl rfl (fun c2 => ?_) (fun c2 => ?_))
  refine ops_cons rfl (ow_pick rfl rfl ?_)
  refine ops_cons rfl (ow_move rfl ?_)
  refine ops_want rfl rfl rfl (ow_move rfl ?_)
  refine ops_want rfl rfl rfl (ow_move rfl ?_)
  refine ops_want rfl rfl rfl (ow_indexS Tryz.underlying9 rfl rfl (by omega) (by omega) ?_)
  refine ops_want rfl rfl rfl (ow_lss2 rfl rfl (fun c3 => ?_) (fun c3 => ?_))
  refine ops_want rfl rfl rfl (ow_move rfl ?_)
  refine ops_skip rfl rfl rfl rfl ?_
  refine ops_skip rfl rfl rfl rfl ?_
  refine ops_skip rfl rfl rfl rfl ?_
  refine ops_skip rfl rfl rfl rfl ?_
  refine ops_want rfl rfl rfl (ow_pick rfl rfl ?_)
  refine ops_cons rfl (ow_pick rfl rfl ?_)
  refine ops_nil ?_
  refine c_true rfl ?_
  refine c_seqR ?_
  refine ops_cons rfl (ow_assign rfl ?_)
  refine ops_nil ?_
  refine c_ret ?_
  refine bq_r ?_
  refine tq_r ?_
  refine tq_r ?_
  refine bq_r ?_
  refine tq_r ?_
  refine fin_ret1 rfl rfl ?_
  · skip
    refine ⟨congrArg Value.bool ?_, X⟩
    first
    | (have hd : s.data.toList.drop k = [] := drop_end (by omega)
       rw [nameOk, hi, hd]; simp [*]; done)
    | (have hd : s.data.toList.drop k = [] := drop_end (by omega)
       rw [nameOk, hi, hd, Bool.eq_iff_iff]; simp; omega)
    | (simp only [hg] at *
       have hb : nameB x = false := by
         cases e : nameB x
         · rfl
         · simp only [nameB, Bool.or_eq_true, Bool.and_eq_true, decide_eq_true_eq] at e; omega
       rw [nameOk, hi, dx, List.all_cons, hb]; rfl)
  refine ops_want rfl rfl rfl (ow_move rfl ?_)
  refine ops_want rfl rfl rfl (ow_move rfl ?_)
  refine ops_want rfl rfl rfl (ow_move rfl ?_)
  refine ops_want rfl rfl rfl (ow_indexS Tryz.underlying9 rfl rfl (by omega) (by omega) ?_)
  refine ops_want rfl rfl rfl (ow_gtr2 rfl rfl (fun c4 => ?_) (fun c4 => ?_))
  refine ops_want rfl rfl rfl (ow_pick rfl rfl ?_)
  refine ops_cons rfl (ow_pick rfl rfl ?_)
  refine ops_nil ?_
  refine c_true rfl ?_
  refine c_seqR ?_
  refine ops_cons rfl (ow_assign rfl ?_)
  refine ops_nil ?_
  refine c_ret ?_
  refine bq_r ?_
  refine tq_r ?_
  refine tq_r ?_
  refine bq_r ?_
  refine tq_r ?_
  refine fin_ret1 rfl rfl ?_
  · skip
    refine ⟨congrArg Value.bool ?_, X⟩
    first
    | (have hd : s.data.toList.drop k = [] := drop_end (by omega)
       rw [nameOk, hi, hd]; simp [*]; done)
    | (have hd : s.data.toList.drop k = [] := drop_end (by omega)
       rw [nameOk, hi, hd, Bool.eq_iff_iff]; simp; omega)
    | (simp only [hg] at *
       have hb : nameB x = false := by
         cases e : nameB x
         · rfl
         · simp only [nameB, Bool.or_eq_true, Bool.and_eq_true, decide_eq_true_eq] at e; omega
       rw [nameOk, hi, dx, List.all_cons, hb]; rfl)
  refine ops_want rfl rfl rfl (ow_pick rfl rfl ?_)
  refine ops_cons rfl (ow_pick rfl rfl ?_)
  refine ops_nil ?_
  refine c_false rfl ?_
  refine c_skip ?_
  refine bq_n ?_
  refine tq_n ?_
  refine c_region ?_
  refine ops_cons rfl (ow_move rfl ?_)
  refine ops_cons rfl (ow_add rfl rfl (w64 (by omega)) ?_)
  refine ops_cons rfl (ow_assign rfl ?_)
  refine ops_nil ?_
  refine tq_n ⟨k + 1, (.cons rfl (.cons rfl (.nil _))), ?_, ?_⟩
  · skip
    exact ⟨by omega, (by
      simp only [hg] at *
      rw [hi, dx, List.all_cons]
      have hb : nameB x = true := by simp only [nameB, Bool.or_eq_true, Bool.and_eq_true, decide_eq_true_eq]; omega
      rw [hb]; rfl), X⟩
  · first | omega | (dsimp only; omega)
  refine ops_cons rfl (ow_pick rfl rfl ?_)
  refine ops_cons rfl (ow_move rfl ?_)
  refine ops_skip rfl rfl rfl rfl ?_
  refine ops_skip rfl rfl rfl rfl ?_
  refine ops_skip rfl rfl rfl rfl ?_
  refine ops_skip rfl rfl rfl rfl ?_
  refine ops_skip rfl rfl rfl rfl ?_
  refine ops_skip2 rfl rfl rfl ?_
  refine ops_skip2 rfl rfl rfl ?_
  refine ops_skip2 rfl rfl rfl ?_
  refine ops_skip2 rfl rfl rfl ?_
  refine ops_skip rfl rfl rfl rfl ?_
  refine ops_cons rfl (ow_pick rfl rfl ?_)
  refine ops_nil ?_
  refine c_false rfl ?_
  refine c_skip ?_
  refine bq_n ?_
  refine tq_n ?_
  refine c_region ?_
  refine ops_cons rfl (ow_move rfl ?_)
  refine ops_cons rfl (ow_add rfl rfl (w64 (by omega)) ?_)
  refine ops_cons rfl (ow_assign rfl ?_)
  refine ops_nil ?_
  refine tq_n ⟨k + 1, (.cons rfl (.cons rfl (.nil _))), ?_, ?_⟩
  · skip
    exact ⟨by omega, (by
      simp only [hg] at *
      rw [hi, dx, List.all_cons]
      have hb : nameB x = true := by simp only [nameB, Bool.or_eq_true, Bool.and_eq_true, decide_eq_true_eq]; omega
      rw [hb]; rfl), X⟩
  · first | omega | (dsimp only; omega)
  refine ops_nil ?_
  refine c_false rfl ?_
  refine c_exit ?_
  refine tq_e ?_
  refine tq_e ?_
  refine bq_e ?_
  refine tq_n ?_
  refine c_seqR ?_
  refine ops_cons rfl (ow_move rfl ?_)
  refine ops_cons rfl (ow_lenS Tryz.underlying9 rfl ?_)
  refine ops_cons rfl (ow_geq2 rfl rfl (fun h1 => ?_) (fun h1 => ?_))
  refine ops_cons rfl (ow_move rfl ?_)
  refine ops_want rfl rfl rfl (ow_move rfl ?_)
  refine ops_want rfl rfl rfl (ow_lenS Tryz.underlying9 rfl ?_)
  refine ops_want rfl rfl rfl (ow_leq rfl rfl ?_)
  refine ops_cons rfl (ow_pick rfl rfl ?_)
  refine ops_cons rfl (ow_assign rfl ?_)
  refine ops_nil ?_
  refine c_ret ?_
  refine fin_ret1 rfl rfl ?_
  · skip
    refine ⟨congrArg Value.bool ?_, X⟩
    first
    | (have hd : s.data.toList.drop k = [] := drop_end (by omega)
       rw [nameOk, hi, hd]; simp [*]; done)
    | (have hd : s.data.toList.drop k = [] := drop_end (by omega)
       rw [nameOk, hi, hd, Bool.eq_iff_iff]; simp; omega)
    | (simp only [hg] at *
       have hb : nameB x = false := by
         cases e : nameB x
         · rfl
         · simp only [nameB, Bool.or_eq_true, Bool.and_eq_true, decide_eq_true_eq] at e; omega
       rw [nameOk, hi, dx, List.all_cons, hb]; rfl)
  refine ops_cons rfl (ow_move rfl ?_)
  refine ops_skip rfl rfl rfl rfl ?_
  refine ops_skip rfl rfl rfl rfl ?_
  refine ops_skip rfl rfl rfl rfl ?_
  refine ops_cons rfl (ow_pick rfl rfl ?_)
  refine ops_cons rfl (ow_assign rfl ?_)
  refine ops_nil ?_
  refine c_ret ?_
  refine fin_ret1 rfl rfl ?_
  · skip
    refine ⟨congrArg Value.bool ?_, X⟩
    first
    | (have hd : s.data.toList.drop k = [] := drop_end (by omega)
       rw [nameOk, hi, hd]; simp [*]; done)
    | (have hd : s.data.toList.drop k = [] := drop_end (by omega)
       rw [nameOk, hi, hd, Bool.eq_iff_iff]; simp; omega)
    | (simp only [hg] at *
       have hb : nameB x = false := by
         cases e : nameB x
         · rfl
         · simp only [nameB, Bool.or_eq_true, Bool.and_eq_true, decide_eq_true_eq] at e; omega
       rw [nameOk, hi, dx, List.all_cons, hb]; rfl)

theorem sIsNode_c (x : NodeI) (w : World) (hm : x.name.size ≤ 9223372036854775807) :
    Calls Tryz.prog 258 #[.agg x.cells.toArray] w (Ret fun v w' => v = .bool (nodeOk x) ∧ Ext w w') := by
  have X := Ext.refl w
  refine calls_of (args := [.agg x.cells.toArray]) Tryz.func258 Tryz.ntmps258 rfl rfl ?_
  refine c_seqR ?_
  refine ops_cons rfl (ow_box rfl rfl ?_)
  intro g4 w3 eg4 b1 x2 zg4
  have lg4 : w.heap.size ≤ g4 := Nat.le_trans X.size (Nat.le_of_eq eg4.symm)
  replace X := Ext.trans X x2; clear x2
  refine ops_cons rfl (ow_assign rfl ?_)
  refine ops_nil ?_
  refine c_seqR ?_
  refine ops_cons rfl (ow_fieldAddrB off59_0 rfl rfl ?_)
  refine ops_cons rfl (ow_loadB b1 ti2 rfl rfl ?_)
  refine ops_cons rfl (ow_callB ent275 rfl (l05Node_c _ _) (fun w7 h5 x6 => ?_) (fun w7 h5 x6 => ?_))
  replace b1 := b1.ext x6
  replace X := Ext.trans X x6; clear x6
  refine ops_cons rfl (ow_move rfl ?_)
  refine ops_want rfl rfl rfl (ow_fieldAddrB off59_1 rfl rfl ?_)
  refine ops_want rfl rfl rfl (ow_loadB b1 ti9 rfl rfl ?_)
  refine ops_want rfl rfl rfl (ow_callB ent276 rfl (l10Name_c _ _ hm) (fun w10 h8 x9 => ?_) (fun w10 h8 x9 => ?_))
  replace b1 := b1.ext x9
  replace X := Ext.trans X x9; clear x9
  refine ops_cons rfl (ow_pick rfl rfl ?_)
  refine ops_cons rfl (ow_move rfl ?_)
  refine ops_want rfl rfl rfl (ow_fieldAddrB off59_2 rfl rfl ?_)
  refine ops_want rfl rfl rfl (ow_loadB b1 ti2 rfl rfl ?_)
  refine ops_want rfl rfl rfl (ow_call ent111 rfl (ret_mono (l01In_c _ _ _ _) ?_))
  rintro _ w12 ⟨rfl, x11⟩
  replace b1 := b1.ext x11
  replace X := Ext.trans X x11; clear x11
  refine ops_cons rfl (ow_pick rfl rfl ?_)
  refine ops_cons rfl (ow_assign rfl ?_)
  refine ops_nil ?_
  refine c_ret ?_
  refine fin_ret1 rfl rfl ?_
  · skip
    refine ⟨congrArg Value.bool ?_, X⟩
    simp [nodeOk, *]
  replace b1 := b1.ext x9
  replace X := Ext.trans X x9; clear x9
  refine ops_cons rfl (ow_pick rfl rfl ?_)
  refine ops_cons rfl (ow_move rfl ?_)
  refine ops_skip rfl rfl rfl rfl ?_
  refine ops_skip rfl rfl rfl rfl ?_
  refine ops_skip rfl rfl rfl rfl ?_
  refine ops_cons rfl (ow_pick rfl rfl ?_)
  refine ops_cons rfl (ow_assign rfl ?_)
  refine ops_nil ?_
  refine c_ret ?_
  refine fin_ret1 rfl rfl ?_
  · skip
    refine ⟨congrArg Value.bool ?_, X⟩
    simp [nodeOk, *]
  replace b1 := b1.ext x6
  replace X := Ext.trans X x6; clear x6
  refine ops_cons rfl (ow_move rfl ?_)
  refine ops_skip rfl rfl rfl rfl ?_
  refine ops_skip rfl rfl rfl rfl ?_
  refine ops_skip rfl rfl rfl rfl ?_
  refine ops_cons rfl (ow_pick rfl rfl ?_)
  refine ops_cons rfl (ow_move rfl ?_)
  refine ops_skip rfl rfl rfl rfl ?_
  refine ops_skip rfl rfl rfl rfl ?_
  refine ops_skip rfl rfl rfl rfl ?_
  refine ops_cons rfl (ow_pick rfl rfl ?_)
  refine ops_cons rfl (ow_assign rfl ?_)
  refine ops_nil ?_
  refine c_ret ?_
  refine fin_ret1 rfl rfl ?_
  · skip
    refine ⟨congrArg Value.bool ?_, X⟩
    simp [nodeOk, *]

theorem iIsNode_c (x : NodeI) (w : World) (hm : x.name.size ≤ 9223372036854775807) :
    Calls Tryz.prog 197 #[.agg x.cells.toArray] w (Ret fun v w' => v = .bool (nodeOk x) ∧ Ext w w') := by
  have X := Ext.refl w
  refine calls_of (args := [.agg x.cells.toArray]) Tryz.func197 Tryz.ntmps197 rfl rfl ?_
  refine c_seqR ?_
  refine ops_cons rfl (ow_box rfl rfl ?_)
  intro g4 w3 eg4 b1 x2 zg4
  have lg4 : w.heap.size ≤ g4 := Nat.le_trans X.size (Nat.le_of_eq eg4.symm)
  replace X := Ext.trans X x2; clear x2
  refine ops_cons rfl (ow_assign rfl ?_)
  refine ops_nil ?_
  refine c_seqR ?_
  refine ops_cons rfl (ow_fieldAddrB off59_1 rfl rfl ?_)
  refine ops_cons rfl (ow_loadB b1 ti9 rfl rfl ?_)
  refine ops_cons rfl (ow_lenS Tryz.underlying9 rfl ?_)
  refine ops_cons rfl (ow_geq2 rfl rfl (fun n1 => ?_) (fun n1 => ?_))
  refine ops_cons rfl (ow_move rfl ?_)
  refine ops_want rfl rfl rfl (ow_fieldAddrB off59_1 rfl rfl ?_)
  refine ops_want rfl rfl rfl (ow_loadB b1 ti9 rfl rfl ?_)
  refine ops_want rfl rfl rfl (ow_lenS Tryz.underlying9 rfl ?_)
  refine ops_want rfl rfl rfl (ow_leq2 rfl rfl (fun n2 => ?_) (fun n2 => ?_))
  refine ops_cons rfl (ow_pick rfl rfl ?_)
  refine ops_cons rfl (ow_move rfl ?_)
  refine ops_want rfl rfl rfl (ow_fieldAddrB off59_1 rfl rfl ?_)
  refine ops_want rfl rfl rfl (ow_loadB b1 ti9 rfl rfl ?_)
  refine ops_want rfl rfl rfl (ow_call ent248 rfl (ret_mono (trim_c _ _ hm) ?_))
  rintro _ w6 ⟨rfl, x5⟩
  replace b1 := b1.ext x5
  replace X := Ext.trans X x5; clear x5
  refine ops_want rfl rfl rfl (ow_eqlS2 rfl rfl (fun n3 => ?_) (fun n3 => ?_))
  refine ops_cons rfl (ow_pick rfl rfl ?_)
  refine ops_cons rfl (ow_assign rfl ?_)
  refine ops_nil ?_
  refine c_seqR ?_
  refine ops_cons rfl (ow_move rfl ?_)
  refine ops_cons rfl (ow_move rfl ?_)
  refine ops_want rfl rfl rfl (ow_fieldAddrB off59_0 rfl rfl ?_)
  refine ops_want rfl rfl rfl (ow_loadB b1 ti2 rfl rfl ?_)
  refine ops_want rfl rfl rfl (ow_callB ent116 rfl (isNode_c _ _) (fun w9 h7 x8 => ?_) (fun w9 h7 x8 => ?_))
  replace b1 := b1.ext x8
  replace X := Ext.trans X x8; clear x8
  refine ops_cons rfl (ow_pick rfl rfl ?_)
  refine ops_cons rfl (ow_move rfl ?_)
  refine ops_want rfl rfl rfl (ow_fieldAddrB off59_2 rfl rfl ?_)
  refine ops_want rfl rfl rfl (ow_loadB b1 ti2 rfl rfl ?_)
  refine ops_want rfl rfl rfl (ow_call ent109 rfl (ret_mono (within_c _ _ _ _) ?_))
  rintro _ w11 ⟨rfl, x10⟩
  replace b1 := b1.ext x10
  replace X := Ext.trans X x10; clear x10
  refine ops_cons rfl (ow_pick rfl rfl ?_)
  refine ops_cons rfl (ow_assign rfl ?_)
  refine ops_nil ?_
  refine c_ret ?_
  refine fin_ret1 rfl rfl ?_
  · skip
    refine ⟨congrArg Value.bool ?_, X⟩
    first
    | (rw [trimV_nil] at n3; simp only [nodeOk, nameOk, n3, decide_eq_true (show 1 ≤ x.name.size by omega), decide_eq_true (show x.name.size ≤ 6 by omega)]; simp [*]; done)
    | (rw [trimV_nil] at n3; simp only [nodeOk, nameOk, n3]; simp; done)
    | (simp only [nodeOk, nameOk, decide_eq_false (show ¬ x.name.size ≤ 6 by omega)]; simp; done)
    | (simp only [nodeOk, nameOk, decide_eq_false (show ¬ 1 ≤ x.name.size by omega)]; simp; done)
  replace b1 := b1.ext x8
  replace X := Ext.trans X x8; clear x8
  refine ops_cons rfl (ow_pick rfl rfl ?_)
  refine ops_cons rfl (ow_move rfl ?_)
  refine ops_skip rfl rfl rfl rfl ?_
  refine ops_skip rfl rfl rfl rfl ?_
  refine ops_skip rfl rfl rfl rfl ?_
  refine ops_cons rfl (ow_pick rfl rfl ?_)
  refine ops_cons rfl (ow_assign rfl ?_)
  refine ops_nil ?_
  refine c_ret ?_
  refine fin_ret1 rfl rfl ?_
  · skip
    refine ⟨congrArg Value.bool ?_, X⟩
    first
    | (rw [trimV_nil] at n3; simp only [nodeOk, nameOk, n3, decide_eq_true (show 1 ≤ x.name.size by omega), decide_eq_true (show x.name.size ≤ 6 by omega)]; simp [*]; done)
    | (rw [trimV_nil] at n3; simp only [nodeOk, nameOk, n3]; simp; done)
    | (simp only [nodeOk, nameOk, decide_eq_false (show ¬ x.name.size ≤ 6 by omega)]; simp; done)
    | (simp only [nodeOk, nameOk, decide_eq_false (show ¬ 1 ≤ x.name.size by omega)]; simp; done)
  refine ops_cons rfl (ow_pick rfl rfl ?_)
  refine ops_cons rfl (ow_assign rfl ?_)
  refine ops_nil ?_
  refine c_seqR ?_
  refine ops_cons rfl (ow_move rfl ?_)
  refine ops_cons rfl (ow_move rfl ?_)
  refine ops_skip rfl rfl rfl rfl ?_
  refine ops_skip rfl rfl rfl rfl ?_
  refine ops_skip rfl rfl rfl rfl ?_
  refine ops_cons rfl (ow_pick rfl rfl ?_)
  refine ops_cons rfl (ow_move rfl ?_)
  refine ops_skip rfl rfl rfl rfl ?_
  refine ops_skip rfl rfl rfl rfl ?_
  refine ops_skip rfl rfl rfl rfl ?_
  refine ops_cons rfl (ow_pick rfl rfl ?_)
  refine ops_cons rfl (ow_assign rfl ?_)
  refine ops_nil ?_
  refine c_ret ?_
  refine fin_ret1 rfl rfl ?_
  · skip
    refine ⟨congrArg Value.bool ?_, X⟩
    first
    | (rw [trimV_nil] at n3; simp only [nodeOk, nameOk, n3, decide_eq_true (show 1 ≤ x.name.size by omega), decide_eq_true (show x.name.size ≤ 6 by omega)]; simp [*]; done)
    | (rw [trimV_nil] at n3; simp only [nodeOk, nameOk, n3]; simp; done)
    | (simp only [nodeOk, nameOk, decide_eq_false (show ¬ x.name.size ≤ 6 by omega)]; simp; done)
    | (simp only [nodeOk, nameOk, decide_eq_false (show ¬ 1 ≤ x.name.size by omega)]; simp; done)
  refine ops_cons rfl (ow_pick rfl rfl ?_)
  refine ops_cons rfl (ow_move rfl ?_)
  refine ops_skip rfl rfl rfl rfl ?_
  refine ops_skip rfl rfl rfl rfl ?_
  refine ops_skip rfl rfl rfl rfl ?_
  refine ops_skip rfl rfl rfl rfl ?_
  refine ops_cons rfl (ow_pick rfl rfl ?_)
  refine ops_cons rfl (ow_assign rfl ?_)
  refine ops_nil ?_
  refine c_seqR ?_
  refine ops_cons rfl (ow_move rfl ?_)
  refine ops_cons rfl (ow_move rfl ?_)
  refine ops_skip rfl rfl rfl rfl ?_
  refine ops_skip rfl rfl rfl rfl ?_
  refine ops_skip rfl rfl rfl rfl ?_
  refine ops_cons rfl (ow_pick rfl rfl ?_)
  refine ops_cons rfl (ow_move rfl ?_)
  refine ops_skip rfl rfl rfl rfl ?_
  refine ops_skip rfl rfl rfl rfl ?_
  refine ops_skip rfl rfl rfl rfl ?_
  refine ops_cons rfl (ow_pick rfl rfl ?_)
  refine ops_cons rfl (ow_assign rfl ?_)
  refine ops_nil ?_
  refine c_ret ?_
  refine fin_ret1 rfl rfl ?_
  · skip
    refine ⟨congrArg Value.bool ?_, X⟩
    first
    | (rw [trimV_nil] at n3; simp only [nodeOk, nameOk, n3, decide_eq_true (show 1 ≤ x.name.size by omega), decide_eq_true (show x.name.size ≤ 6 by omega)]; simp [*]; done)
    | (rw [trimV_nil] at n3; simp only [nodeOk, nameOk, n3]; simp; done)
    | (simp only [nodeOk, nameOk, decide_eq_false (show ¬ x.name.size ≤ 6 by omega)]; simp; done)
    | (simp only [nodeOk, nameOk, decide_eq_false (show ¬ 1 ≤ x.name.size by omega)]; simp; done)
  refine ops_cons rfl (ow_move rfl ?_)
  refine ops_skip rfl rfl rfl rfl ?_
  refine ops_skip rfl rfl rfl rfl ?_
  refine ops_skip rfl rfl rfl rfl ?_
  refine ops_skip rfl rfl rfl rfl ?_
  refine ops_cons rfl (ow_pick rfl rfl ?_)
  refine ops_cons rfl (ow_move rfl ?_)
  refine ops_skip rfl rfl rfl rfl ?_
  refine ops_skip rfl rfl rfl rfl ?_
  refine ops_skip rfl rfl rfl rfl ?_
  refine ops_skip rfl rfl rfl rfl ?_
  refine ops_cons rfl (ow_pick rfl rfl ?_)
  refine ops_cons rfl (ow_assign rfl ?_)
  refine ops_nil ?_
  refine c_seqR ?_
  refine ops_cons rfl (ow_move rfl ?_)
  refine ops_cons rfl (ow_move rfl ?_)
  refine ops_skip rfl rfl rfl rfl ?_
  refine ops_skip rfl rfl rfl rfl ?_
  refine ops_skip rfl rfl rfl rfl ?_
  refine ops_cons rfl (ow_pick rfl rfl ?_)
  refine ops_cons rfl (ow_move rfl ?_)
  refine ops_skip rfl rfl rfl rfl ?_
  refine ops_skip rfl rfl rfl rfl ?_
  refine ops_skip rfl rfl rfl rfl ?_
  refine ops_cons rfl (ow_pick rfl rfl ?_)
  refine ops_cons rfl (ow_assign rfl ?_)
  refine ops_nil ?_
  refine c_ret ?_
  refine fin_ret1 rfl rfl ?_
  · skip
    refine ⟨congrArg Value.bool ?_, X⟩
    first
    | (rw [trimV_nil] at n3; simp only [nodeOk, nameOk, n3, decide_eq_true (show 1 ≤ x.name.size by omega), decide_eq_true (show x.name.size ≤ 6 by omega)]; simp [*]; done)
    | (rw [trimV_nil] at n3; simp only [nodeOk, nameOk, n3]; simp; done)
    | (simp only [nodeOk, nameOk, decide_eq_false (show ¬ x.name.size ≤ 6 by omega)]; simp; done)
    | (simp only [nodeOk, nameOk, decide_eq_false (show ¬ 1 ≤ x.name.size by omega)]; simp; done)
end Go.Proofs.YtdoibplhbdkapaaGreatDoor
