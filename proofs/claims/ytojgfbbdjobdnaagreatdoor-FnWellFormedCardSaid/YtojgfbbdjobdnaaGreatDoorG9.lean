/- The members of a vector. No condition. -/
import Derived.Test.YtojgfbbdjobdnaaGreatDoorG8
import Derived.Test.YtojgfbbdjobdnaaGreatDoorN1
namespace Go.Proofs.YtojgfbbdjobdnaaGreatDoor
open Go.RowKit
set_option linter.unusedVariables false
set_option linter.unusedSimpArgs false
set_option maxRecDepth 20000
theorem l05Vec_c (A : Option Addr) (B c : Nat) (a : Nat) (w : World) (hs : Sl B w A (([(a : Int)] : List Int).flatMap eI)) (ha : a < 4294967296) :
    Calls Tryz.prog 231 #[.slice A 1 c] w (Ret fun v w' => v = .bool true ∧ Ext w w') := by
  have Bhs := hs.1
  have X := Ext.refl w
  refine calls_of (args := [.slice A 1 c]) Tryz.func231 Tryz.ntmps231 rfl rfl ?_
  refine c_seqR ?_
  refine ops_cons rfl (ow_assign rfl ?_)
  refine ops_nil ?_
  refine c_seq ?_
  refine c_seqR ?_
  refine ops_cons rfl (ow_assign rfl ?_)
  refine ops_nil ?_
  refine c_block ?_
  refine c_loop (G := Nat) (fun k => [(0, .slice A 1 c), (3, .int .i64 (k : Nat))]) (fun k wr => k ≤ 1 ∧ Sl B wr A (([(a : Int)] : List Int).flatMap eI) ∧ Ext w wr) (fun k => 1 - k) 0 (.cons rfl (.cons rfl (.nil _))) ?_ ?_
  · exact ⟨by omega, hs, X⟩
  clear hs
  clear X
  rintro k wr ⟨hk0, hs, X⟩
  refine c_seq ?_
  refine c_seqR ?_
  refine ops_cons rfl (ow_move rfl ?_)
  refine ops_cons rfl (ow_move rfl ?_)
  refine ops_cons rfl (ow_len Tryz.underlying30 rfl ?_)
  refine ops_cons rfl (ow_lss2 rfl rfl (fun hk => ?_) (fun hk => ?_))
  have hk00 : k = 0 := by omega
  refine ops_nil ?_
  refine c_true rfl ?_
  refine c_skip ?_
  refine tq_n ?_
  refine c_seq ?_
  refine c_block ?_
  refine c_seqR ?_
  refine ops_cons rfl (ow_move rfl ?_)
  refine ops_cons rfl (ow_move rfl ?_)
  refine ops_cons rfl (ow_indexT hs eI_len rfl el30 rfl rfl rfl (show ([(a : Int)] : List Int)[k]? = some (a : Int) by rw [hk00]; rfl) rfl ?_)
  refine ops_cons rfl (ow_loadT hs eI_len (show ([(a : Int)] : List Int)[k]? = some (a : Int) by rw [hk00]; rfl) ti2 rfl rfl rfl ?_)
  refine ops_cons rfl (ow_callB ent116 rfl (l01In_c _ _ _ _) (fun w2 hin x1 => ?_) (fun w2 hin x1 => by (have : inB (a : Int) 0 4294967295 = true := inB_iff.2 (by omega); rw [this] at hin; cases hin)))
  replace hs := hs.ext x1
  replace X := Ext.trans X x1; clear x1
  refine ops_cons rfl (ow_not rfl ?_)
  refine ops_nil ?_
  refine c_false rfl ?_
  refine c_skip ?_
  refine bq_n ?_
  refine tq_n ?_
  refine c_region ?_
  refine ops_cons rfl (ow_move rfl ?_)
  refine ops_cons rfl (ow_add rfl rfl (w64 (by omega)) ?_)
  refine ops_cons rfl (ow_assign rfl ?_)
  refine ops_nil ?_
  refine tq_n ⟨k + 1, (.cons rfl (.cons rfl (.nil _))), ?_, ?_⟩
  · exact ⟨by omega, hs, X⟩
  · first | omega | (dsimp only; omega)
  refine ops_nil ?_
  refine c_false rfl ?_
  refine c_exit ?_
  refine tq_e ?_
  refine tq_e ?_
  refine bq_e ?_
  refine tq_n ?_
  refine c_seqR ?_
  refine ops_cons rfl (ow_assign rfl ?_)
  refine ops_nil ?_
  refine c_ret ?_
  refine fin_ret1 rfl rfl ?_
  exact ⟨by rfl, X⟩

theorem membersOf_c (a : Nat) (w : World) (ha : a < 4294967296) :
    Calls Tryz.prog 183 #[.int .i64 (a : Nat)] w (Ret fun v w' => ∃ A' c', v = .tuple #[.slice A' (membK a 32).length c', .int .i64 0] ∧ Own w' w.heap.size 2 1 A' (membK a 32).length c' ((membK a 32).flatMap eI) ∧ Ext w w') := by
  have X := Ext.refl w
  refine calls_of (args := [.int .i64 (a : Nat)]) Tryz.func183 Tryz.ntmps183 rfl rfl ?_
  refine c_seqR ?_
  refine ops_cons rfl (ow_assign rfl ?_)
  refine ops_cons rfl (ow_assign rfl ?_)
  refine ops_nil ?_
  refine c_seq ?_
  refine c_seqR ?_
  refine ops_cons rfl (ow_move rfl ?_)
  refine ops_cons rfl (ow_buildSlice el30 ti2 rfl rfl rfl rfl rfl ?_)
  intro g1 w3 eg1 oB bbg1 x2 zg1
  replace oB := Own.low oB X.size
  replace X := Ext.trans X x2; clear x2
  replace oB := oB.to (cs' := ([(a : Int)] : List Int).flatMap eI) rfl
  refine ops_cons rfl (ow_call ent231 rfl (ret_mono (l05Vec_c _ _ _ _ _ (oB).sl ha) ?_))
  rintro _ w5 ⟨rfl, x4⟩
  replace oB := oB.ext x4
  replace X := Ext.trans X x4; clear x4
  refine ops_cons rfl (ow_not rfl ?_)
  refine ops_nil ?_
  refine c_false rfl ?_
  refine c_skip ?_
  refine tq_n ?_
  refine c_seqR ?_
  refine ops_cons rfl (ow_buildSlice el30 ti2 rfl rfl rfl rfl rfl ?_)
  intro gO w7 egO oO bbgO x6 zgO
  replace oO := Own.low oO X.size
  replace X := Ext.trans X x6; clear x6
  refine ops_cons rfl (ow_assign rfl ?_)
  refine ops_nil ?_
  refine c_seq ?_
  refine c_seqR ?_
  refine ops_cons rfl (ow_assign rfl ?_)
  refine ops_nil ?_
  refine c_block ?_
  refine c_loop (G := Nat × Nat × Option Addr × Nat) (fun ⟨k, n1, A1, c1⟩ => [(0, .int .i64 (a : Nat)), (2, .slice none 0 0), (3, .int .i64 0), (4, .slice A1 n1 c1), (5, .int .i64 (k : Nat))]) (fun ⟨k, n1, A1, c1⟩ wr => k ≤ 32 ∧ n1 = (membK a k).length ∧ Own wr w.heap.size 2 1 A1 n1 c1 ((membK a k).flatMap eI) ∧ Ext w wr) (fun ⟨k, n1, A1, c1⟩ => 32 - k) (0, 0, some ⟨gO, 0, none⟩, 0) (.cons rfl (.cons rfl (.cons rfl (.cons rfl (.cons rfl (.nil _)))))) ?_ ?_
  · exact ⟨by omega, rfl, oO, X⟩
  clear oO
  clear X
  rintro ⟨k, n1, A1, c1⟩ wr ⟨hk0, hn1, oO, X⟩
  refine c_seq ?_
  refine c_seqR ?_
  refine ops_cons rfl (ow_move rfl ?_)
  refine ops_cons rfl (ow_lss2 rfl rfl (fun hk => ?_) (fun hk => ?_))
  refine ops_nil ?_
  refine c_true rfl ?_
  refine c_skip ?_
  refine tq_n ?_
  refine c_seq ?_
  refine c_block ?_
  refine c_seqR ?_
  refine ops_cons rfl (ow_move rfl ?_)
  refine ops_cons rfl (ow_move rfl ?_)
  refine ops_cons rfl (ow_callB ent198 rfl (l05Has_c _ _ _ ha (by omega)) (fun w9 hb0 x8 => ?_) (fun w9 hb0 x8 => ?_))
  replace oO := oO.ext x8
  replace X := Ext.trans X x8; clear x8
  have hb : a.testBit k = true := by simpa [hasN] using hb0
  have hml := membK_len a k
  refine ops_nil ?_
  refine c_true rfl ?_
  refine c_region ?_
  refine ops_cons rfl (ow_move rfl ?_)
  refine ops_cons rfl (ow_move rfl ?_)
  refine ops_cons rfl (ow_buildSlice el30 ti2 rfl rfl rfl rfl rfl ?_)
  intro g10 w12 eg10 oV bbg10 x11 zg10
  replace oV := Own.low oV X.size
  replace oO := oO.ext x11
  replace X := Ext.trans X x11; clear x11
  replace oV := oV.to (cs' := ([(k : Int)] : List Int).flatMap eI) rfl
  refine ops_cons rfl (ow_append (ts := #[]) oO X.size oV.sl (by first | rfl | simp) (by first | exact List.all_eq_true.1 rfl | simp [Value.oneCell']) el30 ti2 rfl rfl rfl rfl (by omega) (by omega) ?_)
  intro AoN coN w14 oN hg13
  replace X := X.grown hg13 X.size (fun g hg => (Own.lt oO hg).1)
  clear hg13
  refine ops_cons rfl (ow_assign rfl ?_)
  refine ops_nil ?_
  refine bq_n ?_
  refine tq_n ?_
  refine c_region ?_
  refine ops_cons rfl (ow_move rfl ?_)
  refine ops_cons rfl (ow_add rfl rfl (w64 (by omega)) ?_)
  refine ops_cons rfl (ow_assign rfl ?_)
  refine ops_nil ?_
  refine tq_n ⟨(k + 1, n1 + 1, AoN, coN), (.cons rfl (.cons rfl (.cons rfl (.cons rfl (.cons rfl (.nil _)))))), ?_, ?_⟩
  · exact ⟨by omega, (by rw [membK_yes hb]; simp [hn1]), oN.to (by rw [membK_yes hb, List.flatMap_append]), X⟩
  · first | omega | (dsimp only; omega)
  replace oO := oO.ext x8
  replace X := Ext.trans X x8; clear x8
  have hb : a.testBit k = false := by simpa [hasN] using hb0
  refine ops_nil ?_
  refine c_false rfl ?_
  refine c_skip ?_
  refine bq_n ?_
  refine tq_n ?_
  refine c_region ?_
  refine ops_cons rfl (ow_move rfl ?_)
  refine ops_cons rfl (ow_add rfl rfl (w64 (by omega)) ?_)
  refine ops_cons rfl (ow_assign rfl ?_)
  refine ops_nil ?_
  refine tq_n ⟨(k + 1, n1, A1, c1), (.cons rfl (.cons rfl (.cons rfl (.cons rfl (.cons rfl (.nil _)))))), ?_, ?_⟩
  · exact ⟨by omega, (by rw [membK_no hb]; simp [hn1]), oO.to (by rw [membK_no hb]), X⟩
  · first | omega | (dsimp only; omega)
  refine ops_nil ?_
  refine c_false rfl ?_
  refine c_exit ?_
  refine tq_e ?_
  refine tq_e ?_
  refine bq_e ?_
  refine tq_n ?_
  refine c_seqR ?_
  refine ops_cons rfl (ow_move rfl ?_)
  refine ops_cons rfl (ow_assign rfl ?_)
  refine ops_cons rfl (ow_assign rfl ?_)
  refine ops_nil ?_
  refine c_ret ?_
  refine fin_ret2 rfl rfl rfl ?_
  · skip
    rw [show k = 32 by omega] at oO hn1
    rw [← hn1]
    exact ⟨A1, c1, rfl, oO, X⟩
end Go.Proofs.YtojgfbbdjobdnaaGreatDoor
