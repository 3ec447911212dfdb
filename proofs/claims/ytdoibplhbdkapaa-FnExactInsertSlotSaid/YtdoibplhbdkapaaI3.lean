/- What InsertSlot gives. No condition. -/
import Derived.Test.YtdoibplhbdkapaaI2
namespace Go.Proofs.Ytdoibplhbdkapaa
open Go.RowKit
set_option linter.unusedVariables false
set_option linter.unusedSimpArgs false
set_option maxRecDepth 20000
theorem iIns_c (A : Option Addr) (B c : Nat) (xs : List SlotI) (x : SlotI) (w : World) (hs : Sl B w A (xs.flatMap SlotI.cells)) (hl : xs.length ≤ 1048576) :
    Calls Try.prog 22 #[.slice A xs.length c, .agg x.cells.toArray] w (Ret fun v w' => ∃ A' c', v = .tuple #[.slice A' (insF xs x).1.length c', .int .i64 (insF xs x).2] ∧ Own w' w.heap.size 49 8 A' (insF xs x).1.length c' ((insF xs x).1.flatMap SlotI.cells) ∧ Ext w w') := by
  have Bhs := hs.1
  have X := Ext.refl w
  refine calls_of (args := [.slice A xs.length c, .agg x.cells.toArray]) Try.func22 Try.ntmps22 rfl rfl ?_
  refine c_seqR ?_
  refine ops_cons rfl (ow_box rfl rfl ?_)
  intro gX w2 egX bX x1 zgX
  have lgX : w.heap.size ≤ gX := Nat.le_trans X.size (Nat.le_of_eq egX.symm)
  have pgXhs := Nat.le_trans hs.1 (Nat.le_of_eq egX.symm)
  replace hs := hs.ext x1
  replace X := Ext.trans X x1; clear x1
  refine ops_cons rfl (ow_assign rfl ?_)
  refine ops_cons rfl (ow_assign rfl ?_)
  refine ops_nil ?_
  refine c_seq ?_
  refine c_seqR ?_
  refine ops_cons rfl (ow_move rfl ?_)
  refine ops_cons rfl (ow_callB ent34 rfl (iIsST_c _ _ _ _ _ hs hl) (fun w4 hT x3 => ?_) (fun w4 hT x3 => ?_))
  replace hs := hs.ext x3
  replace bX := bX.ext x3
  replace X := Ext.trans X x3; clear x3
  refine ops_cons rfl (ow_not rfl ?_)
  refine ops_nil ?_
  refine c_false rfl ?_
  refine c_skip ?_
  refine tq_n ?_
  refine c_seq ?_
  refine c_seqR ?_
  refine ops_cons rfl (ow_loadAB bX ti49 rfl rfl ?_)
  refine ops_cons rfl (ow_callB ent55 rfl (isSlotInfo_c _ _) (fun w6 hO x5 => ?_) (fun w6 hO x5 => ?_))
  replace hs := hs.ext x5
  replace bX := bX.ext x5
  replace X := Ext.trans X x5; clear x5
  refine ops_cons rfl (ow_not rfl ?_)
  refine ops_nil ?_
  refine c_false rfl ?_
  refine c_skip ?_
  refine tq_n ?_
  refine c_seqR ?_
  refine ops_cons rfl (ow_move rfl ?_)
  refine ops_cons rfl (ow_loadAB bX ti49 rfl rfl ?_)
  have hpw := isST_pw hT
  have hl120 := isST_len hT
  refine ops_cons rfl (ow_call ent56 rfl (ret_mono (bsearch_c _ _ _ xs x _ hs hl120 hpw) ?_))
  rintro _ wB ⟨p, rfl, hBS, xB⟩
  replace hs := hs.ext xB
  replace bX := bX.ext xB
  replace X := Ext.trans X xB; clear xB
  refine ops_cons rfl (ow_move rfl ?_)
  refine ops_cons rfl (ow_extract rfl rfl ?_)
  refine ops_cons rfl (ow_extract rfl rfl ?_)
  refine ops_cons rfl (ow_assign rfl ?_)
  refine ops_cons rfl (ow_assign rfl ?_)
  refine ops_nil ?_
  refine c_seq ?_
  refine c_seqR ?_
  refine ops_cons rfl (ow_move rfl ?_)
  refine ops_nil ?_
  refine c_split rfl (fun h7 => ?_) (fun h7 => ?_)
  refine c_seqR ?_
  refine ops_cons rfl (ow_assign rfl ?_)
  refine ops_cons rfl (ow_assign rfl ?_)
  refine ops_nil ?_
  refine c_ret ?_
  refine tq_r ?_
  refine fin_ret2 rfl rfl rfl ?_
  · skip
    first
    | (have e : insF xs x = ([], 5) := by rw [insF, if_pos hT, if_pos hO, if_neg ((bs_hit hpw hBS).1 ‹hitB xs x p = true›)]
       rw [e]; exact ⟨none, 0, rfl, Own.nil_ _ _ _ _, X⟩)
    | (have e : insF xs x = ([], 3) := by rw [insF, if_pos hT, if_pos hO, if_pos (by have h := ‹hitB xs x p = false›; have h2 := bs_hit hpw hBS; rw [h] at h2; simpa using h2), if_pos (by omega)]
       rw [e]; exact ⟨none, 0, rfl, Own.nil_ _ _ _ _, X⟩)
    | (have e : insF xs x = (insL xs x p, 0) := by rw [insF, if_pos hT, if_pos hO, if_pos (by have h := ‹hitB xs x p = false›; have h2 := bs_hit hpw hBS; rw [h] at h2; simpa using h2), if_neg (by omega), bs_filter hpw hBS ‹_›]
       rw [e]
       have el := insL_len (x := x) hBS.1
       exact ⟨AI, cI, by rw [el], by rw [el]; exact oI, X⟩)
  refine c_skip ?_
  refine tq_n ?_
  refine c_seq ?_
  refine c_seqR ?_
  refine ops_cons rfl (ow_move rfl ?_)
  refine ops_cons rfl (ow_len Try.underlying43 rfl ?_)
  refine ops_cons rfl (ow_eql2 rfl rfl (fun h120 => ?_) (fun h120 => ?_))
  refine ops_nil ?_
  refine c_true rfl ?_
  refine c_seqR ?_
  refine ops_cons rfl (ow_assign rfl ?_)
  refine ops_cons rfl (ow_assign rfl ?_)
  refine ops_nil ?_
  refine c_ret ?_
  refine tq_r ?_
  refine fin_ret2 rfl rfl rfl ?_
  · skip
    first
    | (have e : insF xs x = ([], 5) := by rw [insF, if_pos hT, if_pos hO, if_neg ((bs_hit hpw hBS).1 ‹hitB xs x p = true›)]
       rw [e]; exact ⟨none, 0, rfl, Own.nil_ _ _ _ _, X⟩)
    | (have e : insF xs x = ([], 3) := by rw [insF, if_pos hT, if_pos hO, if_pos (by have h := ‹hitB xs x p = false›; have h2 := bs_hit hpw hBS; rw [h] at h2; simpa using h2), if_pos (by omega)]
       rw [e]; exact ⟨none, 0, rfl, Own.nil_ _ _ _ _, X⟩)
    | (have e : insF xs x = (insL xs x p, 0) := by rw [insF, if_pos hT, if_pos hO, if_pos (by have h := ‹hitB xs x p = false›; have h2 := bs_hit hpw hBS; rw [h] at h2; simpa using h2), if_neg (by omega), bs_filter hpw hBS ‹_›]
       rw [e]
       have el := insL_len (x := x) hBS.1
       exact ⟨AI, cI, by rw [el], by rw [el]; exact oI, X⟩)
  refine ops_nil ?_
  refine c_false rfl ?_
  refine c_skip ?_
  refine tq_n ?_
  refine c_seqI (fun wz => Sl B wz A (xs.flatMap SlotI.cells) ∧ Blk wz gX 49 x.cells) mixed ?_
  obtain ⟨w9, ew9⟩ : ∃ wy, wy = World.drew wB := ⟨_, rfl⟩
  rw [← ew9]
  have xd : Ext wB w9 := ew9 ▸ Ext.drew wB
  replace hs := hs.ext xd
  replace bX := bX.ext xd
  replace X := Ext.trans X xd; clear xd ew9
  refine wi_take 0 rfl (by kernel_rfl) rfl (by kernel_rfl) (listed' := #[true, false, false, false, false, false, false, false]) rfl (fun wq sq => ow_move rfl ⟨rfl, rfl⟩) ?_
  refine wi_take 2 rfl (by kernel_rfl) rfl (by kernel_rfl) (listed' := #[true, false, true, false, false, false, false, false]) rfl (fun wq sq => ow_move rfl ⟨rfl, rfl⟩) ?_
  refine wi_take 3 rfl (by kernel_rfl) rfl (by kernel_rfl) (listed' := #[true, false, true, true, false, false, false, false]) rfl (fun wq sq => ow_loadAB sq.2 ti49 rfl rfl ⟨rfl, rfl⟩) ?_
  refine wi_two 1 4 rfl rfl rfl rfl (by kernel_rfl) (listed' := #[true, true, true, true, false, false, false, false]) (listed'' := #[true, false, true, true, true, false, false, false]) rfl rfl ⟨hs, bX⟩ ?_ ?_
  have UX := bX.lt
  refine (ow_call ent59 rfl (ret_mono (cloneSlotI_c _ _ _ xs _ hs (by omega)) ?_))
  rintro _ w11 ⟨AC, cC, rfl, oC, x10⟩
  have LoC := X.size
  replace hs := hs.ext x10
  replace bX := bX.ext x10
  replace X := Ext.trans X x10; clear x10
  have hbC : ∀ g, (Value.slice AC xs.length cC).ownBlock = some g → g ≠ gX := fun g hg e => absurd (Own.lt oC hg).1 (Nat.not_le.2 (e ▸ UX))
  replace oC := oC.low LoC
  have UC := fun g hg => (Own.lt oC (g := g) hg).2
  refine wi_one 4 rfl rfl (by kernel_rfl) (listed' := #[true, true, true, true, true, false, false, false]) rfl ⟨hs, bX⟩ (ow_buildSlice el43 ti49 rfl rfl rfl rfl rfl ?_)
  intro gv w13 egv oV bbgv x12 zgv
  replace oV := Own.low oV X.size
  replace hs := hs.ext x12
  replace bX := bX.ext x12
  replace oC := oC.ext x12
  replace X := Ext.trans X x12; clear x12
  have hne : (Value.slice AC xs.length cC).ownBlock ≠ some gv := fun h => absurd (UC _ h) (by omega)
  replace oV := oV.to (cs' := x.cells) rfl
  refine wi_one 5 rfl rfl (by kernel_rfl) (listed' := #[true, true, true, true, true, true, false, false]) rfl ⟨hs, bX⟩ (ow_call ent58 rfl (ret_mono (insert_c AC w.heap.size cC p gv 1 _ xs x _ oC oV hne hBS.1 hl120 X.size) ?_))
  rintro _ wI ⟨AI, cI, rfl, oI, gI⟩
  replace hs := hs.grown gI (fun g hg => Nat.le_trans Bhs (Own.lt oC hg).1)
  replace bX := bX.grown gI (fun h => hbC _ h.symm rfl)
  replace X := X.grown gI X.size (fun g hg => (Own.lt oC hg).1)
  refine wi_take 6 rfl (by kernel_rfl) rfl (by kernel_rfl) (listed' := #[true, true, true, true, true, true, true, false]) rfl (fun wq sq => ow_assign rfl ⟨rfl, rfl⟩) ?_
  refine wi_take 7 rfl (by kernel_rfl) rfl (by kernel_rfl) (listed' := #[true, true, true, true, true, true, true, true]) rfl (fun wq sq => ow_assign rfl ⟨rfl, rfl⟩) ?_
  refine wi_done rfl ⟨hs, bX⟩ (fun aj fj => ⟨_, fj, ?_⟩)
  refine c_ret ?_
  refine fin_ret2 rfl rfl rfl ?_
  · skip
    first
    | (have e : insF xs x = ([], 5) := by rw [insF, if_pos hT, if_pos hO, if_neg ((bs_hit hpw hBS).1 ‹hitB xs x p = true›)]
       rw [e]; exact ⟨none, 0, rfl, Own.nil_ _ _ _ _, X⟩)
    | (have e : insF xs x = ([], 3) := by rw [insF, if_pos hT, if_pos hO, if_pos (by have h := ‹hitB xs x p = false›; have h2 := bs_hit hpw hBS; rw [h] at h2; simpa using h2), if_pos (by omega)]
       rw [e]; exact ⟨none, 0, rfl, Own.nil_ _ _ _ _, X⟩)
    | (have e : insF xs x = (insL xs x p, 0) := by rw [insF, if_pos hT, if_pos hO, if_pos (by have h := ‹hitB xs x p = false›; have h2 := bs_hit hpw hBS; rw [h] at h2; simpa using h2), if_neg (by omega), bs_filter hpw hBS ‹_›]
       rw [e]
       have el := insL_len (x := x) hBS.1
       exact ⟨AI, cI, by rw [el], by rw [el]; exact oI, X⟩)
  refine (ow_buildSlice el43 ti49 rfl rfl rfl rfl rfl ?_)
  intro gv w15 egv oV bbgv x14 zgv
  replace oV := Own.low oV X.size
  replace hs := hs.ext x14
  replace bX := bX.ext x14
  replace X := Ext.trans X x14; clear x14
  replace oV := oV.to (cs' := x.cells) rfl
  have UX := bX.lt
  have LV := (Own.lt oV (g := gv) rfl).2
  refine wi_one 1 rfl rfl (by kernel_rfl) (listed' := #[true, true, true, true, true, false, false, false]) rfl ⟨hs, bX⟩ (ow_call ent59 rfl (ret_mono (cloneSlotI_c _ _ _ xs _ hs (by omega)) ?_))
  rintro _ w17 ⟨AC, cC, rfl, oC, x16⟩
  have LoC := X.size
  replace hs := hs.ext x16
  replace bX := bX.ext x16
  replace oV := oV.ext x16
  replace X := Ext.trans X x16; clear x16
  have hne : (Value.slice AC xs.length cC).ownBlock ≠ some gv := fun h => absurd (Own.lt oC h).1 (Nat.not_le.2 LV)
  have hbC : ∀ g, (Value.slice AC xs.length cC).ownBlock = some g → g ≠ gX := fun g hg e => absurd (Own.lt oC hg).1 (Nat.not_le.2 (e ▸ UX))
  replace oC := oC.low LoC
  refine wi_one 5 rfl rfl (by kernel_rfl) (listed' := #[true, true, true, true, true, true, false, false]) rfl ⟨hs, bX⟩ (ow_call ent58 rfl (ret_mono (insert_c AC w.heap.size cC p gv 1 _ xs x _ oC oV hne hBS.1 hl120 X.size) ?_))
  rintro _ wI ⟨AI, cI, rfl, oI, gI⟩
  replace hs := hs.grown gI (fun g hg => Nat.le_trans Bhs (Own.lt oC hg).1)
  replace bX := bX.grown gI (fun h => hbC _ h.symm rfl)
  replace X := X.grown gI X.size (fun g hg => (Own.lt oC hg).1)
  refine wi_take 6 rfl (by kernel_rfl) rfl (by kernel_rfl) (listed' := #[true, true, true, true, true, true, true, false]) rfl (fun wq sq => ow_assign rfl ⟨rfl, rfl⟩) ?_
  refine wi_take 7 rfl (by kernel_rfl) rfl (by kernel_rfl) (listed' := #[true, true, true, true, true, true, true, true]) rfl (fun wq sq => ow_assign rfl ⟨rfl, rfl⟩) ?_
  refine wi_done rfl ⟨hs, bX⟩ (fun aj fj => ⟨_, fj, ?_⟩)
  refine c_ret ?_
  refine fin_ret2 rfl rfl rfl ?_
  · skip
    first
    | (have e : insF xs x = ([], 5) := by rw [insF, if_pos hT, if_pos hO, if_neg ((bs_hit hpw hBS).1 ‹hitB xs x p = true›)]
       rw [e]; exact ⟨none, 0, rfl, Own.nil_ _ _ _ _, X⟩)
    | (have e : insF xs x = ([], 3) := by rw [insF, if_pos hT, if_pos hO, if_pos (by have h := ‹hitB xs x p = false›; have h2 := bs_hit hpw hBS; rw [h] at h2; simpa using h2), if_pos (by omega)]
       rw [e]; exact ⟨none, 0, rfl, Own.nil_ _ _ _ _, X⟩)
    | (have e : insF xs x = (insL xs x p, 0) := by rw [insF, if_pos hT, if_pos hO, if_pos (by have h := ‹hitB xs x p = false›; have h2 := bs_hit hpw hBS; rw [h] at h2; simpa using h2), if_neg (by omega), bs_filter hpw hBS ‹_›]
       rw [e]
       have el := insL_len (x := x) hBS.1
       exact ⟨AI, cI, by rw [el], by rw [el]; exact oI, X⟩)
  replace hs := hs.ext x5
  replace bX := bX.ext x5
  replace X := Ext.trans X x5; clear x5
  refine ops_cons rfl (ow_not rfl ?_)
  refine ops_nil ?_
  refine c_true rfl ?_
  refine c_seqR ?_
  refine ops_cons rfl (ow_assign rfl ?_)
  refine ops_cons rfl (ow_assign rfl ?_)
  refine ops_nil ?_
  refine c_ret ?_
  refine tq_r ?_
  refine fin_ret2 rfl rfl rfl ?_
  · skip
    have e : insF xs x = ([], 2) := by rw [insF, if_pos hT, if_neg (by simp [hO])]
    rw [e]; exact ⟨none, 0, rfl, Own.nil_ _ _ _ _, X⟩
  replace hs := hs.ext x3
  replace bX := bX.ext x3
  replace X := Ext.trans X x3; clear x3
  refine ops_cons rfl (ow_not rfl ?_)
  refine ops_nil ?_
  refine c_true rfl ?_
  refine c_seqR ?_
  refine ops_cons rfl (ow_assign rfl ?_)
  refine ops_cons rfl (ow_assign rfl ?_)
  refine ops_nil ?_
  refine c_ret ?_
  refine tq_r ?_
  refine fin_ret2 rfl rfl rfl ?_
  · skip
    have e : insF xs x = ([], 1) := by rw [insF, if_neg (by simp [hT])]
    rw [e]; exact ⟨none, 0, rfl, Own.nil_ _ _ _ _, X⟩

theorem sIns_c (A : Option Addr) (B c : Nat) (xs : List SlotI) (x : SlotI) (w : World) (hs : Sl B w A (xs.flatMap SlotI.cells)) (hl : xs.length ≤ 1048576) :
    Calls Try.prog 19 #[.slice A xs.length c, .agg x.cells.toArray] w (Ret fun v w' => ∃ A' c', v = .tuple #[.slice A' (insF xs x).1.length c', .int .i64 (insF xs x).2] ∧ Own w' w.heap.size 49 8 A' (insF xs x).1.length c' ((insF xs x).1.flatMap SlotI.cells) ∧ Ext w w') := by
  have Bhs := hs.1
  have X := Ext.refl w
  refine calls_of (args := [.slice A xs.length c, .agg x.cells.toArray]) Try.func19 Try.ntmps19 rfl rfl ?_
  refine c_seqR ?_
  refine ops_cons rfl (ow_box rfl rfl ?_)
  intro gX w2 egX bX x1 zgX
  have lgX : w.heap.size ≤ gX := Nat.le_trans X.size (Nat.le_of_eq egX.symm)
  have pgXhs := Nat.le_trans hs.1 (Nat.le_of_eq egX.symm)
  replace hs := hs.ext x1
  replace X := Ext.trans X x1; clear x1
  refine ops_cons rfl (ow_assign rfl ?_)
  refine ops_cons rfl (ow_assign rfl ?_)
  refine ops_nil ?_
  refine c_seq ?_
  refine c_block ?_
  refine c_seqR ?_
  refine ops_cons rfl (ow_move rfl ?_)
  refine ops_cons rfl (ow_callB ent51 rfl (sIsST_c _ _ _ _ _ hs hl) (fun w4 hT x3 => ?_) (fun w4 hT x3 => ?_))
  replace hs := hs.ext x3
  replace bX := bX.ext x3
  replace X := Ext.trans X x3; clear x3
  refine ops_cons rfl (ow_not rfl ?_)
  refine ops_cons rfl (ow_assign rfl ?_)
  refine ops_nil ?_
  refine c_false rfl ?_
  refine c_seqR ?_
  refine ops_cons rfl (ow_loadAB bX ti49 rfl rfl ?_)
  refine ops_cons rfl (ow_callB ent52 rfl (l12Is_c _ _) (fun w6 hO x5 => ?_) (fun w6 hO x5 => ?_))
  replace hs := hs.ext x5
  replace bX := bX.ext x5
  replace X := Ext.trans X x5; clear x5
  refine ops_cons rfl (ow_not rfl ?_)
  refine ops_cons rfl (ow_assign rfl ?_)
  refine ops_nil ?_
  refine c_false rfl ?_
  refine c_seqR ?_
  refine ops_cons rfl (ow_move rfl ?_)
  refine ops_cons rfl (ow_fieldAddrB off49_0 rfl rfl ?_)
  refine ops_cons rfl (ow_loadB bX ti2 rfl rfl ?_)
  refine ops_cons rfl (ow_fieldAddrB off49_1 rfl rfl ?_)
  refine ops_cons rfl (ow_loadB bX ti2 rfl rfl ?_)
  refine ops_cons rfl (ow_fieldAddrB off49_2 rfl rfl ?_)
  refine ops_cons rfl (ow_loadB bX ti2 rfl rfl ?_)
  refine ops_cons rfl (ow_call ent53 rfl (ret_mono (l12Find_c _ _ _ _ _ _ _ _ hs hl) ?_))
  rintro _ w9 ⟨rfl, x7⟩
  replace hs := hs.ext x7
  replace bX := bX.ext x7
  replace X := Ext.trans X x7; clear x7
  refine ops_cons rfl (ow_geq2 rfl rfl (fun hF => ?_) (fun hF => ?_))
  refine ops_cons rfl (ow_assign rfl ?_)
  refine ops_nil ?_
  refine c_true rfl ?_
  refine c_seqR ?_
  refine ops_cons rfl (ow_assign rfl ?_)
  refine ops_cons rfl (ow_assign rfl ?_)
  refine ops_nil ?_
  refine c_ret ?_
  refine bq_r ?_
  refine tq_r ?_
  refine fin_ret2 rfl rfl rfl ?_
  · skip
    first
    | (have e : insF xs x = ([], 5) := by rw [insF, if_pos hT, if_pos hO, if_neg (by omega)]
       rw [e]; exact ⟨none, 0, rfl, Own.nil_ _ _ _ _, X⟩)
    | (have e : insF xs x = ([], 3) := by rw [insF, if_pos hT, if_pos hO, if_pos (by omega), if_pos (by omega)]
       rw [e]; exact ⟨none, 0, rfl, Own.nil_ _ _ _ _, X⟩)
    | (have e : insF xs x = (ltL xs x ++ x :: gtL xs x, 0) := by rw [insF, if_pos hT, if_pos hO, if_pos (by omega), if_neg (by omega)]
       rw [e]
       have hkk : k = xs.length := by omega
       rw [hkk, List.take_length] at oP hn
       rw [← hn]
       exact ⟨A1, c1, rfl, oP.low (Nat.le_succ_of_le lgX), X⟩)
  refine ops_cons rfl (ow_assign rfl ?_)
  refine ops_nil ?_
  refine c_false rfl ?_
  refine c_seqR ?_
  refine ops_cons rfl (ow_move rfl ?_)
  refine ops_cons rfl (ow_len Try.underlying43 rfl ?_)
  refine ops_cons rfl (ow_eql2 rfl rfl (fun h120 => ?_) (fun h120 => ?_))
  refine ops_cons rfl (ow_assign rfl ?_)
  refine ops_nil ?_
  refine c_true rfl ?_
  refine c_seqR ?_
  refine ops_cons rfl (ow_assign rfl ?_)
  refine ops_cons rfl (ow_assign rfl ?_)
  refine ops_nil ?_
  refine c_ret ?_
  refine bq_r ?_
  refine tq_r ?_
  refine fin_ret2 rfl rfl rfl ?_
  · skip
    first
    | (have e : insF xs x = ([], 5) := by rw [insF, if_pos hT, if_pos hO, if_neg (by omega)]
       rw [e]; exact ⟨none, 0, rfl, Own.nil_ _ _ _ _, X⟩)
    | (have e : insF xs x = ([], 3) := by rw [insF, if_pos hT, if_pos hO, if_pos (by omega), if_pos (by omega)]
       rw [e]; exact ⟨none, 0, rfl, Own.nil_ _ _ _ _, X⟩)
    | (have e : insF xs x = (ltL xs x ++ x :: gtL xs x, 0) := by rw [insF, if_pos hT, if_pos hO, if_pos (by omega), if_neg (by omega)]
       rw [e]
       have hkk : k = xs.length := by omega
       rw [hkk, List.take_length] at oP hn
       rw [← hn]
       exact ⟨A1, c1, rfl, oP.low (Nat.le_succ_of_le lgX), X⟩)
  refine ops_cons rfl (ow_assign rfl ?_)
  refine ops_nil ?_
  refine c_false rfl ?_
  refine c_skip ?_
  refine bq_n ?_
  refine tq_n ?_
  refine c_seqR ?_
  have hl120 := isST_len hT
  refine ops_cons rfl (ow_buildSlice el43 ti49 rfl rfl rfl rfl rfl ?_)
  intro gO w11 egO oO bbgO x10 zgO
  replace oO := Own.low oO bX.lt
  replace hs := hs.ext x10
  replace bX := bX.ext x10
  replace X := Ext.trans X x10; clear x10
  replace oO := oO.to (cs' := (ltL (xs.take 0) x).flatMap SlotI.cells) rfl
  refine ops_cons rfl (ow_assign rfl ?_)
  refine ops_nil ?_
  refine c_seq ?_
  refine c_seqR ?_
  refine ops_cons rfl (ow_assign rfl ?_)
  refine ops_nil ?_
  refine c_block ?_
  refine c_loop (G := Nat × Nat × Option Addr × Nat) (fun ⟨k, n1, A1, c1⟩ => [(0, .slice A xs.length c), (3, .pointer (some ⟨gX, 0, none⟩)), (4, .slice none 0 0), (5, .int .i64 0), (6, .slice A1 n1 c1), (7, .int .i64 (k : Nat))]) (fun ⟨k, n1, A1, c1⟩ wr => k ≤ xs.length ∧ n1 = (ltL (xs.take k) x).length ∧ n1 ≤ 0 + k ∧ Own wr (gX + 1) 49 8 A1 n1 c1 ((ltL (xs.take k) x).flatMap SlotI.cells) ∧ Sl B wr A (xs.flatMap SlotI.cells) ∧ Blk wr gX 49 x.cells ∧ Ext w wr) (fun ⟨k, n1, A1, c1⟩ => xs.length - k) (0, 0, some ⟨gO, 0, none⟩, 0) (.cons rfl (.cons rfl (.cons rfl (.cons rfl (.cons rfl (.cons rfl (.nil _))))))) ?_ ?_
  · exact ⟨by omega, rfl, (by omega), oO, hs, bX, X⟩
  clear hs bX oO
  clear X
  rintro ⟨k, n1, A1, c1⟩ wr ⟨hk0, hn, hn1, oO, hs, bX, X⟩
  refine c_seq ?_
  refine c_seqR ?_
  refine ops_cons rfl (ow_move rfl ?_)
  refine ops_cons rfl (ow_move rfl ?_)
  refine ops_cons rfl (ow_len Try.underlying43 rfl ?_)
  refine ops_cons rfl (ow_lss2 rfl rfl (fun hk => ?_) (fun hk => ?_))
  obtain ⟨y, hy, dy⟩ := drop_at' hk
  refine ops_nil ?_
  refine c_true rfl ?_
  refine c_skip ?_
  refine tq_n ?_
  refine c_seq ?_
  refine c_block ?_
  refine c_seqD [false, false, false, false, false, false, false] mixed (by kernel_rfl) ?_
  refine f_q rfl (fun wq sq => ow_move rfl ⟨rfl, Ext.refl _⟩) ?_
  refine f_q rfl (fun wq sq => ow_move rfl ⟨rfl, Ext.refl _⟩) ?_
  refine f_q rfl (fun wq sq => ow_indexT (hs.ext sq) SlotI.len rfl el43 rfl rfl rfl hy rfl ⟨rfl, Ext.refl _⟩) ?_
  refine f_q rfl (fun wq sq => ow_loadTA (hs.ext sq) SlotI.len hy ti49 rfl ⟨rfl, Ext.refl _⟩) ?_
  refine f_q rfl (fun wq sq => ow_loadAB (bX.ext sq) ti49 rfl rfl ⟨rfl, Ext.refl _⟩) ?_
  refine f_q rfl (fun wq sq => ow_call ent31 rfl (sCompareSlots_c y x _)) ?_
  refine f_qb rfl (fun wq sq => ow_lss rfl rfl ⟨rfl, Ext.refl _⟩) (fun hc => ?_) (fun hc => ?_)
  refine f_nil (fun w12 sq => ?_)
  have xq := sq
  replace oO := oO.ext xq
  replace hs := hs.ext xq
  replace bX := bX.ext xq
  replace X := Ext.trans X xq; clear xq sq
  refine ops_nil ?_
  refine c_true rfl ?_
  refine c_region ?_
  refine ops_cons rfl (ow_move rfl ?_)
  refine ops_cons rfl (ow_move rfl ?_)
  refine ops_cons rfl (ow_move rfl ?_)
  refine ops_cons rfl (ow_indexT hs SlotI.len rfl el43 rfl rfl rfl hy rfl ?_)
  refine ops_cons rfl (ow_loadTA hs SlotI.len hy ti49 rfl ?_)
  refine ops_cons rfl (ow_buildSlice el43 ti49 rfl rfl rfl rfl rfl ?_)
  intro g13 w15 eg13 oB1 bbg13 x14 zg13
  replace oB1 := Own.low oB1 X.size
  replace oO := oO.ext x14
  replace hs := hs.ext x14
  replace bX := bX.ext x14
  replace X := Ext.trans X x14; clear x14
  refine ops_cons rfl (ow_append (ts := #[]) oO bX.lt oB1.sl rfl (one_cells y) el43 ti49 rfl rfl rfl rfl (by omega) (by omega) ?_)
  intro AoN coN w17 oN hg16
  replace hs := hs.grown hg16 (fun g hg => Nat.le_trans (Nat.le_succ_of_le pgXhs) (Own.lt oO hg).1)
  replace bX := bX.grown hg16 (fun h => by first | exact absurd (Own.lt oO h).1 (Nat.not_le.2 (Nat.lt_succ_self _)) | exact absurd (Own.lt oO h.symm).1 (Nat.not_le.2 (Nat.lt_succ_self _)))
  replace X := X.grown hg16 X.size (fun g hg => (Nat.le_trans (Nat.le_succ_of_le lgX) (Own.lt oO hg).1))
  clear hg16
  refine ops_cons rfl (ow_assign rfl ?_)
  refine ops_nil ?_
  refine bq_n ?_
  refine tq_n ?_
  refine c_region ?_
  refine ops_cons rfl (ow_move rfl ?_)
  refine ops_cons rfl (ow_add rfl rfl (w64 (by omega)) ?_)
  refine ops_cons rfl (ow_assign rfl ?_)
  refine ops_nil ?_
  refine tq_n ⟨(k + 1, n1 + 1, AoN, coN), (.cons rfl (.cons rfl (.cons rfl (.cons rfl (.cons rfl (.cons rfl (.nil _))))))), ?_, ?_⟩
  · exact ⟨by omega, (by rw [ltL_step hy, if_pos hc]; simp [hn] <;> omega), (by omega), (oN.to (by rw [ltL_step hy, if_pos hc, List.flatMap_append]; rfl)), hs, bX, X⟩
  · first | omega | (dsimp only; omega)
  refine f_nil (fun w18 sq => ?_)
  have xq := sq
  replace oO := oO.ext xq
  replace hs := hs.ext xq
  replace bX := bX.ext xq
  replace X := Ext.trans X xq; clear xq sq
  refine ops_nil ?_
  refine c_false rfl ?_
  refine c_skip ?_
  refine bq_n ?_
  refine tq_n ?_
  refine c_region ?_
  refine ops_cons rfl (ow_move rfl ?_)
  refine ops_cons rfl (ow_add rfl rfl (w64 (by omega)) ?_)
  refine ops_cons rfl (ow_assign rfl ?_)
  refine ops_nil ?_
  refine tq_n ⟨(k + 1, n1, A1, c1), (.cons rfl (.cons rfl (.cons rfl (.cons rfl (.cons rfl (.cons rfl (.nil _))))))), ?_, ?_⟩
  · exact ⟨by omega, (by rw [ltL_step hy, if_neg hc]; exact hn), (by omega), (oO.to (by rw [ltL_step hy, if_neg hc])), hs, bX, X⟩
  · first | omega | (dsimp only; omega)
  refine ops_nil ?_
  refine c_false rfl ?_
  refine c_exit ?_
  refine tq_e ?_
  refine tq_e ?_
  refine bq_e ?_
  refine tq_n ?_
  refine c_seqR ?_
  refine ops_cons rfl (ow_move rfl ?_)
  refine ops_cons rfl (ow_loadAB bX ti49 rfl rfl ?_)
  have hn0 := ltL_len xs x
  have hkk : k = xs.length := by omega
  rw [hkk, List.take_length] at oO hn
  refine ops_cons rfl (ow_buildSlice el43 ti49 rfl rfl rfl rfl rfl ?_)
  intro g19 w21 eg19 oB2 bbg19 x20 zg19
  replace oB2 := Own.low oB2 X.size
  replace oO := oO.ext x20
  replace hs := hs.ext x20
  replace bX := bX.ext x20
  replace X := Ext.trans X x20; clear x20
  refine ops_cons rfl (ow_append (ts := #[]) oO bX.lt oB2.sl rfl (one_cells x) el43 ti49 rfl rfl rfl rfl (by omega) (by omega) ?_)
  intro AoP coP w23 oP hg22
  replace hs := hs.grown hg22 (fun g hg => Nat.le_trans (Nat.le_succ_of_le pgXhs) (Own.lt oO hg).1)
  replace bX := bX.grown hg22 (fun h => by first | exact absurd (Own.lt oO h).1 (Nat.not_le.2 (Nat.lt_succ_self _)) | exact absurd (Own.lt oO h.symm).1 (Nat.not_le.2 (Nat.lt_succ_self _)))
  replace X := X.grown hg22 X.size (fun g hg => (Nat.le_trans (Nat.le_succ_of_le lgX) (Own.lt oO hg).1))
  clear hg22
  refine ops_cons rfl (ow_assign rfl ?_)
  refine ops_nil ?_
  refine c_seq ?_
  refine c_seqR ?_
  refine ops_cons rfl (ow_assign rfl ?_)
  refine ops_nil ?_
  refine c_block ?_
  refine c_loop (G := Nat × Nat × Option Addr × Nat) (fun ⟨k, n1, A1, c1⟩ => [(0, .slice A xs.length c), (3, .pointer (some ⟨gX, 0, none⟩)), (4, .slice none 0 0), (5, .int .i64 0), (6, .slice A1 n1 c1), (8, .int .i64 (k : Nat))]) (fun ⟨k, n1, A1, c1⟩ wr => k ≤ xs.length ∧ n1 = (ltL xs x ++ x :: gtL (xs.take k) x).length ∧ n1 ≤ (1 + xs.length) + k ∧ Own wr (gX + 1) 49 8 A1 n1 c1 ((ltL xs x ++ x :: gtL (xs.take k) x).flatMap SlotI.cells) ∧ Sl B wr A (xs.flatMap SlotI.cells) ∧ Blk wr gX 49 x.cells ∧ Ext w wr) (fun ⟨k, n1, A1, c1⟩ => xs.length - k) (0, n1 + 1, AoP, coP) (.cons rfl (.cons rfl (.cons rfl (.cons rfl (.cons rfl (.cons rfl (.nil _))))))) ?_ ?_
  · exact ⟨by omega, (by rw [List.take_zero, hn]; simp [gtL]), (by omega), (oP.to (by rw [List.take_zero, List.flatMap_append]; rfl)), hs, bX, X⟩
  clear hs bX oP
  clear X
  rintro ⟨k, n1, A1, c1⟩ wr ⟨hk0, hn, hn1, oP, hs, bX, X⟩
  refine c_seq ?_
  refine c_seqR ?_
  refine ops_cons rfl (ow_move rfl ?_)
  refine ops_cons rfl (ow_move rfl ?_)
  refine ops_cons rfl (ow_len Try.underlying43 rfl ?_)
  refine ops_cons rfl (ow_lss2 rfl rfl (fun hk => ?_) (fun hk => ?_))
  obtain ⟨y, hy, dy⟩ := drop_at' hk
  refine ops_nil ?_
  refine c_true rfl ?_
  refine c_skip ?_
  refine tq_n ?_
  refine c_seq ?_
  refine c_block ?_
  refine c_seqD [false, false, false, false, false, false, false] mixed (by kernel_rfl) ?_
  refine f_q rfl (fun wq sq => ow_move rfl ⟨rfl, Ext.refl _⟩) ?_
  refine f_q rfl (fun wq sq => ow_move rfl ⟨rfl, Ext.refl _⟩) ?_
  refine f_q rfl (fun wq sq => ow_indexT (hs.ext sq) SlotI.len rfl el43 rfl rfl rfl hy rfl ⟨rfl, Ext.refl _⟩) ?_
  refine f_q rfl (fun wq sq => ow_loadTA (hs.ext sq) SlotI.len hy ti49 rfl ⟨rfl, Ext.refl _⟩) ?_
  refine f_q rfl (fun wq sq => ow_loadAB (bX.ext sq) ti49 rfl rfl ⟨rfl, Ext.refl _⟩) ?_
  refine f_q rfl (fun wq sq => ow_call ent31 rfl (sCompareSlots_c y x _)) ?_
  refine f_qb rfl (fun wq sq => ow_gtr rfl rfl ⟨rfl, Ext.refl _⟩) (fun hc => ?_) (fun hc => ?_)
  refine f_nil (fun w24 sq => ?_)
  have xq := sq
  replace oP := oP.ext xq
  replace hs := hs.ext xq
  replace bX := bX.ext xq
  replace X := Ext.trans X xq; clear xq sq
  refine ops_nil ?_
  refine c_true rfl ?_
  refine c_region ?_
  refine ops_cons rfl (ow_move rfl ?_)
  refine ops_cons rfl (ow_move rfl ?_)
  refine ops_cons rfl (ow_move rfl ?_)
  refine ops_cons rfl (ow_indexT hs SlotI.len rfl el43 rfl rfl rfl hy rfl ?_)
  refine ops_cons rfl (ow_loadTA hs SlotI.len hy ti49 rfl ?_)
  refine ops_cons rfl (ow_buildSlice el43 ti49 rfl rfl rfl rfl rfl ?_)
  intro g25 w27 eg25 oB3 bbg25 x26 zg25
  replace oB3 := Own.low oB3 X.size
  replace oP := oP.ext x26
  replace hs := hs.ext x26
  replace bX := bX.ext x26
  replace X := Ext.trans X x26; clear x26
  refine ops_cons rfl (ow_append (ts := #[]) oP bX.lt oB3.sl rfl (one_cells y) el43 ti49 rfl rfl rfl rfl (by omega) (by omega) ?_)
  intro AoQ coQ w29 oQ hg28
  replace hs := hs.grown hg28 (fun g hg => Nat.le_trans (Nat.le_succ_of_le pgXhs) (Own.lt oP hg).1)
  replace bX := bX.grown hg28 (fun h => by first | exact absurd (Own.lt oP h).1 (Nat.not_le.2 (Nat.lt_succ_self _)) | exact absurd (Own.lt oP h.symm).1 (Nat.not_le.2 (Nat.lt_succ_self _)))
  replace X := X.grown hg28 X.size (fun g hg => (Nat.le_trans (Nat.le_succ_of_le lgX) (Own.lt oP hg).1))
  clear hg28
  refine ops_cons rfl (ow_assign rfl ?_)
  refine ops_nil ?_
  refine bq_n ?_
  refine tq_n ?_
  refine c_region ?_
  refine ops_cons rfl (ow_move rfl ?_)
  refine ops_cons rfl (ow_add rfl rfl (w64 (by omega)) ?_)
  refine ops_cons rfl (ow_assign rfl ?_)
  refine ops_nil ?_
  refine tq_n ⟨(k + 1, n1 + 1, AoQ, coQ), (.cons rfl (.cons rfl (.cons rfl (.cons rfl (.cons rfl (.cons rfl (.nil _))))))), ?_, ?_⟩
  · exact ⟨by omega, (by rw [gtL_step hy, if_pos hc]; simp [hn] <;> omega), (by omega), (oQ.to (by rw [gtL_step hy, if_pos hc, snoc_ins]; rfl)), hs, bX, X⟩
  · first | omega | (dsimp only; omega)
  refine f_nil (fun w30 sq => ?_)
  have xq := sq
  replace oP := oP.ext xq
  replace hs := hs.ext xq
  replace bX := bX.ext xq
  replace X := Ext.trans X xq; clear xq sq
  refine ops_nil ?_
  refine c_false rfl ?_
  refine c_skip ?_
  refine bq_n ?_
  refine tq_n ?_
  refine c_region ?_
  refine ops_cons rfl (ow_move rfl ?_)
  refine ops_cons rfl (ow_add rfl rfl (w64 (by omega)) ?_)
  refine ops_cons rfl (ow_assign rfl ?_)
  refine ops_nil ?_
  refine tq_n ⟨(k + 1, n1, A1, c1), (.cons rfl (.cons rfl (.cons rfl (.cons rfl (.cons rfl (.cons rfl (.nil _))))))), ?_, ?_⟩
  · exact ⟨by omega, (by rw [gtL_step hy, if_neg hc]; exact hn), (by omega), (oP.to (by rw [gtL_step hy, if_neg hc])), hs, bX, X⟩
  · first | omega | (dsimp only; omega)
  refine ops_nil ?_
  refine c_false rfl ?_
  refine c_exit ?_
  refine tq_e ?_
  refine tq_e ?_
  refine bq_e ?_
  refine tq_n ?_
  refine c_seqR ?_
  refine ops_cons rfl (ow_move rfl ?_)
  refine ops_cons rfl (ow_assign rfl ?_)
  refine ops_cons rfl (ow_assign rfl ?_)
  refine ops_nil ?_
  refine c_ret ?_
  refine fin_ret2 rfl rfl rfl ?_
  · skip
    first
    | (have e : insF xs x = ([], 5) := by rw [insF, if_pos hT, if_pos hO, if_neg (by omega)]
       rw [e]; exact ⟨none, 0, rfl, Own.nil_ _ _ _ _, X⟩)
    | (have e : insF xs x = ([], 3) := by rw [insF, if_pos hT, if_pos hO, if_pos (by omega), if_pos (by omega)]
       rw [e]; exact ⟨none, 0, rfl, Own.nil_ _ _ _ _, X⟩)
    | (have e : insF xs x = (ltL xs x ++ x :: gtL xs x, 0) := by rw [insF, if_pos hT, if_pos hO, if_pos (by omega), if_neg (by omega)]
       rw [e]
       have hkk : k = xs.length := by omega
       rw [hkk, List.take_length] at oP hn
       rw [← hn]
       exact ⟨A1, c1, rfl, oP.low (Nat.le_succ_of_le lgX), X⟩)
  replace hs := hs.ext x5
  replace bX := bX.ext x5
  replace X := Ext.trans X x5; clear x5
  refine ops_cons rfl (ow_not rfl ?_)
  refine ops_cons rfl (ow_assign rfl ?_)
  refine ops_nil ?_
  refine c_true rfl ?_
  refine c_seqR ?_
  refine ops_cons rfl (ow_assign rfl ?_)
  refine ops_cons rfl (ow_assign rfl ?_)
  refine ops_nil ?_
  refine c_ret ?_
  refine bq_r ?_
  refine tq_r ?_
  refine fin_ret2 rfl rfl rfl ?_
  · skip
    have e : insF xs x = ([], 2) := by rw [insF, if_pos hT, if_neg (by simp [hO])]
    rw [e]; exact ⟨none, 0, rfl, Own.nil_ _ _ _ _, X⟩
  replace hs := hs.ext x3
  replace bX := bX.ext x3
  replace X := Ext.trans X x3; clear x3
  refine ops_cons rfl (ow_not rfl ?_)
  refine ops_cons rfl (ow_assign rfl ?_)
  refine ops_nil ?_
  refine c_true rfl ?_
  refine c_seqR ?_
  refine ops_cons rfl (ow_assign rfl ?_)
  refine ops_cons rfl (ow_assign rfl ?_)
  refine ops_nil ?_
  refine c_ret ?_
  refine bq_r ?_
  refine tq_r ?_
  refine fin_ret2 rfl rfl rfl ?_
  · skip
    have e : insF xs x = ([], 1) := by rw [insF, if_neg (by simp [hT])]
    rw [e]; exact ⟨none, 0, rfl, Own.nil_ _ _ _ _, X⟩
end Go.Proofs.Ytdoibplhbdkapaa
