/- The law FnExactInsertSlot answers true for all arguments that its row admits, and leaves what was there before as it was. No condition. -/
import Derived.Test.YtdoibplhbdkapaaI3
import Derived.Test.YtdoibplhbdkapaaD3
import Derived.Test.YtdoibplhbdkapaaD6
import Derived.Test.YtdoibplhbdkapaaFlowR
namespace Go.Proofs.Ytdoibplhbdkapaa
open Go.ChangeShapes Go.WideShapes Go.ChangeAt Go.RowKit
set_option linter.unusedVariables false
set_option linter.unusedSimpArgs false
set_option maxRecDepth 20000
def Desc.ok (d : Desc) : Prop := In64 d.node ∧ In64 d.kind ∧ In64 d.size ∧ In64 d.duration
def SlotI.ok (d : SlotI) : Prop := In64 d.mode ∧ In64 d.round ∧ In64 d.slot ∧ Desc.ok d.desc
theorem law_own : ownKnob Try.prog.godebug = none := by kernel_rfl
theorem law_laid : laidOutB Try.prog = true := by kernel_rfl
theorem open_Desc {H : Type} {enc : TypeId × Value → H} {W : World} {sp : Nat → Bool} {fuel : Nat} {cs : List Value} {x : DataW H × List MemPlace} (h : DataW.trod enc Try.prog W 0 sp true fuel 39 cs = some x) : ∃ d : Desc, cs = d.cells ∧ d.ok := by
  have hl : cs.length = 5 := (len_of Try.underlying39 h).trans (by kernel_rfl)
  match cs, hl with
  | [c0, c1, c2, c3, c4], _ =>
    obtain ⟨n0, y0, h0⟩ := trod_field Try.underlying39 h 0 rfl
    obtain ⟨z0, e0, w0⟩ := open_i64 Try.underlying2 h0
    obtain rfl : c0 = .int .i64 z0 := by have e := show [c0] = [.int .i64 z0] from e0; injection e
    obtain ⟨n1, y1, h1⟩ := trod_field Try.underlying39 h 1 rfl
    obtain ⟨z1, e1, w1⟩ := open_i64 Try.underlying2 h1
    obtain rfl : c1 = .int .i64 z1 := by have e := show [c1] = [.int .i64 z1] from e1; injection e
    obtain ⟨n2, y2, h2⟩ := trod_field Try.underlying39 h 2 rfl
    obtain ⟨z2, e2, w2⟩ := open_i64 Try.underlying2 h2
    obtain rfl : c2 = .int .i64 z2 := by have e := show [c2] = [.int .i64 z2] from e2; injection e
    obtain ⟨n3, y3, h3⟩ := trod_field Try.underlying39 h 3 rfl
    obtain ⟨z3, e3, w3⟩ := open_i64 Try.underlying2 h3
    obtain rfl : c3 = .int .i64 z3 := by have e := show [c3] = [.int .i64 z3] from e3; injection e
    obtain ⟨n4, y4, h4⟩ := trod_field Try.underlying39 h 4 rfl
    obtain ⟨z4, e4⟩ := open_bl Try.underlying4 h4
    obtain rfl : c4 = .bool z4 := by have e := show [c4] = [.bool z4] from e4; injection e
    exact ⟨⟨z0, z1, z2, z3, z4⟩, rfl, ⟨w0, w1, w2, w3⟩⟩
theorem open_SlotI {H : Type} {enc : TypeId × Value → H} {W : World} {sp : Nat → Bool} {fuel : Nat} {cs : List Value} {x : DataW H × List MemPlace} (h : DataW.trod enc Try.prog W 0 sp true fuel 41 cs = some x) : ∃ d : SlotI, cs = d.cells ∧ d.ok := by
  have hl : cs.length = 8 := (len_of Try.underlying41 h).trans (by kernel_rfl)
  match cs, hl with
  | [c0, c1, c2, c3, c4, c5, c6, c7], _ =>
    obtain ⟨n0, y0, h0⟩ := trod_field Try.underlying41 h 0 rfl
    obtain ⟨z0, e0, w0⟩ := open_i64 Try.underlying2 h0
    obtain rfl : c0 = .int .i64 z0 := by have e := show [c0] = [.int .i64 z0] from e0; injection e
    obtain ⟨n1, y1, h1⟩ := trod_field Try.underlying41 h 1 rfl
    obtain ⟨z1, e1, w1⟩ := open_i64 Try.underlying2 h1
    obtain rfl : c1 = .int .i64 z1 := by have e := show [c1] = [.int .i64 z1] from e1; injection e
    obtain ⟨n2, y2, h2⟩ := trod_field Try.underlying41 h 2 rfl
    obtain ⟨z2, e2, w2⟩ := open_i64 Try.underlying2 h2
    obtain rfl : c2 = .int .i64 z2 := by have e := show [c2] = [.int .i64 z2] from e2; injection e
    obtain ⟨n3, y3, h3⟩ := trod_field Try.underlying41 h 3 rfl
    obtain ⟨z3, e3, w3⟩ := open_Desc h3
    have q3 : [c3, c4, c5, c6, c7] = z3.cells := e3
    simp only [Desc.cells, List.cons.injEq, and_true] at q3
    obtain ⟨rfl, rfl, rfl, rfl, rfl⟩ := q3
    exact ⟨⟨z0, z1, z2, z3⟩, rfl, ⟨w0, w1, w2, w3⟩⟩
theorem law_FnExactInsertSlot (A : Option Addr) (B c : Nat) (xs : List SlotI) (x : SlotI) (w : World) (hs : Sl B w A (xs.flatMap SlotI.cells)) (hm : xs.length ≤ 9223372036854775807) :
    Calls Try.prog 5 #[.slice A xs.length c, .agg x.cells.toArray] w (Ret fun v w' => v = .bool true ∧ Ext w w') := by
  have Bhs := hs.1
  have X := Ext.refl w
  refine calls_of (args := [.slice A xs.length c, .agg x.cells.toArray]) Try.func5 Try.ntmps5 rfl rfl ?_
  refine c_seqR ?_
  refine ops_cons rfl (ow_box rfl rfl ?_)
  intro gX w2 egX bX x1 zgX
  have lgX : w.heap.size ≤ gX := Nat.le_trans X.size (Nat.le_of_eq egX.symm)
  have pgXhs := Nat.le_trans hs.1 (Nat.le_of_eq egX.symm)
  replace hs := hs.ext x1
  replace X := Ext.trans X x1; clear x1
  refine ops_cons rfl (ow_assign rfl ?_)
  refine ops_nil ?_
  refine c_seqR ?_
  refine ops_cons rfl (ow_assign rfl ?_)
  refine ops_nil ?_
  refine c_seqR ?_
  refine ops_cons rfl (ow_move rfl ?_)
  refine ops_cons rfl (ow_move rfl ?_)
  refine ops_cons rfl (ow_call ent18 rfl (ret_mono (szSlotI_c _ _ _ _ hm) ?_))
  rintro _ w4 ⟨rfl, x3⟩
  replace hs := hs.ext x3
  replace bX := bX.ext x3
  replace X := Ext.trans X x3; clear x3
  refine ops_cons rfl (ow_assign rfl ?_)
  refine ops_nil ?_
  refine c_seq ?_
  refine c_seqR ?_
  refine ops_cons rfl (ow_move rfl ?_)
  refine ops_cons rfl (ow_lss2 rfl rfl (fun hz0 => ?_) (fun hz0 => ?_))
  refine ops_nil ?_
  refine c_true rfl ?_
  refine c_seqR ?_
  refine ops_cons rfl (ow_assign rfl ?_)
  refine ops_nil ?_
  refine c_ret ?_
  refine tq_r ?_
  refine fin_ret1 rfl rfl ?_
  exact ⟨rfl, X⟩
  have hl : xs.length ≤ 1048576 := by
    by_cases h : 1048576 - (xs.length : Int) < 0
    · rw [if_pos h] at hz0; omega
    · omega
  refine ops_nil ?_
  refine c_false rfl ?_
  refine c_skip ?_
  refine tq_n ?_
  refine c_seqJ 10 mixed (by kernel_rfl) ?_
  refine je_take 0 _ rfl (by kernel_rfl) rfl (by kernel_rfl) (listed' := #[true, false, false, false, false, false, false, false, false, false]) rfl (Up.ext _) (fun wq sq => ow_move rfl ⟨rfl, Ext.refl _⟩) ?_
  refine je_take 2 _ rfl (by kernel_rfl) rfl (by kernel_rfl) (listed' := #[true, false, true, false, false, false, false, false, false, false]) rfl (Up.ext _) (fun wq sq => ow_loadAB (bX.ext sq) ti41 rfl rfl ⟨rfl, Ext.refl _⟩) ?_
  refine je_ov 1 (fun p : Option Addr × Nat => Value.slice p.1 xs.length p.2) (fun p wz => Own wz w.heap.size 49 8 p.1 xs.length p.2 (xs.flatMap SlotI.cells)) (none, 0) rfl rfl (by kernel_rfl) (listed' := #[true, true, true, false, false, false, false, false, false, false]) rfl ⟨inj_sl, fun _ _ _ h k => h.ext k, fun wq sq => ow_call ent20 rfl (ret_mono (toSlotIS_c _ _ _ _ _ (hs.ext sq) hl) (fun v w' h => by obtain ⟨A, c, rfl, ho, hx⟩ := h; exact ⟨(A, c), rfl, Own.low ho (Nat.le_trans X.size (sq).size), hx⟩))⟩ ?_
  rintro ⟨A5, c6⟩
  refine je_take 3 _ rfl (by kernel_rfl) rfl (by kernel_rfl) (listed' := #[true, true, true, true, false, false, false, false, false, false]) rfl (Up.and (Up.ext _) (fun _ _ h k => h.ext k)) (fun wq sq => ow_call ent21 rfl (toSlotI_c _ _)) ?_
  refine je_ov 4 (fun p : Option Addr × Nat => Value.tuple #[.slice p.1 (insF xs x).1.length p.2, (.int .i64 (insF xs x).2)]) (fun p wz => Own wz w.heap.size 49 8 p.1 (insF xs x).1.length p.2 ((insF xs x).1.flatMap SlotI.cells)) (none, 0) rfl rfl (by kernel_rfl) (listed' := #[true, true, true, true, true, false, false, false, false, false]) rfl ⟨inj_slt, fun _ _ _ h k => h.ext k, fun wq sq => ow_call ent19 rfl (ret_mono (sIns_c _ _ _ _ _ _ (sq.2).sl hl) (fun v w' h => by obtain ⟨A, c, rfl, ho, hx⟩ := h; exact ⟨(A, c), rfl, Own.low ho (Nat.le_trans X.size (sq.1).size), hx⟩))⟩ ?_
  rintro ⟨A7, c8⟩
  refine je_take 5 _ rfl (by kernel_rfl) rfl (by kernel_rfl) (listed' := #[true, true, true, true, true, true, false, false, false, false]) rfl (Up.and (Up.and (Up.ext _) (fun _ _ h k => h.ext k)) (fun _ _ h k => h.ext k)) (fun wq sq => ow_move rfl ⟨rfl, Ext.refl _⟩) ?_
  refine je_take 6 _ rfl (by kernel_rfl) rfl (by kernel_rfl) (listed' := #[true, true, true, true, true, true, true, false, false, false]) rfl (Up.and (Up.and (Up.ext _) (fun _ _ h k => h.ext k)) (fun _ _ h k => h.ext k)) (fun wq sq => ow_extract rfl rfl ⟨rfl, Ext.refl _⟩) ?_
  refine je_take 7 _ rfl (by kernel_rfl) rfl (by kernel_rfl) (listed' := #[true, true, true, true, true, true, true, true, false, false]) rfl (Up.and (Up.and (Up.ext _) (fun _ _ h k => h.ext k)) (fun _ _ h k => h.ext k)) (fun wq sq => ow_extract rfl rfl ⟨rfl, Ext.refl _⟩) ?_
  refine je_take 8 _ rfl (by kernel_rfl) rfl (by kernel_rfl) (listed' := #[true, true, true, true, true, true, true, true, true, false]) rfl (Up.and (Up.and (Up.ext _) (fun _ _ h k => h.ext k)) (fun _ _ h k => h.ext k)) (fun wq sq => ow_assign rfl ⟨rfl, Ext.refl _⟩) ?_
  refine je_take 9 _ rfl (by kernel_rfl) rfl (by kernel_rfl) (listed' := #[true, true, true, true, true, true, true, true, true, true]) rfl (Up.and (Up.and (Up.ext _) (fun _ _ h k => h.ext k)) (fun _ _ h k => h.ext k)) (fun wq sq => ow_assign rfl ⟨rfl, Ext.refl _⟩) ?_
  refine je_done rfl (fun w9 sq a10 f11 => ⟨_, f11, ?_⟩)
  have xq := sq.1.1
  have oC0 := sq.1.2
  have oS := sq.2
  replace hs := hs.ext xq
  replace bX := bX.ext xq
  replace X := Ext.trans X xq; clear xq sq
  refine ops_nil ?_
  refine c_seqR ?_
  have hl2 := insF_len xs x
  have sS := oS.sl
  have BsS := sS.1
  clear oS oC0
  refine ops_cons rfl (ow_move rfl ?_)
  refine ops_cons rfl (ow_call ent20 rfl (ret_mono (toSlotIS_c _ _ _ _ _ hs hl) ?_))
  rintro _ w13 ⟨A14, c15, rfl, oX, x12⟩
  have LoX := X.size
  replace hs := hs.ext x12
  replace bX := bX.ext x12
  replace sS := sS.ext x12
  replace X := Ext.trans X x12; clear x12
  refine ops_cons rfl (ow_assign rfl ?_)
  refine ops_nil ?_
  refine c_seqR ?_
  refine ops_cons rfl (ow_move rfl ?_)
  refine ops_cons rfl (ow_loadAB bX ti41 rfl rfl ?_)
  refine ops_cons rfl (ow_call ent21 rfl (ret_mono (toSlotI_c _ _) ?_))
  rintro _ w17 ⟨rfl, x16⟩
  replace hs := hs.ext x16
  replace bX := bX.ext x16
  replace sS := sS.ext x16
  replace oX := oX.ext x16
  replace X := Ext.trans X x16; clear x16
  have LS := sS.1
  have UX := fun g hg => (Own.lt oX (g := g) hg).2
  refine ops_cons rfl (ow_call ent22 rfl (ret_mono (iIns_c _ _ _ _ _ _ (oX).sl hl) ?_))
  rintro _ w19 ⟨A20, c21, rfl, oI, x18⟩
  have LoI := X.size
  replace hs := hs.ext x18
  replace bX := bX.ext x18
  replace sS := sS.ext x18
  replace oX := oX.ext x18
  replace X := Ext.trans X x18; clear x18
  refine ops_cons rfl (ow_move rfl ?_)
  refine ops_cons rfl (ow_extract rfl rfl ?_)
  refine ops_cons rfl (ow_extract rfl rfl ?_)
  refine ops_cons rfl (ow_assign rfl ?_)
  refine ops_cons rfl (ow_assign rfl ?_)
  refine ops_nil ?_
  refine c_seq ?_
  refine c_seqR ?_
  refine ops_cons rfl (ow_move rfl ?_)
  refine ops_cons rfl (ow_move rfl ?_)
  refine ops_cons rfl (ow_call ent23 rfl (ret_mono (eqSlotIS_c _ _ _ _ _ _ _ _ (oI).sl sS hl2) ?_))
  rintro _ w23 ⟨rfl, x22⟩
  replace hs := hs.ext x22
  replace bX := bX.ext x22
  replace sS := sS.ext x22
  replace oX := oX.ext x22
  replace oI := oI.ext x22
  replace X := Ext.trans X x22; clear x22
  refine ops_cons rfl (ow_not rfl ?_)
  refine ops_cons rfl (ow_move rfl ?_)
  refine ops_want rfl rfl rfl (ow_move rfl ?_)
  refine ops_want rfl rfl rfl (ow_move rfl ?_)
  refine ops_want rfl rfl rfl (ow_neq2 rfl rfl (fun h24 => absurd h24 (by simp)) (fun h24 => ?_))
  refine ops_cons rfl (ow_pick rfl rfl ?_)
  refine ops_nil ?_
  refine c_false rfl ?_
  refine c_skip ?_
  refine tq_n ?_
  refine c_seq ?_
  refine c_seqR ?_
  refine ops_cons rfl (ow_move rfl ?_)
  refine ops_cons rfl (ow_move rfl ?_)
  refine ops_cons rfl (ow_call ent20 rfl (ret_mono (toSlotIS_c _ _ _ _ _ hs hl) ?_))
  rintro _ w26 ⟨A27, c28, rfl, oC1, x25⟩
  replace oC1 := Own.low oC1 X.size
  replace hs := hs.ext x25
  replace bX := bX.ext x25
  replace sS := sS.ext x25
  replace oX := oX.ext x25
  replace oI := oI.ext x25
  replace X := Ext.trans X x25; clear x25
  refine ops_cons rfl (ow_call ent23 rfl (ret_mono (eqSlotIS_c _ _ _ _ _ _ _ _ (oX).sl (oC1).sl hl) ?_))
  rintro _ w30 ⟨rfl, x29⟩
  replace hs := hs.ext x29
  replace bX := bX.ext x29
  replace sS := sS.ext x29
  replace oX := oX.ext x29
  replace oI := oI.ext x29
  replace oC1 := oC1.ext x29
  replace X := Ext.trans X x29; clear x29
  clear oC1
  refine ops_cons rfl (ow_not rfl ?_)
  refine ops_nil ?_
  refine c_false rfl ?_
  refine c_skip ?_
  refine tq_n ?_
  refine c_seqR ?_
  refine ops_cons rfl (ow_assign rfl ?_)
  refine ops_nil ?_
  refine c_seqR ?_
  refine ops_cons rfl (ow_move rfl ?_)
  refine ops_cons rfl (ow_move rfl ?_)
  refine ops_cons rfl (ow_call ent24 rfl (ret_mono (markSlotI_c _ _ _ _ _ _ oX hl (by omega)) ?_))
  rintro _ w32 ⟨rfl, oX2, x31⟩
  replace hs := hs.grown x31 (fun g hg => Nat.le_trans Bhs (Nat.le_trans LoX (Own.lt oX hg).1))
  replace bX := bX.grown x31 (fun h => Own.neT oX bX (by decide) h.symm)
  replace sS := sS.grown x31 (fun g hg => Nat.le_trans BsS (Own.lt oX hg).1)
  replace oI := oI.grown x31 (fun g hg e => absurd (UX g hg) (Nat.not_lt.2 (Own.lt oI e).1))
  replace X := X.grown x31 X.size (fun g hg => Nat.le_trans LoX (Own.lt oX hg).1); clear x31 oX
  refine ops_cons rfl (ow_assign rfl ?_)
  refine ops_nil ?_
  refine c_seq ?_
  refine c_seqR ?_
  refine ops_cons rfl (ow_move rfl ?_)
  refine ops_cons rfl (ow_lss2 rfl rfl (fun h33 => absurd h33 (by omega)) (fun h33 => ?_))
  refine ops_cons rfl (ow_move rfl ?_)
  refine ops_want rfl rfl rfl (ow_move rfl ?_)
  refine ops_want rfl rfl rfl (ow_move rfl ?_)
  refine ops_want rfl rfl rfl (ow_call ent23 rfl (ret_mono (eqSlotIS_c _ _ _ _ _ _ _ _ (oI).sl sS hl2) ?_))
  rintro _ w35 ⟨rfl, x34⟩
  replace hs := hs.ext x34
  replace bX := bX.ext x34
  replace sS := sS.ext x34
  replace oI := oI.ext x34
  replace oX2 := oX2.ext x34
  replace X := Ext.trans X x34; clear x34
  refine ops_want rfl rfl rfl (ow_not rfl ?_)
  refine ops_cons rfl (ow_pick rfl rfl ?_)
  refine ops_cons rfl (ow_move rfl ?_)
  refine ops_want rfl rfl rfl (ow_move rfl ?_)
  refine ops_want rfl rfl rfl (ow_move rfl ?_)
  refine ops_want rfl rfl rfl (ow_neq2 rfl rfl (fun h36 => absurd h36 (by simp)) (fun h36 => ?_))
  refine ops_cons rfl (ow_pick rfl rfl ?_)
  refine ops_nil ?_
  refine c_false rfl ?_
  refine c_skip ?_
  refine tq_n ?_
  refine c_seqR ?_
  refine ops_cons rfl (ow_assign rfl ?_)
  refine ops_nil ?_
  refine c_seqR ?_
  refine ops_cons rfl (ow_move rfl ?_)
  refine ops_cons rfl (ow_move rfl ?_)
  refine ops_cons rfl (ow_call ent24 rfl (ret_mono (markSlotI_c _ _ _ _ _ _ oI hl2 (by omega)) ?_))
  rintro _ w38 ⟨rfl, oI2, x37⟩
  replace hs := hs.grown x37 (fun g hg => Nat.le_trans Bhs (Nat.le_trans LoI (Own.lt oI hg).1))
  replace bX := bX.grown x37 (fun h => Own.neT oI bX (by decide) h.symm)
  replace sS := sS.grown x37 (fun g hg => Nat.le_trans LS (Own.lt oI hg).1)
  replace oX2 := oX2.grown x37 (fun g hg e => absurd (UX g e) (Nat.not_lt.2 (Own.lt oI hg).1))
  replace X := X.grown x37 X.size (fun g hg => Nat.le_trans LoI (Own.lt oI hg).1); clear x37 oI
  refine ops_cons rfl (ow_assign rfl ?_)
  refine ops_nil ?_
  refine c_seqR ?_
  refine ops_cons rfl (ow_assign rfl ?_)
  refine ops_nil ?_
  refine c_seqR ?_
  refine ops_cons rfl (ow_move rfl ?_)
  refine ops_cons rfl (ow_move rfl ?_)
  refine ops_cons rfl (ow_call ent25 rfl (ret_mono (heldSlotI_c _ _ _ _ _ _ (oI2).sl hl2 (by omega)) ?_))
  rintro _ w40 ⟨rfl, x39⟩
  replace hs := hs.ext x39
  replace bX := bX.ext x39
  replace sS := sS.ext x39
  replace oX2 := oX2.ext x39
  replace oI2 := oI2.ext x39
  replace X := Ext.trans X x39; clear x39
  refine ops_cons rfl (ow_assign rfl ?_)
  refine ops_nil ?_
  refine c_seq ?_
  refine c_seqR ?_
  refine ops_cons rfl (ow_move rfl ?_)
  refine ops_cons rfl (ow_lss2 rfl rfl (fun h41 => absurd h41 (by omega)) (fun h41 => ?_))
  refine ops_nil ?_
  refine c_false rfl ?_
  refine c_skip ?_
  refine tq_n ?_
  refine c_seq ?_
  refine c_seqR ?_
  refine ops_cons rfl (ow_move rfl ?_)
  refine ops_cons rfl (ow_move rfl ?_)
  refine ops_cons rfl (ow_neq2 rfl rfl (fun h42 => absurd h42 (by simp)) (fun h42 => ?_))
  refine ops_nil ?_
  refine c_false rfl ?_
  refine c_skip ?_
  refine tq_n ?_
  refine c_seqJ 10 mixed (by kernel_rfl) ?_
  refine je_take 0 _ rfl (by kernel_rfl) rfl (by kernel_rfl) (listed' := #[true, false, false, false, false, false, false, false, false, false]) rfl (Up.ext _) (fun wq sq => ow_move rfl ⟨rfl, Ext.refl _⟩) ?_
  refine je_take 2 _ rfl (by kernel_rfl) rfl (by kernel_rfl) (listed' := #[true, false, true, false, false, false, false, false, false, false]) rfl (Up.ext _) (fun wq sq => ow_loadAB (bX.ext sq) ti41 rfl rfl ⟨rfl, Ext.refl _⟩) ?_
  refine je_ov 1 (fun p : Option Addr × Nat => Value.slice p.1 xs.length p.2) (fun p wz => Own wz w.heap.size 49 8 p.1 xs.length p.2 (xs.flatMap SlotI.cells)) (none, 0) rfl rfl (by kernel_rfl) (listed' := #[true, true, true, false, false, false, false, false, false, false]) rfl ⟨inj_sl, fun _ _ _ h k => h.ext k, fun wq sq => ow_call ent20 rfl (ret_mono (toSlotIS_c _ _ _ _ _ (hs.ext sq) hl) (fun v w' h => by obtain ⟨A, c, rfl, ho, hx⟩ := h; exact ⟨(A, c), rfl, Own.low ho (Nat.le_trans X.size (sq).size), hx⟩))⟩ ?_
  rintro ⟨A43, c44⟩
  refine je_take 3 _ rfl (by kernel_rfl) rfl (by kernel_rfl) (listed' := #[true, true, true, true, false, false, false, false, false, false]) rfl (Up.and (Up.ext _) (fun _ _ h k => h.ext k)) (fun wq sq => ow_call ent21 rfl (toSlotI_c _ _)) ?_
  refine je_ov 4 (fun p : Option Addr × Nat => Value.tuple #[.slice p.1 (insF xs x).1.length p.2, (.int .i64 (insF xs x).2)]) (fun p wz => Own wz w.heap.size 49 8 p.1 (insF xs x).1.length p.2 ((insF xs x).1.flatMap SlotI.cells)) (none, 0) rfl rfl (by kernel_rfl) (listed' := #[true, true, true, true, true, false, false, false, false, false]) rfl ⟨inj_slt, fun _ _ _ h k => h.ext k, fun wq sq => ow_call ent22 rfl (ret_mono (iIns_c _ _ _ _ _ _ (sq.2).sl hl) (fun v w' h => by obtain ⟨A, c, rfl, ho, hx⟩ := h; exact ⟨(A, c), rfl, Own.low ho (Nat.le_trans X.size (sq.1).size), hx⟩))⟩ ?_
  rintro ⟨A45, c46⟩
  refine je_take 5 _ rfl (by kernel_rfl) rfl (by kernel_rfl) (listed' := #[true, true, true, true, true, true, false, false, false, false]) rfl (Up.and (Up.and (Up.ext _) (fun _ _ h k => h.ext k)) (fun _ _ h k => h.ext k)) (fun wq sq => ow_move rfl ⟨rfl, Ext.refl _⟩) ?_
  refine je_take 6 _ rfl (by kernel_rfl) rfl (by kernel_rfl) (listed' := #[true, true, true, true, true, true, true, false, false, false]) rfl (Up.and (Up.and (Up.ext _) (fun _ _ h k => h.ext k)) (fun _ _ h k => h.ext k)) (fun wq sq => ow_extract rfl rfl ⟨rfl, Ext.refl _⟩) ?_
  refine je_take 7 _ rfl (by kernel_rfl) rfl (by kernel_rfl) (listed' := #[true, true, true, true, true, true, true, true, false, false]) rfl (Up.and (Up.and (Up.ext _) (fun _ _ h k => h.ext k)) (fun _ _ h k => h.ext k)) (fun wq sq => ow_extract rfl rfl ⟨rfl, Ext.refl _⟩) ?_
  refine je_take 8 _ rfl (by kernel_rfl) rfl (by kernel_rfl) (listed' := #[true, true, true, true, true, true, true, true, true, false]) rfl (Up.and (Up.and (Up.ext _) (fun _ _ h k => h.ext k)) (fun _ _ h k => h.ext k)) (fun wq sq => ow_assign rfl ⟨rfl, Ext.refl _⟩) ?_
  refine je_take 9 _ rfl (by kernel_rfl) rfl (by kernel_rfl) (listed' := #[true, true, true, true, true, true, true, true, true, true]) rfl (Up.and (Up.and (Up.ext _) (fun _ _ h k => h.ext k)) (fun _ _ h k => h.ext k)) (fun wq sq => ow_assign rfl ⟨rfl, Ext.refl _⟩) ?_
  refine je_done rfl (fun w47 sq a48 f49 => ⟨_, f49, ?_⟩)
  have xq := sq.1.1
  have oC2 := sq.1.2
  have oJ := sq.2
  replace hs := hs.ext xq
  replace bX := bX.ext xq
  replace sS := sS.ext xq
  replace oX2 := oX2.ext xq
  replace oI2 := oI2.ext xq
  replace X := Ext.trans X xq; clear xq sq
  refine ops_nil ?_
  refine c_seq ?_
  refine c_seqR ?_
  refine ops_cons rfl (ow_move rfl ?_)
  refine ops_cons rfl (ow_move rfl ?_)
  refine ops_cons rfl (ow_call ent23 rfl (ret_mono (eqSlotIS_c _ _ _ _ _ _ _ _ (oJ).sl sS hl2) ?_))
  rintro _ w51 ⟨rfl, x50⟩
  replace hs := hs.ext x50
  replace bX := bX.ext x50
  replace sS := sS.ext x50
  replace oX2 := oX2.ext x50
  replace oI2 := oI2.ext x50
  replace oC2 := oC2.ext x50
  replace oJ := oJ.ext x50
  replace X := Ext.trans X x50; clear x50
  refine ops_cons rfl (ow_not rfl ?_)
  refine ops_cons rfl (ow_move rfl ?_)
  refine ops_want rfl rfl rfl (ow_move rfl ?_)
  refine ops_want rfl rfl rfl (ow_move rfl ?_)
  refine ops_want rfl rfl rfl (ow_neq2 rfl rfl (fun h52 => absurd h52 (by simp)) (fun h52 => ?_))
  refine ops_cons rfl (ow_pick rfl rfl ?_)
  refine ops_nil ?_
  refine c_false rfl ?_
  refine c_skip ?_
  refine tq_n ?_
  refine c_seqR ?_
  refine ops_cons rfl (ow_assign rfl ?_)
  refine ops_nil ?_
  refine c_seqR ?_
  refine ops_cons rfl (ow_move rfl ?_)
  refine ops_cons rfl (ow_move rfl ?_)
  refine ops_cons rfl (ow_call ent25 rfl (ret_mono (heldSlotI_c _ _ _ _ _ _ (oI2).sl hl2 (by omega)) ?_))
  rintro _ w54 ⟨rfl, x53⟩
  replace hs := hs.ext x53
  replace bX := bX.ext x53
  replace sS := sS.ext x53
  replace oX2 := oX2.ext x53
  replace oI2 := oI2.ext x53
  replace oC2 := oC2.ext x53
  replace oJ := oJ.ext x53
  replace X := Ext.trans X x53; clear x53
  refine ops_cons rfl (ow_assign rfl ?_)
  refine ops_nil ?_
  refine c_seq ?_
  refine c_seqR ?_
  refine ops_cons rfl (ow_move rfl ?_)
  refine ops_cons rfl (ow_lss2 rfl rfl (fun h55 => absurd h55 (by omega)) (fun h55 => ?_))
  refine ops_nil ?_
  refine c_false rfl ?_
  refine c_skip ?_
  refine tq_n ?_
  refine c_seq ?_
  refine c_seqR ?_
  refine ops_cons rfl (ow_move rfl ?_)
  refine ops_cons rfl (ow_move rfl ?_)
  refine ops_cons rfl (ow_neq2 rfl rfl (fun h56 => absurd h56 (by simp)) (fun h56 => ?_))
  refine ops_nil ?_
  refine c_false rfl ?_
  refine c_skip ?_
  refine tq_n ?_
  refine c_seqR ?_
  refine ops_cons rfl (ow_assign rfl ?_)
  refine ops_nil ?_
  refine c_ret ?_
  refine fin_ret1 rfl rfl ?_
  exact ⟨rfl, X⟩
set_option maxRecDepth 100000

theorem fnExactInsertSlot_lifted (os : Os) (started : os.Started) (H : Type) (enc : TypeId × Value → H) :
    ReturnsInHanded {} Try.checked os 5 .any (Rows.fnExactInsertSlotSpec.pre6 enc Try.prog Try.f5 Rows.fnExactInsertSlotRow.domain false) (Rows.fnExactInsertSlotSpec.post enc Try.prog Try.f5 false true false false) := by
  refine returnsInHanded_of_change (C := Try.checked) law_own started (by kernel_rfl) Try.func5
    (ChangeSpec.witness6 (enc := enc) (C := Try.checked) false ⟨#[], #[.slice none 0 0, .agg #[.int .i64 0, .int .i64 0, .int .i64 0, .int .i64 0, .int .i64 0, .int .i64 0, .int .i64 0, .bool false]], []⟩ 8 (by kernel_rfl) (by kernel_rfl) (by kernel_rfl) (by kernel_rfl)) ?_
  intro W base args ds gs before hval0 hW hcnd _
  have hval : ∀ (j : Nat) t v, Try.f5.params[j]? = some t → args[j]? = some v → Value.okWide Try.prog W .any base t v := hval0
  have hW' := hW
  obtain ⟨p, q, hA0, hV, rfl, hfz, hnd⟩ := hW
  have hA : DataW.TrodAll enc Try.prog W 0 (fun _ => true) true Try.f5.params.toList args.toList ds p := hA0
  rw [Try.params5] at hA hval
  obtain ⟨rfl, rfl⟩ := trodVars_none hV
  obtain ⟨v0, vs0, d0, ds0, p0, q0, hargs, rfl, rfl, h0, r0⟩ := trodAll_cons hA
  obtain ⟨v1, vs1, d1, ds1, p1, q1, rfl, rfl, rfl, h1, r1⟩ := trodAll_cons r0
  obtain ⟨rfl, rfl, rfl⟩ := trodAll_nil r1
  obtain rfl : args = #[v0, v1] := by cases args; simp_all
  obtain ⟨a0, l0, k0, rfl⟩ := okWide_slice Try.underlying37 (hval 0 37 v0 rfl rfl)
  obtain ⟨m0, x0, t0⟩ := cell_of rfl h0
  obtain ⟨Axs, xs, cxs, exs, sxs, wxs, lxs⟩ := open_sl (s := 8) Try.underlying37 (by kernel_rfl) SlotI.len (by omega) (fun _ _ _ h => open_SlotI h) t0
  rw [exs]
  obtain ⟨cs1, rfl, m1, x1, t1⟩ := agg_of Try.underlying41 (hval 1 41 v1 rfl rfl) h1
  obtain ⟨x, rfl, wx⟩ := open_SlotI t1
  refine Calls.mono (law_FnExactInsertSlot _ _ _ _ x W sxs lxs) fun e W' h => ?_
  cases e <;> first | exact h.elim | skip
  obtain ⟨rfl, hb⟩ := h
  exact ⟨_, rfl, law_post law_laid (by kernel_rfl) rfl rfl Try.underlying4 (by rw [← exs]; exact hW') rfl hb⟩

theorem fnExactInsertSlot_holds : Rows.FnExactInsertSlotSaid :=
  OpenClaim.holds_of_wide 5 Try.f5 rfl rfl rfl rfl rfl rfl rfl ⟨rfl, rfl, rfl, rfl, rfl⟩ rfl rfl rfl rfl rfl (by kernel_rfl) Try.func5 (by kernel_rfl)
    (of_decide_eq_true (by kernel_rfl)) (by unfold Func.isWrapper; rw [if_neg (of_decide_eq_false (by kernel_rfl))]; exact ⟨rfl, rfl⟩)
    (fun os started H enc _ => fnExactInsertSlot_lifted os started H enc)
end Go.Proofs.Ytdoibplhbdkapaa
