/- The law FnExactPlanTable answers true for all arguments that its row admits, and leaves what was there before as it was. No condition. -/
import Derived.Test.YtimabffnoanciaaPV
import Derived.Test.YtimabffnoanciaaU4
import Derived.Test.YtimabffnoanciaaMK
import Derived.Test.YtimabffnoanciaaFlowR
namespace Go.Proofs.Ytimabffnoanciaa
open Go.ChangeShapes Go.WideShapes Go.ChangeAt Go.RowKit
set_option linter.unusedVariables false
set_option linter.unusedSimpArgs false
set_option maxRecDepth 20000
def Dem.ok (d : Dem) : Prop := In64 d.node ∧ In64 d.every ∧ In64 d.size
def Bk.ok (d : Bk) : Prop := In64 d.slot ∧ In64 d.phase
theorem law_own : ownKnob Try.prog.godebug = none := by kernel_rfl
theorem law_laid : laidOutB Try.prog = true := by kernel_rfl
theorem open_Dem {H : Type} {enc : TypeId × Value → H} {W : World} {sp : Nat → Bool} {fuel : Nat} {cs : List Value} {x : DataW H × List MemPlace} (h : DataW.trod enc Try.prog W 0 sp true fuel 94 cs = some x) : ∃ d : Dem, cs = d.cells ∧ d.ok := by
  have hl : cs.length = 3 := (len_of Try.underlying94 h).trans (by kernel_rfl)
  match cs, hl with
  | [c0, c1, c2], _ =>
    obtain ⟨n0, y0, h0⟩ := trod_field Try.underlying94 h 0 rfl
    obtain ⟨z0, e0, w0⟩ := open_i64 Try.underlying2 h0
    obtain rfl : c0 = .int .i64 z0 := by have e := show [c0] = [.int .i64 z0] from e0; injection e
    obtain ⟨n1, y1, h1⟩ := trod_field Try.underlying94 h 1 rfl
    obtain ⟨z1, e1, w1⟩ := open_i64 Try.underlying2 h1
    obtain rfl : c1 = .int .i64 z1 := by have e := show [c1] = [.int .i64 z1] from e1; injection e
    obtain ⟨n2, y2, h2⟩ := trod_field Try.underlying94 h 2 rfl
    obtain ⟨z2, e2, w2⟩ := open_i64 Try.underlying2 h2
    obtain rfl : c2 = .int .i64 z2 := by have e := show [c2] = [.int .i64 z2] from e2; injection e
    exact ⟨⟨z0, z1, z2⟩, rfl, ⟨w0, w1, w2⟩⟩
theorem open_Bk {H : Type} {enc : TypeId × Value → H} {W : World} {sp : Nat → Bool} {fuel : Nat} {cs : List Value} {x : DataW H × List MemPlace} (h : DataW.trod enc Try.prog W 0 sp true fuel 104 cs = some x) : ∃ d : Bk, cs = d.cells ∧ d.ok := by
  have hl : cs.length = 2 := (len_of Try.underlying104 h).trans (by kernel_rfl)
  match cs, hl with
  | [c0, c1], _ =>
    obtain ⟨n0, y0, h0⟩ := trod_field Try.underlying104 h 0 rfl
    obtain ⟨z0, e0, w0⟩ := open_i64 Try.underlying2 h0
    obtain rfl : c0 = .int .i64 z0 := by have e := show [c0] = [.int .i64 z0] from e0; injection e
    obtain ⟨n1, y1, h1⟩ := trod_field Try.underlying104 h 1 rfl
    obtain ⟨z1, e1, w1⟩ := open_i64 Try.underlying2 h1
    obtain rfl : c1 = .int .i64 z1 := by have e := show [c1] = [.int .i64 z1] from e1; injection e
    exact ⟨⟨z0, z1⟩, rfl, ⟨w0, w1⟩⟩
theorem law_FnExactPlanTable (A : Option Addr) (B c : Nat) (xs : List Dem) (rounds slots : Int) (A2 : Option Addr) (B2 c2 : Nat) (bks : List Bk) (w : World) (hs : Sl B w A (xs.flatMap Dem.cells)) (ht2 : Sl B2 w A2 (bks.flatMap Bk.cells)) (hm : xs.length ≤ 9223372036854775807) (hm2 : bks.length ≤ 9223372036854775807) :
    Calls Try.prog 13 #[.slice A xs.length c, .int .i64 rounds, .int .i64 slots, .slice A2 bks.length c2] w (Ret fun v w' => v = .bool true ∧ Ext w w') := by
  have Bhs := hs.1
  have Bht2 := ht2.1
  have X := Ext.refl w
  refine calls_of (args := [.slice A xs.length c, .int .i64 rounds, .int .i64 slots, .slice A2 bks.length c2]) Try.func13 Try.ntmps13 rfl rfl ?_
  refine c_seqR ?_
  refine ops_cons rfl (ow_assign rfl ?_)
  refine ops_nil ?_
  refine c_seqR ?_
  refine ops_cons rfl (ow_assign rfl ?_)
  refine ops_nil ?_
  refine c_seqR ?_
  refine ops_cons rfl (ow_move rfl ?_)
  refine ops_cons rfl (ow_move rfl ?_)
  refine ops_cons rfl (ow_call ent23 rfl (ret_mono (szDem_c _ _ _ _ hm) ?_))
  rintro _ w2 ⟨rfl, x1⟩
  replace hs := hs.ext x1
  replace ht2 := ht2.ext x1
  replace X := Ext.trans X x1; clear x1
  refine ops_cons rfl (ow_assign rfl ?_)
  refine ops_nil ?_
  refine c_seq ?_
  refine c_seqR ?_
  refine ops_cons rfl (ow_move rfl ?_)
  refine ops_cons rfl (ow_lss2 rfl rfl (fun hz0 => ?_) (fun hz0 => ?_))
  · skip
    refine ops_nil ?_
    refine c_true rfl ?_
    refine c_seqR ?_
    refine ops_cons rfl (ow_assign rfl ?_)
    refine ops_nil ?_
    refine c_ret ?_
    refine tq_r ?_
    refine fin_ret1 rfl rfl ?_
    exact ⟨rfl, X⟩
  · skip
    have hl : xs.length ≤ 1048576 := by
      by_cases h : 1048576 - (xs.length : Int) < 0
      · rw [if_pos h] at hz0; omega
      · omega
    have hLL : (if 1048576 - (xs.length : Int) < 0 then (-1 : Int) else 1048576 - (xs.length : Int)) = 1048576 - (xs.length : Int) := if_neg (by omega)
    refine ops_nil ?_
    refine c_false rfl ?_
    refine c_skip ?_
    refine tq_n ?_
    refine c_seqR ?_
    refine ops_cons rfl (ow_move rfl ?_)
    refine ops_cons rfl (ow_move rfl ?_)
    refine ops_cons rfl (ow_call ent34 rfl (ret_mono (szBkL_c _ _ _ _ _ hm2 (by rw [hLL]; omega)) ?_))
    rintro _ w4 ⟨rfl, x3⟩
    replace hs := hs.ext x3
    replace ht2 := ht2.ext x3
    replace X := Ext.trans X x3; clear x3
    refine ops_cons rfl (ow_assign rfl ?_)
    refine ops_nil ?_
    refine c_seq ?_
    refine c_seqR ?_
    refine ops_cons rfl (ow_move rfl ?_)
    refine ops_cons rfl (ow_lss2 rfl rfl (fun hz1 => ?_) (fun hz1 => ?_))
    · skip
      refine ops_nil ?_
      refine c_true rfl ?_
      refine c_seqR ?_
      refine ops_cons rfl (ow_assign rfl ?_)
      refine ops_nil ?_
      refine c_ret ?_
      refine tq_r ?_
      refine fin_ret1 rfl rfl ?_
      exact ⟨rfl, X⟩
    · skip
      rw [hLL] at hz1
      have hl2 : bks.length ≤ 1048576 := by
        unfold szInt at hz1
        split at hz1 <;> omega
      refine ops_nil ?_
      refine c_false rfl ?_
      refine c_skip ?_
      refine tq_n ?_
      refine c_seqR ?_
      refine ops_cons rfl (ow_move rfl ?_)
      refine ops_cons rfl (ow_call ent25 rfl (ret_mono (toDemS_c _ _ _ _ _ hs hl) ?_))
      rintro _ w6 ⟨A7, c8, rfl, oD0, x5⟩
      replace oD0 := Own.low oD0 X.size
      replace hs := hs.ext x5
      replace ht2 := ht2.ext x5
      replace X := Ext.trans X x5; clear x5
      refine ops_cons rfl (ow_move rfl ?_)
      refine ops_cons rfl (ow_move rfl ?_)
      refine ops_cons rfl (ow_move rfl ?_)
      refine ops_cons rfl (ow_call ent36 rfl (ret_mono (toBkS_c _ _ _ _ _ ht2 hl2) ?_))
      rintro _ w10 ⟨A11, c12, rfl, oB0, x9⟩
      replace oB0 := Own.low oB0 X.size
      replace hs := hs.ext x9
      replace ht2 := ht2.ext x9
      replace oD0 := oD0.ext x9
      replace X := Ext.trans X x9; clear x9
      refine ops_cons rfl (ow_call ent59 rfl (ret_mono (sPT_c _ _ _ _ _ _ _ _ _ _ _ (oD0).sl hl (oB0).sl hl2) ?_))
      rintro _ w14 ⟨A15, c16, yS, rfl, emS, hdS, oS, oSn, x13⟩
      replace oS := Own.low oS X.size
      replace oSn := NOwn.low oSn X.size
      replace hs := hs.ext x13
      replace ht2 := ht2.ext x13
      replace oD0 := oD0.ext x13
      replace oB0 := oB0.ext x13
      replace X := Ext.trans X x13; clear x13
      have LwS := X.size
      have hzS := tabF_small emS
      have sS := oS.sl
      have nS := oSn.nexts
      clear oS oSn oD0 oB0
      refine ops_cons rfl (ow_move rfl ?_)
      refine ops_cons rfl (ow_extract rfl rfl ?_)
      refine ops_cons rfl (ow_extract rfl rfl ?_)
      refine ops_cons rfl (ow_assign rfl ?_)
      refine ops_cons rfl (ow_assign rfl ?_)
      refine ops_nil ?_
      refine c_seqR ?_
      refine ops_cons rfl (ow_move rfl ?_)
      have SSD := sS.1
      have SND := nS.1
      refine ops_cons rfl (ow_call ent25 rfl (ret_mono (toDemS_c _ _ _ _ _ hs hl) ?_))
      rintro _ w18 ⟨A19, c20, rfl, oD1, x17⟩
      have LoD1 := X.size
      replace hs := hs.ext x17
      replace ht2 := ht2.ext x17
      replace sS := sS.ext x17
      replace nS := nS.ext x17
      replace X := Ext.trans X x17; clear x17
      refine ops_cons rfl (ow_assign rfl ?_)
      refine ops_nil ?_
      refine c_seqR ?_
      refine ops_cons rfl (ow_move rfl ?_)
      have SSB := sS.1
      have SNB := nS.1
      refine ops_cons rfl (ow_call ent36 rfl (ret_mono (toBkS_c _ _ _ _ _ ht2 hl2) ?_))
      rintro _ w22 ⟨A23, c24, rfl, oB1, x21⟩
      have LoB1 := X.size
      replace hs := hs.ext x21
      replace ht2 := ht2.ext x21
      replace sS := sS.ext x21
      replace nS := nS.ext x21
      replace oD1 := oD1.ext x21
      replace X := Ext.trans X x21; clear x21
      refine ops_cons rfl (ow_assign rfl ?_)
      refine ops_nil ?_
      refine c_seqR ?_
      refine ops_cons rfl (ow_move rfl ?_)
      refine ops_cons rfl (ow_move rfl ?_)
      refine ops_cons rfl (ow_move rfl ?_)
      refine ops_cons rfl (ow_move rfl ?_)
      have LS := sS.1
      have LN := nS.1
      refine ops_cons rfl (ow_call ent58 rfl (ret_mono (iPT_c _ _ _ _ _ _ _ _ _ _ _ (oD1).sl hl (oB1).sl hl2) ?_))
      rintro _ w26 ⟨A27, c28, yI, rfl, emI, hdI, oI, oIn, x25⟩
      have LoI := X.size
      replace hs := hs.ext x25
      replace ht2 := ht2.ext x25
      replace sS := sS.ext x25
      replace nS := nS.ext x25
      replace oD1 := oD1.ext x25
      replace oB1 := oB1.ext x25
      replace X := Ext.trans X x25; clear x25
      have hzI := tabF_small emI
      have hUI := fun y hy g hg => (Own.lt (oIn y hy).1 (g := g) hg).2
      refine ops_cons rfl (ow_move rfl ?_)
      refine ops_cons rfl (ow_extract rfl rfl ?_)
      refine ops_cons rfl (ow_extract rfl rfl ?_)
      refine ops_cons rfl (ow_assign rfl ?_)
      refine ops_cons rfl (ow_assign rfl ?_)
      refine ops_nil ?_
      refine c_seq ?_
      refine c_seqR ?_
      refine ops_cons rfl (ow_move rfl ?_)
      refine ops_cons rfl (ow_move rfl ?_)
      refine ops_cons rfl (ow_call ent63 rfl (ret_mono (eqSS_c _ _ _ _ _ _ _ _ yI yS _ oI.sl oIn.nexts sS nS (emI.trans emS.symm) hzI.1 hzI.2) ?_))
      rintro _ w30 ⟨rfl, x29⟩
      replace hs := hs.ext x29
      replace ht2 := ht2.ext x29
      replace sS := sS.ext x29
      replace nS := nS.ext x29
      replace oD1 := oD1.ext x29
      replace oB1 := oB1.ext x29
      replace oI := oI.ext x29
      replace oIn := oIn.ext x29
      replace X := Ext.trans X x29; clear x29
      refine ops_cons rfl (ow_not rfl ?_)
      refine ops_cons rfl (ow_move rfl ?_)
      refine ops_want rfl rfl rfl (ow_move rfl ?_)
      refine ops_want rfl rfl rfl (ow_move rfl ?_)
      refine ops_want rfl rfl rfl (ow_neq2 rfl rfl (fun h31 => absurd h31 (by simp)) (fun h31 => ?_))
      refine ops_cons rfl (ow_pick rfl rfl ?_)
      refine ops_nil ?_
      refine c_false rfl ?_
      refine c_skip ?_
      refine tq_n ?_
      refine c_seq ?_
      refine c_seqR ?_
      refine ops_cons rfl (ow_move rfl ?_)
      refine ops_cons rfl (ow_move rfl ?_)
      refine ops_cons rfl (ow_call ent25 rfl (ret_mono (toDemS_c _ _ _ _ _ hs hl) ?_))
      rintro _ w33 ⟨A34, c35, rfl, oD2, x32⟩
      replace oD2 := Own.low oD2 X.size
      replace hs := hs.ext x32
      replace ht2 := ht2.ext x32
      replace sS := sS.ext x32
      replace nS := nS.ext x32
      replace oD1 := oD1.ext x32
      replace oB1 := oB1.ext x32
      replace oI := oI.ext x32
      replace oIn := oIn.ext x32
      replace X := Ext.trans X x32; clear x32
      refine ops_cons rfl (ow_call ent27 rfl (ret_mono (eqDemS_c _ _ _ _ _ _ _ _ (oD1).sl (oD2).sl hl) ?_))
      rintro _ w37 ⟨rfl, x36⟩
      replace hs := hs.ext x36
      replace ht2 := ht2.ext x36
      replace sS := sS.ext x36
      replace nS := nS.ext x36
      replace oD1 := oD1.ext x36
      replace oB1 := oB1.ext x36
      replace oI := oI.ext x36
      replace oIn := oIn.ext x36
      replace oD2 := oD2.ext x36
      replace X := Ext.trans X x36; clear x36
      clear oD2
      refine ops_cons rfl (ow_not rfl ?_)
      refine ops_nil ?_
      refine c_false rfl ?_
      refine c_skip ?_
      refine tq_n ?_
      refine c_seq ?_
      refine c_seqR ?_
      refine ops_cons rfl (ow_move rfl ?_)
      refine ops_cons rfl (ow_move rfl ?_)
      refine ops_cons rfl (ow_call ent36 rfl (ret_mono (toBkS_c _ _ _ _ _ ht2 hl2) ?_))
      rintro _ w39 ⟨A40, c41, rfl, oB2, x38⟩
      replace oB2 := Own.low oB2 X.size
      replace hs := hs.ext x38
      replace ht2 := ht2.ext x38
      replace sS := sS.ext x38
      replace nS := nS.ext x38
      replace oD1 := oD1.ext x38
      replace oB1 := oB1.ext x38
      replace oI := oI.ext x38
      replace oIn := oIn.ext x38
      replace X := Ext.trans X x38; clear x38
      refine ops_cons rfl (ow_call ent38 rfl (ret_mono (eqBkS_c _ _ _ _ _ _ _ _ (oB1).sl (oB2).sl hl2) ?_))
      rintro _ w43 ⟨rfl, x42⟩
      replace hs := hs.ext x42
      replace ht2 := ht2.ext x42
      replace sS := sS.ext x42
      replace nS := nS.ext x42
      replace oD1 := oD1.ext x42
      replace oB1 := oB1.ext x42
      replace oI := oI.ext x42
      replace oIn := oIn.ext x42
      replace oB2 := oB2.ext x42
      replace X := Ext.trans X x42; clear x42
      clear oB2
      refine ops_cons rfl (ow_not rfl ?_)
      refine ops_nil ?_
      refine c_false rfl ?_
      refine c_skip ?_
      refine tq_n ?_
      refine c_seqR ?_
      refine ops_cons rfl (ow_assign rfl ?_)
      refine ops_nil ?_
      refine c_seqR ?_
      refine ops_cons rfl (ow_move rfl ?_)
      refine ops_cons rfl (ow_move rfl ?_)
      refine ops_cons rfl (ow_call ent30 rfl (ret_mono (markDem_c _ _ _ _ _ _ oD1 hl (by omega)) ?_))
      rintro _ w45 ⟨rfl, oD2m, x44⟩
      replace hs := hs.grown x44 (fun g hg => Nat.le_trans Bhs (Nat.le_trans LoD1 (Own.lt oD1 hg).1))
      replace ht2 := ht2.grown x44 (fun g hg => Nat.le_trans Bht2 (Nat.le_trans LoD1 (Own.lt oD1 hg).1))
      replace sS := sS.grown x44 (fun g hg => Nat.le_trans SSD (Own.lt oD1 hg).1)
      replace nS := nS.grown x44 (fun g hg => Nat.le_trans SND (Own.lt oD1 hg).1)
      replace oB1 := oB1.grown x44 (Own.neO oB1 oD1 (by decide))
      replace oI := oI.grown x44 (Own.neO oI oD1 (by decide))
      replace oIn := oIn.grownO oD1 x44 (by decide)
      replace X := X.grown x44 X.size (fun g hg => Nat.le_trans LoD1 (Own.lt oD1 hg).1); clear x44 oD1
      refine ops_cons rfl (ow_assign rfl ?_)
      refine ops_nil ?_
      refine c_seqR ?_
      refine ops_cons rfl (ow_move rfl ?_)
      refine ops_cons rfl (ow_move rfl ?_)
      refine ops_cons rfl (ow_call ent40 rfl (ret_mono (markBk_c _ _ _ _ _ _ oB1 hl2 (by omega)) ?_))
      rintro _ w47 ⟨rfl, oB2m, x46⟩
      replace hs := hs.grown x46 (fun g hg => Nat.le_trans Bhs (Nat.le_trans LoB1 (Own.lt oB1 hg).1))
      replace ht2 := ht2.grown x46 (fun g hg => Nat.le_trans Bht2 (Nat.le_trans LoB1 (Own.lt oB1 hg).1))
      replace sS := sS.grown x46 (fun g hg => Nat.le_trans SSB (Own.lt oB1 hg).1)
      replace nS := nS.grown x46 (fun g hg => Nat.le_trans SNB (Own.lt oB1 hg).1)
      replace oI := oI.grown x46 (Own.neO oI oB1 (by decide))
      replace oIn := oIn.grownO oB1 x46 (by decide)
      replace oD2m := oD2m.grown x46 (Own.neO oD2m oB1 (by decide))
      replace X := X.grown x46 X.size (fun g hg => Nat.le_trans LoB1 (Own.lt oB1 hg).1); clear x46 oB1
      refine ops_cons rfl (ow_assign rfl ?_)
      refine ops_nil ?_
      refine c_seq ?_
      refine c_seqR ?_
      refine ops_cons rfl (ow_move rfl ?_)
      refine ops_cons rfl (ow_lss2 rfl rfl (fun h48 => absurd h48 (by omega)) (fun h48 => ?_))
      refine ops_cons rfl (ow_move rfl ?_)
      refine ops_want rfl rfl rfl (ow_move rfl ?_)
      refine ops_want rfl rfl rfl (ow_move rfl ?_)
      refine ops_want rfl rfl rfl (ow_call ent63 rfl (ret_mono (eqSS_c _ _ _ _ _ _ _ _ yI yS _ oI.sl oIn.nexts sS nS (emI.trans emS.symm) hzI.1 hzI.2) ?_))
      rintro _ w50 ⟨rfl, x49⟩
      replace hs := hs.ext x49
      replace ht2 := ht2.ext x49
      replace sS := sS.ext x49
      replace nS := nS.ext x49
      replace oI := oI.ext x49
      replace oIn := oIn.ext x49
      replace oD2m := oD2m.ext x49
      replace oB2m := oB2m.ext x49
      replace X := Ext.trans X x49; clear x49
      refine ops_want rfl rfl rfl (ow_not rfl ?_)
      refine ops_cons rfl (ow_pick rfl rfl ?_)
      refine ops_cons rfl (ow_move rfl ?_)
      refine ops_want rfl rfl rfl (ow_move rfl ?_)
      refine ops_want rfl rfl rfl (ow_move rfl ?_)
      refine ops_want rfl rfl rfl (ow_neq2 rfl rfl (fun h51 => absurd h51 (by simp)) (fun h51 => ?_))
      refine ops_cons rfl (ow_pick rfl rfl ?_)
      refine ops_nil ?_
      refine c_false rfl ?_
      refine c_skip ?_
      refine tq_n ?_
      refine c_seqR ?_
      refine ops_cons rfl (ow_assign rfl ?_)
      refine ops_nil ?_
      refine c_seqR ?_
      refine ops_cons rfl (ow_move rfl ?_)
      refine ops_cons rfl (ow_move rfl ?_)
      refine ops_cons rfl (ow_call ent64 rfl (ret_mono (markSS_c _ _ _ _ yI 1 _ (Own.low oI LS) (NOwn.low oIn LS) hdI (fun y hy g hg => (Own.lt (oIn y hy).1 (g := g) hg).2) hzI.1 hzI.2 (by omega)) ?_))
      rintro _ wM ⟨rfl, hb1, oIm, oInm, xM⟩
      have xB := xM.below sS.1
      replace hs := hs.below (Below.mono xB (Nat.le_trans Bhs LwS))
      replace ht2 := ht2.below (Below.mono xB (Nat.le_trans Bht2 LwS))
      replace sS := sS.below xB
      replace nS := nS.below xB
      replace X := Below.trans X (Below.mono xB LwS)
      clear oI oIn
      refine ops_cons rfl (ow_assign rfl ?_)
      refine ops_nil ?_
      refine c_seqR ?_
      refine ops_cons rfl (ow_assign rfl ?_)
      refine ops_nil ?_
      refine c_seqR ?_
      refine ops_cons rfl (ow_move rfl ?_)
      refine ops_cons rfl (ow_move rfl ?_)
      refine ops_cons rfl (ow_call ent65 rfl (ret_mono (heldSS_c _ _ _ _ yI 1 _ oIm.sl oInm.nexts hzI.1 hzI.2 (by omega)) ?_))
      rintro _ w53 ⟨rfl, x52⟩
      replace hs := hs.ext x52
      replace ht2 := ht2.ext x52
      replace sS := sS.ext x52
      replace nS := nS.ext x52
      replace oIm := oIm.ext x52
      replace oInm := oInm.ext x52
      replace X := Ext.trans X x52; clear x52
      refine ops_cons rfl (ow_assign rfl ?_)
      refine ops_nil ?_
      refine c_seq ?_
      refine c_seqR ?_
      refine ops_cons rfl (ow_move rfl ?_)
      refine ops_cons rfl (ow_lss2 rfl rfl (fun h54 => absurd h54 (by omega)) (fun h54 => ?_))
      refine ops_nil ?_
      refine c_false rfl ?_
      refine c_skip ?_
      refine tq_n ?_
      refine c_seq ?_
      refine c_seqR ?_
      refine ops_cons rfl (ow_move rfl ?_)
      refine ops_cons rfl (ow_move rfl ?_)
      refine ops_cons rfl (ow_neq2 rfl rfl (fun h55 => absurd h55 (by simp)) (fun h55 => ?_))
      refine ops_nil ?_
      refine c_false rfl ?_
      refine c_skip ?_
      refine tq_n ?_
      refine c_seqR ?_
      refine ops_cons rfl (ow_move rfl ?_)
      refine ops_cons rfl (ow_call ent25 rfl (ret_mono (toDemS_c _ _ _ _ _ hs hl) ?_))
      rintro _ w57 ⟨A58, c59, rfl, oD3, x56⟩
      replace oD3 := Own.low oD3 X.size
      replace hs := hs.ext x56
      replace ht2 := ht2.ext x56
      replace sS := sS.ext x56
      replace nS := nS.ext x56
      replace oIm := oIm.ext x56
      replace oInm := oInm.ext x56
      replace X := Ext.trans X x56; clear x56
      refine ops_cons rfl (ow_move rfl ?_)
      refine ops_cons rfl (ow_move rfl ?_)
      refine ops_cons rfl (ow_move rfl ?_)
      refine ops_cons rfl (ow_call ent36 rfl (ret_mono (toBkS_c _ _ _ _ _ ht2 hl2) ?_))
      rintro _ w61 ⟨A62, c63, rfl, oB3, x60⟩
      replace oB3 := Own.low oB3 X.size
      replace hs := hs.ext x60
      replace ht2 := ht2.ext x60
      replace sS := sS.ext x60
      replace nS := nS.ext x60
      replace oIm := oIm.ext x60
      replace oInm := oInm.ext x60
      replace oD3 := oD3.ext x60
      replace X := Ext.trans X x60; clear x60
      refine ops_cons rfl (ow_call ent58 rfl (ret_mono (iPT_c _ _ _ _ _ _ _ _ _ _ _ (oD3).sl hl (oB3).sl hl2) ?_))
      rintro _ w65 ⟨A66, c67, yJ, rfl, emJ, hdJ, oJ, oJn, x64⟩
      replace oJ := Own.low oJ X.size
      replace oJn := NOwn.low oJn X.size
      replace hs := hs.ext x64
      replace ht2 := ht2.ext x64
      replace sS := sS.ext x64
      replace nS := nS.ext x64
      replace oIm := oIm.ext x64
      replace oInm := oInm.ext x64
      replace oD3 := oD3.ext x64
      replace oB3 := oB3.ext x64
      replace X := Ext.trans X x64; clear x64
      have hzJ := tabF_small emJ
      refine ops_cons rfl (ow_move rfl ?_)
      refine ops_cons rfl (ow_extract rfl rfl ?_)
      refine ops_cons rfl (ow_extract rfl rfl ?_)
      refine ops_cons rfl (ow_assign rfl ?_)
      refine ops_cons rfl (ow_assign rfl ?_)
      refine ops_nil ?_
      refine c_seq ?_
      refine c_seqR ?_
      refine ops_cons rfl (ow_move rfl ?_)
      refine ops_cons rfl (ow_move rfl ?_)
      refine ops_cons rfl (ow_call ent63 rfl (ret_mono (eqSS_c _ _ _ _ _ _ _ _ yJ yS _ oJ.sl oJn.nexts sS nS (emJ.trans emS.symm) hzJ.1 hzJ.2) ?_))
      rintro _ w69 ⟨rfl, x68⟩
      replace hs := hs.ext x68
      replace ht2 := ht2.ext x68
      replace sS := sS.ext x68
      replace nS := nS.ext x68
      replace oIm := oIm.ext x68
      replace oInm := oInm.ext x68
      replace oD3 := oD3.ext x68
      replace oB3 := oB3.ext x68
      replace oJ := oJ.ext x68
      replace oJn := oJn.ext x68
      replace X := Ext.trans X x68; clear x68
      refine ops_cons rfl (ow_not rfl ?_)
      refine ops_cons rfl (ow_move rfl ?_)
      refine ops_want rfl rfl rfl (ow_move rfl ?_)
      refine ops_want rfl rfl rfl (ow_move rfl ?_)
      refine ops_want rfl rfl rfl (ow_neq2 rfl rfl (fun h70 => absurd h70 (by simp)) (fun h70 => ?_))
      refine ops_cons rfl (ow_pick rfl rfl ?_)
      refine ops_nil ?_
      refine c_false rfl ?_
      refine c_skip ?_
      refine tq_n ?_
      refine c_seqR ?_
      refine ops_cons rfl (ow_assign rfl ?_)
      refine ops_nil ?_
      refine c_seqR ?_
      refine ops_cons rfl (ow_move rfl ?_)
      refine ops_cons rfl (ow_move rfl ?_)
      refine ops_cons rfl (ow_call ent65 rfl (ret_mono (heldSS_c _ _ _ _ yI 1 _ oIm.sl oInm.nexts hzI.1 hzI.2 (by omega)) ?_))
      rintro _ w72 ⟨rfl, x71⟩
      replace hs := hs.ext x71
      replace ht2 := ht2.ext x71
      replace sS := sS.ext x71
      replace nS := nS.ext x71
      replace oIm := oIm.ext x71
      replace oInm := oInm.ext x71
      replace oD3 := oD3.ext x71
      replace oB3 := oB3.ext x71
      replace oJ := oJ.ext x71
      replace oJn := oJn.ext x71
      replace X := Ext.trans X x71; clear x71
      refine ops_cons rfl (ow_assign rfl ?_)
      refine ops_nil ?_
      refine c_seq ?_
      refine c_seqR ?_
      refine ops_cons rfl (ow_move rfl ?_)
      refine ops_cons rfl (ow_lss2 rfl rfl (fun h73 => absurd h73 (by omega)) (fun h73 => ?_))
      refine ops_nil ?_
      refine c_false rfl ?_
      refine c_skip ?_
      refine tq_n ?_
      refine c_seq ?_
      refine c_seqR ?_
      refine ops_cons rfl (ow_move rfl ?_)
      refine ops_cons rfl (ow_move rfl ?_)
      refine ops_cons rfl (ow_neq2 rfl rfl (fun h74 => absurd h74 (by simp)) (fun h74 => ?_))
      refine ops_nil ?_
      refine c_false rfl ?_
      refine c_skip ?_
      refine tq_n ?_
      refine c_seqR ?_
      refine ops_cons rfl (ow_assign rfl ?_)
      refine ops_nil ?_
      refine c_ret ?_
      refine fin_ret1 rfl rfl ?_
      exact ⟨rfl, X⟩
set_option maxRecDepth 100000

theorem fnExactPlanTable_lifted (os : Os) (started : os.Started) (H : Type) (enc : TypeId × Value → H) :
    ReturnsInHanded {} Try.checked os 13 .any (Rows.fnExactPlanTableSpec.pre6 enc Try.prog Try.f13 Rows.fnExactPlanTableRow.domain false) (Rows.fnExactPlanTableSpec.post enc Try.prog Try.f13 false true false false) := by
  refine returnsInHanded_of_change (C := Try.checked) law_own started (by kernel_rfl) Try.func13
    (ChangeSpec.witness6 (enc := enc) (C := Try.checked) false ⟨#[], #[.slice none 0 0, .int .i64 0, .int .i64 0, .slice none 0 0], []⟩ 8 (by kernel_rfl) (by kernel_rfl) (by kernel_rfl) (by kernel_rfl)) ?_
  intro W base args ds gs before hval0 hW hcnd _
  have hval : ∀ (j : Nat) t v, Try.f13.params[j]? = some t → args[j]? = some v → Value.okWide Try.prog W .any base t v := hval0
  have hW' := hW
  obtain ⟨p, q, hA0, hV, rfl, hfz, hnd⟩ := hW
  have hA : DataW.TrodAll enc Try.prog W 0 (fun _ => true) true Try.f13.params.toList args.toList ds p := hA0
  rw [Try.params13] at hA hval
  obtain ⟨rfl, rfl⟩ := trodVars_none hV
  obtain ⟨v0, vs0, d0, ds0, p0, q0, hargs, rfl, rfl, h0, r0⟩ := trodAll_cons hA
  obtain ⟨v1, vs1, d1, ds1, p1, q1, rfl, rfl, rfl, h1, r1⟩ := trodAll_cons r0
  obtain ⟨v2, vs2, d2, ds2, p2, q2, rfl, rfl, rfl, h2, r2⟩ := trodAll_cons r1
  obtain ⟨v3, vs3, d3, ds3, p3, q3, rfl, rfl, rfl, h3, r3⟩ := trodAll_cons r2
  obtain ⟨rfl, rfl, rfl⟩ := trodAll_nil r3
  obtain rfl : args = #[v0, v1, v2, v3] := by cases args; simp_all
  obtain ⟨a0, l0, k0, rfl⟩ := okWide_slice Try.underlying32 (hval 0 32 v0 rfl rfl)
  obtain ⟨m0, x0, t0⟩ := cell_of rfl h0
  obtain ⟨Axs, xs, cxs, exs, sxs, wxs, lxs⟩ := open_sl (s := 3) Try.underlying32 (by kernel_rfl) Dem.len (by omega) (fun _ _ _ h => open_Dem h) t0
  rw [exs]
  obtain ⟨rounds, rfl, _, _, _⟩ := open_int Try.underlying2 (hval 1 2 v1 rfl rfl) h1
  obtain ⟨slots, rfl, _, _, _⟩ := open_int Try.underlying2 (hval 2 2 v2 rfl rfl) h2
  obtain ⟨a3, l3, k3, rfl⟩ := okWide_slice Try.underlying48 (hval 3 48 v3 rfl rfl)
  obtain ⟨m3, x3, t3⟩ := cell_of rfl h3
  obtain ⟨Abks, bks, cbks, ebks, sbks, wbks, lbks⟩ := open_sl (s := 2) Try.underlying48 (by kernel_rfl) Bk.len (by omega) (fun _ _ _ h => open_Bk h) t3
  rw [ebks]
  refine Calls.mono (law_FnExactPlanTable _ _ _ xs rounds slots _ _ _ bks W sxs sbks lxs lbks) fun e W' h => ?_
  cases e <;> first | exact h.elim | skip
  obtain ⟨rfl, hb⟩ := h
  exact ⟨_, rfl, law_post law_laid (by kernel_rfl) rfl rfl Try.underlying4 (by rw [← exs, ← ebks]; exact hW') rfl hb⟩

theorem fnExactPlanTable_holds : Rows.FnExactPlanTableSaid :=
  OpenClaim.holds_of_wide 13 Try.f13 rfl rfl rfl rfl rfl rfl rfl ⟨rfl, rfl, rfl, rfl, rfl⟩ rfl rfl rfl rfl rfl (by kernel_rfl) Try.func13 (by kernel_rfl)
    (of_decide_eq_true (by kernel_rfl)) (by unfold Func.isWrapper; rw [if_neg (of_decide_eq_false (by kernel_rfl))]; exact ⟨rfl, rfl⟩)
    (fun os started H enc _ => fnExactPlanTable_lifted os started H enc)
end Go.Proofs.Ytimabffnoanciaa
