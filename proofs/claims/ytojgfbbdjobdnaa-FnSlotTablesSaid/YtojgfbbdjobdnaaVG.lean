/- The law FnSlotTables answers true for all arguments that its row admits, and leaves what was there before as it was. No condition. -/
import Derived.Test.YtojgfbbdjobdnaaG4
import Derived.Test.YtojgfbbdjobdnaaD4
import Derived.Test.YtojgfbbdjobdnaaR3
import Derived.Test.YtojgfbbdjobdnaaB2
import Derived.Test.YtojgfbbdjobdnaaQ1
import Derived.Test.YtojgfbbdjobdnaaGE
import Derived.Test.YtojgfbbdjobdnaaLW
namespace Go.Proofs.Ytojgfbbdjobdnaa
open Go.ChangeShapes Go.WideShapes Go.ChangeAt Go.RowKit
set_option linter.unusedVariables false
set_option linter.unusedSimpArgs false
set_option maxRecDepth 20000
theorem likeInts_n (A A' : Option Addr) (B B' c c' n n' : Nat) (xs : List Int) (w : World) (hs : Sl B w A (xs.flatMap eI)) (ht : Sl B' w A' (xs.flatMap eI)) (hl : xs.length ≤ 1048576) (en : n = xs.length) (en' : n' = xs.length) :
    Calls Try.prog 14 #[.slice A n c, .slice A' n' c'] w (Ret fun v w' => v = .bool true ∧ Ext w w') := by
  subst en; subst en'
  exact likeInts_c A A' B B' c c' xs w hs ht hl
theorem readSF_zero {xs : List Int} (h : (readSF xs).2.2 = 0) : ∃ l, isB xs = true ∧ rdS xs = some l ∧ readSF xs = (l, 1 + 7 * (l.length : Int), 0) := by
  unfold readSF at *
  split at h
  · rename_i hb
    split at h
    · rename_i l hl
      exact ⟨l, hb, hl, by rw [if_pos hb]⟩
    · simp at h
  · simp at h
theorem resB_zero {xs : List SlotI} (h : ¬ (resB xs).2 ≠ 0) : isST xs = true ∧ (resB xs).1 = stB xs := by
  unfold resB at *
  split at h
  · rename_i hT; rw [if_pos hT]; exact ⟨hT, rfl⟩
  · simp at h
theorem iSTBl_c (A : Option Addr) (B c : Nat) (ls : List Int) (l : List SlotI) (w : World) (hs : Sl B w A ((readSF ls).1.flatMap SlotI.cells)) (hT : isST l = true) (hRF : readSF ls = (l, 1 + 7 * (l.length : Int), 0)) :
    Calls Try.prog 25 #[.slice A (readSF ls).1.length c] w (Ret fun v w' => ∃ A' c', v = .tuple #[.slice A' (stB l).length c', .int .i64 0] ∧ Own w' w.heap.size 2 1 A' (stB l).length c' ((stB l).flatMap eI) ∧ Ext w w') := by
  rw [hRF] at hs ⊢
  have h := iSTB_c A B c l w hs (by have := isST_len hT; omega)
  rw [show resB l = (stB l, 0) by rw [resB, if_pos hT]] at h
  exact h
theorem iReadBack_c (A : Option Addr) (B c n : Nat) (ys : List SlotI) (w : World) (hs : Sl B w A ((stB ys ++ [7]).flatMap eI)) (hT : isST ys = true) (en : n = (stB ys).length + 1) (hcap : n ≤ c) :
    Calls Try.prog 28 #[.slice A n c] w (Ret fun v w' => ∃ A' c', v = .tuple #[.slice A' ys.length c', .int .i64 (1 + 7 * (ys.length : Int)), .int .i64 0] ∧ Own w' w.heap.size 46 8 A' ys.length c' (ys.flatMap SlotI.cells) ∧ Ext w w') := by
  have e1 : n = (stB ys ++ [7]).length := by rw [en, List.length_append]; rfl
  subst e1
  have hl := isB_len (isB_back hT)
  have h := iReadS_c A B c (stB ys ++ [7]) w hs (by omega) hcap
  rw [readSF_back hT] at h
  exact h
theorem law_FnSlotTables (A : Option Addr) (B c : Nat) (bs : List UInt8) (w : World) (hs : Sl B w A (bs.flatMap eB)) (hm : bs.length ≤ 9223372036854775807) :
    Calls Try.prog 5 #[.slice A bs.length c] w (Ret fun v w' => v = .bool true ∧ Ext w w') := by
  have Bhs := hs.1
  have X := Ext.refl w
  refine calls_of (args := [.slice A bs.length c]) Try.func5 Try.ntmps5 rfl rfl ?_
  refine c_seqR ?_
  refine ops_cons rfl (ow_assign rfl ?_)
  refine ops_nil ?_
  refine c_seq ?_
  refine c_seqR ?_
  refine ops_cons rfl (ow_move rfl ?_)
  refine ops_cons rfl (ow_callB ent7 rfl (big_c _ _ _ _) (fun w2 hbig x1 => ?_) (fun w2 hbig x1 => ?_))
  · skip
    replace hs := hs.ext x1
    replace X := Ext.trans X x1; clear x1
    refine ops_nil ?_
    refine c_true rfl ?_
    refine c_seqR ?_
    refine ops_cons rfl (ow_assign rfl ?_)
    refine ops_nil ?_
    refine c_ret ?_
    refine tq_r ?_
    refine fin_ret1 rfl rfl ?_
    first
    | exact ⟨rfl, X⟩
    | exact ⟨congrArg Value.bool (decide_eq_true (by rw [hrb, hsl2]; omega)), X⟩
  · skip
    replace hs := hs.ext x1
    replace X := Ext.trans X x1; clear x1
    have hb2 := of_decide_eq_false hbig
    have hbl : bs.length ≤ 1048576 := by omega
    refine ops_nil ?_
    refine c_false rfl ?_
    refine c_skip ?_
    refine tq_n ?_
    refine c_seqR ?_
    refine ops_cons rfl (ow_move rfl ?_)
    refine ops_cons rfl (ow_call ent24 rfl (ret_mono (drawSTB_c _ _ _ _ _ hs hbl) ?_))
    rintro _ w4 ⟨AT, cT, ys, rfl, hp, oT, x3⟩
    replace oT := Own.low oT X.size
    replace hs := hs.ext x3
    replace X := Ext.trans X x3; clear x3
    have hl : ys.length ≤ 1048576 := by omega
    have hlr := resB_len ys hl
    refine ops_cons rfl (ow_assign rfl ?_)
    refine ops_nil ?_
    refine c_seqR ?_
    refine ops_cons rfl (ow_move rfl ?_)
    refine ops_cons rfl (ow_call ent25 rfl (ret_mono (iSTB_c _ _ _ _ _ (oT).sl hl) ?_))
    rintro _ w6 ⟨A7, c8, rfl, oA, x5⟩
    replace oA := Own.low oA X.size
    replace hs := hs.ext x5
    replace oT := oT.ext x5
    replace X := Ext.trans X x5; clear x5
    refine ops_cons rfl (ow_move rfl ?_)
    refine ops_cons rfl (ow_extract rfl rfl ?_)
    refine ops_cons rfl (ow_extract rfl rfl ?_)
    refine ops_cons rfl (ow_assign rfl ?_)
    refine ops_cons rfl (ow_assign rfl ?_)
    refine ops_nil ?_
    refine c_seqR ?_
    refine ops_cons rfl (ow_move rfl ?_)
    refine ops_cons rfl (ow_call ent26 rfl (ret_mono (sSTB_c _ _ _ _ _ (oT).sl hl) ?_))
    rintro _ w10 ⟨A11, c12, rfl, oB, x9⟩
    replace oB := Own.low oB X.size
    replace hs := hs.ext x9
    replace oT := oT.ext x9
    replace oA := oA.ext x9
    replace X := Ext.trans X x9; clear x9
    refine ops_cons rfl (ow_move rfl ?_)
    refine ops_cons rfl (ow_extract rfl rfl ?_)
    refine ops_cons rfl (ow_extract rfl rfl ?_)
    refine ops_cons rfl (ow_assign rfl ?_)
    refine ops_cons rfl (ow_assign rfl ?_)
    refine ops_nil ?_
    refine c_seqR ?_
    refine ops_cons rfl (ow_move rfl ?_)
    refine ops_cons rfl (ow_call ent27 rfl (ret_mono (drawRST_c _ _ _ _ _ hs hbl) ?_))
    rintro _ w14 ⟨AL, cL, ls, rfl, hpl, oL, x13⟩
    replace oL := Own.low oL X.size
    replace hs := hs.ext x13
    replace oT := oT.ext x13
    replace oA := oA.ext x13
    replace oB := oB.ext x13
    replace X := Ext.trans X x13; clear x13
    have hll : ls.length ≤ 1048576 := by omega
    have hlR := readSF_len ls
    refine ops_cons rfl (ow_assign rfl ?_)
    refine ops_nil ?_
    refine c_seqR ?_
    refine ops_cons rfl (ow_move rfl ?_)
    refine ops_cons rfl (ow_call ent28 rfl (ret_mono (iReadS_c _ _ _ _ _ (oL).sl hll oL.cap) ?_))
    rintro _ w16 ⟨A17, c18, rfl, oC, x15⟩
    replace oC := Own.low oC X.size
    replace hs := hs.ext x15
    replace oT := oT.ext x15
    replace oA := oA.ext x15
    replace oB := oB.ext x15
    replace oL := oL.ext x15
    replace X := Ext.trans X x15; clear x15
    refine ops_cons rfl (ow_move rfl ?_)
    refine ops_cons rfl (ow_extract rfl rfl ?_)
    refine ops_cons rfl (ow_extract rfl rfl ?_)
    refine ops_cons rfl (ow_extract rfl rfl ?_)
    refine ops_cons rfl (ow_assign rfl ?_)
    refine ops_cons rfl (ow_assign rfl ?_)
    refine ops_cons rfl (ow_assign rfl ?_)
    refine ops_nil ?_
    refine c_seqR ?_
    refine ops_cons rfl (ow_move rfl ?_)
    refine ops_cons rfl (ow_call ent29 rfl (ret_mono (sReadS_c _ _ _ _ _ (oL).sl hll oL.cap) ?_))
    rintro _ w20 ⟨A21, c22, rfl, oD, x19⟩
    replace oD := Own.low oD X.size
    replace hs := hs.ext x19
    replace oT := oT.ext x19
    replace oA := oA.ext x19
    replace oB := oB.ext x19
    replace oL := oL.ext x19
    replace oC := oC.ext x19
    replace X := Ext.trans X x19; clear x19
    refine ops_cons rfl (ow_move rfl ?_)
    refine ops_cons rfl (ow_extract rfl rfl ?_)
    refine ops_cons rfl (ow_extract rfl rfl ?_)
    refine ops_cons rfl (ow_extract rfl rfl ?_)
    refine ops_cons rfl (ow_assign rfl ?_)
    refine ops_cons rfl (ow_assign rfl ?_)
    refine ops_cons rfl (ow_assign rfl ?_)
    refine ops_nil ?_
    refine c_seq ?_
    refine c_seqR ?_
    refine ops_cons rfl (ow_move rfl ?_)
    refine ops_cons rfl (ow_move rfl ?_)
    refine ops_cons rfl (ow_neq2 rfl rfl (fun h23 => absurd h23 (by simp)) (fun h23 => ?_))
    refine ops_cons rfl (ow_move rfl ?_)
    refine ops_want rfl rfl rfl (ow_move rfl ?_)
    refine ops_want rfl rfl rfl (ow_move rfl ?_)
    refine ops_want rfl rfl rfl (ow_call ent14 rfl (ret_mono (likeInts_c _ _ _ _ _ _ _ _ (oA).sl (oB).sl hlr) ?_))
    rintro _ w25 ⟨rfl, x24⟩
    replace hs := hs.ext x24
    replace oT := oT.ext x24
    replace oA := oA.ext x24
    replace oB := oB.ext x24
    replace oL := oL.ext x24
    replace oC := oC.ext x24
    replace oD := oD.ext x24
    replace X := Ext.trans X x24; clear x24
    refine ops_want rfl rfl rfl (ow_not rfl ?_)
    refine ops_cons rfl (ow_pick rfl rfl ?_)
    refine ops_cons rfl (ow_move rfl ?_)
    refine ops_want rfl rfl rfl (ow_move rfl ?_)
    refine ops_want rfl rfl rfl (ow_move rfl ?_)
    refine ops_want rfl rfl rfl (ow_neq2 rfl rfl (fun h26 => absurd h26 (by simp)) (fun h26 => ?_))
    refine ops_cons rfl (ow_pick rfl rfl ?_)
    refine ops_cons rfl (ow_move rfl ?_)
    refine ops_want rfl rfl rfl (ow_move rfl ?_)
    refine ops_want rfl rfl rfl (ow_move rfl ?_)
    refine ops_want rfl rfl rfl (ow_neq2 rfl rfl (fun h27 => absurd h27 (by simp)) (fun h27 => ?_))
    refine ops_cons rfl (ow_pick rfl rfl ?_)
    refine ops_cons rfl (ow_move rfl ?_)
    refine ops_want rfl rfl rfl (ow_move rfl ?_)
    refine ops_want rfl rfl rfl (ow_move rfl ?_)
    refine ops_want rfl rfl rfl (ow_call ent30 rfl (ret_mono (likeSlots_c _ _ _ _ _ _ _ _ (oC).sl (oD).sl hlR) ?_))
    rintro _ w29 ⟨rfl, x28⟩
    replace hs := hs.ext x28
    replace oT := oT.ext x28
    replace oA := oA.ext x28
    replace oB := oB.ext x28
    replace oL := oL.ext x28
    replace oC := oC.ext x28
    replace oD := oD.ext x28
    replace X := Ext.trans X x28; clear x28
    refine ops_want rfl rfl rfl (ow_not rfl ?_)
    refine ops_cons rfl (ow_pick rfl rfl ?_)
    refine ops_cons rfl (ow_move rfl ?_)
    refine ops_want rfl rfl rfl (ow_move rfl ?_)
    refine ops_want rfl rfl rfl (ow_call ent31 rfl (ret_mono (iIsST_c _ _ _ _ _ (oT).sl hl) ?_))
    rintro _ w31 ⟨rfl, x30⟩
    replace hs := hs.ext x30
    replace oT := oT.ext x30
    replace oA := oA.ext x30
    replace oB := oB.ext x30
    replace oL := oL.ext x30
    replace oC := oC.ext x30
    replace oD := oD.ext x30
    replace X := Ext.trans X x30; clear x30
    refine ops_want rfl rfl rfl (ow_move rfl ?_)
    refine ops_want rfl rfl rfl (ow_call ent32 rfl (ret_mono (sIsST_c _ _ _ _ _ (oT).sl hl) ?_))
    rintro _ w33 ⟨rfl, x32⟩
    replace hs := hs.ext x32
    replace oT := oT.ext x32
    replace oA := oA.ext x32
    replace oB := oB.ext x32
    replace oL := oL.ext x32
    replace oC := oC.ext x32
    replace oD := oD.ext x32
    replace X := Ext.trans X x32; clear x32
    refine ops_want rfl rfl rfl (ow_neqBd2 Try.underlying4 rfl rfl (fun h34 => absurd h34 (by simp)) (fun h34 => ?_))
    refine ops_cons rfl (ow_pick rfl rfl ?_)
    refine ops_nil ?_
    refine c_false rfl ?_
    refine c_skip ?_
    refine tq_n ?_
    refine c_seq ?_
    refine c_seqR ?_
    refine ops_cons rfl (ow_move rfl ?_)
    refine ops_cons rfl (ow_eql2 rfl rfl (fun h0 => ?_) (fun h0 => ?_))
    · skip
      obtain ⟨l, hIl, hrl, hRF⟩ := readSF_zero h0
      have hrd := rdS_len hrl
      have hr1 : (readSF ls).2.1 = 1 + 7 * (l.length : Int) := by rw [hRF]
      have hsl : (stB l).length = 1 + 7 * l.length := stP_len (Nat.le_refl _)
      refine ops_nil ?_
      refine c_true rfl ?_
      refine c_seqR ?_
      refine ops_cons rfl (ow_move rfl ?_)
      refine ops_cons rfl (ow_call ent25 rfl (ret_mono (iSTBl_c _ _ _ ls l _ oC.sl hrd.2.2 hRF) ?_))
      rintro _ w36 ⟨A37, c38, rfl, oE, x35⟩
      replace oE := Own.low oE X.size
      replace hs := hs.ext x35
      replace oT := oT.ext x35
      replace oA := oA.ext x35
      replace oB := oB.ext x35
      replace oL := oL.ext x35
      replace oC := oC.ext x35
      replace oD := oD.ext x35
      replace X := Ext.trans X x35; clear x35
      refine ops_cons rfl (ow_move rfl ?_)
      refine ops_cons rfl (ow_extract rfl rfl ?_)
      refine ops_cons rfl (ow_extract rfl rfl ?_)
      refine ops_cons rfl (ow_assign rfl ?_)
      refine ops_cons rfl (ow_assign rfl ?_)
      refine ops_nil ?_
      refine c_seqR ?_
      refine ops_cons rfl (ow_move rfl ?_)
      refine ops_cons rfl (ow_neq2 rfl rfl (fun h39 => absurd h39 (by simp)) (fun h39 => ?_))
      refine ops_cons rfl (ow_move rfl ?_)
      refine ops_want rfl rfl rfl (ow_move rfl ?_)
      refine ops_want rfl rfl rfl (ow_move rfl ?_)
      refine ops_want rfl rfl rfl (ow_move rfl ?_)
      refine ops_want rfl rfl rfl (ow_sliceHO el26 rfl rfl (show _ = ((1 + 7 * l.length : Nat) : Int) by omega) (Nat.le_trans hrd.2.1 (Own.cap oL)) ?_)
      have oG := Own.pre oL hrd.2.1
      refine ops_want rfl rfl rfl (ow_call ent14 rfl (ret_mono (likeInts_n _ _ _ _ _ _ _ _ (stB l) _ oE.sl (by have h := oG.sl; rw [flat_take eI_len, ← stB_read hIl hrl] at h; exact h) (by omega) rfl (by omega)) ?_))
      rintro _ w42 ⟨rfl, x41⟩
      replace hs := hs.ext x41
      replace oT := oT.ext x41
      replace oA := oA.ext x41
      replace oB := oB.ext x41
      replace oC := oC.ext x41
      replace oD := oD.ext x41
      replace oE := oE.ext x41
      replace oG := oG.ext x41
      replace X := Ext.trans X x41; clear x41
      refine ops_want rfl rfl rfl (ow_not rfl ?_)
      refine ops_cons rfl (ow_pick rfl rfl ?_)
      refine ops_nil ?_
      refine c_false rfl ?_
      refine c_skip ?_
      refine tq_n ?_
      refine c_seq ?_
      refine c_seqR ?_
      refine ops_cons rfl (ow_move rfl ?_)
      refine ops_cons rfl (ow_neq2 rfl rfl (fun h5 => ?_) (fun h5 => ?_))
      · skip
        refine ops_nil ?_
        refine c_true rfl ?_
        refine c_seqR ?_
        refine ops_cons rfl (ow_assign rfl ?_)
        refine ops_nil ?_
        refine c_ret ?_
        refine tq_r ?_
        refine fin_ret1 rfl rfl ?_
        first
        | exact ⟨rfl, X⟩
        | exact ⟨congrArg Value.bool (decide_eq_true (by rw [hrb, hsl2]; omega)), X⟩
      · skip
        obtain ⟨hT, hrb⟩ := resB_zero h5
        have hsl2 : (stB ys).length = 1 + 7 * ys.length := stP_len (Nat.le_refl _)
        refine ops_nil ?_
        refine c_false rfl ?_
        refine c_skip ?_
        refine tq_n ?_
        refine c_seqR ?_
        refine ops_cons rfl (ow_buildSlice el26 ti2 rfl rfl rfl rfl rfl ?_)
        intro g43 w45 eg43 oI bbg43 x44 zg43
        replace oI := Own.low oI X.size
        replace hs := hs.ext x44
        replace oT := oT.ext x44
        replace oA := oA.ext x44
        replace X := Ext.trans X x44; clear x44
        refine ops_cons rfl (ow_move rfl ?_)
        refine ops_cons rfl (ow_append (ts := #[]) oI X.size oA.sl (by rw [flat_len eI_len]; try omega) (one_ints _) el26 ti2 rfl rfl rfl rfl (by omega) (by omega) ?_)
        intro AoJ coJ w47 oJ hg46
        replace hs := hs.grown hg46 (fun g hg => Nat.le_trans Bhs (Own.lt oI hg).1)
        replace oT := oT.grown hg46 (Own.neO oT oI (by decide))
        replace X := X.grown hg46 X.size (fun g hg => (Own.lt oI hg).1)
        clear hg46
        refine ops_cons rfl (ow_buildSlice el26 ti2 rfl rfl rfl rfl rfl ?_)
        intro g48 w50 eg48 oV bbg48 x49 zg48
        replace oV := Own.low oV X.size
        replace hs := hs.ext x49
        replace oT := oT.ext x49
        replace oJ := oJ.ext x49
        replace X := Ext.trans X x49; clear x49
        refine ops_cons rfl (ow_append (ts := #[]) oJ X.size oV.sl (by first | rfl | simp) (by first | exact List.all_eq_true.1 rfl | simp [Value.oneCell']) el26 ti2 rfl rfl rfl rfl (by omega) (by omega) ?_)
        intro AoK coK w52 oK hg51
        replace hs := hs.grown hg51 (fun g hg => Nat.le_trans Bhs (Own.lt oJ hg).1)
        replace oT := oT.grown hg51 (Own.neO oT oJ (by decide))
        replace X := X.grown hg51 X.size (fun g hg => (Own.lt oJ hg).1)
        clear hg51
        replace oK := oK.to (cs' := (stB ys ++ [7]).flatMap eI) (by rw [List.flatMap_append, ← hrb]; rfl)
        refine ops_cons rfl (ow_call ent28 rfl (ret_mono (iReadBack_c _ _ _ _ ys _ oK.sl hT (by rw [hrb]; omega) oK.cap) ?_))
        rintro _ w54 ⟨A55, c56, rfl, oR, x53⟩
        replace oR := Own.low oR X.size
        replace hs := hs.ext x53
        replace oT := oT.ext x53
        replace oK := oK.ext x53
        replace X := Ext.trans X x53; clear x53
        refine ops_cons rfl (ow_move rfl ?_)
        refine ops_cons rfl (ow_extract rfl rfl ?_)
        refine ops_cons rfl (ow_extract rfl rfl ?_)
        refine ops_cons rfl (ow_extract rfl rfl ?_)
        refine ops_cons rfl (ow_assign rfl ?_)
        refine ops_cons rfl (ow_assign rfl ?_)
        refine ops_cons rfl (ow_assign rfl ?_)
        refine ops_nil ?_
        refine c_seqR ?_
        refine ops_cons rfl (ow_move rfl ?_)
        refine ops_cons rfl (ow_eql2 rfl rfl (fun h57 => ?_) (fun h57 => absurd h57 (by simp)))
        refine ops_cons rfl (ow_move rfl ?_)
        refine ops_want rfl rfl rfl (ow_move rfl ?_)
        refine ops_want rfl rfl rfl (ow_move rfl ?_)
        refine ops_want rfl rfl rfl (ow_call ent30 rfl (ret_mono (likeSlots_c _ _ _ _ _ _ _ _ (oR).sl (oT).sl hl) ?_))
        rintro _ w59 ⟨rfl, x58⟩
        replace hs := hs.ext x58
        replace oT := oT.ext x58
        replace oK := oK.ext x58
        replace oR := oR.ext x58
        replace X := Ext.trans X x58; clear x58
        refine ops_cons rfl (ow_pick rfl rfl ?_)
        refine ops_cons rfl (ow_move rfl ?_)
        refine ops_want rfl rfl rfl (ow_move rfl ?_)
        refine ops_want rfl rfl rfl (ow_move rfl ?_)
        refine ops_want rfl rfl rfl (ow_len Try.underlying26 rfl ?_)
        refine ops_want rfl rfl rfl (ow_eql rfl rfl ?_)
        refine ops_cons rfl (ow_pick rfl rfl ?_)
        refine ops_cons rfl (ow_assign rfl ?_)
        refine ops_nil ?_
        refine c_ret ?_
        refine fin_ret1 rfl rfl ?_
        first
        | exact ⟨rfl, X⟩
        | exact ⟨congrArg Value.bool (decide_eq_true (by rw [hrb, hsl2]; omega)), X⟩
    · skip
      refine ops_nil ?_
      refine c_false rfl ?_
      refine c_skip ?_
      refine tq_n ?_
      refine c_seq ?_
      refine c_seqR ?_
      refine ops_cons rfl (ow_move rfl ?_)
      refine ops_cons rfl (ow_neq2 rfl rfl (fun h5 => ?_) (fun h5 => ?_))
      · skip
        refine ops_nil ?_
        refine c_true rfl ?_
        refine c_seqR ?_
        refine ops_cons rfl (ow_assign rfl ?_)
        refine ops_nil ?_
        refine c_ret ?_
        refine tq_r ?_
        refine fin_ret1 rfl rfl ?_
        first
        | exact ⟨rfl, X⟩
        | exact ⟨congrArg Value.bool (decide_eq_true (by rw [hrb, hsl2]; omega)), X⟩
      · skip
        obtain ⟨hT, hrb⟩ := resB_zero h5
        have hsl2 : (stB ys).length = 1 + 7 * ys.length := stP_len (Nat.le_refl _)
        refine ops_nil ?_
        refine c_false rfl ?_
        refine c_skip ?_
        refine tq_n ?_
        refine c_seqR ?_
        refine ops_cons rfl (ow_buildSlice el26 ti2 rfl rfl rfl rfl rfl ?_)
        intro g60 w62 eg60 oI bbg60 x61 zg60
        replace oI := Own.low oI X.size
        replace hs := hs.ext x61
        replace oT := oT.ext x61
        replace oA := oA.ext x61
        replace X := Ext.trans X x61; clear x61
        refine ops_cons rfl (ow_move rfl ?_)
        refine ops_cons rfl (ow_append (ts := #[]) oI X.size oA.sl (by rw [flat_len eI_len]; try omega) (one_ints _) el26 ti2 rfl rfl rfl rfl (by omega) (by omega) ?_)
        intro AoJ coJ w64 oJ hg63
        replace hs := hs.grown hg63 (fun g hg => Nat.le_trans Bhs (Own.lt oI hg).1)
        replace oT := oT.grown hg63 (Own.neO oT oI (by decide))
        replace X := X.grown hg63 X.size (fun g hg => (Own.lt oI hg).1)
        clear hg63
        refine ops_cons rfl (ow_buildSlice el26 ti2 rfl rfl rfl rfl rfl ?_)
        intro g65 w67 eg65 oV bbg65 x66 zg65
        replace oV := Own.low oV X.size
        replace hs := hs.ext x66
        replace oT := oT.ext x66
        replace oJ := oJ.ext x66
        replace X := Ext.trans X x66; clear x66
        refine ops_cons rfl (ow_append (ts := #[]) oJ X.size oV.sl (by first | rfl | simp) (by first | exact List.all_eq_true.1 rfl | simp [Value.oneCell']) el26 ti2 rfl rfl rfl rfl (by omega) (by omega) ?_)
        intro AoK coK w69 oK hg68
        replace hs := hs.grown hg68 (fun g hg => Nat.le_trans Bhs (Own.lt oJ hg).1)
        replace oT := oT.grown hg68 (Own.neO oT oJ (by decide))
        replace X := X.grown hg68 X.size (fun g hg => (Own.lt oJ hg).1)
        clear hg68
        replace oK := oK.to (cs' := (stB ys ++ [7]).flatMap eI) (by rw [List.flatMap_append, ← hrb]; rfl)
        refine ops_cons rfl (ow_call ent28 rfl (ret_mono (iReadBack_c _ _ _ _ ys _ oK.sl hT (by rw [hrb]; omega) oK.cap) ?_))
        rintro _ w71 ⟨A72, c73, rfl, oR, x70⟩
        replace oR := Own.low oR X.size
        replace hs := hs.ext x70
        replace oT := oT.ext x70
        replace oK := oK.ext x70
        replace X := Ext.trans X x70; clear x70
        refine ops_cons rfl (ow_move rfl ?_)
        refine ops_cons rfl (ow_extract rfl rfl ?_)
        refine ops_cons rfl (ow_extract rfl rfl ?_)
        refine ops_cons rfl (ow_extract rfl rfl ?_)
        refine ops_cons rfl (ow_assign rfl ?_)
        refine ops_cons rfl (ow_assign rfl ?_)
        refine ops_cons rfl (ow_assign rfl ?_)
        refine ops_nil ?_
        refine c_seqR ?_
        refine ops_cons rfl (ow_move rfl ?_)
        refine ops_cons rfl (ow_eql2 rfl rfl (fun h74 => ?_) (fun h74 => absurd h74 (by simp)))
        refine ops_cons rfl (ow_move rfl ?_)
        refine ops_want rfl rfl rfl (ow_move rfl ?_)
        refine ops_want rfl rfl rfl (ow_move rfl ?_)
        refine ops_want rfl rfl rfl (ow_call ent30 rfl (ret_mono (likeSlots_c _ _ _ _ _ _ _ _ (oR).sl (oT).sl hl) ?_))
        rintro _ w76 ⟨rfl, x75⟩
        replace hs := hs.ext x75
        replace oT := oT.ext x75
        replace oK := oK.ext x75
        replace oR := oR.ext x75
        replace X := Ext.trans X x75; clear x75
        refine ops_cons rfl (ow_pick rfl rfl ?_)
        refine ops_cons rfl (ow_move rfl ?_)
        refine ops_want rfl rfl rfl (ow_move rfl ?_)
        refine ops_want rfl rfl rfl (ow_move rfl ?_)
        refine ops_want rfl rfl rfl (ow_len Try.underlying26 rfl ?_)
        refine ops_want rfl rfl rfl (ow_eql rfl rfl ?_)
        refine ops_cons rfl (ow_pick rfl rfl ?_)
        refine ops_cons rfl (ow_assign rfl ?_)
        refine ops_nil ?_
        refine c_ret ?_
        refine fin_ret1 rfl rfl ?_
        first
        | exact ⟨rfl, X⟩
        | exact ⟨congrArg Value.bool (decide_eq_true (by rw [hrb, hsl2]; omega)), X⟩
set_option maxRecDepth 100000

theorem fnSlotTables_lifted (os : Os) (started : os.Started) (H : Type) (enc : TypeId × Value → H) :
    ReturnsInHanded {} Try.checked os 5 .any (Rows.fnSlotTablesSpec.pre6 enc Try.prog Try.f5 Rows.fnSlotTablesRow.domain false) (Rows.fnSlotTablesSpec.post enc Try.prog Try.f5 false true false false) := by
  refine returnsInHanded_of_change (C := Try.checked) law_own started (by kernel_rfl) Try.func5
    (ChangeSpec.witness6 (enc := enc) (C := Try.checked) false ⟨#[], #[.slice none 0 0], []⟩ 8 (by kernel_rfl) (by kernel_rfl) (by kernel_rfl) (by kernel_rfl)) ?_
  intro W base args ds gs before hval0 hW hcnd _
  have hval : ∀ (j : Nat) t v, Try.f5.params[j]? = some t → args[j]? = some v → Value.okWide Try.prog W .any base t v := hval0
  have hW' := hW
  obtain ⟨p, q, hA0, hV, rfl, hfz, hnd⟩ := hW
  have hA : DataW.TrodAll enc Try.prog W 0 (fun _ => true) true Try.f5.params.toList args.toList ds p := hA0
  rw [Try.params5] at hA hval
  obtain ⟨rfl, rfl⟩ := trodVars_none hV
  obtain ⟨v0, vs0, d0, ds0, p0, q0, hargs, rfl, rfl, h0, r0⟩ := trodAll_cons hA
  obtain ⟨rfl, rfl, rfl⟩ := trodAll_nil r0
  obtain rfl : args = #[v0] := by cases args; simp_all
  obtain ⟨a0, l0, k0, rfl⟩ := okWide_slice Try.underlying22 (hval 0 22 v0 rfl rfl)
  obtain ⟨m0, x0, t0⟩ := cell_of rfl h0
  obtain ⟨Abs, bs, cbs, ebs, sbs, wbs, lbs⟩ := open_sl (s := 1) Try.underlying22 (by kernel_rfl) eB_len (by omega) (fun _ _ _ h => open_u8 Try.underlying5 h) t0
  rw [ebs]
  refine Calls.mono (law_FnSlotTables _ _ _ bs W sbs lbs) fun e W' h => ?_
  cases e <;> first | exact h.elim | skip
  obtain ⟨rfl, hb⟩ := h
  exact ⟨_, rfl, law_post law_laid (by kernel_rfl) rfl rfl Try.underlying4 (by rw [← ebs]; exact hW') rfl hb⟩

theorem fnSlotTables_holds : Rows.FnSlotTablesSaid :=
  OpenClaim.holds_of_wide 5 Try.f5 rfl rfl rfl rfl rfl rfl rfl ⟨rfl, rfl, rfl, rfl, rfl⟩ rfl rfl rfl rfl rfl (by kernel_rfl) Try.func5 (by kernel_rfl)
    (of_decide_eq_true (by kernel_rfl)) (by unfold Func.isWrapper; rw [if_neg (of_decide_eq_false (by kernel_rfl))]; exact ⟨rfl, rfl⟩)
    (fun os started H enc _ => fnSlotTables_lifted os started H enc)
end Go.Proofs.Ytojgfbbdjobdnaa
