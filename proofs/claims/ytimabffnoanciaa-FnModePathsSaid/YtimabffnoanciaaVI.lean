/- The law FnModePaths answers true for all arguments that its row admits, and leaves what was there before as it was. No condition. -/
import Derived.Test.YtimabffnoanciaaDM
import Derived.Test.YtimabffnoanciaaDT
import Derived.Test.YtimabffnoanciaaG7
import Derived.Test.YtimabffnoanciaaGE
import Derived.Test.YtimabffnoanciaaFlowR
namespace Go.Proofs.Ytimabffnoanciaa
open Go.ChangeShapes Go.WideShapes Go.ChangeAt Go.RowKit
set_option linter.unusedVariables false
set_option linter.unusedSimpArgs false
set_option maxRecDepth 20000

theorem law_own : ownKnob Try.prog.godebug = none := by kernel_rfl
theorem law_laid : laidOutB Try.prog = true := by kernel_rfl
theorem law_FnModePaths (A : Option Addr) (B c : Nat) (bs : List UInt8) (w : World) (hs : Sl B w A (bs.flatMap eB)) (hm : bs.length ≤ 9223372036854775807) :
    Calls Try.prog 11 #[.slice A bs.length c] w (Ret fun v w' => v = .bool true ∧ Ext w w') := by
  have Bhs := hs.1
  have X := Ext.refl w
  refine calls_of (args := [.slice A bs.length c]) Try.func11 Try.ntmps11 rfl rfl ?_
  refine c_seqR ?_
  refine ops_cons rfl (ow_assign rfl ?_)
  refine ops_nil ?_
  refine c_seq ?_
  refine c_seqR ?_
  refine ops_cons rfl (ow_move rfl ?_)
  refine ops_cons rfl (ow_callB ent14 rfl (big_c _ _ _ _) (fun w2 hbig x1 => ?_) (fun w2 hbig x1 => ?_))
  · skip
    replace hs := hs.ext x1
    replace X := Ext.trans X x1; clear x1
    refine ops_nil ?_
    refine c_true rfl ?_
    refine c_seqR ?_
    refine ops_cons rfl (ow_assign rfl ?_)
    refine ops_nil ?_
    refine c_ret ?_
    refine tq_r ?_
    refine fin_ret1 rfl rfl ?_
    first
    | exact ⟨rfl, X⟩
    | exact ⟨congrArg Value.bool (show (!hasB _ _) = true by rw [hno]; rfl), X⟩
    | exact ⟨congrArg Value.bool (by rw [p2]; simp), X⟩
  · skip
    replace hs := hs.ext x1
    replace X := Ext.trans X x1; clear x1
    have hb2 := of_decide_eq_false hbig
    have hbl : bs.length ≤ 1048576 := by omega
    refine ops_nil ?_
    refine c_false rfl ?_
    refine c_skip ?_
    refine tq_n ?_
    refine c_seqR ?_
    refine ops_cons rfl (ow_move rfl ?_)
    refine ops_cons rfl (ow_call ent53 rfl (ret_mono (drawMP_c _ _ _ _ _ hs hbl) ?_))
    rintro _ w4 ⟨AT, cT, ys, fr, to, rfl, hyl, oT, oTn, x3⟩
    replace oT := Own.low oT X.size
    replace oTn := NOwn.low oTn X.size
    replace hs := hs.ext x3
    replace X := Ext.trans X x3; clear x3
    have hl1 : ys.length ≤ 1048576 := by omega
    have hz1 : ∀ x ∈ ys, x.m.next.length ≤ 1048576 := fun x hx => Nat.le_trans (hyl.2 x hx) (by decide)
    have hlP := resP_len (ys.map (·.m)) fr to
    have hlR := resR_len (ys.map (·.m)) fr
    refine ops_cons rfl (ow_move rfl ?_)
    refine ops_cons rfl (ow_extract rfl rfl ?_)
    refine ops_cons rfl (ow_extract rfl rfl ?_)
    refine ops_cons rfl (ow_extract rfl rfl ?_)
    refine ops_cons rfl (ow_assign rfl ?_)
    refine ops_cons rfl (ow_assign rfl ?_)
    refine ops_cons rfl (ow_assign rfl ?_)
    refine ops_nil ?_
    refine c_seqR ?_
    refine ops_cons rfl (ow_move rfl ?_)
    refine ops_cons rfl (ow_move rfl ?_)
    refine ops_cons rfl (ow_move rfl ?_)
    refine ops_cons rfl (ow_call ent52 rfl (ret_mono (iPath_c _ _ _ _ _ _ _ _ (oT).sl (oTn).nexts hl1 hz1) ?_))
    rintro _ w6 ⟨AP, cP, rfl, oP, x5⟩
    replace oP := Own.low oP X.size
    replace hs := hs.ext x5
    replace oT := oT.ext x5
    replace oTn := oTn.ext x5
    replace X := Ext.trans X x5; clear x5
    refine ops_cons rfl (ow_move rfl ?_)
    refine ops_cons rfl (ow_extract rfl rfl ?_)
    refine ops_cons rfl (ow_extract rfl rfl ?_)
    refine ops_cons rfl (ow_assign rfl ?_)
    refine ops_cons rfl (ow_assign rfl ?_)
    refine ops_nil ?_
    refine c_seqR ?_
    refine ops_cons rfl (ow_move rfl ?_)
    refine ops_cons rfl (ow_move rfl ?_)
    refine ops_cons rfl (ow_move rfl ?_)
    refine ops_cons rfl (ow_call ent51 rfl (ret_mono (sPath_c _ _ _ _ _ _ _ _ (oT).sl (oTn).nexts hl1 hz1) ?_))
    rintro _ w8 ⟨A9, c10, rfl, oQ, x7⟩
    replace oQ := Own.low oQ X.size
    replace hs := hs.ext x7
    replace oT := oT.ext x7
    replace oTn := oTn.ext x7
    replace oP := oP.ext x7
    replace X := Ext.trans X x7; clear x7
    refine ops_cons rfl (ow_move rfl ?_)
    refine ops_cons rfl (ow_extract rfl rfl ?_)
    refine ops_cons rfl (ow_extract rfl rfl ?_)
    refine ops_cons rfl (ow_assign rfl ?_)
    refine ops_cons rfl (ow_assign rfl ?_)
    refine ops_nil ?_
    refine c_seqR ?_
    refine ops_cons rfl (ow_move rfl ?_)
    refine ops_cons rfl (ow_move rfl ?_)
    refine ops_cons rfl (ow_call ent45 rfl (ret_mono (iReach_c _ _ _ _ _ _ _ (oT).sl (oTn).nexts hl1 hz1) ?_))
    rintro _ w12 ⟨AR, cR, rfl, oR, x11⟩
    replace oR := Own.low oR X.size
    replace hs := hs.ext x11
    replace oT := oT.ext x11
    replace oTn := oTn.ext x11
    replace oP := oP.ext x11
    replace oQ := oQ.ext x11
    replace X := Ext.trans X x11; clear x11
    refine ops_cons rfl (ow_move rfl ?_)
    refine ops_cons rfl (ow_extract rfl rfl ?_)
    refine ops_cons rfl (ow_extract rfl rfl ?_)
    refine ops_cons rfl (ow_assign rfl ?_)
    refine ops_cons rfl (ow_assign rfl ?_)
    refine ops_nil ?_
    refine c_seqR ?_
    refine ops_cons rfl (ow_move rfl ?_)
    refine ops_cons rfl (ow_move rfl ?_)
    refine ops_cons rfl (ow_call ent43 rfl (ret_mono (sReach_c _ _ _ _ _ _ _ (oT).sl (oTn).nexts hl1 hz1) ?_))
    rintro _ w14 ⟨A15, c16, rfl, oU, x13⟩
    replace oU := Own.low oU X.size
    replace hs := hs.ext x13
    replace oT := oT.ext x13
    replace oTn := oTn.ext x13
    replace oP := oP.ext x13
    replace oQ := oQ.ext x13
    replace oR := oR.ext x13
    replace X := Ext.trans X x13; clear x13
    refine ops_cons rfl (ow_move rfl ?_)
    refine ops_cons rfl (ow_extract rfl rfl ?_)
    refine ops_cons rfl (ow_extract rfl rfl ?_)
    refine ops_cons rfl (ow_assign rfl ?_)
    refine ops_cons rfl (ow_assign rfl ?_)
    refine ops_nil ?_
    refine c_seq ?_
    refine c_seqR ?_
    refine ops_cons rfl (ow_move rfl ?_)
    refine ops_cons rfl (ow_move rfl ?_)
    refine ops_cons rfl (ow_neq2 rfl rfl (fun h17 => absurd h17 (by simp)) (fun h17 => ?_))
    refine ops_cons rfl (ow_move rfl ?_)
    refine ops_want rfl rfl rfl (ow_move rfl ?_)
    refine ops_want rfl rfl rfl (ow_move rfl ?_)
    refine ops_want rfl rfl rfl (ow_call ent22 rfl (ret_mono (likeInts_c _ _ _ _ _ _ _ _ (oP).sl (oQ).sl hlP) ?_))
    rintro _ w19 ⟨rfl, x18⟩
    replace hs := hs.ext x18
    replace oT := oT.ext x18
    replace oTn := oTn.ext x18
    replace oP := oP.ext x18
    replace oQ := oQ.ext x18
    replace oR := oR.ext x18
    replace oU := oU.ext x18
    replace X := Ext.trans X x18; clear x18
    refine ops_want rfl rfl rfl (ow_not rfl ?_)
    refine ops_cons rfl (ow_pick rfl rfl ?_)
    refine ops_cons rfl (ow_move rfl ?_)
    refine ops_want rfl rfl rfl (ow_move rfl ?_)
    refine ops_want rfl rfl rfl (ow_move rfl ?_)
    refine ops_want rfl rfl rfl (ow_neq2 rfl rfl (fun h20 => absurd h20 (by simp)) (fun h20 => ?_))
    refine ops_cons rfl (ow_pick rfl rfl ?_)
    refine ops_cons rfl (ow_move rfl ?_)
    refine ops_want rfl rfl rfl (ow_move rfl ?_)
    refine ops_want rfl rfl rfl (ow_move rfl ?_)
    refine ops_want rfl rfl rfl (ow_call ent22 rfl (ret_mono (likeInts_c _ _ _ _ _ _ _ _ (oR).sl (oU).sl hlR) ?_))
    rintro _ w22 ⟨rfl, x21⟩
    replace hs := hs.ext x21
    replace oT := oT.ext x21
    replace oTn := oTn.ext x21
    replace oP := oP.ext x21
    replace oQ := oQ.ext x21
    replace oR := oR.ext x21
    replace oU := oU.ext x21
    replace X := Ext.trans X x21; clear x21
    refine ops_want rfl rfl rfl (ow_not rfl ?_)
    refine ops_cons rfl (ow_pick rfl rfl ?_)
    refine ops_cons rfl (ow_move rfl ?_)
    refine ops_want rfl rfl rfl (ow_move rfl ?_)
    refine ops_want rfl rfl rfl (ow_move rfl ?_)
    refine ops_want rfl rfl rfl (ow_move rfl ?_)
    refine ops_want rfl rfl rfl (ow_call ent54 rfl (ret_mono (iMay_c _ _ _ _ _ _ _ _ (oT).sl (oTn).nexts hl1 hz1) ?_))
    rintro _ w24 ⟨rfl, x23⟩
    replace hs := hs.ext x23
    replace oT := oT.ext x23
    replace oTn := oTn.ext x23
    replace oP := oP.ext x23
    replace oQ := oQ.ext x23
    replace oR := oR.ext x23
    replace oU := oU.ext x23
    replace X := Ext.trans X x23; clear x23
    refine ops_want rfl rfl rfl (ow_move rfl ?_)
    refine ops_want rfl rfl rfl (ow_move rfl ?_)
    refine ops_want rfl rfl rfl (ow_move rfl ?_)
    refine ops_want rfl rfl rfl (ow_call ent55 rfl (ret_mono (sMay_c _ _ _ _ _ _ _ _ (oT).sl (oTn).nexts hl1 hz1) ?_))
    rintro _ w26 ⟨rfl, x25⟩
    replace hs := hs.ext x25
    replace oT := oT.ext x25
    replace oTn := oTn.ext x25
    replace oP := oP.ext x25
    replace oQ := oQ.ext x25
    replace oR := oR.ext x25
    replace oU := oU.ext x25
    replace X := Ext.trans X x25; clear x25
    refine ops_want rfl rfl rfl (ow_neqBd2 Try.underlying4 rfl rfl (fun h27 => absurd h27 (by simp)) (fun h27 => ?_))
    refine ops_cons rfl (ow_pick rfl rfl ?_)
    refine ops_nil ?_
    refine c_false rfl ?_
    refine c_skip ?_
    refine tq_n ?_
    refine c_seq ?_
    refine c_seqR ?_
    refine ops_cons rfl (ow_move rfl ?_)
    refine ops_cons rfl (ow_neq2 rfl rfl (fun hC => ?_) (fun hC => ?_))
    · skip
      refine ops_nil ?_
      refine c_true rfl ?_
      refine c_seqR ?_
      refine ops_cons rfl (ow_move rfl ?_)
      refine ops_cons rfl (ow_neq2 rfl rfl (fun hC4 => ?_) (fun hC4 => ?_))
      · skip
        refine ops_cons rfl (ow_move rfl ?_)
        refine ops_skip rfl rfl rfl rfl ?_
        refine ops_skip rfl rfl rfl rfl ?_
        refine ops_skip rfl rfl rfl rfl ?_
        refine ops_skip rfl rfl rfl rfl ?_
        refine ops_cons rfl (ow_pick rfl rfl ?_)
        refine ops_cons rfl (ow_assign rfl ?_)
        refine ops_nil ?_
        refine c_ret ?_
        refine tq_r ?_
        refine fin_ret1 rfl rfl ?_
        first
        | exact ⟨rfl, X⟩
        | exact ⟨congrArg Value.bool (show (!hasB _ _) = true by rw [hno]; rfl), X⟩
        | exact ⟨congrArg Value.bool (by rw [p2]; simp), X⟩
      · skip
        have hno := resP_no (show (resP (ys.map (·.m)) fr to).2 = 4 by omega)
        refine ops_cons rfl (ow_move rfl ?_)
        refine ops_want rfl rfl rfl (ow_move rfl ?_)
        refine ops_want rfl rfl rfl (ow_move rfl ?_)
        refine ops_want rfl rfl rfl (ow_call ent56 rfl (ret_mono (hasInt_c _ _ _ _ _ _ (oR).sl hlR) ?_))
        rintro _ w29 ⟨rfl, x28⟩
        replace hs := hs.ext x28
        replace oT := oT.ext x28
        replace oTn := oTn.ext x28
        replace oP := oP.ext x28
        replace oQ := oQ.ext x28
        replace oR := oR.ext x28
        replace oU := oU.ext x28
        replace X := Ext.trans X x28; clear x28
        refine ops_want rfl rfl rfl (ow_not rfl ?_)
        refine ops_cons rfl (ow_pick rfl rfl ?_)
        refine ops_cons rfl (ow_assign rfl ?_)
        refine ops_nil ?_
        refine c_ret ?_
        refine tq_r ?_
        refine fin_ret1 rfl rfl ?_
        first
        | exact ⟨rfl, X⟩
        | exact ⟨congrArg Value.bool (show (!hasB _ _) = true by rw [hno]; rfl), X⟩
        | exact ⟨congrArg Value.bool (by rw [p2]; simp), X⟩
    · skip
      obtain ⟨p1, p0, pl, pc, pr, p2⟩ := resP_ok hC
      refine ops_nil ?_
      refine c_false rfl ?_
      refine c_skip ?_
      refine tq_n ?_
      refine c_seq ?_
      refine c_seqR ?_
      refine ops_cons rfl (ow_assign rfl ?_)
      refine ops_nil ?_
      refine c_block ?_
      refine c_loop (G := Nat) (fun k => [(3, .slice AT ys.length cT), (4, .int .i64 fr), (5, .int .i64 to), (6, .slice AP (resP (ys.map (·.m)) fr to).1.length cP), (10, .slice AR (resR (ys.map (·.m)) fr).1.length cR), (14, .int .i64 (k : Nat))]) (fun k wr => (1 ≤ k ∧ k ≤ (resP (ys.map (·.m)) fr to).1.length) ∧ Sl B wr A (bs.flatMap eB) ∧ Own wr w.heap.size 114 3 AT ys.length cT (ys.flatMap ModeI.cells) ∧ NOwn wr w.heap.size 2 ys ∧ Own wr w.heap.size 2 1 AP (resP (ys.map (·.m)) fr to).1.length cP ((resP (ys.map (·.m)) fr to).1.flatMap eI) ∧ Own wr w.heap.size 2 1 AR (resR (ys.map (·.m)) fr).1.length cR ((resR (ys.map (·.m)) fr).1.flatMap eI) ∧ Ext w wr) (fun k => (resP (ys.map (·.m)) fr to).1.length - k) 1 (.cons rfl (.cons rfl (.cons rfl (.cons rfl (.cons rfl (.cons rfl (.nil _))))))) ?_ ?_
      · exact ⟨⟨Nat.le_refl _, p1⟩, hs, oT, oTn, oP, oR, X⟩
      clear hs oT oTn oP oQ oR oU
      clear X
      rintro k wr ⟨hk0, hs, oT, oTn, oP, oR, X⟩
      refine c_seq ?_
      refine c_seqR ?_
      refine ops_cons rfl (ow_move rfl ?_)
      refine ops_cons rfl (ow_move rfl ?_)
      refine ops_cons rfl (ow_len Try.underlying24 rfl ?_)
      refine ops_cons rfl (ow_lss2 rfl rfl (fun hk => ?_) (fun hk => ?_))
      · skip
        obtain ⟨u, hu⟩ : ∃ u, (resP (ys.map (·.m)) fr to).1[k - 1]? = some u := ⟨_, List.getElem?_eq_getElem (by omega)⟩
        obtain ⟨z, hz⟩ : ∃ z, (resP (ys.map (·.m)) fr to).1[k]? = some z := ⟨_, List.getElem?_eq_getElem (by omega)⟩
        have hst := pc (k - 1) u z hu (by rw [show k - 1 + 1 = k by omega]; exact hz)
        refine ops_nil ?_
        refine c_true rfl ?_
        refine c_skip ?_
        refine tq_n ?_
        refine c_seq ?_
        refine c_block ?_
        refine c_seqD [false, false, false, false, false, false, false, false, false, false, false, false] mixed (by kernel_rfl) ?_
        refine f_q rfl (fun wq sq => ow_move rfl ⟨rfl, Ext.refl _⟩) ?_
        refine f_q rfl (fun wq sq => ow_move rfl ⟨rfl, Ext.refl _⟩) ?_
        refine f_q rfl (fun wq sq => ow_move rfl ⟨rfl, Ext.refl _⟩) ?_
        refine f_q rfl (fun wq sq => ow_sub rfl rfl (w64 (by omega)) ⟨rfl, Ext.refl _⟩) ?_
        refine f_q rfl (fun wq sq => ow_indexT ((oP.ext sq)).sl eI_len rfl el24 rfl rfl rfl hu (by omega) ⟨rfl, Ext.refl _⟩) ?_
        refine f_q rfl (fun wq sq => ow_loadT ((oP.ext sq)).sl eI_len hu ti2 rfl rfl rfl ⟨rfl, Ext.refl _⟩) ?_
        refine f_q rfl (fun wq sq => ow_move rfl ⟨rfl, Ext.refl _⟩) ?_
        refine f_q rfl (fun wq sq => ow_move rfl ⟨rfl, Ext.refl _⟩) ?_
        refine f_q rfl (fun wq sq => ow_indexT ((oP.ext sq)).sl eI_len rfl el24 rfl rfl rfl hz rfl ⟨rfl, Ext.refl _⟩) ?_
        refine f_q rfl (fun wq sq => ow_loadT ((oP.ext sq)).sl eI_len hz ti2 rfl rfl rfl ⟨rfl, Ext.refl _⟩) ?_
        refine f_qB rfl (fun wq sq => ow_call ent54 rfl (iMay_c _ _ _ _ _ _ _ _ ((oT.ext sq)).sl ((oTn.ext sq)).nexts hl1 hz1)) (fun hm => ?_) (fun hm => by rw [hst] at hm; cases hm)
        refine f_q rfl (fun wq sq => ow_not rfl ⟨rfl, Ext.refl _⟩) ?_
        refine f_nil (fun w32 sq => ?_)
        have xq := sq
        replace hs := hs.ext xq
        replace oT := oT.ext xq
        replace oTn := oTn.ext xq
        replace oP := oP.ext xq
        replace oR := oR.ext xq
        replace X := Ext.trans X xq; clear xq sq
        refine ops_nil ?_
        refine c_false rfl ?_
        refine c_skip ?_
        refine bq_n ?_
        refine tq_n ?_
        refine c_region ?_
        refine ops_cons rfl (ow_move rfl ?_)
        refine ops_cons rfl (ow_add rfl rfl (w64 (by omega)) ?_)
        refine ops_cons rfl (ow_assign rfl ?_)
        refine ops_nil ?_
        refine tq_n ⟨k + 1, (.cons rfl (.cons rfl (.cons rfl (.cons rfl (.cons rfl (.cons rfl (.nil _))))))), ?_, ?_⟩
        · exact ⟨by omega, hs, oT, oTn, oP, oR, X⟩
        · first | omega | (dsimp only; omega)
      · skip
        refine ops_nil ?_
        refine c_false rfl ?_
        refine c_exit ?_
        refine tq_e ?_
        refine tq_e ?_
        refine bq_e ?_
        refine tq_n ?_
        refine c_seqR ?_
        refine ops_cons rfl (ow_move rfl ?_)
        refine ops_cons rfl (ow_indexT (oP).sl eI_len rfl el24 rfl rfl rfl p0 rfl ?_)
        refine ops_cons rfl (ow_loadT (oP).sl eI_len p0 ti2 rfl rfl rfl ?_)
        refine ops_cons rfl (ow_move rfl ?_)
        refine ops_cons rfl (ow_eql2 rfl rfl (fun h33 => ?_) (fun h33 => absurd h33 (by exact fun h => h rfl)))
        refine ops_cons rfl (ow_move rfl ?_)
        refine ops_want rfl rfl rfl (ow_move rfl ?_)
        refine ops_want rfl rfl rfl (ow_move rfl ?_)
        refine ops_want rfl rfl rfl (ow_len Try.underlying24 rfl ?_)
        refine ops_want rfl rfl rfl (ow_sub rfl rfl (w64 (by omega)) ?_)
        refine ops_want rfl rfl rfl (ow_indexT (oP).sl eI_len rfl el24 rfl rfl rfl pl (by omega) ?_)
        refine ops_want rfl rfl rfl (ow_loadT (oP).sl eI_len pl ti2 rfl rfl rfl ?_)
        refine ops_want rfl rfl rfl (ow_move rfl ?_)
        refine ops_want rfl rfl rfl (ow_eql2 rfl rfl (fun h34 => ?_) (fun h34 => absurd h34 (by exact fun h => h rfl)))
        refine ops_cons rfl (ow_pick rfl rfl ?_)
        refine ops_cons rfl (ow_move rfl ?_)
        refine ops_want rfl rfl rfl (ow_move rfl ?_)
        refine ops_want rfl rfl rfl (ow_move rfl ?_)
        refine ops_want rfl rfl rfl (ow_callB ent56 rfl (hasInt_c _ _ _ _ _ _ (oR).sl hlR) (fun w36 h x35 => ?_) (fun w36 h x35 => by rw [pr] at h; cases h))
        replace hs := hs.ext x35
        replace oT := oT.ext x35
        replace oTn := oTn.ext x35
        replace oP := oP.ext x35
        replace oR := oR.ext x35
        replace X := Ext.trans X x35; clear x35
        refine ops_cons rfl (ow_pick rfl rfl ?_)
        refine ops_cons rfl (ow_move rfl ?_)
        refine ops_want rfl rfl rfl (ow_move rfl ?_)
        refine ops_want rfl rfl rfl (ow_len Try.underlying24 rfl ?_)
        refine ops_want rfl rfl rfl (ow_eql rfl rfl ?_)
        refine ops_want rfl rfl rfl (ow_move rfl ?_)
        refine ops_want rfl rfl rfl (ow_move rfl ?_)
        refine ops_want rfl rfl rfl (ow_move rfl ?_)
        refine ops_want rfl rfl rfl (ow_call ent54 rfl (ret_mono (iMay_c _ _ _ _ _ _ _ _ (oT).sl (oTn).nexts hl1 hz1) ?_))
        rintro _ w38 ⟨rfl, x37⟩
        replace hs := hs.ext x37
        replace oT := oT.ext x37
        replace oTn := oTn.ext x37
        replace oP := oP.ext x37
        replace oR := oR.ext x37
        replace X := Ext.trans X x37; clear x37
        refine ops_want rfl rfl rfl (ow_eqlB Try.underlying4 rfl rfl ?_)
        refine ops_cons rfl (ow_pick rfl rfl ?_)
        refine ops_cons rfl (ow_assign rfl ?_)
        refine ops_nil ?_
        refine c_ret ?_
        refine fin_ret1 rfl rfl ?_
        first
        | exact ⟨rfl, X⟩
        | exact ⟨congrArg Value.bool (show (!hasB _ _) = true by rw [hno]; rfl), X⟩
        | exact ⟨congrArg Value.bool (by rw [p2]; simp), X⟩
set_option maxRecDepth 100000

theorem fnModePaths_lifted (os : Os) (started : os.Started) (H : Type) (enc : TypeId × Value → H) :
    ReturnsInHanded {} Try.checked os 11 .any (Rows.fnModePathsSpec.pre6 enc Try.prog Try.f11 Rows.fnModePathsRow.domain false) (Rows.fnModePathsSpec.post enc Try.prog Try.f11 false true false false) := by
  refine returnsInHanded_of_change (C := Try.checked) law_own started (by kernel_rfl) Try.func11
    (ChangeSpec.witness6 (enc := enc) (C := Try.checked) false ⟨#[], #[.slice none 0 0], []⟩ 8 (by kernel_rfl) (by kernel_rfl) (by kernel_rfl) (by kernel_rfl)) ?_
  intro W base args ds gs before hval0 hW hcnd _
  have hval : ∀ (j : Nat) t v, Try.f11.params[j]? = some t → args[j]? = some v → Value.okWide Try.prog W .any base t v := hval0
  have hW' := hW
  obtain ⟨p, q, hA0, hV, rfl, hfz, hnd⟩ := hW
  have hA : DataW.TrodAll enc Try.prog W 0 (fun _ => true) true Try.f11.params.toList args.toList ds p := hA0
  rw [Try.params11] at hA hval
  obtain ⟨rfl, rfl⟩ := trodVars_none hV
  obtain ⟨v0, vs0, d0, ds0, p0, q0, hargs, rfl, rfl, h0, r0⟩ := trodAll_cons hA
  obtain ⟨rfl, rfl, rfl⟩ := trodAll_nil r0
  obtain rfl : args = #[v0] := by cases args; simp_all
  obtain ⟨a0, l0, k0, rfl⟩ := okWide_slice Try.underlying22 (hval 0 22 v0 rfl rfl)
  obtain ⟨m0, x0, t0⟩ := cell_of rfl h0
  obtain ⟨Abs, bs, cbs, ebs, sbs, wbs, lbs⟩ := open_sl (s := 1) Try.underlying22 (by kernel_rfl) eB_len (by omega) (fun _ _ _ h => open_u8 Try.underlying5 h) t0
  rw [ebs]
  refine Calls.mono (law_FnModePaths _ _ _ bs W sbs lbs) fun e W' h => ?_
  cases e <;> first | exact h.elim | skip
  obtain ⟨rfl, hb⟩ := h
  exact ⟨_, rfl, law_post law_laid (by kernel_rfl) rfl rfl Try.underlying4 (by rw [← ebs]; exact hW') rfl hb⟩

theorem fnModePaths_holds : Rows.FnModePathsSaid :=
  OpenClaim.holds_of_wide 11 Try.f11 rfl rfl rfl rfl rfl rfl rfl ⟨rfl, rfl, rfl, rfl, rfl⟩ rfl rfl rfl rfl rfl (by kernel_rfl) Try.func11 (by kernel_rfl)
    (of_decide_eq_true (by kernel_rfl)) (by unfold Func.isWrapper; rw [if_neg (of_decide_eq_false (by kernel_rfl))]; exact ⟨rfl, rfl⟩)
    (fun os started H enc _ => fnModePaths_lifted os started H enc)
end Go.Proofs.Ytimabffnoanciaa
