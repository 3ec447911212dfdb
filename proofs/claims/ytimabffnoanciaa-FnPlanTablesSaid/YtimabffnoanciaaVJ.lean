/- The law FnPlanTables answers true for all arguments that its row admits, and leaves what was there before as it was. No condition. -/
import Derived.Test.YtimabffnoanciaaGP
import Derived.Test.YtimabffnoanciaaSU
import Derived.Test.YtimabffnoanciaaGE
import Derived.Test.YtimabffnoanciaaMK
import Derived.Test.YtimabffnoanciaaFlowR
namespace Go.Proofs.Ytimabffnoanciaa
open Go.ChangeShapes Go.WideShapes Go.ChangeAt Go.RowKit
set_option linter.unusedVariables false
set_option linter.unusedSimpArgs false
set_option maxRecDepth 20000

theorem law_own : ownKnob Try.prog.godebug = none := by kernel_rfl
theorem law_laid : laidOutB Try.prog = true := by kernel_rfl
theorem likeInts_n (A A' : Option Addr) (B B' c c' n n' : Nat) (xs : List Int) (w : World) (hs : Sl B w A (xs.flatMap eI)) (ht : Sl B' w A' (xs.flatMap eI)) (hl : xs.length ≤ 1048576) (en : n = xs.length) (en' : n' = xs.length) :
    Calls Try.prog 22 #[.slice A n c, .slice A' n' c'] w (Ret fun v w' => v = .bool true ∧ Ext w w') := by
  subst en; subst en'
  exact likeInts_c A A' B B' c c' xs w hs ht hl
set_option maxHeartbeats 1000000 in
theorem law_FnPlanTables (A : Option Addr) (B c : Nat) (bs : List UInt8) (w : World) (hs : Sl B w A (bs.flatMap eB)) (hm : bs.length ≤ 9223372036854775807) :
    Calls Try.prog 12 #[.slice A bs.length c] w (Ret fun v w' => v = .bool true ∧ Ext w w') := by
  have Bhs := hs.1
  have X := Ext.refl w
  refine calls_of (args := [.slice A bs.length c]) Try.func12 Try.ntmps12 rfl rfl ?_
  refine c_seqR ?_
  refine ops_cons rfl (ow_assign rfl ?_)
  refine ops_nil ?_
  refine c_seq ?_
  refine c_seqR ?_
  refine ops_cons rfl (ow_move rfl ?_)
  refine ops_cons rfl (ow_callB ent14 rfl (big_c _ _ _ _) (fun w2 hbig x1 => ?_) (fun w2 hbig x1 => ?_))
  · skip
    replace hs := hs.ext x1
    replace X := Ext.trans X x1; clear x1
    refine ops_nil ?_
    refine c_true rfl ?_
    refine c_seqR ?_
    refine ops_cons rfl (ow_assign rfl ?_)
    refine ops_nil ?_
    refine c_ret ?_
    refine tq_r ?_
    refine fin_ret1 rfl rfl ?_
    first
    | exact ⟨rfl, X⟩
    | exact ⟨congrArg Value.bool (decide_eq_true hsum), X⟩
  · skip
    replace hs := hs.ext x1
    replace X := Ext.trans X x1; clear x1
    have hb2 := of_decide_eq_false hbig
    have hbl : bs.length ≤ 1048576 := by omega
    refine ops_nil ?_
    refine c_false rfl ?_
    refine c_skip ?_
    refine tq_n ?_
    refine c_seqR ?_
    refine ops_cons rfl (ow_move rfl ?_)
    refine ops_cons rfl (ow_call ent57 rfl (ret_mono (drawPT_c _ _ _ bs _ hs hbl) ?_))
    rintro _ wD ⟨AD, cD, ds, rounds, slots, AB, cB, bks, rfl, hdl, hbl2, sD, sB, xD⟩
    replace hs := hs.ext xD
    replace X := Ext.trans X xD; clear xD
    refine ops_cons rfl (ow_move rfl ?_)
    refine ops_cons rfl (ow_extract rfl rfl ?_)
    refine ops_cons rfl (ow_extract rfl rfl ?_)
    refine ops_cons rfl (ow_extract rfl rfl ?_)
    refine ops_cons rfl (ow_extract rfl rfl ?_)
    refine ops_cons rfl (ow_assign rfl ?_)
    refine ops_cons rfl (ow_assign rfl ?_)
    refine ops_cons rfl (ow_assign rfl ?_)
    refine ops_cons rfl (ow_assign rfl ?_)
    refine ops_nil ?_
    refine c_seqR ?_
    refine ops_cons rfl (ow_move rfl ?_)
    refine ops_cons rfl (ow_move rfl ?_)
    refine ops_cons rfl (ow_move rfl ?_)
    refine ops_cons rfl (ow_move rfl ?_)
    refine ops_cons rfl (ow_call ent58 rfl (ret_mono (iPT_c _ _ _ ds rounds slots _ _ _ bks _ sD (by omega) sB hbl2) ?_))
    rintro _ w4 ⟨AI, cI, yI, rfl, emI, hdI, oI, oIn, x3⟩
    replace oI := Own.low oI X.size
    replace oIn := NOwn.low oIn X.size
    replace hs := hs.ext x3
    replace sD := sD.ext x3
    replace sB := sB.ext x3
    replace X := Ext.trans X x3; clear x3
    refine ops_cons rfl (ow_move rfl ?_)
    refine ops_cons rfl (ow_extract rfl rfl ?_)
    refine ops_cons rfl (ow_extract rfl rfl ?_)
    refine ops_cons rfl (ow_assign rfl ?_)
    refine ops_cons rfl (ow_assign rfl ?_)
    refine ops_nil ?_
    refine c_seqR ?_
    refine ops_cons rfl (ow_move rfl ?_)
    refine ops_cons rfl (ow_move rfl ?_)
    refine ops_cons rfl (ow_move rfl ?_)
    refine ops_cons rfl (ow_move rfl ?_)
    refine ops_cons rfl (ow_call ent59 rfl (ret_mono (sPT_c _ _ _ ds rounds slots _ _ _ bks _ sD (by omega) sB hbl2) ?_))
    rintro _ w6 ⟨AS, cS, yS, rfl, emS, hdS, oS, oSn, x5⟩
    replace oS := Own.low oS X.size
    replace oSn := NOwn.low oSn X.size
    replace hs := hs.ext x5
    replace sD := sD.ext x5
    replace sB := sB.ext x5
    replace oI := oI.ext x5
    replace oIn := oIn.ext x5
    replace X := Ext.trans X x5; clear x5
    have hl : ds.length ≤ 1048576 := by omega
    have hzI := tabF_small emI
    have hzS := tabF_small emS
    have hlen : yI.length = yS.length := by rw [← tblOf_len, emI, ← emS, tblOf_len]
    refine ops_cons rfl (ow_move rfl ?_)
    refine ops_cons rfl (ow_extract rfl rfl ?_)
    refine ops_cons rfl (ow_extract rfl rfl ?_)
    refine ops_cons rfl (ow_assign rfl ?_)
    refine ops_cons rfl (ow_assign rfl ?_)
    refine ops_nil ?_
    refine c_seq ?_
    refine c_seqR ?_
    refine ops_cons rfl (ow_move rfl ?_)
    refine ops_cons rfl (ow_move rfl ?_)
    refine ops_cons rfl (ow_neq2 rfl rfl (fun h7 => absurd h7 (by simp)) (fun h7 => ?_))
    refine ops_cons rfl (ow_move rfl ?_)
    refine ops_want rfl rfl rfl (ow_move rfl ?_)
    refine ops_want rfl rfl rfl (ow_len Try.underlying74 rfl ?_)
    refine ops_want rfl rfl rfl (ow_move rfl ?_)
    refine ops_want rfl rfl rfl (ow_len Try.underlying74 rfl ?_)
    refine ops_want rfl rfl rfl (ow_neq2 rfl rfl (fun h8 => absurd h8 (by rw [hlen]; simp)) (fun h8 => ?_))
    refine ops_cons rfl (ow_pick rfl rfl ?_)
    refine ops_cons rfl (ow_move rfl ?_)
    refine ops_want rfl rfl rfl (ow_move rfl ?_)
    refine ops_want rfl rfl rfl (ow_move rfl ?_)
    refine ops_want rfl rfl rfl (ow_move rfl ?_)
    refine ops_want rfl rfl rfl (ow_move rfl ?_)
    refine ops_want rfl rfl rfl (ow_call ent37 rfl (ret_mono (iAP_c _ _ _ ds rounds slots _ _ _ bks _ sD (by omega) sB hbl2) ?_))
    rintro _ w10 ⟨rfl, x9⟩
    replace hs := hs.ext x9
    replace sD := sD.ext x9
    replace sB := sB.ext x9
    replace oI := oI.ext x9
    replace oIn := oIn.ext x9
    replace oS := oS.ext x9
    replace oSn := oSn.ext x9
    replace X := Ext.trans X x9; clear x9
    refine ops_want rfl rfl rfl (ow_move rfl ?_)
    refine ops_want rfl rfl rfl (ow_move rfl ?_)
    refine ops_want rfl rfl rfl (ow_move rfl ?_)
    refine ops_want rfl rfl rfl (ow_move rfl ?_)
    refine ops_want rfl rfl rfl (ow_call ent35 rfl (ret_mono (sAP_c _ _ _ ds rounds slots _ _ _ bks _ sD (by omega) sB hbl2) ?_))
    rintro _ w12 ⟨rfl, x11⟩
    replace hs := hs.ext x11
    replace sD := sD.ext x11
    replace sB := sB.ext x11
    replace oI := oI.ext x11
    replace oIn := oIn.ext x11
    replace oS := oS.ext x11
    replace oSn := oSn.ext x11
    replace X := Ext.trans X x11; clear x11
    refine ops_want rfl rfl rfl (ow_neqBd2 Try.underlying4 rfl rfl (fun h13 => absurd h13 (by simp)) (fun h13 => ?_))
    refine ops_cons rfl (ow_pick rfl rfl ?_)
    refine ops_cons rfl (ow_move rfl ?_)
    refine ops_want rfl rfl rfl (ow_move rfl ?_)
    refine ops_want rfl rfl rfl (ow_call ent60 rfl (ret_mono (iAreD_c _ _ _ _ _ sD hl) ?_))
    rintro _ w15 ⟨rfl, x14⟩
    replace hs := hs.ext x14
    replace sD := sD.ext x14
    replace sB := sB.ext x14
    replace oI := oI.ext x14
    replace oIn := oIn.ext x14
    replace oS := oS.ext x14
    replace oSn := oSn.ext x14
    replace X := Ext.trans X x14; clear x14
    refine ops_want rfl rfl rfl (ow_move rfl ?_)
    refine ops_want rfl rfl rfl (ow_call ent61 rfl (ret_mono (sAreD_c _ _ _ _ _ sD hl) ?_))
    rintro _ w17 ⟨rfl, x16⟩
    replace hs := hs.ext x16
    replace sD := sD.ext x16
    replace sB := sB.ext x16
    replace oI := oI.ext x16
    replace oIn := oIn.ext x16
    replace oS := oS.ext x16
    replace oSn := oSn.ext x16
    replace X := Ext.trans X x16; clear x16
    refine ops_want rfl rfl rfl (ow_neqBd2 Try.underlying4 rfl rfl (fun h18 => absurd h18 (by simp)) (fun h18 => ?_))
    refine ops_cons rfl (ow_pick rfl rfl ?_)
    refine ops_nil ?_
    refine c_false rfl ?_
    refine c_skip ?_
    refine tq_n ?_
    refine c_seqR ?_
    obtain ⟨BM, hBM, hD2, hB2, sI, nI, sS, nS⟩ : ∃ BM, w.heap.size ≤ BM ∧ Sl BM _ AD (ds.flatMap Dem.cells) ∧ Sl BM _ AB (bks.flatMap Bk.cells) ∧ Sl BM _ AI (yI.flatMap rowC) ∧ Nexts BM _ yI ∧ Sl BM _ AS (yS.flatMap rowC) ∧ Nexts BM _ yS := ⟨_, X.size, Sl.up2 sD, Sl.up2 sB, oI.sl, oIn.nexts, oS.sl, oSn.nexts⟩
    clear sD sB oI oIn oS oSn
    have sD := hD2; have sB := hB2; clear hD2 hB2
    refine ops_cons rfl (ow_move rfl ?_)
    refine ops_cons rfl (ow_len Try.underlying36 rfl ?_)
    refine ops_cons rfl (ow_add rfl rfl (show IntKind.i64.wrap _ = ((ds.length + 1 : Nat) : Int) by rw [w64 (by omega)]; omega) ?_)
    have pM := sI.1
    refine ops_cons rfl (ow_make el24 ti2 rfl rfl rfl rfl rfl rfl (by omega) (by omega) ?_)
    intro gC w20 egC oC x19
    replace oC := Own.low oC X.size
    replace sD := sD.ext x19
    replace sB := sB.ext x19
    replace sI := sI.ext x19
    replace nI := nI.ext x19
    replace sS := sS.ext x19
    replace nS := nS.ext x19
    replace X := Ext.trans X x19; clear x19
    replace oC := oC.to (cs' := (List.replicate (ds.length + 1) (0 : Int)).flatMap eI) (by rw [← repL_flat]; rfl)
    have hCB : ∀ g, (Value.slice (some ⟨gC, 0, none⟩) (ds.length + 1) (ds.length + 1)).ownBlock = some g → BM ≤ g := fun g h => by have h2 : gC = g := (by injection h); omega
    refine ops_cons rfl (ow_assign rfl ?_)
    refine ops_nil ?_
    refine c_seq ?_
    refine c_seqR ?_
    have hVT := tabF_vals ds rounds slots bks
    refine ops_cons rfl (ow_assign rfl ?_)
    refine ops_nil ?_
    refine c_block ?_
    refine c_loop (G := Nat × List Int) (fun ⟨r, C⟩ => [(3, .slice AD ds.length cD), (4, .int .i64 rounds), (5, .int .i64 slots), (7, .slice AI yI.length cI), (8, .int .i64 (tabF ds rounds slots bks).2), (9, .slice AS yS.length cS), (11, .slice (some ⟨gC, 0, none⟩) (ds.length + 1) (ds.length + 1)), (12, .int .i64 (r : Nat))]) (fun ⟨r, C⟩ wr => r ≤ yI.length ∧ bumpT ((tabF ds rounds slots bks).1.drop r) C = bumpT (tabF ds rounds slots bks).1 (List.replicate (ds.length + 1) (0 : Int)) ∧ C.length = ds.length + 1 ∧ (∀ x ∈ C, 0 ≤ x ∧ x ≤ 16 * (r : Int)) ∧ Own wr w.heap.size 2 1 (some ⟨gC, 0, none⟩) (ds.length + 1) (ds.length + 1) (C.flatMap eI) ∧ Sl BM wr AD (ds.flatMap Dem.cells) ∧ Sl BM wr AB (bks.flatMap Bk.cells) ∧ Sl BM wr AI (yI.flatMap rowC) ∧ Nexts BM wr yI ∧ Sl BM wr AS (yS.flatMap rowC) ∧ Nexts BM wr yS ∧ Ext w wr) (fun ⟨r, C⟩ => yI.length - r) (0, (List.replicate (ds.length + 1) (0 : Int))) (.cons rfl (.cons rfl (.cons rfl (.cons rfl (.cons rfl (.cons rfl (.cons rfl (.cons rfl (.nil _))))))))) ?_ ?_
    · exact ⟨by omega, rfl, (List.length_replicate ..), (fun x hx => by rw [List.eq_of_mem_replicate hx]; omega), oC, sD, sB, sI, nI, sS, nS, X⟩
    clear sD sB sI nI sS nS oC
    clear X
    rintro ⟨r, C⟩ wr ⟨hr0, hC, hCl, hCb, oC, sD, sB, sI, nI, sS, nS, X⟩
    refine c_seq ?_
    refine c_seqR ?_
    refine ops_cons rfl (ow_move rfl ?_)
    refine ops_cons rfl (ow_move rfl ?_)
    refine ops_cons rfl (ow_len Try.underlying74 rfl ?_)
    refine ops_cons rfl (ow_lss2 rfl rfl (fun hk => ?_) (fun hk => ?_))
    · skip
      obtain ⟨x, hx⟩ : ∃ x, yI[r]? = some x := ⟨_, List.getElem?_eq_getElem (by omega)⟩
      obtain ⟨y, hy⟩ : ∃ y, yS[r]? = some y := ⟨_, List.getElem?_eq_getElem (by omega)⟩
      have exy : x.m.next = y.m.next := by rw [← tblOf_at hx, emI, ← emS, tblOf_at hy]
      have hxl := hzI.2 x (List.mem_of_getElem? hx)
      have hyl := hzS.2 y (List.mem_of_getElem? hy)
      have hdT := tblOf_drop hy
      rw [emS] at hdT
      have hVy : ∀ v ∈ y.m.next, -1 ≤ v ∧ v < ds.length := hVT _ (by rw [← emS]; exact List.mem_map_of_mem (List.mem_of_getElem? hy))
      have hny := nS.at_ hy
      refine ops_nil ?_
      refine c_true rfl ?_
      refine c_skip ?_
      refine tq_n ?_
      refine c_seq ?_
      refine c_block ?_
      refine c_seq ?_
      refine c_seqD [false, false, false, false, false, false, false, false, false, false] mixed (by kernel_rfl) ?_
      refine f_q rfl (fun wq sq => ow_move rfl ⟨rfl, Ext.refl _⟩) ?_
      refine f_q rfl (fun wq sq => ow_move rfl ⟨rfl, Ext.refl _⟩) ?_
      refine f_q rfl (fun wq sq => ow_indexT (sI.ext sq) rowC_len rfl el74 rfl rfl rfl hx rfl ⟨rfl, Ext.refl _⟩) ?_
      refine f_q rfl (fun wq sq => ow_loadT (sI.ext sq) rowC_len hx ti24 rfl rfl rfl ⟨rfl, Ext.refl _⟩) ?_
      refine f_q rfl (fun wq sq => ow_move rfl ⟨rfl, Ext.refl _⟩) ?_
      refine f_q rfl (fun wq sq => ow_move rfl ⟨rfl, Ext.refl _⟩) ?_
      refine f_q rfl (fun wq sq => ow_indexT (sS.ext sq) rowC_len rfl el74 rfl rfl rfl hy rfl ⟨rfl, Ext.refl _⟩) ?_
      refine f_q rfl (fun wq sq => ow_loadT (sS.ext sq) rowC_len hy ti24 rfl rfl rfl ⟨rfl, Ext.refl _⟩) ?_
      refine f_q rfl (fun wq sq => ow_call ent22 rfl (likeInts_n x.A y.A _ _ x.c y.c _ _ x.m.next _ ((nI.at_ hx).ext sq) (by rw [exy]; exact (nS.at_ hy).ext sq) (by omega) rfl (by rw [exy]))) ?_
      refine f_q rfl (fun wq sq => ow_not rfl ⟨rfl, Ext.refl _⟩) ?_
      refine f_nil (fun w21 sq => ?_)
      have xq := sq
      replace oC := oC.ext xq
      replace sD := sD.ext xq
      replace sB := sB.ext xq
      replace sI := sI.ext xq
      replace nI := nI.ext xq
      replace sS := sS.ext xq
      replace nS := nS.ext xq
      replace hny := hny.ext xq
      replace X := Ext.trans X xq; clear xq sq
      refine ops_nil ?_
      refine c_false rfl ?_
      refine c_skip ?_
      refine tq_n ?_
      refine c_seqR ?_
      refine ops_cons rfl (ow_assign rfl ?_)
      refine ops_nil ?_
      refine c_block ?_
      refine c_loop (G := Nat × List Int) (fun ⟨k, D⟩ => [(74, .int .i64 (r : Nat)), (75, .slice AI yI.length cI), (76, .int .i64 (yI.length : Nat)), (80, .slice AI yI.length cI), (81, .int .i64 (r : Nat)), (84, .slice AS yS.length cS), (85, .int .i64 (r : Nat)), (3, .slice AD ds.length cD), (4, .int .i64 rounds), (5, .int .i64 slots), (7, .slice AI yI.length cI), (8, .int .i64 (tabF ds rounds slots bks).2), (9, .slice AS yS.length cS), (11, .slice (some ⟨gC, 0, none⟩) (ds.length + 1) (ds.length + 1)), (12, .int .i64 (r : Nat)), (13, .int .i64 (k : Nat))]) (fun ⟨k, D⟩ wr => k ≤ y.m.next.length ∧ bumps (y.m.next.drop k) D = bumps y.m.next C ∧ D.length = ds.length + 1 ∧ (∀ x ∈ D, 0 ≤ x ∧ x ≤ 16 * (r : Int) + k) ∧ Own wr w.heap.size 2 1 (some ⟨gC, 0, none⟩) (ds.length + 1) (ds.length + 1) (D.flatMap eI) ∧ Sl BM wr AD (ds.flatMap Dem.cells) ∧ Sl BM wr AB (bks.flatMap Bk.cells) ∧ Sl BM wr AI (yI.flatMap rowC) ∧ Nexts BM wr yI ∧ Sl BM wr AS (yS.flatMap rowC) ∧ Nexts BM wr yS ∧ Sl BM wr y.A (y.m.next.flatMap eI) ∧ Ext w wr) (fun ⟨k, D⟩ => y.m.next.length - k) (0, C) (.cons rfl (.cons rfl (.cons rfl (.cons rfl (.cons rfl (.cons rfl (.cons rfl (.cons rfl (.cons rfl (.cons rfl (.cons rfl (.cons rfl (.cons rfl (.cons rfl (.cons rfl (.cons rfl (.nil _))))))))))))))))) ?_ ?_
      · exact ⟨by omega, rfl, hCl, (fun x hx => by have := hCb x hx; omega), oC, sD, sB, sI, nI, sS, nS, hny, X⟩
      clear oC sD sB sI nI sS nS hny
      clear X
      rintro ⟨k, D⟩ wr ⟨hk0, hD, hDl, hDb, oC, sD, sB, sI, nI, sS, nS, hny, X⟩
      refine c_seq ?_
      refine c_seqR ?_
      refine ops_cons rfl (ow_move rfl ?_)
      refine ops_cons rfl (ow_move rfl ?_)
      refine ops_cons rfl (ow_move rfl ?_)
      refine ops_cons rfl (ow_indexT sS rowC_len rfl el74 rfl rfl rfl hy rfl ?_)
      refine ops_cons rfl (ow_loadT sS rowC_len hy ti24 rfl rfl rfl ?_)
      refine ops_cons rfl (ow_len Try.underlying24 rfl ?_)
      refine ops_cons rfl (ow_lss2 rfl rfl (fun hkk => ?_) (fun hkk => ?_))
      · skip
        obtain ⟨z, hzk, dz⟩ := drop_at' hkk
        have hzb := hVy z (List.mem_of_getElem? hzk)
        obtain ⟨u, hu⟩ : ∃ u, D[(z + 1).toNat]? = some u := ⟨_, List.getElem?_eq_getElem (by omega)⟩
        have hub := hDb u (List.mem_of_getElem? hu)
        have hbi := bump_in (v := z) hDb (by omega)
        refine ops_nil ?_
        refine c_true rfl ?_
        refine c_skip ?_
        refine tq_n ?_
        refine c_seq ?_
        refine c_block ?_
        refine c_region ?_
        refine ops_cons rfl (ow_move rfl ?_)
        refine ops_cons rfl (ow_move rfl ?_)
        refine ops_cons rfl (ow_move rfl ?_)
        refine ops_cons rfl (ow_indexT sS rowC_len rfl el74 rfl rfl rfl hy rfl ?_)
        refine ops_cons rfl (ow_loadT sS rowC_len hy ti24 rfl rfl rfl ?_)
        refine ops_cons rfl (ow_move rfl ?_)
        refine ops_cons rfl (ow_indexT hny eI_len rfl el24 rfl rfl rfl hzk rfl ?_)
        refine ops_cons rfl (ow_loadT hny eI_len hzk ti2 rfl rfl rfl ?_)
        refine ops_cons rfl (ow_add rfl rfl (w64 (by omega)) ?_)
        refine ops_cons rfl (ow_indexT (oC).sl eI_len rfl el24 rfl hDl.symm rfl hu (by omega) ?_)
        refine ops_cons rfl (ow_loadT (oC).sl eI_len hu ti2 rfl rfl rfl ?_)
        refine ops_cons rfl (ow_add rfl rfl (w64 (by omega)) ?_)
        refine ops_cons rfl (ow_indexT (oC).sl eI_len rfl el24 rfl hDl.symm rfl hu (by omega) ?_)
        refine ops_cons rfl (ow_storeR oC ti2 rfl rfl rfl rfl (by omega) (by omega) rfl ?_)
        intro w23 oN hg22 z24
        replace sD := sD.grown hg22 hCB
        replace sB := sB.grown hg22 hCB
        replace sI := sI.grown hg22 hCB
        replace nI := nI.grown hg22 hCB
        replace sS := sS.grown hg22 hCB
        replace nS := nS.grown hg22 hCB
        replace hny := hny.grown hg22 hCB
        replace X := X.grown hg22 X.size (fun g hg => (Own.lt oC hg).1)
        clear hg22 z24
        replace oN := oN.to (cs' := (bump D z).flatMap eI) (by
          have e1 := set_field (x := u) (x' := u + 1) (vs := [.int .i64 (u + 1)]) eI_len (s' := 1) (f := 0) rfl (by omega) D (z + 1).toNat hu
          unfold bump
          rw [List.getD_eq_getElem?_getD, hu]; exact e1)
        refine ops_nil ?_
        refine bq_n ?_
        refine tq_n ?_
        refine c_region ?_
        refine ops_cons rfl (ow_move rfl ?_)
        refine ops_cons rfl (ow_add rfl rfl (w64 (by omega)) ?_)
        refine ops_cons rfl (ow_assign rfl ?_)
        refine ops_nil ?_
        refine tq_n ⟨(k + 1, bump D z), (.cons rfl (.cons rfl (.cons rfl (.cons rfl (.cons rfl (.cons rfl (.cons rfl (.cons rfl (.cons rfl (.cons rfl (.cons rfl (.cons rfl (.cons rfl (.cons rfl (.cons rfl (.cons rfl (.nil _))))))))))))))))), ?_, ?_⟩
        · exact ⟨by omega, (by rw [← hD, dz, bumps]), (by rw [bump_len]; exact hDl), (fun x hx => by have := hbi x hx; omega), oN, sD, sB, sI, nI, sS, nS, hny, X⟩
        · first | omega | (dsimp only; omega)
      · skip
        refine ops_nil ?_
        refine c_false rfl ?_
        refine c_exit ?_
        refine tq_e ?_
        refine tq_e ?_
        refine bq_e ?_
        refine bq_n ?_
        refine tq_n ?_
        refine c_region ?_
        refine ops_cons rfl (ow_move rfl ?_)
        refine ops_cons rfl (ow_add rfl rfl (w64 (by omega)) ?_)
        refine ops_cons rfl (ow_assign rfl ?_)
        refine ops_nil ?_
        refine tq_n ⟨(r + 1, D), (.cons rfl (.cons rfl (.cons rfl (.cons rfl (.cons rfl (.cons rfl (.cons rfl (.cons rfl (.nil _))))))))), ?_, ?_⟩
        · exact ⟨by omega, (by rw [← hC, hdT, bumpT, ← hD, drop_end hkk, bumps]), hDl, (fun x hx => by have := hDb x hx; omega), oC, sD, sB, sI, nI, sS, nS, X⟩
        · first | omega | (dsimp only; omega)
    · skip
      have hCe : C = bumpT (tabF ds rounds slots bks).1 (List.replicate (ds.length + 1) (0 : Int)) := by
        have e : (tabF ds rounds slots bks).1.length = yS.length := by rw [← emS, tblOf_len]
        rw [List.drop_eq_nil_of_le (by rw [e]; omega)] at hC
        exact hC
      refine ops_nil ?_
      refine c_false rfl ?_
      refine c_exit ?_
      refine tq_e ?_
      refine tq_e ?_
      refine bq_e ?_
      refine tq_n ?_
      refine c_seq ?_
      refine c_seqR ?_
      refine ops_cons rfl (ow_move rfl ?_)
      refine ops_cons rfl (ow_neq2 rfl rfl (fun hc => ?_) (fun hc => ?_))
      · skip
        refine ops_nil ?_
        refine c_true rfl ?_
        refine c_seqR ?_
        refine ops_cons rfl (ow_assign rfl ?_)
        refine ops_nil ?_
        refine c_ret ?_
        refine tq_r ?_
        refine fin_ret1 rfl rfl ?_
        first
        | exact ⟨rfl, X⟩
        | exact ⟨congrArg Value.bool (decide_eq_true hsum), X⟩
      · skip
        obtain ⟨hr8, hs16, hTb, hcn⟩ := tabF_cnt hc
        have hCl2 : C.length = ds.length + 1 := hCl
        have hVz : Vals (((List.replicate (ds.length + 1) (0 : Int)).length : Int) - 1) (tabF ds rounds slots bks).1 := by rw [List.length_replicate]; intro l hl x hx; have := hVT l hl x hx; omega
        refine ops_nil ?_
        refine c_false rfl ?_
        refine c_skip ?_
        refine tq_n ?_
        refine c_seq ?_
        refine c_seqR ?_
        refine ops_cons rfl (ow_assign rfl ?_)
        refine ops_nil ?_
        refine c_block ?_
        refine c_loop (G := Nat) (fun i => [(3, .slice AD ds.length cD), (4, .int .i64 rounds), (5, .int .i64 slots), (7, .slice AI yI.length cI), (8, .int .i64 (tabF ds rounds slots bks).2), (9, .slice AS yS.length cS), (11, .slice (some ⟨gC, 0, none⟩) (ds.length + 1) (ds.length + 1)), (14, .int .i64 (i : Nat))]) (fun i wr => i ≤ ds.length ∧ Own wr w.heap.size 2 1 (some ⟨gC, 0, none⟩) (ds.length + 1) (ds.length + 1) (C.flatMap eI) ∧ Sl BM wr AD (ds.flatMap Dem.cells) ∧ Sl BM wr AB (bks.flatMap Bk.cells) ∧ Sl BM wr AI (yI.flatMap rowC) ∧ Nexts BM wr yI ∧ Sl BM wr AS (yS.flatMap rowC) ∧ Nexts BM wr yS ∧ Ext w wr) (fun i => ds.length - i) 0 (.cons rfl (.cons rfl (.cons rfl (.cons rfl (.cons rfl (.cons rfl (.cons rfl (.cons rfl (.nil _))))))))) ?_ ?_
        · exact ⟨by omega, oC, sD, sB, sI, nI, sS, nS, X⟩
        clear oC sD sB sI nI sS nS
        clear X
        rintro i wr ⟨hi0, oC, sD, sB, sI, nI, sS, nS, X⟩
        refine c_seq ?_
        refine c_seqR ?_
        refine ops_cons rfl (ow_move rfl ?_)
        refine ops_cons rfl (ow_move rfl ?_)
        refine ops_cons rfl (ow_len Try.underlying36 rfl ?_)
        refine ops_cons rfl (ow_lss2 rfl rfl (fun hi => ?_) (fun hi => ?_))
        · skip
          obtain ⟨d, hd⟩ : ∃ d, ds[i]? = some d := ⟨_, List.getElem?_eq_getElem (by omega)⟩
          obtain ⟨he1, hcd⟩ := hcn i d hd
          obtain ⟨u, hu⟩ : ∃ u, C[i + 1]? = some u := ⟨_, List.getElem?_eq_getElem (by omega)⟩
          have huq : u = rounds / d.every := by
            have h1 := bumpT_at (j := i + 1) (tabF ds rounds slots bks).1 (List.replicate (ds.length + 1) (0 : Int)) hVz (by rw [List.length_replicate]; omega)
            rw [← hCe, getD_atI hu, show (((i + 1 : Nat) : Int) - 1) = (i : Int) by omega, hcd] at h1
            rw [h1, List.getD_eq_getElem?_getD, List.getElem?_replicate_of_lt (by omega)]; simp
          refine ops_nil ?_
          refine c_true rfl ?_
          refine c_skip ?_
          refine tq_n ?_
          refine c_seq ?_
          refine c_block ?_
          refine c_seqD [false, false, false, false, false, false, false, false, false, false, false, false, false] mixed (by kernel_rfl) ?_
          refine f_q rfl (fun wq sq => ow_move rfl ⟨rfl, Ext.refl _⟩) ?_
          refine f_q rfl (fun wq sq => ow_move rfl ⟨rfl, Ext.refl _⟩) ?_
          refine f_q rfl (fun wq sq => ow_add rfl rfl (w64 (by omega)) ⟨rfl, Ext.refl _⟩) ?_
          refine f_q rfl (fun wq sq => ow_indexT ((oC.ext sq)).sl eI_len rfl el24 rfl hCl2.symm rfl hu (by omega) ⟨rfl, Ext.refl _⟩) ?_
          refine f_q rfl (fun wq sq => ow_loadT ((oC.ext sq)).sl eI_len hu ti2 rfl rfl rfl ⟨rfl, Ext.refl _⟩) ?_
          refine f_q rfl (fun wq sq => ow_move rfl ⟨rfl, Ext.refl _⟩) ?_
          refine f_q rfl (fun wq sq => ow_move rfl ⟨rfl, Ext.refl _⟩) ?_
          refine f_q rfl (fun wq sq => ow_move rfl ⟨rfl, Ext.refl _⟩) ?_
          refine f_q rfl (fun wq sq => ow_indexT (sD.ext sq) Dem.len rfl el36 rfl rfl rfl hd rfl ⟨rfl, Ext.refl _⟩) ?_
          refine f_q rfl (fun wq sq => ow_fieldAddr off79_1 rfl ⟨rfl, Ext.refl _⟩) ?_
          refine f_q rfl (fun wq sq => ow_loadTF (sD.ext sq) Dem.len hd ti2 rfl rfl rfl ⟨rfl, Ext.refl _⟩) ?_
          refine f_q rfl (fun wq sq => ow_quo rfl rfl (by omega) (q64 (by omega)) ⟨rfl, Ext.refl _⟩) ?_
          refine f_qb rfl (fun wq sq => ow_neq rfl rfl ⟨rfl, Ext.refl _⟩) (fun h25 => absurd h25 (by exact fun h => h huq)) (fun h25 => ?_)
          refine f_nil (fun w26 sq => ?_)
          have xq := sq
          replace oC := oC.ext xq
          replace sD := sD.ext xq
          replace sB := sB.ext xq
          replace sI := sI.ext xq
          replace nI := nI.ext xq
          replace sS := sS.ext xq
          replace nS := nS.ext xq
          replace X := Ext.trans X xq; clear xq sq
          refine ops_nil ?_
          refine c_false rfl ?_
          refine c_skip ?_
          refine bq_n ?_
          refine tq_n ?_
          refine c_region ?_
          refine ops_cons rfl (ow_move rfl ?_)
          refine ops_cons rfl (ow_add rfl rfl (w64 (by omega)) ?_)
          refine ops_cons rfl (ow_assign rfl ?_)
          refine ops_nil ?_
          refine tq_n ⟨i + 1, (.cons rfl (.cons rfl (.cons rfl (.cons rfl (.cons rfl (.cons rfl (.cons rfl (.cons rfl (.nil _))))))))), ?_, ?_⟩
          · exact ⟨by omega, oC, sD, sB, sI, nI, sS, nS, X⟩
          · first | omega | (dsimp only; omega)
        · skip
          have hsum : sumI C = rounds * slots := by
            rw [hCe, bumpT_sum (S := slots.toNat) (tabF ds rounds slots bks).1 (List.replicate (ds.length + 1) (0 : Int)) hVz hTb.2, sumI_rep, hTb.1, Int.zero_add, Int.natCast_mul, Int.toNat_of_nonneg (by omega), Int.toNat_of_nonneg (by omega)]
          have hmul : 1 ≤ rounds * slots ∧ rounds * slots ≤ 128 := ⟨by have := Int.mul_le_mul hr8.1 hs16.1 (by omega) (by omega); omega, by have := Int.mul_le_mul hr8.2 hs16.2 (by omega) (by omega); omega⟩
          refine ops_nil ?_
          refine c_false rfl ?_
          refine c_exit ?_
          refine tq_e ?_
          refine tq_e ?_
          refine bq_e ?_
          refine tq_n ?_
          refine c_seqR ?_
          refine ops_cons rfl (ow_move rfl ?_)
          refine ops_cons rfl (ow_call ent62 rfl (ret_mono (sum_n _ _ _ _ C _ oC.sl (by omega) (fun x hx => by have := hCb x hx; omega) hCl2) ?_))
          rintro _ w28 ⟨rfl, x27⟩
          replace oC := oC.ext x27
          replace sD := sD.ext x27
          replace sB := sB.ext x27
          replace sI := sI.ext x27
          replace nI := nI.ext x27
          replace sS := sS.ext x27
          replace nS := nS.ext x27
          replace X := Ext.trans X x27; clear x27
          refine ops_cons rfl (ow_move rfl ?_)
          refine ops_cons rfl (ow_move rfl ?_)
          refine ops_cons rfl (ow_mul rfl rfl (w64 (by omega)) ?_)
          refine ops_cons rfl (ow_eql rfl rfl ?_)
          refine ops_cons rfl (ow_assign rfl ?_)
          refine ops_nil ?_
          refine c_ret ?_
          refine fin_ret1 rfl rfl ?_
          first
          | exact ⟨rfl, X⟩
          | exact ⟨congrArg Value.bool (decide_eq_true hsum), X⟩
set_option maxRecDepth 100000

theorem fnPlanTables_lifted (os : Os) (started : os.Started) (H : Type) (enc : TypeId × Value → H) :
    ReturnsInHanded {} Try.checked os 12 .any (Rows.fnPlanTablesSpec.pre6 enc Try.prog Try.f12 Rows.fnPlanTablesRow.domain false) (Rows.fnPlanTablesSpec.post enc Try.prog Try.f12 false true false false) := by
  refine returnsInHanded_of_change (C := Try.checked) law_own started (by kernel_rfl) Try.func12
    (ChangeSpec.witness6 (enc := enc) (C := Try.checked) false ⟨#[], #[.slice none 0 0], []⟩ 8 (by kernel_rfl) (by kernel_rfl) (by kernel_rfl) (by kernel_rfl)) ?_
  intro W base args ds gs before hval0 hW hcnd _
  have hval : ∀ (j : Nat) t v, Try.f12.params[j]? = some t → args[j]? = some v → Value.okWide Try.prog W .any base t v := hval0
  have hW' := hW
  obtain ⟨p, q, hA0, hV, rfl, hfz, hnd⟩ := hW
  have hA : DataW.TrodAll enc Try.prog W 0 (fun _ => true) true Try.f12.params.toList args.toList ds p := hA0
  rw [Try.params12] at hA hval
  obtain ⟨rfl, rfl⟩ := trodVars_none hV
  obtain ⟨v0, vs0, d0, ds0, p0, q0, hargs, rfl, rfl, h0, r0⟩ := trodAll_cons hA
  obtain ⟨rfl, rfl, rfl⟩ := trodAll_nil r0
  obtain rfl : args = #[v0] := by cases args; simp_all
  obtain ⟨a0, l0, k0, rfl⟩ := okWide_slice Try.underlying22 (hval 0 22 v0 rfl rfl)
  obtain ⟨m0, x0, t0⟩ := cell_of rfl h0
  obtain ⟨Abs, bs, cbs, ebs, sbs, wbs, lbs⟩ := open_sl (s := 1) Try.underlying22 (by kernel_rfl) eB_len (by omega) (fun _ _ _ h => open_u8 Try.underlying5 h) t0
  rw [ebs]
  refine Calls.mono (law_FnPlanTables _ _ _ bs W sbs lbs) fun e W' h => ?_
  cases e <;> first | exact h.elim | skip
  obtain ⟨rfl, hb⟩ := h
  exact ⟨_, rfl, law_post law_laid (by kernel_rfl) rfl rfl Try.underlying4 (by rw [← ebs]; exact hW') rfl hb⟩

theorem fnPlanTables_holds : Rows.FnPlanTablesSaid :=
  OpenClaim.holds_of_wide 12 Try.f12 rfl rfl rfl rfl rfl rfl rfl ⟨rfl, rfl, rfl, rfl, rfl⟩ rfl rfl rfl rfl rfl (by kernel_rfl) Try.func12 (by kernel_rfl)
    (of_decide_eq_true (by kernel_rfl)) (by unfold Func.isWrapper; rw [if_neg (of_decide_eq_false (by kernel_rfl))]; exact ⟨rfl, rfl⟩)
    (fun os started H enc _ => fnPlanTables_lifted os started H enc)
end Go.Proofs.Ytimabffnoanciaa
