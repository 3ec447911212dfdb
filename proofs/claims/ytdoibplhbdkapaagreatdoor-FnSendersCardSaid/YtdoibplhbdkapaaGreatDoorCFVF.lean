/- The law FnSenders answers true for all arguments that its row admits, and leaves what was there before as it was. No condition. -/
import Derived.Test.YtdoibplhbdkapaaGreatDoorCFP12
import Derived.Test.YtdoibplhbdkapaaGreatDoorCFP18
import Derived.Test.YtdoibplhbdkapaaGreatDoorCFP19
import Derived.Test.YtdoibplhbdkapaaGreatDoorCFP8
import Derived.Test.YtdoibplhbdkapaaGreatDoorCFP3
import Derived.Test.YtdoibplhbdkapaaGreatDoorTie
import Derived.Test.YtdoibplhbdkapaaGreatDoorCards
import Derived.Lay
import Derived.LaidOnce
import Derived.SevenTiedAt
/- The law FnSenders answers true for all arguments that its row admits, and leaves what was there before as it was. No condition. -/
namespace Go.Proofs.YtdoibplhbdkapaaGreatDoor
open Go.ChangeShapes Go.WideShapes Go.ChangeAt Go.RowKit
set_option linter.unusedVariables false
set_option linter.unusedSimpArgs false
set_option maxRecDepth 20000
theorem wid_back {m x : MedlI} {id : Int} (h : ¬ (withIdF m.d id).2 ≠ 0) (e : x.d = (withIdF m.d id).1) : withIdF x.d m.id = (m.d, 0) := by
  unfold withIdF at h e
  split at h
  · rename_i h1
    split at h
    · rename_i h2
      rw [if_pos h1, if_pos h2] at e
      have hW := isMedl_iff.1 h1
      have hW2 : WellF x.d := by rw [e]; exact ⟨h2, hW.nt, hW.mt, hW.st, hW.co, hW.se, hW.sd, hW.sh, hW.sv, hW.cd⟩
      rw [withIdF, if_pos (isMedl_iff.2 hW2), if_pos (show inB m.id 1 16777215 = true from hW.id), e]; rfl
    · exact absurd (show (2 : Int) ≠ 0 by decide) h
  · exact absurd (show (1 : Int) ≠ 0 by decide) h
theorem sender_act {m : MedlI} {a b c : Int} (h : ¬ (senderF m.d a b c).2 ≠ 0) : isNT m.ns = true ∧ hasN (actV m.ns) (senderF m.d a b c).1 = true ∧ 0 ≤ (senderF m.d a b c).1 ∧ (senderF m.d a b c).1 ≤ 31 := by
  unfold senderF at h ⊢
  split at h
  · rename_i h1
    split at h
    · exact absurd (show (4 : Int) ≠ 0 by decide) h
    · rename_i h2
      rw [if_pos h1, if_neg h2]
      have hW := isMedl_iff.1 h1
      obtain ⟨j, x, e1, e2, e3⟩ := find_get h2
      have e4 : descAt m.d.ss a b c = x.desc := by rw [descAt, e1, Int.toNat_natCast, e2]
      have hxm := List.mem_of_getElem? e2
      have h3 := List.all_eq_true.1 hW.se x hxm
      rw [e4]
      have h6 := isST_all hW.st x hxm
      simp only [slotOk, descOk, Bool.and_eq_true] at h6
      exact ⟨hW.nt, h3, inB_iff.1 h6.2.1.1.1.1⟩
  · exact absurd (show (1 : Int) ≠ 0 by decide) h
set_option maxHeartbeats 1000000 in
theorem law_FnSenders (A : Option Addr) (B c : Nat) (bs : List UInt8) (w : World) (hs : Sl B w A (bs.flatMap eB)) (hm0 : bs.length ≤ 9223372036854775807) :
    Calls Tryz.prog 6 #[.slice A bs.length c] w (Ret fun v w' => v = .bool true ∧ Ext w w') := by
  have Bhs := hs.1
  have X := Ext.refl w
  refine calls_of (args := [.slice A bs.length c]) Tryz.func6 Tryz.ntmps6 rfl rfl ?_
  refine c_seqR ?_
  refine ops_cons rfl (ow_assign rfl ?_)
  refine ops_nil ?_
  refine c_seq ?_
  refine c_seqR ?_
  refine ops_cons rfl (ow_move rfl ?_)
  refine ops_cons rfl (ow_callB ent11 rfl (big_c _ _ _ _) (fun w2 hbig x1 => ?_) (fun w2 hbig x1 => ?_))
  replace hs := hs.ext x1
  replace X := Ext.trans X x1; clear x1
  refine ops_nil ?_
  refine c_true rfl ?_
  refine c_seqR ?_
  refine ops_cons rfl (ow_assign rfl ?_)
  refine ops_nil ?_
  refine c_ret ?_
  refine tq_r ?_
  refine fin_ret1 rfl rfl ?_
  · skip
    first
    | exact ⟨rfl, X⟩
    | exact ⟨congrArg Value.bool hsa.2.1, X⟩
  replace hs := hs.ext x1
  replace X := Ext.trans X x1; clear x1
  have hb2 := of_decide_eq_false hbig
  have hbl : bs.length ≤ 1048576 := by omega
  refine ops_nil ?_
  refine c_false rfl ?_
  refine c_skip ?_
  refine tq_n ?_
  refine c_seqR ?_
  refine ops_cons rfl (ow_move rfl ?_)
  refine ops_cons rfl (ow_call ent34 rfl (ret_mono (drawSO_c _ _ _ bs _ hs hbl) ?_))
  rintro _ wD ⟨m, a1, a2, a3, rfl, hdr, hmF, xD⟩
  replace hs := hs.ext xD
  replace X := Ext.trans X xD; clear xD
  have hm := hmF.med
  have hz := hdr.1
  refine ops_cons rfl (ow_move rfl ?_)
  refine ops_cons rfl (ow_extract rfl rfl ?_)
  refine ops_cons rfl (ow_extract rfl rfl ?_)
  refine ops_cons rfl (ow_extract rfl rfl ?_)
  refine ops_cons rfl (ow_extract rfl rfl ?_)
  refine ops_cons rfl (ow_alloc ti28 ?_)
  intro gM w4 egM b0 x3 zgM
  have lgM : w.heap.size ≤ gM := Nat.le_trans X.size (Nat.le_of_eq egM.symm)
  have pgMhs := Nat.le_trans hs.1 (Nat.le_of_eq egM.symm)
  have pgMhm := Nat.le_trans hm.1 (Nat.le_of_eq egM.symm)
  replace hs := hs.ext x3
  replace hm := hm.ext x3
  replace X := Ext.trans X x3; clear x3
  refine ops_cons rfl (ow_storeB b0 ti28 rfl rfl rfl rfl rfl rfl ?_)
  intro w6 bM hg5 z7
  replace hs := hs.grown hg5 (by intro g hg; injection hg; omega)
  replace hm := hm.grown hg5 (by intro g hg; injection hg; omega)
  replace X := X.grown hg5 X.size (by intro g hg; injection hg; omega)
  clear hg5 b0
  refine ops_cons rfl (ow_assign rfl ?_)
  refine ops_cons rfl (ow_assign rfl ?_)
  refine ops_cons rfl (ow_assign rfl ?_)
  refine ops_nil ?_
  refine c_seqR ?_
  refine ops_cons rfl (ow_loadAB bM ti28 rfl rfl ?_)
  refine ops_cons rfl (ow_move rfl ?_)
  refine ops_cons rfl (ow_move rfl ?_)
  refine ops_cons rfl (ow_move rfl ?_)
  refine ops_cons rfl (ow_call ent35 rfl (ret_mono (iSender_c m _ a1 a2 a3 _ hm hz) ?_))
  rintro _ w9 ⟨rfl, x8⟩
  replace hs := hs.ext x8
  replace hm := hm.ext x8
  replace bM := bM.ext x8
  replace X := Ext.trans X x8; clear x8
  refine ops_cons rfl (ow_move rfl ?_)
  refine ops_cons rfl (ow_extract rfl rfl ?_)
  refine ops_cons rfl (ow_extract rfl rfl ?_)
  refine ops_cons rfl (ow_assign rfl ?_)
  refine ops_cons rfl (ow_assign rfl ?_)
  refine ops_nil ?_
  refine c_seqR ?_
  refine ops_cons rfl (ow_loadAB bM ti28 rfl rfl ?_)
  refine ops_cons rfl (ow_move rfl ?_)
  refine ops_cons rfl (ow_move rfl ?_)
  refine ops_cons rfl (ow_move rfl ?_)
  refine ops_cons rfl (ow_call ent36 rfl (ret_mono (sSender_c m _ a1 a2 a3 _ hm hz) ?_))
  rintro _ w11 ⟨rfl, x10⟩
  replace hs := hs.ext x10
  replace hm := hm.ext x10
  replace bM := bM.ext x10
  replace X := Ext.trans X x10; clear x10
  refine ops_cons rfl (ow_move rfl ?_)
  refine ops_cons rfl (ow_extract rfl rfl ?_)
  refine ops_cons rfl (ow_extract rfl rfl ?_)
  refine ops_cons rfl (ow_assign rfl ?_)
  refine ops_cons rfl (ow_assign rfl ?_)
  refine ops_nil ?_
  refine c_seqR ?_
  refine ops_cons rfl (ow_move rfl ?_)
  refine ops_cons rfl (ow_call ent37 rfl (ret_mono (drawWI_c _ _ _ bs _ hs hbl) ?_))
  rintro _ wE ⟨y, id, rfl, hdr2, hyF, xE⟩
  replace hs := hs.ext xE
  replace hm := hm.ext xE
  replace bM := bM.ext xE
  replace X := Ext.trans X xE; clear xE
  have hy := hyF.med
  have hzy := hdr2.1
  refine ops_cons rfl (ow_move rfl ?_)
  refine ops_cons rfl (ow_extract rfl rfl ?_)
  refine ops_cons rfl (ow_extract rfl rfl ?_)
  refine ops_cons rfl (ow_alloc ti28 ?_)
  intro gY w13 egY b1 x12 zgY
  have lgY : w.heap.size ≤ gY := Nat.le_trans X.size (Nat.le_of_eq egY.symm)
  have pgYhs := Nat.le_trans hs.1 (Nat.le_of_eq egY.symm)
  have pgYhm := Nat.le_trans hm.1 (Nat.le_of_eq egY.symm)
  have ngYbM := Nat.lt_of_lt_of_eq bM.lt egY.symm
  have pgYhy := Nat.le_trans hy.1 (Nat.le_of_eq egY.symm)
  replace hs := hs.ext x12
  replace hm := hm.ext x12
  replace bM := bM.ext x12
  replace hy := hy.ext x12
  replace X := Ext.trans X x12; clear x12
  refine ops_cons rfl (ow_storeB b1 ti28 rfl rfl rfl rfl rfl rfl ?_)
  intro w15 bY hg14 z16
  replace hs := hs.grown hg14 (by intro g hg; injection hg; omega)
  replace hm := hm.grown hg14 (by intro g hg; injection hg; omega)
  replace bM := bM.grown hg14 (by intro h; injection h; omega)
  replace hy := hy.grown hg14 (by intro g hg; injection hg; omega)
  replace X := X.grown hg14 X.size (by intro g hg; injection hg; omega)
  clear hg14 b1
  refine ops_cons rfl (ow_assign rfl ?_)
  refine ops_nil ?_
  refine c_seqR ?_
  refine ops_cons rfl (ow_loadAB bY ti28 rfl rfl ?_)
  refine ops_cons rfl (ow_move rfl ?_)
  refine ops_cons rfl (ow_call ent38 rfl (ret_mono (iWithId_c y _ _ _ hy hzy) ?_))
  rintro _ w18 ⟨x, rfl, ex, oX, x17⟩
  replace oX := MOwn.low oX X.size
  replace hs := hs.ext x17
  replace hm := hm.ext x17
  replace bM := bM.ext x17
  replace hy := hy.ext x17
  replace bY := bY.ext x17
  replace X := Ext.trans X x17; clear x17
  have zX := withId_small ex hzy
  refine ops_cons rfl (ow_move rfl ?_)
  refine ops_cons rfl (ow_extract rfl rfl ?_)
  refine ops_cons rfl (ow_extract rfl rfl ?_)
  refine ops_cons rfl (ow_alloc ti28 ?_)
  intro gX w22 egX b2 x21 zgX
  have lgX : w.heap.size ≤ gX := Nat.le_trans X.size (Nat.le_of_eq egX.symm)
  have pgXhs := Nat.le_trans hs.1 (Nat.le_of_eq egX.symm)
  have pgXhm := Nat.le_trans hm.1 (Nat.le_of_eq egX.symm)
  have ngXbM := Nat.lt_of_lt_of_eq bM.lt egX.symm
  have pgXhy := Nat.le_trans hy.1 (Nat.le_of_eq egX.symm)
  have ngXbY := Nat.lt_of_lt_of_eq bY.lt egX.symm
  replace hs := hs.ext x21
  replace hm := hm.ext x21
  replace bM := bM.ext x21
  replace hy := hy.ext x21
  replace bY := bY.ext x21
  replace oX := oX.ext x21
  replace X := Ext.trans X x21; clear x21
  refine ops_cons rfl (ow_storeB b2 ti28 rfl rfl rfl rfl rfl rfl ?_)
  intro w24 bX hg23 z25
  replace hs := hs.grown hg23 (by intro g hg; injection hg; omega)
  replace hm := hm.grown hg23 (by intro g hg; injection hg; omega)
  replace bM := bM.grown hg23 (by intro h; injection h; omega)
  replace hy := hy.grown hg23 (by intro g hg; injection hg; omega)
  replace bY := bY.grown hg23 (by intro h; injection h; omega)
  replace oX := oX.grownB b2 hg23 ⟨by decide, by decide, by decide, by decide⟩
  replace X := X.grown hg23 X.size (by intro g hg; injection hg; omega)
  clear hg23 b2
  refine ops_cons rfl (ow_assign rfl ?_)
  refine ops_nil ?_
  refine c_seqR ?_
  refine ops_cons rfl (ow_loadAB bY ti28 rfl rfl ?_)
  refine ops_cons rfl (ow_move rfl ?_)
  refine ops_cons rfl (ow_call ent39 rfl (ret_mono (sWithId_c y _ _ _ hy hzy) ?_))
  rintro _ w27 ⟨xr, rfl, er, oR, x26⟩
  replace oR := MOwn.low oR X.size
  replace hs := hs.ext x26
  replace hm := hm.ext x26
  replace bM := bM.ext x26
  replace hy := hy.ext x26
  replace bY := bY.ext x26
  replace oX := oX.ext x26
  replace bX := bX.ext x26
  replace X := Ext.trans X x26; clear x26
  refine ops_cons rfl (ow_move rfl ?_)
  refine ops_cons rfl (ow_extract rfl rfl ?_)
  refine ops_cons rfl (ow_extract rfl rfl ?_)
  refine ops_cons rfl (ow_alloc ti28 ?_)
  intro gR w31 egR b3 x30 zgR
  have lgR : w.heap.size ≤ gR := Nat.le_trans X.size (Nat.le_of_eq egR.symm)
  have pgRhs := Nat.le_trans hs.1 (Nat.le_of_eq egR.symm)
  have pgRhm := Nat.le_trans hm.1 (Nat.le_of_eq egR.symm)
  have ngRbM := Nat.lt_of_lt_of_eq bM.lt egR.symm
  have pgRhy := Nat.le_trans hy.1 (Nat.le_of_eq egR.symm)
  have ngRbY := Nat.lt_of_lt_of_eq bY.lt egR.symm
  have ngRbX := Nat.lt_of_lt_of_eq bX.lt egR.symm
  replace hs := hs.ext x30
  replace hm := hm.ext x30
  replace bM := bM.ext x30
  replace hy := hy.ext x30
  replace bY := bY.ext x30
  replace oX := oX.ext x30
  replace bX := bX.ext x30
  replace oR := oR.ext x30
  replace X := Ext.trans X x30; clear x30
  refine ops_cons rfl (ow_storeB b3 ti28 rfl rfl rfl rfl rfl rfl ?_)
  intro w33 bR hg32 z34
  replace hs := hs.grown hg32 (by intro g hg; injection hg; omega)
  replace hm := hm.grown hg32 (by intro g hg; injection hg; omega)
  replace bM := bM.grown hg32 (by intro h; injection h; omega)
  replace hy := hy.grown hg32 (by intro g hg; injection hg; omega)
  replace bY := bY.grown hg32 (by intro h; injection h; omega)
  replace oX := oX.grownB b3 hg32 ⟨by decide, by decide, by decide, by decide⟩
  replace bX := bX.grown hg32 (by intro h; injection h; omega)
  replace oR := oR.grownB b3 hg32 ⟨by decide, by decide, by decide, by decide⟩
  replace X := X.grown hg32 X.size (by intro g hg; injection hg; omega)
  clear hg32 b3
  refine ops_cons rfl (ow_assign rfl ?_)
  refine ops_nil ?_
  refine c_seq ?_
  refine c_seqR ?_
  refine ops_cons rfl (ow_move rfl ?_)
  refine ops_cons rfl (ow_move rfl ?_)
  refine ops_cons rfl (ow_neq2 rfl rfl (fun h35 => absurd h35 (by simp)) (fun h35 => ?_))
  refine ops_cons rfl (ow_move rfl ?_)
  refine ops_want rfl rfl rfl (ow_move rfl ?_)
  refine ops_want rfl rfl rfl (ow_move rfl ?_)
  refine ops_want rfl rfl rfl (ow_neq2 rfl rfl (fun h36 => absurd h36 (by simp)) (fun h36 => ?_))
  refine ops_cons rfl (ow_pick rfl rfl ?_)
  refine ops_cons rfl (ow_move rfl ?_)
  refine ops_want rfl rfl rfl (ow_move rfl ?_)
  refine ops_want rfl rfl rfl (ow_move rfl ?_)
  refine ops_want rfl rfl rfl (ow_neq2 rfl rfl (fun h37 => absurd h37 (by simp)) (fun h37 => ?_))
  refine ops_cons rfl (ow_pick rfl rfl ?_)
  refine ops_cons rfl (ow_move rfl ?_)
  refine ops_want rfl rfl rfl (ow_loadAB bX ti28 rfl rfl ?_)
  refine ops_want rfl rfl rfl (ow_loadAB bR ti28 rfl rfl ?_)
  refine ops_want rfl rfl rfl (ow_call ent19 rfl (ret_mono (likeMedls_c x xr _ _ _ oX.med oR.med (er.trans ex.symm) zX) ?_))
  rintro _ w39 ⟨rfl, x38⟩
  replace hs := hs.ext x38
  replace hm := hm.ext x38
  replace bM := bM.ext x38
  replace hy := hy.ext x38
  replace bY := bY.ext x38
  replace oX := oX.ext x38
  replace bX := bX.ext x38
  replace oR := oR.ext x38
  replace bR := bR.ext x38
  replace X := Ext.trans X x38; clear x38
  refine ops_want rfl rfl rfl (ow_not rfl ?_)
  refine ops_cons rfl (ow_pick rfl rfl ?_)
  refine ops_cons rfl (ow_move rfl ?_)
  refine ops_want rfl rfl rfl (ow_call ent40 rfl (ret_mono (iSmall_c _) ?_))
  rintro _ w41 ⟨mI, rfl, eI, oI, x40⟩
  replace oI := MOwn.low oI X.size
  replace hs := hs.ext x40
  replace hm := hm.ext x40
  replace bM := bM.ext x40
  replace hy := hy.ext x40
  replace bY := bY.ext x40
  replace oX := oX.ext x40
  replace bX := bX.ext x40
  replace oR := oR.ext x40
  replace bR := bR.ext x40
  replace X := Ext.trans X x40; clear x40
  refine ops_want rfl rfl rfl (ow_call ent41 rfl (ret_mono (sSmall_c _) ?_))
  rintro _ w45 ⟨mS, rfl, eS, oS, x44⟩
  replace oS := MOwn.low oS X.size
  replace hs := hs.ext x44
  replace hm := hm.ext x44
  replace bM := bM.ext x44
  replace hy := hy.ext x44
  replace bY := bY.ext x44
  replace oX := oX.ext x44
  replace bX := bX.ext x44
  replace oR := oR.ext x44
  replace bR := bR.ext x44
  replace oI := oI.ext x44
  replace X := Ext.trans X x44; clear x44
  refine ops_want rfl rfl rfl (ow_call ent19 rfl (ret_mono (likeMedls_c mI mS _ _ _ oI.med oS.med (eS.trans eI.symm) (small_small eI)) ?_))
  rintro _ w49 ⟨rfl, x48⟩
  replace hs := hs.ext x48
  replace hm := hm.ext x48
  replace bM := bM.ext x48
  replace hy := hy.ext x48
  replace bY := bY.ext x48
  replace oX := oX.ext x48
  replace bX := bX.ext x48
  replace oR := oR.ext x48
  replace bR := bR.ext x48
  replace oI := oI.ext x48
  replace oS := oS.ext x48
  replace X := Ext.trans X x48; clear x48
  refine ops_want rfl rfl rfl (ow_not rfl ?_)
  refine ops_cons rfl (ow_pick rfl rfl ?_)
  refine ops_nil ?_
  refine c_false rfl ?_
  refine c_skip ?_
  refine tq_n ?_
  refine c_seq ?_
  refine c_seqR ?_
  refine ops_cons rfl (ow_move rfl ?_)
  refine ops_cons rfl (ow_eql2 rfl rfl (fun hC1 => ?_) (fun hC1 => ?_))
  have hbk := wid_back (fun h => h hC1) ex
  refine ops_nil ?_
  refine c_true rfl ?_
  refine c_seqR ?_
  refine ops_cons rfl (ow_loadAB bX ti28 rfl rfl ?_)
  refine ops_cons rfl (ow_fieldAddrB off28_0 rfl rfl ?_)
  refine ops_cons rfl (ow_loadB bY ti2 rfl rfl ?_)
  refine ops_cons rfl (ow_call ent38 rfl (ret_mono (iWithId_c x _ y.id _ oX.med zX) ?_))
  rintro _ w51 ⟨xb, rfl, eb, oB, x50⟩
  replace oB := MOwn.low oB X.size
  replace hs := hs.ext x50
  replace hm := hm.ext x50
  replace bM := bM.ext x50
  replace hy := hy.ext x50
  replace bY := bY.ext x50
  replace oX := oX.ext x50
  replace bX := bX.ext x50
  replace oR := oR.ext x50
  replace bR := bR.ext x50
  replace oI := oI.ext x50
  replace oS := oS.ext x50
  replace X := Ext.trans X x50; clear x50
  rw [hbk] at eb
  refine ops_cons rfl (ow_move rfl ?_)
  refine ops_cons rfl (ow_extract rfl rfl ?_)
  refine ops_cons rfl (ow_extract rfl rfl ?_)
  refine ops_cons rfl (ow_alloc ti28 ?_)
  intro gB w55 egB b4 x54 zgB
  have lgB : w.heap.size ≤ gB := Nat.le_trans X.size (Nat.le_of_eq egB.symm)
  have pgBhs := Nat.le_trans hs.1 (Nat.le_of_eq egB.symm)
  have pgBhm := Nat.le_trans hm.1 (Nat.le_of_eq egB.symm)
  have ngBbM := Nat.lt_of_lt_of_eq bM.lt egB.symm
  have pgBhy := Nat.le_trans hy.1 (Nat.le_of_eq egB.symm)
  have ngBbY := Nat.lt_of_lt_of_eq bY.lt egB.symm
  have ngBbX := Nat.lt_of_lt_of_eq bX.lt egB.symm
  have ngBbR := Nat.lt_of_lt_of_eq bR.lt egB.symm
  replace hs := hs.ext x54
  replace hm := hm.ext x54
  replace bM := bM.ext x54
  replace hy := hy.ext x54
  replace bY := bY.ext x54
  replace oX := oX.ext x54
  replace bX := bX.ext x54
  replace oR := oR.ext x54
  replace bR := bR.ext x54
  replace oI := oI.ext x54
  replace oS := oS.ext x54
  replace oB := oB.ext x54
  replace X := Ext.trans X x54; clear x54
  refine ops_cons rfl (ow_storeB b4 ti28 rfl rfl rfl rfl rfl rfl ?_)
  intro w57 bB hg56 z58
  replace hs := hs.grown hg56 (by intro g hg; injection hg; omega)
  replace hm := hm.grown hg56 (by intro g hg; injection hg; omega)
  replace bM := bM.grown hg56 (by intro h; injection h; omega)
  replace hy := hy.grown hg56 (by intro g hg; injection hg; omega)
  replace bY := bY.grown hg56 (by intro h; injection h; omega)
  replace oX := oX.grownB b4 hg56 ⟨by decide, by decide, by decide, by decide⟩
  replace bX := bX.grown hg56 (by intro h; injection h; omega)
  replace oR := oR.grownB b4 hg56 ⟨by decide, by decide, by decide, by decide⟩
  replace bR := bR.grown hg56 (by intro h; injection h; omega)
  replace oI := oI.grownB b4 hg56 ⟨by decide, by decide, by decide, by decide⟩
  replace oS := oS.grownB b4 hg56 ⟨by decide, by decide, by decide, by decide⟩
  replace oB := oB.grownB b4 hg56 ⟨by decide, by decide, by decide, by decide⟩
  replace X := X.grown hg56 X.size (by intro g hg; injection hg; omega)
  clear hg56 b4
  refine ops_cons rfl (ow_assign rfl ?_)
  refine ops_nil ?_
  refine c_seqR ?_
  refine ops_cons rfl (ow_move rfl ?_)
  refine ops_cons rfl (ow_neq2 rfl rfl (fun h59 => absurd h59 (by rw [hbk]; simp)) (fun h59 => ?_))
  refine ops_cons rfl (ow_move rfl ?_)
  refine ops_want rfl rfl rfl (ow_loadAB bB ti28 rfl rfl ?_)
  refine ops_want rfl rfl rfl (ow_loadAB bY ti28 rfl rfl ?_)
  refine ops_want rfl rfl rfl (ow_call ent19 rfl (ret_mono (likeMedls_c xb y _ _ _ oB.med hy eb.symm (MedlI.small_of eb hzy)) ?_))
  rintro _ w61 ⟨rfl, x60⟩
  replace hs := hs.ext x60
  replace hm := hm.ext x60
  replace bM := bM.ext x60
  replace hy := hy.ext x60
  replace bY := bY.ext x60
  replace oX := oX.ext x60
  replace bX := bX.ext x60
  replace oR := oR.ext x60
  replace bR := bR.ext x60
  replace oI := oI.ext x60
  replace oS := oS.ext x60
  replace oB := oB.ext x60
  replace bB := bB.ext x60
  replace X := Ext.trans X x60; clear x60
  refine ops_want rfl rfl rfl (ow_not rfl ?_)
  refine ops_cons rfl (ow_pick rfl rfl ?_)
  refine ops_nil ?_
  refine c_false rfl ?_
  refine c_skip ?_
  refine tq_n ?_
  refine c_seq ?_
  refine c_seqR ?_
  refine ops_cons rfl (ow_move rfl ?_)
  refine ops_cons rfl (ow_neq2 rfl rfl (fun hC2 => ?_) (fun hC2 => ?_))
  refine ops_nil ?_
  refine c_true rfl ?_
  refine c_seqR ?_
  refine ops_cons rfl (ow_assign rfl ?_)
  refine ops_nil ?_
  refine c_ret ?_
  refine tq_r ?_
  refine fin_ret1 rfl rfl ?_
  · skip
    first
    | exact ⟨rfl, X⟩
    | exact ⟨congrArg Value.bool hsa.2.1, X⟩
  have hsa := sender_act hC2
  refine ops_nil ?_
  refine c_false rfl ?_
  refine c_skip ?_
  refine tq_n ?_
  refine c_seqR ?_
  refine ops_cons rfl (ow_fieldAddrB off28_1 rfl rfl ?_)
  refine ops_cons rfl (ow_loadB bM ti24 rfl rfl ?_)
  refine ops_cons rfl (ow_call ent42 rfl (ret_mono (activeV_c _ _ _ m.ns _ hm.sn hz.ln hsa.1 hm.kn) ?_))
  rintro _ w63 ⟨rfl, x62⟩
  replace hs := hs.ext x62
  replace hm := hm.ext x62
  replace bM := bM.ext x62
  replace hy := hy.ext x62
  replace bY := bY.ext x62
  replace oX := oX.ext x62
  replace bX := bX.ext x62
  replace oR := oR.ext x62
  replace bR := bR.ext x62
  replace oI := oI.ext x62
  replace oS := oS.ext x62
  replace oB := oB.ext x62
  replace bB := bB.ext x62
  replace X := Ext.trans X x62; clear x62
  refine ops_cons rfl (ow_move rfl ?_)
  refine ops_cons rfl (ow_extract rfl rfl ?_)
  refine ops_cons rfl (ow_extract rfl rfl ?_)
  refine ops_cons rfl (ow_assign rfl ?_)
  refine ops_cons rfl (ow_assign rfl ?_)
  refine ops_nil ?_
  refine c_seqR ?_
  refine ops_cons rfl (ow_move rfl ?_)
  refine ops_cons rfl (ow_eql2 rfl rfl (fun h64 => ?_) (fun h64 => absurd h64 (by simp)))
  refine ops_cons rfl (ow_move rfl ?_)
  refine ops_want rfl rfl rfl (ow_move rfl ?_)
  refine ops_want rfl rfl rfl (ow_move rfl ?_)
  refine ops_want rfl rfl rfl (ow_call ent43 rfl (ret_mono (hasMemberL_c _ _ _ (actV_lt hsa.1) hsa.2.2) ?_))
  rintro _ w66 ⟨rfl, x65⟩
  replace hs := hs.ext x65
  replace hm := hm.ext x65
  replace bM := bM.ext x65
  replace hy := hy.ext x65
  replace bY := bY.ext x65
  replace oX := oX.ext x65
  replace bX := bX.ext x65
  replace oR := oR.ext x65
  replace bR := bR.ext x65
  replace oI := oI.ext x65
  replace oS := oS.ext x65
  replace oB := oB.ext x65
  replace bB := bB.ext x65
  replace X := Ext.trans X x65; clear x65
  refine ops_cons rfl (ow_pick rfl rfl ?_)
  refine ops_cons rfl (ow_assign rfl ?_)
  refine ops_nil ?_
  refine c_ret ?_
  refine fin_ret1 rfl rfl ?_
  · skip
    first
    | exact ⟨rfl, X⟩
    | exact ⟨congrArg Value.bool hsa.2.1, X⟩
  refine ops_nil ?_
  refine c_false rfl ?_
  refine c_skip ?_
  refine tq_n ?_
  refine c_seq ?_
  refine c_seqR ?_
  refine ops_cons rfl (ow_move rfl ?_)
  refine ops_cons rfl (ow_neq2 rfl rfl (fun hC2 => ?_) (fun hC2 => ?_))
  refine ops_nil ?_
  refine c_true rfl ?_
  refine c_seqR ?_
  refine ops_cons rfl (ow_assign rfl ?_)
  refine ops_nil ?_
  refine c_ret ?_
  refine tq_r ?_
  refine fin_ret1 rfl rfl ?_
  · skip
    first
    | exact ⟨rfl, X⟩
    | exact ⟨congrArg Value.bool hsa.2.1, X⟩
  have hsa := sender_act hC2
  refine ops_nil ?_
  refine c_false rfl ?_
  refine c_skip ?_
  refine tq_n ?_
  refine c_seqR ?_
  refine ops_cons rfl (ow_fieldAddrB off28_1 rfl rfl ?_)
  refine ops_cons rfl (ow_loadB bM ti24 rfl rfl ?_)
  refine ops_cons rfl (ow_call ent42 rfl (ret_mono (activeV_c _ _ _ m.ns _ hm.sn hz.ln hsa.1 hm.kn) ?_))
  rintro _ w68 ⟨rfl, x67⟩
  replace hs := hs.ext x67
  replace hm := hm.ext x67
  replace bM := bM.ext x67
  replace hy := hy.ext x67
  replace bY := bY.ext x67
  replace oX := oX.ext x67
  replace bX := bX.ext x67
  replace oR := oR.ext x67
  replace bR := bR.ext x67
  replace oI := oI.ext x67
  replace oS := oS.ext x67
  replace X := Ext.trans X x67; clear x67
  refine ops_cons rfl (ow_move rfl ?_)
  refine ops_cons rfl (ow_extract rfl rfl ?_)
  refine ops_cons rfl (ow_extract rfl rfl ?_)
  refine ops_cons rfl (ow_assign rfl ?_)
  refine ops_cons rfl (ow_assign rfl ?_)
  refine ops_nil ?_
  refine c_seqR ?_
  refine ops_cons rfl (ow_move rfl ?_)
  refine ops_cons rfl (ow_eql2 rfl rfl (fun h69 => ?_) (fun h69 => absurd h69 (by simp)))
  refine ops_cons rfl (ow_move rfl ?_)
  refine ops_want rfl rfl rfl (ow_move rfl ?_)
  refine ops_want rfl rfl rfl (ow_move rfl ?_)
  refine ops_want rfl rfl rfl (ow_call ent43 rfl (ret_mono (hasMemberL_c _ _ _ (actV_lt hsa.1) hsa.2.2) ?_))
  rintro _ w71 ⟨rfl, x70⟩
  replace hs := hs.ext x70
  replace hm := hm.ext x70
  replace bM := bM.ext x70
  replace hy := hy.ext x70
  replace bY := bY.ext x70
  replace oX := oX.ext x70
  replace bX := bX.ext x70
  replace oR := oR.ext x70
  replace bR := bR.ext x70
  replace oI := oI.ext x70
  replace oS := oS.ext x70
  replace X := Ext.trans X x70; clear x70
  refine ops_cons rfl (ow_pick rfl rfl ?_)
  refine ops_cons rfl (ow_assign rfl ?_)
  refine ops_nil ?_
  refine c_ret ?_
  refine fin_ret1 rfl rfl ?_
  · skip
    first
    | exact ⟨rfl, X⟩
    | exact ⟨congrArg Value.bool hsa.2.1, X⟩
set_option maxRecDepth 100000

theorem fnSenders_lifted (os : Os) (started : os.Started) (H : Type) (enc : TypeId × Value → H) :
    ReturnsInHanded {} Tryz.checked os 6 .any (fun w args => (Rows.fnSendersSpec.pre enc Tryz.prog Tryz.f6 Rows.fnSendersRow.domain false w args ∧ laidMetH Tryz.prog Rows.fnSendersRow.laid w) ∧ sizedMet enc Tryz.prog Tryz.f6 (OpenSpec.ofChange Rows.fnSendersSpec) false w args)
      (Rows.fnSendersSpec.post enc Tryz.prog Tryz.f6 false true false false) := by
  refine returnsInHanded_of_change_and (C := Tryz.checked) (X := fun w _ => laidMetH Tryz.prog Rows.fnSendersRow.laid w) (fun _ _ _ hh h => h.of_heap hh) law_own started (by kernel_rfl) Tryz.func6
    (ChangeSpec.witness_shaped (enc := enc) (C := Tryz.checked) (os := os) (X := fun w _ => laidMetH Tryz.prog Rows.fnSendersRow.laid w) false (World.laidAll Tryz.prog os Rows.fnSendersRow.laid) #[.slice none 0 0] 8 (World.laidAll_os _ _ _)
      (World.shaped_of_ZipB (by kernel_rfl) (by kernel_rfl)) (by kernel_rfl) (by kernel_rfl) (by kernel_rfl)
      (by rw [MakeChecks.laidMetH_plain _ _ _ (by kernel_rfl)]; exact laidMet_laidAll _ (by kernel_rfl) (by kernel_rfl))) ?_
  intro W base args ds gs before hval0 hW _ _ hL _
  have hval : ∀ (j : Nat) t v, Tryz.f6.params[j]? = some t → args[j]? = some v → Value.okWide Tryz.prog W .any base t v := hval0
  have hW' := hW
  obtain ⟨p, q, hA0, hV, rfl, hfz, hnd⟩ := hW
  have hA : DataW.TrodAll enc Tryz.prog W 0 (fun _ => true) true Tryz.f6.params.toList args.toList ds p := hA0
  rw [Tryz.params6] at hA hval
  obtain ⟨rfl, rfl⟩ := trodVars_none hV
  obtain ⟨v0, vs0, d0, ds0, p0, q0, hargs, rfl, rfl, h0, r0⟩ := trodAll_cons hA
  obtain ⟨rfl, rfl, rfl⟩ := trodAll_nil r0
  obtain rfl : args = #[v0] := by cases args; simp_all
  obtain ⟨a0, l0, k0, rfl⟩ := okWide_slice Tryz.underlying22 (hval 0 22 v0 rfl rfl)
  obtain ⟨m0, x0, t0⟩ := cell_of rfl h0
  obtain ⟨Abs, bs, cbs, ebs, sbs, wbs, lbs⟩ := open_sl (s := 1) Tryz.underlying22 (by kernel_rfl) eB_len (by omega) (fun _ _ _ h => open_u8 Tryz.underlying5 h) t0
  rw [ebs]
  refine Calls.mono (law_FnSenders _ _ _ bs W sbs lbs) fun e W' h => ?_
  cases e <;> first | exact h.elim | skip
  obtain ⟨rfl, hb⟩ := h
  exact ⟨_, rfl, law_post law_laid (by kernel_rfl) rfl rfl Tryz.underlying4 (by rw [← ebs]; exact hW') rfl hb⟩

theorem fnSenders_holds : Rows.FnSendersSaid :=
  OpenClaim.holds_of_wide 6 Tryz.f6 rfl rfl rfl rfl rfl rfl rfl ⟨rfl, rfl, rfl, rfl, rfl⟩ rfl rfl rfl rfl rfl (by kernel_rfl) Tryz.func6 (by kernel_rfl)
    (of_decide_eq_true (by kernel_rfl)) (by unfold Func.isWrapper; rw [if_neg (of_decide_eq_false (by kernel_rfl))]; exact ⟨rfl, rfl⟩)
    (fun os started H enc _ => fnSenders_lifted os started H enc)

theorem fnSenders_card : Rows.FnSendersCardSaid :=
  Claim7.holds_tied_plain_at .later [] [.data, .pinned] true (true, "9d3b8bcd3f057db7ce87d49064bbf274986517e6a2e4614acdb81aa3eaa2e189") false fnSenders_holds (fun _ h => by cases h) (by kernel_rfl) (fun _ h => by cases h) fnSenders_row_tie rfl ⟨rfl, rfl⟩ law_main rfl
    (fun f fn hf hfn => by
      obtain rfl : f = 6 := Option.some.inj ((show Tryz.prog.funcNamed "loop.example/g00833/laws.FnSenders" = some 6 by kernel_rfl).symm.trans hf) |>.symm
      obtain rfl : fn = Tryz.f6 := (Option.some.inj (Tryz.func6.symm.trans hfn)).symm
      exact ⟨law_looks, fun j t ht => by
        rw [Tryz.params6] at ht
        have hm : t ∈ [22] := by simpa using Array.mem_of_getElem? ht
        have hall : ([22].all fun u => !Tryz.prog.wantsStandIn u) = true := by kernel_rfl
        exact (show Tryz.prog.wantsStandIn t = false by simpa using List.all_eq_true.1 hall t hm)⟩)
    (by kernel_rfl)
end Go.Proofs.YtdoibplhbdkapaaGreatDoor
