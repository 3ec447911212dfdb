/- The law FnFindSlots answers true for all arguments that its row admits, and leaves what was there before as it was. No condition. -/
import Derived.Test.YtojgfbbdjobdnaaG3
import Derived.Test.YtojgfbbdjobdnaaD4
import Derived.Test.YtojgfbbdjobdnaaD5
import Derived.Test.YtojgfbbdjobdnaaQ1
import Derived.Test.YtojgfbbdjobdnaaGE
import Derived.Test.YtojgfbbdjobdnaaLW
namespace Go.Proofs.Ytojgfbbdjobdnaa
open Go.ChangeShapes Go.WideShapes Go.ChangeAt Go.RowKit
set_option linter.unusedVariables false
set_option linter.unusedSimpArgs false
set_option maxRecDepth 20000
theorem findD_inv {xs : List SlotI} {m r s : Int} (h : ¬ (findD xs m r s).2 = 1) : isST xs = true := by
  cases hT : isST xs
  · exfalso; exact h (by rw [findD, if_neg (by simp [hT])])
  · rfl
theorem iFindOwn_c (A : Option Addr) (B c : Nat) (ys : List SlotI) (x : SlotI) (i : Nat) (w : World) (hs : Sl B w A (ys.flatMap SlotI.cells)) (hl : ys.length ≤ 1048576) (hT : isST ys = true) (hx : ys[i]? = some x) :
    Calls Try.prog 19 #[.slice A ys.length c, .int .i64 x.mode, .int .i64 x.round, .int .i64 x.slot] w (Ret fun v w' => v = .tuple #[.agg x.desc.cells.toArray, .int .i64 0] ∧ Ext w w') := by
  have h := iFindSlot_c A B c ys x.mode x.round x.slot w hs hl
  rw [findD_own hT hx] at h
  exact h
theorem law_FnFindSlots (A : Option Addr) (B c : Nat) (bs : List UInt8) (w : World) (hs : Sl B w A (bs.flatMap eB)) (hm : bs.length ≤ 9223372036854775807) :
    Calls Try.prog 4 #[.slice A bs.length c] w (Ret fun v w' => v = .bool true ∧ Ext w w') := by
  have Bhs := hs.1
  have X := Ext.refl w
  refine calls_of (args := [.slice A bs.length c]) Try.func4 Try.ntmps4 rfl rfl ?_
  refine c_seqR ?_
  refine ops_cons rfl (ow_assign rfl ?_)
  refine ops_nil ?_
  refine c_seq ?_
  refine c_seqR ?_
  refine ops_cons rfl (ow_move rfl ?_)
  refine ops_cons rfl (ow_callB ent7 rfl (big_c _ _ _ _) (fun w2 hbig x1 => ?_) (fun w2 hbig x1 => ?_))
  · skip
    replace hs := hs.ext x1
    replace X := Ext.trans X x1; clear x1
    refine ops_nil ?_
    refine c_true rfl ?_
    refine c_seqR ?_
    refine ops_cons rfl (ow_assign rfl ?_)
    refine ops_nil ?_
    refine c_ret ?_
    refine tq_r ?_
    refine fin_ret1 rfl rfl ?_
    exact ⟨rfl, X⟩
  · skip
    replace hs := hs.ext x1
    replace X := Ext.trans X x1; clear x1
    have hb2 := of_decide_eq_false hbig
    have hbl : bs.length ≤ 1048576 := by omega
    refine ops_nil ?_
    refine c_false rfl ?_
    refine c_skip ?_
    refine tq_n ?_
    refine c_seqR ?_
    refine ops_cons rfl (ow_move rfl ?_)
    refine ops_cons rfl (ow_call ent18 rfl (ret_mono (drawFind_c _ _ _ _ _ hs hbl) ?_))
    rintro _ w4 ⟨AT, cT, ys, x0, y0, z0, rfl, hp, oT, x3⟩
    replace oT := Own.low oT X.size
    replace hs := hs.ext x3
    replace X := Ext.trans X x3; clear x3
    have hl : ys.length ≤ 1048576 := by omega
    refine ops_cons rfl (ow_move rfl ?_)
    refine ops_cons rfl (ow_extract rfl rfl ?_)
    refine ops_cons rfl (ow_extract rfl rfl ?_)
    refine ops_cons rfl (ow_extract rfl rfl ?_)
    refine ops_cons rfl (ow_extract rfl rfl ?_)
    refine ops_cons rfl (ow_assign rfl ?_)
    refine ops_cons rfl (ow_assign rfl ?_)
    refine ops_cons rfl (ow_assign rfl ?_)
    refine ops_cons rfl (ow_assign rfl ?_)
    refine ops_nil ?_
    refine c_seqR ?_
    refine ops_cons rfl (ow_move rfl ?_)
    refine ops_cons rfl (ow_move rfl ?_)
    refine ops_cons rfl (ow_move rfl ?_)
    refine ops_cons rfl (ow_move rfl ?_)
    refine ops_cons rfl (ow_call ent19 rfl (ret_mono (iFindSlot_c _ _ _ _ _ _ _ _ (oT).sl hl) ?_))
    rintro _ w6 ⟨rfl, x5⟩
    replace hs := hs.ext x5
    replace oT := oT.ext x5
    replace X := Ext.trans X x5; clear x5
    refine ops_cons rfl (ow_move rfl ?_)
    refine ops_cons rfl (ow_extract rfl rfl ?_)
    refine ops_cons rfl (ow_extract rfl rfl ?_)
    refine ops_cons rfl (ow_alloc ti39 ?_)
    intro g9 w8 eg9 bE x7 zg9
    have lg9 : w.heap.size ≤ g9 := Nat.le_trans X.size (Nat.le_of_eq eg9.symm)
    have pg9hs := Nat.le_trans hs.1 (Nat.le_of_eq eg9.symm)
    replace hs := hs.ext x7
    replace oT := oT.ext x7
    replace X := Ext.trans X x7; clear x7
    refine ops_cons rfl (ow_storeB bE ti39 rfl rfl rfl rfl rfl rfl ?_)
    intro w11 bE2 hg10 z12
    replace hs := hs.grown hg10 (by intro g hg; injection hg; omega)
    replace oT := oT.grownBlk hg10 (Own.neT oT bE (by decide))
    replace X := X.grown hg10 X.size (by intro g hg; injection hg; omega)
    clear hg10 bE
    refine ops_cons rfl (ow_assign rfl ?_)
    refine ops_nil ?_
    refine c_seqR ?_
    refine ops_cons rfl (ow_move rfl ?_)
    refine ops_cons rfl (ow_move rfl ?_)
    refine ops_cons rfl (ow_move rfl ?_)
    refine ops_cons rfl (ow_move rfl ?_)
    refine ops_cons rfl (ow_call ent20 rfl (ret_mono (sFindSlot_c _ _ _ _ _ _ _ _ (oT).sl hl) ?_))
    rintro _ w14 ⟨rfl, x13⟩
    replace hs := hs.ext x13
    replace oT := oT.ext x13
    replace bE2 := bE2.ext x13
    replace X := Ext.trans X x13; clear x13
    refine ops_cons rfl (ow_move rfl ?_)
    refine ops_cons rfl (ow_extract rfl rfl ?_)
    refine ops_cons rfl (ow_extract rfl rfl ?_)
    refine ops_cons rfl (ow_alloc ti39 ?_)
    intro g17 w16 eg17 bF x15 zg17
    have lg17 : w.heap.size ≤ g17 := Nat.le_trans X.size (Nat.le_of_eq eg17.symm)
    have pg17hs := Nat.le_trans hs.1 (Nat.le_of_eq eg17.symm)
    have ng17bE2 := Nat.lt_of_lt_of_eq bE2.lt eg17.symm
    replace hs := hs.ext x15
    replace oT := oT.ext x15
    replace bE2 := bE2.ext x15
    replace X := Ext.trans X x15; clear x15
    refine ops_cons rfl (ow_storeB bF ti39 rfl rfl rfl rfl rfl rfl ?_)
    intro w19 bF2 hg18 z20
    replace hs := hs.grown hg18 (by intro g hg; injection hg; omega)
    replace oT := oT.grownBlk hg18 (Own.neT oT bF (by decide))
    replace bE2 := bE2.grown hg18 (by intro h; injection h; omega)
    replace X := X.grown hg18 X.size (by intro g hg; injection hg; omega)
    clear hg18 bF
    refine ops_cons rfl (ow_assign rfl ?_)
    refine ops_nil ?_
    refine c_seqR ?_
    refine ops_cons rfl (ow_move rfl ?_)
    refine ops_cons rfl (ow_call ent21 rfl (ret_mono (drawNode_c _ _ _ _ _ hs hbl) ?_))
    rintro _ w22 ⟨A23, c24, zs, n0, rfl, hp2, oU, x21⟩
    replace oU := Own.low oU X.size
    replace hs := hs.ext x21
    replace oT := oT.ext x21
    replace bE2 := bE2.ext x21
    replace bF2 := bF2.ext x21
    replace X := Ext.trans X x21; clear x21
    have hlz : zs.length ≤ 1048576 := by omega
    have hl2 := resN_len zs n0 hlz
    refine ops_cons rfl (ow_move rfl ?_)
    refine ops_cons rfl (ow_extract rfl rfl ?_)
    refine ops_cons rfl (ow_extract rfl rfl ?_)
    refine ops_cons rfl (ow_assign rfl ?_)
    refine ops_cons rfl (ow_assign rfl ?_)
    refine ops_nil ?_
    refine c_seqR ?_
    refine ops_cons rfl (ow_move rfl ?_)
    refine ops_cons rfl (ow_move rfl ?_)
    refine ops_cons rfl (ow_call ent22 rfl (ret_mono (iNodes_c _ _ _ zs n0 _ oU.sl hlz) ?_))
    rintro _ w26 ⟨A27, c28, rfl, oV, x25⟩
    replace oV := Own.low oV X.size
    replace hs := hs.ext x25
    replace oT := oT.ext x25
    replace bE2 := bE2.ext x25
    replace bF2 := bF2.ext x25
    replace oU := oU.ext x25
    replace X := Ext.trans X x25; clear x25
    refine ops_cons rfl (ow_move rfl ?_)
    refine ops_cons rfl (ow_extract rfl rfl ?_)
    refine ops_cons rfl (ow_extract rfl rfl ?_)
    refine ops_cons rfl (ow_assign rfl ?_)
    refine ops_cons rfl (ow_assign rfl ?_)
    refine ops_nil ?_
    refine c_seqR ?_
    refine ops_cons rfl (ow_move rfl ?_)
    refine ops_cons rfl (ow_move rfl ?_)
    refine ops_cons rfl (ow_call ent23 rfl (ret_mono (sNodes_c _ _ _ zs n0 _ oU.sl hlz) ?_))
    rintro _ w30 ⟨A31, c32, rfl, oW, x29⟩
    replace oW := Own.low oW X.size
    replace hs := hs.ext x29
    replace oT := oT.ext x29
    replace bE2 := bE2.ext x29
    replace bF2 := bF2.ext x29
    replace oU := oU.ext x29
    replace oV := oV.ext x29
    replace X := Ext.trans X x29; clear x29
    refine ops_cons rfl (ow_move rfl ?_)
    refine ops_cons rfl (ow_extract rfl rfl ?_)
    refine ops_cons rfl (ow_extract rfl rfl ?_)
    refine ops_cons rfl (ow_assign rfl ?_)
    refine ops_cons rfl (ow_assign rfl ?_)
    refine ops_nil ?_
    refine c_seq ?_
    refine c_seqR ?_
    refine ops_cons rfl (ow_move rfl ?_)
    refine ops_cons rfl (ow_move rfl ?_)
    refine ops_cons rfl (ow_neq2 rfl rfl (fun h33 => absurd h33 (by simp)) (fun h33 => ?_))
    refine ops_cons rfl (ow_move rfl ?_)
    refine ops_want rfl rfl rfl (ow_loadAB bE2 ti39 rfl rfl ?_)
    refine ops_want rfl rfl rfl (ow_loadAB bF2 ti39 rfl rfl ?_)
    refine ops_want rfl rfl rfl (ow_neqA rfl rfl (by kernel_rfl) (fun w => eqSelf_Desc _ w 9998) ?_)
    refine ops_cons rfl (ow_pick rfl rfl ?_)
    refine ops_cons rfl (ow_move rfl ?_)
    refine ops_want rfl rfl rfl (ow_move rfl ?_)
    refine ops_want rfl rfl rfl (ow_move rfl ?_)
    refine ops_want rfl rfl rfl (ow_neq2 rfl rfl (fun h34 => absurd h34 (by simp)) (fun h34 => ?_))
    refine ops_cons rfl (ow_pick rfl rfl ?_)
    refine ops_cons rfl (ow_move rfl ?_)
    refine ops_want rfl rfl rfl (ow_move rfl ?_)
    refine ops_want rfl rfl rfl (ow_move rfl ?_)
    refine ops_want rfl rfl rfl (ow_call ent14 rfl (ret_mono (likeInts_c _ _ _ _ _ _ _ _ (oV).sl (oW).sl hl2) ?_))
    rintro _ w36 ⟨rfl, x35⟩
    replace hs := hs.ext x35
    replace oT := oT.ext x35
    replace bE2 := bE2.ext x35
    replace bF2 := bF2.ext x35
    replace oU := oU.ext x35
    replace oV := oV.ext x35
    replace oW := oW.ext x35
    replace X := Ext.trans X x35; clear x35
    refine ops_want rfl rfl rfl (ow_not rfl ?_)
    refine ops_cons rfl (ow_pick rfl rfl ?_)
    refine ops_nil ?_
    refine c_false rfl ?_
    refine c_skip ?_
    refine tq_n ?_
    refine c_seq ?_
    refine c_seqR ?_
    refine ops_cons rfl (ow_move rfl ?_)
    refine ops_cons rfl (ow_eql2 rfl rfl (fun h1 => ?_) (fun h1 => ?_))
    · skip
      refine ops_nil ?_
      refine c_true rfl ?_
      refine c_seqR ?_
      refine ops_cons rfl (ow_assign rfl ?_)
      refine ops_nil ?_
      refine c_ret ?_
      refine tq_r ?_
      refine fin_ret1 rfl rfl ?_
      exact ⟨rfl, X⟩
    · skip
      have hT : isST ys = true := findD_inv h1
      refine ops_nil ?_
      refine c_false rfl ?_
      refine c_skip ?_
      refine tq_n ?_
      refine c_seq ?_
      refine c_seqR ?_
      refine ops_cons rfl (ow_assign rfl ?_)
      refine ops_nil ?_
      refine c_block ?_
      refine c_loop (G := Nat) (fun k => [(3, .slice AT ys.length cT), (17, .int .i64 (k : Nat))]) (fun k wr => k ≤ ys.length ∧ Sl B wr A (bs.flatMap eB) ∧ Own wr w.heap.size 46 8 AT ys.length cT (ys.flatMap SlotI.cells) ∧ Ext w wr) (fun k => ys.length - k) 0 (.cons rfl (.cons rfl (.nil _))) ?_ ?_
      · exact ⟨by omega, hs, oT, X⟩
      clear hs oT bE2 bF2 oU oV oW
      clear X
      rintro k wr ⟨hk0, hs, oT, X⟩
      refine c_seq ?_
      refine c_seqR ?_
      refine ops_cons rfl (ow_move rfl ?_)
      refine ops_cons rfl (ow_move rfl ?_)
      refine ops_cons rfl (ow_len Try.underlying35 rfl ?_)
      refine ops_cons rfl (ow_lss2 rfl rfl (fun hk => ?_) (fun hk => ?_))
      · skip
        obtain ⟨x, hx, dx⟩ := drop_at' hk
        refine ops_nil ?_
        refine c_true rfl ?_
        refine c_skip ?_
        refine tq_n ?_
        refine c_seq ?_
        refine c_block ?_
        refine c_seqI (fun wz => Own wz w.heap.size 46 8 AT ys.length cT (ys.flatMap SlotI.cells)) mixed ?_
        obtain ⟨w37, ew37⟩ : ∃ w2, w2 = World.drew wr := ⟨_, rfl⟩
        rw [← ew37]
        have xd : Ext wr w37 := ew37 ▸ Ext.drew wr
        replace hs := hs.ext xd
        replace oT := oT.ext xd
        replace X := Ext.trans X xd; clear xd ew37
        refine wi_take 0 rfl (by kernel_rfl) rfl (by kernel_rfl) (listed' := #[true, false, false, false, false, false, false, false, false, false, false, false, false, false, false, false, false, false, false, false, false, false, false]) rfl (fun wq sq => ow_move rfl ⟨rfl, rfl⟩) ?_
        refine wi_take 1 rfl (by kernel_rfl) rfl (by kernel_rfl) (listed' := #[true, true, false, false, false, false, false, false, false, false, false, false, false, false, false, false, false, false, false, false, false, false, false]) rfl (fun wq sq => ow_move rfl ⟨rfl, rfl⟩) ?_
        refine wi_take 2 rfl (by kernel_rfl) rfl (by kernel_rfl) (listed' := #[true, true, true, false, false, false, false, false, false, false, false, false, false, false, false, false, false, false, false, false, false, false, false]) rfl (fun wq sq => ow_move rfl ⟨rfl, rfl⟩) ?_
        refine wi_take 3 rfl (by kernel_rfl) rfl (by kernel_rfl) (listed' := #[true, true, true, true, false, false, false, false, false, false, false, false, false, false, false, false, false, false, false, false, false, false, false]) rfl (fun wq sq => ow_indexT (sq).sl SlotI.len rfl el35 rfl rfl rfl hx rfl ⟨rfl, rfl⟩) ?_
        refine wi_take 4 rfl (by kernel_rfl) rfl (by kernel_rfl) (listed' := #[true, true, true, true, true, false, false, false, false, false, false, false, false, false, false, false, false, false, false, false, false, false, false]) rfl (fun wq sq => ow_fieldAddr off46_0 rfl ⟨rfl, rfl⟩) ?_
        refine wi_take 5 rfl (by kernel_rfl) rfl (by kernel_rfl) (listed' := #[true, true, true, true, true, true, false, false, false, false, false, false, false, false, false, false, false, false, false, false, false, false, false]) rfl (fun wq sq => ow_loadTF (sq).sl SlotI.len hx ti2 rfl rfl rfl ⟨rfl, rfl⟩) ?_
        refine wi_take 6 rfl (by kernel_rfl) rfl (by kernel_rfl) (listed' := #[true, true, true, true, true, true, true, false, false, false, false, false, false, false, false, false, false, false, false, false, false, false, false]) rfl (fun wq sq => ow_move rfl ⟨rfl, rfl⟩) ?_
        refine wi_take 7 rfl (by kernel_rfl) rfl (by kernel_rfl) (listed' := #[true, true, true, true, true, true, true, true, false, false, false, false, false, false, false, false, false, false, false, false, false, false, false]) rfl (fun wq sq => ow_move rfl ⟨rfl, rfl⟩) ?_
        refine wi_take 8 rfl (by kernel_rfl) rfl (by kernel_rfl) (listed' := #[true, true, true, true, true, true, true, true, true, false, false, false, false, false, false, false, false, false, false, false, false, false, false]) rfl (fun wq sq => ow_indexT (sq).sl SlotI.len rfl el35 rfl rfl rfl hx rfl ⟨rfl, rfl⟩) ?_
        refine wi_take 9 rfl (by kernel_rfl) rfl (by kernel_rfl) (listed' := #[true, true, true, true, true, true, true, true, true, true, false, false, false, false, false, false, false, false, false, false, false, false, false]) rfl (fun wq sq => ow_fieldAddr off46_1 rfl ⟨rfl, rfl⟩) ?_
        refine wi_take 10 rfl (by kernel_rfl) rfl (by kernel_rfl) (listed' := #[true, true, true, true, true, true, true, true, true, true, true, false, false, false, false, false, false, false, false, false, false, false, false]) rfl (fun wq sq => ow_loadTF (sq).sl SlotI.len hx ti2 rfl rfl rfl ⟨rfl, rfl⟩) ?_
        refine wi_take 11 rfl (by kernel_rfl) rfl (by kernel_rfl) (listed' := #[true, true, true, true, true, true, true, true, true, true, true, true, false, false, false, false, false, false, false, false, false, false, false]) rfl (fun wq sq => ow_move rfl ⟨rfl, rfl⟩) ?_
        refine wi_take 12 rfl (by kernel_rfl) rfl (by kernel_rfl) (listed' := #[true, true, true, true, true, true, true, true, true, true, true, true, true, false, false, false, false, false, false, false, false, false, false]) rfl (fun wq sq => ow_move rfl ⟨rfl, rfl⟩) ?_
        refine wi_take 13 rfl (by kernel_rfl) rfl (by kernel_rfl) (listed' := #[true, true, true, true, true, true, true, true, true, true, true, true, true, true, false, false, false, false, false, false, false, false, false]) rfl (fun wq sq => ow_indexT (sq).sl SlotI.len rfl el35 rfl rfl rfl hx rfl ⟨rfl, rfl⟩) ?_
        refine wi_take 14 rfl (by kernel_rfl) rfl (by kernel_rfl) (listed' := #[true, true, true, true, true, true, true, true, true, true, true, true, true, true, true, false, false, false, false, false, false, false, false]) rfl (fun wq sq => ow_fieldAddr off46_2 rfl ⟨rfl, rfl⟩) ?_
        refine wi_take 15 rfl (by kernel_rfl) rfl (by kernel_rfl) (listed' := #[true, true, true, true, true, true, true, true, true, true, true, true, true, true, true, true, false, false, false, false, false, false, false]) rfl (fun wq sq => ow_loadTF (sq).sl SlotI.len hx ti2 rfl rfl rfl ⟨rfl, rfl⟩) ?_
        refine wi_two 16 20 rfl rfl rfl rfl (by kernel_rfl) (listed' := #[true, true, true, true, true, true, true, true, true, true, true, true, true, true, true, true, true, false, false, false, false, false, false]) (listed'' := #[true, true, true, true, true, true, true, true, true, true, true, true, true, true, true, true, false, false, false, false, true, false, false]) rfl rfl oT ?_ ?_
        · skip
          refine (ow_call ent19 rfl (ret_mono (iFindOwn_c _ _ _ ys x k _ oT.sl hl hT hx) ?_))
          rintro _ w39 ⟨rfl, x38⟩
          replace hs := hs.ext x38
          replace oT := oT.ext x38
          replace X := Ext.trans X x38; clear x38
          refine wi_take 17 rfl (by kernel_rfl) rfl (by kernel_rfl) (listed' := #[true, true, true, true, true, true, true, true, true, true, true, true, true, true, true, true, true, true, false, false, false, false, false]) rfl (fun wq sq => ow_move rfl ⟨rfl, rfl⟩) ?_
          refine wi_take 18 rfl (by kernel_rfl) rfl (by kernel_rfl) (listed' := #[true, true, true, true, true, true, true, true, true, true, true, true, true, true, true, true, true, true, true, false, false, false, false]) rfl (fun wq sq => ow_extract rfl rfl ⟨rfl, rfl⟩) ?_
          refine wi_take 19 rfl (by kernel_rfl) rfl (by kernel_rfl) (listed' := #[true, true, true, true, true, true, true, true, true, true, true, true, true, true, true, true, true, true, true, true, false, false, false]) rfl (fun wq sq => ow_extract rfl rfl ⟨rfl, rfl⟩) ?_
          refine wi_one 20 rfl rfl (by kernel_rfl) (listed' := #[true, true, true, true, true, true, true, true, true, true, true, true, true, true, true, true, true, true, true, true, true, false, false]) rfl oT (ow_alloc ti39 ?_)
          intro gG w41 egG bG x40 zgG
          have lgG : w.heap.size ≤ gG := Nat.le_trans X.size (Nat.le_of_eq egG.symm)
          have pgGhs := Nat.le_trans hs.1 (Nat.le_of_eq egG.symm)
          replace hs := hs.ext x40
          replace oT := oT.ext x40
          replace X := Ext.trans X x40; clear x40
          refine wi_one 21 rfl rfl (by kernel_rfl) (listed' := #[true, true, true, true, true, true, true, true, true, true, true, true, true, true, true, true, true, true, true, true, true, true, false]) rfl oT (ow_storeB bG ti39 rfl rfl rfl rfl rfl rfl ?_)
          intro w43 bH hg42 z44
          replace hs := hs.grown hg42 (by intro g hg; injection hg; omega)
          replace oT := oT.grownBlk hg42 (Own.neT oT bG (by decide))
          replace X := X.grown hg42 X.size (by intro g hg; injection hg; omega)
          clear hg42 bG
          refine wi_take 22 rfl (by kernel_rfl) rfl (by kernel_rfl) (listed' := #[true, true, true, true, true, true, true, true, true, true, true, true, true, true, true, true, true, true, true, true, true, true, true]) rfl (fun wq sq => ow_assign rfl ⟨rfl, rfl⟩) ?_
          refine wi_done rfl oT (fun aj fj => ⟨_, fj, ?_⟩)
          refine c_seqD [false, false, false, false, false, false, false, false, false, false, false] mixed (by kernel_rfl) ?_
          refine f_q rfl (fun wq sq => ow_move rfl ⟨rfl, Ext.refl _⟩) ?_
          refine f_qb rfl (fun wq sq => ow_neq rfl rfl ⟨rfl, Ext.refl _⟩) (fun h45 => absurd h45 (by simp)) (fun h45 => ?_)
          refine f_q rfl (fun wq sq => ow_move rfl ⟨rfl, Ext.refl _⟩) ?_
          refine f_qw rfl rfl rfl (fun wq sq => ow_loadAB (bH.ext sq) ti39 rfl rfl ⟨rfl, Ext.refl _⟩) ?_
          refine f_qw rfl rfl rfl (fun wq sq => ow_move rfl ⟨rfl, Ext.refl _⟩) ?_
          refine f_qw rfl rfl rfl (fun wq sq => ow_move rfl ⟨rfl, Ext.refl _⟩) ?_
          refine f_qw rfl rfl rfl (fun wq sq => ow_indexT ((oT.ext sq)).sl SlotI.len rfl el35 rfl rfl rfl hx rfl ⟨rfl, Ext.refl _⟩) ?_
          refine f_qw rfl rfl rfl (fun wq sq => ow_fieldAddr off46_3 rfl ⟨rfl, Ext.refl _⟩) ?_
          refine f_qw rfl rfl rfl (fun wq sq => ow_loadTFA ((oT.ext sq)).sl SlotI.len hx ti39 rfl rfl ⟨rfl, Ext.refl _⟩) ?_
          refine f_qw rfl rfl rfl (fun wq sq => ow_neqA rfl rfl (by kernel_rfl) (fun w => eqSelf_Desc _ w 9998) ⟨rfl, Ext.refl _⟩) ?_
          refine f_q rfl (fun wq sq => ow_pick rfl rfl ⟨rfl, Ext.refl _⟩) ?_
          refine f_nil (fun w46 sq => ?_)
          have xq := sq
          replace hs := hs.ext xq
          replace oT := oT.ext xq
          replace bH := bH.ext xq
          replace X := Ext.trans X xq; clear xq sq
          refine ops_nil ?_
          refine c_false rfl ?_
          refine c_skip ?_
          refine bq_n ?_
          refine tq_n ?_
          refine c_region ?_
          refine ops_cons rfl (ow_move rfl ?_)
          refine ops_cons rfl (ow_add rfl rfl (w64 (by omega)) ?_)
          refine ops_cons rfl (ow_assign rfl ?_)
          refine ops_nil ?_
          refine tq_n ⟨k + 1, (.cons rfl (.cons rfl (.nil _))), ?_, ?_⟩
          · exact ⟨by omega, hs, oT, X⟩
          · first | omega | (dsimp only; omega)
        · skip
          refine (ow_alloc ti39 ?_)
          intro gG w48 egG bG x47 zgG
          have lgG : w.heap.size ≤ gG := Nat.le_trans X.size (Nat.le_of_eq egG.symm)
          have pgGhs := Nat.le_trans hs.1 (Nat.le_of_eq egG.symm)
          replace hs := hs.ext x47
          replace oT := oT.ext x47
          replace X := Ext.trans X x47; clear x47
          refine wi_one 16 rfl rfl (by kernel_rfl) (listed' := #[true, true, true, true, true, true, true, true, true, true, true, true, true, true, true, true, true, false, false, false, true, false, false]) rfl oT (ow_call ent19 rfl (ret_mono (iFindOwn_c _ _ _ ys x k _ oT.sl hl hT hx) ?_))
          rintro _ w50 ⟨rfl, x49⟩
          replace hs := hs.ext x49
          replace oT := oT.ext x49
          replace bG := bG.ext x49
          replace X := Ext.trans X x49; clear x49
          refine wi_take 17 rfl (by kernel_rfl) rfl (by kernel_rfl) (listed' := #[true, true, true, true, true, true, true, true, true, true, true, true, true, true, true, true, true, true, false, false, true, false, false]) rfl (fun wq sq => ow_move rfl ⟨rfl, rfl⟩) ?_
          refine wi_take 18 rfl (by kernel_rfl) rfl (by kernel_rfl) (listed' := #[true, true, true, true, true, true, true, true, true, true, true, true, true, true, true, true, true, true, true, false, true, false, false]) rfl (fun wq sq => ow_extract rfl rfl ⟨rfl, rfl⟩) ?_
          refine wi_take 19 rfl (by kernel_rfl) rfl (by kernel_rfl) (listed' := #[true, true, true, true, true, true, true, true, true, true, true, true, true, true, true, true, true, true, true, true, true, false, false]) rfl (fun wq sq => ow_extract rfl rfl ⟨rfl, rfl⟩) ?_
          refine wi_one 21 rfl rfl (by kernel_rfl) (listed' := #[true, true, true, true, true, true, true, true, true, true, true, true, true, true, true, true, true, true, true, true, true, true, false]) rfl oT (ow_storeB bG ti39 rfl rfl rfl rfl rfl rfl ?_)
          intro w52 bH hg51 z53
          replace hs := hs.grown hg51 (by intro g hg; injection hg; omega)
          replace oT := oT.grownBlk hg51 (Own.neT oT bG (by decide))
          replace X := X.grown hg51 X.size (by intro g hg; injection hg; omega)
          clear hg51 bG
          refine wi_take 22 rfl (by kernel_rfl) rfl (by kernel_rfl) (listed' := #[true, true, true, true, true, true, true, true, true, true, true, true, true, true, true, true, true, true, true, true, true, true, true]) rfl (fun wq sq => ow_assign rfl ⟨rfl, rfl⟩) ?_
          refine wi_done rfl oT (fun aj fj => ⟨_, fj, ?_⟩)
          refine c_seqD [false, false, false, false, false, false, false, false, false, false, false] mixed (by kernel_rfl) ?_
          refine f_q rfl (fun wq sq => ow_move rfl ⟨rfl, Ext.refl _⟩) ?_
          refine f_qb rfl (fun wq sq => ow_neq rfl rfl ⟨rfl, Ext.refl _⟩) (fun h54 => absurd h54 (by simp)) (fun h54 => ?_)
          refine f_q rfl (fun wq sq => ow_move rfl ⟨rfl, Ext.refl _⟩) ?_
          refine f_qw rfl rfl rfl (fun wq sq => ow_loadAB (bH.ext sq) ti39 rfl rfl ⟨rfl, Ext.refl _⟩) ?_
          refine f_qw rfl rfl rfl (fun wq sq => ow_move rfl ⟨rfl, Ext.refl _⟩) ?_
          refine f_qw rfl rfl rfl (fun wq sq => ow_move rfl ⟨rfl, Ext.refl _⟩) ?_
          refine f_qw rfl rfl rfl (fun wq sq => ow_indexT ((oT.ext sq)).sl SlotI.len rfl el35 rfl rfl rfl hx rfl ⟨rfl, Ext.refl _⟩) ?_
          refine f_qw rfl rfl rfl (fun wq sq => ow_fieldAddr off46_3 rfl ⟨rfl, Ext.refl _⟩) ?_
          refine f_qw rfl rfl rfl (fun wq sq => ow_loadTFA ((oT.ext sq)).sl SlotI.len hx ti39 rfl rfl ⟨rfl, Ext.refl _⟩) ?_
          refine f_qw rfl rfl rfl (fun wq sq => ow_neqA rfl rfl (by kernel_rfl) (fun w => eqSelf_Desc _ w 9998) ⟨rfl, Ext.refl _⟩) ?_
          refine f_q rfl (fun wq sq => ow_pick rfl rfl ⟨rfl, Ext.refl _⟩) ?_
          refine f_nil (fun w55 sq => ?_)
          have xq := sq
          replace hs := hs.ext xq
          replace oT := oT.ext xq
          replace bH := bH.ext xq
          replace X := Ext.trans X xq; clear xq sq
          refine ops_nil ?_
          refine c_false rfl ?_
          refine c_skip ?_
          refine bq_n ?_
          refine tq_n ?_
          refine c_region ?_
          refine ops_cons rfl (ow_move rfl ?_)
          refine ops_cons rfl (ow_add rfl rfl (w64 (by omega)) ?_)
          refine ops_cons rfl (ow_assign rfl ?_)
          refine ops_nil ?_
          refine tq_n ⟨k + 1, (.cons rfl (.cons rfl (.nil _))), ?_, ?_⟩
          · exact ⟨by omega, hs, oT, X⟩
          · first | omega | (dsimp only; omega)
      · skip
        refine ops_nil ?_
        refine c_false rfl ?_
        refine c_exit ?_
        refine tq_e ?_
        refine tq_e ?_
        refine bq_e ?_
        refine tq_n ?_
        refine c_seqR ?_
        refine ops_cons rfl (ow_assign rfl ?_)
        refine ops_nil ?_
        refine c_ret ?_
        refine fin_ret1 rfl rfl ?_
        exact ⟨rfl, X⟩
set_option maxRecDepth 100000

theorem fnFindSlots_lifted (os : Os) (started : os.Started) (H : Type) (enc : TypeId × Value → H) :
    ReturnsInHanded {} Try.checked os 4 .any (Rows.fnFindSlotsSpec.pre6 enc Try.prog Try.f4 Rows.fnFindSlotsRow.domain false) (Rows.fnFindSlotsSpec.post enc Try.prog Try.f4 false true false false) := by
  refine returnsInHanded_of_change (C := Try.checked) law_own started (by kernel_rfl) Try.func4
    (ChangeSpec.witness6 (enc := enc) (C := Try.checked) false ⟨#[], #[.slice none 0 0], []⟩ 8 (by kernel_rfl) (by kernel_rfl) (by kernel_rfl) (by kernel_rfl)) ?_
  intro W base args ds gs before hval0 hW hcnd _
  have hval : ∀ (j : Nat) t v, Try.f4.params[j]? = some t → args[j]? = some v → Value.okWide Try.prog W .any base t v := hval0
  have hW' := hW
  obtain ⟨p, q, hA0, hV, rfl, hfz, hnd⟩ := hW
  have hA : DataW.TrodAll enc Try.prog W 0 (fun _ => true) true Try.f4.params.toList args.toList ds p := hA0
  rw [Try.params4] at hA hval
  obtain ⟨rfl, rfl⟩ := trodVars_none hV
  obtain ⟨v0, vs0, d0, ds0, p0, q0, hargs, rfl, rfl, h0, r0⟩ := trodAll_cons hA
  obtain ⟨rfl, rfl, rfl⟩ := trodAll_nil r0
  obtain rfl : args = #[v0] := by cases args; simp_all
  obtain ⟨a0, l0, k0, rfl⟩ := okWide_slice Try.underlying22 (hval 0 22 v0 rfl rfl)
  obtain ⟨m0, x0, t0⟩ := cell_of rfl h0
  obtain ⟨Abs, bs, cbs, ebs, sbs, wbs, lbs⟩ := open_sl (s := 1) Try.underlying22 (by kernel_rfl) eB_len (by omega) (fun _ _ _ h => open_u8 Try.underlying5 h) t0
  rw [ebs]
  refine Calls.mono (law_FnFindSlots _ _ _ bs W sbs lbs) fun e W' h => ?_
  cases e <;> first | exact h.elim | skip
  obtain ⟨rfl, hb⟩ := h
  exact ⟨_, rfl, law_post law_laid (by kernel_rfl) rfl rfl Try.underlying4 (by rw [← ebs]; exact hW') rfl hb⟩

theorem fnFindSlots_holds : Rows.FnFindSlotsSaid :=
  OpenClaim.holds_of_wide 4 Try.f4 rfl rfl rfl rfl rfl rfl rfl ⟨rfl, rfl, rfl, rfl, rfl⟩ rfl rfl rfl rfl rfl (by kernel_rfl) Try.func4 (by kernel_rfl)
    (of_decide_eq_true (by kernel_rfl)) (by unfold Func.isWrapper; rw [if_neg (of_decide_eq_false (by kernel_rfl))]; exact ⟨rfl, rfl⟩)
    (fun os started H enc _ => fnFindSlots_lifted os started H enc)
end Go.Proofs.Ytojgfbbdjobdnaa
