/- The law FnModeTables answers true for all arguments that its row admits, and leaves what was there before as it was. No condition. -/
import Derived.Test.YtojgfbbdjobdnaaG6
import Derived.Test.YtojgfbbdjobdnaaR2
import Derived.Test.YtojgfbbdjobdnaaQ2
import Derived.Test.YtojgfbbdjobdnaaGM
import Derived.Test.YtojgfbbdjobdnaaLW
namespace Go.Proofs.Ytojgfbbdjobdnaa
open Go.ChangeShapes Go.WideShapes Go.ChangeAt Go.RowKit
set_option linter.unusedVariables false
set_option linter.unusedSimpArgs false
set_option maxRecDepth 20000
theorem likeInts_n (A A' : Option Addr) (B B' c c' n n' : Nat) (xs : List Int) (w : World) (hs : Sl B w A (xs.flatMap eI)) (ht : Sl B' w A' (xs.flatMap eI)) (hl : xs.length ≤ 1048576) (en : n = xs.length) (en' : n' = xs.length) :
    Calls Try.prog 14 #[.slice A n c, .slice A' n' c'] w (Ret fun v w' => v = .bool true ∧ Ext w w') := by
  subst en; subst en'
  exact likeInts_c A A' B B' c c' xs w hs ht hl
theorem hz_of {xs ys : List ModeI} {b : Nat} (e : xs.map (·.m) = ys.map (·.m)) (h : ∀ y ∈ ys, y.m.next.length ≤ b) : ∀ x ∈ xs, x.m.next.length ≤ b := fun x hx => by
  have h1 : x.m ∈ ys.map (·.m) := by rw [← e]; exact List.mem_map_of_mem hx
  obtain ⟨y, hy, h2⟩ := List.mem_map.1 h1
  rw [← h2]; exact h y hy
theorem readMF_zero {xs : List Int} (h : (readMF xs).2.2 = 0) : ∃ r, isB xs = true ∧ rdM xs = some r ∧ readMF xs = (r.1, (r.2 : Int), 0) := by
  unfold readMF at *
  split at h
  · rename_i hb
    split at h
    · rename_i l hl
      exact ⟨l, hb, hl, by rw [if_pos hb]⟩
    · simp at h
  · simp at h
theorem resT_zero {ms : List Mode} (h : ¬ (resT ms).2 ≠ 0) : isMT ms = true ∧ (resT ms).1 = mtP ms ms.length := by
  unfold resT at *
  split at h
  · rename_i hT; rw [if_pos hT]; exact ⟨hT, rfl⟩
  · simp at h
theorem rdM_isMT {xs : List Int} {r : List Mode × Nat} (h : rdM xs = some r) : isMT r.1 = true ∧ r.2 ≤ xs.length := by
  have hne : xs.length ≠ 0 := fun e => by rw [rdM_empty e] at h; cases h
  unfold rdM at h
  rw [if_neg hne] at h
  split at h
  · rename_i q hq
    split at h
    · rename_i hT
      injection h with h
      subst h
      exact ⟨hT, (prsM_at xs _ _ _ hq (by omega)).1⟩
    · cases h
  · cases h
theorem iMTBl_c (A : Option Addr) (B B2 c : Nat) (xs : List ModeI) (ms : List Mode) (w : World) (hs : Sl B w A (xs.flatMap ModeI.cells)) (hn : Nexts B2 w xs) (hl : xs.length ≤ 1048576) (hz : ∀ x ∈ xs, x.m.next.length ≤ 1048576) (em : xs.map (·.m) = ms) (hT : isMT ms = true) :
    Calls Try.prog 9 #[.slice A xs.length c] w (Ret fun v w' => ∃ A' c', v = .tuple #[.slice A' (mtP ms ms.length).length c', .int .i64 0] ∧ Own w' w.heap.size 2 1 A' (mtP ms ms.length).length c' ((mtP ms ms.length).flatMap eI) ∧ Ext w w') := by
  have h := iMTB_c A B B2 c xs w hs hn hl hz
  rw [em, show resT ms = (mtP ms ms.length, 0) by rw [resT, if_pos hT]] at h
  exact h
theorem iReadBackM_c (A : Option Addr) (B c n : Nat) (ms : List Mode) (w : World) (hs : Sl B w A ((mtP ms ms.length ++ [7]).flatMap eI)) (hT : isMT ms = true) (en : n = (mtP ms ms.length).length + 1) (hcap : n ≤ c) :
    Calls Try.prog 12 #[.slice A n c] w (Ret fun v w' => ∃ A' c' ys, v = .tuple #[.slice A' (List.length ys) c', .int .i64 ((mtP ms ms.length).length : Nat), .int .i64 0] ∧ ys.map (·.m) = ms ∧ Disj ys ∧ Own w' w.heap.size 71 3 A' ys.length c' (ys.flatMap ModeI.cells) ∧ NOwn w' w.heap.size 2 ys ∧ Ext w w') := by
  have e1 : n = (mtP ms ms.length ++ [7]).length := by rw [en, List.length_append]; rfl
  subst e1
  have hl := isB_len (isB_backM hT)
  have h := iReadM_c A B c (mtP ms ms.length ++ [7]) w hs (by omega) hcap
  rw [readMF_back hT] at h
  exact h
theorem law_FnModeTables (A : Option Addr) (B c : Nat) (bs : List UInt8) (w : World) (hs : Sl B w A (bs.flatMap eB)) (hm : bs.length ≤ 9223372036854775807) :
    Calls Try.prog 3 #[.slice A bs.length c] w (Ret fun v w' => v = .bool true ∧ Ext w w') := by
  have Bhs := hs.1
  have X := Ext.refl w
  refine calls_of (args := [.slice A bs.length c]) Try.func3 Try.ntmps3 rfl rfl ?_
  refine c_seqR ?_
  refine ops_cons rfl (ow_assign rfl ?_)
  refine ops_nil ?_
  refine c_seq ?_
  refine c_seqR ?_
  refine ops_cons rfl (ow_move rfl ?_)
  refine ops_cons rfl (ow_callB ent7 rfl (big_c _ _ _ _) (fun w2 hbig x1 => ?_) (fun w2 hbig x1 => ?_))
  · skip
    replace hs := hs.ext x1
    replace X := Ext.trans X x1; clear x1
    refine ops_nil ?_
    refine c_true rfl ?_
    refine c_seqR ?_
    refine ops_cons rfl (ow_assign rfl ?_)
    refine ops_nil ?_
    refine c_ret ?_
    refine tq_r ?_
    refine fin_ret1 rfl rfl ?_
    first
    | exact ⟨rfl, X⟩
    | exact ⟨congrArg Value.bool (decide_eq_true (by rw [hrb])), X⟩
  · skip
    replace hs := hs.ext x1
    replace X := Ext.trans X x1; clear x1
    have hb2 := of_decide_eq_false hbig
    have hbl : bs.length ≤ 1048576 := by omega
    refine ops_nil ?_
    refine c_false rfl ?_
    refine c_skip ?_
    refine tq_n ?_
    refine c_seqR ?_
    refine ops_cons rfl (ow_move rfl ?_)
    refine ops_cons rfl (ow_call ent8 rfl (ret_mono (drawMTB_c _ _ _ _ _ hs hbl) ?_))
    rintro _ w4 ⟨AT, cT, ys, rfl, hp, oT, oTn, x3⟩
    replace oT := Own.low oT X.size
    replace oTn := NOwn.low oTn X.size
    replace hs := hs.ext x3
    replace X := Ext.trans X x3; clear x3
    have hl : ys.length ≤ 1048576 := by omega
    have hz : ∀ x ∈ ys, x.m.next.length ≤ 1048576 := fun x hx => Nat.le_trans (hp.2 x hx) (by decide)
    have hlr := resT_len (ys.map (·.m))
    refine ops_cons rfl (ow_assign rfl ?_)
    refine ops_nil ?_
    refine c_seqR ?_
    refine ops_cons rfl (ow_move rfl ?_)
    refine ops_cons rfl (ow_call ent9 rfl (ret_mono (iMTB_c _ _ _ _ _ _ (oT).sl (oTn).nexts hl hz) ?_))
    rintro _ w6 ⟨A7, c8, rfl, oA, x5⟩
    replace oA := Own.low oA X.size
    replace hs := hs.ext x5
    replace oT := oT.ext x5
    replace oTn := oTn.ext x5
    replace X := Ext.trans X x5; clear x5
    refine ops_cons rfl (ow_move rfl ?_)
    refine ops_cons rfl (ow_extract rfl rfl ?_)
    refine ops_cons rfl (ow_extract rfl rfl ?_)
    refine ops_cons rfl (ow_assign rfl ?_)
    refine ops_cons rfl (ow_assign rfl ?_)
    refine ops_nil ?_
    refine c_seqR ?_
    refine ops_cons rfl (ow_move rfl ?_)
    refine ops_cons rfl (ow_call ent10 rfl (ret_mono (sMTB_c _ _ _ _ _ _ (oT).sl (oTn).nexts hl hz) ?_))
    rintro _ w10 ⟨A11, c12, rfl, oB, x9⟩
    replace oB := Own.low oB X.size
    replace hs := hs.ext x9
    replace oT := oT.ext x9
    replace oTn := oTn.ext x9
    replace oA := oA.ext x9
    replace X := Ext.trans X x9; clear x9
    refine ops_cons rfl (ow_move rfl ?_)
    refine ops_cons rfl (ow_extract rfl rfl ?_)
    refine ops_cons rfl (ow_extract rfl rfl ?_)
    refine ops_cons rfl (ow_assign rfl ?_)
    refine ops_cons rfl (ow_assign rfl ?_)
    refine ops_nil ?_
    refine c_seqR ?_
    refine ops_cons rfl (ow_move rfl ?_)
    refine ops_cons rfl (ow_call ent11 rfl (ret_mono (drawRMT_c _ _ _ _ _ hs hbl) ?_))
    rintro _ w14 ⟨AL, cL, ls, rfl, hpl, oL, x13⟩
    replace oL := Own.low oL X.size
    replace hs := hs.ext x13
    replace oT := oT.ext x13
    replace oTn := oTn.ext x13
    replace oA := oA.ext x13
    replace oB := oB.ext x13
    replace X := Ext.trans X x13; clear x13
    have hll : ls.length ≤ 1048576 := by omega
    refine ops_cons rfl (ow_assign rfl ?_)
    refine ops_nil ?_
    refine c_seqR ?_
    refine ops_cons rfl (ow_move rfl ?_)
    refine ops_cons rfl (ow_call ent12 rfl (ret_mono (iReadM_c _ _ _ _ _ (oL).sl hll oL.cap) ?_))
    rintro _ w16 ⟨AC, cC, yC, rfl, emC, hdC, oC, oCn, x15⟩
    replace oC := Own.low oC X.size
    replace oCn := NOwn.low oCn X.size
    replace hs := hs.ext x15
    replace oT := oT.ext x15
    replace oTn := oTn.ext x15
    replace oA := oA.ext x15
    replace oB := oB.ext x15
    replace oL := oL.ext x15
    replace X := Ext.trans X x15; clear x15
    have hsC := readMF_small hll emC
    refine ops_cons rfl (ow_move rfl ?_)
    refine ops_cons rfl (ow_extract rfl rfl ?_)
    refine ops_cons rfl (ow_extract rfl rfl ?_)
    refine ops_cons rfl (ow_extract rfl rfl ?_)
    refine ops_cons rfl (ow_assign rfl ?_)
    refine ops_cons rfl (ow_assign rfl ?_)
    refine ops_cons rfl (ow_assign rfl ?_)
    refine ops_nil ?_
    refine c_seqR ?_
    refine ops_cons rfl (ow_move rfl ?_)
    refine ops_cons rfl (ow_call ent13 rfl (ret_mono (sReadM_c _ _ _ _ _ (oL).sl hll oL.cap) ?_))
    rintro _ w18 ⟨A19, c20, yD, rfl, emD, hdD, oD, oDn, x17⟩
    replace oD := Own.low oD X.size
    replace oDn := NOwn.low oDn X.size
    replace hs := hs.ext x17
    replace oT := oT.ext x17
    replace oTn := oTn.ext x17
    replace oA := oA.ext x17
    replace oB := oB.ext x17
    replace oL := oL.ext x17
    replace oC := oC.ext x17
    replace oCn := oCn.ext x17
    replace X := Ext.trans X x17; clear x17
    refine ops_cons rfl (ow_move rfl ?_)
    refine ops_cons rfl (ow_extract rfl rfl ?_)
    refine ops_cons rfl (ow_extract rfl rfl ?_)
    refine ops_cons rfl (ow_extract rfl rfl ?_)
    refine ops_cons rfl (ow_assign rfl ?_)
    refine ops_cons rfl (ow_assign rfl ?_)
    refine ops_cons rfl (ow_assign rfl ?_)
    refine ops_nil ?_
    refine c_seq ?_
    refine c_seqR ?_
    refine ops_cons rfl (ow_move rfl ?_)
    refine ops_cons rfl (ow_move rfl ?_)
    refine ops_cons rfl (ow_neq2 rfl rfl (fun h21 => absurd h21 (by simp)) (fun h21 => ?_))
    refine ops_cons rfl (ow_move rfl ?_)
    refine ops_want rfl rfl rfl (ow_move rfl ?_)
    refine ops_want rfl rfl rfl (ow_move rfl ?_)
    refine ops_want rfl rfl rfl (ow_call ent14 rfl (ret_mono (likeInts_c _ _ _ _ _ _ _ _ (oA).sl (oB).sl hlr) ?_))
    rintro _ w23 ⟨rfl, x22⟩
    replace hs := hs.ext x22
    replace oT := oT.ext x22
    replace oTn := oTn.ext x22
    replace oA := oA.ext x22
    replace oB := oB.ext x22
    replace oL := oL.ext x22
    replace oC := oC.ext x22
    replace oCn := oCn.ext x22
    replace oD := oD.ext x22
    replace oDn := oDn.ext x22
    replace X := Ext.trans X x22; clear x22
    refine ops_want rfl rfl rfl (ow_not rfl ?_)
    refine ops_cons rfl (ow_pick rfl rfl ?_)
    refine ops_cons rfl (ow_move rfl ?_)
    refine ops_want rfl rfl rfl (ow_move rfl ?_)
    refine ops_want rfl rfl rfl (ow_move rfl ?_)
    refine ops_want rfl rfl rfl (ow_neq2 rfl rfl (fun h24 => absurd h24 (by simp)) (fun h24 => ?_))
    refine ops_cons rfl (ow_pick rfl rfl ?_)
    refine ops_cons rfl (ow_move rfl ?_)
    refine ops_want rfl rfl rfl (ow_move rfl ?_)
    refine ops_want rfl rfl rfl (ow_move rfl ?_)
    refine ops_want rfl rfl rfl (ow_neq2 rfl rfl (fun h25 => absurd h25 (by simp)) (fun h25 => ?_))
    refine ops_cons rfl (ow_pick rfl rfl ?_)
    refine ops_cons rfl (ow_move rfl ?_)
    refine ops_want rfl rfl rfl (ow_move rfl ?_)
    refine ops_want rfl rfl rfl (ow_move rfl ?_)
    refine ops_want rfl rfl rfl (ow_call ent15 rfl (ret_mono (likeModes_c _ _ _ _ _ _ _ _ _ _ _ (oC).sl (oCn).nexts (oD).sl (oDn).nexts (emC.trans emD.symm) hsC.1 hsC.2) ?_))
    rintro _ w27 ⟨rfl, x26⟩
    replace hs := hs.ext x26
    replace oT := oT.ext x26
    replace oTn := oTn.ext x26
    replace oA := oA.ext x26
    replace oB := oB.ext x26
    replace oL := oL.ext x26
    replace oC := oC.ext x26
    replace oCn := oCn.ext x26
    replace oD := oD.ext x26
    replace oDn := oDn.ext x26
    replace X := Ext.trans X x26; clear x26
    refine ops_want rfl rfl rfl (ow_not rfl ?_)
    refine ops_cons rfl (ow_pick rfl rfl ?_)
    refine ops_cons rfl (ow_move rfl ?_)
    refine ops_want rfl rfl rfl (ow_move rfl ?_)
    refine ops_want rfl rfl rfl (ow_call ent16 rfl (ret_mono (iIsMT_c _ _ _ _ _ _ (oT).sl (oTn).nexts hl hz) ?_))
    rintro _ w29 ⟨rfl, x28⟩
    replace hs := hs.ext x28
    replace oT := oT.ext x28
    replace oTn := oTn.ext x28
    replace oA := oA.ext x28
    replace oB := oB.ext x28
    replace oL := oL.ext x28
    replace oC := oC.ext x28
    replace oCn := oCn.ext x28
    replace oD := oD.ext x28
    replace oDn := oDn.ext x28
    replace X := Ext.trans X x28; clear x28
    refine ops_want rfl rfl rfl (ow_move rfl ?_)
    refine ops_want rfl rfl rfl (ow_call ent17 rfl (ret_mono (sIsMT_c _ _ _ _ _ _ (oT).sl (oTn).nexts hl hz) ?_))
    rintro _ w31 ⟨rfl, x30⟩
    replace hs := hs.ext x30
    replace oT := oT.ext x30
    replace oTn := oTn.ext x30
    replace oA := oA.ext x30
    replace oB := oB.ext x30
    replace oL := oL.ext x30
    replace oC := oC.ext x30
    replace oCn := oCn.ext x30
    replace oD := oD.ext x30
    replace oDn := oDn.ext x30
    replace X := Ext.trans X x30; clear x30
    refine ops_want rfl rfl rfl (ow_neqBd2 Try.underlying4 rfl rfl (fun h32 => absurd h32 (by simp)) (fun h32 => ?_))
    refine ops_cons rfl (ow_pick rfl rfl ?_)
    refine ops_nil ?_
    refine c_false rfl ?_
    refine c_skip ?_
    refine tq_n ?_
    refine c_seq ?_
    refine c_seqR ?_
    refine ops_cons rfl (ow_move rfl ?_)
    refine ops_cons rfl (ow_eql2 rfl rfl (fun h0 => ?_) (fun h0 => ?_))
    · skip
      obtain ⟨r, hIl, hrl, hRF⟩ := readMF_zero h0
      have hrd := rdM_isMT hrl
      have hr1 : (readMF ls).2.1 = (r.2 : Int) := by rw [hRF]
      have hsl : (mtP r.1 r.1.length).length = r.2 := by rw [mtP_read hIl hrl, List.length_take]; omega
      refine ops_nil ?_
      refine c_true rfl ?_
      refine c_seqR ?_
      refine ops_cons rfl (ow_move rfl ?_)
      refine ops_cons rfl (ow_call ent9 rfl (ret_mono (iMTBl_c _ _ _ _ yC r.1 _ oC.sl oCn.nexts hsC.1 hsC.2 (by rw [emC, hRF]) hrd.1) ?_))
      rintro _ w34 ⟨A35, c36, rfl, oE, x33⟩
      replace oE := Own.low oE X.size
      replace hs := hs.ext x33
      replace oT := oT.ext x33
      replace oTn := oTn.ext x33
      replace oA := oA.ext x33
      replace oB := oB.ext x33
      replace oL := oL.ext x33
      replace oC := oC.ext x33
      replace oCn := oCn.ext x33
      replace oD := oD.ext x33
      replace oDn := oDn.ext x33
      replace X := Ext.trans X x33; clear x33
      refine ops_cons rfl (ow_move rfl ?_)
      refine ops_cons rfl (ow_extract rfl rfl ?_)
      refine ops_cons rfl (ow_extract rfl rfl ?_)
      refine ops_cons rfl (ow_assign rfl ?_)
      refine ops_cons rfl (ow_assign rfl ?_)
      refine ops_nil ?_
      refine c_seqR ?_
      refine ops_cons rfl (ow_move rfl ?_)
      refine ops_cons rfl (ow_neq2 rfl rfl (fun h37 => absurd h37 (by simp)) (fun h37 => ?_))
      refine ops_cons rfl (ow_move rfl ?_)
      refine ops_want rfl rfl rfl (ow_move rfl ?_)
      refine ops_want rfl rfl rfl (ow_move rfl ?_)
      refine ops_want rfl rfl rfl (ow_move rfl ?_)
      refine ops_want rfl rfl rfl (ow_sliceHO el26 rfl rfl (show _ = ((r.2 : Nat) : Int) by omega) (Nat.le_trans hrd.2 (Own.cap oL)) ?_)
      have oG := Own.pre oL hrd.2
      refine ops_want rfl rfl rfl (ow_call ent14 rfl (ret_mono (likeInts_n _ _ _ _ _ _ _ _ (mtP r.1 r.1.length) _ oE.sl (by have h := oG.sl; rw [flat_take eI_len, ← mtP_read hIl hrl] at h; exact h) (by omega) rfl (by omega)) ?_))
      rintro _ w40 ⟨rfl, x39⟩
      replace hs := hs.ext x39
      replace oT := oT.ext x39
      replace oTn := oTn.ext x39
      replace oA := oA.ext x39
      replace oB := oB.ext x39
      replace oC := oC.ext x39
      replace oCn := oCn.ext x39
      replace oD := oD.ext x39
      replace oDn := oDn.ext x39
      replace oE := oE.ext x39
      replace oG := oG.ext x39
      replace X := Ext.trans X x39; clear x39
      refine ops_want rfl rfl rfl (ow_not rfl ?_)
      refine ops_cons rfl (ow_pick rfl rfl ?_)
      refine ops_nil ?_
      refine c_false rfl ?_
      refine c_skip ?_
      refine tq_n ?_
      refine c_seq ?_
      refine c_seqR ?_
      refine ops_cons rfl (ow_move rfl ?_)
      refine ops_cons rfl (ow_neq2 rfl rfl (fun h5 => ?_) (fun h5 => ?_))
      · skip
        refine ops_nil ?_
        refine c_true rfl ?_
        refine c_seqR ?_
        refine ops_cons rfl (ow_assign rfl ?_)
        refine ops_nil ?_
        refine c_ret ?_
        refine tq_r ?_
        refine fin_ret1 rfl rfl ?_
        first
        | exact ⟨rfl, X⟩
        | exact ⟨congrArg Value.bool (decide_eq_true (by rw [hrb])), X⟩
      · skip
        obtain ⟨hT, hrb⟩ := resT_zero h5
        refine ops_nil ?_
        refine c_false rfl ?_
        refine c_skip ?_
        refine tq_n ?_
        refine c_seqR ?_
        have UB := fun y hy g hg => (Own.lt (oTn y hy).1 (g := g) hg).2
        refine ops_cons rfl (ow_buildSlice el26 ti2 rfl rfl rfl rfl rfl ?_)
        intro gI w42 egI oI bbgI x41 zgI
        replace oI := Own.low oI X.size
        replace hs := hs.ext x41
        replace oT := oT.ext x41
        replace oTn := oTn.ext x41
        replace oA := oA.ext x41
        replace X := Ext.trans X x41; clear x41
        have sp1 : ∀ y ∈ ys, ∀ g, (Value.slice (some ⟨gI, 0, none⟩) 0 0).ownBlock = some g → y.blk ≠ some g := fun y hy g hg e => by
          have h1 := UB y hy g e
          have h2 : gI = g := by injection hg
          omega
        refine ops_cons rfl (ow_move rfl ?_)
        have UB2 := fun y hy g hg => (Own.lt (oTn y hy).1 (g := g) hg).2
        refine ops_cons rfl (ow_appendW (ts := #[]) oI X.size oA.sl (by rw [flat_len eI_len]; try omega) (one_ints _) el26 ti2 rfl rfl rfl rfl (by omega) (by omega) ?_)
        intro AoJ coJ w44 oJ hg43 hW1
        replace hs := hs.grown hg43 (fun g hg => Nat.le_trans Bhs (Own.lt oI hg).1)
        replace oT := oT.grown hg43 (Own.neO oT oI (by decide))
        replace oTn := oTn.grownX hg43 sp1
        replace X := X.grown hg43 X.size (fun g hg => (Own.lt oI hg).1)
        clear hg43
        have sp2 := fun y hy => apart_l (sp1 y hy) hW1 (UB2 y hy)
        refine ops_cons rfl (ow_buildSlice el26 ti2 rfl rfl rfl rfl rfl ?_)
        intro g45 w47 eg45 oV bbg45 x46 zg45
        replace oV := Own.low oV X.size
        replace hs := hs.ext x46
        replace oT := oT.ext x46
        replace oTn := oTn.ext x46
        replace oJ := oJ.ext x46
        replace X := Ext.trans X x46; clear x46
        refine ops_cons rfl (ow_append (ts := #[]) oJ X.size oV.sl (by first | rfl | simp) (by first | exact List.all_eq_true.1 rfl | simp [Value.oneCell']) el26 ti2 rfl rfl rfl rfl (by omega) (by omega) ?_)
        intro AoK coK w49 oK hg48
        replace hs := hs.grown hg48 (fun g hg => Nat.le_trans Bhs (Own.lt oJ hg).1)
        replace oT := oT.grown hg48 (Own.neO oT oJ (by decide))
        replace oTn := oTn.grownX hg48 sp2
        replace X := X.grown hg48 X.size (fun g hg => (Own.lt oJ hg).1)
        clear hg48
        replace oK := oK.to (cs' := (mtP (ys.map fun (x : ModeI) => x.m) (ys.map fun (x : ModeI) => x.m).length ++ [7]).flatMap eI) (by rw [List.flatMap_append, ← hrb]; rfl)
        refine ops_cons rfl (ow_call ent12 rfl (ret_mono (iReadBackM_c _ _ _ _ (ys.map (fun (x : ModeI) => x.m)) _ oK.sl hT (by rw [hrb]; omega) oK.cap) ?_))
        rintro _ w51 ⟨A52, c53, yR, rfl, emR, hdR, oR, oRn, x50⟩
        replace oR := Own.low oR X.size
        replace oRn := NOwn.low oRn X.size
        replace hs := hs.ext x50
        replace oT := oT.ext x50
        replace oTn := oTn.ext x50
        replace oK := oK.ext x50
        replace X := Ext.trans X x50; clear x50
        refine ops_cons rfl (ow_move rfl ?_)
        refine ops_cons rfl (ow_extract rfl rfl ?_)
        refine ops_cons rfl (ow_extract rfl rfl ?_)
        refine ops_cons rfl (ow_extract rfl rfl ?_)
        refine ops_cons rfl (ow_assign rfl ?_)
        refine ops_cons rfl (ow_assign rfl ?_)
        refine ops_cons rfl (ow_assign rfl ?_)
        refine ops_nil ?_
        refine c_seqR ?_
        refine ops_cons rfl (ow_move rfl ?_)
        refine ops_cons rfl (ow_eql2 rfl rfl (fun h54 => ?_) (fun h54 => absurd h54 (by simp)))
        refine ops_cons rfl (ow_move rfl ?_)
        refine ops_want rfl rfl rfl (ow_move rfl ?_)
        refine ops_want rfl rfl rfl (ow_move rfl ?_)
        refine ops_want rfl rfl rfl (ow_call ent15 rfl (ret_mono (likeModes_c _ _ _ _ _ _ _ _ yR ys _ oR.sl oRn.nexts oT.sl oTn.nexts emR (by have := congrArg List.length emR; simp at this; omega) (hz_of emR hz)) ?_))
        rintro _ w56 ⟨rfl, x55⟩
        replace hs := hs.ext x55
        replace oT := oT.ext x55
        replace oTn := oTn.ext x55
        replace oK := oK.ext x55
        replace oR := oR.ext x55
        replace oRn := oRn.ext x55
        replace X := Ext.trans X x55; clear x55
        refine ops_cons rfl (ow_pick rfl rfl ?_)
        refine ops_cons rfl (ow_move rfl ?_)
        refine ops_want rfl rfl rfl (ow_move rfl ?_)
        refine ops_want rfl rfl rfl (ow_move rfl ?_)
        refine ops_want rfl rfl rfl (ow_len Try.underlying26 rfl ?_)
        refine ops_want rfl rfl rfl (ow_eql rfl rfl ?_)
        refine ops_cons rfl (ow_pick rfl rfl ?_)
        refine ops_cons rfl (ow_assign rfl ?_)
        refine ops_nil ?_
        refine c_ret ?_
        refine fin_ret1 rfl rfl ?_
        first
        | exact ⟨rfl, X⟩
        | exact ⟨congrArg Value.bool (decide_eq_true (by rw [hrb])), X⟩
    · skip
      refine ops_nil ?_
      refine c_false rfl ?_
      refine c_skip ?_
      refine tq_n ?_
      refine c_seq ?_
      refine c_seqR ?_
      refine ops_cons rfl (ow_move rfl ?_)
      refine ops_cons rfl (ow_neq2 rfl rfl (fun h5 => ?_) (fun h5 => ?_))
      · skip
        refine ops_nil ?_
        refine c_true rfl ?_
        refine c_seqR ?_
        refine ops_cons rfl (ow_assign rfl ?_)
        refine ops_nil ?_
        refine c_ret ?_
        refine tq_r ?_
        refine fin_ret1 rfl rfl ?_
        first
        | exact ⟨rfl, X⟩
        | exact ⟨congrArg Value.bool (decide_eq_true (by rw [hrb])), X⟩
      · skip
        obtain ⟨hT, hrb⟩ := resT_zero h5
        refine ops_nil ?_
        refine c_false rfl ?_
        refine c_skip ?_
        refine tq_n ?_
        refine c_seqR ?_
        have UB := fun y hy g hg => (Own.lt (oTn y hy).1 (g := g) hg).2
        refine ops_cons rfl (ow_buildSlice el26 ti2 rfl rfl rfl rfl rfl ?_)
        intro gI w58 egI oI bbgI x57 zgI
        replace oI := Own.low oI X.size
        replace hs := hs.ext x57
        replace oT := oT.ext x57
        replace oTn := oTn.ext x57
        replace oA := oA.ext x57
        replace X := Ext.trans X x57; clear x57
        have sp1 : ∀ y ∈ ys, ∀ g, (Value.slice (some ⟨gI, 0, none⟩) 0 0).ownBlock = some g → y.blk ≠ some g := fun y hy g hg e => by
          have h1 := UB y hy g e
          have h2 : gI = g := by injection hg
          omega
        refine ops_cons rfl (ow_move rfl ?_)
        have UB2 := fun y hy g hg => (Own.lt (oTn y hy).1 (g := g) hg).2
        refine ops_cons rfl (ow_appendW (ts := #[]) oI X.size oA.sl (by rw [flat_len eI_len]; try omega) (one_ints _) el26 ti2 rfl rfl rfl rfl (by omega) (by omega) ?_)
        intro AoJ coJ w60 oJ hg59 hW1
        replace hs := hs.grown hg59 (fun g hg => Nat.le_trans Bhs (Own.lt oI hg).1)
        replace oT := oT.grown hg59 (Own.neO oT oI (by decide))
        replace oTn := oTn.grownX hg59 sp1
        replace X := X.grown hg59 X.size (fun g hg => (Own.lt oI hg).1)
        clear hg59
        have sp2 := fun y hy => apart_l (sp1 y hy) hW1 (UB2 y hy)
        refine ops_cons rfl (ow_buildSlice el26 ti2 rfl rfl rfl rfl rfl ?_)
        intro g61 w63 eg61 oV bbg61 x62 zg61
        replace oV := Own.low oV X.size
        replace hs := hs.ext x62
        replace oT := oT.ext x62
        replace oTn := oTn.ext x62
        replace oJ := oJ.ext x62
        replace X := Ext.trans X x62; clear x62
        refine ops_cons rfl (ow_append (ts := #[]) oJ X.size oV.sl (by first | rfl | simp) (by first | exact List.all_eq_true.1 rfl | simp [Value.oneCell']) el26 ti2 rfl rfl rfl rfl (by omega) (by omega) ?_)
        intro AoK coK w65 oK hg64
        replace hs := hs.grown hg64 (fun g hg => Nat.le_trans Bhs (Own.lt oJ hg).1)
        replace oT := oT.grown hg64 (Own.neO oT oJ (by decide))
        replace oTn := oTn.grownX hg64 sp2
        replace X := X.grown hg64 X.size (fun g hg => (Own.lt oJ hg).1)
        clear hg64
        replace oK := oK.to (cs' := (mtP (ys.map fun (x : ModeI) => x.m) (ys.map fun (x : ModeI) => x.m).length ++ [7]).flatMap eI) (by rw [List.flatMap_append, ← hrb]; rfl)
        refine ops_cons rfl (ow_call ent12 rfl (ret_mono (iReadBackM_c _ _ _ _ (ys.map (fun (x : ModeI) => x.m)) _ oK.sl hT (by rw [hrb]; omega) oK.cap) ?_))
        rintro _ w67 ⟨A68, c69, yR, rfl, emR, hdR, oR, oRn, x66⟩
        replace oR := Own.low oR X.size
        replace oRn := NOwn.low oRn X.size
        replace hs := hs.ext x66
        replace oT := oT.ext x66
        replace oTn := oTn.ext x66
        replace oK := oK.ext x66
        replace X := Ext.trans X x66; clear x66
        refine ops_cons rfl (ow_move rfl ?_)
        refine ops_cons rfl (ow_extract rfl rfl ?_)
        refine ops_cons rfl (ow_extract rfl rfl ?_)
        refine ops_cons rfl (ow_extract rfl rfl ?_)
        refine ops_cons rfl (ow_assign rfl ?_)
        refine ops_cons rfl (ow_assign rfl ?_)
        refine ops_cons rfl (ow_assign rfl ?_)
        refine ops_nil ?_
        refine c_seqR ?_
        refine ops_cons rfl (ow_move rfl ?_)
        refine ops_cons rfl (ow_eql2 rfl rfl (fun h70 => ?_) (fun h70 => absurd h70 (by simp)))
        refine ops_cons rfl (ow_move rfl ?_)
        refine ops_want rfl rfl rfl (ow_move rfl ?_)
        refine ops_want rfl rfl rfl (ow_move rfl ?_)
        refine ops_want rfl rfl rfl (ow_call ent15 rfl (ret_mono (likeModes_c _ _ _ _ _ _ _ _ yR ys _ oR.sl oRn.nexts oT.sl oTn.nexts emR (by have := congrArg List.length emR; simp at this; omega) (hz_of emR hz)) ?_))
        rintro _ w72 ⟨rfl, x71⟩
        replace hs := hs.ext x71
        replace oT := oT.ext x71
        replace oTn := oTn.ext x71
        replace oK := oK.ext x71
        replace oR := oR.ext x71
        replace oRn := oRn.ext x71
        replace X := Ext.trans X x71; clear x71
        refine ops_cons rfl (ow_pick rfl rfl ?_)
        refine ops_cons rfl (ow_move rfl ?_)
        refine ops_want rfl rfl rfl (ow_move rfl ?_)
        refine ops_want rfl rfl rfl (ow_move rfl ?_)
        refine ops_want rfl rfl rfl (ow_len Try.underlying26 rfl ?_)
        refine ops_want rfl rfl rfl (ow_eql rfl rfl ?_)
        refine ops_cons rfl (ow_pick rfl rfl ?_)
        refine ops_cons rfl (ow_assign rfl ?_)
        refine ops_nil ?_
        refine c_ret ?_
        refine fin_ret1 rfl rfl ?_
        first
        | exact ⟨rfl, X⟩
        | exact ⟨congrArg Value.bool (decide_eq_true (by rw [hrb])), X⟩
set_option maxRecDepth 100000

theorem fnModeTables_lifted (os : Os) (started : os.Started) (H : Type) (enc : TypeId × Value → H) :
    ReturnsInHanded {} Try.checked os 3 .any (Rows.fnModeTablesSpec.pre6 enc Try.prog Try.f3 Rows.fnModeTablesRow.domain false) (Rows.fnModeTablesSpec.post enc Try.prog Try.f3 false true false false) := by
  refine returnsInHanded_of_change (C := Try.checked) law_own started (by kernel_rfl) Try.func3
    (ChangeSpec.witness6 (enc := enc) (C := Try.checked) false ⟨#[], #[.slice none 0 0], []⟩ 8 (by kernel_rfl) (by kernel_rfl) (by kernel_rfl) (by kernel_rfl)) ?_
  intro W base args ds gs before hval0 hW hcnd _
  have hval : ∀ (j : Nat) t v, Try.f3.params[j]? = some t → args[j]? = some v → Value.okWide Try.prog W .any base t v := hval0
  have hW' := hW
  obtain ⟨p, q, hA0, hV, rfl, hfz, hnd⟩ := hW
  have hA : DataW.TrodAll enc Try.prog W 0 (fun _ => true) true Try.f3.params.toList args.toList ds p := hA0
  rw [Try.params3] at hA hval
  obtain ⟨rfl, rfl⟩ := trodVars_none hV
  obtain ⟨v0, vs0, d0, ds0, p0, q0, hargs, rfl, rfl, h0, r0⟩ := trodAll_cons hA
  obtain ⟨rfl, rfl, rfl⟩ := trodAll_nil r0
  obtain rfl : args = #[v0] := by cases args; simp_all
  obtain ⟨a0, l0, k0, rfl⟩ := okWide_slice Try.underlying22 (hval 0 22 v0 rfl rfl)
  obtain ⟨m0, x0, t0⟩ := cell_of rfl h0
  obtain ⟨Abs, bs, cbs, ebs, sbs, wbs, lbs⟩ := open_sl (s := 1) Try.underlying22 (by kernel_rfl) eB_len (by omega) (fun _ _ _ h => open_u8 Try.underlying5 h) t0
  rw [ebs]
  refine Calls.mono (law_FnModeTables _ _ _ bs W sbs lbs) fun e W' h => ?_
  cases e <;> first | exact h.elim | skip
  obtain ⟨rfl, hb⟩ := h
  exact ⟨_, rfl, law_post law_laid (by kernel_rfl) rfl rfl Try.underlying4 (by rw [← ebs]; exact hW') rfl hb⟩

theorem fnModeTables_holds : Rows.FnModeTablesSaid :=
  OpenClaim.holds_of_wide 3 Try.f3 rfl rfl rfl rfl rfl rfl rfl ⟨rfl, rfl, rfl, rfl, rfl⟩ rfl rfl rfl rfl rfl (by kernel_rfl) Try.func3 (by kernel_rfl)
    (of_decide_eq_true (by kernel_rfl)) (by unfold Func.isWrapper; rw [if_neg (of_decide_eq_false (by kernel_rfl))]; exact ⟨rfl, rfl⟩)
    (fun os started H enc _ => fnModeTables_lifted os started H enc)
end Go.Proofs.Ytojgfbbdjobdnaa
