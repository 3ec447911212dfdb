/- What modes are reached, and how. No condition. -/
import Derived.Test.YtimabffnoanciaaDP
namespace Go.Proofs.Ytimabffnoanciaa
open Go.RowKit
set_option linter.unusedVariables false
set_option linter.unusedSimpArgs false
set_option maxRecDepth 20000
theorem sReach_c (A : Option Addr) (B B2 c : Nat) (xs : List ModeI) (fr : Int) (w : World) (hs : Sl B w A (xs.flatMap ModeI.cells)) (hn : Nexts B2 w xs) (hl : xs.length ≤ 1048576) (hz : ∀ x ∈ xs, x.m.next.length ≤ 1048576) :
    Calls Try.prog 43 #[.slice A xs.length c, .int .i64 fr] w (Ret fun v w' => ∃ A' c', v = .tuple #[.slice A' (resR (xs.map (·.m)) fr).1.length c', .int .i64 (resR (xs.map (·.m)) fr).2] ∧ Own w' w.heap.size 2 1 A' (resR (xs.map (·.m)) fr).1.length c' ((resR (xs.map (·.m)) fr).1.flatMap eI) ∧ Ext w w') := by
  have elm : (xs.map (·.m)).length = xs.length := List.length_map ..
  have Bhs := hs.1
  have Bhn := hn.1
  have X := Ext.refl w
  refine calls_of (args := [.slice A xs.length c, .int .i64 fr]) Try.func43 Try.ntmps43 rfl rfl ?_
  refine c_seqR ?_
  refine ops_cons rfl (ow_assign rfl ?_)
  refine ops_cons rfl (ow_assign rfl ?_)
  refine ops_nil ?_
  refine c_seq ?_
  refine c_seqR ?_
  refine ops_cons rfl (ow_move rfl ?_)
  refine ops_cons rfl (ow_callB ent89 rfl (sIsMT_c _ _ _ _ _ _ hs hn hl hz) (fun w2 hT x1 => ?_) (fun w2 hT x1 => ?_))
  · skip
    replace hs := hs.ext x1
    replace hn := hn.ext x1
    replace X := Ext.trans X x1; clear x1
    refine ops_cons rfl (ow_not rfl ?_)
    refine ops_nil ?_
    refine c_false rfl ?_
    refine c_skip ?_
    refine tq_n ?_
    refine c_seq ?_
    refine c_seqR ?_
    refine ops_cons rfl (ow_move rfl ?_)
    refine ops_cons rfl (ow_move rfl ?_)
    refine ops_cons rfl (ow_callB ent90 rfl (l11Mode_c _ _ _ _ _ hl) (fun w4 hF x3 => ?_) (fun w4 hF x3 => ?_))
    · skip
      replace hs := hs.ext x3
      replace hn := hn.ext x3
      replace X := Ext.trans X x3; clear x3
      have hT' := hT
      have hl6 := isMT_len hT
      rw [elm] at hl6
      have hfI := inB_iff.1 hF
      refine ops_cons rfl (ow_not rfl ?_)
      refine ops_nil ?_
      refine c_false rfl ?_
      refine c_skip ?_
      refine tq_n ?_
      refine c_seqR ?_
      refine ops_cons rfl (ow_buildSlice el24 ti2 rfl rfl rfl rfl rfl ?_)
      intro gO w6 egO oT bbgO x5 zgO
      replace oT := Own.low oT X.size
      replace hs := hs.ext x5
      replace hn := hn.ext x5
      replace X := Ext.trans X x5; clear x5
      refine ops_cons rfl (ow_assign rfl ?_)
      refine ops_nil ?_
      refine c_seq ?_
      refine c_seqR ?_
      refine ops_cons rfl (ow_assign rfl ?_)
      refine ops_nil ?_
      refine c_block ?_
      refine c_loop (G := Nat × Nat × Option Addr × Nat) (fun ⟨k, n1, A1, c1⟩ => [(0, .slice A xs.length c), (1, .int .i64 fr), (4, .slice none 0 0), (5, .int .i64 0), (6, .slice A1 n1 c1), (7, .int .i64 (k : Nat))]) (fun ⟨k, n1, A1, c1⟩ wr => k ≤ xs.length ∧ n1 = (reachG (xs.map (·.m)) fr k).length ∧ Own wr w.heap.size 2 1 A1 n1 c1 ((reachG (xs.map (·.m)) fr k).flatMap eI) ∧ Sl B wr A (xs.flatMap ModeI.cells) ∧ Nexts B2 wr xs ∧ Ext w wr) (fun ⟨k, n1, A1, c1⟩ => xs.length - k) (0, 0, some ⟨gO, 0, none⟩, 0) (.cons rfl (.cons rfl (.cons rfl (.cons rfl (.cons rfl (.cons rfl (.nil _))))))) ?_ ?_
      · exact ⟨by omega, rfl, oT, hs, hn, X⟩
      clear hs hn oT
      clear X
      rintro ⟨k, n1, A1, c1⟩ wr ⟨hk0, hn1, oT, hs, hn, X⟩
      refine c_seq ?_
      refine c_seqR ?_
      refine ops_cons rfl (ow_move rfl ?_)
      refine ops_cons rfl (ow_move rfl ?_)
      refine ops_cons rfl (ow_len Try.underlying60 rfl ?_)
      refine ops_cons rfl (ow_lss2 rfl rfl (fun hk => ?_) (fun hk => ?_))
      · skip
        have hlD := dst_len (ms := (xs.map (·.m))) (to := k) (by rw [elm]; omega)
        rw [elm] at hlD
        obtain ⟨v, hv⟩ : ∃ v, (dst (xs.map (·.m)) k)[fr.toNat]? = some v := ⟨_, List.getElem?_eq_getElem (by omega)⟩
        have hnl := reachG_len (xs.map (·.m)) fr k
        have hgd : (dst (xs.map (·.m)) k).getD fr.toNat (-1) = v := by rw [List.getD_eq_getElem?_getD, hv]; rfl
        refine ops_nil ?_
        refine c_true rfl ?_
        refine c_skip ?_
        refine tq_n ?_
        refine c_seq ?_
        refine c_block ?_
        refine c_seqR ?_
        refine ops_cons rfl (ow_move rfl ?_)
        refine ops_cons rfl (ow_move rfl ?_)
        refine ops_cons rfl (ow_call ent91 rfl (ret_mono (l11Dist_c _ _ _ _ xs (k : Int) _ hs hn hl hz hT (by omega)) ?_))
        rintro _ w8 ⟨A9, c10, rfl, oD, x7⟩
        replace oD := Own.low oD X.size
        replace oT := oT.ext x7
        replace hs := hs.ext x7
        replace hn := hn.ext x7
        replace X := Ext.trans X x7; clear x7
        rw [Int.toNat_natCast] at oD ⊢
        refine ops_cons rfl (ow_move rfl ?_)
        refine ops_cons rfl (ow_indexT (oD).sl eI_len rfl el24 rfl rfl rfl hv (by omega) ?_)
        refine ops_cons rfl (ow_loadT (oD).sl eI_len hv ti2 rfl rfl rfl ?_)
        refine ops_cons rfl (ow_geq2 rfl rfl (fun hyes0 => ?_) (fun hyes0 => ?_))
        · skip
          have hyes := hyes0
          rw [← hgd] at hyes
          refine ops_nil ?_
          refine c_true rfl ?_
          refine c_region ?_
          refine ops_cons rfl (ow_move rfl ?_)
          refine ops_cons rfl (ow_move rfl ?_)
          refine ops_cons rfl (ow_buildSlice el24 ti2 rfl rfl rfl rfl rfl ?_)
          intro g11 w13 eg11 oV bbg11 x12 zg11
          replace oV := Own.low oV X.size
          replace oT := oT.ext x12
          replace hs := hs.ext x12
          replace hn := hn.ext x12
          replace X := Ext.trans X x12; clear x12
          replace oV := oV.to (cs' := ([(k : Int)] : List Int).flatMap eI) rfl
          refine ops_cons rfl (ow_append (ts := #[]) oT X.size oV.sl (by first | rfl | simp) (by first | exact List.all_eq_true.1 rfl | simp [Value.oneCell']) el24 ti2 rfl rfl rfl rfl (by omega) (by omega) ?_)
          intro AoN coN w15 oN hg14
          replace hs := hs.grown hg14 (fun g hg => Nat.le_trans Bhs (Own.lt oT hg).1)
          replace hn := hn.grown hg14 (fun g hg => Nat.le_trans Bhn (Own.lt oT hg).1)
          replace X := X.grown hg14 X.size (fun g hg => (Own.lt oT hg).1)
          clear hg14
          refine ops_cons rfl (ow_assign rfl ?_)
          refine ops_nil ?_
          refine bq_n ?_
          refine tq_n ?_
          refine c_region ?_
          refine ops_cons rfl (ow_move rfl ?_)
          refine ops_cons rfl (ow_add rfl rfl (w64 (by omega)) ?_)
          refine ops_cons rfl (ow_assign rfl ?_)
          refine ops_nil ?_
          refine tq_n ⟨(k + 1, n1 + 1, AoN, coN), (.cons rfl (.cons rfl (.cons rfl (.cons rfl (.cons rfl (.cons rfl (.nil _))))))), ?_, ?_⟩
          · exact ⟨by omega, (by rw [reachG_yes (by first | exact hyes | exact hno)]; simp [hn1]), oN.to (by rw [reachG_yes hyes, List.flatMap_append]), hs, hn, X⟩
          · first | omega | (dsimp only; omega)
        · skip
          have hno : v < 0 := by omega
          rw [← hgd] at hno
          refine ops_nil ?_
          refine c_false rfl ?_
          refine c_skip ?_
          refine bq_n ?_
          refine tq_n ?_
          refine c_region ?_
          refine ops_cons rfl (ow_move rfl ?_)
          refine ops_cons rfl (ow_add rfl rfl (w64 (by omega)) ?_)
          refine ops_cons rfl (ow_assign rfl ?_)
          refine ops_nil ?_
          refine tq_n ⟨(k + 1, n1, A1, c1), (.cons rfl (.cons rfl (.cons rfl (.cons rfl (.cons rfl (.cons rfl (.nil _))))))), ?_, ?_⟩
          · exact ⟨by omega, (by rw [reachG_no (by first | exact hyes | exact hno)]; simp [hn1]), oT.to (by rw [reachG_no hno]), hs, hn, X⟩
          · first | omega | (dsimp only; omega)
      · skip
        obtain rfl : k = xs.length := by omega
        refine ops_nil ?_
        refine c_false rfl ?_
        refine c_exit ?_
        refine tq_e ?_
        refine tq_e ?_
        refine bq_e ?_
        refine tq_n ?_
        refine c_seqR ?_
        refine ops_cons rfl (ow_move rfl ?_)
        refine ops_cons rfl (ow_assign rfl ?_)
        refine ops_cons rfl (ow_assign rfl ?_)
        refine ops_nil ?_
        refine c_ret ?_
        refine fin_ret2 rfl rfl rfl ?_
        first
        | (have e : (resR (xs.map (·.m)) fr) = (reachG (xs.map (·.m)) fr xs.length, 0) := by rw [resR, if_pos hT, elm, if_pos hF]
           rw [e]; exact ⟨A1, c1, by rw [hn1], by rw [hn1] at oT; exact oT, X⟩)
        | (have e : (resR (xs.map (·.m)) fr) = ([], 2) := by rw [resR, if_pos hT, elm, if_neg (fun h => absurd (hF.symm.trans h) Bool.false_ne_true)]
           rw [e]; exact ⟨none, 0, rfl, Own.nil_ _ _ _ _, X⟩)
        | (have e : (resR (xs.map (·.m)) fr) = ([], 1) := by rw [resR, if_neg (fun h => absurd (hT.symm.trans h) Bool.false_ne_true)]
           rw [e]; exact ⟨none, 0, rfl, Own.nil_ _ _ _ _, X⟩)
        | (have e := resR_code hC
           rw [e]; exact ⟨none, 0, rfl, Own.nil_ _ _ _ _, X⟩)
    · skip
      replace hs := hs.ext x3
      replace hn := hn.ext x3
      replace X := Ext.trans X x3; clear x3
      refine ops_cons rfl (ow_not rfl ?_)
      refine ops_nil ?_
      refine c_true rfl ?_
      refine c_seqR ?_
      refine ops_cons rfl (ow_assign rfl ?_)
      refine ops_cons rfl (ow_assign rfl ?_)
      refine ops_nil ?_
      refine c_ret ?_
      refine tq_r ?_
      refine fin_ret2 rfl rfl rfl ?_
      first
      | (have e : (resR (xs.map (·.m)) fr) = (reachG (xs.map (·.m)) fr xs.length, 0) := by rw [resR, if_pos hT, elm, if_pos hF]
         rw [e]; exact ⟨A1, c1, by rw [hn1], by rw [hn1] at oT; exact oT, X⟩)
      | (have e : (resR (xs.map (·.m)) fr) = ([], 2) := by rw [resR, if_pos hT, elm, if_neg (fun h => absurd (hF.symm.trans h) Bool.false_ne_true)]
         rw [e]; exact ⟨none, 0, rfl, Own.nil_ _ _ _ _, X⟩)
      | (have e : (resR (xs.map (·.m)) fr) = ([], 1) := by rw [resR, if_neg (fun h => absurd (hT.symm.trans h) Bool.false_ne_true)]
         rw [e]; exact ⟨none, 0, rfl, Own.nil_ _ _ _ _, X⟩)
      | (have e := resR_code hC
         rw [e]; exact ⟨none, 0, rfl, Own.nil_ _ _ _ _, X⟩)
  · skip
    replace hs := hs.ext x1
    replace hn := hn.ext x1
    replace X := Ext.trans X x1; clear x1
    refine ops_cons rfl (ow_not rfl ?_)
    refine ops_nil ?_
    refine c_true rfl ?_
    refine c_seqR ?_
    refine ops_cons rfl (ow_assign rfl ?_)
    refine ops_cons rfl (ow_assign rfl ?_)
    refine ops_nil ?_
    refine c_ret ?_
    refine tq_r ?_
    refine fin_ret2 rfl rfl rfl ?_
    first
    | (have e : (resR (xs.map (·.m)) fr) = (reachG (xs.map (·.m)) fr xs.length, 0) := by rw [resR, if_pos hT, elm, if_pos hF]
       rw [e]; exact ⟨A1, c1, by rw [hn1], by rw [hn1] at oT; exact oT, X⟩)
    | (have e : (resR (xs.map (·.m)) fr) = ([], 2) := by rw [resR, if_pos hT, elm, if_neg (fun h => absurd (hF.symm.trans h) Bool.false_ne_true)]
       rw [e]; exact ⟨none, 0, rfl, Own.nil_ _ _ _ _, X⟩)
    | (have e : (resR (xs.map (·.m)) fr) = ([], 1) := by rw [resR, if_neg (fun h => absurd (hT.symm.trans h) Bool.false_ne_true)]
       rw [e]; exact ⟨none, 0, rfl, Own.nil_ _ _ _ _, X⟩)
    | (have e := resR_code hC
       rw [e]; exact ⟨none, 0, rfl, Own.nil_ _ _ _ _, X⟩)

theorem iReach_c (A : Option Addr) (B B2 c : Nat) (xs : List ModeI) (fr : Int) (w : World) (hs : Sl B w A (xs.flatMap ModeI.cells)) (hn : Nexts B2 w xs) (hl : xs.length ≤ 1048576) (hz : ∀ x ∈ xs, x.m.next.length ≤ 1048576) :
    Calls Try.prog 45 #[.slice A xs.length c, .int .i64 fr] w (Ret fun v w' => ∃ A' c', v = .tuple #[.slice A' (resR (xs.map (·.m)) fr).1.length c', .int .i64 (resR (xs.map (·.m)) fr).2] ∧ Own w' w.heap.size 2 1 A' (resR (xs.map (·.m)) fr).1.length c' ((resR (xs.map (·.m)) fr).1.flatMap eI) ∧ Ext w w') := by
  have elm : (xs.map (·.m)).length = xs.length := List.length_map ..
  have Bhs := hs.1
  have Bhn := hn.1
  have X := Ext.refl w
  refine calls_of (args := [.slice A xs.length c, .int .i64 fr]) Try.func45 Try.ntmps45 rfl rfl ?_
  refine c_seqR ?_
  refine ops_cons rfl (ow_assign rfl ?_)
  refine ops_cons rfl (ow_assign rfl ?_)
  refine ops_nil ?_
  refine c_seq ?_
  refine c_seqR ?_
  refine ops_cons rfl (ow_move rfl ?_)
  refine ops_cons rfl (ow_move rfl ?_)
  refine ops_cons rfl (ow_buildSlice el24 ti2 rfl rfl rfl rfl rfl ?_)
  intro g1 w3 eg1 oB bbg1 x2 zg1
  replace oB := Own.low oB X.size
  replace hs := hs.ext x2
  replace hn := hn.ext x2
  replace X := Ext.trans X x2; clear x2
  replace oB := oB.to (cs' := ([fr] : List Int).flatMap eI) rfl
  refine ops_cons rfl (ow_call ent93 rfl (ret_mono (modesCode_c _ _ _ _ _ _ _ xs [fr] _ hs hn hl hz oB.sl (by simp)) ?_))
  rintro _ w5 ⟨rfl, x4⟩
  replace hs := hs.ext x4
  replace hn := hn.ext x4
  replace oB := oB.ext x4
  replace X := Ext.trans X x4; clear x4
  refine ops_cons rfl (ow_assign rfl ?_)
  refine ops_nil ?_
  refine c_seqR ?_
  refine ops_cons rfl (ow_move rfl ?_)
  refine ops_cons rfl (ow_neq2 rfl rfl (fun hC => ?_) (fun hC => ?_))
  · skip
    refine ops_nil ?_
    refine c_true rfl ?_
    refine c_seqR ?_
    refine ops_cons rfl (ow_move rfl ?_)
    refine ops_cons rfl (ow_assign rfl ?_)
    refine ops_cons rfl (ow_assign rfl ?_)
    refine ops_nil ?_
    refine c_ret ?_
    refine tq_r ?_
    refine fin_ret2 rfl rfl rfl ?_
    first
    | (have e : (resR (xs.map (·.m)) fr) = (reachG (xs.map (·.m)) fr xs.length, 0) := by rw [resR, if_pos hT, elm, if_pos hF]
       rw [e]; exact ⟨A1, c1, by rw [hn1], by rw [hn1] at oT; exact oT, X⟩)
    | (have e : (resR (xs.map (·.m)) fr) = ([], 2) := by rw [resR, if_pos hT, elm, if_neg (fun h => absurd (hF.symm.trans h) Bool.false_ne_true)]
       rw [e]; exact ⟨none, 0, rfl, Own.nil_ _ _ _ _, X⟩)
    | (have e : (resR (xs.map (·.m)) fr) = ([], 1) := by rw [resR, if_neg (fun h => absurd (hT.symm.trans h) Bool.false_ne_true)]
       rw [e]; exact ⟨none, 0, rfl, Own.nil_ _ _ _ _, X⟩)
    | (have e := resR_code hC
       rw [e]; exact ⟨none, 0, rfl, Own.nil_ _ _ _ _, X⟩)
  · skip
    have hT : isMT (xs.map (·.m)) = true := by
      cases h : isMT (xs.map (·.m))
      · rw [mcode, if_neg (by simp [h])] at hC; omega
      · rfl
    have hAll : ([fr] : List Int).all (fun x => inB x 0 ((xs.length : Int) - 1)) = true := by
      cases h : ([fr] : List Int).all (fun x => inB x 0 ((xs.length : Int) - 1))
      · rw [mcode, if_pos hT, elm, if_neg (by rw [h]; simp)] at hC; omega
      · rfl
    have hF : inB fr 0 ((xs.length : Int) - 1) = true := by simpa using hAll
    have hT' := hT
    have hl6 := isMT_len hT
    rw [elm] at hl6
    have hfI := inB_iff.1 hF
    refine ops_nil ?_
    refine c_false rfl ?_
    refine c_skip ?_
    refine tq_n ?_
    refine c_seqR ?_
    refine ops_cons rfl (ow_buildSlice el24 ti2 rfl rfl rfl rfl rfl ?_)
    intro gO w7 egO oT bbgO x6 zgO
    replace oT := Own.low oT X.size
    replace hs := hs.ext x6
    replace hn := hn.ext x6
    replace X := Ext.trans X x6; clear x6
    refine ops_cons rfl (ow_assign rfl ?_)
    refine ops_nil ?_
    refine c_seq ?_
    refine c_seqR ?_
    refine ops_cons rfl (ow_move rfl ?_)
    refine ops_cons rfl (ow_len Try.underlying60 rfl ?_)
    refine ops_cons rfl (ow_move rfl ?_)
    refine ops_nil ?_
    refine c_block ?_
    refine c_loop (G := Nat × Nat × Option Addr × Nat) (fun ⟨k, n1, A1, c1⟩ => [(0, .slice A xs.length c), (1, .int .i64 fr), (4, .slice none 0 0), (5, .int .i64 0), (18, .int .i64 (xs.length : Nat)), (7, .slice A1 n1 c1), (19, .int .i64 (k : Nat))]) (fun ⟨k, n1, A1, c1⟩ wr => k ≤ xs.length ∧ n1 = (reachG (xs.map (·.m)) fr k).length ∧ Own wr w.heap.size 2 1 A1 n1 c1 ((reachG (xs.map (·.m)) fr k).flatMap eI) ∧ Sl B wr A (xs.flatMap ModeI.cells) ∧ Nexts B2 wr xs ∧ Ext w wr) (fun ⟨k, n1, A1, c1⟩ => xs.length - k) (0, 0, some ⟨gO, 0, none⟩, 0) (.cons rfl (.cons rfl (.cons rfl (.cons rfl (.cons rfl (.cons rfl (.cons rfl (.nil _)))))))) ?_ ?_
    · exact ⟨by omega, rfl, oT, hs, hn, X⟩
    clear hs hn oT
    clear X
    rintro ⟨k, n1, A1, c1⟩ wr ⟨hk0, hn1, oT, hs, hn, X⟩
    refine c_seqR ?_
    refine ops_cons rfl (ow_lss2 rfl rfl (fun hk => ?_) (fun hk => ?_))
    · skip
      have hlD := dst_len (ms := (xs.map (·.m))) (to := k) (by rw [elm]; omega)
      rw [elm] at hlD
      obtain ⟨v, hv⟩ : ∃ v, (dst (xs.map (·.m)) k)[fr.toNat]? = some v := ⟨_, List.getElem?_eq_getElem (by omega)⟩
      have hnl := reachG_len (xs.map (·.m)) fr k
      have hgd : (dst (xs.map (·.m)) k).getD fr.toNat (-1) = v := by rw [List.getD_eq_getElem?_getD, hv]; rfl
      refine ops_nil ?_
      refine c_seq ?_
      refine c_true rfl ?_
      refine c_skip ?_
      refine tq_n ?_
      refine c_seq ?_
      refine c_block ?_
      refine c_seqR ?_
      refine ops_cons rfl (ow_move rfl ?_)
      refine ops_cons rfl (ow_assign rfl ?_)
      refine ops_nil ?_
      refine c_seqR ?_
      refine ops_cons rfl (ow_move rfl ?_)
      refine ops_cons rfl (ow_move rfl ?_)
      refine ops_cons rfl (ow_move rfl ?_)
      refine ops_cons rfl (ow_call ent94 rfl (ret_mono (modePath_c _ _ _ _ xs fr (k : Int) _ hs hn hl hz hT (by omega) (by omega)) ?_))
      rintro _ w9 ⟨AW, cW, rfl, hWn, oW, x8⟩
      replace oW := Own.low oW X.size
      replace oT := oT.ext x8
      replace hs := hs.ext x8
      replace hn := hn.ext x8
      replace X := Ext.trans X x8; clear x8
      clear oW
      rw [wayF_iff hv] at hWn
      refine ops_cons rfl (ow_neqN2 Try.underlying24 rfl rfl (fun hA => ?_) (fun hA => ?_))
      · skip
        have hyes : 0 ≤ (dst (xs.map (·.m)) k).getD fr.toNat (-1) := by
          rcases Int.lt_or_le ((dst (xs.map (·.m)) k).getD fr.toNat (-1)) 0 with h | h
          · exact absurd (hWn.2 h) hA
          · exact h
        refine ops_nil ?_
        refine c_true rfl ?_
        refine c_region ?_
        refine ops_cons rfl (ow_move rfl ?_)
        refine ops_cons rfl (ow_move rfl ?_)
        refine ops_cons rfl (ow_buildSlice el24 ti2 rfl rfl rfl rfl rfl ?_)
        intro g10 w12 eg10 oV bbg10 x11 zg10
        replace oV := Own.low oV X.size
        replace oT := oT.ext x11
        replace hs := hs.ext x11
        replace hn := hn.ext x11
        replace X := Ext.trans X x11; clear x11
        replace oV := oV.to (cs' := ([(k : Int)] : List Int).flatMap eI) rfl
        refine ops_cons rfl (ow_append (ts := #[]) oT X.size oV.sl (by first | rfl | simp) (by first | exact List.all_eq_true.1 rfl | simp [Value.oneCell']) el24 ti2 rfl rfl rfl rfl (by omega) (by omega) ?_)
        intro AoN coN w14 oN hg13
        replace hs := hs.grown hg13 (fun g hg => Nat.le_trans Bhs (Own.lt oT hg).1)
        replace hn := hn.grown hg13 (fun g hg => Nat.le_trans Bhn (Own.lt oT hg).1)
        replace X := X.grown hg13 X.size (fun g hg => (Own.lt oT hg).1)
        clear hg13
        refine ops_cons rfl (ow_assign rfl ?_)
        refine ops_nil ?_
        refine bq_n ?_
        refine tq_n ?_
        refine c_region ?_
        refine ops_cons rfl (ow_add rfl rfl (w64 (by omega)) ?_)
        refine ops_cons rfl (ow_move rfl ?_)
        refine ops_nil ?_
        refine tq_n ⟨(k + 1, n1 + 1, AoN, coN), (.cons rfl (.cons rfl (.cons rfl (.cons rfl (.cons rfl (.cons rfl (.cons rfl (.nil _)))))))), ?_, ?_⟩
        · exact ⟨by omega, (by rw [reachG_yes (by first | exact hyes | exact hno)]; simp [hn1]), oN.to (by rw [reachG_yes hyes, List.flatMap_append]), hs, hn, X⟩
        · first | omega | (dsimp only; omega)
      · skip
        have hno := hWn.1 hA
        refine ops_nil ?_
        refine c_false rfl ?_
        refine c_skip ?_
        refine bq_n ?_
        refine tq_n ?_
        refine c_region ?_
        refine ops_cons rfl (ow_add rfl rfl (w64 (by omega)) ?_)
        refine ops_cons rfl (ow_move rfl ?_)
        refine ops_nil ?_
        refine tq_n ⟨(k + 1, n1, A1, c1), (.cons rfl (.cons rfl (.cons rfl (.cons rfl (.cons rfl (.cons rfl (.cons rfl (.nil _)))))))), ?_, ?_⟩
        · exact ⟨by omega, (by rw [reachG_no (by first | exact hyes | exact hno)]; simp [hn1]), oT.to (by rw [reachG_no hno]), hs, hn, X⟩
        · first | omega | (dsimp only; omega)
    · skip
      obtain rfl : k = xs.length := by omega
      refine ops_nil ?_
      refine c_seq ?_
      refine c_false rfl ?_
      refine c_exit ?_
      refine tq_e ?_
      refine tq_e ?_
      refine bq_e ?_
      refine tq_n ?_
      refine c_seqR ?_
      refine ops_cons rfl (ow_move rfl ?_)
      refine ops_cons rfl (ow_assign rfl ?_)
      refine ops_cons rfl (ow_assign rfl ?_)
      refine ops_nil ?_
      refine c_ret ?_
      refine fin_ret2 rfl rfl rfl ?_
      first
      | (have e : (resR (xs.map (·.m)) fr) = (reachG (xs.map (·.m)) fr xs.length, 0) := by rw [resR, if_pos hT, elm, if_pos hF]
         rw [e]; exact ⟨A1, c1, by rw [hn1], by rw [hn1] at oT; exact oT, X⟩)
      | (have e : (resR (xs.map (·.m)) fr) = ([], 2) := by rw [resR, if_pos hT, elm, if_neg (fun h => absurd (hF.symm.trans h) Bool.false_ne_true)]
         rw [e]; exact ⟨none, 0, rfl, Own.nil_ _ _ _ _, X⟩)
      | (have e : (resR (xs.map (·.m)) fr) = ([], 1) := by rw [resR, if_neg (fun h => absurd (hT.symm.trans h) Bool.false_ne_true)]
         rw [e]; exact ⟨none, 0, rfl, Own.nil_ _ _ _ _, X⟩)
      | (have e := resR_code hC
         rw [e]; exact ⟨none, 0, rfl, Own.nil_ _ _ _ _, X⟩)

set_option maxHeartbeats 400000 in
theorem sPath_c (A : Option Addr) (B B2 c : Nat) (xs : List ModeI) (fr to : Int) (w : World) (hs : Sl B w A (xs.flatMap ModeI.cells)) (hn : Nexts B2 w xs) (hl : xs.length ≤ 1048576) (hz : ∀ x ∈ xs, x.m.next.length ≤ 1048576) :
    Calls Try.prog 51 #[.slice A xs.length c, .int .i64 fr, .int .i64 to] w (Ret fun v w' => ∃ A' c', v = .tuple #[.slice A' (resP (xs.map (·.m)) fr to).1.length c', .int .i64 (resP (xs.map (·.m)) fr to).2] ∧ Own w' w.heap.size 2 1 A' (resP (xs.map (·.m)) fr to).1.length c' ((resP (xs.map (·.m)) fr to).1.flatMap eI) ∧ Ext w w') := by
  have elm : (xs.map (·.m)).length = xs.length := List.length_map ..
  have Bhs := hs.1
  have Bhn := hn.1
  have X := Ext.refl w
  refine calls_of (args := [.slice A xs.length c, .int .i64 fr, .int .i64 to]) Try.func51 Try.ntmps51 rfl rfl ?_
  refine c_seqR ?_
  refine ops_cons rfl (ow_assign rfl ?_)
  refine ops_cons rfl (ow_assign rfl ?_)
  refine ops_nil ?_
  refine c_seq ?_
  refine c_seqR ?_
  refine ops_cons rfl (ow_move rfl ?_)
  refine ops_cons rfl (ow_callB ent89 rfl (sIsMT_c _ _ _ _ _ _ hs hn hl hz) (fun w2 hT x1 => ?_) (fun w2 hT x1 => ?_))
  · skip
    replace hs := hs.ext x1
    replace hn := hn.ext x1
    replace X := Ext.trans X x1; clear x1
    refine ops_cons rfl (ow_not rfl ?_)
    refine ops_nil ?_
    refine c_false rfl ?_
    refine c_skip ?_
    refine tq_n ?_
    refine c_seq ?_
    refine c_seqR ?_
    refine ops_cons rfl (ow_move rfl ?_)
    refine ops_cons rfl (ow_move rfl ?_)
    refine ops_cons rfl (ow_callB ent90 rfl (l11Mode_c _ _ _ _ _ hl) (fun w4 hF x3 => ?_) (fun w4 hF x3 => ?_))
    · skip
      replace hs := hs.ext x3
      replace hn := hn.ext x3
      replace X := Ext.trans X x3; clear x3
      refine ops_cons rfl (ow_not rfl ?_)
      refine ops_cons rfl (ow_move rfl ?_)
      refine ops_want rfl rfl rfl (ow_move rfl ?_)
      refine ops_want rfl rfl rfl (ow_move rfl ?_)
      refine ops_want rfl rfl rfl (ow_callB ent90 rfl (l11Mode_c _ _ _ _ _ hl) (fun w6 hTo x5 => ?_) (fun w6 hTo x5 => ?_))
      · skip
        replace hs := hs.ext x5
        replace hn := hn.ext x5
        replace X := Ext.trans X x5; clear x5
        refine ops_want rfl rfl rfl (ow_not rfl ?_)
        refine ops_cons rfl (ow_pick rfl rfl ?_)
        refine ops_nil ?_
        refine c_false rfl ?_
        refine c_skip ?_
        refine tq_n ?_
        refine c_seqR ?_
        have hfr := inB_iff.1 hF
        have ht := inB_iff.1 hTo
        obtain ⟨D, hDe⟩ : ∃ D, dst (xs.map (·.m)) to.toNat = D := ⟨_, rfl⟩
        have elm : (xs.map (·.m)).length = xs.length := List.length_map ..
        have hl6 := isMT_len hT
        have hDD := dst_Dst (ms := (xs.map (·.m))) (to := to.toNat) (by rw [elm]; omega)
        rw [hDe] at hDD
        have hlD := hDD.len
        rw [elm] at hl6 hlD
        obtain ⟨v, hv⟩ : ∃ v, D[fr.toNat]? = some v := ⟨_, List.getElem?_eq_getElem (by omega)⟩
        have hvh := hDD.hi v (List.mem_of_getElem? hv)
        have hvl := hDD.lo v (List.mem_of_getElem? hv)
        refine ops_cons rfl (ow_move rfl ?_)
        refine ops_cons rfl (ow_move rfl ?_)
        refine ops_cons rfl (ow_call ent91 rfl (ret_mono (l11Dist_D _ _ _ _ xs to D _ hs hn hl hz hT (by omega) hDe) ?_))
        rintro _ w8 ⟨A0, c0, rfl, oD, x7⟩
        replace oD := Own.low oD X.size
        replace hs := hs.ext x7
        replace hn := hn.ext x7
        replace X := Ext.trans X x7; clear x7
        obtain ⟨BO, sO⟩ : ∃ BO, Sl BO _ A0 (D.flatMap eI) := ⟨_, oD.sl⟩
        clear oD
        refine ops_cons rfl (ow_assign rfl ?_)
        refine ops_nil ?_
        refine c_seq ?_
        refine c_seqR ?_
        refine ops_cons rfl (ow_move rfl ?_)
        refine ops_cons rfl (ow_move rfl ?_)
        refine ops_cons rfl (ow_indexT sO eI_len rfl el24 rfl rfl rfl hv (by omega) ?_)
        refine ops_cons rfl (ow_loadT sO eI_len hv ti2 rfl rfl rfl ?_)
        refine ops_cons rfl (ow_lss2 rfl rfl (fun h0 => ?_) (fun h0 => ?_))
        · skip
          refine ops_nil ?_
          refine c_true rfl ?_
          refine c_seqR ?_
          refine ops_cons rfl (ow_assign rfl ?_)
          refine ops_cons rfl (ow_assign rfl ?_)
          refine ops_nil ?_
          refine c_ret ?_
          refine tq_r ?_
          refine fin_ret2 rfl rfl rfl ?_
          first
          | (have e : (resP (xs.map (·.m)) fr to) = ([], 1) := by rw [resP, if_neg (fun h => absurd (hT.symm.trans h) Bool.false_ne_true)]
             rw [e]; exact ⟨none, 0, rfl, Own.nil_ _ _ _ _, X⟩)
          | (have e : (resP (xs.map (·.m)) fr to) = ([], 2) := by rw [resP, if_pos hT, elm, if_neg (fun h => absurd (hF.symm.trans h.1) Bool.false_ne_true)]
             rw [e]; exact ⟨none, 0, rfl, Own.nil_ _ _ _ _, X⟩)
          | (have e : (resP (xs.map (·.m)) fr to) = ([], 2) := by rw [resP, if_pos hT, elm, if_neg (fun h => absurd (hTo.symm.trans h.2) Bool.false_ne_true)]
             rw [e]; exact ⟨none, 0, rfl, Own.nil_ _ _ _ _, X⟩)
          | (have e : (resP (xs.map (·.m)) fr to) = ([], 4) := by rw [resP, if_pos hT, elm, if_pos ⟨hF, hTo⟩, wayF_none (by rw [hDe]; exact hv) h0]
             rw [e]; exact ⟨none, 0, rfl, Own.nil_ _ _ _ _, X⟩)
          | (have eP : P = fr :: wayN (xs.map (·.m)) D v.toNat fr := by rw [← hP]; simp [wayN]
             have e : (resP (xs.map (·.m)) fr to) = (P, 0) := by rw [resP, if_pos hT, elm, if_pos ⟨hF, hTo⟩, wayF_some (v := v) (by rw [hDe]; exact hv) (by omega), hDe, eP]
             rw [e]; exact ⟨A1, c1, by rw [hn1], by rw [hn1] at oP; exact oP, X⟩)
        · skip
          refine ops_nil ?_
          refine c_false rfl ?_
          refine c_skip ?_
          refine tq_n ?_
          refine c_seqR ?_
          refine ops_cons rfl (ow_move rfl ?_)
          have pD := sO.1
          refine ops_cons rfl (ow_buildSlice el24 ti2 rfl rfl rfl rfl rfl ?_)
          intro gP w10 egP oP bbgP x9 zgP
          replace oP := Own.low oP X.size
          replace hs := hs.ext x9
          replace hn := hn.ext x9
          replace sO := sO.ext x9
          replace X := Ext.trans X x9; clear x9
          replace oP := oP.to (cs' := ([fr] : List Int).flatMap eI) rfl
          have hPB : ∀ g, (Value.slice (some ⟨gP, 0, none⟩) 1 1).ownBlock = some g → BO ≤ g := fun g h => by have h2 : gP = g := (by injection h); omega
          refine ops_cons rfl (ow_assign rfl ?_)
          refine ops_nil ?_
          refine c_seq ?_
          refine c_seqR ?_
          refine ops_cons rfl (ow_move rfl ?_)
          refine ops_cons rfl (ow_assign rfl ?_)
          refine ops_nil ?_
          refine c_block ?_
          refine c_loop (G := Int × Nat × List Int × Nat × Option Addr × Nat) (fun ⟨a, f, P, n1, A1, c1⟩ => [(0, .slice A xs.length c), (2, .int .i64 to), (6, .slice none 0 0), (7, .int .i64 0), (8, .slice A0 D.length c0), (9, .slice A1 n1 c1), (10, .int .i64 a)]) (fun ⟨a, f, P, n1, A1, c1⟩ wr => (0 ≤ a ∧ a < xs.length) ∧ D[a.toNat]? = some ((f : Nat) : Int) ∧ P ++ wayN (xs.map (·.m)) D f a = fr :: wayN (xs.map (·.m)) D v.toNat fr ∧ n1 = P.length ∧ P.length + f ≤ 17 ∧ P[P.length - 1]? = some a ∧ (∀ g, (Value.slice A1 n1 c1).ownBlock = some g → BO ≤ g) ∧ Own wr w.heap.size 2 1 A1 n1 c1 (P.flatMap eI) ∧ Sl B wr A (xs.flatMap ModeI.cells) ∧ Nexts B2 wr xs ∧ Sl BO wr A0 (D.flatMap eI) ∧ Ext w wr) (fun ⟨a, f, P, n1, A1, c1⟩ => f) (fr, v.toNat, [fr], 1, some ⟨gP, 0, none⟩, 1) (.cons rfl (.cons rfl (.cons rfl (.cons rfl (.cons rfl (.cons rfl (.cons rfl (.nil _)))))))) ?_ ?_
          · exact ⟨(by omega), (by rw [hv]; congr 1; omega), rfl, rfl, (by show 1 + v.toNat ≤ 17; omega), rfl, hPB, oP, hs, hn, sO, X⟩
          clear hs hn sO oP
          clear X
          rintro ⟨a, f, P, n1, A1, c1⟩ wr ⟨ha, hf, hP, hn1, hPl, hla, hPB, oP, hs, hn, sO, X⟩
          refine c_seq ?_
          refine c_seqR ?_
          refine ops_cons rfl (ow_move rfl ?_)
          refine ops_cons rfl (ow_move rfl ?_)
          refine ops_cons rfl (ow_neq2 rfl rfl (fun hne => ?_) (fun hne => ?_))
          · skip
            obtain ⟨x, hx⟩ : ∃ x, xs[a.toNat]? = some x := ⟨_, List.getElem?_eq_getElem (by omega)⟩
            have hmx := map_at (f := (·.m)) hx
            have hnx := hn.at_ hx
            have hlx := hz x (List.mem_of_getElem? hx)
            have hnI := nextAt_in hT hmx
            rw [elm] at hnI
            have hf1 := (zero_at hDD ha.1 hf).2 (by omega)
            obtain ⟨f1, rfl⟩ : ∃ f1, f = f1 + 1 := ⟨f - 1, by omega⟩
            obtain ⟨z, hfz, hw, hzm, hzf, hz0, hz1⟩ := way_step hT hDD hmx hf
            rw [elm] at hz1
            obtain ⟨j, hj, hjz⟩ := findZ_find0 hfz
            refine ops_nil ?_
            refine c_true rfl ?_
            refine c_skip ?_
            refine tq_n ?_
            refine c_block ?_
            refine c_seqR ?_
            refine ops_cons rfl (ow_move rfl ?_)
            refine ops_cons rfl (ow_move rfl ?_)
            refine ops_cons rfl (ow_indexT hs ModeI.len rfl el60 rfl rfl rfl hx (by omega) ?_)
            refine ops_cons rfl (ow_fieldAddr off114_2 rfl ?_)
            refine ops_cons rfl (ow_loadTF hs ModeI.len hx ti24 rfl rfl rfl ?_)
            refine ops_cons rfl (ow_assign rfl ?_)
            refine ops_nil ?_
            refine c_seq ?_
            refine c_seqR ?_
            refine ops_cons rfl (ow_move rfl ?_)
            refine ops_cons rfl (ow_len Try.underlying24 rfl ?_)
            refine ops_cons rfl (ow_sub rfl rfl (w64 (by omega)) ?_)
            refine ops_cons rfl (ow_assign rfl ?_)
            refine ops_nil ?_
            refine c_block ?_
            refine c_loop (G := Int × Int) (fun ⟨k, b⟩ => [(0, .slice A xs.length c), (2, .int .i64 to), (6, .slice none 0 0), (7, .int .i64 0), (8, .slice A0 D.length c0), (9, .slice A1 n1 c1), (11, .slice x.A x.m.next.length x.c), (37, .int .i64 a), (38, .int .i64 to), (40, .slice A xs.length c), (41, .int .i64 a), (44, .slice x.A x.m.next.length x.c), (45, .slice x.A x.m.next.length x.c), (46, .int .i64 (x.m.next.length : Nat)), (47, .int .i64 ((x.m.next.length : Nat) - 1)), (10, .int .i64 b), (12, .int .i64 k)]) (fun ⟨k, b⟩ wr => (-1 ≤ k ∧ k < x.m.next.length) ∧ b = ((x.m.next.drop (k + 1).toNat).find? (hitD D f1)).getD a ∧ Own wr w.heap.size 2 1 A1 n1 c1 (P.flatMap eI) ∧ Sl B wr A (xs.flatMap ModeI.cells) ∧ Nexts B2 wr xs ∧ Sl BO wr A0 (D.flatMap eI) ∧ Sl B2 wr x.A (x.m.next.flatMap eI) ∧ Ext w wr) (fun ⟨k, b⟩ => (k + 1).toNat) ((x.m.next.length : Nat) - 1, a) (.cons rfl (.cons rfl (.cons rfl (.cons rfl (.cons rfl (.cons rfl (.cons rfl (.cons rfl (.cons rfl (.cons rfl (.cons rfl (.cons rfl (.cons rfl (.cons rfl (.cons rfl (.cons rfl (.cons rfl (.nil _)))))))))))))))))) ?_ ?_
            · exact ⟨(by omega), (by rw [show ((x.m.next.length : Int) - 1 + 1).toNat = x.m.next.length by omega, List.drop_length]; rfl), oP, hs, hn, sO, hnx, X⟩
            clear oP hs hn sO hnx
            clear X
            rintro ⟨k, b⟩ wr ⟨hk0, hb, oP, hs, hn, sO, hnx, X⟩
            refine c_seq ?_
            refine c_seqR ?_
            refine ops_cons rfl (ow_move rfl ?_)
            refine ops_cons rfl (ow_geq2 rfl rfl (fun hk => ?_) (fun hk => ?_))
            · skip
              have hP1 := (List.getElem?_eq_some_iff.1 hla).1
              obtain ⟨y, hy⟩ : ∃ y, x.m.next[k.toNat]? = some y := ⟨_, List.getElem?_eq_getElem (by omega)⟩
              have hyI := hnI y (List.mem_of_getElem? hy)
              obtain ⟨u, hu⟩ : ∃ u, D[y.toNat]? = some u := ⟨_, List.getElem?_eq_getElem (by omega)⟩
              have hdf := drop_find (p := hitD D f1) hk hy
              refine ops_nil ?_
              refine c_true rfl ?_
              refine c_skip ?_
              refine tq_n ?_
              refine c_seq ?_
              refine c_block ?_
              refine c_seqD [false, false, false, false, false, false, false, false, false, false, false, false, false, false, false, false, false, false] mixed (by kernel_rfl) ?_
              refine f_q rfl (fun wq sq => ow_move rfl ⟨rfl, Ext.refl _⟩) ?_
              refine f_q rfl (fun wq sq => ow_move rfl ⟨rfl, Ext.refl _⟩) ?_
              refine f_q rfl (fun wq sq => ow_move rfl ⟨rfl, Ext.refl _⟩) ?_
              refine f_q rfl (fun wq sq => ow_indexT (hnx.ext sq) eI_len rfl el24 rfl rfl rfl hy (by omega) ⟨rfl, Ext.refl _⟩) ?_
              refine f_q rfl (fun wq sq => ow_loadT (hnx.ext sq) eI_len hy ti2 rfl rfl rfl ⟨rfl, Ext.refl _⟩) ?_
              refine f_q rfl (fun wq sq => ow_indexT (sO.ext sq) eI_len rfl el24 rfl rfl rfl hu (by omega) ⟨rfl, Ext.refl _⟩) ?_
              refine f_q rfl (fun wq sq => ow_loadT (sO.ext sq) eI_len hu ti2 rfl rfl rfl ⟨rfl, Ext.refl _⟩) ?_
              refine f_q rfl (fun wq sq => ow_move rfl ⟨rfl, Ext.refl _⟩) ?_
              refine f_q rfl (fun wq sq => ow_move rfl ⟨rfl, Ext.refl _⟩) ?_
              refine f_q rfl (fun wq sq => ow_move rfl ⟨rfl, Ext.refl _⟩) ?_
              refine f_q rfl (fun wq sq => ow_len Try.underlying24 rfl ⟨rfl, Ext.refl _⟩) ?_
              refine f_q rfl (fun wq sq => ow_sub rfl rfl (w64 (by omega)) ⟨rfl, Ext.refl _⟩) ?_
              refine f_q rfl (fun wq sq => ow_indexT ((oP.ext sq)).sl eI_len rfl el24 rfl hn1 rfl hla (by omega) ⟨rfl, Ext.refl _⟩) ?_
              refine f_q rfl (fun wq sq => ow_loadT ((oP.ext sq)).sl eI_len hla ti2 rfl rfl rfl ⟨rfl, Ext.refl _⟩) ?_
              refine f_q rfl (fun wq sq => ow_indexT (sO.ext sq) eI_len rfl el24 rfl rfl rfl hf (by omega) ⟨rfl, Ext.refl _⟩) ?_
              refine f_q rfl (fun wq sq => ow_loadT (sO.ext sq) eI_len hf ti2 rfl rfl rfl ⟨rfl, Ext.refl _⟩) ?_
              refine f_q rfl (fun wq sq => ow_sub rfl rfl (w64 (by omega)) ⟨rfl, Ext.refl _⟩) ?_
              refine f_qb rfl (fun wq sq => ow_eql rfl rfl ⟨rfl, Ext.refl _⟩) (fun he => ?_) (fun he => ?_)
              · skip
                refine f_nil (fun w11 sq => ?_)
                have xq := sq
                replace oP := oP.ext xq
                replace hs := hs.ext xq
                replace hn := hn.ext xq
                replace sO := sO.ext xq
                replace hnx := hnx.ext xq
                replace X := Ext.trans X xq; clear xq sq
                refine ops_nil ?_
                refine c_true rfl ?_
                refine c_region ?_
                refine ops_cons rfl (ow_move rfl ?_)
                refine ops_cons rfl (ow_move rfl ?_)
                refine ops_cons rfl (ow_indexT hnx eI_len rfl el24 rfl rfl rfl hy (by omega) ?_)
                refine ops_cons rfl (ow_loadT hnx eI_len hy ti2 rfl rfl rfl ?_)
                refine ops_cons rfl (ow_assign rfl ?_)
                refine ops_nil ?_
                refine bq_n ?_
                refine tq_n ?_
                refine c_region ?_
                refine ops_cons rfl (ow_move rfl ?_)
                refine ops_cons rfl (ow_sub rfl rfl (w64 (by omega)) ?_)
                refine ops_cons rfl (ow_assign rfl ?_)
                refine ops_nil ?_
                refine tq_n ⟨(k - 1, y), (.cons rfl (.cons rfl (.cons rfl (.cons rfl (.cons rfl (.cons rfl (.cons rfl (.cons rfl (.cons rfl (.cons rfl (.cons rfl (.cons rfl (.cons rfl (.cons rfl (.cons rfl (.cons rfl (.cons rfl (.nil _)))))))))))))))))), ?_, ?_⟩
                · exact ⟨(by omega), (by rw [hdf, if_pos (by unfold hitD; rw [hu]; simp; omega)]; rfl), oP, hs, hn, sO, hnx, X⟩
                · first | omega | (dsimp only; omega)
              · skip
                refine f_nil (fun w12 sq => ?_)
                have xq := sq
                replace oP := oP.ext xq
                replace hs := hs.ext xq
                replace hn := hn.ext xq
                replace sO := sO.ext xq
                replace hnx := hnx.ext xq
                replace X := Ext.trans X xq; clear xq sq
                refine ops_nil ?_
                refine c_false rfl ?_
                refine c_skip ?_
                refine bq_n ?_
                refine tq_n ?_
                refine c_region ?_
                refine ops_cons rfl (ow_move rfl ?_)
                refine ops_cons rfl (ow_sub rfl rfl (w64 (by omega)) ?_)
                refine ops_cons rfl (ow_assign rfl ?_)
                refine ops_nil ?_
                refine tq_n ⟨(k - 1, b), (.cons rfl (.cons rfl (.cons rfl (.cons rfl (.cons rfl (.cons rfl (.cons rfl (.cons rfl (.cons rfl (.cons rfl (.cons rfl (.cons rfl (.cons rfl (.cons rfl (.cons rfl (.cons rfl (.cons rfl (.nil _)))))))))))))))))), ?_, ?_⟩
                · exact ⟨(by omega), (by rw [hdf, if_neg (by unfold hitD; rw [hu]; simp; omega)]; exact hb), oP, hs, hn, sO, hnx, X⟩
                · first | omega | (dsimp only; omega)
            · skip
              obtain rfl : z = b := by rw [hb, show (k + 1).toNat = 0 by omega, List.drop_zero, hfz]; rfl
              refine ops_nil ?_
              refine c_false rfl ?_
              refine c_exit ?_
              refine tq_e ?_
              refine tq_e ?_
              refine bq_e ?_
              refine tq_n ?_
              refine c_region ?_
              refine ops_cons rfl (ow_move rfl ?_)
              refine ops_cons rfl (ow_move rfl ?_)
              refine ops_cons rfl (ow_buildSlice el24 ti2 rfl rfl rfl rfl rfl ?_)
              intro g13 w15 eg13 oV bbg13 x14 zg13
              replace oV := Own.low oV X.size
              replace oP := oP.ext x14
              replace hs := hs.ext x14
              replace hn := hn.ext x14
              replace sO := sO.ext x14
              replace hnx := hnx.ext x14
              replace X := Ext.trans X x14; clear x14
              replace oV := oV.to (cs' := ([z] : List Int).flatMap eI) rfl
              have pD := sO.1
              refine ops_cons rfl (ow_appendW (ts := #[]) oP X.size oV.sl (by first | rfl | simp) (by first | exact List.all_eq_true.1 rfl | simp [Value.oneCell']) el24 ti2 rfl rfl rfl rfl (by omega) (by omega) ?_)
              intro AoN coN w17 oN hg16 hW
              replace hs := hs.grown hg16 (fun g hg => Nat.le_trans Bhs (Own.lt oP hg).1)
              replace hn := hn.grown hg16 (fun g hg => Nat.le_trans Bhn (Own.lt oP hg).1)
              replace sO := sO.grown hg16 hPB
              replace hnx := hnx.grown hg16 (fun g hg => Nat.le_trans Bhn (Own.lt oP hg).1)
              replace X := X.grown hg16 X.size (fun g hg => (Own.lt oP hg).1)
              clear hg16
              have hPB2 := low_W hPB hW pD
              refine ops_cons rfl (ow_assign rfl ?_)
              refine ops_nil ?_
              refine bq_n ?_
              refine tq_n ⟨(z, f1, P ++ [z], n1 + 1, AoN, coN), (.cons rfl (.cons rfl (.cons rfl (.cons rfl (.cons rfl (.cons rfl (.cons rfl (.nil _)))))))), ?_, ?_⟩
              · exact ⟨⟨hz0, hz1⟩, hzf, (by rw [← hP, hw]; simp), (by simp [hn1]), (by rw [List.length_append]; simp only [List.length_cons, List.length_nil]; omega), (by rw [List.length_append]; simp), hPB2, oN.to (snoc eI P z).symm, hs, hn, sO, X⟩
              · first | omega | (dsimp only; omega)
          · skip
            have hf0 := (zero_at hDD ha.1 hf).1 (by omega)
            subst hf0
            refine ops_nil ?_
            refine c_false rfl ?_
            refine c_exit ?_
            refine tq_e ?_
            refine tq_e ?_
            refine bq_e ?_
            refine tq_n ?_
            refine c_seqR ?_
            refine ops_cons rfl (ow_move rfl ?_)
            refine ops_cons rfl (ow_assign rfl ?_)
            refine ops_cons rfl (ow_assign rfl ?_)
            refine ops_nil ?_
            refine c_ret ?_
            refine fin_ret2 rfl rfl rfl ?_
            first
            | (have e : (resP (xs.map (·.m)) fr to) = ([], 1) := by rw [resP, if_neg (fun h => absurd (hT.symm.trans h) Bool.false_ne_true)]
               rw [e]; exact ⟨none, 0, rfl, Own.nil_ _ _ _ _, X⟩)
            | (have e : (resP (xs.map (·.m)) fr to) = ([], 2) := by rw [resP, if_pos hT, elm, if_neg (fun h => absurd (hF.symm.trans h.1) Bool.false_ne_true)]
               rw [e]; exact ⟨none, 0, rfl, Own.nil_ _ _ _ _, X⟩)
            | (have e : (resP (xs.map (·.m)) fr to) = ([], 2) := by rw [resP, if_pos hT, elm, if_neg (fun h => absurd (hTo.symm.trans h.2) Bool.false_ne_true)]
               rw [e]; exact ⟨none, 0, rfl, Own.nil_ _ _ _ _, X⟩)
            | (have e : (resP (xs.map (·.m)) fr to) = ([], 4) := by rw [resP, if_pos hT, elm, if_pos ⟨hF, hTo⟩, wayF_none (by rw [hDe]; exact hv) h0]
               rw [e]; exact ⟨none, 0, rfl, Own.nil_ _ _ _ _, X⟩)
            | (have eP : P = fr :: wayN (xs.map (·.m)) D v.toNat fr := by rw [← hP]; simp [wayN]
               have e : (resP (xs.map (·.m)) fr to) = (P, 0) := by rw [resP, if_pos hT, elm, if_pos ⟨hF, hTo⟩, wayF_some (v := v) (by rw [hDe]; exact hv) (by omega), hDe, eP]
               rw [e]; exact ⟨A1, c1, by rw [hn1], by rw [hn1] at oP; exact oP, X⟩)
      · skip
        replace hs := hs.ext x5
        replace hn := hn.ext x5
        replace X := Ext.trans X x5; clear x5
        refine ops_want rfl rfl rfl (ow_not rfl ?_)
        refine ops_cons rfl (ow_pick rfl rfl ?_)
        refine ops_nil ?_
        refine c_true rfl ?_
        refine c_seqR ?_
        refine ops_cons rfl (ow_assign rfl ?_)
        refine ops_cons rfl (ow_assign rfl ?_)
        refine ops_nil ?_
        refine c_ret ?_
        refine tq_r ?_
        refine fin_ret2 rfl rfl rfl ?_
        first
        | (have e : (resP (xs.map (·.m)) fr to) = ([], 1) := by rw [resP, if_neg (fun h => absurd (hT.symm.trans h) Bool.false_ne_true)]
           rw [e]; exact ⟨none, 0, rfl, Own.nil_ _ _ _ _, X⟩)
        | (have e : (resP (xs.map (·.m)) fr to) = ([], 2) := by rw [resP, if_pos hT, elm, if_neg (fun h => absurd (hF.symm.trans h.1) Bool.false_ne_true)]
           rw [e]; exact ⟨none, 0, rfl, Own.nil_ _ _ _ _, X⟩)
        | (have e : (resP (xs.map (·.m)) fr to) = ([], 2) := by rw [resP, if_pos hT, elm, if_neg (fun h => absurd (hTo.symm.trans h.2) Bool.false_ne_true)]
           rw [e]; exact ⟨none, 0, rfl, Own.nil_ _ _ _ _, X⟩)
        | (have e : (resP (xs.map (·.m)) fr to) = ([], 4) := by rw [resP, if_pos hT, elm, if_pos ⟨hF, hTo⟩, wayF_none (by rw [hDe]; exact hv) h0]
           rw [e]; exact ⟨none, 0, rfl, Own.nil_ _ _ _ _, X⟩)
        | (have eP : P = fr :: wayN (xs.map (·.m)) D v.toNat fr := by rw [← hP]; simp [wayN]
           have e : (resP (xs.map (·.m)) fr to) = (P, 0) := by rw [resP, if_pos hT, elm, if_pos ⟨hF, hTo⟩, wayF_some (v := v) (by rw [hDe]; exact hv) (by omega), hDe, eP]
           rw [e]; exact ⟨A1, c1, by rw [hn1], by rw [hn1] at oP; exact oP, X⟩)
    · skip
      replace hs := hs.ext x3
      replace hn := hn.ext x3
      replace X := Ext.trans X x3; clear x3
      refine ops_cons rfl (ow_not rfl ?_)
      refine ops_cons rfl (ow_move rfl ?_)
      refine ops_skip rfl rfl rfl rfl ?_
      refine ops_skip rfl rfl rfl rfl ?_
      refine ops_skip rfl rfl rfl rfl ?_
      refine ops_skip rfl rfl rfl rfl ?_
      refine ops_cons rfl (ow_pick rfl rfl ?_)
      refine ops_nil ?_
      refine c_true rfl ?_
      refine c_seqR ?_
      refine ops_cons rfl (ow_assign rfl ?_)
      refine ops_cons rfl (ow_assign rfl ?_)
      refine ops_nil ?_
      refine c_ret ?_
      refine tq_r ?_
      refine fin_ret2 rfl rfl rfl ?_
      first
      | (have e : (resP (xs.map (·.m)) fr to) = ([], 1) := by rw [resP, if_neg (fun h => absurd (hT.symm.trans h) Bool.false_ne_true)]
         rw [e]; exact ⟨none, 0, rfl, Own.nil_ _ _ _ _, X⟩)
      | (have e : (resP (xs.map (·.m)) fr to) = ([], 2) := by rw [resP, if_pos hT, elm, if_neg (fun h => absurd (hF.symm.trans h.1) Bool.false_ne_true)]
         rw [e]; exact ⟨none, 0, rfl, Own.nil_ _ _ _ _, X⟩)
      | (have e : (resP (xs.map (·.m)) fr to) = ([], 2) := by rw [resP, if_pos hT, elm, if_neg (fun h => absurd (hTo.symm.trans h.2) Bool.false_ne_true)]
         rw [e]; exact ⟨none, 0, rfl, Own.nil_ _ _ _ _, X⟩)
      | (have e : (resP (xs.map (·.m)) fr to) = ([], 4) := by rw [resP, if_pos hT, elm, if_pos ⟨hF, hTo⟩, wayF_none (by rw [hDe]; exact hv) h0]
         rw [e]; exact ⟨none, 0, rfl, Own.nil_ _ _ _ _, X⟩)
      | (have eP : P = fr :: wayN (xs.map (·.m)) D v.toNat fr := by rw [← hP]; simp [wayN]
         have e : (resP (xs.map (·.m)) fr to) = (P, 0) := by rw [resP, if_pos hT, elm, if_pos ⟨hF, hTo⟩, wayF_some (v := v) (by rw [hDe]; exact hv) (by omega), hDe, eP]
         rw [e]; exact ⟨A1, c1, by rw [hn1], by rw [hn1] at oP; exact oP, X⟩)
  · skip
    replace hs := hs.ext x1
    replace hn := hn.ext x1
    replace X := Ext.trans X x1; clear x1
    refine ops_cons rfl (ow_not rfl ?_)
    refine ops_nil ?_
    refine c_true rfl ?_
    refine c_seqR ?_
    refine ops_cons rfl (ow_assign rfl ?_)
    refine ops_cons rfl (ow_assign rfl ?_)
    refine ops_nil ?_
    refine c_ret ?_
    refine tq_r ?_
    refine fin_ret2 rfl rfl rfl ?_
    first
    | (have e : (resP (xs.map (·.m)) fr to) = ([], 1) := by rw [resP, if_neg (fun h => absurd (hT.symm.trans h) Bool.false_ne_true)]
       rw [e]; exact ⟨none, 0, rfl, Own.nil_ _ _ _ _, X⟩)
    | (have e : (resP (xs.map (·.m)) fr to) = ([], 2) := by rw [resP, if_pos hT, elm, if_neg (fun h => absurd (hF.symm.trans h.1) Bool.false_ne_true)]
       rw [e]; exact ⟨none, 0, rfl, Own.nil_ _ _ _ _, X⟩)
    | (have e : (resP (xs.map (·.m)) fr to) = ([], 2) := by rw [resP, if_pos hT, elm, if_neg (fun h => absurd (hTo.symm.trans h.2) Bool.false_ne_true)]
       rw [e]; exact ⟨none, 0, rfl, Own.nil_ _ _ _ _, X⟩)
    | (have e : (resP (xs.map (·.m)) fr to) = ([], 4) := by rw [resP, if_pos hT, elm, if_pos ⟨hF, hTo⟩, wayF_none (by rw [hDe]; exact hv) h0]
       rw [e]; exact ⟨none, 0, rfl, Own.nil_ _ _ _ _, X⟩)
    | (have eP : P = fr :: wayN (xs.map (·.m)) D v.toNat fr := by rw [← hP]; simp [wayN]
       have e : (resP (xs.map (·.m)) fr to) = (P, 0) := by rw [resP, if_pos hT, elm, if_pos ⟨hF, hTo⟩, wayF_some (v := v) (by rw [hDe]; exact hv) (by omega), hDe, eP]
       rw [e]; exact ⟨A1, c1, by rw [hn1], by rw [hn1] at oP; exact oP, X⟩)

theorem iPath_c (A : Option Addr) (B B2 c : Nat) (xs : List ModeI) (fr to : Int) (w : World) (hs : Sl B w A (xs.flatMap ModeI.cells)) (hn : Nexts B2 w xs) (hl : xs.length ≤ 1048576) (hz : ∀ x ∈ xs, x.m.next.length ≤ 1048576) :
    Calls Try.prog 52 #[.slice A xs.length c, .int .i64 fr, .int .i64 to] w (Ret fun v w' => ∃ A' c', v = .tuple #[.slice A' (resP (xs.map (·.m)) fr to).1.length c', .int .i64 (resP (xs.map (·.m)) fr to).2] ∧ Own w' w.heap.size 2 1 A' (resP (xs.map (·.m)) fr to).1.length c' ((resP (xs.map (·.m)) fr to).1.flatMap eI) ∧ Ext w w') := by
  have elm : (xs.map (·.m)).length = xs.length := List.length_map ..
  have Bhs := hs.1
  have Bhn := hn.1
  have X := Ext.refl w
  refine calls_of (args := [.slice A xs.length c, .int .i64 fr, .int .i64 to]) Try.func52 Try.ntmps52 rfl rfl ?_
  refine c_seqR ?_
  refine ops_cons rfl (ow_assign rfl ?_)
  refine ops_cons rfl (ow_assign rfl ?_)
  refine ops_nil ?_
  refine c_seq ?_
  refine c_seqR ?_
  refine ops_cons rfl (ow_move rfl ?_)
  refine ops_cons rfl (ow_move rfl ?_)
  refine ops_cons rfl (ow_move rfl ?_)
  refine ops_cons rfl (ow_buildSlice el24 ti2 rfl rfl rfl rfl rfl ?_)
  intro g1 w3 eg1 oB bbg1 x2 zg1
  replace oB := Own.low oB X.size
  replace hs := hs.ext x2
  replace hn := hn.ext x2
  replace X := Ext.trans X x2; clear x2
  replace oB := oB.to (cs' := ([fr, to] : List Int).flatMap eI) rfl
  refine ops_cons rfl (ow_call ent93 rfl (ret_mono (modesCode_c _ _ _ _ _ _ _ xs [fr, to] _ hs hn hl hz oB.sl (by simp)) ?_))
  rintro _ w5 ⟨rfl, x4⟩
  replace hs := hs.ext x4
  replace hn := hn.ext x4
  replace oB := oB.ext x4
  replace X := Ext.trans X x4; clear x4
  refine ops_cons rfl (ow_assign rfl ?_)
  refine ops_nil ?_
  refine c_seqR ?_
  refine ops_cons rfl (ow_move rfl ?_)
  refine ops_cons rfl (ow_neq2 rfl rfl (fun hC => ?_) (fun hC => ?_))
  · skip
    refine ops_nil ?_
    refine c_true rfl ?_
    refine c_seqR ?_
    refine ops_cons rfl (ow_move rfl ?_)
    refine ops_cons rfl (ow_assign rfl ?_)
    refine ops_cons rfl (ow_assign rfl ?_)
    refine ops_nil ?_
    refine c_ret ?_
    refine tq_r ?_
    refine fin_ret2 rfl rfl rfl ?_
    first
    | (have e := resP_code hC
       rw [e]; exact ⟨none, 0, rfl, Own.nil_ _ _ _ _, X⟩)
    | (have e : (resP (xs.map (·.m)) fr to) = ([], 4) := by rw [resP, if_pos hT, elm, if_pos ⟨hF, hTo⟩, hWn.1 hA]
       rw [e]; exact ⟨none, 0, rfl, Own.nil_ _ _ _ _, X⟩)
    | (cases hw : wayF (xs.map (·.m)) fr to with
       | none => exact absurd (hWn.2 hw) hA
       | some p =>
         have e : (resP (xs.map (·.m)) fr to) = (p, 0) := by rw [resP, if_pos hT, elm, if_pos ⟨hF, hTo⟩, hw]
         rw [hw] at oW
         rw [e]; exact ⟨AW, cW, rfl, oW, X⟩)
  · skip
    have hT : isMT (xs.map (·.m)) = true := by
      cases h : isMT (xs.map (·.m))
      · rw [mcode, if_neg (by simp [h])] at hC; omega
      · rfl
    have hAll : ([fr, to] : List Int).all (fun x => inB x 0 ((xs.length : Int) - 1)) = true := by
      cases h : ([fr, to] : List Int).all (fun x => inB x 0 ((xs.length : Int) - 1))
      · rw [mcode, if_pos hT, elm, if_neg (by rw [h]; simp)] at hC; omega
      · rfl
    have hFT : inB fr 0 ((xs.length : Int) - 1) = true ∧ inB to 0 ((xs.length : Int) - 1) = true := by simpa using hAll
    obtain ⟨hF, hTo⟩ := hFT
    have hfI := inB_iff.1 hF
    have htI := inB_iff.1 hTo
    refine ops_nil ?_
    refine c_false rfl ?_
    refine c_skip ?_
    refine tq_n ?_
    refine c_seqR ?_
    refine ops_cons rfl (ow_move rfl ?_)
    refine ops_cons rfl (ow_move rfl ?_)
    refine ops_cons rfl (ow_move rfl ?_)
    refine ops_cons rfl (ow_call ent94 rfl (ret_mono (modePath_c _ _ _ _ xs fr to _ hs hn hl hz hT (by omega) (by omega)) ?_))
    rintro _ w7 ⟨AW, cW, rfl, hWn, oW, x6⟩
    replace oW := Own.low oW X.size
    replace hs := hs.ext x6
    replace hn := hn.ext x6
    replace X := Ext.trans X x6; clear x6
    refine ops_cons rfl (ow_assign rfl ?_)
    refine ops_nil ?_
    refine c_seq ?_
    refine c_seqR ?_
    refine ops_cons rfl (ow_move rfl ?_)
    refine ops_cons rfl (ow_eqlN2 Try.underlying24 rfl rfl (fun hA => ?_) (fun hA => ?_))
    · skip
      refine ops_nil ?_
      refine c_true rfl ?_
      refine c_seqR ?_
      refine ops_cons rfl (ow_assign rfl ?_)
      refine ops_cons rfl (ow_assign rfl ?_)
      refine ops_nil ?_
      refine c_ret ?_
      refine tq_r ?_
      refine fin_ret2 rfl rfl rfl ?_
      first
      | (have e := resP_code hC
         rw [e]; exact ⟨none, 0, rfl, Own.nil_ _ _ _ _, X⟩)
      | (have e : (resP (xs.map (·.m)) fr to) = ([], 4) := by rw [resP, if_pos hT, elm, if_pos ⟨hF, hTo⟩, hWn.1 hA]
         rw [e]; exact ⟨none, 0, rfl, Own.nil_ _ _ _ _, X⟩)
      | (cases hw : wayF (xs.map (·.m)) fr to with
         | none => exact absurd (hWn.2 hw) hA
         | some p =>
           have e : (resP (xs.map (·.m)) fr to) = (p, 0) := by rw [resP, if_pos hT, elm, if_pos ⟨hF, hTo⟩, hw]
           rw [hw] at oW
           rw [e]; exact ⟨AW, cW, rfl, oW, X⟩)
    · skip
      refine ops_nil ?_
      refine c_false rfl ?_
      refine c_skip ?_
      refine tq_n ?_
      refine c_seqR ?_
      refine ops_cons rfl (ow_move rfl ?_)
      refine ops_cons rfl (ow_assign rfl ?_)
      refine ops_cons rfl (ow_assign rfl ?_)
      refine ops_nil ?_
      refine c_ret ?_
      refine fin_ret2 rfl rfl rfl ?_
      first
      | (have e := resP_code hC
         rw [e]; exact ⟨none, 0, rfl, Own.nil_ _ _ _ _, X⟩)
      | (have e : (resP (xs.map (·.m)) fr to) = ([], 4) := by rw [resP, if_pos hT, elm, if_pos ⟨hF, hTo⟩, hWn.1 hA]
         rw [e]; exact ⟨none, 0, rfl, Own.nil_ _ _ _ _, X⟩)
      | (cases hw : wayF (xs.map (·.m)) fr to with
         | none => exact absurd (hWn.2 hw) hA
         | some p =>
           have e : (resP (xs.map (·.m)) fr to) = (p, 0) := by rw [resP, if_pos hT, elm, if_pos ⟨hF, hTo⟩, hw]
           rw [hw] at oW
           rw [e]; exact ⟨AW, cW, rfl, oW, X⟩)
end Go.Proofs.Ytimabffnoanciaa
