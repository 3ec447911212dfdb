/- Tables without demands. No condition. -/
import Derived.Test.YtimabffnoanciaaRP
namespace Go.Proofs.Ytimabffnoanciaa
open Go.RowKit
set_option linter.unusedVariables false
set_option linter.unusedSimpArgs false
set_option maxRecDepth 20000
theorem tblOf_snoc (xs : List ModeI) (x : ModeI) : tblOf (xs ++ [x]) = tblOf xs ++ [x.m.next] := by simp [tblOf]
theorem tab0_succ (k S : Nat) : tab0 (k + 1) S = tab0 k S ++ [List.replicate S (-1)] := by unfold tab0; rw [List.replicate_succ']
theorem rep_snoc (k : Nat) (z : Int) : (List.replicate (k + 1) z).flatMap eI = (List.replicate k z).flatMap eI ++ eI z := by rw [List.replicate_succ', List.flatMap_append, List.flatMap_singleton]
theorem iEmpty_c (R S : Nat) (w : World) (hR : R ≤ 8) (hS : 1 ≤ S ∧ S ≤ 16) :
    Calls Try.prog 112 #[.int .i64 (R : Nat), .int .i64 (S : Nat)] w (Ret fun v w' => ∃ A' c' ys, v = .slice A' (List.length ys) c' ∧ tblOf ys = tab0 R S ∧ Disj ys ∧ Own w' w.heap.size 24 1 A' ys.length c' (ys.flatMap rowC) ∧ NOwn w' w.heap.size 2 ys ∧ Ext w w') := by
  have X := Ext.refl w
  refine calls_of (args := [.int .i64 (R : Nat), .int .i64 (S : Nat)]) Try.func112 Try.ntmps112 rfl rfl ?_
  refine c_seqR ?_
  refine ops_cons rfl (ow_assign rfl ?_)
  refine ops_nil ?_
  refine c_seqR ?_
  refine ops_cons rfl (ow_buildSlice el74 ti24 rfl rfl rfl rfl rfl ?_)
  intro gO w2 egO oT bbgO x1 zgO
  replace oT := Own.low oT X.size
  replace X := Ext.trans X x1; clear x1
  refine ops_cons rfl (ow_assign rfl ?_)
  refine ops_nil ?_
  refine c_seq ?_
  refine c_seqR ?_
  refine ops_cons rfl (ow_move rfl ?_)
  refine ops_cons rfl (ow_move rfl ?_)
  refine ops_nil ?_
  refine c_block ?_
  refine c_loop (G := Nat × List ModeI × Nat × Option Addr × Nat) (fun ⟨k, ys, n1, A1, c1⟩ => [(1, .int .i64 (S : Nat)), (4, .slice none 0 0), (7, .int .i64 (R : Nat)), (5, .slice A1 n1 c1), (8, .int .i64 (k : Nat))]) (fun ⟨k, ys, n1, A1, c1⟩ wr => k ≤ R ∧ n1 = ys.length ∧ ys.length = k ∧ tblOf ys = tab0 k S ∧ Disj ys ∧ Own wr w.heap.size 24 1 A1 n1 c1 (ys.flatMap rowC) ∧ NOwn wr w.heap.size 2 ys ∧ Ext w wr) (fun ⟨k, ys, n1, A1, c1⟩ => R - k) (0, [], 0, some ⟨gO, 0, none⟩, 0) (.cons rfl (.cons rfl (.cons rfl (.cons rfl (.cons rfl (.nil _)))))) ?_ ?_
  · exact ⟨by omega, rfl, rfl, rfl, Disj.nil_, oT, NOwn.nil_, X⟩
  clear oT
  clear X
  rintro ⟨k, ys, n1, A1, c1⟩ wr ⟨hk0, hn, hnk, em, hd, oT, oN, X⟩
  refine c_seqR ?_
  refine ops_cons rfl (ow_lss2 rfl rfl (fun hk => ?_) (fun hk => ?_))
  · skip
    refine ops_nil ?_
    refine c_seq ?_
    refine c_true rfl ?_
    refine c_skip ?_
    refine tq_n ?_
    refine c_seq ?_
    refine c_block ?_
    refine c_region ?_
    refine ops_cons rfl (ow_move rfl ?_)
    refine ops_cons rfl (ow_buildSlice el24 ti2 rfl rfl rfl rfl rfl ?_)
    intro gV w4 egV oV bbgV x3 zgV
    replace oV := Own.low oV X.size
    replace oT := oT.ext x3
    replace oN := oN.ext x3
    replace X := Ext.trans X x3; clear x3
    replace oV := oV.to (cs' := ([-1] : List Int).flatMap eI) rfl
    refine ops_cons rfl (ow_move rfl ?_)
    have hbd := fun y hy g hg => (Own.lt (oN y hy).1 (g := g) hg).2
    refine ops_cons rfl (ow_call ent127 rfl (ret_mono (repeat_c ⟨gV, 0, none⟩ _ 1 (-1) S _ oV.sl (by omega)) ?_))
    rintro _ w6 ⟨AL, cL, rfl, oL, x5⟩
    have LoL := X.size
    replace oT := oT.ext x5
    replace oN := oN.ext x5
    replace oV := oV.ext x5
    replace X := Ext.trans X x5; clear x5
    have hnb := fun g hg => (Own.lt oL (g := g) hg).1
    replace oL := Own.low oL LoL
    clear oV
    refine ops_cons rfl (ow_buildSlice el74 ti24 rfl rfl rfl rfl rfl ?_)
    intro g7 w9 eg7 oW bbg7 x8 zg7
    replace oW := Own.low oW X.size
    replace oT := oT.ext x8
    replace oN := oN.ext x8
    replace oL := oL.ext x8
    replace X := Ext.trans X x8; clear x8
    refine ops_cons rfl (ow_append (ts := #[]) oT X.size oW.sl (by first | rfl | simp) (by first | exact List.all_eq_true.1 rfl | simp [Value.oneCell']) el74 ti24 rfl rfl rfl rfl (by omega) (by omega) ?_)
    intro AoU coU w11 oU hg10
    replace oN := oN.grownO oT hg10 (by decide)
    replace oL := oL.grown hg10 (Own.neO oL oT (by decide))
    replace X := X.grown hg10 X.size (fun g hg => (Own.lt oT hg).1)
    clear hg10
    refine ops_cons rfl (ow_assign rfl ?_)
    refine ops_nil ?_
    refine bq_n ?_
    refine tq_n ?_
    refine c_region ?_
    refine ops_cons rfl (ow_add rfl rfl (w64 (by omega)) ?_)
    refine ops_cons rfl (ow_move rfl ?_)
    refine ops_nil ?_
    refine tq_n ⟨(k + 1, ys ++ [(rowI AL cL (List.replicate S (-1)))], n1 + 1, AoU, coU), (.cons rfl (.cons rfl (.cons rfl (.cons rfl (.cons rfl (.nil _)))))), ?_, ?_⟩
    · exact ⟨by omega, (by simp [hn]), (by simp [hnk]), (by rw [tblOf_snoc, em, tab0_succ]; rfl), (hd.snoc (x := (rowI AL cL (List.replicate S (-1)))) (fun y hy g hg e => absurd (hbd y hy g hg) (Nat.not_lt.2 (hnb g e)))), oU.to (snoc rowC ys (rowI AL cL (List.replicate S (-1)))).symm, oN.snoc (x := (rowI AL cL (List.replicate S (-1)))) oL (by show (List.replicate S (-1 : Int)).length ≤ _; rw [List.length_replicate]; omega), X⟩
    · first | omega | (dsimp only; omega)
  · skip
    refine ops_nil ?_
    refine c_seq ?_
    refine c_false rfl ?_
    refine c_exit ?_
    refine tq_e ?_
    refine tq_e ?_
    refine bq_e ?_
    refine tq_n ?_
    refine c_seqR ?_
    refine ops_cons rfl (ow_move rfl ?_)
    refine ops_cons rfl (ow_assign rfl ?_)
    refine ops_nil ?_
    refine c_ret ?_
    refine fin_ret1 rfl rfl ?_
    rw [show k = R by omega] at em
    subst hn
    exact ⟨A1, c1, ys, rfl, em, hd, oT, oN, X⟩

theorem sFree_c (R S : Nat) (w : World) (hR : R ≤ 8) (hS : 1 ≤ S ∧ S ≤ 16) :
    Calls Try.prog 109 #[.int .i64 (R : Nat), .int .i64 (S : Nat)] w (Ret fun v w' => ∃ A' c' ys, v = .slice A' (List.length ys) c' ∧ tblOf ys = tab0 R S ∧ Disj ys ∧ Own w' w.heap.size 24 1 A' ys.length c' (ys.flatMap rowC) ∧ NOwn w' w.heap.size 2 ys ∧ Ext w w') := by
  have X := Ext.refl w
  refine calls_of (args := [.int .i64 (R : Nat), .int .i64 (S : Nat)]) Try.func109 Try.ntmps109 rfl rfl ?_
  refine c_seqR ?_
  refine ops_cons rfl (ow_assign rfl ?_)
  refine ops_nil ?_
  refine c_seqR ?_
  refine ops_cons rfl (ow_buildSlice el74 ti24 rfl rfl rfl rfl rfl ?_)
  intro gO w2 egO oT bbgO x1 zgO
  replace oT := Own.low oT X.size
  replace X := Ext.trans X x1; clear x1
  refine ops_cons rfl (ow_assign rfl ?_)
  refine ops_nil ?_
  refine c_seq ?_
  refine c_seqR ?_
  refine ops_cons rfl (ow_assign rfl ?_)
  refine ops_nil ?_
  refine c_block ?_
  refine c_loop (G := Nat × List ModeI × Nat × Option Addr × Nat) (fun ⟨k, ys, n1, A1, c1⟩ => [(0, .int .i64 (R : Nat)), (1, .int .i64 (S : Nat)), (4, .slice none 0 0), (5, .slice A1 n1 c1), (6, .int .i64 (k : Nat))]) (fun ⟨k, ys, n1, A1, c1⟩ wr => k ≤ R ∧ n1 = ys.length ∧ ys.length = k ∧ tblOf ys = tab0 k S ∧ Disj ys ∧ Own wr w.heap.size 24 1 A1 n1 c1 (ys.flatMap rowC) ∧ NOwn wr w.heap.size 2 ys ∧ Ext w wr) (fun ⟨k, ys, n1, A1, c1⟩ => R - k) (0, [], 0, some ⟨gO, 0, none⟩, 0) (.cons rfl (.cons rfl (.cons rfl (.cons rfl (.cons rfl (.nil _)))))) ?_ ?_
  · exact ⟨by omega, rfl, rfl, rfl, Disj.nil_, oT, NOwn.nil_, X⟩
  clear oT
  clear X
  rintro ⟨k, ys, n1, A1, c1⟩ wr ⟨hk0, hn, hnk, em, hd, oT, oN, X⟩
  refine c_seq ?_
  refine c_seqR ?_
  refine ops_cons rfl (ow_move rfl ?_)
  refine ops_cons rfl (ow_move rfl ?_)
  refine ops_cons rfl (ow_lss2 rfl rfl (fun hk => ?_) (fun hk => ?_))
  · skip
    refine ops_nil ?_
    refine c_true rfl ?_
    refine c_skip ?_
    refine tq_n ?_
    refine c_seq ?_
    refine c_block ?_
    refine c_seqR ?_
    have UB := fun y hy g hg => (Own.lt (oN y hy).1 (g := g) hg).2
    refine ops_cons rfl (ow_buildSlice el24 ti2 rfl rfl rfl rfl rfl ?_)
    intro gL w4 egL oL bbgL x3 zgL
    replace oL := Own.low oL X.size
    replace oT := oT.ext x3
    replace oN := oN.ext x3
    replace X := Ext.trans X x3; clear x3
    refine ops_cons rfl (ow_assign rfl ?_)
    refine ops_nil ?_
    refine c_seq ?_
    refine c_seqR ?_
    refine ops_cons rfl (ow_assign rfl ?_)
    refine ops_nil ?_
    refine c_block ?_
    refine c_loop (G := Nat × Nat × Option Addr × Nat) (fun ⟨j, n2, A2, c2⟩ => [(0, .int .i64 (R : Nat)), (1, .int .i64 (S : Nat)), (4, .slice none 0 0), (5, .slice A1 n1 c1), (6, .int .i64 (k : Nat)), (10, .int .i64 (k : Nat)), (11, .int .i64 (R : Nat)), (7, .slice A2 n2 c2), (8, .int .i64 (j : Nat))]) (fun ⟨j, n2, A2, c2⟩ wr => j ≤ S ∧ n2 = j ∧ (∀ y ∈ ys, ∀ g, (Value.slice A2 n2 c2).ownBlock = some g → y.blk ≠ some g) ∧ Own wr w.heap.size 2 1 A2 n2 c2 ((List.replicate j (-1 : Int)).flatMap eI) ∧ Own wr w.heap.size 24 1 A1 n1 c1 (ys.flatMap rowC) ∧ NOwn wr w.heap.size 2 ys ∧ Ext w wr) (fun ⟨j, n2, A2, c2⟩ => S - j) (0, 0, some ⟨gL, 0, none⟩, 0) (.cons rfl (.cons rfl (.cons rfl (.cons rfl (.cons rfl (.cons rfl (.cons rfl (.cons rfl (.cons rfl (.nil _)))))))))) ?_ ?_
    · skip
      exact ⟨by omega, rfl, (fun y hy g hg e => by
        have h1 := UB y hy g e
        have h2 : gL = g := by injection hg
        omega), oL, oT, oN, X⟩
    clear oT oN oL
    clear X
    rintro ⟨j, n2, A2, c2⟩ wr ⟨hj0, hnj, hsp, oL, oT, oN, X⟩
    refine c_seq ?_
    refine c_seqR ?_
    refine ops_cons rfl (ow_move rfl ?_)
    refine ops_cons rfl (ow_move rfl ?_)
    refine ops_cons rfl (ow_lss2 rfl rfl (fun hj => ?_) (fun hj => ?_))
    · skip
      refine ops_nil ?_
      refine c_true rfl ?_
      refine c_skip ?_
      refine tq_n ?_
      refine c_seq ?_
      refine c_block ?_
      refine c_region ?_
      refine ops_cons rfl (ow_move rfl ?_)
      refine ops_cons rfl (ow_buildSlice el24 ti2 rfl rfl rfl rfl rfl ?_)
      intro g5 w7 eg5 oV bbg5 x6 zg5
      replace oV := Own.low oV X.size
      replace oL := oL.ext x6
      replace oT := oT.ext x6
      replace oN := oN.ext x6
      replace X := Ext.trans X x6; clear x6
      have UB := fun y hy g hg => (Own.lt (oN y hy).1 (g := g) hg).2
      refine ops_cons rfl (ow_appendW (ts := #[]) oL X.size oV.sl (by first | rfl | simp) (by first | exact List.all_eq_true.1 rfl | simp [Value.oneCell']) el24 ti2 rfl rfl rfl rfl (by omega) (by omega) ?_)
      intro AoM coM w9 oM hg8 hW
      replace oT := oT.grown hg8 (Own.neO oT oL (by decide))
      replace oN := oN.grownX hg8 hsp
      replace X := X.grown hg8 X.size (fun g hg => (Own.lt oL hg).1)
      clear hg8
      have hsp2 := fun y hy => apart_l (hsp y hy) hW (UB y hy)
      refine ops_cons rfl (ow_assign rfl ?_)
      refine ops_nil ?_
      refine bq_n ?_
      refine tq_n ?_
      refine c_region ?_
      refine ops_cons rfl (ow_move rfl ?_)
      refine ops_cons rfl (ow_add rfl rfl (w64 (by omega)) ?_)
      refine ops_cons rfl (ow_assign rfl ?_)
      refine ops_nil ?_
      refine tq_n ⟨(j + 1, n2 + 1, AoM, coM), (.cons rfl (.cons rfl (.cons rfl (.cons rfl (.cons rfl (.cons rfl (.cons rfl (.cons rfl (.cons rfl (.nil _)))))))))), ?_, ?_⟩
      · exact ⟨by omega, by omega, hsp2, oM.to (rep_snoc j (-1)).symm, oT, oN, X⟩
      · first | omega | (dsimp only; omega)
    · skip
      have hjS : S = j := by omega
      subst hjS
      have hnS : n2 = (List.replicate S (-1 : Int)).length := by rw [List.length_replicate]; exact hnj
      subst hnS
      refine ops_nil ?_
      refine c_false rfl ?_
      refine c_exit ?_
      refine tq_e ?_
      refine tq_e ?_
      refine bq_e ?_
      refine tq_n ?_
      refine c_region ?_
      refine ops_cons rfl (ow_move rfl ?_)
      refine ops_cons rfl (ow_move rfl ?_)
      refine ops_cons rfl (ow_buildSlice el74 ti24 rfl rfl rfl rfl rfl ?_)
      intro g10 w12 eg10 oW bbg10 x11 zg10
      replace oW := Own.low oW X.size
      replace oL := oL.ext x11
      replace oT := oT.ext x11
      replace oN := oN.ext x11
      replace X := Ext.trans X x11; clear x11
      refine ops_cons rfl (ow_append (ts := #[]) oT X.size oW.sl (by first | rfl | simp) (by first | exact List.all_eq_true.1 rfl | simp [Value.oneCell']) el74 ti24 rfl rfl rfl rfl (by omega) (by omega) ?_)
      intro AoU coU w14 oU hg13
      replace oL := oL.grown hg13 (Own.neO oL oT (by decide))
      replace oN := oN.grownO oT hg13 (by decide)
      replace X := X.grown hg13 X.size (fun g hg => (Own.lt oT hg).1)
      clear hg13
      refine ops_cons rfl (ow_assign rfl ?_)
      refine ops_nil ?_
      refine bq_n ?_
      refine tq_n ?_
      refine c_region ?_
      refine ops_cons rfl (ow_move rfl ?_)
      refine ops_cons rfl (ow_add rfl rfl (w64 (by omega)) ?_)
      refine ops_cons rfl (ow_assign rfl ?_)
      refine ops_nil ?_
      refine tq_n ⟨(k + 1, ys ++ [(rowI A2 c2 (List.replicate S (-1)))], n1 + 1, AoU, coU), (.cons rfl (.cons rfl (.cons rfl (.cons rfl (.cons rfl (.nil _)))))), ?_, ?_⟩
      · exact ⟨by omega, (by simp [hn]), (by simp [hnk]), (by rw [tblOf_snoc, em, tab0_succ]; rfl), (hd.snoc (x := (rowI A2 c2 (List.replicate S (-1)))) (fun y hy g hg e => hsp y hy g e hg)), oU.to (snoc rowC ys (rowI A2 c2 (List.replicate S (-1)))).symm, oN.snoc (x := (rowI A2 c2 (List.replicate S (-1)))) oL (by show (List.replicate S (-1 : Int)).length ≤ _; rw [List.length_replicate]; omega), X⟩
      · first | omega | (dsimp only; omega)
  · skip
    refine ops_nil ?_
    refine c_false rfl ?_
    refine c_exit ?_
    refine tq_e ?_
    refine tq_e ?_
    refine bq_e ?_
    refine tq_n ?_
    refine c_seqR ?_
    refine ops_cons rfl (ow_move rfl ?_)
    refine ops_cons rfl (ow_assign rfl ?_)
    refine ops_nil ?_
    refine c_ret ?_
    refine fin_ret1 rfl rfl ?_
    rw [show k = R by omega] at em
    subst hn
    exact ⟨A1, c1, ys, rfl, em, hd, oT, oN, X⟩
end Go.Proofs.Ytimabffnoanciaa
