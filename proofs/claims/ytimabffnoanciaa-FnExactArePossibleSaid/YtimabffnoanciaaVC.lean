/- The law FnExactArePossible answers true for all arguments that its row admits, and leaves what was there before as it was. No condition. -/
import Derived.Test.YtimabffnoanciaaPV
import Derived.Test.YtimabffnoanciaaU4
import Derived.Test.YtimabffnoanciaaMK
import Derived.Test.YtimabffnoanciaaFlowR
namespace Go.Proofs.Ytimabffnoanciaa
open Go.ChangeShapes Go.WideShapes Go.ChangeAt Go.RowKit
set_option linter.unusedVariables false
set_option linter.unusedSimpArgs false
set_option maxRecDepth 20000
def Dem.ok (d : Dem) : Prop := In64 d.node ∧ In64 d.every ∧ In64 d.size
def Bk.ok (d : Bk) : Prop := In64 d.slot ∧ In64 d.phase
theorem law_own : ownKnob Try.prog.godebug = none := by kernel_rfl
theorem law_laid : laidOutB Try.prog = true := by kernel_rfl
theorem open_Dem {H : Type} {enc : TypeId × Value → H} {W : World} {sp : Nat → Bool} {fuel : Nat} {cs : List Value} {x : DataW H × List MemPlace} (h : DataW.trod enc Try.prog W 0 sp true fuel 94 cs = some x) : ∃ d : Dem, cs = d.cells ∧ d.ok := by
  have hl : cs.length = 3 := (len_of Try.underlying94 h).trans (by kernel_rfl)
  match cs, hl with
  | [c0, c1, c2], _ =>
    obtain ⟨n0, y0, h0⟩ := trod_field Try.underlying94 h 0 rfl
    obtain ⟨z0, e0, w0⟩ := open_i64 Try.underlying2 h0
    obtain rfl : c0 = .int .i64 z0 := by have e := show [c0] = [.int .i64 z0] from e0; injection e
    obtain ⟨n1, y1, h1⟩ := trod_field Try.underlying94 h 1 rfl
    obtain ⟨z1, e1, w1⟩ := open_i64 Try.underlying2 h1
    obtain rfl : c1 = .int .i64 z1 := by have e := show [c1] = [.int .i64 z1] from e1; injection e
    obtain ⟨n2, y2, h2⟩ := trod_field Try.underlying94 h 2 rfl
    obtain ⟨z2, e2, w2⟩ := open_i64 Try.underlying2 h2
    obtain rfl : c2 = .int .i64 z2 := by have e := show [c2] = [.int .i64 z2] from e2; injection e
    exact ⟨⟨z0, z1, z2⟩, rfl, ⟨w0, w1, w2⟩⟩
theorem open_Bk {H : Type} {enc : TypeId × Value → H} {W : World} {sp : Nat → Bool} {fuel : Nat} {cs : List Value} {x : DataW H × List MemPlace} (h : DataW.trod enc Try.prog W 0 sp true fuel 104 cs = some x) : ∃ d : Bk, cs = d.cells ∧ d.ok := by
  have hl : cs.length = 2 := (len_of Try.underlying104 h).trans (by kernel_rfl)
  match cs, hl with
  | [c0, c1], _ =>
    obtain ⟨n0, y0, h0⟩ := trod_field Try.underlying104 h 0 rfl
    obtain ⟨z0, e0, w0⟩ := open_i64 Try.underlying2 h0
    obtain rfl : c0 = .int .i64 z0 := by have e := show [c0] = [.int .i64 z0] from e0; injection e
    obtain ⟨n1, y1, h1⟩ := trod_field Try.underlying104 h 1 rfl
    obtain ⟨z1, e1, w1⟩ := open_i64 Try.underlying2 h1
    obtain rfl : c1 = .int .i64 z1 := by have e := show [c1] = [.int .i64 z1] from e1; injection e
    exact ⟨⟨z0, z1⟩, rfl, ⟨w0, w1⟩⟩
theorem law_FnExactArePossible (A : Option Addr) (B c : Nat) (xs : List Dem) (rounds slots : Int) (A2 : Option Addr) (B2 c2 : Nat) (bks : List Bk) (w : World) (hs : Sl B w A (xs.flatMap Dem.cells)) (ht2 : Sl B2 w A2 (bks.flatMap Bk.cells)) (hm : xs.length ≤ 9223372036854775807) (hm2 : bks.length ≤ 9223372036854775807) :
    Calls Try.prog 7 #[.slice A xs.length c, .int .i64 rounds, .int .i64 slots, .slice A2 bks.length c2] w (Ret fun v w' => v = .bool true ∧ Ext w w') := by
  have Bhs := hs.1
  have Bht2 := ht2.1
  have X := Ext.refl w
  refine calls_of (args := [.slice A xs.length c, .int .i64 rounds, .int .i64 slots, .slice A2 bks.length c2]) Try.func7 Try.ntmps7 rfl rfl ?_
  refine c_seqR ?_
  refine ops_cons rfl (ow_assign rfl ?_)
  refine ops_nil ?_
  refine c_seqR ?_
  refine ops_cons rfl (ow_assign rfl ?_)
  refine ops_nil ?_
  refine c_seqR ?_
  refine ops_cons rfl (ow_move rfl ?_)
  refine ops_cons rfl (ow_move rfl ?_)
  refine ops_cons rfl (ow_call ent23 rfl (ret_mono (szDem_c _ _ _ _ hm) ?_))
  rintro _ w2 ⟨rfl, x1⟩
  replace hs := hs.ext x1
  replace ht2 := ht2.ext x1
  replace X := Ext.trans X x1; clear x1
  refine ops_cons rfl (ow_assign rfl ?_)
  refine ops_nil ?_
  refine c_seq ?_
  refine c_seqR ?_
  refine ops_cons rfl (ow_move rfl ?_)
  refine ops_cons rfl (ow_lss2 rfl rfl (fun hz0 => ?_) (fun hz0 => ?_))
  · skip
    refine ops_nil ?_
    refine c_true rfl ?_
    refine c_seqR ?_
    refine ops_cons rfl (ow_assign rfl ?_)
    refine ops_nil ?_
    refine c_ret ?_
    refine tq_r ?_
    refine fin_ret1 rfl rfl ?_
    exact ⟨rfl, X⟩
  · skip
    have hl : xs.length ≤ 1048576 := by
      by_cases h : 1048576 - (xs.length : Int) < 0
      · rw [if_pos h] at hz0; omega
      · omega
    have hLL : (if 1048576 - (xs.length : Int) < 0 then (-1 : Int) else 1048576 - (xs.length : Int)) = 1048576 - (xs.length : Int) := if_neg (by omega)
    refine ops_nil ?_
    refine c_false rfl ?_
    refine c_skip ?_
    refine tq_n ?_
    refine c_seqR ?_
    refine ops_cons rfl (ow_move rfl ?_)
    refine ops_cons rfl (ow_move rfl ?_)
    refine ops_cons rfl (ow_call ent34 rfl (ret_mono (szBkL_c _ _ _ _ _ hm2 (by rw [hLL]; omega)) ?_))
    rintro _ w4 ⟨rfl, x3⟩
    replace hs := hs.ext x3
    replace ht2 := ht2.ext x3
    replace X := Ext.trans X x3; clear x3
    refine ops_cons rfl (ow_assign rfl ?_)
    refine ops_nil ?_
    refine c_seq ?_
    refine c_seqR ?_
    refine ops_cons rfl (ow_move rfl ?_)
    refine ops_cons rfl (ow_lss2 rfl rfl (fun hz1 => ?_) (fun hz1 => ?_))
    · skip
      refine ops_nil ?_
      refine c_true rfl ?_
      refine c_seqR ?_
      refine ops_cons rfl (ow_assign rfl ?_)
      refine ops_nil ?_
      refine c_ret ?_
      refine tq_r ?_
      refine fin_ret1 rfl rfl ?_
      exact ⟨rfl, X⟩
    · skip
      rw [hLL] at hz1
      have hl2 : bks.length ≤ 1048576 := by
        unfold szInt at hz1
        split at hz1 <;> omega
      refine ops_nil ?_
      refine c_false rfl ?_
      refine c_skip ?_
      refine tq_n ?_
      refine c_seqR ?_
      refine ops_cons rfl (ow_move rfl ?_)
      refine ops_cons rfl (ow_call ent25 rfl (ret_mono (toDemS_c _ _ _ _ _ hs hl) ?_))
      rintro _ w6 ⟨A7, c8, rfl, oD0, x5⟩
      replace oD0 := Own.low oD0 X.size
      replace hs := hs.ext x5
      replace ht2 := ht2.ext x5
      replace X := Ext.trans X x5; clear x5
      refine ops_cons rfl (ow_move rfl ?_)
      refine ops_cons rfl (ow_move rfl ?_)
      refine ops_cons rfl (ow_move rfl ?_)
      refine ops_cons rfl (ow_call ent36 rfl (ret_mono (toBkS_c _ _ _ _ _ ht2 hl2) ?_))
      rintro _ w10 ⟨A11, c12, rfl, oB0, x9⟩
      replace oB0 := Own.low oB0 X.size
      replace hs := hs.ext x9
      replace ht2 := ht2.ext x9
      replace oD0 := oD0.ext x9
      replace X := Ext.trans X x9; clear x9
      refine ops_cons rfl (ow_call ent35 rfl (ret_mono (sAP_c _ _ _ _ _ _ _ _ _ _ _ (oD0).sl hl (oB0).sl hl2) ?_))
      rintro _ w14 ⟨rfl, x13⟩
      replace hs := hs.ext x13
      replace ht2 := ht2.ext x13
      replace oD0 := oD0.ext x13
      replace oB0 := oB0.ext x13
      replace X := Ext.trans X x13; clear x13
      refine ops_cons rfl (ow_assign rfl ?_)
      refine ops_nil ?_
      refine c_seqR ?_
      refine ops_cons rfl (ow_move rfl ?_)
      refine ops_cons rfl (ow_call ent25 rfl (ret_mono (toDemS_c _ _ _ _ _ hs hl) ?_))
      rintro _ w16 ⟨A17, c18, rfl, oD1, x15⟩
      have LoD1 := X.size
      replace hs := hs.ext x15
      replace ht2 := ht2.ext x15
      replace oD0 := oD0.ext x15
      replace oB0 := oB0.ext x15
      replace X := Ext.trans X x15; clear x15
      refine ops_cons rfl (ow_assign rfl ?_)
      refine ops_nil ?_
      refine c_seqR ?_
      refine ops_cons rfl (ow_move rfl ?_)
      refine ops_cons rfl (ow_call ent36 rfl (ret_mono (toBkS_c _ _ _ _ _ ht2 hl2) ?_))
      rintro _ w20 ⟨A21, c22, rfl, oB1, x19⟩
      have LoB1 := X.size
      replace hs := hs.ext x19
      replace ht2 := ht2.ext x19
      replace oD0 := oD0.ext x19
      replace oB0 := oB0.ext x19
      replace oD1 := oD1.ext x19
      replace X := Ext.trans X x19; clear x19
      refine ops_cons rfl (ow_assign rfl ?_)
      refine ops_nil ?_
      refine c_seqR ?_
      refine ops_cons rfl (ow_move rfl ?_)
      refine ops_cons rfl (ow_move rfl ?_)
      refine ops_cons rfl (ow_move rfl ?_)
      refine ops_cons rfl (ow_move rfl ?_)
      refine ops_cons rfl (ow_call ent37 rfl (ret_mono (iAP_c _ _ _ _ _ _ _ _ _ _ _ (oD1).sl hl (oB1).sl hl2) ?_))
      rintro _ w24 ⟨rfl, x23⟩
      replace hs := hs.ext x23
      replace ht2 := ht2.ext x23
      replace oD0 := oD0.ext x23
      replace oB0 := oB0.ext x23
      replace oD1 := oD1.ext x23
      replace oB1 := oB1.ext x23
      replace X := Ext.trans X x23; clear x23
      refine ops_cons rfl (ow_assign rfl ?_)
      refine ops_nil ?_
      refine c_seq ?_
      refine c_seqR ?_
      refine ops_cons rfl (ow_move rfl ?_)
      refine ops_cons rfl (ow_move rfl ?_)
      refine ops_cons rfl (ow_neqBd2 Try.underlying4 rfl rfl (fun h25 => absurd h25 (by simp)) (fun h25 => ?_))
      refine ops_nil ?_
      refine c_false rfl ?_
      refine c_skip ?_
      refine tq_n ?_
      refine c_seq ?_
      refine c_seqR ?_
      refine ops_cons rfl (ow_move rfl ?_)
      refine ops_cons rfl (ow_move rfl ?_)
      refine ops_cons rfl (ow_call ent25 rfl (ret_mono (toDemS_c _ _ _ _ _ hs hl) ?_))
      rintro _ w27 ⟨A28, c29, rfl, oD2, x26⟩
      replace oD2 := Own.low oD2 X.size
      replace hs := hs.ext x26
      replace ht2 := ht2.ext x26
      replace oD0 := oD0.ext x26
      replace oB0 := oB0.ext x26
      replace oD1 := oD1.ext x26
      replace oB1 := oB1.ext x26
      replace X := Ext.trans X x26; clear x26
      refine ops_cons rfl (ow_call ent27 rfl (ret_mono (eqDemS_c _ _ _ _ _ _ _ _ (oD1).sl (oD2).sl hl) ?_))
      rintro _ w31 ⟨rfl, x30⟩
      replace hs := hs.ext x30
      replace ht2 := ht2.ext x30
      replace oD0 := oD0.ext x30
      replace oB0 := oB0.ext x30
      replace oD1 := oD1.ext x30
      replace oB1 := oB1.ext x30
      replace oD2 := oD2.ext x30
      replace X := Ext.trans X x30; clear x30
      clear oD2
      refine ops_cons rfl (ow_not rfl ?_)
      refine ops_nil ?_
      refine c_false rfl ?_
      refine c_skip ?_
      refine tq_n ?_
      refine c_seq ?_
      refine c_seqR ?_
      refine ops_cons rfl (ow_move rfl ?_)
      refine ops_cons rfl (ow_move rfl ?_)
      refine ops_cons rfl (ow_call ent36 rfl (ret_mono (toBkS_c _ _ _ _ _ ht2 hl2) ?_))
      rintro _ w33 ⟨A34, c35, rfl, oB2, x32⟩
      replace oB2 := Own.low oB2 X.size
      replace hs := hs.ext x32
      replace ht2 := ht2.ext x32
      replace oD0 := oD0.ext x32
      replace oB0 := oB0.ext x32
      replace oD1 := oD1.ext x32
      replace oB1 := oB1.ext x32
      replace X := Ext.trans X x32; clear x32
      refine ops_cons rfl (ow_call ent38 rfl (ret_mono (eqBkS_c _ _ _ _ _ _ _ _ (oB1).sl (oB2).sl hl2) ?_))
      rintro _ w37 ⟨rfl, x36⟩
      replace hs := hs.ext x36
      replace ht2 := ht2.ext x36
      replace oD0 := oD0.ext x36
      replace oB0 := oB0.ext x36
      replace oD1 := oD1.ext x36
      replace oB1 := oB1.ext x36
      replace oB2 := oB2.ext x36
      replace X := Ext.trans X x36; clear x36
      clear oB2
      refine ops_cons rfl (ow_not rfl ?_)
      refine ops_nil ?_
      refine c_false rfl ?_
      refine c_skip ?_
      refine tq_n ?_
      refine c_seqR ?_
      refine ops_cons rfl (ow_assign rfl ?_)
      refine ops_nil ?_
      refine c_ret ?_
      refine fin_ret1 rfl rfl ?_
      exact ⟨rfl, X⟩
set_option maxRecDepth 100000

theorem fnExactArePossible_lifted (os : Os) (started : os.Started) (H : Type) (enc : TypeId × Value → H) :
    ReturnsInHanded {} Try.checked os 7 .any (Rows.fnExactArePossibleSpec.pre6 enc Try.prog Try.f7 Rows.fnExactArePossibleRow.domain false) (Rows.fnExactArePossibleSpec.post enc Try.prog Try.f7 false true false false) := by
  refine returnsInHanded_of_change (C := Try.checked) law_own started (by kernel_rfl) Try.func7
    (ChangeSpec.witness6 (enc := enc) (C := Try.checked) false ⟨#[], #[.slice none 0 0, .int .i64 0, .int .i64 0, .slice none 0 0], []⟩ 8 (by kernel_rfl) (by kernel_rfl) (by kernel_rfl) (by kernel_rfl)) ?_
  intro W base args ds gs before hval0 hW hcnd _
  have hval : ∀ (j : Nat) t v, Try.f7.params[j]? = some t → args[j]? = some v → Value.okWide Try.prog W .any base t v := hval0
  have hW' := hW
  obtain ⟨p, q, hA0, hV, rfl, hfz, hnd⟩ := hW
  have hA : DataW.TrodAll enc Try.prog W 0 (fun _ => true) true Try.f7.params.toList args.toList ds p := hA0
  rw [Try.params7] at hA hval
  obtain ⟨rfl, rfl⟩ := trodVars_none hV
  obtain ⟨v0, vs0, d0, ds0, p0, q0, hargs, rfl, rfl, h0, r0⟩ := trodAll_cons hA
  obtain ⟨v1, vs1, d1, ds1, p1, q1, rfl, rfl, rfl, h1, r1⟩ := trodAll_cons r0
  obtain ⟨v2, vs2, d2, ds2, p2, q2, rfl, rfl, rfl, h2, r2⟩ := trodAll_cons r1
  obtain ⟨v3, vs3, d3, ds3, p3, q3, rfl, rfl, rfl, h3, r3⟩ := trodAll_cons r2
  obtain ⟨rfl, rfl, rfl⟩ := trodAll_nil r3
  obtain rfl : args = #[v0, v1, v2, v3] := by cases args; simp_all
  obtain ⟨a0, l0, k0, rfl⟩ := okWide_slice Try.underlying32 (hval 0 32 v0 rfl rfl)
  obtain ⟨m0, x0, t0⟩ := cell_of rfl h0
  obtain ⟨Axs, xs, cxs, exs, sxs, wxs, lxs⟩ := open_sl (s := 3) Try.underlying32 (by kernel_rfl) Dem.len (by omega) (fun _ _ _ h => open_Dem h) t0
  rw [exs]
  obtain ⟨rounds, rfl, _, _, _⟩ := open_int Try.underlying2 (hval 1 2 v1 rfl rfl) h1
  obtain ⟨slots, rfl, _, _, _⟩ := open_int Try.underlying2 (hval 2 2 v2 rfl rfl) h2
  obtain ⟨a3, l3, k3, rfl⟩ := okWide_slice Try.underlying48 (hval 3 48 v3 rfl rfl)
  obtain ⟨m3, x3, t3⟩ := cell_of rfl h3
  obtain ⟨Abks, bks, cbks, ebks, sbks, wbks, lbks⟩ := open_sl (s := 2) Try.underlying48 (by kernel_rfl) Bk.len (by omega) (fun _ _ _ h => open_Bk h) t3
  rw [ebks]
  refine Calls.mono (law_FnExactArePossible _ _ _ xs rounds slots _ _ _ bks W sxs sbks lxs lbks) fun e W' h => ?_
  cases e <;> first | exact h.elim | skip
  obtain ⟨rfl, hb⟩ := h
  exact ⟨_, rfl, law_post law_laid (by kernel_rfl) rfl rfl Try.underlying4 (by rw [← exs, ← ebks]; exact hW') rfl hb⟩

theorem fnExactArePossible_holds : Rows.FnExactArePossibleSaid :=
  OpenClaim.holds_of_wide 7 Try.f7 rfl rfl rfl rfl rfl rfl rfl ⟨rfl, rfl, rfl, rfl, rfl⟩ rfl rfl rfl rfl rfl (by kernel_rfl) Try.func7 (by kernel_rfl)
    (of_decide_eq_true (by kernel_rfl)) (by unfold Func.isWrapper; rw [if_neg (of_decide_eq_false (by kernel_rfl))]; exact ⟨rfl, rfl⟩)
    (fun os started H enc _ => fnExactArePossible_lifted os started H enc)
end Go.Proofs.Ytimabffnoanciaa
