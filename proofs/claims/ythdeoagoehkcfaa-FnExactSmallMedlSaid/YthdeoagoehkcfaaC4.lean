/- Copies of schedules. No condition. -/
import Derived.Test.YthdeoagoehkcfaaC1
import Derived.Test.YthdeoagoehkcfaaC2
import Derived.Test.YthdeoagoehkcfaaC3
namespace Go.Proofs.Ythdeoagoehkcfaa
open Go.RowKit
set_option linter.unusedVariables false
set_option linter.unusedSimpArgs false
set_option maxRecDepth 20000
theorem eqMedl0_c (m : MedlI) (B B2 : Nat) (A2 : Option Addr) (c2 : Nat) (A3 : Option Addr) (ms2 : List ModeI) (c3 : Nat) (A4 : Option Addr) (c4 : Nat) (w : World) (hm : Med B w m) (h2 : Med B2 w (⟨m.id, A2, m.ns, c2, A3, ms2, c3, A4, m.ss, c4⟩ : MedlI)) (em : ms2.map (·.m) = m.ms.map (·.m)) (hz : m.small) :
    Calls Try.prog 20 #[.agg m.cells.toArray, .agg (⟨m.id, A2, m.ns, c2, A3, ms2, c3, A4, m.ss, c4⟩ : MedlI).cells.toArray] w (Ret fun v w' => v = .bool true ∧ Ext w w') := by
  have hls := hz.ls
  have hlm := hz.lm
  have hln := hz.ln
  have Bhm := hm.1
  have Bh2 := h2.1
  have X := Ext.refl w
  refine calls_of (args := [.agg m.cells.toArray, .agg (⟨m.id, A2, m.ns, c2, A3, ms2, c3, A4, m.ss, c4⟩ : MedlI).cells.toArray]) Try.func20 Try.ntmps20 rfl rfl ?_
  refine c_seqR ?_
  refine ops_cons rfl (ow_box rfl rfl ?_)
  intro g4 w3 eg4 b1 x2 zg4
  have lg4 : w.heap.size ≤ g4 := Nat.le_trans X.size (Nat.le_of_eq eg4.symm)
  have pg4hm := Nat.le_trans hm.1 (Nat.le_of_eq eg4.symm)
  have pg4h2 := Nat.le_trans h2.1 (Nat.le_of_eq eg4.symm)
  replace hm := hm.ext x2
  replace h2 := h2.ext x2
  replace X := Ext.trans X x2; clear x2
  refine ops_cons rfl (ow_box rfl rfl ?_)
  intro g8 w7 eg8 b5 x6 zg8
  have lg8 : w.heap.size ≤ g8 := Nat.le_trans X.size (Nat.le_of_eq eg8.symm)
  have pg8hm := Nat.le_trans hm.1 (Nat.le_of_eq eg8.symm)
  have pg8h2 := Nat.le_trans h2.1 (Nat.le_of_eq eg8.symm)
  have ng8b1 := Nat.lt_of_lt_of_eq b1.lt eg8.symm
  replace hm := hm.ext x6
  replace h2 := h2.ext x6
  replace b1 := b1.ext x6
  replace X := Ext.trans X x6; clear x6
  refine ops_cons rfl (ow_assign rfl ?_)
  refine ops_nil ?_
  refine c_seq ?_
  refine c_seqR ?_
  refine ops_cons rfl (ow_fieldAddrB off37_0 rfl rfl ?_)
  refine ops_cons rfl (ow_loadB b1 ti2 rfl rfl ?_)
  refine ops_cons rfl (ow_fieldAddrB off37_0 rfl rfl ?_)
  refine ops_cons rfl (ow_loadB b5 ti2 rfl rfl ?_)
  refine ops_cons rfl (ow_neq2 rfl rfl (fun h9 => absurd h9 (by simp)) (fun h9 => ?_))
  refine ops_nil ?_
  refine c_false rfl ?_
  refine c_skip ?_
  refine tq_n ?_
  refine c_seq ?_
  refine c_seqR ?_
  refine ops_cons rfl (ow_fieldAddrB off37_1 rfl rfl ?_)
  refine ops_cons rfl (ow_loadB b1 ti34 rfl rfl ?_)
  refine ops_cons rfl (ow_fieldAddrB off37_1 rfl rfl ?_)
  refine ops_cons rfl (ow_loadB b5 ti34 rfl rfl ?_)
  refine ops_cons rfl (ow_call ent46 rfl (ret_mono (eqNodeS_c _ _ _ _ _ _ m.ns _ hm.sn h2.sn hln) ?_))
  rintro _ w11 ⟨rfl, x10⟩
  replace hm := hm.ext x10
  replace h2 := h2.ext x10
  replace b1 := b1.ext x10
  replace b5 := b5.ext x10
  replace X := Ext.trans X x10; clear x10
  refine ops_cons rfl (ow_not rfl ?_)
  refine ops_nil ?_
  refine c_false rfl ?_
  refine c_skip ?_
  refine tq_n ?_
  refine c_seq ?_
  refine c_seqR ?_
  refine ops_cons rfl (ow_fieldAddrB off37_2 rfl rfl ?_)
  refine ops_cons rfl (ow_loadB b1 ti28 rfl rfl ?_)
  refine ops_cons rfl (ow_fieldAddrB off37_2 rfl rfl ?_)
  refine ops_cons rfl (ow_loadB b5 ti28 rfl rfl ?_)
  refine ops_cons rfl (ow_call ent14 rfl (ret_mono (eqModes_c _ _ _ _ _ _ _ _ m.ms ms2 _ hm.sm hm.sx h2.sm h2.sx em.symm hlm hz.lx) ?_))
  rintro _ w13 ⟨rfl, x12⟩
  replace hm := hm.ext x12
  replace h2 := h2.ext x12
  replace b1 := b1.ext x12
  replace b5 := b5.ext x12
  replace X := Ext.trans X x12; clear x12
  refine ops_cons rfl (ow_not rfl ?_)
  refine ops_nil ?_
  refine c_false rfl ?_
  refine c_skip ?_
  refine tq_n ?_
  refine c_seq ?_
  refine c_seqR ?_
  refine ops_cons rfl (ow_fieldAddrB off37_3 rfl rfl ?_)
  refine ops_cons rfl (ow_loadB b1 ti35 rfl rfl ?_)
  refine ops_cons rfl (ow_fieldAddrB off37_3 rfl rfl ?_)
  refine ops_cons rfl (ow_loadB b5 ti35 rfl rfl ?_)
  refine ops_cons rfl (ow_call ent25 rfl (ret_mono (eqSlotIS_c _ _ _ _ _ _ m.ss _ hm.ss h2.ss hls) ?_))
  rintro _ w15 ⟨rfl, x14⟩
  replace hm := hm.ext x14
  replace h2 := h2.ext x14
  replace b1 := b1.ext x14
  replace b5 := b5.ext x14
  replace X := Ext.trans X x14; clear x14
  refine ops_cons rfl (ow_not rfl ?_)
  refine ops_nil ?_
  refine c_false rfl ?_
  refine c_skip ?_
  refine tq_n ?_
  refine c_seqR ?_
  refine ops_cons rfl (ow_assign rfl ?_)
  refine ops_nil ?_
  refine c_ret ?_
  refine fin_ret1 rfl rfl ?_
  exact ⟨by rfl, X⟩

theorem eqMedl_c (m m2 : MedlI) (B B2 : Nat) (w : World) (hm : Med B w m) (h2 : Med B2 w m2) (e : m2.d = m.d) (hz : m.small) :
    Calls Try.prog 20 #[.agg m.cells.toArray, .agg m2.cells.toArray] w (Ret fun v w' => v = .bool true ∧ Ext w w') := by
  obtain ⟨id2, An2, ns2, cn2, Am2, ms2, cm2, As2, ss2, cs2⟩ := m2
  simp only [MedlI.d, MedlD.mk.injEq] at e
  obtain ⟨rfl, rfl, e3, rfl⟩ := e
  exact eqMedl0_c m B B2 An2 cn2 Am2 ms2 cm2 As2 cs2 w hm h2 e3 hz

end Go.Proofs.Ythdeoagoehkcfaa
