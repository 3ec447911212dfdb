/- Bytes of slot tables. No condition. -/
import Derived.Test.YthdeoagoehkcfaaD2
import Derived.Test.YthdeoagoehkcfaaFlowK
namespace Go.Proofs.Ythdeoagoehkcfaa
open Go.RowKit
set_option linter.unusedVariables false
set_option linter.unusedSimpArgs false
set_option maxRecDepth 20000
def descB (d : Desc) : List Int := [d.node, d.kind * 64 + d.size, d.duration / 256, d.duration % 256, if d.change = true then 1 else 0]
def slotB (x : SlotI) : List Int := [x.mode * 16 + x.round, x.slot] ++ descB x.desc
def stP (xs : List SlotI) (k : Nat) : List Int := (xs.length : Int) :: (xs.take k).flatMap slotB
def stB (xs : List SlotI) : List Int := stP xs xs.length
def resB (xs : List SlotI) : List Int × Int := if isST xs = true then (stB xs, 0) else ([], 1)
theorem stP_step {xs : List SlotI} {k : Nat} {x : SlotI} (h : xs[k]? = some x) : (stP xs (k + 1)).flatMap eI = ((stP xs k).flatMap eI ++ (eI (x.mode * 16 + x.round) ++ eI x.slot)) ++ (descB x.desc).flatMap eI := by
  unfold stP
  rw [List.take_add_one, h]
  simp [List.flatMap_append, slotB]
theorem flat7 : ∀ l : List SlotI, (l.flatMap slotB).length = 7 * l.length
  | [] => rfl
  | x :: l => by rw [List.flatMap_cons, List.length_append, flat7 l]; simp [slotB, descB]; omega
theorem stP_len {xs : List SlotI} {k : Nat} (h : k ≤ xs.length) : (stP xs k).length = 1 + 7 * k := by
  unfold stP
  rw [List.length_cons, flat7, List.length_take]; omega
theorem resB_len (xs : List SlotI) (h : xs.length ≤ 1048576) : (resB xs).1.length ≤ 1048576 := by
  unfold resB
  split
  · rename_i hT
    have := isST_len hT
    have h2 := stP_len (xs := xs) (Nat.le_refl _)
    show (stP xs xs.length).length ≤ _
    omega
  · simp
theorem descOk_in {d : Desc} (h : descOk d = true) : (0 ≤ d.node ∧ d.node ≤ 31) ∧ (0 ≤ d.kind ∧ d.kind ≤ 3) ∧ (0 ≤ d.size ∧ d.size ≤ 32) ∧ (0 ≤ d.duration ∧ d.duration ≤ 1000) := by
  simp only [descOk, Bool.and_eq_true] at h
  have h1 := inB_iff.1 h.1.1.1.1; have h2 := inB_iff.1 h.1.1.1.2; have h3 := dataOk_in h.1.1.2; have h4 := inB_iff.1 h.2
  have h5 := cellsS_in d.kind h3
  exact ⟨h1, h2, h3, by omega⟩
theorem slotOk_in {x : SlotI} (h : slotOk x = true) : (0 ≤ x.mode ∧ x.mode ≤ 15) ∧ (0 ≤ x.round ∧ x.round ≤ 7) ∧ (0 ≤ x.slot ∧ x.slot ≤ 15) ∧ descOk x.desc = true := by
  simp only [slotOk, Bool.and_eq_true] at h
  exact ⟨inB_iff.1 h.1.1.1, inB_iff.1 h.1.1.2, inB_iff.1 h.1.2, h.2⟩
theorem l08Bytes_c (d : Desc) (w : World) (hd : descOk d = true) :
    Calls Try.prog 101 #[.agg d.cells.toArray] w (Ret fun v w' => ∃ A' c', v = .slice A' 5 c' ∧ Own w' w.heap.size 2 1 A' 5 c' ((descB d).flatMap eI) ∧ Ext w w') := by
  have hr := descOk_in hd
  have X := Ext.refl w
  refine calls_of (args := [.agg d.cells.toArray]) Try.func101 Try.ntmps101 rfl rfl ?_
  refine c_seqR ?_
  refine ops_cons rfl (ow_box rfl rfl ?_)
  intro g4 w3 eg4 b1 x2 zg4
  have lg4 : w.heap.size ≤ g4 := Nat.le_trans X.size (Nat.le_of_eq eg4.symm)
  replace X := Ext.trans X x2; clear x2
  refine ops_cons rfl (ow_assign rfl ?_)
  refine ops_nil ?_
  refine c_seqR ?_
  refine ops_cons rfl (ow_assign rfl ?_)
  refine ops_nil ?_
  refine c_seq ?_
  refine c_seqR ?_
  refine ops_cons rfl (ow_fieldAddrB off55_4 rfl rfl ?_)
  refine ops_cons rfl (ow_loadB b1 ti4 rfl rfl ?_)
  cases hch : d.change
  · skip
    refine ops_nil ?_
    refine c_false rfl ?_
    refine c_skip ?_
    refine tq_n ?_
    refine c_seqR ?_
    refine ops_cons rfl (ow_fieldAddrB off55_0 rfl rfl ?_)
    refine ops_cons rfl (ow_loadB b1 ti2 rfl rfl ?_)
    refine ops_cons rfl (ow_fieldAddrB off55_1 rfl rfl ?_)
    refine ops_cons rfl (ow_loadB b1 ti2 rfl rfl ?_)
    refine ops_cons rfl (ow_mul rfl rfl (w64 (by omega)) ?_)
    refine ops_cons rfl (ow_fieldAddrB off55_2 rfl rfl ?_)
    refine ops_cons rfl (ow_loadB b1 ti2 rfl rfl ?_)
    refine ops_cons rfl (ow_add rfl rfl (w64 (by omega)) ?_)
    refine ops_cons rfl (ow_fieldAddrB off55_3 rfl rfl ?_)
    refine ops_cons rfl (ow_loadB b1 ti2 rfl rfl ?_)
    refine ops_cons rfl (ow_quo rfl rfl (by omega) (q64 (by omega)) ?_)
    refine ops_cons rfl (ow_fieldAddrB off55_3 rfl rfl ?_)
    refine ops_cons rfl (ow_loadB b1 ti2 rfl rfl ?_)
    refine ops_cons rfl (ow_rem rfl rfl (by omega) (m64 (by omega)) ?_)
    refine ops_cons rfl (ow_move rfl ?_)
    refine ops_cons rfl (ow_buildSlice el22 ti2 rfl rfl rfl rfl rfl ?_)
    intro g5 w7 eg5 oS bbg5 x6 zg5
    replace oS := Own.low oS X.size
    replace b1 := b1.ext x6
    replace X := Ext.trans X x6; clear x6
    refine ops_cons rfl (ow_assign rfl ?_)
    refine ops_nil ?_
    refine c_ret ?_
    refine fin_ret1 rfl rfl ?_
    exact ⟨_, _, rfl, oS.to (by simp [descB, hch, eI, repL]), X⟩
  · skip
    refine ops_nil ?_
    refine c_true rfl ?_
    refine c_region ?_
    refine ops_cons rfl (ow_assign rfl ?_)
    refine ops_nil ?_
    refine tq_n ?_
    refine c_seqR ?_
    refine ops_cons rfl (ow_fieldAddrB off55_0 rfl rfl ?_)
    refine ops_cons rfl (ow_loadB b1 ti2 rfl rfl ?_)
    refine ops_cons rfl (ow_fieldAddrB off55_1 rfl rfl ?_)
    refine ops_cons rfl (ow_loadB b1 ti2 rfl rfl ?_)
    refine ops_cons rfl (ow_mul rfl rfl (w64 (by omega)) ?_)
    refine ops_cons rfl (ow_fieldAddrB off55_2 rfl rfl ?_)
    refine ops_cons rfl (ow_loadB b1 ti2 rfl rfl ?_)
    refine ops_cons rfl (ow_add rfl rfl (w64 (by omega)) ?_)
    refine ops_cons rfl (ow_fieldAddrB off55_3 rfl rfl ?_)
    refine ops_cons rfl (ow_loadB b1 ti2 rfl rfl ?_)
    refine ops_cons rfl (ow_quo rfl rfl (by omega) (q64 (by omega)) ?_)
    refine ops_cons rfl (ow_fieldAddrB off55_3 rfl rfl ?_)
    refine ops_cons rfl (ow_loadB b1 ti2 rfl rfl ?_)
    refine ops_cons rfl (ow_rem rfl rfl (by omega) (m64 (by omega)) ?_)
    refine ops_cons rfl (ow_move rfl ?_)
    refine ops_cons rfl (ow_buildSlice el22 ti2 rfl rfl rfl rfl rfl ?_)
    intro g8 w10 eg8 oS bbg8 x9 zg8
    replace oS := Own.low oS X.size
    replace b1 := b1.ext x9
    replace X := Ext.trans X x9; clear x9
    refine ops_cons rfl (ow_assign rfl ?_)
    refine ops_nil ?_
    refine c_ret ?_
    refine fin_ret1 rfl rfl ?_
    exact ⟨_, _, rfl, oS.to (by simp [descB, hch, eI, repL]), X⟩
end Go.Proofs.Ythdeoagoehkcfaa
