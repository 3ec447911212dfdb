/- Texts of the seat that a law needs, put together. No condition. -/
import Derived.Test.YtdoibplhbdkapaaGreatDoorCKP6
import Derived.Test.YtdoibplhbdkapaaGreatDoorCKP4
import Derived.Test.YtdoibplhbdkapaaGreatDoorCKP5
namespace Go.Proofs.YtdoibplhbdkapaaGreatDoor
open Go.RowKit
set_option linter.unusedVariables false
set_option linter.unusedSimpArgs false
set_option maxRecDepth 20000
def descB (d : Desc) : List Int := [d.node, d.kind * 64 + d.size, d.duration / 256, d.duration % 256, if d.change = true then 1 else 0]
def slotB (x : SlotI) : List Int := [x.mode * 16 + x.round, x.slot] ++ descB x.desc
def stP (xs : List SlotI) (k : Nat) : List Int := (xs.length : Int) :: (xs.take k).flatMap slotB
def stB (xs : List SlotI) : List Int := stP xs xs.length
theorem stP_step {xs : List SlotI} {k : Nat} {x : SlotI} (h : xs[k]? = some x) : (stP xs (k + 1)).flatMap eI = ((stP xs k).flatMap eI ++ (eI (x.mode * 16 + x.round) ++ eI x.slot)) ++ (descB x.desc).flatMap eI := by
  unfold stP
  rw [List.take_add_one, h]
  simp [List.flatMap_append, slotB]
theorem flat7 : ∀ l : List SlotI, (l.flatMap slotB).length = 7 * l.length
  | [] => rfl
  | x :: l => by rw [List.flatMap_cons, List.length_append, flat7 l]; simp [slotB, descB]; omega
theorem stP_len {xs : List SlotI} {k : Nat} (h : k ≤ xs.length) : (stP xs k).length = 1 + 7 * k := by
  unfold stP
  rw [List.length_cons, flat7, List.length_take]; omega
theorem descOk_in {d : Desc} (h : descOk d = true) : (0 ≤ d.node ∧ d.node ≤ 31) ∧ (0 ≤ d.kind ∧ d.kind ≤ 3) ∧ (0 ≤ d.size ∧ d.size ≤ 32) ∧ (0 ≤ d.duration ∧ d.duration ≤ 1000) := by
  simp only [descOk, Bool.and_eq_true] at h
  have h1 := inB_iff.1 h.1.1.1.1; have h2 := inB_iff.1 h.1.1.1.2; have h3 := dataOk_in h.1.1.2; have h4 := inB_iff.1 h.2
  have h5 := cellsS_in d.kind h3
  exact ⟨h1, h2, h3, by omega⟩
theorem slotOk_in {x : SlotI} (h : slotOk x = true) : (0 ≤ x.mode ∧ x.mode ≤ 15) ∧ (0 ≤ x.round ∧ x.round ≤ 7) ∧ (0 ≤ x.slot ∧ x.slot ≤ 15) ∧ descOk x.desc = true := by
  simp only [slotOk, Bool.and_eq_true] at h
  exact ⟨inB_iff.1 h.1.1.1, inB_iff.1 h.1.1.2, inB_iff.1 h.1.2, h.2⟩
theorem oneIf_c (b : Bool) (w : World)  :
    Calls Tryz.prog 217 #[.bool b] w (Ret fun v w' => v = .int .i64 (if b = true then 1 else 0) ∧ Ext w w') := by
  have X := Ext.refl w
  refine calls_of (args := [.bool b]) Tryz.func217 Tryz.ntmps217 rfl rfl ?_
  refine c_seqR ?_
  refine ops_cons rfl (ow_assign rfl ?_)
  refine ops_nil ?_
  refine c_seq ?_
  refine c_seqR ?_
  refine ops_cons rfl (ow_move rfl ?_)
  refine ops_nil ?_
  refine c_split rfl (fun h1 => ?_) (fun h1 => ?_)
  refine c_seqR ?_
  refine ops_cons rfl (ow_assign rfl ?_)
  refine ops_nil ?_
  refine c_ret ?_
  refine tq_r ?_
  refine fin_ret1 rfl rfl ?_
  exact ⟨by simp [*], X⟩
  refine c_skip ?_
  refine tq_n ?_
  refine c_seqR ?_
  refine ops_cons rfl (ow_assign rfl ?_)
  refine ops_nil ?_
  refine c_ret ?_
  refine fin_ret1 rfl rfl ?_
  exact ⟨by simp [*], X⟩

theorem l08Bytes_c (d : Desc) (w : World) (hd : descOk d = true) :
    Calls Tryz.prog 232 #[.agg d.cells.toArray] w (Ret fun v w' => ∃ A' c', v = .slice A' 5 c' ∧ Own w' w.heap.size 2 1 A' 5 c' ((descB d).flatMap eI) ∧ Ext w w') := by
  have hr := descOk_in hd
  have X := Ext.refl w
  refine calls_of (args := [.agg d.cells.toArray]) Tryz.func232 Tryz.ntmps232 rfl rfl ?_
  refine c_seqR ?_
  refine ops_cons rfl (ow_box rfl rfl ?_)
  intro g4 w3 eg4 b1 x2 zg4
  have lg4 : w.heap.size ≤ g4 := Nat.le_trans X.size (Nat.le_of_eq eg4.symm)
  replace X := Ext.trans X x2; clear x2
  refine ops_cons rfl (ow_assign rfl ?_)
  refine ops_nil ?_
  refine c_seqR ?_
  refine ops_cons rfl (ow_assign rfl ?_)
  refine ops_nil ?_
  refine c_seq ?_
  refine c_seqR ?_
  refine ops_cons rfl (ow_fieldAddrB off67_4 rfl rfl ?_)
  refine ops_cons rfl (ow_loadB b1 ti4 rfl rfl ?_)
  cases hch : d.change
  refine ops_nil ?_
  refine c_false rfl ?_
  refine c_skip ?_
  refine tq_n ?_
  refine c_seqR ?_
  refine ops_cons rfl (ow_fieldAddrB off67_0 rfl rfl ?_)
  refine ops_cons rfl (ow_loadB b1 ti2 rfl rfl ?_)
  refine ops_cons rfl (ow_fieldAddrB off67_1 rfl rfl ?_)
  refine ops_cons rfl (ow_loadB b1 ti2 rfl rfl ?_)
  refine ops_cons rfl (ow_mul rfl rfl (w64 (by omega)) ?_)
  refine ops_cons rfl (ow_fieldAddrB off67_2 rfl rfl ?_)
  refine ops_cons rfl (ow_loadB b1 ti2 rfl rfl ?_)
  refine ops_cons rfl (ow_add rfl rfl (w64 (by omega)) ?_)
  refine ops_cons rfl (ow_fieldAddrB off67_3 rfl rfl ?_)
  refine ops_cons rfl (ow_loadB b1 ti2 rfl rfl ?_)
  refine ops_cons rfl (ow_quo rfl rfl (by omega) (q64 (by omega)) ?_)
  refine ops_cons rfl (ow_fieldAddrB off67_3 rfl rfl ?_)
  refine ops_cons rfl (ow_loadB b1 ti2 rfl rfl ?_)
  refine ops_cons rfl (ow_rem rfl rfl (by omega) (m64 (by omega)) ?_)
  refine ops_cons rfl (ow_move rfl ?_)
  refine ops_cons rfl (ow_buildSlice el30 ti2 rfl rfl rfl rfl rfl ?_)
  intro g5 w7 eg5 oS bbg5 x6 zg5
  replace oS := Own.low oS X.size
  replace b1 := b1.ext x6
  replace X := Ext.trans X x6; clear x6
  refine ops_cons rfl (ow_assign rfl ?_)
  refine ops_nil ?_
  refine c_ret ?_
  refine fin_ret1 rfl rfl ?_
  exact ⟨_, _, rfl, oS.to (by simp [descB, hch, eI, repL]), X⟩
  refine ops_nil ?_
  refine c_true rfl ?_
  refine c_region ?_
  refine ops_cons rfl (ow_assign rfl ?_)
  refine ops_nil ?_
  refine tq_n ?_
  refine c_seqR ?_
  refine ops_cons rfl (ow_fieldAddrB off67_0 rfl rfl ?_)
  refine ops_cons rfl (ow_loadB b1 ti2 rfl rfl ?_)
  refine ops_cons rfl (ow_fieldAddrB off67_1 rfl rfl ?_)
  refine ops_cons rfl (ow_loadB b1 ti2 rfl rfl ?_)
  refine ops_cons rfl (ow_mul rfl rfl (w64 (by omega)) ?_)
  refine ops_cons rfl (ow_fieldAddrB off67_2 rfl rfl ?_)
  refine ops_cons rfl (ow_loadB b1 ti2 rfl rfl ?_)
  refine ops_cons rfl (ow_add rfl rfl (w64 (by omega)) ?_)
  refine ops_cons rfl (ow_fieldAddrB off67_3 rfl rfl ?_)
  refine ops_cons rfl (ow_loadB b1 ti2 rfl rfl ?_)
  refine ops_cons rfl (ow_quo rfl rfl (by omega) (q64 (by omega)) ?_)
  refine ops_cons rfl (ow_fieldAddrB off67_3 rfl rfl ?_)
  refine ops_cons rfl (ow_loadB b1 ti2 rfl rfl ?_)
  refine ops_cons rfl (ow_rem rfl rfl (by omega) (m64 (by omega)) ?_)
  refine ops_cons rfl (ow_move rfl ?_)
  refine ops_cons rfl (ow_buildSlice el30 ti2 rfl rfl rfl rfl rfl ?_)
  intro g8 w10 eg8 oS bbg8 x9 zg8
  replace oS := Own.low oS X.size
  replace b1 := b1.ext x9
  replace X := Ext.trans X x9; clear x9
  refine ops_cons rfl (ow_assign rfl ?_)
  refine ops_nil ?_
  refine c_ret ?_
  refine fin_ret1 rfl rfl ?_
  exact ⟨_, _, rfl, oS.to (by simp [descB, hch, eI, repL]), X⟩

theorem descBytes_c (d : Desc) (w : World) (hd : descOk d = true) :
    Calls Tryz.prog 218 #[.agg d.cells.toArray] w (Ret fun v w' => ∃ A' c', v = .slice A' 5 c' ∧ Own w' w.heap.size 2 1 A' 5 c' ((descB d).flatMap eI) ∧ Ext w w') := by
  have hr := descOk_in hd
  have X := Ext.refl w
  refine calls_of (args := [.agg d.cells.toArray]) Tryz.func218 Tryz.ntmps218 rfl rfl ?_
  refine c_seqR ?_
  refine ops_cons rfl (ow_box rfl rfl ?_)
  intro g4 w3 eg4 b1 x2 zg4
  have lg4 : w.heap.size ≤ g4 := Nat.le_trans X.size (Nat.le_of_eq eg4.symm)
  replace X := Ext.trans X x2; clear x2
  refine ops_cons rfl (ow_assign rfl ?_)
  refine ops_nil ?_
  refine c_seqD [false, false, false, false, false, false, false, false, false, false, false, false, false, false, false, false, false, true, false] mixed (by kernel_rfl) ?_
  refine f_q rfl (fun wq sq => ow_fieldAddrB off67_0 rfl rfl ⟨rfl, Ext.refl _⟩) ?_
  refine f_q rfl (fun wq sq => ow_loadB (b1.ext sq) ti2 rfl rfl ⟨rfl, Ext.refl _⟩) ?_
  refine f_q rfl (fun wq sq => ow_fieldAddrB off67_1 rfl rfl ⟨rfl, Ext.refl _⟩) ?_
  refine f_q rfl (fun wq sq => ow_loadB (b1.ext sq) ti2 rfl rfl ⟨rfl, Ext.refl _⟩) ?_
  refine f_q rfl (fun wq sq => ow_mul rfl rfl (w64 (by omega)) ⟨rfl, Ext.refl _⟩) ?_
  refine f_q rfl (fun wq sq => ow_fieldAddrB off67_2 rfl rfl ⟨rfl, Ext.refl _⟩) ?_
  refine f_q rfl (fun wq sq => ow_loadB (b1.ext sq) ti2 rfl rfl ⟨rfl, Ext.refl _⟩) ?_
  refine f_q rfl (fun wq sq => ow_add rfl rfl (w64 (by omega)) ⟨rfl, Ext.refl _⟩) ?_
  refine f_q rfl (fun wq sq => ow_fieldAddrB off67_3 rfl rfl ⟨rfl, Ext.refl _⟩) ?_
  refine f_q rfl (fun wq sq => ow_loadB (b1.ext sq) ti2 rfl rfl ⟨rfl, Ext.refl _⟩) ?_
  refine f_q rfl (fun wq sq => ow_quo rfl rfl (by omega) (q64 (by omega)) ⟨rfl, Ext.refl _⟩) ?_
  refine f_q rfl (fun wq sq => ow_fieldAddrB off67_3 rfl rfl ⟨rfl, Ext.refl _⟩) ?_
  refine f_q rfl (fun wq sq => ow_loadB (b1.ext sq) ti2 rfl rfl ⟨rfl, Ext.refl _⟩) ?_
  refine f_q rfl (fun wq sq => ow_rem rfl rfl (by omega) (m64 (by omega)) ⟨rfl, Ext.refl _⟩) ?_
  refine f_q rfl (fun wq sq => ow_fieldAddrB off67_4 rfl rfl ⟨rfl, Ext.refl _⟩) ?_
  refine f_q rfl (fun wq sq => ow_loadB (b1.ext sq) ti4 rfl rfl ⟨rfl, Ext.refl _⟩) ?_
  refine f_q rfl (fun wq sq => ow_call ent217 rfl (oneIf_c _ _)) ?_
  refine f_op (fun gS : Nat => Value.slice (some ⟨gS, 0, none⟩) 5 5) (fun gS wz => Own wz w.heap.size 2 1 (some ⟨gS, 0, none⟩) 5 5 ((descB d).flatMap eI)) 0 rfl ⟨inj_own, fun _ _ _ h k => h.ext k, fun wq sq => ow_buildSlice el30 ti2 rfl rfl rfl rfl rfl (fun g w' hg ho hb hx hz => ⟨g, rfl, Own.low ho (Nat.le_trans X.size (sq).size), hx⟩)⟩ ?_
  intro gS
  refine f_q rfl (fun wq sq => ow_assign rfl ⟨rfl, Ext.refl _⟩) ?_
  refine f_nil (fun w5 sq => ?_)
  have xq := sq.1
  have oS := sq.2
  replace b1 := b1.ext xq
  replace X := Ext.trans X xq; clear xq sq
  refine ops_nil ?_
  refine c_ret ?_
  refine fin_ret1 rfl rfl ?_
  exact ⟨_, _, rfl, oS, X⟩

theorem l12Bytes_c (A : Option Addr) (B c : Nat) (xs : List SlotI) (w : World) (hs : Sl B w A (xs.flatMap SlotI.cells)) (hT : isST xs = true) :
    Calls Tryz.prog 157 #[.slice A xs.length c] w (Ret fun v w' => ∃ A' c', v = .slice A' (1 + 7 * xs.length) c' ∧ Own w' w.heap.size 2 1 A' (1 + 7 * xs.length) c' ((stB xs).flatMap eI) ∧ Ext w w') := by
  have Bhs := hs.1
  have X := Ext.refl w
  refine calls_of (args := [.slice A xs.length c]) Tryz.func157 Tryz.ntmps157 rfl rfl ?_
  refine c_seqR ?_
  refine ops_cons rfl (ow_assign rfl ?_)
  refine ops_nil ?_
  refine c_seqR ?_
  refine ops_cons rfl (ow_move rfl ?_)
  refine ops_cons rfl (ow_len Tryz.underlying26 rfl ?_)
  refine ops_cons rfl (ow_buildSlice el30 ti2 rfl rfl rfl rfl rfl ?_)
  intro gO w2 egO oO bbgO x1 zgO
  replace oO := Own.low oO X.size
  replace hs := hs.ext x1
  replace X := Ext.trans X x1; clear x1
  replace oO := oO.to (cs' := (stP xs 0).flatMap eI) rfl
  refine ops_cons rfl (ow_assign rfl ?_)
  refine ops_nil ?_
  refine c_seq ?_
  refine c_seqR ?_
  refine ops_cons rfl (ow_assign rfl ?_)
  refine ops_nil ?_
  refine c_block ?_
  refine c_loop (G := Nat × Nat × Option Addr × Nat) (fun ⟨k, n1, A1, c1⟩ => [(0, .slice A xs.length c), (2, .slice none 0 0), (3, .slice A1 n1 c1), (4, .int .i64 (k : Nat))]) (fun ⟨k, n1, A1, c1⟩ wr => k ≤ xs.length ∧ n1 = 1 + 7 * k ∧ Own wr w.heap.size 2 1 A1 n1 c1 ((stP xs k).flatMap eI) ∧ Sl B wr A (xs.flatMap SlotI.cells) ∧ Ext w wr) (fun ⟨k, n1, A1, c1⟩ => xs.length - k) (0, 1, some ⟨gO, 0, none⟩, 1) (.cons rfl (.cons rfl (.cons rfl (.cons rfl (.nil _))))) ?_ ?_
  · exact ⟨by omega, rfl, oO, hs, X⟩
  clear hs oO
  clear X
  rintro ⟨k, n1, A1, c1⟩ wr ⟨hk0, hn, oO, hs, X⟩
  refine c_seq ?_
  refine c_seqR ?_
  refine ops_cons rfl (ow_move rfl ?_)
  refine ops_cons rfl (ow_move rfl ?_)
  refine ops_cons rfl (ow_len Tryz.underlying26 rfl ?_)
  refine ops_cons rfl (ow_lss2 rfl rfl (fun hk => ?_) (fun hk => ?_))
  obtain ⟨x, hx, dx⟩ := drop_at' hk
  have hk1 := slotOk_in (isST_at hT hx)
  have hd := hk1.2.2.2
  have hL := isST_len hT
  refine ops_nil ?_
  refine c_true rfl ?_
  refine c_skip ?_
  refine tq_n ?_
  refine c_seq ?_
  refine c_block ?_
  refine c_seqD [false, false, false, false, false, false, false, false, false, false, false, false, false, false, false, false, false, false, true] mixed (by kernel_rfl) ?_
  refine f_q rfl (fun wq sq => ow_move rfl ⟨rfl, Ext.refl _⟩) ?_
  refine f_q rfl (fun wq sq => ow_move rfl ⟨rfl, Ext.refl _⟩) ?_
  refine f_q rfl (fun wq sq => ow_move rfl ⟨rfl, Ext.refl _⟩) ?_
  refine f_q rfl (fun wq sq => ow_indexT (hs.ext sq) SlotI.len rfl el26 rfl rfl rfl hx rfl ⟨rfl, Ext.refl _⟩) ?_
  refine f_q rfl (fun wq sq => ow_fieldAddr off89_0 rfl ⟨rfl, Ext.refl _⟩) ?_
  refine f_q rfl (fun wq sq => ow_loadTF (hs.ext sq) SlotI.len hx ti2 rfl rfl rfl ⟨rfl, Ext.refl _⟩) ?_
  refine f_q rfl (fun wq sq => ow_mul rfl rfl (w64 (by omega)) ⟨rfl, Ext.refl _⟩) ?_
  refine f_q rfl (fun wq sq => ow_move rfl ⟨rfl, Ext.refl _⟩) ?_
  refine f_q rfl (fun wq sq => ow_move rfl ⟨rfl, Ext.refl _⟩) ?_
  refine f_q rfl (fun wq sq => ow_indexT (hs.ext sq) SlotI.len rfl el26 rfl rfl rfl hx rfl ⟨rfl, Ext.refl _⟩) ?_
  refine f_q rfl (fun wq sq => ow_fieldAddr off89_1 rfl ⟨rfl, Ext.refl _⟩) ?_
  refine f_q rfl (fun wq sq => ow_loadTF (hs.ext sq) SlotI.len hx ti2 rfl rfl rfl ⟨rfl, Ext.refl _⟩) ?_
  refine f_q rfl (fun wq sq => ow_add rfl rfl (w64 (by omega)) ⟨rfl, Ext.refl _⟩) ?_
  refine f_q rfl (fun wq sq => ow_move rfl ⟨rfl, Ext.refl _⟩) ?_
  refine f_q rfl (fun wq sq => ow_move rfl ⟨rfl, Ext.refl _⟩) ?_
  refine f_q rfl (fun wq sq => ow_indexT (hs.ext sq) SlotI.len rfl el26 rfl rfl rfl hx rfl ⟨rfl, Ext.refl _⟩) ?_
  refine f_q rfl (fun wq sq => ow_fieldAddr off89_2 rfl ⟨rfl, Ext.refl _⟩) ?_
  refine f_q rfl (fun wq sq => ow_loadTF (hs.ext sq) SlotI.len hx ti2 rfl rfl rfl ⟨rfl, Ext.refl _⟩) ?_
  refine f_op (fun gS : Nat => Value.slice (some ⟨gS, 0, none⟩) 2 2) (fun gS wz => Own wz w.heap.size 2 1 (some ⟨gS, 0, none⟩) 2 2 (eI (x.mode * 16 + x.round) ++ eI x.slot)) 0 rfl ⟨inj_own, fun _ _ _ h k => h.ext k, fun wq sq => ow_buildSlice el30 ti2 rfl rfl rfl rfl rfl (fun g w' hg ho hb hx hz => ⟨g, rfl, Own.low ho (Nat.le_trans X.size (sq).size), hx⟩)⟩ ?_
  intro gS
  refine f_nil (fun w3 sq => ?_)
  have xq := sq.1
  have oS := sq.2
  replace oO := oO.ext xq
  replace hs := hs.ext xq
  replace X := Ext.trans X xq; clear xq sq
  refine ops_cons rfl (ow_append (ts := #[]) oO X.size oS.sl (by first | rfl | simp) (by first | exact List.all_eq_true.1 rfl | simp [Value.oneCell']) el30 ti2 rfl rfl rfl rfl (by omega) (by omega) ?_)
  intro AoM coM w5 oM hg4
  replace hs := hs.grown hg4 (fun g hg => Nat.le_trans Bhs (Own.lt oO hg).1)
  replace X := X.grown hg4 X.size (fun g hg => (Own.lt oO hg).1)
  clear hg4
  refine ops_cons rfl (ow_assign rfl ?_)
  refine ops_nil ?_
  refine c_region ?_
  refine ops_cons rfl (ow_move rfl ?_)
  refine ops_cons rfl (ow_move rfl ?_)
  refine ops_cons rfl (ow_move rfl ?_)
  refine ops_cons rfl (ow_indexT hs SlotI.len rfl el26 rfl rfl rfl hx rfl ?_)
  refine ops_cons rfl (ow_fieldAddr off89_3 rfl ?_)
  refine ops_cons rfl (ow_loadTFA hs SlotI.len hx ti67 rfl rfl ?_)
  refine ops_cons rfl (ow_call ent232 rfl (ret_mono (l08Bytes_c _ _ hd) ?_))
  rintro _ w7 ⟨A8, c9, rfl, oD, x6⟩
  replace oD := Own.low oD X.size
  replace hs := hs.ext x6
  replace oM := oM.ext x6
  replace X := Ext.trans X x6; clear x6
  refine ops_cons rfl (ow_append (ts := #[]) oM X.size oD.sl (by simp [descB, eI]) (by simp [descB, eI, Value.oneCell']) el30 ti2 rfl rfl rfl rfl (by omega) (by omega) ?_)
  intro AoN coN w11 oN hg10
  replace hs := hs.grown hg10 (fun g hg => Nat.le_trans Bhs (Own.lt oM hg).1)
  replace X := X.grown hg10 X.size (fun g hg => (Own.lt oM hg).1)
  clear hg10
  refine ops_cons rfl (ow_assign rfl ?_)
  refine ops_nil ?_
  refine bq_n ?_
  refine tq_n ?_
  refine c_region ?_
  refine ops_cons rfl (ow_move rfl ?_)
  refine ops_cons rfl (ow_add rfl rfl (w64 (by omega)) ?_)
  refine ops_cons rfl (ow_assign rfl ?_)
  refine ops_nil ?_
  refine tq_n ⟨(k + 1, n1 + 2 + 5, AoN, coN), (.cons rfl (.cons rfl (.cons rfl (.cons rfl (.nil _))))), ?_, ?_⟩
  · exact ⟨by omega, by omega, oN.to (stP_step hx).symm, hs, X⟩
  · first | omega | (dsimp only; omega)
  refine ops_nil ?_
  refine c_false rfl ?_
  refine c_exit ?_
  refine tq_e ?_
  refine tq_e ?_
  refine bq_e ?_
  refine tq_n ?_
  refine c_seqR ?_
  refine ops_cons rfl (ow_move rfl ?_)
  refine ops_cons rfl (ow_assign rfl ?_)
  refine ops_nil ?_
  refine c_ret ?_
  refine fin_ret1 rfl rfl ?_
  · skip
    rw [show k = xs.length by omega] at oO hn
    subst hn
    exact ⟨_, _, rfl, oO, X⟩

theorem slotTableBytes_c (A : Option Addr) (B c : Nat) (xs : List SlotI) (w : World) (hs : Sl B w A (xs.flatMap SlotI.cells)) (hT : isST xs = true) :
    Calls Tryz.prog 150 #[.slice A xs.length c] w (Ret fun v w' => ∃ A' c', v = .slice A' (1 + 7 * xs.length) c' ∧ Own w' w.heap.size 2 1 A' (1 + 7 * xs.length) c' ((stB xs).flatMap eI) ∧ Ext w w') := by
  have Bhs := hs.1
  have X := Ext.refl w
  refine calls_of (args := [.slice A xs.length c]) Tryz.func150 Tryz.ntmps150 rfl rfl ?_
  refine c_seqR ?_
  refine ops_cons rfl (ow_assign rfl ?_)
  refine ops_nil ?_
  refine c_seqR ?_
  refine ops_cons rfl (ow_move rfl ?_)
  refine ops_cons rfl (ow_len Tryz.underlying26 rfl ?_)
  refine ops_cons rfl (ow_buildSlice el30 ti2 rfl rfl rfl rfl rfl ?_)
  intro gO w2 egO oO bbgO x1 zgO
  replace oO := Own.low oO X.size
  replace hs := hs.ext x1
  replace X := Ext.trans X x1; clear x1
  replace oO := oO.to (cs' := (stP xs 0).flatMap eI) rfl
  refine ops_cons rfl (ow_assign rfl ?_)
  refine ops_nil ?_
  refine c_seq ?_
  refine c_seqR ?_
  refine ops_cons rfl (ow_move rfl ?_)
  refine ops_cons rfl (ow_len Tryz.underlying26 rfl ?_)
  refine ops_cons rfl (ow_move rfl ?_)
  refine ops_nil ?_
  refine c_block ?_
  refine c_loop (G := Nat × Nat × Option Addr × Nat) (fun ⟨k, n1, A1, c1⟩ => [(2, .slice none 0 0), (9, .slice A xs.length c), (10, .int .i64 (xs.length : Nat)), (3, .slice A1 n1 c1), (11, .int .i64 (k : Nat))]) (fun ⟨k, n1, A1, c1⟩ wr => k ≤ xs.length ∧ n1 = 1 + 7 * k ∧ Own wr w.heap.size 2 1 A1 n1 c1 ((stP xs k).flatMap eI) ∧ Sl B wr A (xs.flatMap SlotI.cells) ∧ Ext w wr) (fun ⟨k, n1, A1, c1⟩ => xs.length - k) (0, 1, some ⟨gO, 0, none⟩, 1) (.cons rfl (.cons rfl (.cons rfl (.cons rfl (.cons rfl (.nil _)))))) ?_ ?_
  · exact ⟨by omega, rfl, oO, hs, X⟩
  clear hs oO
  clear X
  rintro ⟨k, n1, A1, c1⟩ wr ⟨hk0, hn, oO, hs, X⟩
  refine c_seqR ?_
  refine ops_cons rfl (ow_lss2 rfl rfl (fun hk => ?_) (fun hk => ?_))
  obtain ⟨x, hx, dx⟩ := drop_at' hk
  have hk1 := slotOk_in (isST_at hT hx)
  have hd := hk1.2.2.2
  have hL := isST_len hT
  refine ops_nil ?_
  refine c_seq ?_
  refine c_true rfl ?_
  refine c_skip ?_
  refine tq_n ?_
  refine c_seq ?_
  refine c_block ?_
  refine c_seqR ?_
  refine ops_cons rfl (ow_indexT hs SlotI.len rfl el26 rfl rfl rfl hx rfl ?_)
  refine ops_cons rfl (ow_loadTA hs SlotI.len hx ti89 rfl ?_)
  refine ops_cons rfl (ow_alloc ti89 ?_)
  intro gX w4 egX bX x3 zgX
  have lgX : w.heap.size ≤ gX := Nat.le_trans X.size (Nat.le_of_eq egX.symm)
  have pgXhs := Nat.le_trans hs.1 (Nat.le_of_eq egX.symm)
  replace oO := oO.ext x3
  replace hs := hs.ext x3
  replace X := Ext.trans X x3; clear x3
  refine ops_cons rfl (ow_storeB bX ti89 rfl rfl rfl rfl rfl rfl ?_)
  intro w6 bY hg5 z7
  replace oO := oO.grownBlk hg5 (Own.neT oO bX (by decide))
  replace hs := hs.grown hg5 (by intro g hg; injection hg; omega)
  replace X := X.grown hg5 X.size (by intro g hg; injection hg; omega)
  clear hg5 bX
  refine ops_nil ?_
  refine c_regI (fun wz => Blk wz gX 89 x.cells) mixed ?_
  obtain ⟨w9, ew9⟩ : ∃ wy, wy = World.drew w6 := ⟨_, rfl⟩
  rw [← ew9]
  have xd : Ext w6 w9 := ew9 ▸ Ext.drew w6
  replace oO := oO.ext xd
  replace hs := hs.ext xd
  replace bY := bY.ext xd
  replace X := Ext.trans X xd; clear xd ew9
  refine wi_take 0 rfl (by kernel_rfl) rfl (by kernel_rfl) (listed' := #[true, false, false, false, false, false, false, false, false, false, false, false, false, false, false, false]) rfl (fun wq sq => ow_move rfl ⟨rfl, rfl⟩) ?_
  refine wi_take 1 rfl (by kernel_rfl) rfl (by kernel_rfl) (listed' := #[true, true, false, false, false, false, false, false, false, false, false, false, false, false, false, false]) rfl (fun wq sq => ow_fieldAddrB off89_0 rfl rfl ⟨rfl, rfl⟩) ?_
  refine wi_take 2 rfl (by kernel_rfl) rfl (by kernel_rfl) (listed' := #[true, true, true, false, false, false, false, false, false, false, false, false, false, false, false, false]) rfl (fun wq sq => ow_loadB sq ti2 rfl rfl ⟨rfl, rfl⟩) ?_
  refine wi_take 3 rfl (by kernel_rfl) rfl (by kernel_rfl) (listed' := #[true, true, true, true, false, false, false, false, false, false, false, false, false, false, false, false]) rfl (fun wq sq => ow_mul rfl rfl (w64 (by omega)) ⟨rfl, rfl⟩) ?_
  refine wi_take 4 rfl (by kernel_rfl) rfl (by kernel_rfl) (listed' := #[true, true, true, true, true, false, false, false, false, false, false, false, false, false, false, false]) rfl (fun wq sq => ow_fieldAddrB off89_1 rfl rfl ⟨rfl, rfl⟩) ?_
  refine wi_take 5 rfl (by kernel_rfl) rfl (by kernel_rfl) (listed' := #[true, true, true, true, true, true, false, false, false, false, false, false, false, false, false, false]) rfl (fun wq sq => ow_loadB sq ti2 rfl rfl ⟨rfl, rfl⟩) ?_
  refine wi_take 6 rfl (by kernel_rfl) rfl (by kernel_rfl) (listed' := #[true, true, true, true, true, true, true, false, false, false, false, false, false, false, false, false]) rfl (fun wq sq => ow_add rfl rfl (w64 (by omega)) ⟨rfl, rfl⟩) ?_
  refine wi_take 7 rfl (by kernel_rfl) rfl (by kernel_rfl) (listed' := #[true, true, true, true, true, true, true, true, false, false, false, false, false, false, false, false]) rfl (fun wq sq => ow_fieldAddrB off89_2 rfl rfl ⟨rfl, rfl⟩) ?_
  refine wi_take 8 rfl (by kernel_rfl) rfl (by kernel_rfl) (listed' := #[true, true, true, true, true, true, true, true, true, false, false, false, false, false, false, false]) rfl (fun wq sq => ow_loadB sq ti2 rfl rfl ⟨rfl, rfl⟩) ?_
  refine wi_take 11 rfl (by kernel_rfl) rfl (by kernel_rfl) (listed' := #[true, true, true, true, true, true, true, true, true, false, false, true, false, false, false, false]) rfl (fun wq sq => ow_fieldAddrB off89_3 rfl rfl ⟨rfl, rfl⟩) ?_
  refine wi_take 12 rfl (by kernel_rfl) rfl (by kernel_rfl) (listed' := #[true, true, true, true, true, true, true, true, true, false, false, true, true, false, false, false]) rfl (fun wq sq => ow_loadAB sq ti67 rfl rfl ⟨rfl, rfl⟩) ?_
  refine wi_one 9 rfl rfl (by kernel_rfl) (listed' := #[true, true, true, true, true, true, true, true, true, true, false, true, true, false, false, false]) rfl bY (ow_buildSlice el30 ti2 rfl rfl rfl rfl rfl ?_)
  intro gS w11 egS oS bbgS x10 zgS
  replace oS := Own.low oS X.size
  replace oO := oO.ext x10
  replace hs := hs.ext x10
  replace bY := bY.ext x10
  replace X := Ext.trans X x10; clear x10
  refine wi_one 10 rfl rfl (by kernel_rfl) (listed' := #[true, true, true, true, true, true, true, true, true, true, true, true, true, false, false, false]) rfl bY (ow_append (ts := #[]) oO X.size oS.sl (by first | rfl | simp) (by first | exact List.all_eq_true.1 rfl | simp [Value.oneCell']) el30 ti2 rfl rfl rfl rfl (by omega) (by omega) ?_)
  intro AoM coM w13 oM hg12
  replace hs := hs.grown hg12 (fun g hg => Nat.le_trans Bhs (Own.lt oO hg).1)
  replace bY := bY.grown hg12 (fun h => Own.neT oO bY (by decide) h.symm)
  replace X := X.grown hg12 X.size (fun g hg => (Own.lt oO hg).1)
  clear hg12
  refine wi_one 13 rfl rfl (by kernel_rfl) (listed' := #[true, true, true, true, true, true, true, true, true, true, true, true, true, true, false, false]) rfl bY (ow_call ent218 rfl (ret_mono (descBytes_c _ _ hd) ?_))
  rintro _ w15 ⟨A16, c17, rfl, oD, x14⟩
  replace oD := Own.low oD X.size
  replace hs := hs.ext x14
  replace bY := bY.ext x14
  replace oM := oM.ext x14
  replace X := Ext.trans X x14; clear x14
  refine wi_one 14 rfl rfl (by kernel_rfl) (listed' := #[true, true, true, true, true, true, true, true, true, true, true, true, true, true, true, false]) rfl bY (ow_append (ts := #[]) oM X.size oD.sl (by simp [descB, eI]) (by simp [descB, eI, Value.oneCell']) el30 ti2 rfl rfl rfl rfl (by omega) (by omega) ?_)
  intro AoN coN w19 oN hg18
  replace hs := hs.grown hg18 (fun g hg => Nat.le_trans Bhs (Own.lt oM hg).1)
  replace bY := bY.grown hg18 (fun h => Own.neT oM bY (by decide) h.symm)
  replace X := X.grown hg18 X.size (fun g hg => (Own.lt oM hg).1)
  clear hg18
  refine wi_take 15 rfl (by kernel_rfl) rfl (by kernel_rfl) (listed' := #[true, true, true, true, true, true, true, true, true, true, true, true, true, true, true, true]) rfl (fun wq sq => ow_assign rfl ⟨rfl, rfl⟩) ?_
  refine wi_done rfl bY (fun aj fj => ⟨_, fj, ?_⟩)
  refine bq_n ?_
  refine tq_n ?_
  refine c_region ?_
  refine ops_cons rfl (ow_add rfl rfl (w64 (by omega)) ?_)
  refine ops_cons rfl (ow_move rfl ?_)
  refine ops_nil ?_
  refine tq_n ⟨(k + 1, n1 + 2 + 5, AoN, coN), (.cons rfl (.cons rfl (.cons rfl (.cons rfl (.cons rfl (.nil _)))))), ?_, ?_⟩
  · exact ⟨by omega, by omega, oN.to (stP_step hx).symm, hs, X⟩
  · first | omega | (dsimp only; omega)
  refine ops_nil ?_
  refine c_seq ?_
  refine c_false rfl ?_
  refine c_exit ?_
  refine tq_e ?_
  refine tq_e ?_
  refine bq_e ?_
  refine tq_n ?_
  refine c_seqR ?_
  refine ops_cons rfl (ow_move rfl ?_)
  refine ops_cons rfl (ow_assign rfl ?_)
  refine ops_nil ?_
  refine c_ret ?_
  refine fin_ret1 rfl rfl ?_
  · skip
    rw [show k = xs.length by omega] at oO hn
    subst hn
    exact ⟨_, _, rfl, oO, X⟩
end Go.Proofs.YtdoibplhbdkapaaGreatDoor
namespace Go.Proofs.YtdoibplhbdkapaaGreatDoor
open Go.RowKit
set_option linter.unusedVariables false
set_option linter.unusedSimpArgs false
set_option maxRecDepth 20000
theorem sIsMT_c (A : Option Addr) (B B2 c : Nat) (xs : List ModeI) (w : World) (hs : Sl B w A (xs.flatMap ModeI.cells)) (hn : Nexts B2 w xs) (hl : xs.length ≤ 1048576) (hz : ∀ x ∈ xs, x.m.next.length ≤ 1048576) :
    Calls Tryz.prog 225 #[.slice A xs.length c] w (Ret fun v w' => v = .bool (isMT (xs.map (·.m))) ∧ Ext w w') := by
  have Bhs := hs.1
  have Bhn := hn.1
  have X := Ext.refl w
  refine calls_of (args := [.slice A xs.length c]) Tryz.func225 Tryz.ntmps225 rfl rfl ?_
  refine c_seqR ?_
  refine ops_cons rfl (ow_assign rfl ?_)
  refine ops_nil ?_
  refine c_seq ?_
  refine c_seqR ?_
  refine ops_cons rfl (ow_move rfl ?_)
  refine ops_cons rfl (ow_len Tryz.underlying25 rfl ?_)
  refine ops_cons rfl (ow_callB ent111 rfl (l01In_c _ _ _ _) (fun w2 hB x1 => ?_) (fun w2 hB x1 => ?_))
  replace hs := hs.ext x1
  replace hn := hn.ext x1
  replace X := Ext.trans X x1; clear x1
  refine ops_cons rfl (ow_not rfl ?_)
  refine ops_nil ?_
  refine c_false rfl ?_
  refine c_skip ?_
  refine tq_n ?_
  refine c_seq ?_
  refine c_seqR ?_
  refine ops_cons rfl (ow_assign rfl ?_)
  refine ops_nil ?_
  refine c_block ?_
  refine c_loop (G := Nat) (fun k => [(0, .slice A xs.length c), (3, .int .i64 (k : Nat))]) (fun k wr => k ≤ xs.length ∧ modesFrom (xs.length : Int) 0 (xs.map (·.m)) = modesFrom (xs.length : Int) k ((xs.drop k).map (·.m)) ∧ Sl B wr A (xs.flatMap ModeI.cells) ∧ Nexts B2 wr xs ∧ Ext w wr) (fun k => xs.length - k) 0 (.cons rfl (.cons rfl (.nil _))) ?_ ?_
  · exact ⟨by omega, rfl, hs, hn, X⟩
  clear hs hn
  clear X
  rintro k wr ⟨hk0, hi, hs, hn, X⟩
  refine c_seq ?_
  refine c_seqR ?_
  refine ops_cons rfl (ow_move rfl ?_)
  refine ops_cons rfl (ow_move rfl ?_)
  refine ops_cons rfl (ow_len Tryz.underlying25 rfl ?_)
  refine ops_cons rfl (ow_lss2 rfl rfl (fun hk => ?_) (fun hk => ?_))
  obtain ⟨x, hx, dx⟩ := drop_at' hk
  refine ops_nil ?_
  refine c_true rfl ?_
  refine c_skip ?_
  refine tq_n ?_
  refine c_seq ?_
  refine c_block ?_
  refine c_seqR ?_
  refine ops_cons rfl (ow_move rfl ?_)
  refine ops_cons rfl (ow_move rfl ?_)
  refine ops_cons rfl (ow_indexT hs ModeI.len rfl el25 rfl rfl rfl hx rfl ?_)
  have hnx := hn.at_ hx
  have hlx := hz x (List.mem_of_getElem? hx)
  refine ops_cons rfl (ow_loadTA hs ModeI.len hx ti92 rfl ?_)
  refine ops_cons rfl (ow_alloc ti92 ?_)
  intro g6 w5 eg6 b3 x4 zg6
  have lg6 : w.heap.size ≤ g6 := Nat.le_trans X.size (Nat.le_of_eq eg6.symm)
  have pg6hs := Nat.le_trans hs.1 (Nat.le_of_eq eg6.symm)
  have pg6hn := Nat.le_trans hn.1 (Nat.le_of_eq eg6.symm)
  have pg6hnx := Nat.le_trans hnx.1 (Nat.le_of_eq eg6.symm)
  replace hs := hs.ext x4
  replace hn := hn.ext x4
  replace hnx := hnx.ext x4
  replace X := Ext.trans X x4; clear x4
  refine ops_cons rfl (ow_storeB b3 ti92 rfl rfl rfl rfl rfl rfl ?_)
  intro w9 b11 hg7 z10
  replace hs := hs.grown hg7 (by intro g hg; injection hg; omega)
  replace hn := hn.grown hg7 (by intro g hg; injection hg; omega)
  replace hnx := hnx.grown hg7 (by intro g hg; injection hg; omega)
  replace X := X.grown hg7 X.size (by intro g hg; injection hg; omega)
  clear hg7 b3
  refine ops_nil ?_
  refine c_seqR ?_
  refine ops_cons rfl (ow_fieldAddrB off92_0 rfl rfl ?_)
  refine ops_cons rfl (ow_loadB b11 ti2 rfl rfl ?_)
  refine ops_cons rfl (ow_callB ent111 rfl (l01In_c _ _ _ _) (fun w14 h12 x13 => ?_) (fun w14 h12 x13 => ?_))
  replace hs := hs.ext x13
  replace hn := hn.ext x13
  replace hnx := hnx.ext x13
  replace b11 := b11.ext x13
  replace X := Ext.trans X x13; clear x13
  refine ops_cons rfl (ow_not rfl ?_)
  refine ops_cons rfl (ow_move rfl ?_)
  refine ops_want rfl rfl rfl (ow_fieldAddrB off92_1 rfl rfl ?_)
  refine ops_want rfl rfl rfl (ow_loadB b11 ti2 rfl rfl ?_)
  refine ops_want rfl rfl rfl (ow_callB ent111 rfl (l01In_c _ _ _ _) (fun w17 h15 x16 => ?_) (fun w17 h15 x16 => ?_))
  replace hs := hs.ext x16
  replace hn := hn.ext x16
  replace hnx := hnx.ext x16
  replace b11 := b11.ext x16
  replace X := Ext.trans X x16; clear x16
  refine ops_want rfl rfl rfl (ow_not rfl ?_)
  refine ops_cons rfl (ow_pick rfl rfl ?_)
  refine ops_cons rfl (ow_move rfl ?_)
  refine ops_want rfl rfl rfl (ow_fieldAddrB off92_2 rfl rfl ?_)
  refine ops_want rfl rfl rfl (ow_loadB b11 ti30 rfl rfl ?_)
  refine ops_want rfl rfl rfl (ow_move rfl ?_)
  refine ops_want rfl rfl rfl (ow_len Tryz.underlying25 rfl ?_)
  refine ops_want rfl rfl rfl (ow_callB ent259 rfl (l01Rises_c _ _ _ _ _ _ hnx hlx (by omega)) (fun w20 h18 x19 => ?_) (fun w20 h18 x19 => ?_))
  replace hs := hs.ext x19
  replace hn := hn.ext x19
  replace hnx := hnx.ext x19
  replace b11 := b11.ext x19
  replace X := Ext.trans X x19; clear x19
  refine ops_want rfl rfl rfl (ow_not rfl ?_)
  refine ops_cons rfl (ow_pick rfl rfl ?_)
  refine ops_cons rfl (ow_move rfl ?_)
  refine ops_want rfl rfl rfl (ow_fieldAddrB off92_2 rfl rfl ?_)
  refine ops_want rfl rfl rfl (ow_loadB b11 ti30 rfl rfl ?_)
  refine ops_want rfl rfl rfl (ow_move rfl ?_)
  refine ops_want rfl rfl rfl (ow_callB ent99 rfl (l01Has_c _ _ _ _ _ _ hnx hlx) (fun w23 h21 x22 => ?_) (fun w23 h21 x22 => ?_))
  replace hs := hs.ext x22
  replace hn := hn.ext x22
  replace hnx := hnx.ext x22
  replace b11 := b11.ext x22
  replace X := Ext.trans X x22; clear x22
  refine ops_cons rfl (ow_pick rfl rfl ?_)
  refine ops_nil ?_
  refine c_true rfl ?_
  refine c_seqR ?_
  refine ops_cons rfl (ow_assign rfl ?_)
  refine ops_nil ?_
  refine c_ret ?_
  refine bq_r ?_
  refine tq_r ?_
  refine tq_r ?_
  refine bq_r ?_
  refine tq_r ?_
  refine fin_ret1 rfl rfl ?_
  · skip
    refine ⟨congrArg Value.bool ?_, X⟩
    rw [isMT, List.length_map]
    first
    | (rw [hB]; rfl)
    | (rw [hB, hi, drop_end hk]; rfl)
    | (rw [hi, drop_end hk]; simp [modesFrom, inB, *]; done)
    | (rw [hi, drop_end hk]; simp [modesFrom, inB]; omega)
    | (rw [hi, dx, List.map_cons, modesFrom]; simp [modeOk, *])
  replace hs := hs.ext x22
  replace hn := hn.ext x22
  replace hnx := hnx.ext x22
  replace b11 := b11.ext x22
  replace X := Ext.trans X x22; clear x22
  refine ops_cons rfl (ow_pick rfl rfl ?_)
  refine ops_nil ?_
  refine c_false rfl ?_
  refine c_skip ?_
  refine bq_n ?_
  refine tq_n ?_
  refine c_region ?_
  refine ops_cons rfl (ow_move rfl ?_)
  refine ops_cons rfl (ow_add rfl rfl (w64 (by omega)) ?_)
  refine ops_cons rfl (ow_assign rfl ?_)
  refine ops_nil ?_
  refine tq_n ⟨k + 1, (.cons rfl (.cons rfl (.nil _))), ?_, ?_⟩
  · exact ⟨by omega, (by rw [hi, dx, List.map_cons, modesFrom]; simp [modeOk, *]), hs, hn, X⟩
  · first | omega | (dsimp only; omega)
  replace hs := hs.ext x19
  replace hn := hn.ext x19
  replace hnx := hnx.ext x19
  replace b11 := b11.ext x19
  replace X := Ext.trans X x19; clear x19
  refine ops_want rfl rfl rfl (ow_not rfl ?_)
  refine ops_cons rfl (ow_pick rfl rfl ?_)
  refine ops_cons rfl (ow_move rfl ?_)
  refine ops_skip rfl rfl rfl rfl ?_
  refine ops_skip rfl rfl rfl rfl ?_
  refine ops_skip rfl rfl rfl rfl ?_
  refine ops_skip rfl rfl rfl rfl ?_
  refine ops_cons rfl (ow_pick rfl rfl ?_)
  refine ops_nil ?_
  refine c_true rfl ?_
  refine c_seqR ?_
  refine ops_cons rfl (ow_assign rfl ?_)
  refine ops_nil ?_
  refine c_ret ?_
  refine bq_r ?_
  refine tq_r ?_
  refine tq_r ?_
  refine bq_r ?_
  refine tq_r ?_
  refine fin_ret1 rfl rfl ?_
  · skip
    refine ⟨congrArg Value.bool ?_, X⟩
    rw [isMT, List.length_map]
    first
    | (rw [hB]; rfl)
    | (rw [hB, hi, drop_end hk]; rfl)
    | (rw [hi, drop_end hk]; simp [modesFrom, inB, *]; done)
    | (rw [hi, drop_end hk]; simp [modesFrom, inB]; omega)
    | (rw [hi, dx, List.map_cons, modesFrom]; simp [modeOk, *])
  replace hs := hs.ext x16
  replace hn := hn.ext x16
  replace hnx := hnx.ext x16
  replace b11 := b11.ext x16
  replace X := Ext.trans X x16; clear x16
  refine ops_want rfl rfl rfl (ow_not rfl ?_)
  refine ops_cons rfl (ow_pick rfl rfl ?_)
  refine ops_cons rfl (ow_move rfl ?_)
  refine ops_skip rfl rfl rfl rfl ?_
  refine ops_skip rfl rfl rfl rfl ?_
  refine ops_skip rfl rfl rfl rfl ?_
  refine ops_skip rfl rfl rfl rfl ?_
  refine ops_skip rfl rfl rfl rfl ?_
  refine ops_skip rfl rfl rfl rfl ?_
  refine ops_cons rfl (ow_pick rfl rfl ?_)
  refine ops_cons rfl (ow_move rfl ?_)
  refine ops_skip rfl rfl rfl rfl ?_
  refine ops_skip rfl rfl rfl rfl ?_
  refine ops_skip rfl rfl rfl rfl ?_
  refine ops_skip rfl rfl rfl rfl ?_
  refine ops_cons rfl (ow_pick rfl rfl ?_)
  refine ops_nil ?_
  refine c_true rfl ?_
  refine c_seqR ?_
  refine ops_cons rfl (ow_assign rfl ?_)
  refine ops_nil ?_
  refine c_ret ?_
  refine bq_r ?_
  refine tq_r ?_
  refine tq_r ?_
  refine bq_r ?_
  refine tq_r ?_
  refine fin_ret1 rfl rfl ?_
  · skip
    refine ⟨congrArg Value.bool ?_, X⟩
    rw [isMT, List.length_map]
    first
    | (rw [hB]; rfl)
    | (rw [hB, hi, drop_end hk]; rfl)
    | (rw [hi, drop_end hk]; simp [modesFrom, inB, *]; done)
    | (rw [hi, drop_end hk]; simp [modesFrom, inB]; omega)
    | (rw [hi, dx, List.map_cons, modesFrom]; simp [modeOk, *])
  replace hs := hs.ext x13
  replace hn := hn.ext x13
  replace hnx := hnx.ext x13
  replace b11 := b11.ext x13
  replace X := Ext.trans X x13; clear x13
  refine ops_cons rfl (ow_not rfl ?_)
  refine ops_cons rfl (ow_move rfl ?_)
  refine ops_skip rfl rfl rfl rfl ?_
  refine ops_skip rfl rfl rfl rfl ?_
  refine ops_skip rfl rfl rfl rfl ?_
  refine ops_skip rfl rfl rfl rfl ?_
  refine ops_cons rfl (ow_pick rfl rfl ?_)
  refine ops_cons rfl (ow_move rfl ?_)
  refine ops_skip rfl rfl rfl rfl ?_
  refine ops_skip rfl rfl rfl rfl ?_
  refine ops_skip rfl rfl rfl rfl ?_
  refine ops_skip rfl rfl rfl rfl ?_
  refine ops_skip rfl rfl rfl rfl ?_
  refine ops_skip rfl rfl rfl rfl ?_
  refine ops_cons rfl (ow_pick rfl rfl ?_)
  refine ops_cons rfl (ow_move rfl ?_)
  refine ops_skip rfl rfl rfl rfl ?_
  refine ops_skip rfl rfl rfl rfl ?_
  refine ops_skip rfl rfl rfl rfl ?_
  refine ops_skip rfl rfl rfl rfl ?_
  refine ops_cons rfl (ow_pick rfl rfl ?_)
  refine ops_nil ?_
  refine c_true rfl ?_
  refine c_seqR ?_
  refine ops_cons rfl (ow_assign rfl ?_)
  refine ops_nil ?_
  refine c_ret ?_
  refine bq_r ?_
  refine tq_r ?_
  refine tq_r ?_
  refine bq_r ?_
  refine tq_r ?_
  refine fin_ret1 rfl rfl ?_
  · skip
    refine ⟨congrArg Value.bool ?_, X⟩
    rw [isMT, List.length_map]
    first
    | (rw [hB]; rfl)
    | (rw [hB, hi, drop_end hk]; rfl)
    | (rw [hi, drop_end hk]; simp [modesFrom, inB, *]; done)
    | (rw [hi, drop_end hk]; simp [modesFrom, inB]; omega)
    | (rw [hi, dx, List.map_cons, modesFrom]; simp [modeOk, *])
  refine ops_nil ?_
  refine c_false rfl ?_
  refine c_exit ?_
  refine tq_e ?_
  refine tq_e ?_
  refine bq_e ?_
  refine tq_n ?_
  refine c_seqR ?_
  refine ops_cons rfl (ow_assign rfl ?_)
  refine ops_nil ?_
  refine c_ret ?_
  refine fin_ret1 rfl rfl ?_
  · skip
    refine ⟨congrArg Value.bool ?_, X⟩
    rw [isMT, List.length_map]
    first
    | (rw [hB]; rfl)
    | (rw [hB, hi, drop_end hk]; rfl)
    | (rw [hi, drop_end hk]; simp [modesFrom, inB, *]; done)
    | (rw [hi, drop_end hk]; simp [modesFrom, inB]; omega)
    | (rw [hi, dx, List.map_cons, modesFrom]; simp [modeOk, *])
  replace hs := hs.ext x1
  replace hn := hn.ext x1
  replace X := Ext.trans X x1; clear x1
  refine ops_cons rfl (ow_not rfl ?_)
  refine ops_nil ?_
  refine c_true rfl ?_
  refine c_seqR ?_
  refine ops_cons rfl (ow_assign rfl ?_)
  refine ops_nil ?_
  refine c_ret ?_
  refine tq_r ?_
  refine fin_ret1 rfl rfl ?_
  · skip
    refine ⟨congrArg Value.bool ?_, X⟩
    rw [isMT, List.length_map]
    first
    | (rw [hB]; rfl)
    | (rw [hB, hi, drop_end hk]; rfl)
    | (rw [hi, drop_end hk]; simp [modesFrom, inB, *]; done)
    | (rw [hi, drop_end hk]; simp [modesFrom, inB]; omega)
    | (rw [hi, dx, List.map_cons, modesFrom]; simp [modeOk, *])

theorem iIsMT_c (A : Option Addr) (B B2 c : Nat) (xs : List ModeI) (w : World) (hs : Sl B w A (xs.flatMap ModeI.cells)) (hn : Nexts B2 w xs) (hl : xs.length ≤ 1048576) (hz : ∀ x ∈ xs, x.m.next.length ≤ 1048576) :
    Calls Tryz.prog 163 #[.slice A xs.length c] w (Ret fun v w' => v = .bool (isMT (xs.map (·.m))) ∧ Ext w w') := by
  have Bhs := hs.1
  have Bhn := hn.1
  have X := Ext.refl w
  refine calls_of (args := [.slice A xs.length c]) Tryz.func163 Tryz.ntmps163 rfl rfl ?_
  refine c_seqR ?_
  refine ops_cons rfl (ow_assign rfl ?_)
  refine ops_nil ?_
  refine c_seq ?_
  refine c_seqR ?_
  refine ops_cons rfl (ow_move rfl ?_)
  refine ops_cons rfl (ow_len Tryz.underlying25 rfl ?_)
  refine ops_cons rfl (ow_move rfl ?_)
  refine ops_nil ?_
  refine c_block ?_
  refine c_loop (G := Nat) (fun k => [(0, .slice A xs.length c), (5, .slice A xs.length c), (6, .int .i64 (xs.length : Nat)), (7, .int .i64 (k : Nat))]) (fun k wr => k ≤ xs.length ∧ modesFrom (xs.length : Int) 0 (xs.map (·.m)) = modesFrom (xs.length : Int) k ((xs.drop k).map (·.m)) ∧ Sl B wr A (xs.flatMap ModeI.cells) ∧ Nexts B2 wr xs ∧ Ext w wr) (fun k => xs.length - k) 0 (.cons rfl (.cons rfl (.cons rfl (.cons rfl (.nil _))))) ?_ ?_
  · exact ⟨by omega, rfl, hs, hn, X⟩
  clear hs hn
  clear X
  rintro k wr ⟨hk0, hi, hs, hn, X⟩
  refine c_seqR ?_
  refine ops_cons rfl (ow_lss2 rfl rfl (fun hk => ?_) (fun hk => ?_))
  obtain ⟨x, hx, dx⟩ := drop_at' hk
  refine ops_nil ?_
  refine c_seq ?_
  refine c_true rfl ?_
  refine c_skip ?_
  refine tq_n ?_
  refine c_seq ?_
  refine c_block ?_
  refine c_seqR ?_
  refine ops_cons rfl (ow_move rfl ?_)
  refine ops_cons rfl (ow_indexT hs ModeI.len rfl el25 rfl rfl rfl hx rfl ?_)
  have hnx := hn.at_ hx
  have hlx := hz x (List.mem_of_getElem? hx)
  refine ops_cons rfl (ow_loadTA hs ModeI.len hx ti92 rfl ?_)
  refine ops_cons rfl (ow_alloc ti92 ?_)
  intro g4 w3 eg4 b1 x2 zg4
  have lg4 : w.heap.size ≤ g4 := Nat.le_trans X.size (Nat.le_of_eq eg4.symm)
  have pg4hs := Nat.le_trans hs.1 (Nat.le_of_eq eg4.symm)
  have pg4hn := Nat.le_trans hn.1 (Nat.le_of_eq eg4.symm)
  have pg4hnx := Nat.le_trans hnx.1 (Nat.le_of_eq eg4.symm)
  replace hs := hs.ext x2
  replace hn := hn.ext x2
  replace hnx := hnx.ext x2
  replace X := Ext.trans X x2; clear x2
  refine ops_cons rfl (ow_assign rfl ?_)
  refine ops_cons rfl (ow_storeB b1 ti92 rfl rfl rfl rfl rfl rfl ?_)
  intro w6 b8 hg5 z7
  replace hs := hs.grown hg5 (by intro g hg; injection hg; omega)
  replace hn := hn.grown hg5 (by intro g hg; injection hg; omega)
  replace hnx := hnx.grown hg5 (by intro g hg; injection hg; omega)
  replace X := X.grown hg5 X.size (by intro g hg; injection hg; omega)
  clear hg5 b1
  refine ops_nil ?_
  refine c_seqR ?_
  refine ops_cons rfl (ow_fieldAddrB off92_0 rfl rfl ?_)
  refine ops_cons rfl (ow_loadB b8 ti2 rfl rfl ?_)
  refine ops_cons rfl (ow_callB ent109 rfl (within_c _ _ _ _) (fun w11 h9 x10 => ?_) (fun w11 h9 x10 => ?_))
  replace hs := hs.ext x10
  replace hn := hn.ext x10
  replace hnx := hnx.ext x10
  replace b8 := b8.ext x10
  replace X := Ext.trans X x10; clear x10
  refine ops_cons rfl (ow_not rfl ?_)
  refine ops_cons rfl (ow_move rfl ?_)
  refine ops_want rfl rfl rfl (ow_fieldAddrB off92_1 rfl rfl ?_)
  refine ops_want rfl rfl rfl (ow_loadB b8 ti2 rfl rfl ?_)
  refine ops_want rfl rfl rfl (ow_callB ent109 rfl (within_c _ _ _ _) (fun w14 h12 x13 => ?_) (fun w14 h12 x13 => ?_))
  replace hs := hs.ext x13
  replace hn := hn.ext x13
  replace hnx := hnx.ext x13
  replace b8 := b8.ext x13
  replace X := Ext.trans X x13; clear x13
  refine ops_want rfl rfl rfl (ow_not rfl ?_)
  refine ops_cons rfl (ow_pick rfl rfl ?_)
  refine ops_cons rfl (ow_move rfl ?_)
  refine ops_want rfl rfl rfl (ow_fieldAddrB off92_2 rfl rfl ?_)
  refine ops_want rfl rfl rfl (ow_loadB b8 ti30 rfl rfl ?_)
  refine ops_want rfl rfl rfl (ow_move rfl ?_)
  refine ops_want rfl rfl rfl (ow_len Tryz.underlying25 rfl ?_)
  refine ops_want rfl rfl rfl (ow_callB ent236 rfl (isRising_c _ _ _ _ _ _ hnx hlx (by omega)) (fun w17 h15 x16 => ?_) (fun w17 h15 x16 => ?_))
  replace hs := hs.ext x16
  replace hn := hn.ext x16
  replace hnx := hnx.ext x16
  replace b8 := b8.ext x16
  replace X := Ext.trans X x16; clear x16
  refine ops_want rfl rfl rfl (ow_not rfl ?_)
  refine ops_cons rfl (ow_pick rfl rfl ?_)
  refine ops_cons rfl (ow_move rfl ?_)
  refine ops_want rfl rfl rfl (ow_fieldAddrB off92_2 rfl rfl ?_)
  refine ops_want rfl rfl rfl (ow_loadB b8 ti30 rfl rfl ?_)
  refine ops_want rfl rfl rfl (ow_move rfl ?_)
  refine ops_want rfl rfl rfl (ow_callB ent83 rfl (contains_c _ _ _ _ _ _ hnx hlx) (fun w20 h18 x19 => ?_) (fun w20 h18 x19 => ?_))
  replace hs := hs.ext x19
  replace hn := hn.ext x19
  replace hnx := hnx.ext x19
  replace b8 := b8.ext x19
  replace X := Ext.trans X x19; clear x19
  refine ops_cons rfl (ow_pick rfl rfl ?_)
  refine ops_nil ?_
  refine c_true rfl ?_
  refine c_seqR ?_
  refine ops_cons rfl (ow_assign rfl ?_)
  refine ops_nil ?_
  refine c_ret ?_
  refine bq_r ?_
  refine tq_r ?_
  refine tq_r ?_
  refine bq_r ?_
  refine tq_r ?_
  refine fin_ret1 rfl rfl ?_
  · skip
    refine ⟨congrArg Value.bool ?_, X⟩
    rw [isMT, List.length_map]
    first
    | (rw [hB]; rfl)
    | (rw [hB, hi, drop_end hk]; rfl)
    | (rw [hi, drop_end hk]; simp [modesFrom, inB, *]; done)
    | (rw [hi, drop_end hk]; simp [modesFrom, inB]; omega)
    | (rw [hi, dx, List.map_cons, modesFrom]; simp [modeOk, *])
  replace hs := hs.ext x19
  replace hn := hn.ext x19
  replace hnx := hnx.ext x19
  replace b8 := b8.ext x19
  replace X := Ext.trans X x19; clear x19
  refine ops_cons rfl (ow_pick rfl rfl ?_)
  refine ops_nil ?_
  refine c_false rfl ?_
  refine c_skip ?_
  refine bq_n ?_
  refine tq_n ?_
  refine c_region ?_
  refine ops_cons rfl (ow_add rfl rfl (w64 (by omega)) ?_)
  refine ops_cons rfl (ow_move rfl ?_)
  refine ops_nil ?_
  refine tq_n ⟨k + 1, (.cons rfl (.cons rfl (.cons rfl (.cons rfl (.nil _))))), ?_, ?_⟩
  · exact ⟨by omega, (by rw [hi, dx, List.map_cons, modesFrom]; simp [modeOk, *]), hs, hn, X⟩
  · first | omega | (dsimp only; omega)
  replace hs := hs.ext x16
  replace hn := hn.ext x16
  replace hnx := hnx.ext x16
  replace b8 := b8.ext x16
  replace X := Ext.trans X x16; clear x16
  refine ops_want rfl rfl rfl (ow_not rfl ?_)
  refine ops_cons rfl (ow_pick rfl rfl ?_)
  refine ops_cons rfl (ow_move rfl ?_)
  refine ops_skip rfl rfl rfl rfl ?_
  refine ops_skip rfl rfl rfl rfl ?_
  refine ops_skip rfl rfl rfl rfl ?_
  refine ops_skip rfl rfl rfl rfl ?_
  refine ops_cons rfl (ow_pick rfl rfl ?_)
  refine ops_nil ?_
  refine c_true rfl ?_
  refine c_seqR ?_
  refine ops_cons rfl (ow_assign rfl ?_)
  refine ops_nil ?_
  refine c_ret ?_
  refine bq_r ?_
  refine tq_r ?_
  refine tq_r ?_
  refine bq_r ?_
  refine tq_r ?_
  refine fin_ret1 rfl rfl ?_
  · skip
    refine ⟨congrArg Value.bool ?_, X⟩
    rw [isMT, List.length_map]
    first
    | (rw [hB]; rfl)
    | (rw [hB, hi, drop_end hk]; rfl)
    | (rw [hi, drop_end hk]; simp [modesFrom, inB, *]; done)
    | (rw [hi, drop_end hk]; simp [modesFrom, inB]; omega)
    | (rw [hi, dx, List.map_cons, modesFrom]; simp [modeOk, *])
  replace hs := hs.ext x13
  replace hn := hn.ext x13
  replace hnx := hnx.ext x13
  replace b8 := b8.ext x13
  replace X := Ext.trans X x13; clear x13
  refine ops_want rfl rfl rfl (ow_not rfl ?_)
  refine ops_cons rfl (ow_pick rfl rfl ?_)
  refine ops_cons rfl (ow_move rfl ?_)
  refine ops_skip rfl rfl rfl rfl ?_
  refine ops_skip rfl rfl rfl rfl ?_
  refine ops_skip rfl rfl rfl rfl ?_
  refine ops_skip rfl rfl rfl rfl ?_
  refine ops_skip rfl rfl rfl rfl ?_
  refine ops_skip rfl rfl rfl rfl ?_
  refine ops_cons rfl (ow_pick rfl rfl ?_)
  refine ops_cons rfl (ow_move rfl ?_)
  refine ops_skip rfl rfl rfl rfl ?_
  refine ops_skip rfl rfl rfl rfl ?_
  refine ops_skip rfl rfl rfl rfl ?_
  refine ops_skip rfl rfl rfl rfl ?_
  refine ops_cons rfl (ow_pick rfl rfl ?_)
  refine ops_nil ?_
  refine c_true rfl ?_
  refine c_seqR ?_
  refine ops_cons rfl (ow_assign rfl ?_)
  refine ops_nil ?_
  refine c_ret ?_
  refine bq_r ?_
  refine tq_r ?_
  refine tq_r ?_
  refine bq_r ?_
  refine tq_r ?_
  refine fin_ret1 rfl rfl ?_
  · skip
    refine ⟨congrArg Value.bool ?_, X⟩
    rw [isMT, List.length_map]
    first
    | (rw [hB]; rfl)
    | (rw [hB, hi, drop_end hk]; rfl)
    | (rw [hi, drop_end hk]; simp [modesFrom, inB, *]; done)
    | (rw [hi, drop_end hk]; simp [modesFrom, inB]; omega)
    | (rw [hi, dx, List.map_cons, modesFrom]; simp [modeOk, *])
  replace hs := hs.ext x10
  replace hn := hn.ext x10
  replace hnx := hnx.ext x10
  replace b8 := b8.ext x10
  replace X := Ext.trans X x10; clear x10
  refine ops_cons rfl (ow_not rfl ?_)
  refine ops_cons rfl (ow_move rfl ?_)
  refine ops_skip rfl rfl rfl rfl ?_
  refine ops_skip rfl rfl rfl rfl ?_
  refine ops_skip rfl rfl rfl rfl ?_
  refine ops_skip rfl rfl rfl rfl ?_
  refine ops_cons rfl (ow_pick rfl rfl ?_)
  refine ops_cons rfl (ow_move rfl ?_)
  refine ops_skip rfl rfl rfl rfl ?_
  refine ops_skip rfl rfl rfl rfl ?_
  refine ops_skip rfl rfl rfl rfl ?_
  refine ops_skip rfl rfl rfl rfl ?_
  refine ops_skip rfl rfl rfl rfl ?_
  refine ops_skip rfl rfl rfl rfl ?_
  refine ops_cons rfl (ow_pick rfl rfl ?_)
  refine ops_cons rfl (ow_move rfl ?_)
  refine ops_skip rfl rfl rfl rfl ?_
  refine ops_skip rfl rfl rfl rfl ?_
  refine ops_skip rfl rfl rfl rfl ?_
  refine ops_skip rfl rfl rfl rfl ?_
  refine ops_cons rfl (ow_pick rfl rfl ?_)
  refine ops_nil ?_
  refine c_true rfl ?_
  refine c_seqR ?_
  refine ops_cons rfl (ow_assign rfl ?_)
  refine ops_nil ?_
  refine c_ret ?_
  refine bq_r ?_
  refine tq_r ?_
  refine tq_r ?_
  refine bq_r ?_
  refine tq_r ?_
  refine fin_ret1 rfl rfl ?_
  · skip
    refine ⟨congrArg Value.bool ?_, X⟩
    rw [isMT, List.length_map]
    first
    | (rw [hB]; rfl)
    | (rw [hB, hi, drop_end hk]; rfl)
    | (rw [hi, drop_end hk]; simp [modesFrom, inB, *]; done)
    | (rw [hi, drop_end hk]; simp [modesFrom, inB]; omega)
    | (rw [hi, dx, List.map_cons, modesFrom]; simp [modeOk, *])
  refine ops_nil ?_
  refine c_seq ?_
  refine c_false rfl ?_
  refine c_exit ?_
  refine tq_e ?_
  refine tq_e ?_
  refine bq_e ?_
  refine tq_n ?_
  refine c_seqR ?_
  refine ops_cons rfl (ow_move rfl ?_)
  refine ops_cons rfl (ow_len Tryz.underlying25 rfl ?_)
  refine ops_cons rfl (ow_geq2 rfl rfl (fun h21 => ?_) (fun h21 => ?_))
  refine ops_cons rfl (ow_move rfl ?_)
  refine ops_want rfl rfl rfl (ow_move rfl ?_)
  refine ops_want rfl rfl rfl (ow_len Tryz.underlying25 rfl ?_)
  refine ops_want rfl rfl rfl (ow_leq rfl rfl ?_)
  refine ops_cons rfl (ow_pick rfl rfl ?_)
  refine ops_cons rfl (ow_assign rfl ?_)
  refine ops_nil ?_
  refine c_ret ?_
  refine fin_ret1 rfl rfl ?_
  · skip
    refine ⟨congrArg Value.bool ?_, X⟩
    rw [isMT, List.length_map]
    first
    | (rw [hB]; rfl)
    | (rw [hB, hi, drop_end hk]; rfl)
    | (rw [hi, drop_end hk]; simp [modesFrom, inB, *]; done)
    | (rw [hi, drop_end hk]; simp [modesFrom, inB]; omega)
    | (rw [hi, dx, List.map_cons, modesFrom]; simp [modeOk, *])
  refine ops_cons rfl (ow_move rfl ?_)
  refine ops_skip rfl rfl rfl rfl ?_
  refine ops_skip rfl rfl rfl rfl ?_
  refine ops_skip rfl rfl rfl rfl ?_
  refine ops_cons rfl (ow_pick rfl rfl ?_)
  refine ops_cons rfl (ow_assign rfl ?_)
  refine ops_nil ?_
  refine c_ret ?_
  refine fin_ret1 rfl rfl ?_
  · skip
    refine ⟨congrArg Value.bool ?_, X⟩
    rw [isMT, List.length_map]
    first
    | (rw [hB]; rfl)
    | (rw [hB, hi, drop_end hk]; rfl)
    | (rw [hi, drop_end hk]; simp [modesFrom, inB, *]; done)
    | (rw [hi, drop_end hk]; simp [modesFrom, inB]; omega)
    | (rw [hi, dx, List.map_cons, modesFrom]; simp [modeOk, *])
end Go.Proofs.YtdoibplhbdkapaaGreatDoor
namespace Go.Proofs.YtdoibplhbdkapaaGreatDoor
open Go.RowKit
set_option linter.unusedVariables false
set_option linter.unusedSimpArgs false
set_option maxRecDepth 20000
def modeB (x : Mode) : List Int := [x.rounds, x.slots, (x.next.length : Int)] ++ x.next
def mtP (ms : List Mode) (k : Nat) : List Int := (ms.length : Int) :: (ms.take k).flatMap modeB
theorem one_eI : ∀ (xs : List Int), ∀ u ∈ xs.flatMap eI, u.oneCell' = true := fun xs u hu => by
  obtain ⟨x, _, h⟩ := List.mem_flatMap.1 hu
  have : u = .int .i64 x := by simpa [eI] using h
  subst this; rfl
theorem mtP_step {xs : List ModeI} {k : Nat} {x : ModeI} (h : xs[k]? = some x) : (mtP (xs.map (·.m)) (k + 1)).flatMap eI = ((mtP (xs.map (·.m)) k).flatMap eI ++ (eI x.m.rounds ++ eI x.m.slots ++ eI (x.m.next.length : Nat))) ++ x.m.next.flatMap eI := by
  unfold mtP
  rw [List.take_add_one, map_at (f := (·.m)) h]
  simp [List.flatMap_append, modeB]
theorem mtP_len {xs : List ModeI} {k : Nat} {x : ModeI} (h : xs[k]? = some x) : (mtP (xs.map (·.m)) (k + 1)).length = (mtP (xs.map (·.m)) k).length + 3 + x.m.next.length := by
  unfold mtP
  rw [List.take_add_one, map_at (f := (·.m)) h]
  simp [List.flatMap_append, modeB]; omega
theorem rises_len {n : Int} : ∀ (l : List Int) (y : Int), risesFrom n (some y) l = true → (l.length : Int) ≤ max 0 (n - 1 - y)
  | [], y, _ => by simp; omega
  | x :: r, y, h => by
    simp only [risesFrom, Bool.and_eq_true, decide_eq_true_eq] at h
    have h1 := inB_iff.1 h.1.1
    have h2 := rises_len r x h.2
    simp only [List.length_cons]; omega
theorem risesB_len {n : Int} {l : List Int} (h : risesB l n = true) : (l.length : Int) ≤ max 0 n := by
  unfold risesB at h
  cases l with
  | nil => simp; omega
  | cons x r =>
    simp only [risesFrom, Bool.and_eq_true] at h
    have h1 := inB_iff.1 h.1
    have h2 := rises_len r x h.2
    simp only [List.length_cons]; omega
theorem flat_le {f : Mode → List Int} {b : Nat} : ∀ (l : List Mode), (∀ x ∈ l, (f x).length ≤ b) → (l.flatMap f).length ≤ b * l.length
  | [], _ => by simp
  | x :: r, h => by
    have h1 := h x (by simp)
    have h2 := flat_le r (fun y hy => h y (by simp [hy]))
    rw [List.flatMap_cons, List.length_append, List.length_cons, Nat.mul_succ]; omega
theorem l11Bytes_c (A : Option Addr) (B B2 c : Nat) (xs : List ModeI) (w : World) (hs : Sl B w A (xs.flatMap ModeI.cells)) (hn : Nexts B2 w xs) (hl : xs.length ≤ 1048576) (hz : ∀ x ∈ xs, x.m.next.length ≤ 1048576) :
    Calls Tryz.prog 156 #[.slice A xs.length c] w (Ret fun v w' => ∃ A' c', v = .slice A' (mtP (xs.map (·.m)) xs.length).length c' ∧ Own w' w.heap.size 2 1 A' (mtP (xs.map (·.m)) xs.length).length c' ((mtP (xs.map (·.m)) xs.length).flatMap eI) ∧ Ext w w') := by
  have Bhs := hs.1
  have Bhn := hn.1
  have X := Ext.refl w
  refine calls_of (args := [.slice A xs.length c]) Tryz.func156 Tryz.ntmps156 rfl rfl ?_
  refine c_seqR ?_
  refine ops_cons rfl (ow_assign rfl ?_)
  refine ops_nil ?_
  refine c_seqR ?_
  refine ops_cons rfl (ow_move rfl ?_)
  refine ops_cons rfl (ow_len Tryz.underlying25 rfl ?_)
  refine ops_cons rfl (ow_buildSlice el30 ti2 rfl rfl rfl rfl rfl ?_)
  intro gO w2 egO oO bbgO x1 zgO
  replace oO := Own.low oO X.size
  replace hs := hs.ext x1
  replace hn := hn.ext x1
  replace X := Ext.trans X x1; clear x1
  replace oO := oO.to (cs' := (mtP (xs.map (·.m)) 0).flatMap eI) (by simp [mtP, eI, repL])
  refine ops_cons rfl (ow_assign rfl ?_)
  refine ops_nil ?_
  refine c_seq ?_
  refine c_seqR ?_
  refine ops_cons rfl (ow_assign rfl ?_)
  refine ops_nil ?_
  refine c_block ?_
  refine c_loop (G := Nat × Nat × Option Addr × Nat) (fun ⟨k, n1, A1, c1⟩ => [(0, .slice A xs.length c), (2, .slice none 0 0), (3, .slice A1 n1 c1), (4, .int .i64 (k : Nat))]) (fun ⟨k, n1, A1, c1⟩ wr => k ≤ xs.length ∧ n1 = (mtP (xs.map (·.m)) k).length ∧ n1 ≤ 1 + 1048579 * k ∧ Own wr w.heap.size 2 1 A1 n1 c1 ((mtP (xs.map (·.m)) k).flatMap eI) ∧ Sl B wr A (xs.flatMap ModeI.cells) ∧ Nexts B2 wr xs ∧ Ext w wr) (fun ⟨k, n1, A1, c1⟩ => xs.length - k) (0, 1, some ⟨gO, 0, none⟩, 1) (.cons rfl (.cons rfl (.cons rfl (.cons rfl (.nil _))))) ?_ ?_
  · exact ⟨by omega, rfl, by omega, oO, hs, hn, X⟩
  clear hs hn oO
  clear X
  rintro ⟨k, n1, A1, c1⟩ wr ⟨hk0, hn1, hb, oO, hs, hn, X⟩
  refine c_seq ?_
  refine c_seqR ?_
  refine ops_cons rfl (ow_move rfl ?_)
  refine ops_cons rfl (ow_move rfl ?_)
  refine ops_cons rfl (ow_len Tryz.underlying25 rfl ?_)
  refine ops_cons rfl (ow_lss2 rfl rfl (fun hk => ?_) (fun hk => ?_))
  obtain ⟨x, hx, dx⟩ := drop_at' hk
  refine ops_nil ?_
  refine c_true rfl ?_
  refine c_skip ?_
  refine tq_n ?_
  refine c_seq ?_
  refine c_block ?_
  refine c_seqD [false, false, false, false, false, false, false, false, false, false, false, false, false, false, false, false, false, true] mixed (by kernel_rfl) ?_
  refine f_q rfl (fun wq sq => ow_move rfl ⟨rfl, Ext.refl _⟩) ?_
  refine f_q rfl (fun wq sq => ow_move rfl ⟨rfl, Ext.refl _⟩) ?_
  refine f_q rfl (fun wq sq => ow_move rfl ⟨rfl, Ext.refl _⟩) ?_
  refine f_q rfl (fun wq sq => ow_indexT (hs.ext sq) ModeI.len rfl el25 rfl rfl rfl hx rfl ⟨rfl, Ext.refl _⟩) ?_
  have hnx := hn.at_ hx
  have hlx := hz x (List.mem_of_getElem? hx)
  refine f_q rfl (fun wq sq => ow_fieldAddr off92_0 rfl ⟨rfl, Ext.refl _⟩) ?_
  refine f_q rfl (fun wq sq => ow_loadTF (hs.ext sq) ModeI.len hx ti2 rfl rfl rfl ⟨rfl, Ext.refl _⟩) ?_
  refine f_q rfl (fun wq sq => ow_move rfl ⟨rfl, Ext.refl _⟩) ?_
  refine f_q rfl (fun wq sq => ow_move rfl ⟨rfl, Ext.refl _⟩) ?_
  refine f_q rfl (fun wq sq => ow_indexT (hs.ext sq) ModeI.len rfl el25 rfl rfl rfl hx rfl ⟨rfl, Ext.refl _⟩) ?_
  refine f_q rfl (fun wq sq => ow_fieldAddr off92_1 rfl ⟨rfl, Ext.refl _⟩) ?_
  refine f_q rfl (fun wq sq => ow_loadTF (hs.ext sq) ModeI.len hx ti2 rfl rfl rfl ⟨rfl, Ext.refl _⟩) ?_
  refine f_q rfl (fun wq sq => ow_move rfl ⟨rfl, Ext.refl _⟩) ?_
  refine f_q rfl (fun wq sq => ow_move rfl ⟨rfl, Ext.refl _⟩) ?_
  refine f_q rfl (fun wq sq => ow_indexT (hs.ext sq) ModeI.len rfl el25 rfl rfl rfl hx rfl ⟨rfl, Ext.refl _⟩) ?_
  refine f_q rfl (fun wq sq => ow_fieldAddr off92_2 rfl ⟨rfl, Ext.refl _⟩) ?_
  refine f_q rfl (fun wq sq => ow_loadTF (hs.ext sq) ModeI.len hx ti30 rfl rfl rfl ⟨rfl, Ext.refl _⟩) ?_
  refine f_q rfl (fun wq sq => ow_len Tryz.underlying30 rfl ⟨rfl, Ext.refl _⟩) ?_
  refine f_op (fun gS : Nat => Value.slice (some ⟨gS, 0, none⟩) 3 3) (fun gS wz => Own wz w.heap.size 2 1 (some ⟨gS, 0, none⟩) 3 3 (eI x.m.rounds ++ eI x.m.slots ++ eI (x.m.next.length : Nat))) 0 rfl ⟨inj_own, fun _ _ _ h k => h.ext k, fun wq sq => ow_buildSlice el30 ti2 rfl rfl rfl rfl rfl (fun g w' hg ho hb hx hz => ⟨g, rfl, Own.low ho (Nat.le_trans X.size (sq).size), hx⟩)⟩ ?_
  intro gS
  refine f_nil (fun w3 sq => ?_)
  have xq := sq.1
  have oS := sq.2
  replace oO := oO.ext xq
  replace hs := hs.ext xq
  replace hn := hn.ext xq
  replace hnx := hnx.ext xq
  replace X := Ext.trans X xq; clear xq sq
  refine ops_cons rfl (ow_append (ts := #[]) oO X.size oS.sl (by first | rfl | simp) (by first | exact List.all_eq_true.1 rfl | simp [Value.oneCell']) el30 ti2 rfl rfl rfl rfl (by omega) (by omega) ?_)
  intro AoM coM w5 oM hg4
  replace hs := hs.grown hg4 (fun g hg => Nat.le_trans Bhs (Own.lt oO hg).1)
  replace hn := hn.grown hg4 (fun g hg => Nat.le_trans Bhn (Own.lt oO hg).1)
  replace hnx := hnx.grown hg4 (fun g hg => Nat.le_trans Bhn (Own.lt oO hg).1)
  replace X := X.grown hg4 X.size (fun g hg => (Own.lt oO hg).1)
  clear hg4
  refine ops_cons rfl (ow_assign rfl ?_)
  refine ops_nil ?_
  refine c_region ?_
  refine ops_cons rfl (ow_move rfl ?_)
  refine ops_cons rfl (ow_move rfl ?_)
  refine ops_cons rfl (ow_move rfl ?_)
  refine ops_cons rfl (ow_indexT hs ModeI.len rfl el25 rfl rfl rfl hx rfl ?_)
  refine ops_cons rfl (ow_fieldAddr off92_2 rfl ?_)
  refine ops_cons rfl (ow_loadTF hs ModeI.len hx ti30 rfl rfl rfl ?_)
  refine ops_cons rfl (ow_append (ts := #[]) oM X.size hnx (flat_len eI_len _) (one_eI _) el30 ti2 rfl rfl rfl rfl (by omega) (by omega) ?_)
  intro AoN coN w7 oN hg6
  replace hs := hs.grown hg6 (fun g hg => Nat.le_trans Bhs (Own.lt oM hg).1)
  replace hn := hn.grown hg6 (fun g hg => Nat.le_trans Bhn (Own.lt oM hg).1)
  replace hnx := hnx.grown hg6 (fun g hg => Nat.le_trans Bhn (Own.lt oM hg).1)
  replace X := X.grown hg6 X.size (fun g hg => (Own.lt oM hg).1)
  clear hg6
  refine ops_cons rfl (ow_assign rfl ?_)
  refine ops_nil ?_
  refine bq_n ?_
  refine tq_n ?_
  refine c_region ?_
  refine ops_cons rfl (ow_move rfl ?_)
  refine ops_cons rfl (ow_add rfl rfl (w64 (by omega)) ?_)
  refine ops_cons rfl (ow_assign rfl ?_)
  refine ops_nil ?_
  refine tq_n ⟨(k + 1, n1 + 3 + x.m.next.length, AoN, coN), (.cons rfl (.cons rfl (.cons rfl (.cons rfl (.nil _))))), ?_, ?_⟩
  · exact ⟨by omega, (by rw [mtP_len hx]; omega), by omega, oN.to (mtP_step hx).symm, hs, hn, X⟩
  · first | omega | (dsimp only; omega)
  refine ops_nil ?_
  refine c_false rfl ?_
  refine c_exit ?_
  refine tq_e ?_
  refine tq_e ?_
  refine bq_e ?_
  refine tq_n ?_
  refine c_seqR ?_
  refine ops_cons rfl (ow_move rfl ?_)
  refine ops_cons rfl (ow_assign rfl ?_)
  refine ops_nil ?_
  refine c_ret ?_
  refine fin_ret1 rfl rfl ?_
  · skip
    rw [show k = xs.length by omega] at oO hn1
    rw [← hn1]
    exact ⟨_, _, rfl, oO, X⟩

theorem modeTableBytes_c (A : Option Addr) (B B2 c : Nat) (xs : List ModeI) (w : World) (hs : Sl B w A (xs.flatMap ModeI.cells)) (hn : Nexts B2 w xs) (hl : xs.length ≤ 1048576) (hz : ∀ x ∈ xs, x.m.next.length ≤ 1048576) :
    Calls Tryz.prog 149 #[.slice A xs.length c] w (Ret fun v w' => ∃ A' c', v = .slice A' (mtP (xs.map (·.m)) xs.length).length c' ∧ Own w' w.heap.size 2 1 A' (mtP (xs.map (·.m)) xs.length).length c' ((mtP (xs.map (·.m)) xs.length).flatMap eI) ∧ Ext w w') := by
  have Bhs := hs.1
  have Bhn := hn.1
  have X := Ext.refl w
  refine calls_of (args := [.slice A xs.length c]) Tryz.func149 Tryz.ntmps149 rfl rfl ?_
  refine c_seqR ?_
  refine ops_cons rfl (ow_assign rfl ?_)
  refine ops_nil ?_
  refine c_seqR ?_
  refine ops_cons rfl (ow_move rfl ?_)
  refine ops_cons rfl (ow_len Tryz.underlying25 rfl ?_)
  refine ops_cons rfl (ow_buildSlice el30 ti2 rfl rfl rfl rfl rfl ?_)
  intro gO w2 egO oO bbgO x1 zgO
  replace oO := Own.low oO X.size
  replace hs := hs.ext x1
  replace hn := hn.ext x1
  replace X := Ext.trans X x1; clear x1
  replace oO := oO.to (cs' := (mtP (xs.map (·.m)) 0).flatMap eI) (by simp [mtP, eI, repL])
  refine ops_cons rfl (ow_assign rfl ?_)
  refine ops_nil ?_
  refine c_seq ?_
  refine c_seqR ?_
  refine ops_cons rfl (ow_move rfl ?_)
  refine ops_cons rfl (ow_len Tryz.underlying25 rfl ?_)
  refine ops_cons rfl (ow_move rfl ?_)
  refine ops_nil ?_
  refine c_block ?_
  refine c_loop (G := Nat × Nat × Option Addr × Nat) (fun ⟨k, n1, A1, c1⟩ => [(2, .slice none 0 0), (9, .slice A xs.length c), (10, .int .i64 (xs.length : Nat)), (3, .slice A1 n1 c1), (11, .int .i64 (k : Nat))]) (fun ⟨k, n1, A1, c1⟩ wr => k ≤ xs.length ∧ n1 = (mtP (xs.map (·.m)) k).length ∧ n1 ≤ 1 + 1048579 * k ∧ Own wr w.heap.size 2 1 A1 n1 c1 ((mtP (xs.map (·.m)) k).flatMap eI) ∧ Sl B wr A (xs.flatMap ModeI.cells) ∧ Nexts B2 wr xs ∧ Ext w wr) (fun ⟨k, n1, A1, c1⟩ => xs.length - k) (0, 1, some ⟨gO, 0, none⟩, 1) (.cons rfl (.cons rfl (.cons rfl (.cons rfl (.cons rfl (.nil _)))))) ?_ ?_
  · exact ⟨by omega, rfl, by omega, oO, hs, hn, X⟩
  clear hs hn oO
  clear X
  rintro ⟨k, n1, A1, c1⟩ wr ⟨hk0, hn1, hb, oO, hs, hn, X⟩
  refine c_seqR ?_
  refine ops_cons rfl (ow_lss2 rfl rfl (fun hk => ?_) (fun hk => ?_))
  obtain ⟨x, hx, dx⟩ := drop_at' hk
  refine ops_nil ?_
  refine c_seq ?_
  refine c_true rfl ?_
  refine c_skip ?_
  refine tq_n ?_
  refine c_seq ?_
  refine c_block ?_
  refine c_seqR ?_
  refine ops_cons rfl (ow_indexT hs ModeI.len rfl el25 rfl rfl rfl hx rfl ?_)
  have hnx := hn.at_ hx
  have hlx := hz x (List.mem_of_getElem? hx)
  refine ops_cons rfl (ow_loadTA hs ModeI.len hx ti92 rfl ?_)
  refine ops_cons rfl (ow_alloc ti92 ?_)
  intro gX w4 egX bX x3 zgX
  have lgX : w.heap.size ≤ gX := Nat.le_trans X.size (Nat.le_of_eq egX.symm)
  have pgXhs := Nat.le_trans hs.1 (Nat.le_of_eq egX.symm)
  have pgXhn := Nat.le_trans hn.1 (Nat.le_of_eq egX.symm)
  have pgXhnx := Nat.le_trans hnx.1 (Nat.le_of_eq egX.symm)
  replace oO := oO.ext x3
  replace hs := hs.ext x3
  replace hn := hn.ext x3
  replace hnx := hnx.ext x3
  replace X := Ext.trans X x3; clear x3
  refine ops_cons rfl (ow_storeB bX ti92 rfl rfl rfl rfl rfl rfl ?_)
  intro w6 bY hg5 z7
  replace oO := oO.grownBlk hg5 (Own.neT oO bX (by decide))
  replace hs := hs.grown hg5 (by intro g hg; injection hg; omega)
  replace hn := hn.grown hg5 (by intro g hg; injection hg; omega)
  replace hnx := hnx.grown hg5 (by intro g hg; injection hg; omega)
  replace X := X.grown hg5 X.size (by intro g hg; injection hg; omega)
  clear hg5 bX
  refine ops_nil ?_
  refine c_regI (fun wz => Blk wz gX 92 x.cells) mixed ?_
  obtain ⟨w9, ew9⟩ : ∃ wy, wy = World.drew w6 := ⟨_, rfl⟩
  rw [← ew9]
  have xd : Ext w6 w9 := ew9 ▸ Ext.drew w6
  replace oO := oO.ext xd
  replace hs := hs.ext xd
  replace hn := hn.ext xd
  replace hnx := hnx.ext xd
  replace bY := bY.ext xd
  replace X := Ext.trans X xd; clear xd ew9
  refine wi_take 0 rfl (by kernel_rfl) rfl (by kernel_rfl) (listed' := #[true, false, false, false, false, false, false, false, false, false, false, false, false, false]) rfl (fun wq sq => ow_move rfl ⟨rfl, rfl⟩) ?_
  refine wi_take 1 rfl (by kernel_rfl) rfl (by kernel_rfl) (listed' := #[true, true, false, false, false, false, false, false, false, false, false, false, false, false]) rfl (fun wq sq => ow_fieldAddrB off92_0 rfl rfl ⟨rfl, rfl⟩) ?_
  refine wi_take 2 rfl (by kernel_rfl) rfl (by kernel_rfl) (listed' := #[true, true, true, false, false, false, false, false, false, false, false, false, false, false]) rfl (fun wq sq => ow_loadB sq ti2 rfl rfl ⟨rfl, rfl⟩) ?_
  refine wi_take 3 rfl (by kernel_rfl) rfl (by kernel_rfl) (listed' := #[true, true, true, true, false, false, false, false, false, false, false, false, false, false]) rfl (fun wq sq => ow_fieldAddrB off92_1 rfl rfl ⟨rfl, rfl⟩) ?_
  refine wi_take 4 rfl (by kernel_rfl) rfl (by kernel_rfl) (listed' := #[true, true, true, true, true, false, false, false, false, false, false, false, false, false]) rfl (fun wq sq => ow_loadB sq ti2 rfl rfl ⟨rfl, rfl⟩) ?_
  refine wi_take 5 rfl (by kernel_rfl) rfl (by kernel_rfl) (listed' := #[true, true, true, true, true, true, false, false, false, false, false, false, false, false]) rfl (fun wq sq => ow_fieldAddrB off92_2 rfl rfl ⟨rfl, rfl⟩) ?_
  refine wi_take 6 rfl (by kernel_rfl) rfl (by kernel_rfl) (listed' := #[true, true, true, true, true, true, true, false, false, false, false, false, false, false]) rfl (fun wq sq => ow_loadB sq ti30 rfl rfl ⟨rfl, rfl⟩) ?_
  refine wi_take 7 rfl (by kernel_rfl) rfl (by kernel_rfl) (listed' := #[true, true, true, true, true, true, true, true, false, false, false, false, false, false]) rfl (fun wq sq => ow_len Tryz.underlying30 rfl ⟨rfl, rfl⟩) ?_
  refine wi_take 10 rfl (by kernel_rfl) rfl (by kernel_rfl) (listed' := #[true, true, true, true, true, true, true, true, false, false, true, false, false, false]) rfl (fun wq sq => ow_fieldAddrB off92_2 rfl rfl ⟨rfl, rfl⟩) ?_
  refine wi_take 11 rfl (by kernel_rfl) rfl (by kernel_rfl) (listed' := #[true, true, true, true, true, true, true, true, false, false, true, true, false, false]) rfl (fun wq sq => ow_loadB sq ti30 rfl rfl ⟨rfl, rfl⟩) ?_
  refine wi_one 8 rfl rfl (by kernel_rfl) (listed' := #[true, true, true, true, true, true, true, true, true, false, true, true, false, false]) rfl bY (ow_buildSlice el30 ti2 rfl rfl rfl rfl rfl ?_)
  intro gS w11 egS oS bbgS x10 zgS
  replace oS := Own.low oS X.size
  replace oO := oO.ext x10
  replace hs := hs.ext x10
  replace hn := hn.ext x10
  replace hnx := hnx.ext x10
  replace bY := bY.ext x10
  replace X := Ext.trans X x10; clear x10
  refine wi_one 9 rfl rfl (by kernel_rfl) (listed' := #[true, true, true, true, true, true, true, true, true, true, true, true, false, false]) rfl bY (ow_append (ts := #[]) oO X.size oS.sl (by first | rfl | simp) (by first | exact List.all_eq_true.1 rfl | simp [Value.oneCell']) el30 ti2 rfl rfl rfl rfl (by omega) (by omega) ?_)
  intro AoM coM w13 oM hg12
  replace hs := hs.grown hg12 (fun g hg => Nat.le_trans Bhs (Own.lt oO hg).1)
  replace hn := hn.grown hg12 (fun g hg => Nat.le_trans Bhn (Own.lt oO hg).1)
  replace hnx := hnx.grown hg12 (fun g hg => Nat.le_trans Bhn (Own.lt oO hg).1)
  replace bY := bY.grown hg12 (fun h => Own.neT oO bY (by decide) h.symm)
  replace X := X.grown hg12 X.size (fun g hg => (Own.lt oO hg).1)
  clear hg12
  refine wi_one 12 rfl rfl (by kernel_rfl) (listed' := #[true, true, true, true, true, true, true, true, true, true, true, true, true, false]) rfl bY (ow_append (ts := #[]) oM X.size hnx (flat_len eI_len _) (one_eI _) el30 ti2 rfl rfl rfl rfl (by omega) (by omega) ?_)
  intro AoN coN w15 oN hg14
  replace hs := hs.grown hg14 (fun g hg => Nat.le_trans Bhs (Own.lt oM hg).1)
  replace hn := hn.grown hg14 (fun g hg => Nat.le_trans Bhn (Own.lt oM hg).1)
  replace hnx := hnx.grown hg14 (fun g hg => Nat.le_trans Bhn (Own.lt oM hg).1)
  replace bY := bY.grown hg14 (fun h => Own.neT oM bY (by decide) h.symm)
  replace X := X.grown hg14 X.size (fun g hg => (Own.lt oM hg).1)
  clear hg14
  refine wi_take 13 rfl (by kernel_rfl) rfl (by kernel_rfl) (listed' := #[true, true, true, true, true, true, true, true, true, true, true, true, true, true]) rfl (fun wq sq => ow_assign rfl ⟨rfl, rfl⟩) ?_
  refine wi_done rfl bY (fun aj fj => ⟨_, fj, ?_⟩)
  refine bq_n ?_
  refine tq_n ?_
  refine c_region ?_
  refine ops_cons rfl (ow_add rfl rfl (w64 (by omega)) ?_)
  refine ops_cons rfl (ow_move rfl ?_)
  refine ops_nil ?_
  refine tq_n ⟨(k + 1, n1 + 3 + x.m.next.length, AoN, coN), (.cons rfl (.cons rfl (.cons rfl (.cons rfl (.cons rfl (.nil _)))))), ?_, ?_⟩
  · exact ⟨by omega, (by rw [mtP_len hx]; omega), by omega, oN.to (mtP_step hx).symm, hs, hn, X⟩
  · first | omega | (dsimp only; omega)
  refine ops_nil ?_
  refine c_seq ?_
  refine c_false rfl ?_
  refine c_exit ?_
  refine tq_e ?_
  refine tq_e ?_
  refine bq_e ?_
  refine tq_n ?_
  refine c_seqR ?_
  refine ops_cons rfl (ow_move rfl ?_)
  refine ops_cons rfl (ow_assign rfl ?_)
  refine ops_nil ?_
  refine c_ret ?_
  refine fin_ret1 rfl rfl ?_
  · skip
    rw [show k = xs.length by omega] at oO hn1
    rw [← hn1]
    exact ⟨_, _, rfl, oO, X⟩
end Go.Proofs.YtdoibplhbdkapaaGreatDoor
