/- Bytes of slot tables. No condition. -/
import Derived.Test.YtojgfbbdjobdnaaD2
import Derived.Test.YtojgfbbdjobdnaaFlowK
namespace Go.Proofs.Ytojgfbbdjobdnaa
open Go.RowKit
set_option linter.unusedVariables false
set_option linter.unusedSimpArgs false
set_option maxRecDepth 20000
def descB (d : Desc) : List Int := [d.node, d.kind * 64 + d.size, d.duration / 256, d.duration % 256, if d.change = true then 1 else 0]
def slotB (x : SlotI) : List Int := [x.mode * 16 + x.round, x.slot] ++ descB x.desc
def stP (xs : List SlotI) (k : Nat) : List Int := (xs.length : Int) :: (xs.take k).flatMap slotB
def stB (xs : List SlotI) : List Int := stP xs xs.length
def resB (xs : List SlotI) : List Int × Int := if isST xs = true then (stB xs, 0) else ([], 1)
theorem stP_step {xs : List SlotI} {k : Nat} {x : SlotI} (h : xs[k]? = some x) : (stP xs (k + 1)).flatMap eI = ((stP xs k).flatMap eI ++ (eI (x.mode * 16 + x.round) ++ eI x.slot)) ++ (descB x.desc).flatMap eI := by
  unfold stP
  rw [List.take_add_one, h]
  simp [List.flatMap_append, slotB]
theorem flat7 : ∀ l : List SlotI, (l.flatMap slotB).length = 7 * l.length
  | [] => rfl
  | x :: l => by rw [List.flatMap_cons, List.length_append, flat7 l]; simp [slotB, descB]; omega
theorem stP_len {xs : List SlotI} {k : Nat} (h : k ≤ xs.length) : (stP xs k).length = 1 + 7 * k := by
  unfold stP
  rw [List.length_cons, flat7, List.length_take]; omega
theorem resB_len (xs : List SlotI) (h : xs.length ≤ 1048576) : (resB xs).1.length ≤ 1048576 := by
  unfold resB
  split
  · rename_i hT
    have := isST_len hT
    have h2 := stP_len (xs := xs) (Nat.le_refl _)
    show (stP xs xs.length).length ≤ _
    omega
  · simp
theorem descOk_in {d : Desc} (h : descOk d = true) : (0 ≤ d.node ∧ d.node ≤ 31) ∧ (0 ≤ d.kind ∧ d.kind ≤ 3) ∧ (0 ≤ d.size ∧ d.size ≤ 32) ∧ (0 ≤ d.duration ∧ d.duration ≤ 1000) := by
  simp only [descOk, Bool.and_eq_true] at h
  have h1 := inB_iff.1 h.1.1.1.1; have h2 := inB_iff.1 h.1.1.1.2; have h3 := dataOk_in h.1.1.2; have h4 := inB_iff.1 h.2
  have h5 := cellsS_in d.kind h3
  exact ⟨h1, h2, h3, by omega⟩
theorem slotOk_in {x : SlotI} (h : slotOk x = true) : (0 ≤ x.mode ∧ x.mode ≤ 15) ∧ (0 ≤ x.round ∧ x.round ≤ 7) ∧ (0 ≤ x.slot ∧ x.slot ≤ 15) ∧ descOk x.desc = true := by
  simp only [slotOk, Bool.and_eq_true] at h
  exact ⟨inB_iff.1 h.1.1.1, inB_iff.1 h.1.1.2, inB_iff.1 h.1.2, h.2⟩
theorem oneIf_c (b : Bool) (w : World)  :
    Calls Try.prog 91 #[.bool b] w (Ret fun v w' => v = .int .i64 (if b = true then 1 else 0) ∧ Ext w w') := by
  have X := Ext.refl w
  refine calls_of (args := [.bool b]) Try.func91 Try.ntmps91 rfl rfl ?_
  refine c_seqR ?_
  refine ops_cons rfl (ow_assign rfl ?_)
  refine ops_nil ?_
  refine c_seq ?_
  refine c_seqR ?_
  refine ops_cons rfl (ow_move rfl ?_)
  refine ops_nil ?_
  refine c_split rfl (fun h1 => ?_) (fun h1 => ?_)
  · skip
    refine c_seqR ?_
    refine ops_cons rfl (ow_assign rfl ?_)
    refine ops_nil ?_
    refine c_ret ?_
    refine tq_r ?_
    refine fin_ret1 rfl rfl ?_
    exact ⟨by simp [*], X⟩
  · skip
    refine c_skip ?_
    refine tq_n ?_
    refine c_seqR ?_
    refine ops_cons rfl (ow_assign rfl ?_)
    refine ops_nil ?_
    refine c_ret ?_
    refine fin_ret1 rfl rfl ?_
    exact ⟨by simp [*], X⟩

theorem l08Bytes_c (d : Desc) (w : World) (hd : descOk d = true) :
    Calls Try.prog 82 #[.agg d.cells.toArray] w (Ret fun v w' => ∃ A' c', v = .slice A' 5 c' ∧ Own w' w.heap.size 2 1 A' 5 c' ((descB d).flatMap eI) ∧ Ext w w') := by
  have hr := descOk_in hd
  have X := Ext.refl w
  refine calls_of (args := [.agg d.cells.toArray]) Try.func82 Try.ntmps82 rfl rfl ?_
  refine c_seqR ?_
  refine ops_cons rfl (ow_box rfl rfl ?_)
  intro g4 w3 eg4 b1 x2 zg4
  have lg4 : w.heap.size ≤ g4 := Nat.le_trans X.size (Nat.le_of_eq eg4.symm)
  replace X := Ext.trans X x2; clear x2
  refine ops_cons rfl (ow_assign rfl ?_)
  refine ops_nil ?_
  refine c_seqR ?_
  refine ops_cons rfl (ow_assign rfl ?_)
  refine ops_nil ?_
  refine c_seq ?_
  refine c_seqR ?_
  refine ops_cons rfl (ow_fieldAddrB off39_4 rfl rfl ?_)
  refine ops_cons rfl (ow_loadB b1 ti4 rfl rfl ?_)
  cases hch : d.change
  · skip
    refine ops_nil ?_
    refine c_false rfl ?_
    refine c_skip ?_
    refine tq_n ?_
    refine c_seqR ?_
    refine ops_cons rfl (ow_fieldAddrB off39_0 rfl rfl ?_)
    refine ops_cons rfl (ow_loadB b1 ti2 rfl rfl ?_)
    refine ops_cons rfl (ow_fieldAddrB off39_1 rfl rfl ?_)
    refine ops_cons rfl (ow_loadB b1 ti2 rfl rfl ?_)
    refine ops_cons rfl (ow_mul rfl rfl (w64 (by omega)) ?_)
    refine ops_cons rfl (ow_fieldAddrB off39_2 rfl rfl ?_)
    refine ops_cons rfl (ow_loadB b1 ti2 rfl rfl ?_)
    refine ops_cons rfl (ow_add rfl rfl (w64 (by omega)) ?_)
    refine ops_cons rfl (ow_fieldAddrB off39_3 rfl rfl ?_)
    refine ops_cons rfl (ow_loadB b1 ti2 rfl rfl ?_)
    refine ops_cons rfl (ow_quo rfl rfl (by omega) (q64 (by omega)) ?_)
    refine ops_cons rfl (ow_fieldAddrB off39_3 rfl rfl ?_)
    refine ops_cons rfl (ow_loadB b1 ti2 rfl rfl ?_)
    refine ops_cons rfl (ow_rem rfl rfl (by omega) (m64 (by omega)) ?_)
    refine ops_cons rfl (ow_move rfl ?_)
    refine ops_cons rfl (ow_buildSlice el26 ti2 rfl rfl rfl rfl rfl ?_)
    intro g5 w7 eg5 oS bbg5 x6 zg5
    replace oS := Own.low oS X.size
    replace b1 := b1.ext x6
    replace X := Ext.trans X x6; clear x6
    refine ops_cons rfl (ow_assign rfl ?_)
    refine ops_nil ?_
    refine c_ret ?_
    refine fin_ret1 rfl rfl ?_
    exact ⟨_, _, rfl, oS.to (by simp [descB, hch, eI, repL]), X⟩
  · skip
    refine ops_nil ?_
    refine c_true rfl ?_
    refine c_region ?_
    refine ops_cons rfl (ow_assign rfl ?_)
    refine ops_nil ?_
    refine tq_n ?_
    refine c_seqR ?_
    refine ops_cons rfl (ow_fieldAddrB off39_0 rfl rfl ?_)
    refine ops_cons rfl (ow_loadB b1 ti2 rfl rfl ?_)
    refine ops_cons rfl (ow_fieldAddrB off39_1 rfl rfl ?_)
    refine ops_cons rfl (ow_loadB b1 ti2 rfl rfl ?_)
    refine ops_cons rfl (ow_mul rfl rfl (w64 (by omega)) ?_)
    refine ops_cons rfl (ow_fieldAddrB off39_2 rfl rfl ?_)
    refine ops_cons rfl (ow_loadB b1 ti2 rfl rfl ?_)
    refine ops_cons rfl (ow_add rfl rfl (w64 (by omega)) ?_)
    refine ops_cons rfl (ow_fieldAddrB off39_3 rfl rfl ?_)
    refine ops_cons rfl (ow_loadB b1 ti2 rfl rfl ?_)
    refine ops_cons rfl (ow_quo rfl rfl (by omega) (q64 (by omega)) ?_)
    refine ops_cons rfl (ow_fieldAddrB off39_3 rfl rfl ?_)
    refine ops_cons rfl (ow_loadB b1 ti2 rfl rfl ?_)
    refine ops_cons rfl (ow_rem rfl rfl (by omega) (m64 (by omega)) ?_)
    refine ops_cons rfl (ow_move rfl ?_)
    refine ops_cons rfl (ow_buildSlice el26 ti2 rfl rfl rfl rfl rfl ?_)
    intro g8 w10 eg8 oS bbg8 x9 zg8
    replace oS := Own.low oS X.size
    replace b1 := b1.ext x9
    replace X := Ext.trans X x9; clear x9
    refine ops_cons rfl (ow_assign rfl ?_)
    refine ops_nil ?_
    refine c_ret ?_
    refine fin_ret1 rfl rfl ?_
    exact ⟨_, _, rfl, oS.to (by simp [descB, hch, eI, repL]), X⟩

theorem descBytes_c (d : Desc) (w : World) (hd : descOk d = true) :
    Calls Try.prog 81 #[.agg d.cells.toArray] w (Ret fun v w' => ∃ A' c', v = .slice A' 5 c' ∧ Own w' w.heap.size 2 1 A' 5 c' ((descB d).flatMap eI) ∧ Ext w w') := by
  have hr := descOk_in hd
  have X := Ext.refl w
  refine calls_of (args := [.agg d.cells.toArray]) Try.func81 Try.ntmps81 rfl rfl ?_
  refine c_seqR ?_
  refine ops_cons rfl (ow_box rfl rfl ?_)
  intro g4 w3 eg4 b1 x2 zg4
  have lg4 : w.heap.size ≤ g4 := Nat.le_trans X.size (Nat.le_of_eq eg4.symm)
  replace X := Ext.trans X x2; clear x2
  refine ops_cons rfl (ow_assign rfl ?_)
  refine ops_nil ?_
  refine c_seqD [false, false, false, false, false, false, false, false, false, false, false, false, false, false, false, false, false, true, false] mixed (by kernel_rfl) ?_
  refine f_q rfl (fun wq sq => ow_fieldAddrB off39_0 rfl rfl ⟨rfl, Ext.refl _⟩) ?_
  refine f_q rfl (fun wq sq => ow_loadB (b1.ext sq) ti2 rfl rfl ⟨rfl, Ext.refl _⟩) ?_
  refine f_q rfl (fun wq sq => ow_fieldAddrB off39_1 rfl rfl ⟨rfl, Ext.refl _⟩) ?_
  refine f_q rfl (fun wq sq => ow_loadB (b1.ext sq) ti2 rfl rfl ⟨rfl, Ext.refl _⟩) ?_
  refine f_q rfl (fun wq sq => ow_mul rfl rfl (w64 (by omega)) ⟨rfl, Ext.refl _⟩) ?_
  refine f_q rfl (fun wq sq => ow_fieldAddrB off39_2 rfl rfl ⟨rfl, Ext.refl _⟩) ?_
  refine f_q rfl (fun wq sq => ow_loadB (b1.ext sq) ti2 rfl rfl ⟨rfl, Ext.refl _⟩) ?_
  refine f_q rfl (fun wq sq => ow_add rfl rfl (w64 (by omega)) ⟨rfl, Ext.refl _⟩) ?_
  refine f_q rfl (fun wq sq => ow_fieldAddrB off39_3 rfl rfl ⟨rfl, Ext.refl _⟩) ?_
  refine f_q rfl (fun wq sq => ow_loadB (b1.ext sq) ti2 rfl rfl ⟨rfl, Ext.refl _⟩) ?_
  refine f_q rfl (fun wq sq => ow_quo rfl rfl (by omega) (q64 (by omega)) ⟨rfl, Ext.refl _⟩) ?_
  refine f_q rfl (fun wq sq => ow_fieldAddrB off39_3 rfl rfl ⟨rfl, Ext.refl _⟩) ?_
  refine f_q rfl (fun wq sq => ow_loadB (b1.ext sq) ti2 rfl rfl ⟨rfl, Ext.refl _⟩) ?_
  refine f_q rfl (fun wq sq => ow_rem rfl rfl (by omega) (m64 (by omega)) ⟨rfl, Ext.refl _⟩) ?_
  refine f_q rfl (fun wq sq => ow_fieldAddrB off39_4 rfl rfl ⟨rfl, Ext.refl _⟩) ?_
  refine f_q rfl (fun wq sq => ow_loadB (b1.ext sq) ti4 rfl rfl ⟨rfl, Ext.refl _⟩) ?_
  refine f_q rfl (fun wq sq => ow_call ent91 rfl (oneIf_c _ _)) ?_
  refine f_op (fun gS : Nat => Value.slice (some ⟨gS, 0, none⟩) 5 5) (fun gS wz => Own wz w.heap.size 2 1 (some ⟨gS, 0, none⟩) 5 5 ((descB d).flatMap eI)) 0 rfl ⟨inj_own, fun _ _ _ h k => h.ext k, fun wq sq => ow_buildSlice el26 ti2 rfl rfl rfl rfl rfl (fun g w' hg ho hb hx hz => ⟨g, rfl, Own.low ho (Nat.le_trans X.size (sq).size), hx⟩)⟩ ?_
  intro gS
  refine f_q rfl (fun wq sq => ow_assign rfl ⟨rfl, Ext.refl _⟩) ?_
  refine f_nil (fun w5 sq => ?_)
  have xq := sq.1
  have oS := sq.2
  replace b1 := b1.ext xq
  replace X := Ext.trans X xq; clear xq sq
  refine ops_nil ?_
  refine c_ret ?_
  refine fin_ret1 rfl rfl ?_
  exact ⟨_, _, rfl, oS, X⟩

theorem l12Bytes_c (A : Option Addr) (B c : Nat) (xs : List SlotI) (w : World) (hs : Sl B w A (xs.flatMap SlotI.cells)) (hT : isST xs = true) :
    Calls Try.prog 60 #[.slice A xs.length c] w (Ret fun v w' => ∃ A' c', v = .slice A' (1 + 7 * xs.length) c' ∧ Own w' w.heap.size 2 1 A' (1 + 7 * xs.length) c' ((stB xs).flatMap eI) ∧ Ext w w') := by
  have Bhs := hs.1
  have X := Ext.refl w
  refine calls_of (args := [.slice A xs.length c]) Try.func60 Try.ntmps60 rfl rfl ?_
  refine c_seqR ?_
  refine ops_cons rfl (ow_assign rfl ?_)
  refine ops_nil ?_
  refine c_seqR ?_
  refine ops_cons rfl (ow_move rfl ?_)
  refine ops_cons rfl (ow_len Try.underlying35 rfl ?_)
  refine ops_cons rfl (ow_buildSlice el26 ti2 rfl rfl rfl rfl rfl ?_)
  intro gO w2 egO oO bbgO x1 zgO
  replace oO := Own.low oO X.size
  replace hs := hs.ext x1
  replace X := Ext.trans X x1; clear x1
  replace oO := oO.to (cs' := (stP xs 0).flatMap eI) rfl
  refine ops_cons rfl (ow_assign rfl ?_)
  refine ops_nil ?_
  refine c_seq ?_
  refine c_seqR ?_
  refine ops_cons rfl (ow_assign rfl ?_)
  refine ops_nil ?_
  refine c_block ?_
  refine c_loop (G := Nat × Nat × Option Addr × Nat) (fun ⟨k, n1, A1, c1⟩ => [(0, .slice A xs.length c), (2, .slice none 0 0), (3, .slice A1 n1 c1), (4, .int .i64 (k : Nat))]) (fun ⟨k, n1, A1, c1⟩ wr => k ≤ xs.length ∧ n1 = 1 + 7 * k ∧ Own wr w.heap.size 2 1 A1 n1 c1 ((stP xs k).flatMap eI) ∧ Sl B wr A (xs.flatMap SlotI.cells) ∧ Ext w wr) (fun ⟨k, n1, A1, c1⟩ => xs.length - k) (0, 1, some ⟨gO, 0, none⟩, 1) (.cons rfl (.cons rfl (.cons rfl (.cons rfl (.nil _))))) ?_ ?_
  · exact ⟨by omega, rfl, oO, hs, X⟩
  clear hs oO
  clear X
  rintro ⟨k, n1, A1, c1⟩ wr ⟨hk0, hn, oO, hs, X⟩
  refine c_seq ?_
  refine c_seqR ?_
  refine ops_cons rfl (ow_move rfl ?_)
  refine ops_cons rfl (ow_move rfl ?_)
  refine ops_cons rfl (ow_len Try.underlying35 rfl ?_)
  refine ops_cons rfl (ow_lss2 rfl rfl (fun hk => ?_) (fun hk => ?_))
  · skip
    obtain ⟨x, hx, dx⟩ := drop_at' hk
    have hk1 := slotOk_in (isST_at hT hx)
    have hd := hk1.2.2.2
    have hL := isST_len hT
    refine ops_nil ?_
    refine c_true rfl ?_
    refine c_skip ?_
    refine tq_n ?_
    refine c_seq ?_
    refine c_block ?_
    refine c_seqD [false, false, false, false, false, false, false, false, false, false, false, false, false, false, false, false, false, false, true] mixed (by kernel_rfl) ?_
    refine f_q rfl (fun wq sq => ow_move rfl ⟨rfl, Ext.refl _⟩) ?_
    refine f_q rfl (fun wq sq => ow_move rfl ⟨rfl, Ext.refl _⟩) ?_
    refine f_q rfl (fun wq sq => ow_move rfl ⟨rfl, Ext.refl _⟩) ?_
    refine f_q rfl (fun wq sq => ow_indexT (hs.ext sq) SlotI.len rfl el35 rfl rfl rfl hx rfl ⟨rfl, Ext.refl _⟩) ?_
    refine f_q rfl (fun wq sq => ow_fieldAddr off46_0 rfl ⟨rfl, Ext.refl _⟩) ?_
    refine f_q rfl (fun wq sq => ow_loadTF (hs.ext sq) SlotI.len hx ti2 rfl rfl rfl ⟨rfl, Ext.refl _⟩) ?_
    refine f_q rfl (fun wq sq => ow_mul rfl rfl (w64 (by omega)) ⟨rfl, Ext.refl _⟩) ?_
    refine f_q rfl (fun wq sq => ow_move rfl ⟨rfl, Ext.refl _⟩) ?_
    refine f_q rfl (fun wq sq => ow_move rfl ⟨rfl, Ext.refl _⟩) ?_
    refine f_q rfl (fun wq sq => ow_indexT (hs.ext sq) SlotI.len rfl el35 rfl rfl rfl hx rfl ⟨rfl, Ext.refl _⟩) ?_
    refine f_q rfl (fun wq sq => ow_fieldAddr off46_1 rfl ⟨rfl, Ext.refl _⟩) ?_
    refine f_q rfl (fun wq sq => ow_loadTF (hs.ext sq) SlotI.len hx ti2 rfl rfl rfl ⟨rfl, Ext.refl _⟩) ?_
    refine f_q rfl (fun wq sq => ow_add rfl rfl (w64 (by omega)) ⟨rfl, Ext.refl _⟩) ?_
    refine f_q rfl (fun wq sq => ow_move rfl ⟨rfl, Ext.refl _⟩) ?_
    refine f_q rfl (fun wq sq => ow_move rfl ⟨rfl, Ext.refl _⟩) ?_
    refine f_q rfl (fun wq sq => ow_indexT (hs.ext sq) SlotI.len rfl el35 rfl rfl rfl hx rfl ⟨rfl, Ext.refl _⟩) ?_
    refine f_q rfl (fun wq sq => ow_fieldAddr off46_2 rfl ⟨rfl, Ext.refl _⟩) ?_
    refine f_q rfl (fun wq sq => ow_loadTF (hs.ext sq) SlotI.len hx ti2 rfl rfl rfl ⟨rfl, Ext.refl _⟩) ?_
    refine f_op (fun gS : Nat => Value.slice (some ⟨gS, 0, none⟩) 2 2) (fun gS wz => Own wz w.heap.size 2 1 (some ⟨gS, 0, none⟩) 2 2 (eI (x.mode * 16 + x.round) ++ eI x.slot)) 0 rfl ⟨inj_own, fun _ _ _ h k => h.ext k, fun wq sq => ow_buildSlice el26 ti2 rfl rfl rfl rfl rfl (fun g w' hg ho hb hx hz => ⟨g, rfl, Own.low ho (Nat.le_trans X.size (sq).size), hx⟩)⟩ ?_
    intro gS
    refine f_nil (fun w3 sq => ?_)
    have xq := sq.1
    have oS := sq.2
    replace oO := oO.ext xq
    replace hs := hs.ext xq
    replace X := Ext.trans X xq; clear xq sq
    refine ops_cons rfl (ow_append (ts := #[]) oO X.size oS.sl (by first | rfl | simp) (by first | exact List.all_eq_true.1 rfl | simp [Value.oneCell']) el26 ti2 rfl rfl rfl rfl (by omega) (by omega) ?_)
    intro AoM coM w5 oM hg4
    replace hs := hs.grown hg4 (fun g hg => Nat.le_trans Bhs (Own.lt oO hg).1)
    replace X := X.grown hg4 X.size (fun g hg => (Own.lt oO hg).1)
    clear hg4
    refine ops_cons rfl (ow_assign rfl ?_)
    refine ops_nil ?_
    refine c_region ?_
    refine ops_cons rfl (ow_move rfl ?_)
    refine ops_cons rfl (ow_move rfl ?_)
    refine ops_cons rfl (ow_move rfl ?_)
    refine ops_cons rfl (ow_indexT hs SlotI.len rfl el35 rfl rfl rfl hx rfl ?_)
    refine ops_cons rfl (ow_fieldAddr off46_3 rfl ?_)
    refine ops_cons rfl (ow_loadTFA hs SlotI.len hx ti39 rfl rfl ?_)
    refine ops_cons rfl (ow_call ent82 rfl (ret_mono (l08Bytes_c _ _ hd) ?_))
    rintro _ w7 ⟨A8, c9, rfl, oD, x6⟩
    replace oD := Own.low oD X.size
    replace hs := hs.ext x6
    replace oM := oM.ext x6
    replace X := Ext.trans X x6; clear x6
    refine ops_cons rfl (ow_append (ts := #[]) oM X.size oD.sl (by simp [descB, eI]) (by simp [descB, eI, Value.oneCell']) el26 ti2 rfl rfl rfl rfl (by omega) (by omega) ?_)
    intro AoN coN w11 oN hg10
    replace hs := hs.grown hg10 (fun g hg => Nat.le_trans Bhs (Own.lt oM hg).1)
    replace X := X.grown hg10 X.size (fun g hg => (Own.lt oM hg).1)
    clear hg10
    refine ops_cons rfl (ow_assign rfl ?_)
    refine ops_nil ?_
    refine bq_n ?_
    refine tq_n ?_
    refine c_region ?_
    refine ops_cons rfl (ow_move rfl ?_)
    refine ops_cons rfl (ow_add rfl rfl (w64 (by omega)) ?_)
    refine ops_cons rfl (ow_assign rfl ?_)
    refine ops_nil ?_
    refine tq_n ⟨(k + 1, n1 + 2 + 5, AoN, coN), (.cons rfl (.cons rfl (.cons rfl (.cons rfl (.nil _))))), ?_, ?_⟩
    · exact ⟨by omega, by omega, oN.to (stP_step hx).symm, hs, X⟩
    · first | omega | (dsimp only; omega)
  · skip
    refine ops_nil ?_
    refine c_false rfl ?_
    refine c_exit ?_
    refine tq_e ?_
    refine tq_e ?_
    refine bq_e ?_
    refine tq_n ?_
    refine c_seqR ?_
    refine ops_cons rfl (ow_move rfl ?_)
    refine ops_cons rfl (ow_assign rfl ?_)
    refine ops_nil ?_
    refine c_ret ?_
    refine fin_ret1 rfl rfl ?_
    rw [show k = xs.length by omega] at oO hn
    subst hn
    exact ⟨_, _, rfl, oO, X⟩

theorem slotTableBytes_c (A : Option Addr) (B c : Nat) (xs : List SlotI) (w : World) (hs : Sl B w A (xs.flatMap SlotI.cells)) (hT : isST xs = true) :
    Calls Try.prog 59 #[.slice A xs.length c] w (Ret fun v w' => ∃ A' c', v = .slice A' (1 + 7 * xs.length) c' ∧ Own w' w.heap.size 2 1 A' (1 + 7 * xs.length) c' ((stB xs).flatMap eI) ∧ Ext w w') := by
  have Bhs := hs.1
  have X := Ext.refl w
  refine calls_of (args := [.slice A xs.length c]) Try.func59 Try.ntmps59 rfl rfl ?_
  refine c_seqR ?_
  refine ops_cons rfl (ow_assign rfl ?_)
  refine ops_nil ?_
  refine c_seqR ?_
  refine ops_cons rfl (ow_move rfl ?_)
  refine ops_cons rfl (ow_len Try.underlying35 rfl ?_)
  refine ops_cons rfl (ow_buildSlice el26 ti2 rfl rfl rfl rfl rfl ?_)
  intro gO w2 egO oO bbgO x1 zgO
  replace oO := Own.low oO X.size
  replace hs := hs.ext x1
  replace X := Ext.trans X x1; clear x1
  replace oO := oO.to (cs' := (stP xs 0).flatMap eI) rfl
  refine ops_cons rfl (ow_assign rfl ?_)
  refine ops_nil ?_
  refine c_seq ?_
  refine c_seqR ?_
  refine ops_cons rfl (ow_move rfl ?_)
  refine ops_cons rfl (ow_len Try.underlying35 rfl ?_)
  refine ops_cons rfl (ow_move rfl ?_)
  refine ops_nil ?_
  refine c_block ?_
  refine c_loop (G := Nat × Nat × Option Addr × Nat) (fun ⟨k, n1, A1, c1⟩ => [(2, .slice none 0 0), (9, .slice A xs.length c), (10, .int .i64 (xs.length : Nat)), (3, .slice A1 n1 c1), (11, .int .i64 (k : Nat))]) (fun ⟨k, n1, A1, c1⟩ wr => k ≤ xs.length ∧ n1 = 1 + 7 * k ∧ Own wr w.heap.size 2 1 A1 n1 c1 ((stP xs k).flatMap eI) ∧ Sl B wr A (xs.flatMap SlotI.cells) ∧ Ext w wr) (fun ⟨k, n1, A1, c1⟩ => xs.length - k) (0, 1, some ⟨gO, 0, none⟩, 1) (.cons rfl (.cons rfl (.cons rfl (.cons rfl (.cons rfl (.nil _)))))) ?_ ?_
  · exact ⟨by omega, rfl, oO, hs, X⟩
  clear hs oO
  clear X
  rintro ⟨k, n1, A1, c1⟩ wr ⟨hk0, hn, oO, hs, X⟩
  refine c_seqR ?_
  refine ops_cons rfl (ow_lss2 rfl rfl (fun hk => ?_) (fun hk => ?_))
  · skip
    obtain ⟨x, hx, dx⟩ := drop_at' hk
    have hk1 := slotOk_in (isST_at hT hx)
    have hd := hk1.2.2.2
    have hL := isST_len hT
    refine ops_nil ?_
    refine c_seq ?_
    refine c_true rfl ?_
    refine c_skip ?_
    refine tq_n ?_
    refine c_seq ?_
    refine c_block ?_
    refine c_seqR ?_
    refine ops_cons rfl (ow_indexT hs SlotI.len rfl el35 rfl rfl rfl hx rfl ?_)
    refine ops_cons rfl (ow_loadTA hs SlotI.len hx ti46 rfl ?_)
    refine ops_cons rfl (ow_alloc ti46 ?_)
    intro gX w4 egX bX x3 zgX
    have lgX : w.heap.size ≤ gX := Nat.le_trans X.size (Nat.le_of_eq egX.symm)
    have pgXhs := Nat.le_trans hs.1 (Nat.le_of_eq egX.symm)
    replace oO := oO.ext x3
    replace hs := hs.ext x3
    replace X := Ext.trans X x3; clear x3
    refine ops_cons rfl (ow_storeB bX ti46 rfl rfl rfl rfl rfl rfl ?_)
    intro w6 bY hg5 z7
    replace oO := oO.grownBlk hg5 (Own.neT oO bX (by decide))
    replace hs := hs.grown hg5 (by intro g hg; injection hg; omega)
    replace X := X.grown hg5 X.size (by intro g hg; injection hg; omega)
    clear hg5 bX
    refine ops_nil ?_
    refine c_regI (fun wz => Blk wz gX 46 x.cells) mixed ?_
    obtain ⟨w8, ew8⟩ : ∃ w2, w2 = World.drew w6 := ⟨_, rfl⟩
    rw [← ew8]
    have xd : Ext w6 w8 := ew8 ▸ Ext.drew w6
    replace oO := oO.ext xd
    replace hs := hs.ext xd
    replace bY := bY.ext xd
    replace X := Ext.trans X xd; clear xd ew8
    refine wi_take 0 rfl (by kernel_rfl) rfl (by kernel_rfl) (listed' := #[true, false, false, false, false, false, false, false, false, false, false, false, false, false, false, false]) rfl (fun wq sq => ow_move rfl ⟨rfl, rfl⟩) ?_
    refine wi_take 1 rfl (by kernel_rfl) rfl (by kernel_rfl) (listed' := #[true, true, false, false, false, false, false, false, false, false, false, false, false, false, false, false]) rfl (fun wq sq => ow_fieldAddrB off46_0 rfl rfl ⟨rfl, rfl⟩) ?_
    refine wi_take 2 rfl (by kernel_rfl) rfl (by kernel_rfl) (listed' := #[true, true, true, false, false, false, false, false, false, false, false, false, false, false, false, false]) rfl (fun wq sq => ow_loadB sq ti2 rfl rfl ⟨rfl, rfl⟩) ?_
    refine wi_take 3 rfl (by kernel_rfl) rfl (by kernel_rfl) (listed' := #[true, true, true, true, false, false, false, false, false, false, false, false, false, false, false, false]) rfl (fun wq sq => ow_mul rfl rfl (w64 (by omega)) ⟨rfl, rfl⟩) ?_
    refine wi_take 4 rfl (by kernel_rfl) rfl (by kernel_rfl) (listed' := #[true, true, true, true, true, false, false, false, false, false, false, false, false, false, false, false]) rfl (fun wq sq => ow_fieldAddrB off46_1 rfl rfl ⟨rfl, rfl⟩) ?_
    refine wi_take 5 rfl (by kernel_rfl) rfl (by kernel_rfl) (listed' := #[true, true, true, true, true, true, false, false, false, false, false, false, false, false, false, false]) rfl (fun wq sq => ow_loadB sq ti2 rfl rfl ⟨rfl, rfl⟩) ?_
    refine wi_take 6 rfl (by kernel_rfl) rfl (by kernel_rfl) (listed' := #[true, true, true, true, true, true, true, false, false, false, false, false, false, false, false, false]) rfl (fun wq sq => ow_add rfl rfl (w64 (by omega)) ⟨rfl, rfl⟩) ?_
    refine wi_take 7 rfl (by kernel_rfl) rfl (by kernel_rfl) (listed' := #[true, true, true, true, true, true, true, true, false, false, false, false, false, false, false, false]) rfl (fun wq sq => ow_fieldAddrB off46_2 rfl rfl ⟨rfl, rfl⟩) ?_
    refine wi_take 8 rfl (by kernel_rfl) rfl (by kernel_rfl) (listed' := #[true, true, true, true, true, true, true, true, true, false, false, false, false, false, false, false]) rfl (fun wq sq => ow_loadB sq ti2 rfl rfl ⟨rfl, rfl⟩) ?_
    refine wi_take 11 rfl (by kernel_rfl) rfl (by kernel_rfl) (listed' := #[true, true, true, true, true, true, true, true, true, false, false, true, false, false, false, false]) rfl (fun wq sq => ow_fieldAddrB off46_3 rfl rfl ⟨rfl, rfl⟩) ?_
    refine wi_take 12 rfl (by kernel_rfl) rfl (by kernel_rfl) (listed' := #[true, true, true, true, true, true, true, true, true, false, false, true, true, false, false, false]) rfl (fun wq sq => ow_loadAB sq ti39 rfl rfl ⟨rfl, rfl⟩) ?_
    refine wi_one 9 rfl rfl (by kernel_rfl) (listed' := #[true, true, true, true, true, true, true, true, true, true, false, true, true, false, false, false]) rfl bY (ow_buildSlice el26 ti2 rfl rfl rfl rfl rfl ?_)
    intro gS w10 egS oS bbgS x9 zgS
    replace oS := Own.low oS X.size
    replace oO := oO.ext x9
    replace hs := hs.ext x9
    replace bY := bY.ext x9
    replace X := Ext.trans X x9; clear x9
    refine wi_one 10 rfl rfl (by kernel_rfl) (listed' := #[true, true, true, true, true, true, true, true, true, true, true, true, true, false, false, false]) rfl bY (ow_append (ts := #[]) oO X.size oS.sl (by first | rfl | simp) (by first | exact List.all_eq_true.1 rfl | simp [Value.oneCell']) el26 ti2 rfl rfl rfl rfl (by omega) (by omega) ?_)
    intro AoM coM w12 oM hg11
    replace hs := hs.grown hg11 (fun g hg => Nat.le_trans Bhs (Own.lt oO hg).1)
    replace bY := bY.grown hg11 (fun h => Own.neT oO bY (by decide) h.symm)
    replace X := X.grown hg11 X.size (fun g hg => (Own.lt oO hg).1)
    clear hg11
    refine wi_one 13 rfl rfl (by kernel_rfl) (listed' := #[true, true, true, true, true, true, true, true, true, true, true, true, true, true, false, false]) rfl bY (ow_call ent81 rfl (ret_mono (descBytes_c _ _ hd) ?_))
    rintro _ w14 ⟨A15, c16, rfl, oD, x13⟩
    replace oD := Own.low oD X.size
    replace hs := hs.ext x13
    replace bY := bY.ext x13
    replace oM := oM.ext x13
    replace X := Ext.trans X x13; clear x13
    refine wi_one 14 rfl rfl (by kernel_rfl) (listed' := #[true, true, true, true, true, true, true, true, true, true, true, true, true, true, true, false]) rfl bY (ow_append (ts := #[]) oM X.size oD.sl (by simp [descB, eI]) (by simp [descB, eI, Value.oneCell']) el26 ti2 rfl rfl rfl rfl (by omega) (by omega) ?_)
    intro AoN coN w18 oN hg17
    replace hs := hs.grown hg17 (fun g hg => Nat.le_trans Bhs (Own.lt oM hg).1)
    replace bY := bY.grown hg17 (fun h => Own.neT oM bY (by decide) h.symm)
    replace X := X.grown hg17 X.size (fun g hg => (Own.lt oM hg).1)
    clear hg17
    refine wi_take 15 rfl (by kernel_rfl) rfl (by kernel_rfl) (listed' := #[true, true, true, true, true, true, true, true, true, true, true, true, true, true, true, true]) rfl (fun wq sq => ow_assign rfl ⟨rfl, rfl⟩) ?_
    refine wi_done rfl bY (fun aj fj => ⟨_, fj, ?_⟩)
    refine bq_n ?_
    refine tq_n ?_
    refine c_region ?_
    refine ops_cons rfl (ow_add rfl rfl (w64 (by omega)) ?_)
    refine ops_cons rfl (ow_move rfl ?_)
    refine ops_nil ?_
    refine tq_n ⟨(k + 1, n1 + 2 + 5, AoN, coN), (.cons rfl (.cons rfl (.cons rfl (.cons rfl (.cons rfl (.nil _)))))), ?_, ?_⟩
    · exact ⟨by omega, by omega, oN.to (stP_step hx).symm, hs, X⟩
    · first | omega | (dsimp only; omega)
  · skip
    refine ops_nil ?_
    refine c_seq ?_
    refine c_false rfl ?_
    refine c_exit ?_
    refine tq_e ?_
    refine tq_e ?_
    refine bq_e ?_
    refine tq_n ?_
    refine c_seqR ?_
    refine ops_cons rfl (ow_move rfl ?_)
    refine ops_cons rfl (ow_assign rfl ?_)
    refine ops_nil ?_
    refine c_ret ?_
    refine fin_ret1 rfl rfl ?_
    rw [show k = xs.length by omega] at oO hn
    subst hn
    exact ⟨_, _, rfl, oO, X⟩
end Go.Proofs.Ytojgfbbdjobdnaa
