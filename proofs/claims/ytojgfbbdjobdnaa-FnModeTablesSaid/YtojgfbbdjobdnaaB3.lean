/- Bytes of mode tables. No condition. -/
import Derived.Test.YtojgfbbdjobdnaaE2
namespace Go.Proofs.Ytojgfbbdjobdnaa
open Go.RowKit
set_option linter.unusedVariables false
set_option linter.unusedSimpArgs false
set_option maxRecDepth 20000
def modeB (x : Mode) : List Int := [x.rounds, x.slots, (x.next.length : Int)] ++ x.next
def mtP (ms : List Mode) (k : Nat) : List Int := (ms.length : Int) :: (ms.take k).flatMap modeB
def resT (ms : List Mode) : List Int × Int := if isMT ms = true then (mtP ms ms.length, 0) else ([], 1)
theorem one_eI : ∀ (xs : List Int), ∀ u ∈ xs.flatMap eI, u.oneCell' = true := fun xs u hu => by
  obtain ⟨x, _, h⟩ := List.mem_flatMap.1 hu
  have : u = .int .i64 x := by simpa [eI] using h
  subst this; rfl
theorem mtP_step {xs : List ModeI} {k : Nat} {x : ModeI} (h : xs[k]? = some x) : (mtP (xs.map (·.m)) (k + 1)).flatMap eI = ((mtP (xs.map (·.m)) k).flatMap eI ++ (eI x.m.rounds ++ eI x.m.slots ++ eI (x.m.next.length : Nat))) ++ x.m.next.flatMap eI := by
  unfold mtP
  rw [List.take_add_one, map_at (f := (·.m)) h]
  simp [List.flatMap_append, modeB]
theorem mtP_len {xs : List ModeI} {k : Nat} {x : ModeI} (h : xs[k]? = some x) : (mtP (xs.map (·.m)) (k + 1)).length = (mtP (xs.map (·.m)) k).length + 3 + x.m.next.length := by
  unfold mtP
  rw [List.take_add_one, map_at (f := (·.m)) h]
  simp [List.flatMap_append, modeB]; omega
theorem rises_len {n : Int} : ∀ (l : List Int) (y : Int), risesFrom n (some y) l = true → (l.length : Int) ≤ max 0 (n - 1 - y)
  | [], y, _ => by simp; omega
  | x :: r, y, h => by
    simp only [risesFrom, Bool.and_eq_true, decide_eq_true_eq] at h
    have h1 := inB_iff.1 h.1.1
    have h2 := rises_len r x h.2
    simp only [List.length_cons]; omega
theorem risesB_len {n : Int} {l : List Int} (h : risesB l n = true) : (l.length : Int) ≤ max 0 n := by
  unfold risesB at h
  cases l with
  | nil => simp; omega
  | cons x r =>
    simp only [risesFrom, Bool.and_eq_true] at h
    have h1 := inB_iff.1 h.1
    have h2 := rises_len r x h.2
    simp only [List.length_cons]; omega
theorem flat_le {f : Mode → List Int} {b : Nat} : ∀ (l : List Mode), (∀ x ∈ l, (f x).length ≤ b) → (l.flatMap f).length ≤ b * l.length
  | [], _ => by simp
  | x :: r, h => by
    have h1 := h x (by simp)
    have h2 := flat_le r (fun y hy => h y (by simp [hy]))
    rw [List.flatMap_cons, List.length_append, List.length_cons, Nat.mul_succ]; omega
theorem resT_len (ms : List Mode) : (resT ms).1.length ≤ 1048576 := by
  unfold resT
  split
  · rename_i hT
    have h1 := isMT_len hT
    have h2 := flat_le (f := modeB) (b := 19) ms (fun x hx => by
      obtain ⟨k, hk⟩ := List.mem_iff_getElem?.1 hx
      have h3 := risesB_len (modeOk_in (isMT_at hT hk)).2.2
      simp [modeB]; omega)
    show (mtP ms ms.length).length ≤ _
    unfold mtP
    rw [List.take_length, List.length_cons]
    have : 19 * ms.length ≤ 19 * 16 := Nat.mul_le_mul_left _ h1.2
    omega
  · simp
theorem l11Bytes_c (A : Option Addr) (B B2 c : Nat) (xs : List ModeI) (w : World) (hs : Sl B w A (xs.flatMap ModeI.cells)) (hn : Nexts B2 w xs) (hl : xs.length ≤ 1048576) (hz : ∀ x ∈ xs, x.m.next.length ≤ 1048576) :
    Calls Try.prog 42 #[.slice A xs.length c] w (Ret fun v w' => ∃ A' c', v = .slice A' (mtP (xs.map (·.m)) xs.length).length c' ∧ Own w' w.heap.size 2 1 A' (mtP (xs.map (·.m)) xs.length).length c' ((mtP (xs.map (·.m)) xs.length).flatMap eI) ∧ Ext w w') := by
  have Bhs := hs.1
  have Bhn := hn.1
  have X := Ext.refl w
  refine calls_of (args := [.slice A xs.length c]) Try.func42 Try.ntmps42 rfl rfl ?_
  refine c_seqR ?_
  refine ops_cons rfl (ow_assign rfl ?_)
  refine ops_nil ?_
  refine c_seqR ?_
  refine ops_cons rfl (ow_move rfl ?_)
  refine ops_cons rfl (ow_len Try.underlying24 rfl ?_)
  refine ops_cons rfl (ow_buildSlice el26 ti2 rfl rfl rfl rfl rfl ?_)
  intro gO w2 egO oO bbgO x1 zgO
  replace oO := Own.low oO X.size
  replace hs := hs.ext x1
  replace hn := hn.ext x1
  replace X := Ext.trans X x1; clear x1
  replace oO := oO.to (cs' := (mtP (xs.map (·.m)) 0).flatMap eI) (by simp [mtP, eI, repL])
  refine ops_cons rfl (ow_assign rfl ?_)
  refine ops_nil ?_
  refine c_seq ?_
  refine c_seqR ?_
  refine ops_cons rfl (ow_assign rfl ?_)
  refine ops_nil ?_
  refine c_block ?_
  refine c_loop (G := Nat × Nat × Option Addr × Nat) (fun ⟨k, n1, A1, c1⟩ => [(0, .slice A xs.length c), (2, .slice none 0 0), (3, .slice A1 n1 c1), (4, .int .i64 (k : Nat))]) (fun ⟨k, n1, A1, c1⟩ wr => k ≤ xs.length ∧ n1 = (mtP (xs.map (·.m)) k).length ∧ n1 ≤ 1 + 1048579 * k ∧ Own wr w.heap.size 2 1 A1 n1 c1 ((mtP (xs.map (·.m)) k).flatMap eI) ∧ Sl B wr A (xs.flatMap ModeI.cells) ∧ Nexts B2 wr xs ∧ Ext w wr) (fun ⟨k, n1, A1, c1⟩ => xs.length - k) (0, 1, some ⟨gO, 0, none⟩, 1) (.cons rfl (.cons rfl (.cons rfl (.cons rfl (.nil _))))) ?_ ?_
  · exact ⟨by omega, rfl, by omega, oO, hs, hn, X⟩
  clear hs hn oO
  clear X
  rintro ⟨k, n1, A1, c1⟩ wr ⟨hk0, hn1, hb, oO, hs, hn, X⟩
  refine c_seq ?_
  refine c_seqR ?_
  refine ops_cons rfl (ow_move rfl ?_)
  refine ops_cons rfl (ow_move rfl ?_)
  refine ops_cons rfl (ow_len Try.underlying24 rfl ?_)
  refine ops_cons rfl (ow_lss2 rfl rfl (fun hk => ?_) (fun hk => ?_))
  · skip
    obtain ⟨x, hx, dx⟩ := drop_at' hk
    refine ops_nil ?_
    refine c_true rfl ?_
    refine c_skip ?_
    refine tq_n ?_
    refine c_seq ?_
    refine c_block ?_
    refine c_seqD [false, false, false, false, false, false, false, false, false, false, false, false, false, false, false, false, false, true] mixed (by kernel_rfl) ?_
    refine f_q rfl (fun wq sq => ow_move rfl ⟨rfl, Ext.refl _⟩) ?_
    refine f_q rfl (fun wq sq => ow_move rfl ⟨rfl, Ext.refl _⟩) ?_
    refine f_q rfl (fun wq sq => ow_move rfl ⟨rfl, Ext.refl _⟩) ?_
    refine f_q rfl (fun wq sq => ow_indexT (hs.ext sq) ModeI.len rfl el24 rfl rfl rfl hx rfl ⟨rfl, Ext.refl _⟩) ?_
    have hnx := hn.at_ hx
    have hlx := hz x (List.mem_of_getElem? hx)
    refine f_q rfl (fun wq sq => ow_fieldAddr off71_0 rfl ⟨rfl, Ext.refl _⟩) ?_
    refine f_q rfl (fun wq sq => ow_loadTF (hs.ext sq) ModeI.len hx ti2 rfl rfl rfl ⟨rfl, Ext.refl _⟩) ?_
    refine f_q rfl (fun wq sq => ow_move rfl ⟨rfl, Ext.refl _⟩) ?_
    refine f_q rfl (fun wq sq => ow_move rfl ⟨rfl, Ext.refl _⟩) ?_
    refine f_q rfl (fun wq sq => ow_indexT (hs.ext sq) ModeI.len rfl el24 rfl rfl rfl hx rfl ⟨rfl, Ext.refl _⟩) ?_
    refine f_q rfl (fun wq sq => ow_fieldAddr off71_1 rfl ⟨rfl, Ext.refl _⟩) ?_
    refine f_q rfl (fun wq sq => ow_loadTF (hs.ext sq) ModeI.len hx ti2 rfl rfl rfl ⟨rfl, Ext.refl _⟩) ?_
    refine f_q rfl (fun wq sq => ow_move rfl ⟨rfl, Ext.refl _⟩) ?_
    refine f_q rfl (fun wq sq => ow_move rfl ⟨rfl, Ext.refl _⟩) ?_
    refine f_q rfl (fun wq sq => ow_indexT (hs.ext sq) ModeI.len rfl el24 rfl rfl rfl hx rfl ⟨rfl, Ext.refl _⟩) ?_
    refine f_q rfl (fun wq sq => ow_fieldAddr off71_2 rfl ⟨rfl, Ext.refl _⟩) ?_
    refine f_q rfl (fun wq sq => ow_loadTF (hs.ext sq) ModeI.len hx ti26 rfl rfl rfl ⟨rfl, Ext.refl _⟩) ?_
    refine f_q rfl (fun wq sq => ow_len Try.underlying26 rfl ⟨rfl, Ext.refl _⟩) ?_
    refine f_op (fun gS : Nat => Value.slice (some ⟨gS, 0, none⟩) 3 3) (fun gS wz => Own wz w.heap.size 2 1 (some ⟨gS, 0, none⟩) 3 3 (eI x.m.rounds ++ eI x.m.slots ++ eI (x.m.next.length : Nat))) 0 rfl ⟨inj_own, fun _ _ _ h k => h.ext k, fun wq sq => ow_buildSlice el26 ti2 rfl rfl rfl rfl rfl (fun g w' hg ho hb hx hz => ⟨g, rfl, Own.low ho (Nat.le_trans X.size (sq).size), hx⟩)⟩ ?_
    intro gS
    refine f_nil (fun w3 sq => ?_)
    have xq := sq.1
    have oS := sq.2
    replace oO := oO.ext xq
    replace hs := hs.ext xq
    replace hn := hn.ext xq
    replace hnx := hnx.ext xq
    replace X := Ext.trans X xq; clear xq sq
    refine ops_cons rfl (ow_append (ts := #[]) oO X.size oS.sl (by first | rfl | simp) (by first | exact List.all_eq_true.1 rfl | simp [Value.oneCell']) el26 ti2 rfl rfl rfl rfl (by omega) (by omega) ?_)
    intro AoM coM w5 oM hg4
    replace hs := hs.grown hg4 (fun g hg => Nat.le_trans Bhs (Own.lt oO hg).1)
    replace hn := hn.grown hg4 (fun g hg => Nat.le_trans Bhn (Own.lt oO hg).1)
    replace hnx := hnx.grown hg4 (fun g hg => Nat.le_trans Bhn (Own.lt oO hg).1)
    replace X := X.grown hg4 X.size (fun g hg => (Own.lt oO hg).1)
    clear hg4
    refine ops_cons rfl (ow_assign rfl ?_)
    refine ops_nil ?_
    refine c_region ?_
    refine ops_cons rfl (ow_move rfl ?_)
    refine ops_cons rfl (ow_move rfl ?_)
    refine ops_cons rfl (ow_move rfl ?_)
    refine ops_cons rfl (ow_indexT hs ModeI.len rfl el24 rfl rfl rfl hx rfl ?_)
    refine ops_cons rfl (ow_fieldAddr off71_2 rfl ?_)
    refine ops_cons rfl (ow_loadTF hs ModeI.len hx ti26 rfl rfl rfl ?_)
    refine ops_cons rfl (ow_append (ts := #[]) oM X.size hnx (flat_len eI_len _) (one_eI _) el26 ti2 rfl rfl rfl rfl (by omega) (by omega) ?_)
    intro AoN coN w7 oN hg6
    replace hs := hs.grown hg6 (fun g hg => Nat.le_trans Bhs (Own.lt oM hg).1)
    replace hn := hn.grown hg6 (fun g hg => Nat.le_trans Bhn (Own.lt oM hg).1)
    replace hnx := hnx.grown hg6 (fun g hg => Nat.le_trans Bhn (Own.lt oM hg).1)
    replace X := X.grown hg6 X.size (fun g hg => (Own.lt oM hg).1)
    clear hg6
    refine ops_cons rfl (ow_assign rfl ?_)
    refine ops_nil ?_
    refine bq_n ?_
    refine tq_n ?_
    refine c_region ?_
    refine ops_cons rfl (ow_move rfl ?_)
    refine ops_cons rfl (ow_add rfl rfl (w64 (by omega)) ?_)
    refine ops_cons rfl (ow_assign rfl ?_)
    refine ops_nil ?_
    refine tq_n ⟨(k + 1, n1 + 3 + x.m.next.length, AoN, coN), (.cons rfl (.cons rfl (.cons rfl (.cons rfl (.nil _))))), ?_, ?_⟩
    · exact ⟨by omega, (by rw [mtP_len hx]; omega), by omega, oN.to (mtP_step hx).symm, hs, hn, X⟩
    · first | omega | (dsimp only; omega)
  · skip
    refine ops_nil ?_
    refine c_false rfl ?_
    refine c_exit ?_
    refine tq_e ?_
    refine tq_e ?_
    refine bq_e ?_
    refine tq_n ?_
    refine c_seqR ?_
    refine ops_cons rfl (ow_move rfl ?_)
    refine ops_cons rfl (ow_assign rfl ?_)
    refine ops_nil ?_
    refine c_ret ?_
    refine fin_ret1 rfl rfl ?_
    rw [show k = xs.length by omega] at oO hn1
    rw [← hn1]
    exact ⟨_, _, rfl, oO, X⟩

theorem modeTableBytes_c (A : Option Addr) (B B2 c : Nat) (xs : List ModeI) (w : World) (hs : Sl B w A (xs.flatMap ModeI.cells)) (hn : Nexts B2 w xs) (hl : xs.length ≤ 1048576) (hz : ∀ x ∈ xs, x.m.next.length ≤ 1048576) :
    Calls Try.prog 41 #[.slice A xs.length c] w (Ret fun v w' => ∃ A' c', v = .slice A' (mtP (xs.map (·.m)) xs.length).length c' ∧ Own w' w.heap.size 2 1 A' (mtP (xs.map (·.m)) xs.length).length c' ((mtP (xs.map (·.m)) xs.length).flatMap eI) ∧ Ext w w') := by
  have Bhs := hs.1
  have Bhn := hn.1
  have X := Ext.refl w
  refine calls_of (args := [.slice A xs.length c]) Try.func41 Try.ntmps41 rfl rfl ?_
  refine c_seqR ?_
  refine ops_cons rfl (ow_assign rfl ?_)
  refine ops_nil ?_
  refine c_seqR ?_
  refine ops_cons rfl (ow_move rfl ?_)
  refine ops_cons rfl (ow_len Try.underlying24 rfl ?_)
  refine ops_cons rfl (ow_buildSlice el26 ti2 rfl rfl rfl rfl rfl ?_)
  intro gO w2 egO oO bbgO x1 zgO
  replace oO := Own.low oO X.size
  replace hs := hs.ext x1
  replace hn := hn.ext x1
  replace X := Ext.trans X x1; clear x1
  replace oO := oO.to (cs' := (mtP (xs.map (·.m)) 0).flatMap eI) (by simp [mtP, eI, repL])
  refine ops_cons rfl (ow_assign rfl ?_)
  refine ops_nil ?_
  refine c_seq ?_
  refine c_seqR ?_
  refine ops_cons rfl (ow_move rfl ?_)
  refine ops_cons rfl (ow_len Try.underlying24 rfl ?_)
  refine ops_cons rfl (ow_move rfl ?_)
  refine ops_nil ?_
  refine c_block ?_
  refine c_loop (G := Nat × Nat × Option Addr × Nat) (fun ⟨k, n1, A1, c1⟩ => [(2, .slice none 0 0), (9, .slice A xs.length c), (10, .int .i64 (xs.length : Nat)), (3, .slice A1 n1 c1), (11, .int .i64 (k : Nat))]) (fun ⟨k, n1, A1, c1⟩ wr => k ≤ xs.length ∧ n1 = (mtP (xs.map (·.m)) k).length ∧ n1 ≤ 1 + 1048579 * k ∧ Own wr w.heap.size 2 1 A1 n1 c1 ((mtP (xs.map (·.m)) k).flatMap eI) ∧ Sl B wr A (xs.flatMap ModeI.cells) ∧ Nexts B2 wr xs ∧ Ext w wr) (fun ⟨k, n1, A1, c1⟩ => xs.length - k) (0, 1, some ⟨gO, 0, none⟩, 1) (.cons rfl (.cons rfl (.cons rfl (.cons rfl (.cons rfl (.nil _)))))) ?_ ?_
  · exact ⟨by omega, rfl, by omega, oO, hs, hn, X⟩
  clear hs hn oO
  clear X
  rintro ⟨k, n1, A1, c1⟩ wr ⟨hk0, hn1, hb, oO, hs, hn, X⟩
  refine c_seqR ?_
  refine ops_cons rfl (ow_lss2 rfl rfl (fun hk => ?_) (fun hk => ?_))
  · skip
    obtain ⟨x, hx, dx⟩ := drop_at' hk
    refine ops_nil ?_
    refine c_seq ?_
    refine c_true rfl ?_
    refine c_skip ?_
    refine tq_n ?_
    refine c_seq ?_
    refine c_block ?_
    refine c_seqR ?_
    refine ops_cons rfl (ow_indexT hs ModeI.len rfl el24 rfl rfl rfl hx rfl ?_)
    have hnx := hn.at_ hx
    have hlx := hz x (List.mem_of_getElem? hx)
    refine ops_cons rfl (ow_loadTA hs ModeI.len hx ti71 rfl ?_)
    refine ops_cons rfl (ow_alloc ti71 ?_)
    intro gX w4 egX bX x3 zgX
    have lgX : w.heap.size ≤ gX := Nat.le_trans X.size (Nat.le_of_eq egX.symm)
    have pgXhs := Nat.le_trans hs.1 (Nat.le_of_eq egX.symm)
    have pgXhn := Nat.le_trans hn.1 (Nat.le_of_eq egX.symm)
    have pgXhnx := Nat.le_trans hnx.1 (Nat.le_of_eq egX.symm)
    replace oO := oO.ext x3
    replace hs := hs.ext x3
    replace hn := hn.ext x3
    replace hnx := hnx.ext x3
    replace X := Ext.trans X x3; clear x3
    refine ops_cons rfl (ow_storeB bX ti71 rfl rfl rfl rfl rfl rfl ?_)
    intro w6 bY hg5 z7
    replace oO := oO.grownBlk hg5 (Own.neT oO bX (by decide))
    replace hs := hs.grown hg5 (by intro g hg; injection hg; omega)
    replace hn := hn.grown hg5 (by intro g hg; injection hg; omega)
    replace hnx := hnx.grown hg5 (by intro g hg; injection hg; omega)
    replace X := X.grown hg5 X.size (by intro g hg; injection hg; omega)
    clear hg5 bX
    refine ops_nil ?_
    refine c_regI (fun wz => Blk wz gX 71 x.cells) mixed ?_
    obtain ⟨w8, ew8⟩ : ∃ wy, wy = World.drew w6 := ⟨_, rfl⟩
    rw [← ew8]
    have xd : Ext w6 w8 := ew8 ▸ Ext.drew w6
    replace oO := oO.ext xd
    replace hs := hs.ext xd
    replace hn := hn.ext xd
    replace hnx := hnx.ext xd
    replace bY := bY.ext xd
    replace X := Ext.trans X xd; clear xd ew8
    refine wi_take 0 rfl (by kernel_rfl) rfl (by kernel_rfl) (listed' := #[true, false, false, false, false, false, false, false, false, false, false, false, false, false]) rfl (fun wq sq => ow_move rfl ⟨rfl, rfl⟩) ?_
    refine wi_take 1 rfl (by kernel_rfl) rfl (by kernel_rfl) (listed' := #[true, true, false, false, false, false, false, false, false, false, false, false, false, false]) rfl (fun wq sq => ow_fieldAddrB off71_0 rfl rfl ⟨rfl, rfl⟩) ?_
    refine wi_take 2 rfl (by kernel_rfl) rfl (by kernel_rfl) (listed' := #[true, true, true, false, false, false, false, false, false, false, false, false, false, false]) rfl (fun wq sq => ow_loadB sq ti2 rfl rfl ⟨rfl, rfl⟩) ?_
    refine wi_take 3 rfl (by kernel_rfl) rfl (by kernel_rfl) (listed' := #[true, true, true, true, false, false, false, false, false, false, false, false, false, false]) rfl (fun wq sq => ow_fieldAddrB off71_1 rfl rfl ⟨rfl, rfl⟩) ?_
    refine wi_take 4 rfl (by kernel_rfl) rfl (by kernel_rfl) (listed' := #[true, true, true, true, true, false, false, false, false, false, false, false, false, false]) rfl (fun wq sq => ow_loadB sq ti2 rfl rfl ⟨rfl, rfl⟩) ?_
    refine wi_take 5 rfl (by kernel_rfl) rfl (by kernel_rfl) (listed' := #[true, true, true, true, true, true, false, false, false, false, false, false, false, false]) rfl (fun wq sq => ow_fieldAddrB off71_2 rfl rfl ⟨rfl, rfl⟩) ?_
    refine wi_take 6 rfl (by kernel_rfl) rfl (by kernel_rfl) (listed' := #[true, true, true, true, true, true, true, false, false, false, false, false, false, false]) rfl (fun wq sq => ow_loadB sq ti26 rfl rfl ⟨rfl, rfl⟩) ?_
    refine wi_take 7 rfl (by kernel_rfl) rfl (by kernel_rfl) (listed' := #[true, true, true, true, true, true, true, true, false, false, false, false, false, false]) rfl (fun wq sq => ow_len Try.underlying26 rfl ⟨rfl, rfl⟩) ?_
    refine wi_take 10 rfl (by kernel_rfl) rfl (by kernel_rfl) (listed' := #[true, true, true, true, true, true, true, true, false, false, true, false, false, false]) rfl (fun wq sq => ow_fieldAddrB off71_2 rfl rfl ⟨rfl, rfl⟩) ?_
    refine wi_take 11 rfl (by kernel_rfl) rfl (by kernel_rfl) (listed' := #[true, true, true, true, true, true, true, true, false, false, true, true, false, false]) rfl (fun wq sq => ow_loadB sq ti26 rfl rfl ⟨rfl, rfl⟩) ?_
    refine wi_one 8 rfl rfl (by kernel_rfl) (listed' := #[true, true, true, true, true, true, true, true, true, false, true, true, false, false]) rfl bY (ow_buildSlice el26 ti2 rfl rfl rfl rfl rfl ?_)
    intro gS w10 egS oS bbgS x9 zgS
    replace oS := Own.low oS X.size
    replace oO := oO.ext x9
    replace hs := hs.ext x9
    replace hn := hn.ext x9
    replace hnx := hnx.ext x9
    replace bY := bY.ext x9
    replace X := Ext.trans X x9; clear x9
    refine wi_one 9 rfl rfl (by kernel_rfl) (listed' := #[true, true, true, true, true, true, true, true, true, true, true, true, false, false]) rfl bY (ow_append (ts := #[]) oO X.size oS.sl (by first | rfl | simp) (by first | exact List.all_eq_true.1 rfl | simp [Value.oneCell']) el26 ti2 rfl rfl rfl rfl (by omega) (by omega) ?_)
    intro AoM coM w12 oM hg11
    replace hs := hs.grown hg11 (fun g hg => Nat.le_trans Bhs (Own.lt oO hg).1)
    replace hn := hn.grown hg11 (fun g hg => Nat.le_trans Bhn (Own.lt oO hg).1)
    replace hnx := hnx.grown hg11 (fun g hg => Nat.le_trans Bhn (Own.lt oO hg).1)
    replace bY := bY.grown hg11 (fun h => Own.neT oO bY (by decide) h.symm)
    replace X := X.grown hg11 X.size (fun g hg => (Own.lt oO hg).1)
    clear hg11
    refine wi_one 12 rfl rfl (by kernel_rfl) (listed' := #[true, true, true, true, true, true, true, true, true, true, true, true, true, false]) rfl bY (ow_append (ts := #[]) oM X.size hnx (flat_len eI_len _) (one_eI _) el26 ti2 rfl rfl rfl rfl (by omega) (by omega) ?_)
    intro AoN coN w14 oN hg13
    replace hs := hs.grown hg13 (fun g hg => Nat.le_trans Bhs (Own.lt oM hg).1)
    replace hn := hn.grown hg13 (fun g hg => Nat.le_trans Bhn (Own.lt oM hg).1)
    replace hnx := hnx.grown hg13 (fun g hg => Nat.le_trans Bhn (Own.lt oM hg).1)
    replace bY := bY.grown hg13 (fun h => Own.neT oM bY (by decide) h.symm)
    replace X := X.grown hg13 X.size (fun g hg => (Own.lt oM hg).1)
    clear hg13
    refine wi_take 13 rfl (by kernel_rfl) rfl (by kernel_rfl) (listed' := #[true, true, true, true, true, true, true, true, true, true, true, true, true, true]) rfl (fun wq sq => ow_assign rfl ⟨rfl, rfl⟩) ?_
    refine wi_done rfl bY (fun aj fj => ⟨_, fj, ?_⟩)
    refine bq_n ?_
    refine tq_n ?_
    refine c_region ?_
    refine ops_cons rfl (ow_add rfl rfl (w64 (by omega)) ?_)
    refine ops_cons rfl (ow_move rfl ?_)
    refine ops_nil ?_
    refine tq_n ⟨(k + 1, n1 + 3 + x.m.next.length, AoN, coN), (.cons rfl (.cons rfl (.cons rfl (.cons rfl (.cons rfl (.nil _)))))), ?_, ?_⟩
    · exact ⟨by omega, (by rw [mtP_len hx]; omega), by omega, oN.to (mtP_step hx).symm, hs, hn, X⟩
    · first | omega | (dsimp only; omega)
  · skip
    refine ops_nil ?_
    refine c_seq ?_
    refine c_false rfl ?_
    refine c_exit ?_
    refine tq_e ?_
    refine tq_e ?_
    refine bq_e ?_
    refine tq_n ?_
    refine c_seqR ?_
    refine ops_cons rfl (ow_move rfl ?_)
    refine ops_cons rfl (ow_assign rfl ?_)
    refine ops_nil ?_
    refine c_ret ?_
    refine fin_ret1 rfl rfl ?_
    rw [show k = xs.length by omega] at oO hn1
    rw [← hn1]
    exact ⟨_, _, rfl, oO, X⟩

theorem sMTB_c (A : Option Addr) (B B2 c : Nat) (xs : List ModeI) (w : World) (hs : Sl B w A (xs.flatMap ModeI.cells)) (hn : Nexts B2 w xs) (hl : xs.length ≤ 1048576) (hz : ∀ x ∈ xs, x.m.next.length ≤ 1048576) :
    Calls Try.prog 10 #[.slice A xs.length c] w (Ret fun v w' => ∃ A' c', v = .tuple #[.slice A' (resT (xs.map (·.m))).1.length c', .int .i64 (resT (xs.map (·.m))).2] ∧ Own w' w.heap.size 2 1 A' (resT (xs.map (·.m))).1.length c' ((resT (xs.map (·.m))).1.flatMap eI) ∧ Ext w w') := by
  have Bhs := hs.1
  have Bhn := hn.1
  have X := Ext.refl w
  refine calls_of (args := [.slice A xs.length c]) Try.func10 Try.ntmps10 rfl rfl ?_
  refine c_seqR ?_
  refine ops_cons rfl (ow_assign rfl ?_)
  refine ops_cons rfl (ow_assign rfl ?_)
  refine ops_nil ?_
  refine c_seq ?_
  refine c_seqR ?_
  refine ops_cons rfl (ow_move rfl ?_)
  refine ops_cons rfl (ow_callB ent17 rfl (sIsMT_c _ _ _ _ _ _ hs hn hl hz) (fun w2 hT x1 => ?_) (fun w2 hT x1 => ?_))
  · skip
    replace hs := hs.ext x1
    replace hn := hn.ext x1
    replace X := Ext.trans X x1; clear x1
    refine ops_cons rfl (ow_not rfl ?_)
    refine ops_nil ?_
    refine c_false rfl ?_
    refine c_skip ?_
    refine tq_n ?_
    refine c_seqR ?_
    refine ops_cons rfl (ow_move rfl ?_)
    refine ops_cons rfl (ow_call ent42 rfl (ret_mono (l11Bytes_c _ _ _ _ _ _ hs hn hl hz) ?_))
    rintro _ w4 ⟨A5, c6, rfl, oR, x3⟩
    replace oR := Own.low oR X.size
    replace hs := hs.ext x3
    replace hn := hn.ext x3
    replace X := Ext.trans X x3; clear x3
    refine ops_cons rfl (ow_assign rfl ?_)
    refine ops_cons rfl (ow_assign rfl ?_)
    refine ops_nil ?_
    refine c_ret ?_
    refine fin_ret2 rfl rfl rfl ?_
    first
    | (have e : resT (xs.map (·.m)) = ([], 1) := by rw [resT, if_neg (by simp [hT])]
       rw [e]; exact ⟨none, 0, rfl, Own.nil_ _ _ _ _, X⟩)
    | (have e : resT (xs.map (·.m)) = (mtP (xs.map (·.m)) xs.length, 0) := by rw [resT, if_pos hT, List.length_map]
       rw [e]; exact ⟨_, _, rfl, oR, X⟩)
  · skip
    replace hs := hs.ext x1
    replace hn := hn.ext x1
    replace X := Ext.trans X x1; clear x1
    refine ops_cons rfl (ow_not rfl ?_)
    refine ops_nil ?_
    refine c_true rfl ?_
    refine c_seqR ?_
    refine ops_cons rfl (ow_assign rfl ?_)
    refine ops_cons rfl (ow_assign rfl ?_)
    refine ops_nil ?_
    refine c_ret ?_
    refine tq_r ?_
    refine fin_ret2 rfl rfl rfl ?_
    first
    | (have e : resT (xs.map (·.m)) = ([], 1) := by rw [resT, if_neg (by simp [hT])]
       rw [e]; exact ⟨none, 0, rfl, Own.nil_ _ _ _ _, X⟩)
    | (have e : resT (xs.map (·.m)) = (mtP (xs.map (·.m)) xs.length, 0) := by rw [resT, if_pos hT, List.length_map]
       rw [e]; exact ⟨_, _, rfl, oR, X⟩)

theorem iMTB_c (A : Option Addr) (B B2 c : Nat) (xs : List ModeI) (w : World) (hs : Sl B w A (xs.flatMap ModeI.cells)) (hn : Nexts B2 w xs) (hl : xs.length ≤ 1048576) (hz : ∀ x ∈ xs, x.m.next.length ≤ 1048576) :
    Calls Try.prog 9 #[.slice A xs.length c] w (Ret fun v w' => ∃ A' c', v = .tuple #[.slice A' (resT (xs.map (·.m))).1.length c', .int .i64 (resT (xs.map (·.m))).2] ∧ Own w' w.heap.size 2 1 A' (resT (xs.map (·.m))).1.length c' ((resT (xs.map (·.m))).1.flatMap eI) ∧ Ext w w') := by
  have Bhs := hs.1
  have Bhn := hn.1
  have X := Ext.refl w
  refine calls_of (args := [.slice A xs.length c]) Try.func9 Try.ntmps9 rfl rfl ?_
  refine c_seqR ?_
  refine ops_cons rfl (ow_assign rfl ?_)
  refine ops_cons rfl (ow_assign rfl ?_)
  refine ops_nil ?_
  refine c_seq ?_
  refine c_seqR ?_
  refine ops_cons rfl (ow_move rfl ?_)
  refine ops_cons rfl (ow_callB ent16 rfl (iIsMT_c _ _ _ _ _ _ hs hn hl hz) (fun w2 hT x1 => ?_) (fun w2 hT x1 => ?_))
  · skip
    replace hs := hs.ext x1
    replace hn := hn.ext x1
    replace X := Ext.trans X x1; clear x1
    refine ops_cons rfl (ow_not rfl ?_)
    refine ops_nil ?_
    refine c_false rfl ?_
    refine c_skip ?_
    refine tq_n ?_
    refine c_seqR ?_
    refine ops_cons rfl (ow_move rfl ?_)
    refine ops_cons rfl (ow_call ent41 rfl (ret_mono (modeTableBytes_c _ _ _ _ _ _ hs hn hl hz) ?_))
    rintro _ w4 ⟨A5, c6, rfl, oR, x3⟩
    replace oR := Own.low oR X.size
    replace hs := hs.ext x3
    replace hn := hn.ext x3
    replace X := Ext.trans X x3; clear x3
    refine ops_cons rfl (ow_assign rfl ?_)
    refine ops_cons rfl (ow_assign rfl ?_)
    refine ops_nil ?_
    refine c_ret ?_
    refine fin_ret2 rfl rfl rfl ?_
    first
    | (have e : resT (xs.map (·.m)) = ([], 1) := by rw [resT, if_neg (by simp [hT])]
       rw [e]; exact ⟨none, 0, rfl, Own.nil_ _ _ _ _, X⟩)
    | (have e : resT (xs.map (·.m)) = (mtP (xs.map (·.m)) xs.length, 0) := by rw [resT, if_pos hT, List.length_map]
       rw [e]; exact ⟨_, _, rfl, oR, X⟩)
  · skip
    replace hs := hs.ext x1
    replace hn := hn.ext x1
    replace X := Ext.trans X x1; clear x1
    refine ops_cons rfl (ow_not rfl ?_)
    refine ops_nil ?_
    refine c_true rfl ?_
    refine c_seqR ?_
    refine ops_cons rfl (ow_assign rfl ?_)
    refine ops_cons rfl (ow_assign rfl ?_)
    refine ops_nil ?_
    refine c_ret ?_
    refine tq_r ?_
    refine fin_ret2 rfl rfl rfl ?_
    first
    | (have e : resT (xs.map (·.m)) = ([], 1) := by rw [resT, if_neg (by simp [hT])]
       rw [e]; exact ⟨none, 0, rfl, Own.nil_ _ _ _ _, X⟩)
    | (have e : resT (xs.map (·.m)) = (mtP (xs.map (·.m)) xs.length, 0) := by rw [resT, if_pos hT, List.length_map]
       rw [e]; exact ⟨_, _, rfl, oR, X⟩)
end Go.Proofs.Ytojgfbbdjobdnaa
