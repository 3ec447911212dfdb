/- Marks written into rows and read again. No condition. -/
import Derived.Test.YtdoibplhbdkapaaD1
namespace Go.Proofs.Ytdoibplhbdkapaa
open Go.RowKit
set_option linter.unusedVariables false
set_option linter.unusedSimpArgs false
set_option maxRecDepth 20000
def seqI (m : Int) (n : Nat) : List Int := (List.range n).map fun (i : Nat) => m + i
theorem seqI_len (m : Int) (n : Nat) : (seqI m n).length = n := by simp [seqI]
theorem seqI_set {m : Int} {k : Nat} {xs : List Int} (hk : k < xs.length) : (seqI m k ++ xs.drop k).set k (m + k) = seqI m (k + 1) ++ xs.drop (k + 1) := by
  rw [List.set_append, if_neg (by simp [seqI_len]), seqI_len, Nat.sub_self, List.drop_eq_getElem_cons hk, List.set_cons_zero]
  simp [seqI, List.range_succ]
theorem seqI_at {m : Int} {k n : Nat} (h : k < n) : (seqI m n)[k]? = some (m + k) := by simp [seqI, h]
theorem seqI_at' {m : Int} {k : Nat} {xs : List Int} (hk : k < xs.length) : (seqI m k ++ xs.drop k)[k]? = some (xs[k]) := by
  rw [List.getElem?_append_right (by simp [seqI_len]), seqI_len, Nat.sub_self, List.getElem?_drop, Nat.add_zero, List.getElem?_eq_getElem hk]
theorem seqI_end {m : Int} {k : Nat} {xs : List Int} (h0 : k ≤ xs.length) (hk : ¬ (k : Int) < (xs.length : Int)) : seqI m k ++ xs.drop k = seqI m xs.length := by
  rw [drop_end hk, List.append_nil, show k = xs.length by omega]
def mkSlotI (a : Int) : SlotI := (⟨a, a + 1, a + 1 + 1, ⟨a + 1 + 1 + 1, a + 1 + 1 + 1 + 1, a + 1 + 1 + 1 + 1 + 1, a + 1 + 1 + 1 + 1 + 1 + 1, (decide (Int.tmod (a + 1 + 1 + 1 + 1 + 1 + 1 + 1) 3 = 0))⟩⟩ : SlotI)
theorem toInt_c (A : Option Addr) (B c : Nat) (xs : List Int) (w : World) (hs : Sl B w A (xs.flatMap eI)) (hl : xs.length ≤ 1048576) :
    Calls Try.prog 8 #[.slice A xs.length c] w (Ret fun v w' => ∃ A' c', v = .slice A' xs.length c' ∧ Own w' w.heap.size 2 1 A' xs.length c' (xs.flatMap eI) ∧ Ext w w') := by
  have Bhs := hs.1
  have X := Ext.refl w
  refine calls_of (args := [.slice A xs.length c]) Try.func8 Try.ntmps8 rfl rfl ?_
  refine c_seqR ?_
  refine ops_cons rfl (ow_assign rfl ?_)
  refine ops_nil ?_
  refine c_seqR ?_
  refine ops_cons rfl (ow_move rfl ?_)
  refine ops_cons rfl (ow_len Try.underlying22 rfl ?_)
  refine ops_cons rfl (ow_make el22 ti2 rfl rfl rfl rfl rfl rfl (by omega) (by omega) ?_)
  intro gO w2 egO oO x1
  replace oO := Own.low oO X.size
  replace hs := hs.ext x1
  replace X := Ext.trans X x1; clear x1
  replace oO := oO.to (cs' := (xs.take 0 ++ List.replicate (xs.length - 0) 0).flatMap eI) (by rw [List.take_zero, List.nil_append, Nat.sub_zero, ← repL_flat]; rfl)
  refine ops_cons rfl (ow_assign rfl ?_)
  refine ops_nil ?_
  refine c_seq ?_
  refine c_seqR ?_
  refine ops_cons rfl (ow_assign rfl ?_)
  refine ops_nil ?_
  refine c_block ?_
  refine c_loop (G := Nat) (fun k => [(0, .slice A xs.length c), (3, .slice (some ⟨gO, 0, none⟩) xs.length xs.length), (4, .int .i64 (k : Nat))]) (fun k wr => k ≤ xs.length ∧ Sl B wr A (xs.flatMap eI) ∧ Own wr w.heap.size 2 1 (some ⟨gO, 0, none⟩) xs.length xs.length ((xs.take k ++ List.replicate (xs.length - k) 0).flatMap eI) ∧ Ext w wr) (fun k => xs.length - k) 0 (.cons rfl (.cons rfl (.cons rfl (.nil _)))) ?_ ?_
  · exact ⟨by omega, hs, oO, X⟩
  clear hs oO
  clear X
  rintro k wr ⟨hk0, hs, oO, X⟩
  refine c_seq ?_
  refine c_seqR ?_
  refine ops_cons rfl (ow_move rfl ?_)
  refine ops_cons rfl (ow_move rfl ?_)
  refine ops_cons rfl (ow_len Try.underlying22 rfl ?_)
  refine ops_cons rfl (ow_lss2 rfl rfl (fun hk => ?_) (fun hk => ?_))
  obtain ⟨x, hx, dx⟩ := drop_at' hk
  refine ops_nil ?_
  refine c_true rfl ?_
  refine c_skip ?_
  refine tq_n ?_
  refine c_seq ?_
  refine c_block ?_
  refine c_region ?_
  refine ops_cons rfl (ow_move rfl ?_)
  refine ops_cons rfl (ow_move rfl ?_)
  refine ops_cons rfl (ow_move rfl ?_)
  refine ops_cons rfl (ow_move rfl ?_)
  refine ops_cons rfl (ow_indexT hs eI_len rfl el22 rfl rfl rfl hx rfl ?_)
  refine ops_cons rfl (ow_loadT hs eI_len hx ti2 rfl rfl rfl ?_)
  refine ops_cons rfl (ow_indexT (oO).sl eI_len rfl el22 rfl (by simp <;> omega) rfl (at_fill (by omega)) rfl ?_)
  refine ops_cons rfl (ow_storeR oO ti2 rfl rfl rfl rfl (by omega) (by omega) rfl ?_)
  intro w4 oN hg3 z5
  replace hs := hs.grown hg3 (fun g hg => Nat.le_trans Bhs (Own.lt oO hg).1)
  replace X := X.grown hg3 X.size (fun g hg => (Own.lt oO hg).1)
  clear hg3 z5
  replace oN := oN.to (cs' := (xs.take (k + 1) ++ List.replicate (xs.length - (k + 1)) 0).flatMap eI) (by rw [← set_fill hx, ← set_flat eI_len x _ k (by simp <;> omega)]; try rfl)
  refine ops_nil ?_
  refine bq_n ?_
  refine tq_n ?_
  refine c_region ?_
  refine ops_cons rfl (ow_move rfl ?_)
  refine ops_cons rfl (ow_add rfl rfl (w64 (by omega)) ?_)
  refine ops_cons rfl (ow_assign rfl ?_)
  refine ops_nil ?_
  refine tq_n ⟨k + 1, (.cons rfl (.cons rfl (.cons rfl (.nil _)))), ?_, ?_⟩
  · exact ⟨by omega, hs, oN, X⟩
  · omega
  rw [end_fill hk] at oO
  refine ops_nil ?_
  refine c_false rfl ?_
  refine c_exit ?_
  refine tq_e ?_
  refine tq_e ?_
  refine bq_e ?_
  refine tq_n ?_
  refine c_seqR ?_
  refine ops_cons rfl (ow_move rfl ?_)
  refine ops_cons rfl (ow_assign rfl ?_)
  refine ops_nil ?_
  refine c_ret ?_
  refine fin_ret1 rfl rfl ?_
  exact ⟨_, _, rfl, oO, X⟩

theorem eqInt_c (A A' : Option Addr) (B B' c c' : Nat) (xs : List Int) (w : World) (hs : Sl B w A (xs.flatMap eI)) (ht : Sl B' w A' (xs.flatMap eI)) (hl : xs.length ≤ 1048576) :
    Calls Try.prog 10 #[.slice A xs.length c, .slice A' xs.length c'] w (Ret fun v w' => v = .bool true ∧ Ext w w') := by
  have Bhs := hs.1
  have Bht := ht.1
  have X := Ext.refl w
  refine calls_of (args := [.slice A xs.length c, .slice A' xs.length c']) Try.func10 Try.ntmps10 rfl rfl ?_
  refine c_seqR ?_
  refine ops_cons rfl (ow_assign rfl ?_)
  refine ops_nil ?_
  refine c_seq ?_
  refine c_seqR ?_
  refine ops_cons rfl (ow_move rfl ?_)
  refine ops_cons rfl (ow_len Try.underlying22 rfl ?_)
  refine ops_cons rfl (ow_move rfl ?_)
  refine ops_cons rfl (ow_len Try.underlying22 rfl ?_)
  refine ops_cons rfl (ow_neq2 rfl rfl (fun h1 => absurd h1 (by simp)) (fun h1 => ?_))
  refine ops_nil ?_
  refine c_false rfl ?_
  refine c_skip ?_
  refine tq_n ?_
  refine c_seq ?_
  refine c_seqR ?_
  refine ops_cons rfl (ow_assign rfl ?_)
  refine ops_nil ?_
  refine c_block ?_
  refine c_loop (G := Nat) (fun k => [(0, .slice A xs.length c), (1, .slice A' xs.length c'), (5, .int .i64 (k : Nat))]) (fun k wr => k ≤ xs.length ∧ Sl B wr A (xs.flatMap eI) ∧ Sl B' wr A' (xs.flatMap eI) ∧ Ext w wr) (fun k => xs.length - k) 0 (.cons rfl (.cons rfl (.cons rfl (.nil _)))) ?_ ?_
  · exact ⟨by omega, hs, ht, X⟩
  clear hs ht
  clear X
  rintro k wr ⟨hk0, hs, ht, X⟩
  refine c_seq ?_
  refine c_seqR ?_
  refine ops_cons rfl (ow_move rfl ?_)
  refine ops_cons rfl (ow_move rfl ?_)
  refine ops_cons rfl (ow_len Try.underlying22 rfl ?_)
  refine ops_cons rfl (ow_lss2 rfl rfl (fun hk => ?_) (fun hk => ?_))
  obtain ⟨x, hx, dx⟩ := drop_at' hk
  refine ops_nil ?_
  refine c_true rfl ?_
  refine c_skip ?_
  refine tq_n ?_
  refine c_seq ?_
  refine c_block ?_
  refine c_seqD [false, false, false, false, false, false, false, false, false] mixed (by kernel_rfl) ?_
  refine f_q rfl (fun wq sq => ow_move rfl ⟨rfl, Ext.refl _⟩) ?_
  refine f_q rfl (fun wq sq => ow_move rfl ⟨rfl, Ext.refl _⟩) ?_
  refine f_q rfl (fun wq sq => ow_indexT (hs.ext sq) eI_len rfl el22 rfl rfl rfl hx rfl ⟨rfl, Ext.refl _⟩) ?_
  refine f_q rfl (fun wq sq => ow_loadT (hs.ext sq) eI_len hx ti2 rfl rfl rfl ⟨rfl, Ext.refl _⟩) ?_
  refine f_q rfl (fun wq sq => ow_move rfl ⟨rfl, Ext.refl _⟩) ?_
  refine f_q rfl (fun wq sq => ow_move rfl ⟨rfl, Ext.refl _⟩) ?_
  refine f_q rfl (fun wq sq => ow_indexT (ht.ext sq) eI_len rfl el22 rfl rfl rfl hx rfl ⟨rfl, Ext.refl _⟩) ?_
  refine f_q rfl (fun wq sq => ow_loadT (ht.ext sq) eI_len hx ti2 rfl rfl rfl ⟨rfl, Ext.refl _⟩) ?_
  refine f_qb rfl (fun wq sq => ow_neq rfl rfl ⟨rfl, Ext.refl _⟩) (fun h2 => absurd h2 (by simp)) (fun h2 => ?_)
  refine f_nil (fun w3 sq => ?_)
  have xq := sq
  replace hs := hs.ext xq
  replace ht := ht.ext xq
  replace X := Ext.trans X xq; clear xq sq
  refine ops_nil ?_
  refine c_false rfl ?_
  refine c_skip ?_
  refine bq_n ?_
  refine tq_n ?_
  refine c_region ?_
  refine ops_cons rfl (ow_move rfl ?_)
  refine ops_cons rfl (ow_add rfl rfl (w64 (by omega)) ?_)
  refine ops_cons rfl (ow_assign rfl ?_)
  refine ops_nil ?_
  refine tq_n ⟨k + 1, (.cons rfl (.cons rfl (.cons rfl (.nil _)))), ?_, ?_⟩
  · exact ⟨by omega, hs, ht, X⟩
  · omega
  refine ops_nil ?_
  refine c_false rfl ?_
  refine c_exit ?_
  refine tq_e ?_
  refine tq_e ?_
  refine bq_e ?_
  refine tq_n ?_
  refine c_seqR ?_
  refine ops_cons rfl (ow_assign rfl ?_)
  refine ops_nil ?_
  refine c_ret ?_
  refine fin_ret1 rfl rfl ?_
  exact ⟨by rfl, X⟩

theorem markSlotI_c (A : Option Addr) (c lo : Nat) (xs : List SlotI) (m : Int) (w : World) (oO : Own w lo 49 8 A xs.length c (xs.flatMap SlotI.cells)) (hl : xs.length ≤ 1048576) (hm : 0 ≤ m ∧ m ≤ 1125899906842624) :
    Calls Try.prog 24 #[.slice A xs.length c, .int .i64 m] w (Ret fun v w' => v = .int .i64 (m + 8 * xs.length) ∧ Own w' lo 49 8 A xs.length c ((seqG (fun i => mkSlotI (m + 8 * (i : Nat))) xs.length).flatMap SlotI.cells) ∧ w.grownBy w' (Value.slice A xs.length c).ownBlock) := by
  replace oO := oO.to (cs' := ((seqG (fun i => mkSlotI (m + 8 * (i : Nat))) 0 ++ xs.drop 0)).flatMap SlotI.cells) rfl
  have X := gb_refl w (Value.slice A xs.length c).ownBlock
  refine calls_of (args := [.slice A xs.length c, .int .i64 m]) Try.func24 Try.ntmps24 rfl rfl ?_
  refine c_seqR ?_
  refine ops_cons rfl (ow_assign rfl ?_)
  refine ops_nil ?_
  refine c_seq ?_
  refine c_seqR ?_
  refine ops_cons rfl (ow_assign rfl ?_)
  refine ops_nil ?_
  refine c_block ?_
  refine c_loop (G := Nat × Int) (fun ⟨k, a⟩ => [(0, .slice A xs.length c), (1, .int .i64 a), (5, .int .i64 (k : Nat))]) (fun ⟨k, a⟩ wr => a = m + 8 * k ∧ k ≤ xs.length ∧ Own wr lo 49 8 A xs.length c ((seqG (fun i => mkSlotI (m + 8 * (i : Nat))) k ++ xs.drop k).flatMap SlotI.cells) ∧ w.grownBy wr (Value.slice A xs.length c).ownBlock) (fun ⟨k, a⟩ => xs.length - k) (0, m) (.cons rfl (.cons rfl (.cons rfl (.nil _)))) ?_ ?_
  · exact ⟨by simp, by omega, oO, X⟩
  clear oO
  clear X
  rintro ⟨k, a⟩ wr ⟨ha, hk0, oO, X⟩
  subst ha
  refine c_seq ?_
  refine c_seqR ?_
  refine ops_cons rfl (ow_move rfl ?_)
  refine ops_cons rfl (ow_move rfl ?_)
  refine ops_cons rfl (ow_len Try.underlying43 rfl ?_)
  refine ops_cons rfl (ow_lss2 rfl rfl (fun hk => ?_) (fun hk => ?_))
  have hk1 : k < xs.length := by omega
  obtain ⟨x, hx, dx⟩ := drop_at' hk
  have hL := seqG_at' (g := fun i => mkSlotI (m + 8 * (i : Nat))) hx
  have hn := seqG_all (g := fun i => mkSlotI (m + 8 * (i : Nat))) hk0
  refine ops_nil ?_
  refine c_true rfl ?_
  refine c_skip ?_
  refine tq_n ?_
  refine c_seq ?_
  refine c_block ?_
  refine c_seqR ?_
  refine ops_cons rfl (ow_move rfl ?_)
  refine ops_cons rfl (ow_move rfl ?_)
  refine ops_cons rfl (ow_move rfl ?_)
  refine ops_cons rfl (ow_indexT (oO).sl SlotI.len rfl el43 rfl (by omega) rfl hL rfl ?_)
  refine ops_cons rfl (ow_fieldAddr off49_0 rfl ?_)
  refine ops_cons rfl (ow_storeRF oO ti2 rfl rfl rfl rfl (by omega) (by omega) rfl ?_)
  intro w2 oO hg1 z3
  replace X : w.grownBy w2 (Value.slice A xs.length c).ownBlock := by first | exact gb_trans X hg1 | exact gb_new X hg1 (fun g hg => (Own.lt oO hg).1)
  clear hg1 z3
  replace oO := oO.to (cs' := ((seqG (fun i => mkSlotI (m + 8 * (i : Nat))) k ++ xs.drop k).set k (⟨m + 8 * k, x.round, x.slot, ⟨x.desc.node, x.desc.kind, x.desc.size, x.desc.duration, x.desc.change⟩⟩ : SlotI)).flatMap SlotI.cells) (by
    have e1 := set_field (x := x) (x' := (⟨m + 8 * k, x.round, x.slot, ⟨x.desc.node, x.desc.kind, x.desc.size, x.desc.duration, x.desc.change⟩⟩ : SlotI)) (vs := [.int .i64 (m + 8 * k)]) SlotI.len (s' := 1) (f := 0) rfl (by omega) (seqG (fun i => mkSlotI (m + 8 * (i : Nat))) k ++ xs.drop k) k (hL)
    exact e1)
  refine ops_nil ?_
  refine c_seqR ?_
  refine ops_cons rfl (ow_move rfl ?_)
  refine ops_cons rfl (ow_add rfl rfl (w64 (by omega)) ?_)
  refine ops_cons rfl (ow_assign rfl ?_)
  refine ops_nil ?_
  refine c_seqR ?_
  refine ops_cons rfl (ow_move rfl ?_)
  refine ops_cons rfl (ow_move rfl ?_)
  refine ops_cons rfl (ow_move rfl ?_)
  refine ops_cons rfl (ow_indexT (oO).sl SlotI.len rfl el43 rfl (by simp only [List.length_set]; omega) rfl (set_at (by omega)) rfl ?_)
  refine ops_cons rfl (ow_fieldAddr off49_1 rfl ?_)
  refine ops_cons rfl (ow_storeRF oO ti2 rfl rfl rfl rfl (by omega) (by omega) rfl ?_)
  intro w5 oO hg4 z6
  replace X : w.grownBy w5 (Value.slice A xs.length c).ownBlock := by first | exact gb_trans X hg4 | exact gb_new X hg4 (fun g hg => (Own.lt oO hg).1)
  clear hg4 z6
  replace oO := oO.to (cs' := ((seqG (fun i => mkSlotI (m + 8 * (i : Nat))) k ++ xs.drop k).set k (⟨m + 8 * k, m + 8 * k + 1, x.slot, ⟨x.desc.node, x.desc.kind, x.desc.size, x.desc.duration, x.desc.change⟩⟩ : SlotI)).flatMap SlotI.cells) (by
    have e1 := set_field (x := (⟨m + 8 * k, x.round, x.slot, ⟨x.desc.node, x.desc.kind, x.desc.size, x.desc.duration, x.desc.change⟩⟩ : SlotI)) (x' := (⟨m + 8 * k, m + 8 * k + 1, x.slot, ⟨x.desc.node, x.desc.kind, x.desc.size, x.desc.duration, x.desc.change⟩⟩ : SlotI)) (vs := [.int .i64 (m + 8 * k + 1)]) SlotI.len (s' := 1) (f := 1) rfl (by omega) ((seqG (fun i => mkSlotI (m + 8 * (i : Nat))) k ++ xs.drop k).set k (⟨m + 8 * k, x.round, x.slot, ⟨x.desc.node, x.desc.kind, x.desc.size, x.desc.duration, x.desc.change⟩⟩ : SlotI)) k (set_at (x := (⟨m + 8 * k, x.round, x.slot, ⟨x.desc.node, x.desc.kind, x.desc.size, x.desc.duration, x.desc.change⟩⟩ : SlotI)) (l := (seqG (fun i => mkSlotI (m + 8 * (i : Nat))) k ++ xs.drop k)) (by omega))
    rw [List.set_set] at e1; exact e1)
  refine ops_nil ?_
  refine c_seqR ?_
  refine ops_cons rfl (ow_move rfl ?_)
  refine ops_cons rfl (ow_add rfl rfl (w64 (by omega)) ?_)
  refine ops_cons rfl (ow_assign rfl ?_)
  refine ops_nil ?_
  refine c_seqR ?_
  refine ops_cons rfl (ow_move rfl ?_)
  refine ops_cons rfl (ow_move rfl ?_)
  refine ops_cons rfl (ow_move rfl ?_)
  refine ops_cons rfl (ow_indexT (oO).sl SlotI.len rfl el43 rfl (by simp only [List.length_set]; omega) rfl (set_at (by omega)) rfl ?_)
  refine ops_cons rfl (ow_fieldAddr off49_2 rfl ?_)
  refine ops_cons rfl (ow_storeRF oO ti2 rfl rfl rfl rfl (by omega) (by omega) rfl ?_)
  intro w9 oO hg7 z10
  replace X : w.grownBy w9 (Value.slice A xs.length c).ownBlock := by first | exact gb_trans X hg7 | exact gb_new X hg7 (fun g hg => (Own.lt oO hg).1)
  clear hg7 z10
  replace oO := oO.to (cs' := ((seqG (fun i => mkSlotI (m + 8 * (i : Nat))) k ++ xs.drop k).set k (⟨m + 8 * k, m + 8 * k + 1, m + 8 * k + 1 + 1, ⟨x.desc.node, x.desc.kind, x.desc.size, x.desc.duration, x.desc.change⟩⟩ : SlotI)).flatMap SlotI.cells) (by
    have e1 := set_field (x := (⟨m + 8 * k, m + 8 * k + 1, x.slot, ⟨x.desc.node, x.desc.kind, x.desc.size, x.desc.duration, x.desc.change⟩⟩ : SlotI)) (x' := (⟨m + 8 * k, m + 8 * k + 1, m + 8 * k + 1 + 1, ⟨x.desc.node, x.desc.kind, x.desc.size, x.desc.duration, x.desc.change⟩⟩ : SlotI)) (vs := [.int .i64 (m + 8 * k + 1 + 1)]) SlotI.len (s' := 1) (f := 2) rfl (by omega) ((seqG (fun i => mkSlotI (m + 8 * (i : Nat))) k ++ xs.drop k).set k (⟨m + 8 * k, m + 8 * k + 1, x.slot, ⟨x.desc.node, x.desc.kind, x.desc.size, x.desc.duration, x.desc.change⟩⟩ : SlotI)) k (set_at (x := (⟨m + 8 * k, m + 8 * k + 1, x.slot, ⟨x.desc.node, x.desc.kind, x.desc.size, x.desc.duration, x.desc.change⟩⟩ : SlotI)) (l := (seqG (fun i => mkSlotI (m + 8 * (i : Nat))) k ++ xs.drop k)) (by omega))
    rw [List.set_set] at e1; exact e1)
  refine ops_nil ?_
  refine c_seqR ?_
  refine ops_cons rfl (ow_move rfl ?_)
  refine ops_cons rfl (ow_add rfl rfl (w64 (by omega)) ?_)
  refine ops_cons rfl (ow_assign rfl ?_)
  refine ops_nil ?_
  refine c_seqR ?_
  refine ops_cons rfl (ow_move rfl ?_)
  refine ops_cons rfl (ow_move rfl ?_)
  refine ops_cons rfl (ow_move rfl ?_)
  refine ops_cons rfl (ow_indexT (oO).sl SlotI.len rfl el43 rfl (by simp only [List.length_set]; omega) rfl (set_at (by omega)) rfl ?_)
  refine ops_cons rfl (ow_fieldAddr off49_3 rfl ?_)
  refine ops_cons rfl (ow_fieldAddr off47_0 rfl ?_)
  refine ops_cons rfl (ow_storeRFF oO ti2 rfl rfl rfl rfl (by omega) (by omega) rfl ?_)
  intro w12 oO hg11 z13
  replace X : w.grownBy w12 (Value.slice A xs.length c).ownBlock := by first | exact gb_trans X hg11 | exact gb_new X hg11 (fun g hg => (Own.lt oO hg).1)
  clear hg11 z13
  replace oO := oO.to (cs' := ((seqG (fun i => mkSlotI (m + 8 * (i : Nat))) k ++ xs.drop k).set k (⟨m + 8 * k, m + 8 * k + 1, m + 8 * k + 1 + 1, ⟨m + 8 * k + 1 + 1 + 1, x.desc.kind, x.desc.size, x.desc.duration, x.desc.change⟩⟩ : SlotI)).flatMap SlotI.cells) (by
    have e1 := set_field (x := (⟨m + 8 * k, m + 8 * k + 1, m + 8 * k + 1 + 1, ⟨x.desc.node, x.desc.kind, x.desc.size, x.desc.duration, x.desc.change⟩⟩ : SlotI)) (x' := (⟨m + 8 * k, m + 8 * k + 1, m + 8 * k + 1 + 1, ⟨m + 8 * k + 1 + 1 + 1, x.desc.kind, x.desc.size, x.desc.duration, x.desc.change⟩⟩ : SlotI)) (vs := [.int .i64 (m + 8 * k + 1 + 1 + 1)]) SlotI.len (s' := 1) (f := 3) rfl (by omega) ((seqG (fun i => mkSlotI (m + 8 * (i : Nat))) k ++ xs.drop k).set k (⟨m + 8 * k, m + 8 * k + 1, m + 8 * k + 1 + 1, ⟨x.desc.node, x.desc.kind, x.desc.size, x.desc.duration, x.desc.change⟩⟩ : SlotI)) k (set_at (x := (⟨m + 8 * k, m + 8 * k + 1, m + 8 * k + 1 + 1, ⟨x.desc.node, x.desc.kind, x.desc.size, x.desc.duration, x.desc.change⟩⟩ : SlotI)) (l := (seqG (fun i => mkSlotI (m + 8 * (i : Nat))) k ++ xs.drop k)) (by omega))
    rw [List.set_set] at e1; exact e1)
  refine ops_nil ?_
  refine c_seqR ?_
  refine ops_cons rfl (ow_move rfl ?_)
  refine ops_cons rfl (ow_add rfl rfl (w64 (by omega)) ?_)
  refine ops_cons rfl (ow_assign rfl ?_)
  refine ops_nil ?_
  refine c_seqR ?_
  refine ops_cons rfl (ow_move rfl ?_)
  refine ops_cons rfl (ow_move rfl ?_)
  refine ops_cons rfl (ow_move rfl ?_)
  refine ops_cons rfl (ow_indexT (oO).sl SlotI.len rfl el43 rfl (by simp only [List.length_set]; omega) rfl (set_at (by omega)) rfl ?_)
  refine ops_cons rfl (ow_fieldAddr off49_3 rfl ?_)
  refine ops_cons rfl (ow_fieldAddr off47_1 rfl ?_)
  refine ops_cons rfl (ow_storeRFF oO ti2 rfl rfl rfl rfl (by omega) (by omega) rfl ?_)
  intro w15 oO hg14 z16
  replace X : w.grownBy w15 (Value.slice A xs.length c).ownBlock := by first | exact gb_trans X hg14 | exact gb_new X hg14 (fun g hg => (Own.lt oO hg).1)
  clear hg14 z16
  replace oO := oO.to (cs' := ((seqG (fun i => mkSlotI (m + 8 * (i : Nat))) k ++ xs.drop k).set k (⟨m + 8 * k, m + 8 * k + 1, m + 8 * k + 1 + 1, ⟨m + 8 * k + 1 + 1 + 1, m + 8 * k + 1 + 1 + 1 + 1, x.desc.size, x.desc.duration, x.desc.change⟩⟩ : SlotI)).flatMap SlotI.cells) (by
    have e1 := set_field (x := (⟨m + 8 * k, m + 8 * k + 1, m + 8 * k + 1 + 1, ⟨m + 8 * k + 1 + 1 + 1, x.desc.kind, x.desc.size, x.desc.duration, x.desc.change⟩⟩ : SlotI)) (x' := (⟨m + 8 * k, m + 8 * k + 1, m + 8 * k + 1 + 1, ⟨m + 8 * k + 1 + 1 + 1, m + 8 * k + 1 + 1 + 1 + 1, x.desc.size, x.desc.duration, x.desc.change⟩⟩ : SlotI)) (vs := [.int .i64 (m + 8 * k + 1 + 1 + 1 + 1)]) SlotI.len (s' := 1) (f := 4) rfl (by omega) ((seqG (fun i => mkSlotI (m + 8 * (i : Nat))) k ++ xs.drop k).set k (⟨m + 8 * k, m + 8 * k + 1, m + 8 * k + 1 + 1, ⟨m + 8 * k + 1 + 1 + 1, x.desc.kind, x.desc.size, x.desc.duration, x.desc.change⟩⟩ : SlotI)) k (set_at (x := (⟨m + 8 * k, m + 8 * k + 1, m + 8 * k + 1 + 1, ⟨m + 8 * k + 1 + 1 + 1, x.desc.kind, x.desc.size, x.desc.duration, x.desc.change⟩⟩ : SlotI)) (l := (seqG (fun i => mkSlotI (m + 8 * (i : Nat))) k ++ xs.drop k)) (by omega))
    rw [List.set_set] at e1; exact e1)
  refine ops_nil ?_
  refine c_seqR ?_
  refine ops_cons rfl (ow_move rfl ?_)
  refine ops_cons rfl (ow_add rfl rfl (w64 (by omega)) ?_)
  refine ops_cons rfl (ow_assign rfl ?_)
  refine ops_nil ?_
  refine c_seqR ?_
  refine ops_cons rfl (ow_move rfl ?_)
  refine ops_cons rfl (ow_move rfl ?_)
  refine ops_cons rfl (ow_move rfl ?_)
  refine ops_cons rfl (ow_indexT (oO).sl SlotI.len rfl el43 rfl (by simp only [List.length_set]; omega) rfl (set_at (by omega)) rfl ?_)
  refine ops_cons rfl (ow_fieldAddr off49_3 rfl ?_)
  refine ops_cons rfl (ow_fieldAddr off47_2 rfl ?_)
  refine ops_cons rfl (ow_storeRFF oO ti2 rfl rfl rfl rfl (by omega) (by omega) rfl ?_)
  intro w18 oO hg17 z19
  replace X : w.grownBy w18 (Value.slice A xs.length c).ownBlock := by first | exact gb_trans X hg17 | exact gb_new X hg17 (fun g hg => (Own.lt oO hg).1)
  clear hg17 z19
  replace oO := oO.to (cs' := ((seqG (fun i => mkSlotI (m + 8 * (i : Nat))) k ++ xs.drop k).set k (⟨m + 8 * k, m + 8 * k + 1, m + 8 * k + 1 + 1, ⟨m + 8 * k + 1 + 1 + 1, m + 8 * k + 1 + 1 + 1 + 1, m + 8 * k + 1 + 1 + 1 + 1 + 1, x.desc.duration, x.desc.change⟩⟩ : SlotI)).flatMap SlotI.cells) (by
    have e1 := set_field (x := (⟨m + 8 * k, m + 8 * k + 1, m + 8 * k + 1 + 1, ⟨m + 8 * k + 1 + 1 + 1, m + 8 * k + 1 + 1 + 1 + 1, x.desc.size, x.desc.duration, x.desc.change⟩⟩ : SlotI)) (x' := (⟨m + 8 * k, m + 8 * k + 1, m + 8 * k + 1 + 1, ⟨m + 8 * k + 1 + 1 + 1, m + 8 * k + 1 + 1 + 1 + 1, m + 8 * k + 1 + 1 + 1 + 1 + 1, x.desc.duration, x.desc.change⟩⟩ : SlotI)) (vs := [.int .i64 (m + 8 * k + 1 + 1 + 1 + 1 + 1)]) SlotI.len (s' := 1) (f := 5) rfl (by omega) ((seqG (fun i => mkSlotI (m + 8 * (i : Nat))) k ++ xs.drop k).set k (⟨m + 8 * k, m + 8 * k + 1, m + 8 * k + 1 + 1, ⟨m + 8 * k + 1 + 1 + 1, m + 8 * k + 1 + 1 + 1 + 1, x.desc.size, x.desc.duration, x.desc.change⟩⟩ : SlotI)) k (set_at (x := (⟨m + 8 * k, m + 8 * k + 1, m + 8 * k + 1 + 1, ⟨m + 8 * k + 1 + 1 + 1, m + 8 * k + 1 + 1 + 1 + 1, x.desc.size, x.desc.duration, x.desc.change⟩⟩ : SlotI)) (l := (seqG (fun i => mkSlotI (m + 8 * (i : Nat))) k ++ xs.drop k)) (by omega))
    rw [List.set_set] at e1; exact e1)
  refine ops_nil ?_
  refine c_seqR ?_
  refine ops_cons rfl (ow_move rfl ?_)
  refine ops_cons rfl (ow_add rfl rfl (w64 (by omega)) ?_)
  refine ops_cons rfl (ow_assign rfl ?_)
  refine ops_nil ?_
  refine c_seqR ?_
  refine ops_cons rfl (ow_move rfl ?_)
  refine ops_cons rfl (ow_move rfl ?_)
  refine ops_cons rfl (ow_move rfl ?_)
  refine ops_cons rfl (ow_indexT (oO).sl SlotI.len rfl el43 rfl (by simp only [List.length_set]; omega) rfl (set_at (by omega)) rfl ?_)
  refine ops_cons rfl (ow_fieldAddr off49_3 rfl ?_)
  refine ops_cons rfl (ow_fieldAddr off47_3 rfl ?_)
  refine ops_cons rfl (ow_storeRFF oO ti2 rfl rfl rfl rfl (by omega) (by omega) rfl ?_)
  intro w21 oO hg20 z22
  replace X : w.grownBy w21 (Value.slice A xs.length c).ownBlock := by first | exact gb_trans X hg20 | exact gb_new X hg20 (fun g hg => (Own.lt oO hg).1)
  clear hg20 z22
  replace oO := oO.to (cs' := ((seqG (fun i => mkSlotI (m + 8 * (i : Nat))) k ++ xs.drop k).set k (⟨m + 8 * k, m + 8 * k + 1, m + 8 * k + 1 + 1, ⟨m + 8 * k + 1 + 1 + 1, m + 8 * k + 1 + 1 + 1 + 1, m + 8 * k + 1 + 1 + 1 + 1 + 1, m + 8 * k + 1 + 1 + 1 + 1 + 1 + 1, x.desc.change⟩⟩ : SlotI)).flatMap SlotI.cells) (by
    have e1 := set_field (x := (⟨m + 8 * k, m + 8 * k + 1, m + 8 * k + 1 + 1, ⟨m + 8 * k + 1 + 1 + 1, m + 8 * k + 1 + 1 + 1 + 1, m + 8 * k + 1 + 1 + 1 + 1 + 1, x.desc.duration, x.desc.change⟩⟩ : SlotI)) (x' := (⟨m + 8 * k, m + 8 * k + 1, m + 8 * k + 1 + 1, ⟨m + 8 * k + 1 + 1 + 1, m + 8 * k + 1 + 1 + 1 + 1, m + 8 * k + 1 + 1 + 1 + 1 + 1, m + 8 * k + 1 + 1 + 1 + 1 + 1 + 1, x.desc.change⟩⟩ : SlotI)) (vs := [.int .i64 (m + 8 * k + 1 + 1 + 1 + 1 + 1 + 1)]) SlotI.len (s' := 1) (f := 6) rfl (by omega) ((seqG (fun i => mkSlotI (m + 8 * (i : Nat))) k ++ xs.drop k).set k (⟨m + 8 * k, m + 8 * k + 1, m + 8 * k + 1 + 1, ⟨m + 8 * k + 1 + 1 + 1, m + 8 * k + 1 + 1 + 1 + 1, m + 8 * k + 1 + 1 + 1 + 1 + 1, x.desc.duration, x.desc.change⟩⟩ : SlotI)) k (set_at (x := (⟨m + 8 * k, m + 8 * k + 1, m + 8 * k + 1 + 1, ⟨m + 8 * k + 1 + 1 + 1, m + 8 * k + 1 + 1 + 1 + 1, m + 8 * k + 1 + 1 + 1 + 1 + 1, x.desc.duration, x.desc.change⟩⟩ : SlotI)) (l := (seqG (fun i => mkSlotI (m + 8 * (i : Nat))) k ++ xs.drop k)) (by omega))
    rw [List.set_set] at e1; exact e1)
  refine ops_nil ?_
  refine c_seqR ?_
  refine ops_cons rfl (ow_move rfl ?_)
  refine ops_cons rfl (ow_add rfl rfl (w64 (by omega)) ?_)
  refine ops_cons rfl (ow_assign rfl ?_)
  refine ops_nil ?_
  refine c_seqR ?_
  refine ops_cons rfl (ow_move rfl ?_)
  refine ops_cons rfl (ow_move rfl ?_)
  refine ops_cons rfl (ow_move rfl ?_)
  refine ops_cons rfl (ow_rem rfl rfl (by omega) rfl ?_)
  refine ops_cons rfl (ow_eql rfl rfl ?_)
  refine ops_cons rfl (ow_indexT (oO).sl SlotI.len rfl el43 rfl (by simp only [List.length_set]; omega) rfl (set_at (by omega)) rfl ?_)
  refine ops_cons rfl (ow_fieldAddr off49_3 rfl ?_)
  refine ops_cons rfl (ow_fieldAddr off47_4 rfl ?_)
  refine ops_cons rfl (ow_storeRFF oO ti4 rfl rfl rfl rfl (by omega) (by omega) rfl ?_)
  intro w24 oO hg23 z25
  replace X : w.grownBy w24 (Value.slice A xs.length c).ownBlock := by first | exact gb_trans X hg23 | exact gb_new X hg23 (fun g hg => (Own.lt oO hg).1)
  clear hg23 z25
  replace oO := oO.to (cs' := ((seqG (fun i => mkSlotI (m + 8 * (i : Nat))) k ++ xs.drop k).set k (⟨m + 8 * k, m + 8 * k + 1, m + 8 * k + 1 + 1, ⟨m + 8 * k + 1 + 1 + 1, m + 8 * k + 1 + 1 + 1 + 1, m + 8 * k + 1 + 1 + 1 + 1 + 1, m + 8 * k + 1 + 1 + 1 + 1 + 1 + 1, (decide (Int.tmod (m + 8 * k + 1 + 1 + 1 + 1 + 1 + 1 + 1) 3 = 0))⟩⟩ : SlotI)).flatMap SlotI.cells) (by
    have e1 := set_field (x := (⟨m + 8 * k, m + 8 * k + 1, m + 8 * k + 1 + 1, ⟨m + 8 * k + 1 + 1 + 1, m + 8 * k + 1 + 1 + 1 + 1, m + 8 * k + 1 + 1 + 1 + 1 + 1, m + 8 * k + 1 + 1 + 1 + 1 + 1 + 1, x.desc.change⟩⟩ : SlotI)) (x' := (⟨m + 8 * k, m + 8 * k + 1, m + 8 * k + 1 + 1, ⟨m + 8 * k + 1 + 1 + 1, m + 8 * k + 1 + 1 + 1 + 1, m + 8 * k + 1 + 1 + 1 + 1 + 1, m + 8 * k + 1 + 1 + 1 + 1 + 1 + 1, (decide (Int.tmod (m + 8 * k + 1 + 1 + 1 + 1 + 1 + 1 + 1) 3 = 0))⟩⟩ : SlotI)) (vs := [.bool (decide (Int.tmod (m + 8 * k + 1 + 1 + 1 + 1 + 1 + 1 + 1) 3 = 0))]) SlotI.len (s' := 1) (f := 7) rfl (by omega) ((seqG (fun i => mkSlotI (m + 8 * (i : Nat))) k ++ xs.drop k).set k (⟨m + 8 * k, m + 8 * k + 1, m + 8 * k + 1 + 1, ⟨m + 8 * k + 1 + 1 + 1, m + 8 * k + 1 + 1 + 1 + 1, m + 8 * k + 1 + 1 + 1 + 1 + 1, m + 8 * k + 1 + 1 + 1 + 1 + 1 + 1, x.desc.change⟩⟩ : SlotI)) k (set_at (x := (⟨m + 8 * k, m + 8 * k + 1, m + 8 * k + 1 + 1, ⟨m + 8 * k + 1 + 1 + 1, m + 8 * k + 1 + 1 + 1 + 1, m + 8 * k + 1 + 1 + 1 + 1 + 1, m + 8 * k + 1 + 1 + 1 + 1 + 1 + 1, x.desc.change⟩⟩ : SlotI)) (l := (seqG (fun i => mkSlotI (m + 8 * (i : Nat))) k ++ xs.drop k)) (by omega))
    rw [List.set_set] at e1; exact e1)
  replace oO := oO.to (cs' := ((seqG (fun i => mkSlotI (m + 8 * (i : Nat))) (k + 1)) ++ xs.drop (k + 1)).flatMap SlotI.cells) (by rw [← seqG_set hk1]; rfl)
  refine ops_nil ?_
  refine c_region ?_
  refine ops_cons rfl (ow_move rfl ?_)
  refine ops_cons rfl (ow_add rfl rfl (w64 (by omega)) ?_)
  refine ops_cons rfl (ow_assign rfl ?_)
  refine ops_nil ?_
  refine bq_n ?_
  refine tq_n ?_
  refine c_region ?_
  refine ops_cons rfl (ow_move rfl ?_)
  refine ops_cons rfl (ow_add rfl rfl (w64 (by omega)) ?_)
  refine ops_cons rfl (ow_assign rfl ?_)
  refine ops_nil ?_
  refine tq_n ⟨(k + 1, m + 8 * k + 1 + 1 + 1 + 1 + 1 + 1 + 1 + 1), (.cons rfl (.cons rfl (.cons rfl (.nil _)))), ?_, ?_⟩
  · exact ⟨by omega, by omega, oO, X⟩
  · dsimp only; omega
  rw [seqG_end hk0 hk] at oO
  refine ops_nil ?_
  refine c_false rfl ?_
  refine c_exit ?_
  refine tq_e ?_
  refine tq_e ?_
  refine bq_e ?_
  refine tq_n ?_
  refine c_seqR ?_
  refine ops_cons rfl (ow_move rfl ?_)
  refine ops_cons rfl (ow_assign rfl ?_)
  refine ops_nil ?_
  refine c_ret ?_
  refine fin_ret1 rfl rfl ?_
  exact ⟨by rw [show k = xs.length by omega], oO, X⟩

theorem heldSlotI_c (A : Option Addr) (B c n : Nat) (m : Int) (w : World) (hs : Sl B w A ((seqG (fun i => mkSlotI (m + 8 * (i : Nat))) n).flatMap SlotI.cells)) (hl : n ≤ 1048576) (hm : 0 ≤ m ∧ m ≤ 1125899906842624) :
    Calls Try.prog 25 #[.slice A n c, .int .i64 m] w (Ret fun v w' => v = .int .i64 (m + 8 * n) ∧ Ext w w') := by
  have Bhs := hs.1
  have X := Ext.refl w
  refine calls_of (args := [.slice A n c, .int .i64 m]) Try.func25 Try.ntmps25 rfl rfl ?_
  refine c_seqR ?_
  refine ops_cons rfl (ow_assign rfl ?_)
  refine ops_nil ?_
  refine c_seq ?_
  refine c_seqR ?_
  refine ops_cons rfl (ow_assign rfl ?_)
  refine ops_nil ?_
  refine c_block ?_
  refine c_loop (G := Nat × Int) (fun ⟨k, a⟩ => [(0, .slice A n c), (1, .int .i64 a), (5, .int .i64 (k : Nat))]) (fun ⟨k, a⟩ wr => a = m + 8 * k ∧ k ≤ n ∧ Sl B wr A ((seqG (fun i => mkSlotI (m + 8 * (i : Nat))) n).flatMap SlotI.cells) ∧ Ext w wr) (fun ⟨k, a⟩ => n - k) (0, m) (.cons rfl (.cons rfl (.cons rfl (.nil _)))) ?_ ?_
  · exact ⟨by simp, by omega, hs, X⟩
  clear hs
  clear X
  rintro ⟨k, a⟩ wr ⟨ha, hk0, hs, X⟩
  subst ha
  refine c_seq ?_
  refine c_seqR ?_
  refine ops_cons rfl (ow_move rfl ?_)
  refine ops_cons rfl (ow_move rfl ?_)
  refine ops_cons rfl (ow_len Try.underlying43 rfl ?_)
  refine ops_cons rfl (ow_lss2 rfl rfl (fun hk => ?_) (fun hk => ?_))
  have hk1 : k < n := by omega
  refine ops_nil ?_
  refine c_true rfl ?_
  refine c_skip ?_
  refine tq_n ?_
  refine c_seq ?_
  refine c_block ?_
  refine c_seq ?_
  refine c_seqR ?_
  refine ops_cons rfl (ow_move rfl ?_)
  refine ops_cons rfl (ow_move rfl ?_)
  refine ops_cons rfl (ow_indexT hs SlotI.len rfl el43 rfl (seqG_len _ _).symm rfl (seqG_at hk1) rfl ?_)
  refine ops_cons rfl (ow_fieldAddr off49_0 rfl ?_)
  refine ops_cons rfl (ow_loadTF hs SlotI.len (seqG_at hk1) ti2 rfl rfl rfl ?_)
  refine ops_cons rfl (ow_move rfl ?_)
  refine ops_cons rfl (ow_neq2 rfl rfl (fun h1 => absurd h1 (by exact fun h => h rfl)) (fun h1 => ?_))
  refine ops_nil ?_
  refine c_false rfl ?_
  refine c_skip ?_
  refine tq_n ?_
  refine c_seqR ?_
  refine ops_cons rfl (ow_move rfl ?_)
  refine ops_cons rfl (ow_add rfl rfl (w64 (by omega)) ?_)
  refine ops_cons rfl (ow_assign rfl ?_)
  refine ops_nil ?_
  refine c_seq ?_
  refine c_seqR ?_
  refine ops_cons rfl (ow_move rfl ?_)
  refine ops_cons rfl (ow_move rfl ?_)
  refine ops_cons rfl (ow_indexT hs SlotI.len rfl el43 rfl (seqG_len _ _).symm rfl (seqG_at hk1) rfl ?_)
  refine ops_cons rfl (ow_fieldAddr off49_1 rfl ?_)
  refine ops_cons rfl (ow_loadTF hs SlotI.len (seqG_at hk1) ti2 rfl rfl rfl ?_)
  refine ops_cons rfl (ow_move rfl ?_)
  refine ops_cons rfl (ow_neq2 rfl rfl (fun h2 => absurd h2 (by exact fun h => h rfl)) (fun h2 => ?_))
  refine ops_nil ?_
  refine c_false rfl ?_
  refine c_skip ?_
  refine tq_n ?_
  refine c_seqR ?_
  refine ops_cons rfl (ow_move rfl ?_)
  refine ops_cons rfl (ow_add rfl rfl (w64 (by omega)) ?_)
  refine ops_cons rfl (ow_assign rfl ?_)
  refine ops_nil ?_
  refine c_seq ?_
  refine c_seqR ?_
  refine ops_cons rfl (ow_move rfl ?_)
  refine ops_cons rfl (ow_move rfl ?_)
  refine ops_cons rfl (ow_indexT hs SlotI.len rfl el43 rfl (seqG_len _ _).symm rfl (seqG_at hk1) rfl ?_)
  refine ops_cons rfl (ow_fieldAddr off49_2 rfl ?_)
  refine ops_cons rfl (ow_loadTF hs SlotI.len (seqG_at hk1) ti2 rfl rfl rfl ?_)
  refine ops_cons rfl (ow_move rfl ?_)
  refine ops_cons rfl (ow_neq2 rfl rfl (fun h3 => absurd h3 (by exact fun h => h rfl)) (fun h3 => ?_))
  refine ops_nil ?_
  refine c_false rfl ?_
  refine c_skip ?_
  refine tq_n ?_
  refine c_seqR ?_
  refine ops_cons rfl (ow_move rfl ?_)
  refine ops_cons rfl (ow_add rfl rfl (w64 (by omega)) ?_)
  refine ops_cons rfl (ow_assign rfl ?_)
  refine ops_nil ?_
  refine c_seq ?_
  refine c_seqR ?_
  refine ops_cons rfl (ow_move rfl ?_)
  refine ops_cons rfl (ow_move rfl ?_)
  refine ops_cons rfl (ow_indexT hs SlotI.len rfl el43 rfl (seqG_len _ _).symm rfl (seqG_at hk1) rfl ?_)
  refine ops_cons rfl (ow_fieldAddr off49_3 rfl ?_)
  refine ops_cons rfl (ow_fieldAddr off47_0 rfl ?_)
  refine ops_cons rfl (ow_loadTFF hs SlotI.len (seqG_at hk1) ti2 rfl rfl rfl ?_)
  refine ops_cons rfl (ow_move rfl ?_)
  refine ops_cons rfl (ow_neq2 rfl rfl (fun h4 => absurd h4 (by exact fun h => h rfl)) (fun h4 => ?_))
  refine ops_nil ?_
  refine c_false rfl ?_
  refine c_skip ?_
  refine tq_n ?_
  refine c_seqR ?_
  refine ops_cons rfl (ow_move rfl ?_)
  refine ops_cons rfl (ow_add rfl rfl (w64 (by omega)) ?_)
  refine ops_cons rfl (ow_assign rfl ?_)
  refine ops_nil ?_
  refine c_seq ?_
  refine c_seqR ?_
  refine ops_cons rfl (ow_move rfl ?_)
  refine ops_cons rfl (ow_move rfl ?_)
  refine ops_cons rfl (ow_indexT hs SlotI.len rfl el43 rfl (seqG_len _ _).symm rfl (seqG_at hk1) rfl ?_)
  refine ops_cons rfl (ow_fieldAddr off49_3 rfl ?_)
  refine ops_cons rfl (ow_fieldAddr off47_1 rfl ?_)
  refine ops_cons rfl (ow_loadTFF hs SlotI.len (seqG_at hk1) ti2 rfl rfl rfl ?_)
  refine ops_cons rfl (ow_move rfl ?_)
  refine ops_cons rfl (ow_neq2 rfl rfl (fun h5 => absurd h5 (by exact fun h => h rfl)) (fun h5 => ?_))
  refine ops_nil ?_
  refine c_false rfl ?_
  refine c_skip ?_
  refine tq_n ?_
  refine c_seqR ?_
  refine ops_cons rfl (ow_move rfl ?_)
  refine ops_cons rfl (ow_add rfl rfl (w64 (by omega)) ?_)
  refine ops_cons rfl (ow_assign rfl ?_)
  refine ops_nil ?_
  refine c_seq ?_
  refine c_seqR ?_
  refine ops_cons rfl (ow_move rfl ?_)
  refine ops_cons rfl (ow_move rfl ?_)
  refine ops_cons rfl (ow_indexT hs SlotI.len rfl el43 rfl (seqG_len _ _).symm rfl (seqG_at hk1) rfl ?_)
  refine ops_cons rfl (ow_fieldAddr off49_3 rfl ?_)
  refine ops_cons rfl (ow_fieldAddr off47_2 rfl ?_)
  refine ops_cons rfl (ow_loadTFF hs SlotI.len (seqG_at hk1) ti2 rfl rfl rfl ?_)
  refine ops_cons rfl (ow_move rfl ?_)
  refine ops_cons rfl (ow_neq2 rfl rfl (fun h6 => absurd h6 (by exact fun h => h rfl)) (fun h6 => ?_))
  refine ops_nil ?_
  refine c_false rfl ?_
  refine c_skip ?_
  refine tq_n ?_
  refine c_seqR ?_
  refine ops_cons rfl (ow_move rfl ?_)
  refine ops_cons rfl (ow_add rfl rfl (w64 (by omega)) ?_)
  refine ops_cons rfl (ow_assign rfl ?_)
  refine ops_nil ?_
  refine c_seq ?_
  refine c_seqR ?_
  refine ops_cons rfl (ow_move rfl ?_)
  refine ops_cons rfl (ow_move rfl ?_)
  refine ops_cons rfl (ow_indexT hs SlotI.len rfl el43 rfl (seqG_len _ _).symm rfl (seqG_at hk1) rfl ?_)
  refine ops_cons rfl (ow_fieldAddr off49_3 rfl ?_)
  refine ops_cons rfl (ow_fieldAddr off47_3 rfl ?_)
  refine ops_cons rfl (ow_loadTFF hs SlotI.len (seqG_at hk1) ti2 rfl rfl rfl ?_)
  refine ops_cons rfl (ow_move rfl ?_)
  refine ops_cons rfl (ow_neq2 rfl rfl (fun h7 => absurd h7 (by exact fun h => h rfl)) (fun h7 => ?_))
  refine ops_nil ?_
  refine c_false rfl ?_
  refine c_skip ?_
  refine tq_n ?_
  refine c_seqR ?_
  refine ops_cons rfl (ow_move rfl ?_)
  refine ops_cons rfl (ow_add rfl rfl (w64 (by omega)) ?_)
  refine ops_cons rfl (ow_assign rfl ?_)
  refine ops_nil ?_
  refine c_seq ?_
  refine c_seqR ?_
  refine ops_cons rfl (ow_move rfl ?_)
  refine ops_cons rfl (ow_move rfl ?_)
  refine ops_cons rfl (ow_indexT hs SlotI.len rfl el43 rfl (seqG_len _ _).symm rfl (seqG_at hk1) rfl ?_)
  refine ops_cons rfl (ow_fieldAddr off49_3 rfl ?_)
  refine ops_cons rfl (ow_fieldAddr off47_4 rfl ?_)
  refine ops_cons rfl (ow_loadTFF hs SlotI.len (seqG_at hk1) ti4 rfl rfl rfl ?_)
  refine ops_cons rfl (ow_move rfl ?_)
  refine ops_cons rfl (ow_rem rfl rfl (by omega) rfl ?_)
  refine ops_cons rfl (ow_eql rfl rfl ?_)
  refine ops_cons rfl (ow_neqBd2 Try.underlying4 rfl rfl (fun h8 => absurd h8 (by exact fun h => h rfl)) (fun h8 => ?_))
  refine ops_nil ?_
  refine c_false rfl ?_
  refine c_skip ?_
  refine tq_n ?_
  refine c_region ?_
  refine ops_cons rfl (ow_move rfl ?_)
  refine ops_cons rfl (ow_add rfl rfl (w64 (by omega)) ?_)
  refine ops_cons rfl (ow_assign rfl ?_)
  refine ops_nil ?_
  refine bq_n ?_
  refine tq_n ?_
  refine c_region ?_
  refine ops_cons rfl (ow_move rfl ?_)
  refine ops_cons rfl (ow_add rfl rfl (w64 (by omega)) ?_)
  refine ops_cons rfl (ow_assign rfl ?_)
  refine ops_nil ?_
  refine tq_n ⟨(k + 1, m + 8 * k + 1 + 1 + 1 + 1 + 1 + 1 + 1 + 1), (.cons rfl (.cons rfl (.cons rfl (.nil _)))), ?_, ?_⟩
  · exact ⟨by omega, by omega, hs, X⟩
  · dsimp only; omega
  refine ops_nil ?_
  refine c_false rfl ?_
  refine c_exit ?_
  refine tq_e ?_
  refine tq_e ?_
  refine bq_e ?_
  refine tq_n ?_
  refine c_seqR ?_
  refine ops_cons rfl (ow_move rfl ?_)
  refine ops_cons rfl (ow_assign rfl ?_)
  refine ops_nil ?_
  refine c_ret ?_
  refine fin_ret1 rfl rfl ?_
  exact ⟨by rw [show k = n by omega], X⟩
end Go.Proofs.Ytdoibplhbdkapaa
