/- Texts of the seat that a law needs, put together. No condition. -/
import Derived.Test.YtdoibplhbdkapaaGreatDoorCFP17
import Derived.Test.YtdoibplhbdkapaaGreatDoorCFP5
import Derived.Test.YtdoibplhbdkapaaGreatDoorCFP4
import Derived.Test.YtdoibplhbdkapaaGreatDoorCFP3
import Derived.Test.YtdoibplhbdkapaaGreatDoorCFP8
namespace Go.Proofs.YtdoibplhbdkapaaGreatDoor
open Go.RowKit
set_option linter.unusedVariables false
set_option linter.unusedSimpArgs false
set_option maxRecDepth 20000
theorem app_at {α : Type} {ps ys : List α} {k : Nat} {x : α} (hp : ps.length = k) (hx : ys[k]? = some x) : (ps ++ ys.drop k)[k]? = some x := by
  rw [List.getElem?_append_right (by omega), hp, Nat.sub_self, List.getElem?_drop, Nat.add_zero, hx]
theorem app_set {α : Type} {ps ys : List α} {k : Nat} {x y : α} (hp : ps.length = k) (hx : ys[k]? = some x) : (ps ++ ys.drop k).set k y = (ps ++ [y]) ++ ys.drop (k + 1) := by
  obtain ⟨hk, _⟩ := List.getElem?_eq_some_iff.1 hx
  rw [List.set_append, if_neg (by omega), hp, Nat.sub_self, List.drop_eq_getElem_cons hk, List.set_cons_zero]; simp
theorem one_NodeI (xs : List NodeI) : ∀ u ∈ xs.flatMap NodeI.cells, u.oneCell' = true := fun u hu => by
  obtain ⟨x, _, h⟩ := List.mem_flatMap.1 hu
  simp only [NodeI.cells, List.mem_cons, List.mem_append, List.not_mem_nil, or_false, List.cons_append, List.nil_append] at h
  rcases h with rfl | rfl | rfl | rfl <;> rfl
theorem one_ModeI (xs : List ModeI) : ∀ u ∈ xs.flatMap ModeI.cells, u.oneCell' = true := fun u hu => by
  obtain ⟨x, _, h⟩ := List.mem_flatMap.1 hu
  simp only [ModeI.cells, List.mem_cons, List.mem_append, List.not_mem_nil, or_false, List.cons_append, List.nil_append] at h
  rcases h with rfl | rfl | rfl <;> rfl
theorem one_SlotI (xs : List SlotI) : ∀ u ∈ xs.flatMap SlotI.cells, u.oneCell' = true := fun u hu => by
  obtain ⟨x, _, h⟩ := List.mem_flatMap.1 hu
  simp only [SlotI.cells, Desc.cells, List.mem_cons, List.mem_append, List.not_mem_nil, or_false, List.cons_append, List.nil_append] at h
  rcases h with rfl | rfl | rfl | rfl | rfl | rfl | rfl | rfl <;> rfl
def withIdF (d : MedlD) (id : Int) : MedlD × Int := if isMedl d = true then (if inB id 1 16777215 = true then (⟨id, d.ns, d.ms, d.ss⟩, 0) else (⟨0, [], [], []⟩, 2)) else (⟨0, [], [], []⟩, 1)
theorem zeroM_own (w : World) (lo : Nat) (a b c d : TypeId) : MOwn w lo a b c d zeroM := ⟨Own.nil_ _ _ _ _, Own.nil_ _ _ _ _, NOwn.nil_, Disj.nil_, Own.nil_ _ _ _ _⟩
theorem zeroM_small : zeroM.small := ⟨by decide, by decide, fun x hx => by simp [zeroM] at hx, by decide, fun x hx => by simp [zeroM] at hx⟩
theorem withId_small {m m' : MedlI} {id : Int} (e : m'.d = (withIdF m.d id).1) (hz : m.small) : m'.small := by
  unfold withIdF at e
  split at e
  · split at e
    · exact MedlI.small_of (m := ⟨id, m.An, m.ns, m.cn, m.Am, m.ms, m.cm, m.As, m.ss, m.cs⟩) e ⟨hz.ln, hz.lm, hz.lx, hz.ls, hz.lz⟩
    · exact MedlI.small_of (m := zeroM) e zeroM_small
  · exact MedlI.small_of (m := zeroM) e zeroM_small
theorem mOwn_id {w : World} {lo : Nat} {a b c d : TypeId} {m : MedlI} (h : MOwn w lo a b c d m) (id : Int) : MOwn w lo a b c d ⟨id, m.An, m.ns, m.cn, m.Am, m.ms, m.cm, m.As, m.ss, m.cs⟩ := ⟨h.on, h.om, h.ox, h.od, h.os⟩
theorem cloneNodeI_c (A : Option Addr) (B c : Nat) (xs : List NodeI) (w : World) (hs : Sl B w A (xs.flatMap NodeI.cells)) (hl : xs.length ≤ 1048576) :
    Calls Tryz.prog 192 #[.slice A xs.length c] w (Ret fun v w' => ∃ A' c', v = .slice A' xs.length c' ∧ Own w' w.heap.size 59 4 A' xs.length c' (xs.flatMap NodeI.cells) ∧ Ext w w') := by
  have Bhs := hs.1
  have X := Ext.refl w
  refine calls_of (args := [.slice A xs.length c]) Tryz.func192 Tryz.ntmps192 rfl rfl ?_
  refine c_seqR ?_
  refine ops_cons rfl (ow_assign rfl ?_)
  refine ops_nil ?_
  refine c_seq ?_
  refine c_seqR ?_
  refine ops_cons rfl (ow_move rfl ?_)
  refine ops_cons rfl (ow_eqlN2 Tryz.underlying24 rfl rfl (fun hA => ?_) (fun hA => ?_))
  refine ops_nil ?_
  refine c_true rfl ?_
  refine c_seqR ?_
  refine ops_cons rfl (ow_assign rfl ?_)
  refine ops_nil ?_
  refine c_ret ?_
  refine tq_r ?_
  refine fin_ret1 rfl rfl ?_
  · skip
    first
    | (subst hA
       have e := hs.none_nil NodeI.len (by omega)
       subst e; exact ⟨none, 0, rfl, Own.nil_ _ _ _ _, X⟩)
    | (rw [Nat.zero_add] at oN; exact ⟨_, _, by rw [Nat.zero_add], oN, X⟩)
  refine ops_nil ?_
  refine c_false rfl ?_
  refine c_skip ?_
  refine tq_n ?_
  refine c_seqR ?_
  refine ops_cons rfl (ow_buildSlice el24 ti59 rfl rfl rfl rfl rfl ?_)
  intro gO w2 egO oO bbgO x1 zgO
  replace oO := Own.low oO X.size
  replace hs := hs.ext x1
  replace X := Ext.trans X x1; clear x1
  refine ops_cons rfl (ow_move rfl ?_)
  refine ops_cons rfl (ow_append (ts := #[]) oO X.size hs (flat_len NodeI.len xs) (one_NodeI xs) el24 ti59 rfl rfl rfl rfl (by omega) (by omega) ?_)
  intro AoN coN w4 oN hg3
  replace hs := hs.grown hg3 (fun g hg => Nat.le_trans Bhs (Own.lt oO hg).1)
  replace X := X.grown hg3 X.size (fun g hg => (Own.lt oO hg).1)
  clear hg3
  refine ops_cons rfl (ow_assign rfl ?_)
  refine ops_nil ?_
  refine c_ret ?_
  refine fin_ret1 rfl rfl ?_
  · skip
    first
    | (subst hA
       have e := hs.none_nil NodeI.len (by omega)
       subst e; exact ⟨none, 0, rfl, Own.nil_ _ _ _ _, X⟩)
    | (rw [Nat.zero_add] at oN; exact ⟨_, _, by rw [Nat.zero_add], oN, X⟩)

theorem cloneModeI_c (A : Option Addr) (B c : Nat) (xs : List ModeI) (w : World) (hs : Sl B w A (xs.flatMap ModeI.cells)) (hl : xs.length ≤ 1048576) :
    Calls Tryz.prog 193 #[.slice A xs.length c] w (Ret fun v w' => ∃ A' c', v = .slice A' xs.length c' ∧ Own w' w.heap.size 92 3 A' xs.length c' (xs.flatMap ModeI.cells) ∧ Ext w w') := by
  have Bhs := hs.1
  have X := Ext.refl w
  refine calls_of (args := [.slice A xs.length c]) Tryz.func193 Tryz.ntmps193 rfl rfl ?_
  refine c_seqR ?_
  refine ops_cons rfl (ow_assign rfl ?_)
  refine ops_nil ?_
  refine c_seq ?_
  refine c_seqR ?_
  refine ops_cons rfl (ow_move rfl ?_)
  refine ops_cons rfl (ow_eqlN2 Tryz.underlying25 rfl rfl (fun hA => ?_) (fun hA => ?_))
  refine ops_nil ?_
  refine c_true rfl ?_
  refine c_seqR ?_
  refine ops_cons rfl (ow_assign rfl ?_)
  refine ops_nil ?_
  refine c_ret ?_
  refine tq_r ?_
  refine fin_ret1 rfl rfl ?_
  · skip
    first
    | (subst hA
       have e := hs.none_nil ModeI.len (by omega)
       subst e; exact ⟨none, 0, rfl, Own.nil_ _ _ _ _, X⟩)
    | (rw [Nat.zero_add] at oN; exact ⟨_, _, by rw [Nat.zero_add], oN, X⟩)
  refine ops_nil ?_
  refine c_false rfl ?_
  refine c_skip ?_
  refine tq_n ?_
  refine c_seqR ?_
  refine ops_cons rfl (ow_buildSlice el25 ti92 rfl rfl rfl rfl rfl ?_)
  intro gO w2 egO oO bbgO x1 zgO
  replace oO := Own.low oO X.size
  replace hs := hs.ext x1
  replace X := Ext.trans X x1; clear x1
  refine ops_cons rfl (ow_move rfl ?_)
  refine ops_cons rfl (ow_append (ts := #[]) oO X.size hs (flat_len ModeI.len xs) (one_ModeI xs) el25 ti92 rfl rfl rfl rfl (by omega) (by omega) ?_)
  intro AoN coN w4 oN hg3
  replace hs := hs.grown hg3 (fun g hg => Nat.le_trans Bhs (Own.lt oO hg).1)
  replace X := X.grown hg3 X.size (fun g hg => (Own.lt oO hg).1)
  clear hg3
  refine ops_cons rfl (ow_assign rfl ?_)
  refine ops_nil ?_
  refine c_ret ?_
  refine fin_ret1 rfl rfl ?_
  · skip
    first
    | (subst hA
       have e := hs.none_nil ModeI.len (by omega)
       subst e; exact ⟨none, 0, rfl, Own.nil_ _ _ _ _, X⟩)
    | (rw [Nat.zero_add] at oN; exact ⟨_, _, by rw [Nat.zero_add], oN, X⟩)

theorem cloneSlotI_c (A : Option Addr) (B c : Nat) (xs : List SlotI) (w : World) (hs : Sl B w A (xs.flatMap SlotI.cells)) (hl : xs.length ≤ 1048576) :
    Calls Tryz.prog 194 #[.slice A xs.length c] w (Ret fun v w' => ∃ A' c', v = .slice A' xs.length c' ∧ Own w' w.heap.size 89 8 A' xs.length c' (xs.flatMap SlotI.cells) ∧ Ext w w') := by
  have Bhs := hs.1
  have X := Ext.refl w
  refine calls_of (args := [.slice A xs.length c]) Tryz.func194 Tryz.ntmps194 rfl rfl ?_
  refine c_seqR ?_
  refine ops_cons rfl (ow_assign rfl ?_)
  refine ops_nil ?_
  refine c_seq ?_
  refine c_seqR ?_
  refine ops_cons rfl (ow_move rfl ?_)
  refine ops_cons rfl (ow_eqlN2 Tryz.underlying26 rfl rfl (fun hA => ?_) (fun hA => ?_))
  refine ops_nil ?_
  refine c_true rfl ?_
  refine c_seqR ?_
  refine ops_cons rfl (ow_assign rfl ?_)
  refine ops_nil ?_
  refine c_ret ?_
  refine tq_r ?_
  refine fin_ret1 rfl rfl ?_
  · skip
    first
    | (subst hA
       have e := hs.none_nil SlotI.len (by omega)
       subst e; exact ⟨none, 0, rfl, Own.nil_ _ _ _ _, X⟩)
    | (rw [Nat.zero_add] at oN; exact ⟨_, _, by rw [Nat.zero_add], oN, X⟩)
  refine ops_nil ?_
  refine c_false rfl ?_
  refine c_skip ?_
  refine tq_n ?_
  refine c_seqR ?_
  refine ops_cons rfl (ow_buildSlice el26 ti89 rfl rfl rfl rfl rfl ?_)
  intro gO w2 egO oO bbgO x1 zgO
  replace oO := Own.low oO X.size
  replace hs := hs.ext x1
  replace X := Ext.trans X x1; clear x1
  refine ops_cons rfl (ow_move rfl ?_)
  refine ops_cons rfl (ow_append (ts := #[]) oO X.size hs (flat_len SlotI.len xs) (one_SlotI xs) el26 ti89 rfl rfl rfl rfl (by omega) (by omega) ?_)
  intro AoN coN w4 oN hg3
  replace hs := hs.grown hg3 (fun g hg => Nat.le_trans Bhs (Own.lt oO hg).1)
  replace X := X.grown hg3 X.size (fun g hg => (Own.lt oO hg).1)
  clear hg3
  refine ops_cons rfl (ow_assign rfl ?_)
  refine ops_nil ?_
  refine c_ret ?_
  refine fin_ret1 rfl rfl ?_
  · skip
    first
    | (subst hA
       have e := hs.none_nil SlotI.len (by omega)
       subst e; exact ⟨none, 0, rfl, Own.nil_ _ _ _ _, X⟩)
    | (rw [Nat.zero_add] at oN; exact ⟨_, _, by rw [Nat.zero_add], oN, X⟩)

theorem cloneint_c (A : Option Addr) (B c : Nat) (xs : List Int) (w : World) (hs : Sl B w A (xs.flatMap eI)) (hl : xs.length ≤ 1048576) :
    Calls Tryz.prog 195 #[.slice A xs.length c] w (Ret fun v w' => ∃ A' c', v = .slice A' xs.length c' ∧ Own w' w.heap.size 2 1 A' xs.length c' (xs.flatMap eI) ∧ Ext w w') := by
  have Bhs := hs.1
  have X := Ext.refl w
  refine calls_of (args := [.slice A xs.length c]) Tryz.func195 Tryz.ntmps195 rfl rfl ?_
  refine c_seqR ?_
  refine ops_cons rfl (ow_assign rfl ?_)
  refine ops_nil ?_
  refine c_seq ?_
  refine c_seqR ?_
  refine ops_cons rfl (ow_move rfl ?_)
  refine ops_cons rfl (ow_eqlN2 Tryz.underlying30 rfl rfl (fun hA => ?_) (fun hA => ?_))
  refine ops_nil ?_
  refine c_true rfl ?_
  refine c_seqR ?_
  refine ops_cons rfl (ow_assign rfl ?_)
  refine ops_nil ?_
  refine c_ret ?_
  refine tq_r ?_
  refine fin_ret1 rfl rfl ?_
  · skip
    first
    | (subst hA
       have e := hs.none_nil eI_len (by omega)
       subst e; exact ⟨none, 0, rfl, Own.nil_ _ _ _ _, X⟩)
    | (rw [Nat.zero_add] at oN; exact ⟨_, _, by rw [Nat.zero_add], oN, X⟩)
  refine ops_nil ?_
  refine c_false rfl ?_
  refine c_skip ?_
  refine tq_n ?_
  refine c_seqR ?_
  refine ops_cons rfl (ow_buildSlice el30 ti2 rfl rfl rfl rfl rfl ?_)
  intro gO w2 egO oO bbgO x1 zgO
  replace oO := Own.low oO X.size
  replace hs := hs.ext x1
  replace X := Ext.trans X x1; clear x1
  refine ops_cons rfl (ow_move rfl ?_)
  refine ops_cons rfl (ow_append (ts := #[]) oO X.size hs (flat_len eI_len xs) (one_ints xs) el30 ti2 rfl rfl rfl rfl (by omega) (by omega) ?_)
  intro AoN coN w4 oN hg3
  replace hs := hs.grown hg3 (fun g hg => Nat.le_trans Bhs (Own.lt oO hg).1)
  replace X := X.grown hg3 X.size (fun g hg => (Own.lt oO hg).1)
  clear hg3
  refine ops_cons rfl (ow_assign rfl ?_)
  refine ops_nil ?_
  refine c_ret ?_
  refine fin_ret1 rfl rfl ?_
  · skip
    first
    | (subst hA
       have e := hs.none_nil eI_len (by omega)
       subst e; exact ⟨none, 0, rfl, Own.nil_ _ _ _ _, X⟩)
    | (rw [Nat.zero_add] at oN; exact ⟨_, _, by rw [Nat.zero_add], oN, X⟩)

theorem l13Own_c (m : MedlI) (B : Nat) (w : World) (hm : Med B w m) (hz : m.small) :
    Calls Tryz.prog 112 #[.agg m.cells.toArray] w (Ret fun v w' => ∃ m', v = .agg m'.cells.toArray ∧ m'.d = m.d ∧ MOwn w' w.heap.size 59 92 2 89 m' ∧ Ext w w') := by
  have hls := hz.ls
  have hlm := hz.lm
  have hln := hz.ln
  have Bhm := hm.1
  have X := Ext.refl w
  refine calls_of (args := [.agg m.cells.toArray]) Tryz.func112 Tryz.ntmps112 rfl rfl ?_
  refine c_seqR ?_
  refine ops_cons rfl (ow_box rfl rfl ?_)
  intro gM w2 egM bM x1 zgM
  have lgM : w.heap.size ≤ gM := Nat.le_trans X.size (Nat.le_of_eq egM.symm)
  have pgMhm := Nat.le_trans hm.1 (Nat.le_of_eq egM.symm)
  replace hm := hm.ext x1
  replace X := Ext.trans X x1; clear x1
  refine ops_cons rfl (ow_alloc ti28 ?_)
  intro g2 w4 eg2 b2 x3 zg2
  have lg2 : w.heap.size ≤ g2 := Nat.le_trans X.size (Nat.le_of_eq eg2.symm)
  have pg2hm := Nat.le_trans hm.1 (Nat.le_of_eq eg2.symm)
  have ng2bM := Nat.lt_of_lt_of_eq bM.lt eg2.symm
  replace hm := hm.ext x3
  replace bM := bM.ext x3
  replace X := Ext.trans X x3; clear x3
  refine ops_nil ?_
  refine c_seqR ?_
  refine ops_cons rfl (ow_buildSlice el25 ti92 rfl rfl rfl rfl rfl ?_)
  intro gO w6 egO oT bbgO x5 zgO
  replace oT := Own.low oT X.size
  replace hm := hm.ext x5
  replace bM := bM.ext x5
  replace b2 := b2.ext x5
  replace X := Ext.trans X x5; clear x5
  refine ops_cons rfl (ow_assign rfl ?_)
  refine ops_nil ?_
  refine c_seq ?_
  refine c_seqR ?_
  refine ops_cons rfl (ow_assign rfl ?_)
  refine ops_nil ?_
  refine c_block ?_
  refine c_loop (G := Nat × List ModeI × Nat × Option Addr × Nat) (fun ⟨k, ys, n1, A1, c1⟩ => [(1, .pointer (some ⟨gM, 0, none⟩)), (2, .pointer (some ⟨g2, 0, none⟩)), (3, .slice A1 n1 c1), (4, .int .i64 (k : Nat))]) (fun ⟨k, ys, n1, A1, c1⟩ wr => k ≤ m.ms.length ∧ n1 = ys.length ∧ n1 = k ∧ ys.map (·.m) = (m.ms.take k).map (·.m) ∧ Disj ys ∧ Own wr w.heap.size 92 3 A1 n1 c1 (ys.flatMap ModeI.cells) ∧ NOwn wr w.heap.size 2 ys ∧ Med B wr m ∧ Blk wr gM 28 m.cells ∧ Blk wr g2 28 zeroM.cells ∧ Ext w wr) (fun ⟨k, ys, n1, A1, c1⟩ => m.ms.length - k) (0, [], 0, some ⟨gO, 0, none⟩, 0) (.cons rfl (.cons rfl (.cons rfl (.cons rfl (.nil _))))) ?_ ?_
  · exact ⟨by omega, rfl, rfl, rfl, Disj.nil_, oT, NOwn.nil_, hm, bM, b2, X⟩
  clear hm bM b2 oT
  clear X
  rintro ⟨k, ys, n1, A1, c1⟩ wr ⟨hk0, hn, hn1, em, hd, oT, oN, hm, bM, b2, X⟩
  refine c_seq ?_
  refine c_seqR ?_
  refine ops_cons rfl (ow_move rfl ?_)
  refine ops_cons rfl (ow_fieldAddrB off28_2 rfl rfl ?_)
  refine ops_cons rfl (ow_loadB bM ti25 rfl rfl ?_)
  refine ops_cons rfl (ow_len Tryz.underlying25 rfl ?_)
  refine ops_cons rfl (ow_lss2 rfl rfl (fun hk => ?_) (fun hk => ?_))
  obtain ⟨x, hx, dx⟩ := drop_at' hk
  have hnl := hz.lx x (List.mem_of_getElem? hx)
  refine ops_nil ?_
  refine c_true rfl ?_
  refine c_skip ?_
  refine tq_n ?_
  refine c_seq ?_
  refine c_block ?_
  refine c_regI (fun wz => Med B wz m ∧ Blk wz gM 28 m.cells) mixed ?_
  obtain ⟨w7, ew7⟩ : ∃ wy, wy = World.drew wr := ⟨_, rfl⟩
  rw [← ew7]
  have xd : Ext wr w7 := ew7 ▸ Ext.drew wr
  replace oT := oT.ext xd
  replace oN := oN.ext xd
  replace hm := hm.ext xd
  replace bM := bM.ext xd
  replace b2 := b2.ext xd
  replace X := Ext.trans X xd; clear xd ew7
  refine wi_take 0 rfl (by kernel_rfl) rfl (by kernel_rfl) (listed' := #[true, false, false, false, false, false, false, false, false, false, false, false, false, false, false, false, false, false, false, false, false, false, false, false]) rfl (fun wq sq => ow_move rfl ⟨rfl, rfl⟩) ?_
  refine wi_take 1 rfl (by kernel_rfl) rfl (by kernel_rfl) (listed' := #[true, true, false, false, false, false, false, false, false, false, false, false, false, false, false, false, false, false, false, false, false, false, false, false]) rfl (fun wq sq => ow_fieldAddrB off28_2 rfl rfl ⟨rfl, rfl⟩) ?_
  refine wi_take 2 rfl (by kernel_rfl) rfl (by kernel_rfl) (listed' := #[true, true, true, false, false, false, false, false, false, false, false, false, false, false, false, false, false, false, false, false, false, false, false, false]) rfl (fun wq sq => ow_loadB sq.2 ti25 rfl rfl ⟨rfl, rfl⟩) ?_
  refine wi_take 3 rfl (by kernel_rfl) rfl (by kernel_rfl) (listed' := #[true, true, true, true, false, false, false, false, false, false, false, false, false, false, false, false, false, false, false, false, false, false, false, false]) rfl (fun wq sq => ow_move rfl ⟨rfl, rfl⟩) ?_
  refine wi_take 4 rfl (by kernel_rfl) rfl (by kernel_rfl) (listed' := #[true, true, true, true, true, false, false, false, false, false, false, false, false, false, false, false, false, false, false, false, false, false, false, false]) rfl (fun wq sq => ow_indexT (sq.1).sm ModeI.len rfl el25 rfl rfl rfl hx rfl ⟨rfl, rfl⟩) ?_
  refine wi_take 5 rfl (by kernel_rfl) rfl (by kernel_rfl) (listed' := #[true, true, true, true, true, true, false, false, false, false, false, false, false, false, false, false, false, false, false, false, false, false, false, false]) rfl (fun wq sq => ow_fieldAddr off92_0 rfl ⟨rfl, rfl⟩) ?_
  refine wi_take 6 rfl (by kernel_rfl) rfl (by kernel_rfl) (listed' := #[true, true, true, true, true, true, true, false, false, false, false, false, false, false, false, false, false, false, false, false, false, false, false, false]) rfl (fun wq sq => ow_loadTF (sq.1).sm ModeI.len hx ti2 rfl rfl rfl ⟨rfl, rfl⟩) ?_
  refine wi_take 7 rfl (by kernel_rfl) rfl (by kernel_rfl) (listed' := #[true, true, true, true, true, true, true, true, false, false, false, false, false, false, false, false, false, false, false, false, false, false, false, false]) rfl (fun wq sq => ow_fieldAddrB off28_2 rfl rfl ⟨rfl, rfl⟩) ?_
  refine wi_take 8 rfl (by kernel_rfl) rfl (by kernel_rfl) (listed' := #[true, true, true, true, true, true, true, true, true, false, false, false, false, false, false, false, false, false, false, false, false, false, false, false]) rfl (fun wq sq => ow_loadB sq.2 ti25 rfl rfl ⟨rfl, rfl⟩) ?_
  refine wi_take 9 rfl (by kernel_rfl) rfl (by kernel_rfl) (listed' := #[true, true, true, true, true, true, true, true, true, true, false, false, false, false, false, false, false, false, false, false, false, false, false, false]) rfl (fun wq sq => ow_move rfl ⟨rfl, rfl⟩) ?_
  refine wi_take 10 rfl (by kernel_rfl) rfl (by kernel_rfl) (listed' := #[true, true, true, true, true, true, true, true, true, true, true, false, false, false, false, false, false, false, false, false, false, false, false, false]) rfl (fun wq sq => ow_indexT (sq.1).sm ModeI.len rfl el25 rfl rfl rfl hx rfl ⟨rfl, rfl⟩) ?_
  refine wi_take 11 rfl (by kernel_rfl) rfl (by kernel_rfl) (listed' := #[true, true, true, true, true, true, true, true, true, true, true, true, false, false, false, false, false, false, false, false, false, false, false, false]) rfl (fun wq sq => ow_fieldAddr off92_1 rfl ⟨rfl, rfl⟩) ?_
  refine wi_take 12 rfl (by kernel_rfl) rfl (by kernel_rfl) (listed' := #[true, true, true, true, true, true, true, true, true, true, true, true, true, false, false, false, false, false, false, false, false, false, false, false]) rfl (fun wq sq => ow_loadTF (sq.1).sm ModeI.len hx ti2 rfl rfl rfl ⟨rfl, rfl⟩) ?_
  refine wi_take 13 rfl (by kernel_rfl) rfl (by kernel_rfl) (listed' := #[true, true, true, true, true, true, true, true, true, true, true, true, true, true, false, false, false, false, false, false, false, false, false, false]) rfl (fun wq sq => ow_fieldAddrB off28_2 rfl rfl ⟨rfl, rfl⟩) ?_
  refine wi_take 14 rfl (by kernel_rfl) rfl (by kernel_rfl) (listed' := #[true, true, true, true, true, true, true, true, true, true, true, true, true, true, true, false, false, false, false, false, false, false, false, false]) rfl (fun wq sq => ow_loadB sq.2 ti25 rfl rfl ⟨rfl, rfl⟩) ?_
  refine wi_take 15 rfl (by kernel_rfl) rfl (by kernel_rfl) (listed' := #[true, true, true, true, true, true, true, true, true, true, true, true, true, true, true, true, false, false, false, false, false, false, false, false]) rfl (fun wq sq => ow_move rfl ⟨rfl, rfl⟩) ?_
  refine wi_take 16 rfl (by kernel_rfl) rfl (by kernel_rfl) (listed' := #[true, true, true, true, true, true, true, true, true, true, true, true, true, true, true, true, true, false, false, false, false, false, false, false]) rfl (fun wq sq => ow_indexT (sq.1).sm ModeI.len rfl el25 rfl rfl rfl hx rfl ⟨rfl, rfl⟩) ?_
  refine wi_take 17 rfl (by kernel_rfl) rfl (by kernel_rfl) (listed' := #[true, true, true, true, true, true, true, true, true, true, true, true, true, true, true, true, true, true, false, false, false, false, false, false]) rfl (fun wq sq => ow_fieldAddr off92_2 rfl ⟨rfl, rfl⟩) ?_
  refine wi_take 18 rfl (by kernel_rfl) rfl (by kernel_rfl) (listed' := #[true, true, true, true, true, true, true, true, true, true, true, true, true, true, true, true, true, true, true, false, false, false, false, false]) rfl (fun wq sq => ow_loadTF (sq.1).sm ModeI.len hx ti30 rfl rfl rfl ⟨rfl, rfl⟩) ?_
  have hbd := fun y hy g hg => (Own.lt (oN y hy).1 (g := g) hg).2
  refine wi_one 19 rfl rfl (by kernel_rfl) (listed' := #[true, true, true, true, true, true, true, true, true, true, true, true, true, true, true, true, true, true, true, true, false, false, false, false]) rfl ⟨hm, bM⟩ (ow_call ent196 rfl (ret_mono (l01Own_c _ _ _ _ x.m.next _ (hm.sx.at_ hx) rfl hnl) ?_))
  rintro _ w9 ⟨AW, cW, rfl, oW, x8⟩
  have LoW := X.size
  replace oT := oT.ext x8
  replace oN := oN.ext x8
  replace hm := hm.ext x8
  replace bM := bM.ext x8
  replace b2 := b2.ext x8
  replace X := Ext.trans X x8; clear x8
  have hnb := fun g hg => (Own.lt oW (g := g) hg).1
  replace oW := Own.low oW LoW
  refine wi_take 20 rfl (by kernel_rfl) rfl (by kernel_rfl) (listed' := #[true, true, true, true, true, true, true, true, true, true, true, true, true, true, true, true, true, true, true, true, true, false, false, false]) rfl (fun wq sq => ow_buildP pl92 ti92 rfl rfl ⟨rfl, rfl⟩) ?_
  refine wi_one 21 rfl rfl (by kernel_rfl) (listed' := #[true, true, true, true, true, true, true, true, true, true, true, true, true, true, true, true, true, true, true, true, true, true, false, false]) rfl ⟨hm, bM⟩ (ow_buildSlice el25 ti92 rfl rfl rfl rfl rfl ?_)
  intro g10 w12 eg10 oV bbg10 x11 zg10
  replace oV := Own.low oV X.size
  replace oT := oT.ext x11
  replace oN := oN.ext x11
  replace hm := hm.ext x11
  replace bM := bM.ext x11
  replace b2 := b2.ext x11
  replace oW := oW.ext x11
  replace X := Ext.trans X x11; clear x11
  refine wi_one 22 rfl rfl (by kernel_rfl) (listed' := #[true, true, true, true, true, true, true, true, true, true, true, true, true, true, true, true, true, true, true, true, true, true, true, false]) rfl ⟨hm, bM⟩ (ow_append (ts := #[]) oT X.size oV.sl (by first | rfl | simp) (by first | exact List.all_eq_true.1 rfl | simp [Value.oneCell']) el25 ti92 rfl rfl rfl rfl (by omega) (by omega) ?_)
  intro AoU coU w14 oU hg13
  replace oN := oN.grownO oT hg13 (by decide)
  replace hm := hm.grown hg13 (fun g hg => Nat.le_trans Bhm (Own.lt oT hg).1)
  replace bM := bM.grown hg13 (fun h => Own.neT oT bM (by decide) h.symm)
  replace b2 := b2.grown hg13 (fun h => Own.neT oT b2 (by decide) h.symm)
  replace oW := oW.grown hg13 (Own.neO oW oT (by decide))
  replace X := X.grown hg13 X.size (fun g hg => (Own.lt oT hg).1)
  clear hg13
  refine wi_take 23 rfl (by kernel_rfl) rfl (by kernel_rfl) (listed' := #[true, true, true, true, true, true, true, true, true, true, true, true, true, true, true, true, true, true, true, true, true, true, true, true]) rfl (fun wq sq => ow_assign rfl ⟨rfl, rfl⟩) ?_
  refine wi_done rfl ⟨hm, bM⟩ (fun aj fj => ⟨_, fj, ?_⟩)
  refine bq_n ?_
  refine tq_n ?_
  refine c_region ?_
  refine ops_cons rfl (ow_move rfl ?_)
  refine ops_cons rfl (ow_add rfl rfl (w64 (by omega)) ?_)
  refine ops_cons rfl (ow_assign rfl ?_)
  refine ops_nil ?_
  refine tq_n ⟨(k + 1, ys ++ [⟨⟨x.m.rounds, x.m.slots, x.m.next⟩, AW, cW⟩], n1 + 1, AoU, coU), (.cons rfl (.cons rfl (.cons rfl (.cons rfl (.nil _))))), ?_, ?_⟩
  · exact ⟨by omega, (by simp [hn]), (by omega), (by rw [List.take_add_one, hx]; simp [em]), (hd.snoc (x := ⟨⟨x.m.rounds, x.m.slots, x.m.next⟩, AW, cW⟩) (fun y hy g hg e => absurd (hbd y hy g hg) (Nat.not_lt.2 (hnb g e)))), oU.to (snoc ModeI.cells ys ⟨⟨x.m.rounds, x.m.slots, x.m.next⟩, AW, cW⟩).symm, oN.snoc (x := ⟨⟨x.m.rounds, x.m.slots, x.m.next⟩, AW, cW⟩) oW (by show x.m.next.length ≤ _; omega), hm, bM, b2, X⟩
  · first | omega | (dsimp only; omega)
  refine ops_nil ?_
  refine c_false rfl ?_
  refine c_exit ?_
  refine tq_e ?_
  refine tq_e ?_
  refine bq_e ?_
  refine tq_n ?_
  refine c_seqI (fun wz => Blk wz gM 28 m.cells) mixed ?_
  obtain ⟨w15, ew15⟩ : ∃ wy, wy = World.drew wr := ⟨_, rfl⟩
  rw [← ew15]
  have xd : Ext wr w15 := ew15 ▸ Ext.drew wr
  replace oT := oT.ext xd
  replace oN := oN.ext xd
  replace hm := hm.ext xd
  replace bM := bM.ext xd
  replace b2 := b2.ext xd
  replace X := Ext.trans X xd; clear xd ew15
  subst hn
  refine wi_take 0 rfl (by kernel_rfl) rfl (by kernel_rfl) (listed' := #[true, false, false, false, false, false, false, false, false, false, false, false, false]) rfl (fun wq sq => ow_fieldAddrB off28_0 rfl rfl ⟨rfl, rfl⟩) ?_
  refine wi_take 1 rfl (by kernel_rfl) rfl (by kernel_rfl) (listed' := #[true, true, false, false, false, false, false, false, false, false, false, false, false]) rfl (fun wq sq => ow_loadB sq ti2 rfl rfl ⟨rfl, rfl⟩) ?_
  refine wi_take 3 rfl (by kernel_rfl) rfl (by kernel_rfl) (listed' := #[true, true, false, true, false, false, false, false, false, false, false, false, false]) rfl (fun wq sq => ow_fieldAddrB off28_1 rfl rfl ⟨rfl, rfl⟩) ?_
  refine wi_take 4 rfl (by kernel_rfl) rfl (by kernel_rfl) (listed' := #[true, true, false, true, true, false, false, false, false, false, false, false, false]) rfl (fun wq sq => ow_loadB sq ti24 rfl rfl ⟨rfl, rfl⟩) ?_
  refine wi_take 6 rfl (by kernel_rfl) rfl (by kernel_rfl) (listed' := #[true, true, false, true, true, false, true, false, false, false, false, false, false]) rfl (fun wq sq => ow_move rfl ⟨rfl, rfl⟩) ?_
  refine wi_take 8 rfl (by kernel_rfl) rfl (by kernel_rfl) (listed' := #[true, true, false, true, true, false, true, false, true, false, false, false, false]) rfl (fun wq sq => ow_fieldAddrB off28_3 rfl rfl ⟨rfl, rfl⟩) ?_
  refine wi_take 9 rfl (by kernel_rfl) rfl (by kernel_rfl) (listed' := #[true, true, false, true, true, false, true, false, true, true, false, false, false]) rfl (fun wq sq => ow_loadB sq ti26 rfl rfl ⟨rfl, rfl⟩) ?_
  refine wi_two 2 7 rfl rfl rfl rfl (by kernel_rfl) (listed' := #[true, true, true, true, true, false, true, false, true, true, false, false, false]) (listed'' := #[true, true, false, true, true, false, true, true, true, true, false, false, false]) rfl rfl bM ?_ ?_
  refine (ow_buildSlice el24 ti59 rfl rfl rfl rfl rfl ?_)
  intro g16 w18 eg16 oA bbg16 x17 zg16
  replace oA := Own.low oA X.size
  replace oT := oT.ext x17
  replace oN := oN.ext x17
  replace hm := hm.ext x17
  replace bM := bM.ext x17
  replace b2 := b2.ext x17
  replace X := Ext.trans X x17; clear x17
  refine wi_two 5 7 rfl rfl rfl rfl (by kernel_rfl) (listed' := #[true, true, true, true, true, true, true, false, true, true, false, false, false]) (listed'' := #[true, true, true, true, true, false, true, true, true, true, false, false, false]) rfl rfl bM ?_ ?_
  refine (ow_append (ts := #[]) oA X.size hm.sn (flat_len NodeI.len m.ns) (one_NodeI m.ns) el24 ti59 rfl rfl rfl rfl (by omega) (by omega) ?_)
  intro AoA2 coA2 w20 oA2 hg19
  replace oT := oT.grown hg19 (Own.neO oT oA (by decide))
  replace oN := oN.grownO oA hg19 (by decide)
  replace hm := hm.grown hg19 (fun g hg => Nat.le_trans Bhm (Own.lt oA hg).1)
  replace bM := bM.grown hg19 (fun h => Own.neT oA bM (by decide) h.symm)
  replace b2 := b2.grown hg19 (fun h => Own.neT oA b2 (by decide) h.symm)
  replace X := X.grown hg19 X.size (fun g hg => (Own.lt oA hg).1)
  clear hg19
  rw [show 0 + m.ns.length = m.ns.length from Nat.zero_add _] at oA2 ⊢
  refine wi_one 7 rfl rfl (by kernel_rfl) (listed' := #[true, true, true, true, true, true, true, true, true, true, false, false, false]) rfl bM (ow_buildSlice el26 ti89 rfl rfl rfl rfl rfl ?_)
  intro g21 w23 eg21 oB bbg21 x22 zg21
  replace oB := Own.low oB X.size
  replace oT := oT.ext x22
  replace oN := oN.ext x22
  replace hm := hm.ext x22
  replace bM := bM.ext x22
  replace b2 := b2.ext x22
  replace oA2 := oA2.ext x22
  replace X := Ext.trans X x22; clear x22
  refine wi_one 10 rfl rfl (by kernel_rfl) (listed' := #[true, true, true, true, true, true, true, true, true, true, true, false, false]) rfl bM (ow_append (ts := #[]) oB X.size hm.ss (flat_len SlotI.len m.ss) (one_SlotI m.ss) el26 ti89 rfl rfl rfl rfl (by omega) (by omega) ?_)
  intro AoB2 coB2 w25 oB2 hg24
  replace oT := oT.grown hg24 (Own.neO oT oB (by decide))
  replace oN := oN.grownO oB hg24 (by decide)
  replace hm := hm.grown hg24 (fun g hg => Nat.le_trans Bhm (Own.lt oB hg).1)
  replace bM := bM.grown hg24 (fun h => Own.neT oB bM (by decide) h.symm)
  replace b2 := b2.grown hg24 (fun h => Own.neT oB b2 (by decide) h.symm)
  replace oA2 := oA2.grown hg24 (Own.neO oA2 oB (by decide))
  replace X := X.grown hg24 X.size (fun g hg => (Own.lt oB hg).1)
  clear hg24
  rw [show 0 + m.ss.length = m.ss.length from Nat.zero_add _] at oB2 ⊢
  refine wi_take 11 rfl (by kernel_rfl) rfl (by kernel_rfl) (listed' := #[true, true, true, true, true, true, true, true, true, true, true, true, false]) rfl (fun wq sq => ow_buildP pl28 ti28 rfl rfl ⟨rfl, rfl⟩) ?_
  refine wi_one 12 rfl rfl (by kernel_rfl) (listed' := #[true, true, true, true, true, true, true, true, true, true, true, true, true]) rfl bM (ow_storeB b2 ti28 rfl rfl rfl rfl rfl rfl ?_)
  intro w27 b3 hg26 z28
  replace oT := oT.grownBlk hg26 (Own.neT oT b2 (by decide))
  replace oN := oN.grownB b2 hg26 (by decide)
  replace hm := hm.grown hg26 (by intro g hg; injection hg; omega)
  replace bM := bM.grown hg26 (by intro h; injection h; omega)
  replace oA2 := oA2.grownBlk hg26 (Own.neT oA2 b2 (by decide))
  replace oB2 := oB2.grownBlk hg26 (Own.neT oB2 b2 (by decide))
  replace X := X.grown hg26 X.size (by intro g hg; injection hg; omega)
  clear hg26 b2
  refine wi_done rfl bM (fun aj fj => ⟨_, fj, ?_⟩)
  refine c_ret ?_
  refine fin_cell1 rfl rfl b3 ti28 rfl ?_
  exact ⟨⟨m.id, AoA2, m.ns, coA2, A1, ys, c1, AoB2, m.ss, coB2⟩, rfl, congrArg (fun z => (⟨m.id, m.ns, z, m.ss⟩ : MedlD)) (by rw [em, List.take_of_length_le (by omega)]; try rfl), ⟨oA2, oT, oN, hd, oB2⟩, X⟩
  refine (ow_buildSlice el26 ti89 rfl rfl rfl rfl rfl ?_)
  intro g29 w31 eg29 oB bbg29 x30 zg29
  replace oB := Own.low oB X.size
  replace oT := oT.ext x30
  replace oN := oN.ext x30
  replace hm := hm.ext x30
  replace bM := bM.ext x30
  replace b2 := b2.ext x30
  replace oA := oA.ext x30
  replace X := Ext.trans X x30; clear x30
  refine wi_one 5 rfl rfl (by kernel_rfl) (listed' := #[true, true, true, true, true, true, true, true, true, true, false, false, false]) rfl bM (ow_append (ts := #[]) oA X.size hm.sn (flat_len NodeI.len m.ns) (one_NodeI m.ns) el24 ti59 rfl rfl rfl rfl (by omega) (by omega) ?_)
  intro AoA2 coA2 w33 oA2 hg32
  replace oT := oT.grown hg32 (Own.neO oT oA (by decide))
  replace oN := oN.grownO oA hg32 (by decide)
  replace hm := hm.grown hg32 (fun g hg => Nat.le_trans Bhm (Own.lt oA hg).1)
  replace bM := bM.grown hg32 (fun h => Own.neT oA bM (by decide) h.symm)
  replace b2 := b2.grown hg32 (fun h => Own.neT oA b2 (by decide) h.symm)
  replace oB := oB.grown hg32 (Own.neO oB oA (by decide))
  replace X := X.grown hg32 X.size (fun g hg => (Own.lt oA hg).1)
  clear hg32
  rw [show 0 + m.ns.length = m.ns.length from Nat.zero_add _] at oA2 ⊢
  refine wi_one 10 rfl rfl (by kernel_rfl) (listed' := #[true, true, true, true, true, true, true, true, true, true, true, false, false]) rfl bM (ow_append (ts := #[]) oB X.size hm.ss (flat_len SlotI.len m.ss) (one_SlotI m.ss) el26 ti89 rfl rfl rfl rfl (by omega) (by omega) ?_)
  intro AoB2 coB2 w35 oB2 hg34
  replace oT := oT.grown hg34 (Own.neO oT oB (by decide))
  replace oN := oN.grownO oB hg34 (by decide)
  replace hm := hm.grown hg34 (fun g hg => Nat.le_trans Bhm (Own.lt oB hg).1)
  replace bM := bM.grown hg34 (fun h => Own.neT oB bM (by decide) h.symm)
  replace b2 := b2.grown hg34 (fun h => Own.neT oB b2 (by decide) h.symm)
  replace oA2 := oA2.grown hg34 (Own.neO oA2 oB (by decide))
  replace X := X.grown hg34 X.size (fun g hg => (Own.lt oB hg).1)
  clear hg34
  rw [show 0 + m.ss.length = m.ss.length from Nat.zero_add _] at oB2 ⊢
  refine wi_take 11 rfl (by kernel_rfl) rfl (by kernel_rfl) (listed' := #[true, true, true, true, true, true, true, true, true, true, true, true, false]) rfl (fun wq sq => ow_buildP pl28 ti28 rfl rfl ⟨rfl, rfl⟩) ?_
  refine wi_one 12 rfl rfl (by kernel_rfl) (listed' := #[true, true, true, true, true, true, true, true, true, true, true, true, true]) rfl bM (ow_storeB b2 ti28 rfl rfl rfl rfl rfl rfl ?_)
  intro w37 b3 hg36 z38
  replace oT := oT.grownBlk hg36 (Own.neT oT b2 (by decide))
  replace oN := oN.grownB b2 hg36 (by decide)
  replace hm := hm.grown hg36 (by intro g hg; injection hg; omega)
  replace bM := bM.grown hg36 (by intro h; injection h; omega)
  replace oA2 := oA2.grownBlk hg36 (Own.neT oA2 b2 (by decide))
  replace oB2 := oB2.grownBlk hg36 (Own.neT oB2 b2 (by decide))
  replace X := X.grown hg36 X.size (by intro g hg; injection hg; omega)
  clear hg36 b2
  refine wi_done rfl bM (fun aj fj => ⟨_, fj, ?_⟩)
  refine c_ret ?_
  refine fin_cell1 rfl rfl b3 ti28 rfl ?_
  exact ⟨⟨m.id, AoA2, m.ns, coA2, A1, ys, c1, AoB2, m.ss, coB2⟩, rfl, congrArg (fun z => (⟨m.id, m.ns, z, m.ss⟩ : MedlD)) (by rw [em, List.take_of_length_le (by omega)]; try rfl), ⟨oA2, oT, oN, hd, oB2⟩, X⟩
  refine (ow_buildSlice el26 ti89 rfl rfl rfl rfl rfl ?_)
  intro g39 w41 eg39 oB bbg39 x40 zg39
  replace oB := Own.low oB X.size
  replace oT := oT.ext x40
  replace oN := oN.ext x40
  replace hm := hm.ext x40
  replace bM := bM.ext x40
  replace b2 := b2.ext x40
  replace X := Ext.trans X x40; clear x40
  refine wi_one 2 rfl rfl (by kernel_rfl) (listed' := #[true, true, true, true, true, false, true, true, true, true, false, false, false]) rfl bM (ow_buildSlice el24 ti59 rfl rfl rfl rfl rfl ?_)
  intro g42 w44 eg42 oA bbg42 x43 zg42
  replace oA := Own.low oA X.size
  replace oT := oT.ext x43
  replace oN := oN.ext x43
  replace hm := hm.ext x43
  replace bM := bM.ext x43
  replace b2 := b2.ext x43
  replace oB := oB.ext x43
  replace X := Ext.trans X x43; clear x43
  refine wi_one 5 rfl rfl (by kernel_rfl) (listed' := #[true, true, true, true, true, true, true, true, true, true, false, false, false]) rfl bM (ow_append (ts := #[]) oA X.size hm.sn (flat_len NodeI.len m.ns) (one_NodeI m.ns) el24 ti59 rfl rfl rfl rfl (by omega) (by omega) ?_)
  intro AoA2 coA2 w46 oA2 hg45
  replace oT := oT.grown hg45 (Own.neO oT oA (by decide))
  replace oN := oN.grownO oA hg45 (by decide)
  replace hm := hm.grown hg45 (fun g hg => Nat.le_trans Bhm (Own.lt oA hg).1)
  replace bM := bM.grown hg45 (fun h => Own.neT oA bM (by decide) h.symm)
  replace b2 := b2.grown hg45 (fun h => Own.neT oA b2 (by decide) h.symm)
  replace oB := oB.grown hg45 (Own.neO oB oA (by decide))
  replace X := X.grown hg45 X.size (fun g hg => (Own.lt oA hg).1)
  clear hg45
  rw [show 0 + m.ns.length = m.ns.length from Nat.zero_add _] at oA2 ⊢
  refine wi_one 10 rfl rfl (by kernel_rfl) (listed' := #[true, true, true, true, true, true, true, true, true, true, true, false, false]) rfl bM (ow_append (ts := #[]) oB X.size hm.ss (flat_len SlotI.len m.ss) (one_SlotI m.ss) el26 ti89 rfl rfl rfl rfl (by omega) (by omega) ?_)
  intro AoB2 coB2 w48 oB2 hg47
  replace oT := oT.grown hg47 (Own.neO oT oB (by decide))
  replace oN := oN.grownO oB hg47 (by decide)
  replace hm := hm.grown hg47 (fun g hg => Nat.le_trans Bhm (Own.lt oB hg).1)
  replace bM := bM.grown hg47 (fun h => Own.neT oB bM (by decide) h.symm)
  replace b2 := b2.grown hg47 (fun h => Own.neT oB b2 (by decide) h.symm)
  replace oA2 := oA2.grown hg47 (Own.neO oA2 oB (by decide))
  replace X := X.grown hg47 X.size (fun g hg => (Own.lt oB hg).1)
  clear hg47
  rw [show 0 + m.ss.length = m.ss.length from Nat.zero_add _] at oB2 ⊢
  refine wi_take 11 rfl (by kernel_rfl) rfl (by kernel_rfl) (listed' := #[true, true, true, true, true, true, true, true, true, true, true, true, false]) rfl (fun wq sq => ow_buildP pl28 ti28 rfl rfl ⟨rfl, rfl⟩) ?_
  refine wi_one 12 rfl rfl (by kernel_rfl) (listed' := #[true, true, true, true, true, true, true, true, true, true, true, true, true]) rfl bM (ow_storeB b2 ti28 rfl rfl rfl rfl rfl rfl ?_)
  intro w50 b3 hg49 z51
  replace oT := oT.grownBlk hg49 (Own.neT oT b2 (by decide))
  replace oN := oN.grownB b2 hg49 (by decide)
  replace hm := hm.grown hg49 (by intro g hg; injection hg; omega)
  replace bM := bM.grown hg49 (by intro h; injection h; omega)
  replace oA2 := oA2.grownBlk hg49 (Own.neT oA2 b2 (by decide))
  replace oB2 := oB2.grownBlk hg49 (Own.neT oB2 b2 (by decide))
  replace X := X.grown hg49 X.size (by intro g hg; injection hg; omega)
  clear hg49 b2
  refine wi_done rfl bM (fun aj fj => ⟨_, fj, ?_⟩)
  refine c_ret ?_
  refine fin_cell1 rfl rfl b3 ti28 rfl ?_
  exact ⟨⟨m.id, AoA2, m.ns, coA2, A1, ys, c1, AoB2, m.ss, coB2⟩, rfl, congrArg (fun z => (⟨m.id, m.ns, z, m.ss⟩ : MedlD)) (by rw [em, List.take_of_length_le (by omega)]; try rfl), ⟨oA2, oT, oN, hd, oB2⟩, X⟩

theorem copyMedl_c (m : MedlI) (B : Nat) (w : World) (hm : Med B w m) (hz : m.small) :
    Calls Tryz.prog 110 #[.agg m.cells.toArray] w (Ret fun v w' => ∃ m', v = .agg m'.cells.toArray ∧ m'.d = m.d ∧ MOwn w' w.heap.size 59 92 2 89 m' ∧ Ext w w') := by
  have hls := hz.ls
  have hlm := hz.lm
  have hln := hz.ln
  have Bhm := hm.1
  have X := Ext.refl w
  refine calls_of (args := [.agg m.cells.toArray]) Tryz.func110 Tryz.ntmps110 rfl rfl ?_
  refine c_seqR ?_
  refine ops_cons rfl (ow_box rfl rfl ?_)
  intro gM w2 egM bM x1 zgM
  have lgM : w.heap.size ≤ gM := Nat.le_trans X.size (Nat.le_of_eq egM.symm)
  have pgMhm := Nat.le_trans hm.1 (Nat.le_of_eq egM.symm)
  replace hm := hm.ext x1
  replace X := Ext.trans X x1; clear x1
  refine ops_cons rfl (ow_alloc ti28 ?_)
  intro g2 w4 eg2 b2 x3 zg2
  have lg2 : w.heap.size ≤ g2 := Nat.le_trans X.size (Nat.le_of_eq eg2.symm)
  have pg2hm := Nat.le_trans hm.1 (Nat.le_of_eq eg2.symm)
  have ng2bM := Nat.lt_of_lt_of_eq bM.lt eg2.symm
  replace hm := hm.ext x3
  replace bM := bM.ext x3
  replace X := Ext.trans X x3; clear x3
  refine ops_nil ?_
  have Rhm := hm.1
  refine c_seqJ 13 mixed (by kernel_rfl) ?_
  refine je_take 0 _ rfl (by kernel_rfl) rfl (by kernel_rfl) (listed' := #[true, false, false, false, false, false, false, false, false, false, false, false, false, false]) rfl (Up.ext _) (fun wq sq => ow_fieldAddrB off28_0 rfl rfl ⟨rfl, Ext.refl _⟩) ?_
  refine je_take 1 _ rfl (by kernel_rfl) rfl (by kernel_rfl) (listed' := #[true, true, false, false, false, false, false, false, false, false, false, false, false, false]) rfl (Up.ext _) (fun wq sq => ow_loadB (bM.ext sq) ti2 rfl rfl ⟨rfl, Ext.refl _⟩) ?_
  refine je_take 2 _ rfl (by kernel_rfl) rfl (by kernel_rfl) (listed' := #[true, true, true, false, false, false, false, false, false, false, false, false, false, false]) rfl (Up.ext _) (fun wq sq => ow_fieldAddrB off28_1 rfl rfl ⟨rfl, Ext.refl _⟩) ?_
  refine je_take 3 _ rfl (by kernel_rfl) rfl (by kernel_rfl) (listed' := #[true, true, true, true, false, false, false, false, false, false, false, false, false, false]) rfl (Up.ext _) (fun wq sq => ow_loadB (bM.ext sq) ti24 rfl rfl ⟨rfl, Ext.refl _⟩) ?_
  refine je_take 5 _ rfl (by kernel_rfl) rfl (by kernel_rfl) (listed' := #[true, true, true, true, false, true, false, false, false, false, false, false, false, false]) rfl (Up.ext _) (fun wq sq => ow_fieldAddrB off28_2 rfl rfl ⟨rfl, Ext.refl _⟩) ?_
  refine je_take 6 _ rfl (by kernel_rfl) rfl (by kernel_rfl) (listed' := #[true, true, true, true, false, true, true, false, false, false, false, false, false, false]) rfl (Up.ext _) (fun wq sq => ow_loadB (bM.ext sq) ti25 rfl rfl ⟨rfl, Ext.refl _⟩) ?_
  refine je_take 8 _ rfl (by kernel_rfl) rfl (by kernel_rfl) (listed' := #[true, true, true, true, false, true, true, false, true, false, false, false, false, false]) rfl (Up.ext _) (fun wq sq => ow_fieldAddrB off28_3 rfl rfl ⟨rfl, Ext.refl _⟩) ?_
  refine je_take 9 _ rfl (by kernel_rfl) rfl (by kernel_rfl) (listed' := #[true, true, true, true, false, true, true, false, true, true, false, false, false, false]) rfl (Up.ext _) (fun wq sq => ow_loadB (bM.ext sq) ti26 rfl rfl ⟨rfl, Ext.refl _⟩) ?_
  refine je_two 4 12 (fun p : Option Addr × Nat => Value.slice p.1 m.ns.length p.2) (fun p wz => Own wz w.heap.size 59 4 p.1 m.ns.length p.2 (m.ns.flatMap NodeI.cells)) (none, 0) (fun g3 : Nat => Value.pointer (some ⟨g3, 0, none⟩)) (fun g3 wz => Blk wz g3 28 zeroM.cells ∧ w.heap.size ≤ g3 ∧ w4.heap.size ≤ g3 ∧ gM < g3 ∧ g2 < g3) 0 rfl rfl rfl rfl (by kernel_rfl) (listed' := #[true, true, true, true, true, true, true, false, true, true, false, false, false, false]) (listed'' := #[true, true, true, true, false, true, true, false, true, true, false, false, true, false]) rfl rfl ⟨inj_sl, fun _ _ _ h k => h.ext k, fun wq sq => ow_call ent192 rfl (ret_mono (cloneNodeI_c _ _ _ m.ns _ (hm.ext sq).sn hln) (fun v w' h => by obtain ⟨A, c, rfl, ho, hx⟩ := h; exact ⟨(A, c), rfl, Own.low ho (Nat.le_trans X.size (sq).size), hx⟩))⟩ ⟨inj_ptr, fun _ _ _ h k => ⟨h.1.ext k, h.2⟩, fun wq sq => ow_alloc ti28 (fun g w' hg hb hx hz => ⟨g, rfl, ⟨hb, Nat.le_trans (Nat.le_trans X.size (sq).size) (Nat.le_of_eq hg.symm), Nat.le_trans (sq).size (Nat.le_of_eq hg.symm), Nat.lt_of_lt_of_eq (bM.ext sq).lt hg.symm, Nat.lt_of_lt_of_eq (b2.ext sq).lt hg.symm⟩, hx⟩)⟩ ?_ ?_
  rintro ⟨AA, cA⟩
  refine je_two 7 12 (fun p : Option Addr × Nat => Value.slice p.1 m.ms.length p.2) (fun p wz => Own wz w.heap.size 92 3 p.1 m.ms.length p.2 (m.ms.flatMap ModeI.cells)) (none, 0) (fun g3 : Nat => Value.pointer (some ⟨g3, 0, none⟩)) (fun g3 wz => Blk wz g3 28 zeroM.cells ∧ w.heap.size ≤ g3 ∧ w4.heap.size ≤ g3 ∧ gM < g3 ∧ g2 < g3) 0 rfl rfl rfl rfl (by kernel_rfl) (listed' := #[true, true, true, true, true, true, true, true, true, true, false, false, false, false]) (listed'' := #[true, true, true, true, true, true, true, false, true, true, false, false, true, false]) rfl rfl ⟨inj_sl, fun _ _ _ h k => h.ext k, fun wq sq => ow_call ent193 rfl (ret_mono (cloneModeI_c _ _ _ m.ms _ (hm.ext sq.1).sm hlm) (fun v w' h => by obtain ⟨A, c, rfl, ho, hx⟩ := h; exact ⟨(A, c), rfl, Own.low ho (Nat.le_trans X.size (sq.1).size), hx⟩))⟩ ⟨inj_ptr, fun _ _ _ h k => ⟨h.1.ext k, h.2⟩, fun wq sq => ow_alloc ti28 (fun g w' hg hb hx hz => ⟨g, rfl, ⟨hb, Nat.le_trans (Nat.le_trans X.size (sq.1).size) (Nat.le_of_eq hg.symm), Nat.le_trans (sq.1).size (Nat.le_of_eq hg.symm), Nat.lt_of_lt_of_eq (bM.ext sq.1).lt hg.symm, Nat.lt_of_lt_of_eq (b2.ext sq.1).lt hg.symm⟩, hx⟩)⟩ ?_ ?_
  rintro ⟨AB, cB⟩
  refine je_two 10 12 (fun p : Option Addr × Nat => Value.slice p.1 m.ss.length p.2) (fun p wz => Own wz w.heap.size 89 8 p.1 m.ss.length p.2 (m.ss.flatMap SlotI.cells)) (none, 0) (fun g3 : Nat => Value.pointer (some ⟨g3, 0, none⟩)) (fun g3 wz => Blk wz g3 28 zeroM.cells ∧ w.heap.size ≤ g3 ∧ w4.heap.size ≤ g3 ∧ gM < g3 ∧ g2 < g3) 0 rfl rfl rfl rfl (by kernel_rfl) (listed' := #[true, true, true, true, true, true, true, true, true, true, true, false, false, false]) (listed'' := #[true, true, true, true, true, true, true, true, true, true, false, false, true, false]) rfl rfl ⟨inj_sl, fun _ _ _ h k => h.ext k, fun wq sq => ow_call ent194 rfl (ret_mono (cloneSlotI_c _ _ _ m.ss _ (hm.ext sq.1.1).ss hls) (fun v w' h => by obtain ⟨A, c, rfl, ho, hx⟩ := h; exact ⟨(A, c), rfl, Own.low ho (Nat.le_trans X.size (sq.1.1).size), hx⟩))⟩ ⟨inj_ptr, fun _ _ _ h k => ⟨h.1.ext k, h.2⟩, fun wq sq => ow_alloc ti28 (fun g w' hg hb hx hz => ⟨g, rfl, ⟨hb, Nat.le_trans (Nat.le_trans X.size (sq.1.1).size) (Nat.le_of_eq hg.symm), Nat.le_trans (sq.1.1).size (Nat.le_of_eq hg.symm), Nat.lt_of_lt_of_eq (bM.ext sq.1.1).lt hg.symm, Nat.lt_of_lt_of_eq (b2.ext sq.1.1).lt hg.symm⟩, hx⟩)⟩ ?_ ?_
  rintro ⟨AC, cC⟩
  refine je_take 11 _ rfl (by kernel_rfl) rfl (by kernel_rfl) (listed' := #[true, true, true, true, true, true, true, true, true, true, true, true, false, false]) rfl (Up.and (Up.and (Up.and (Up.ext _) (fun _ _ h k => h.ext k)) (fun _ _ h k => h.ext k)) (fun _ _ h k => h.ext k)) (fun wq sq => ow_buildP pl28 ti28 rfl rfl ⟨rfl, Ext.refl _⟩) ?_
  refine je_ov 12 (fun g3 : Nat => Value.pointer (some ⟨g3, 0, none⟩)) (fun g3 wz => Blk wz g3 28 zeroM.cells ∧ w.heap.size ≤ g3 ∧ w4.heap.size ≤ g3 ∧ gM < g3 ∧ g2 < g3) 0 rfl rfl (by kernel_rfl) (listed' := #[true, true, true, true, true, true, true, true, true, true, true, true, true, false]) rfl ⟨inj_ptr, fun _ _ _ h k => ⟨h.1.ext k, h.2⟩, fun wq sq => ow_alloc ti28 (fun g w' hg hb hx hz => ⟨g, rfl, ⟨hb, Nat.le_trans (Nat.le_trans X.size (sq.1.1.1).size) (Nat.le_of_eq hg.symm), Nat.le_trans (sq.1.1.1).size (Nat.le_of_eq hg.symm), Nat.lt_of_lt_of_eq (bM.ext sq.1.1.1).lt hg.symm, Nat.lt_of_lt_of_eq (b2.ext sq.1.1.1).lt hg.symm⟩, hx⟩)⟩ ?_
  intro g3
  refine je_done rfl (fun w5 sq a6 f7 => ⟨_, f7, ?_⟩)
  have xq := sq.1.1.1.1
  have oA := sq.1.1.1.2
  have oB := sq.1.1.2
  have oC := sq.1.2
  have b3 := sq.2.1
  have lg3 := sq.2.2.1
  have rg3 := sq.2.2.2.1
  have ng3gM := sq.2.2.2.2.1
  have ng3g2 := sq.2.2.2.2.2
  replace hm := hm.ext xq
  replace bM := bM.ext xq
  replace b2 := b2.ext xq
  replace X := Ext.trans X xq; clear xq sq
  refine ops_cons rfl (ow_storeB b3 ti28 rfl rfl rfl rfl rfl rfl ?_)
  intro w9 b4 hg8 z10
  replace hm := hm.grown hg8 (by intro g hg; injection hg; omega)
  replace bM := bM.grown hg8 (by intro h; injection h; omega)
  replace b2 := b2.grown hg8 (by intro h; injection h; omega)
  replace oA := oA.grownBlk hg8 (Own.neT oA b3 (by decide))
  replace oB := oB.grownBlk hg8 (Own.neT oB b3 (by decide))
  replace oC := oC.grownBlk hg8 (Own.neT oC b3 (by decide))
  replace X := X.grown hg8 X.size (by intro g hg; injection hg; omega)
  clear hg8 b3
  refine ops_nil ?_
  refine c_seq ?_
  refine c_seqR ?_
  refine ops_cons rfl (ow_fieldAddrB off28_2 rfl rfl ?_)
  refine ops_cons rfl (ow_loadB b4 ti25 rfl rfl ?_)
  refine ops_cons rfl (ow_len Tryz.underlying25 rfl ?_)
  refine ops_cons rfl (ow_move rfl ?_)
  refine ops_nil ?_
  refine c_block ?_
  refine c_loop (G := Nat × List ModeI) (fun ⟨k, ys⟩ => [(2, .pointer (some ⟨g2, 0, none⟩)), (3, .pointer (some ⟨g3, 0, none⟩)), (19, .int .i64 (m.ms.length : Nat)), (20, .int .i64 (k : Nat))]) (fun ⟨k, ys⟩ wr => k ≤ m.ms.length ∧ ys.length = k ∧ ys.map (·.m) = (m.ms.take k).map (·.m) ∧ Disj ys ∧ Own wr w.heap.size 59 4 AA m.ns.length cA (m.ns.flatMap NodeI.cells) ∧ Own wr w.heap.size 89 8 AC m.ss.length cC (m.ss.flatMap SlotI.cells) ∧ Own wr w.heap.size 92 3 AB m.ms.length cB ((ys ++ m.ms.drop k).flatMap ModeI.cells) ∧ NOwn wr w.heap.size 2 ys ∧ Med B wr m ∧ Blk wr gM 28 m.cells ∧ Blk wr g2 28 zeroM.cells ∧ Blk wr g3 28 [.int .i64 m.id, .slice AA m.ns.length cA, .slice AB m.ms.length cB, .slice AC m.ss.length cC] ∧ Ext w wr) (fun ⟨k, ys⟩ => m.ms.length - k) (0, []) (.cons rfl (.cons rfl (.cons rfl (.cons rfl (.nil _))))) ?_ ?_
  · exact ⟨by omega, rfl, rfl, Disj.nil_, oA, oC, oB, NOwn.nil_, hm, bM, b2, b4, X⟩
  clear hm bM b2 oA oB oC b4
  clear X
  rintro ⟨k, ys⟩ wr ⟨hk0, hy, em, hd, oA, oC, oB, oN, hm, bM, b2, b4, X⟩
  refine c_seqR ?_
  refine ops_cons rfl (ow_lss2 rfl rfl (fun hk => ?_) (fun hk => ?_))
  obtain ⟨x, hx, dx⟩ := drop_at' hk
  have hnl := hz.lx x (List.mem_of_getElem? hx)
  have hLx := app_at hy hx
  refine ops_nil ?_
  refine c_seq ?_
  refine c_true rfl ?_
  refine c_skip ?_
  refine tq_n ?_
  refine c_seq ?_
  refine c_block ?_
  refine c_seqR ?_
  refine ops_cons rfl (ow_move rfl ?_)
  refine ops_cons rfl (ow_assign rfl ?_)
  refine ops_nil ?_
  refine c_draw [false, false, false, false, false, false, false, false, false, true, false, false] mixed (by kernel_rfl) ?_
  have LX := X.size
  have hbd := fun y hy g hg => (Own.lt (oN y hy).1 (g := g) hg).2
  refine f_q rfl (fun wq sq => ow_fieldAddrB off28_2 rfl rfl ⟨rfl, Ext.refl _⟩) ?_
  refine f_q rfl (fun wq sq => ow_loadB (b4.ext sq) ti25 rfl rfl ⟨rfl, Ext.refl _⟩) ?_
  refine f_q rfl (fun wq sq => ow_move rfl ⟨rfl, Ext.refl _⟩) ?_
  refine f_q rfl (fun wq sq => ow_fieldAddrB off28_2 rfl rfl ⟨rfl, Ext.refl _⟩) ?_
  refine f_q rfl (fun wq sq => ow_loadB (b4.ext sq) ti25 rfl rfl ⟨rfl, Ext.refl _⟩) ?_
  refine f_q rfl (fun wq sq => ow_move rfl ⟨rfl, Ext.refl _⟩) ?_
  refine f_q rfl (fun wq sq => ow_indexT ((oB.ext sq)).sl ModeI.len rfl el25 rfl (by simp; omega) rfl hLx rfl ⟨rfl, Ext.refl _⟩) ?_
  refine f_q rfl (fun wq sq => ow_fieldAddr off92_2 rfl ⟨rfl, Ext.refl _⟩) ?_
  refine f_q rfl (fun wq sq => ow_loadTF ((oB.ext sq)).sl ModeI.len hLx ti30 rfl rfl rfl ⟨rfl, Ext.refl _⟩) ?_
  refine f_op (fun p : Option Addr × Nat => Value.slice p.1 x.m.next.length p.2) (fun p wz => Own wz wr.heap.size 2 1 p.1 x.m.next.length p.2 (x.m.next.flatMap eI)) (none, 0) rfl ⟨inj_sl, fun _ _ _ h k => h.ext k, fun wq sq => ow_call ent195 rfl (ret_mono (cloneint_c _ _ _ x.m.next _ ((hm.ext sq).sx.at_ hx) hnl) (fun v w' h => by obtain ⟨A, c, rfl, ho, hx⟩ := h; exact ⟨(A, c), rfl, Own.low ho (sq).size, hx⟩))⟩ ?_
  rintro ⟨AW, cW⟩
  refine f_q rfl (fun wq sq => ow_indexT ((oB.ext sq.1)).sl ModeI.len rfl el25 rfl (by simp; omega) rfl hLx rfl ⟨rfl, Ext.refl _⟩) ?_
  refine f_q rfl (fun wq sq => ow_fieldAddr off92_2 rfl ⟨rfl, Ext.refl _⟩) ?_
  refine f_nil (fun w11 sq => ?_)
  have xq := sq.1
  have oW := sq.2
  replace oA := oA.ext xq
  replace oC := oC.ext xq
  replace oB := oB.ext xq
  replace oN := oN.ext xq
  replace hm := hm.ext xq
  replace bM := bM.ext xq
  replace b2 := b2.ext xq
  replace b4 := b4.ext xq
  replace X := Ext.trans X xq; clear xq sq
  refine ops_cons rfl (ow_storeRF oB ti30 rfl rfl rfl rfl (by omega) (by omega) rfl ?_)
  intro w13 oB2 hg12 z14
  replace oA := oA.grown hg12 (Own.neO oA oB (by decide))
  replace oC := oC.grown hg12 (Own.neO oC oB (by decide))
  replace oN := oN.grownO oB hg12 (by decide)
  replace hm := hm.grown hg12 (fun g hg => Nat.le_trans Bhm (Own.lt oB hg).1)
  replace bM := bM.grown hg12 (fun h => Own.neT oB bM (by decide) h.symm)
  replace b2 := b2.grown hg12 (fun h => Own.neT oB b2 (by decide) h.symm)
  replace b4 := b4.grown hg12 (fun h => Own.neT oB b4 (by decide) h.symm)
  replace oW := oW.grown hg12 (Own.neO oW oB (by decide))
  replace X := X.grown hg12 X.size (fun g hg => (Own.lt oB hg).1)
  clear hg12 z14
  replace oB2 := oB2.to (cs' := ((ys ++ [(⟨⟨x.m.rounds, x.m.slots, x.m.next⟩, AW, cW⟩ : ModeI)]) ++ m.ms.drop (k + 1)).flatMap ModeI.cells) (by
    have e1 := set_field (x := x) (x' := (⟨⟨x.m.rounds, x.m.slots, x.m.next⟩, AW, cW⟩ : ModeI)) (vs := [.slice AW x.m.next.length cW]) ModeI.len (s' := 1) (f := 2) rfl (by omega) (ys ++ m.ms.drop k) k hLx
    rw [← app_set hy hx]; exact e1)
  refine ops_nil ?_
  refine bq_n ?_
  refine tq_n ?_
  refine c_region ?_
  refine ops_cons rfl (ow_add rfl rfl (w64 (by omega)) ?_)
  refine ops_cons rfl (ow_move rfl ?_)
  refine ops_nil ?_
  refine tq_n ⟨(k + 1, ys ++ [⟨⟨x.m.rounds, x.m.slots, x.m.next⟩, AW, cW⟩]), (.cons rfl (.cons rfl (.cons rfl (.cons rfl (.nil _))))), ?_, ?_⟩
  · exact ⟨by omega, (by simp [hy]), (by rw [List.take_add_one, hx]; simp [em]), (hd.snoc (x := ⟨⟨x.m.rounds, x.m.slots, x.m.next⟩, AW, cW⟩) (fun y hy g hg e => absurd (hbd y hy g hg) (Nat.not_lt.2 (Own.lt oW e).1))), oA, oC, oB2, oN.snoc (x := ⟨⟨x.m.rounds, x.m.slots, x.m.next⟩, AW, cW⟩) (Own.low oW LX) (by show x.m.next.length ≤ _; omega), hm, bM, b2, b4, X⟩
  · first | omega | (dsimp only; omega)
  refine ops_nil ?_
  refine c_seq ?_
  refine c_false rfl ?_
  refine c_exit ?_
  refine tq_e ?_
  refine tq_e ?_
  refine bq_e ?_
  refine tq_n ?_
  refine c_seqR ?_
  refine ops_cons rfl (ow_loadAB b4 ti28 rfl rfl ?_)
  refine ops_cons rfl (ow_storeB b2 ti28 rfl rfl rfl rfl rfl rfl ?_)
  intro w16 b18 hg15 z17
  replace oA := oA.grownBlk hg15 (Own.neT oA b2 (by decide))
  replace oC := oC.grownBlk hg15 (Own.neT oC b2 (by decide))
  replace oB := oB.grownBlk hg15 (Own.neT oB b2 (by decide))
  replace oN := oN.grownB b2 hg15 (by decide)
  replace hm := hm.grown hg15 (by intro g hg; injection hg; omega)
  replace bM := bM.grown hg15 (by intro h; injection h; omega)
  replace b4 := b4.grown hg15 (by intro h; injection h; omega)
  replace X := X.grown hg15 X.size (by intro g hg; injection hg; omega)
  clear hg15 b2
  refine ops_nil ?_
  refine c_ret ?_
  refine fin_cell1 rfl rfl b18 ti28 rfl ?_
  · skip
    rw [List.drop_eq_nil_of_le (by omega), List.append_nil] at oB
    have hyl : ys.length = m.ms.length := by omega
    rw [← hyl] at oB
    exact ⟨⟨m.id, AA, m.ns, cA, AB, ys, cB, AC, m.ss, cC⟩, by rw [← hyl]; rfl, congrArg (fun z => (⟨m.id, m.ns, z, m.ss⟩ : MedlD)) (by rw [em, List.take_of_length_le (by omega)]; try rfl), ⟨oA, oB, oN, hd, oC⟩, X⟩
  intro g3
  refine je_ov 10 (fun p : Option Addr × Nat => Value.slice p.1 m.ss.length p.2) (fun p wz => Own wz w.heap.size 89 8 p.1 m.ss.length p.2 (m.ss.flatMap SlotI.cells)) (none, 0) rfl rfl (by kernel_rfl) (listed' := #[true, true, true, true, true, true, true, true, true, true, true, false, true, false]) rfl ⟨inj_sl, fun _ _ _ h k => h.ext k, fun wq sq => ow_call ent194 rfl (ret_mono (cloneSlotI_c _ _ _ m.ss _ (hm.ext sq.1.1.1).ss hls) (fun v w' h => by obtain ⟨A, c, rfl, ho, hx⟩ := h; exact ⟨(A, c), rfl, Own.low ho (Nat.le_trans X.size (sq.1.1.1).size), hx⟩))⟩ ?_
  rintro ⟨AC, cC⟩
  refine je_take 11 _ rfl (by kernel_rfl) rfl (by kernel_rfl) (listed' := #[true, true, true, true, true, true, true, true, true, true, true, true, true, false]) rfl (Up.and (Up.and (Up.and (Up.and (Up.ext _) (fun _ _ h k => h.ext k)) (fun _ _ h k => h.ext k)) (fun _ _ h k => ⟨h.1.ext k, h.2⟩)) (fun _ _ h k => h.ext k)) (fun wq sq => ow_buildP pl28 ti28 rfl rfl ⟨rfl, Ext.refl _⟩) ?_
  refine je_done rfl (fun w19 sq a20 f21 => ⟨_, f21, ?_⟩)
  have xq := sq.1.1.1.1
  have oA := sq.1.1.1.2
  have oB := sq.1.1.2
  have b3 := sq.1.2.1
  have oC := sq.2
  have lg3 := sq.1.2.2.1
  have rg3 := sq.1.2.2.2.1
  have ng3gM := sq.1.2.2.2.2.1
  have ng3g2 := sq.1.2.2.2.2.2
  replace hm := hm.ext xq
  replace bM := bM.ext xq
  replace b2 := b2.ext xq
  replace X := Ext.trans X xq; clear xq sq
  refine ops_cons rfl (ow_storeB b3 ti28 rfl rfl rfl rfl rfl rfl ?_)
  intro w23 b4 hg22 z24
  replace hm := hm.grown hg22 (by intro g hg; injection hg; omega)
  replace bM := bM.grown hg22 (by intro h; injection h; omega)
  replace b2 := b2.grown hg22 (by intro h; injection h; omega)
  replace oA := oA.grownBlk hg22 (Own.neT oA b3 (by decide))
  replace oB := oB.grownBlk hg22 (Own.neT oB b3 (by decide))
  replace oC := oC.grownBlk hg22 (Own.neT oC b3 (by decide))
  replace X := X.grown hg22 X.size (by intro g hg; injection hg; omega)
  clear hg22 b3
  refine ops_nil ?_
  refine c_seq ?_
  refine c_seqR ?_
  refine ops_cons rfl (ow_fieldAddrB off28_2 rfl rfl ?_)
  refine ops_cons rfl (ow_loadB b4 ti25 rfl rfl ?_)
  refine ops_cons rfl (ow_len Tryz.underlying25 rfl ?_)
  refine ops_cons rfl (ow_move rfl ?_)
  refine ops_nil ?_
  refine c_block ?_
  refine c_loop (G := Nat × List ModeI) (fun ⟨k, ys⟩ => [(2, .pointer (some ⟨g2, 0, none⟩)), (3, .pointer (some ⟨g3, 0, none⟩)), (19, .int .i64 (m.ms.length : Nat)), (20, .int .i64 (k : Nat))]) (fun ⟨k, ys⟩ wr => k ≤ m.ms.length ∧ ys.length = k ∧ ys.map (·.m) = (m.ms.take k).map (·.m) ∧ Disj ys ∧ Own wr w.heap.size 59 4 AA m.ns.length cA (m.ns.flatMap NodeI.cells) ∧ Own wr w.heap.size 89 8 AC m.ss.length cC (m.ss.flatMap SlotI.cells) ∧ Own wr w.heap.size 92 3 AB m.ms.length cB ((ys ++ m.ms.drop k).flatMap ModeI.cells) ∧ NOwn wr w.heap.size 2 ys ∧ Med B wr m ∧ Blk wr gM 28 m.cells ∧ Blk wr g2 28 zeroM.cells ∧ Blk wr g3 28 [.int .i64 m.id, .slice AA m.ns.length cA, .slice AB m.ms.length cB, .slice AC m.ss.length cC] ∧ Ext w wr) (fun ⟨k, ys⟩ => m.ms.length - k) (0, []) (.cons rfl (.cons rfl (.cons rfl (.cons rfl (.nil _))))) ?_ ?_
  · exact ⟨by omega, rfl, rfl, Disj.nil_, oA, oC, oB, NOwn.nil_, hm, bM, b2, b4, X⟩
  clear hm bM b2 oA oB oC b4
  clear X
  rintro ⟨k, ys⟩ wr ⟨hk0, hy, em, hd, oA, oC, oB, oN, hm, bM, b2, b4, X⟩
  refine c_seqR ?_
  refine ops_cons rfl (ow_lss2 rfl rfl (fun hk => ?_) (fun hk => ?_))
  obtain ⟨x, hx, dx⟩ := drop_at' hk
  have hnl := hz.lx x (List.mem_of_getElem? hx)
  have hLx := app_at hy hx
  refine ops_nil ?_
  refine c_seq ?_
  refine c_true rfl ?_
  refine c_skip ?_
  refine tq_n ?_
  refine c_seq ?_
  refine c_block ?_
  refine c_seqR ?_
  refine ops_cons rfl (ow_move rfl ?_)
  refine ops_cons rfl (ow_assign rfl ?_)
  refine ops_nil ?_
  refine c_draw [false, false, false, false, false, false, false, false, false, true, false, false] mixed (by kernel_rfl) ?_
  have LX := X.size
  have hbd := fun y hy g hg => (Own.lt (oN y hy).1 (g := g) hg).2
  refine f_q rfl (fun wq sq => ow_fieldAddrB off28_2 rfl rfl ⟨rfl, Ext.refl _⟩) ?_
  refine f_q rfl (fun wq sq => ow_loadB (b4.ext sq) ti25 rfl rfl ⟨rfl, Ext.refl _⟩) ?_
  refine f_q rfl (fun wq sq => ow_move rfl ⟨rfl, Ext.refl _⟩) ?_
  refine f_q rfl (fun wq sq => ow_fieldAddrB off28_2 rfl rfl ⟨rfl, Ext.refl _⟩) ?_
  refine f_q rfl (fun wq sq => ow_loadB (b4.ext sq) ti25 rfl rfl ⟨rfl, Ext.refl _⟩) ?_
  refine f_q rfl (fun wq sq => ow_move rfl ⟨rfl, Ext.refl _⟩) ?_
  refine f_q rfl (fun wq sq => ow_indexT ((oB.ext sq)).sl ModeI.len rfl el25 rfl (by simp; omega) rfl hLx rfl ⟨rfl, Ext.refl _⟩) ?_
  refine f_q rfl (fun wq sq => ow_fieldAddr off92_2 rfl ⟨rfl, Ext.refl _⟩) ?_
  refine f_q rfl (fun wq sq => ow_loadTF ((oB.ext sq)).sl ModeI.len hLx ti30 rfl rfl rfl ⟨rfl, Ext.refl _⟩) ?_
  refine f_op (fun p : Option Addr × Nat => Value.slice p.1 x.m.next.length p.2) (fun p wz => Own wz wr.heap.size 2 1 p.1 x.m.next.length p.2 (x.m.next.flatMap eI)) (none, 0) rfl ⟨inj_sl, fun _ _ _ h k => h.ext k, fun wq sq => ow_call ent195 rfl (ret_mono (cloneint_c _ _ _ x.m.next _ ((hm.ext sq).sx.at_ hx) hnl) (fun v w' h => by obtain ⟨A, c, rfl, ho, hx⟩ := h; exact ⟨(A, c), rfl, Own.low ho (sq).size, hx⟩))⟩ ?_
  rintro ⟨AW, cW⟩
  refine f_q rfl (fun wq sq => ow_indexT ((oB.ext sq.1)).sl ModeI.len rfl el25 rfl (by simp; omega) rfl hLx rfl ⟨rfl, Ext.refl _⟩) ?_
  refine f_q rfl (fun wq sq => ow_fieldAddr off92_2 rfl ⟨rfl, Ext.refl _⟩) ?_
  refine f_nil (fun w25 sq => ?_)
  have xq := sq.1
  have oW := sq.2
  replace oA := oA.ext xq
  replace oC := oC.ext xq
  replace oB := oB.ext xq
  replace oN := oN.ext xq
  replace hm := hm.ext xq
  replace bM := bM.ext xq
  replace b2 := b2.ext xq
  replace b4 := b4.ext xq
  replace X := Ext.trans X xq; clear xq sq
  refine ops_cons rfl (ow_storeRF oB ti30 rfl rfl rfl rfl (by omega) (by omega) rfl ?_)
  intro w27 oB2 hg26 z28
  replace oA := oA.grown hg26 (Own.neO oA oB (by decide))
  replace oC := oC.grown hg26 (Own.neO oC oB (by decide))
  replace oN := oN.grownO oB hg26 (by decide)
  replace hm := hm.grown hg26 (fun g hg => Nat.le_trans Bhm (Own.lt oB hg).1)
  replace bM := bM.grown hg26 (fun h => Own.neT oB bM (by decide) h.symm)
  replace b2 := b2.grown hg26 (fun h => Own.neT oB b2 (by decide) h.symm)
  replace b4 := b4.grown hg26 (fun h => Own.neT oB b4 (by decide) h.symm)
  replace oW := oW.grown hg26 (Own.neO oW oB (by decide))
  replace X := X.grown hg26 X.size (fun g hg => (Own.lt oB hg).1)
  clear hg26 z28
  replace oB2 := oB2.to (cs' := ((ys ++ [(⟨⟨x.m.rounds, x.m.slots, x.m.next⟩, AW, cW⟩ : ModeI)]) ++ m.ms.drop (k + 1)).flatMap ModeI.cells) (by
    have e1 := set_field (x := x) (x' := (⟨⟨x.m.rounds, x.m.slots, x.m.next⟩, AW, cW⟩ : ModeI)) (vs := [.slice AW x.m.next.length cW]) ModeI.len (s' := 1) (f := 2) rfl (by omega) (ys ++ m.ms.drop k) k hLx
    rw [← app_set hy hx]; exact e1)
  refine ops_nil ?_
  refine bq_n ?_
  refine tq_n ?_
  refine c_region ?_
  refine ops_cons rfl (ow_add rfl rfl (w64 (by omega)) ?_)
  refine ops_cons rfl (ow_move rfl ?_)
  refine ops_nil ?_
  refine tq_n ⟨(k + 1, ys ++ [⟨⟨x.m.rounds, x.m.slots, x.m.next⟩, AW, cW⟩]), (.cons rfl (.cons rfl (.cons rfl (.cons rfl (.nil _))))), ?_, ?_⟩
  · exact ⟨by omega, (by simp [hy]), (by rw [List.take_add_one, hx]; simp [em]), (hd.snoc (x := ⟨⟨x.m.rounds, x.m.slots, x.m.next⟩, AW, cW⟩) (fun y hy g hg e => absurd (hbd y hy g hg) (Nat.not_lt.2 (Own.lt oW e).1))), oA, oC, oB2, oN.snoc (x := ⟨⟨x.m.rounds, x.m.slots, x.m.next⟩, AW, cW⟩) (Own.low oW LX) (by show x.m.next.length ≤ _; omega), hm, bM, b2, b4, X⟩
  · first | omega | (dsimp only; omega)
  refine ops_nil ?_
  refine c_seq ?_
  refine c_false rfl ?_
  refine c_exit ?_
  refine tq_e ?_
  refine tq_e ?_
  refine bq_e ?_
  refine tq_n ?_
  refine c_seqR ?_
  refine ops_cons rfl (ow_loadAB b4 ti28 rfl rfl ?_)
  refine ops_cons rfl (ow_storeB b2 ti28 rfl rfl rfl rfl rfl rfl ?_)
  intro w30 b32 hg29 z31
  replace oA := oA.grownBlk hg29 (Own.neT oA b2 (by decide))
  replace oC := oC.grownBlk hg29 (Own.neT oC b2 (by decide))
  replace oB := oB.grownBlk hg29 (Own.neT oB b2 (by decide))
  replace oN := oN.grownB b2 hg29 (by decide)
  replace hm := hm.grown hg29 (by intro g hg; injection hg; omega)
  replace bM := bM.grown hg29 (by intro h; injection h; omega)
  replace b4 := b4.grown hg29 (by intro h; injection h; omega)
  replace X := X.grown hg29 X.size (by intro g hg; injection hg; omega)
  clear hg29 b2
  refine ops_nil ?_
  refine c_ret ?_
  refine fin_cell1 rfl rfl b32 ti28 rfl ?_
  · skip
    rw [List.drop_eq_nil_of_le (by omega), List.append_nil] at oB
    have hyl : ys.length = m.ms.length := by omega
    rw [← hyl] at oB
    exact ⟨⟨m.id, AA, m.ns, cA, AB, ys, cB, AC, m.ss, cC⟩, by rw [← hyl]; rfl, congrArg (fun z => (⟨m.id, m.ns, z, m.ss⟩ : MedlD)) (by rw [em, List.take_of_length_le (by omega)]; try rfl), ⟨oA, oB, oN, hd, oC⟩, X⟩
  intro g3
  refine je_ov 7 (fun p : Option Addr × Nat => Value.slice p.1 m.ms.length p.2) (fun p wz => Own wz w.heap.size 92 3 p.1 m.ms.length p.2 (m.ms.flatMap ModeI.cells)) (none, 0) rfl rfl (by kernel_rfl) (listed' := #[true, true, true, true, true, true, true, true, true, true, false, false, true, false]) rfl ⟨inj_sl, fun _ _ _ h k => h.ext k, fun wq sq => ow_call ent193 rfl (ret_mono (cloneModeI_c _ _ _ m.ms _ (hm.ext sq.1.1).sm hlm) (fun v w' h => by obtain ⟨A, c, rfl, ho, hx⟩ := h; exact ⟨(A, c), rfl, Own.low ho (Nat.le_trans X.size (sq.1.1).size), hx⟩))⟩ ?_
  rintro ⟨AB, cB⟩
  refine je_ov 10 (fun p : Option Addr × Nat => Value.slice p.1 m.ss.length p.2) (fun p wz => Own wz w.heap.size 89 8 p.1 m.ss.length p.2 (m.ss.flatMap SlotI.cells)) (none, 0) rfl rfl (by kernel_rfl) (listed' := #[true, true, true, true, true, true, true, true, true, true, true, false, true, false]) rfl ⟨inj_sl, fun _ _ _ h k => h.ext k, fun wq sq => ow_call ent194 rfl (ret_mono (cloneSlotI_c _ _ _ m.ss _ (hm.ext sq.1.1.1).ss hls) (fun v w' h => by obtain ⟨A, c, rfl, ho, hx⟩ := h; exact ⟨(A, c), rfl, Own.low ho (Nat.le_trans X.size (sq.1.1.1).size), hx⟩))⟩ ?_
  rintro ⟨AC, cC⟩
  refine je_take 11 _ rfl (by kernel_rfl) rfl (by kernel_rfl) (listed' := #[true, true, true, true, true, true, true, true, true, true, true, true, true, false]) rfl (Up.and (Up.and (Up.and (Up.and (Up.ext _) (fun _ _ h k => h.ext k)) (fun _ _ h k => ⟨h.1.ext k, h.2⟩)) (fun _ _ h k => h.ext k)) (fun _ _ h k => h.ext k)) (fun wq sq => ow_buildP pl28 ti28 rfl rfl ⟨rfl, Ext.refl _⟩) ?_
  refine je_done rfl (fun w33 sq a34 f35 => ⟨_, f35, ?_⟩)
  have xq := sq.1.1.1.1
  have oA := sq.1.1.1.2
  have b3 := sq.1.1.2.1
  have oB := sq.1.2
  have oC := sq.2
  have lg3 := sq.1.1.2.2.1
  have rg3 := sq.1.1.2.2.2.1
  have ng3gM := sq.1.1.2.2.2.2.1
  have ng3g2 := sq.1.1.2.2.2.2.2
  replace hm := hm.ext xq
  replace bM := bM.ext xq
  replace b2 := b2.ext xq
  replace X := Ext.trans X xq; clear xq sq
  refine ops_cons rfl (ow_storeB b3 ti28 rfl rfl rfl rfl rfl rfl ?_)
  intro w37 b4 hg36 z38
  replace hm := hm.grown hg36 (by intro g hg; injection hg; omega)
  replace bM := bM.grown hg36 (by intro h; injection h; omega)
  replace b2 := b2.grown hg36 (by intro h; injection h; omega)
  replace oA := oA.grownBlk hg36 (Own.neT oA b3 (by decide))
  replace oB := oB.grownBlk hg36 (Own.neT oB b3 (by decide))
  replace oC := oC.grownBlk hg36 (Own.neT oC b3 (by decide))
  replace X := X.grown hg36 X.size (by intro g hg; injection hg; omega)
  clear hg36 b3
  refine ops_nil ?_
  refine c_seq ?_
  refine c_seqR ?_
  refine ops_cons rfl (ow_fieldAddrB off28_2 rfl rfl ?_)
  refine ops_cons rfl (ow_loadB b4 ti25 rfl rfl ?_)
  refine ops_cons rfl (ow_len Tryz.underlying25 rfl ?_)
  refine ops_cons rfl (ow_move rfl ?_)
  refine ops_nil ?_
  refine c_block ?_
  refine c_loop (G := Nat × List ModeI) (fun ⟨k, ys⟩ => [(2, .pointer (some ⟨g2, 0, none⟩)), (3, .pointer (some ⟨g3, 0, none⟩)), (19, .int .i64 (m.ms.length : Nat)), (20, .int .i64 (k : Nat))]) (fun ⟨k, ys⟩ wr => k ≤ m.ms.length ∧ ys.length = k ∧ ys.map (·.m) = (m.ms.take k).map (·.m) ∧ Disj ys ∧ Own wr w.heap.size 59 4 AA m.ns.length cA (m.ns.flatMap NodeI.cells) ∧ Own wr w.heap.size 89 8 AC m.ss.length cC (m.ss.flatMap SlotI.cells) ∧ Own wr w.heap.size 92 3 AB m.ms.length cB ((ys ++ m.ms.drop k).flatMap ModeI.cells) ∧ NOwn wr w.heap.size 2 ys ∧ Med B wr m ∧ Blk wr gM 28 m.cells ∧ Blk wr g2 28 zeroM.cells ∧ Blk wr g3 28 [.int .i64 m.id, .slice AA m.ns.length cA, .slice AB m.ms.length cB, .slice AC m.ss.length cC] ∧ Ext w wr) (fun ⟨k, ys⟩ => m.ms.length - k) (0, []) (.cons rfl (.cons rfl (.cons rfl (.cons rfl (.nil _))))) ?_ ?_
  · exact ⟨by omega, rfl, rfl, Disj.nil_, oA, oC, oB, NOwn.nil_, hm, bM, b2, b4, X⟩
  clear hm bM b2 oA oB oC b4
  clear X
  rintro ⟨k, ys⟩ wr ⟨hk0, hy, em, hd, oA, oC, oB, oN, hm, bM, b2, b4, X⟩
  refine c_seqR ?_
  refine ops_cons rfl (ow_lss2 rfl rfl (fun hk => ?_) (fun hk => ?_))
  obtain ⟨x, hx, dx⟩ := drop_at' hk
  have hnl := hz.lx x (List.mem_of_getElem? hx)
  have hLx := app_at hy hx
  refine ops_nil ?_
  refine c_seq ?_
  refine c_true rfl ?_
  refine c_skip ?_
  refine tq_n ?_
  refine c_seq ?_
  refine c_block ?_
  refine c_seqR ?_
  refine ops_cons rfl (ow_move rfl ?_)
  refine ops_cons rfl (ow_assign rfl ?_)
  refine ops_nil ?_
  refine c_draw [false, false, false, false, false, false, false, false, false, true, false, false] mixed (by kernel_rfl) ?_
  have LX := X.size
  have hbd := fun y hy g hg => (Own.lt (oN y hy).1 (g := g) hg).2
  refine f_q rfl (fun wq sq => ow_fieldAddrB off28_2 rfl rfl ⟨rfl, Ext.refl _⟩) ?_
  refine f_q rfl (fun wq sq => ow_loadB (b4.ext sq) ti25 rfl rfl ⟨rfl, Ext.refl _⟩) ?_
  refine f_q rfl (fun wq sq => ow_move rfl ⟨rfl, Ext.refl _⟩) ?_
  refine f_q rfl (fun wq sq => ow_fieldAddrB off28_2 rfl rfl ⟨rfl, Ext.refl _⟩) ?_
  refine f_q rfl (fun wq sq => ow_loadB (b4.ext sq) ti25 rfl rfl ⟨rfl, Ext.refl _⟩) ?_
  refine f_q rfl (fun wq sq => ow_move rfl ⟨rfl, Ext.refl _⟩) ?_
  refine f_q rfl (fun wq sq => ow_indexT ((oB.ext sq)).sl ModeI.len rfl el25 rfl (by simp; omega) rfl hLx rfl ⟨rfl, Ext.refl _⟩) ?_
  refine f_q rfl (fun wq sq => ow_fieldAddr off92_2 rfl ⟨rfl, Ext.refl _⟩) ?_
  refine f_q rfl (fun wq sq => ow_loadTF ((oB.ext sq)).sl ModeI.len hLx ti30 rfl rfl rfl ⟨rfl, Ext.refl _⟩) ?_
  refine f_op (fun p : Option Addr × Nat => Value.slice p.1 x.m.next.length p.2) (fun p wz => Own wz wr.heap.size 2 1 p.1 x.m.next.length p.2 (x.m.next.flatMap eI)) (none, 0) rfl ⟨inj_sl, fun _ _ _ h k => h.ext k, fun wq sq => ow_call ent195 rfl (ret_mono (cloneint_c _ _ _ x.m.next _ ((hm.ext sq).sx.at_ hx) hnl) (fun v w' h => by obtain ⟨A, c, rfl, ho, hx⟩ := h; exact ⟨(A, c), rfl, Own.low ho (sq).size, hx⟩))⟩ ?_
  rintro ⟨AW, cW⟩
  refine f_q rfl (fun wq sq => ow_indexT ((oB.ext sq.1)).sl ModeI.len rfl el25 rfl (by simp; omega) rfl hLx rfl ⟨rfl, Ext.refl _⟩) ?_
  refine f_q rfl (fun wq sq => ow_fieldAddr off92_2 rfl ⟨rfl, Ext.refl _⟩) ?_
  refine f_nil (fun w39 sq => ?_)
  have xq := sq.1
  have oW := sq.2
  replace oA := oA.ext xq
  replace oC := oC.ext xq
  replace oB := oB.ext xq
  replace oN := oN.ext xq
  replace hm := hm.ext xq
  replace bM := bM.ext xq
  replace b2 := b2.ext xq
  replace b4 := b4.ext xq
  replace X := Ext.trans X xq; clear xq sq
  refine ops_cons rfl (ow_storeRF oB ti30 rfl rfl rfl rfl (by omega) (by omega) rfl ?_)
  intro w41 oB2 hg40 z42
  replace oA := oA.grown hg40 (Own.neO oA oB (by decide))
  replace oC := oC.grown hg40 (Own.neO oC oB (by decide))
  replace oN := oN.grownO oB hg40 (by decide)
  replace hm := hm.grown hg40 (fun g hg => Nat.le_trans Bhm (Own.lt oB hg).1)
  replace bM := bM.grown hg40 (fun h => Own.neT oB bM (by decide) h.symm)
  replace b2 := b2.grown hg40 (fun h => Own.neT oB b2 (by decide) h.symm)
  replace b4 := b4.grown hg40 (fun h => Own.neT oB b4 (by decide) h.symm)
  replace oW := oW.grown hg40 (Own.neO oW oB (by decide))
  replace X := X.grown hg40 X.size (fun g hg => (Own.lt oB hg).1)
  clear hg40 z42
  replace oB2 := oB2.to (cs' := ((ys ++ [(⟨⟨x.m.rounds, x.m.slots, x.m.next⟩, AW, cW⟩ : ModeI)]) ++ m.ms.drop (k + 1)).flatMap ModeI.cells) (by
    have e1 := set_field (x := x) (x' := (⟨⟨x.m.rounds, x.m.slots, x.m.next⟩, AW, cW⟩ : ModeI)) (vs := [.slice AW x.m.next.length cW]) ModeI.len (s' := 1) (f := 2) rfl (by omega) (ys ++ m.ms.drop k) k hLx
    rw [← app_set hy hx]; exact e1)
  refine ops_nil ?_
  refine bq_n ?_
  refine tq_n ?_
  refine c_region ?_
  refine ops_cons rfl (ow_add rfl rfl (w64 (by omega)) ?_)
  refine ops_cons rfl (ow_move rfl ?_)
  refine ops_nil ?_
  refine tq_n ⟨(k + 1, ys ++ [⟨⟨x.m.rounds, x.m.slots, x.m.next⟩, AW, cW⟩]), (.cons rfl (.cons rfl (.cons rfl (.cons rfl (.nil _))))), ?_, ?_⟩
  · exact ⟨by omega, (by simp [hy]), (by rw [List.take_add_one, hx]; simp [em]), (hd.snoc (x := ⟨⟨x.m.rounds, x.m.slots, x.m.next⟩, AW, cW⟩) (fun y hy g hg e => absurd (hbd y hy g hg) (Nat.not_lt.2 (Own.lt oW e).1))), oA, oC, oB2, oN.snoc (x := ⟨⟨x.m.rounds, x.m.slots, x.m.next⟩, AW, cW⟩) (Own.low oW LX) (by show x.m.next.length ≤ _; omega), hm, bM, b2, b4, X⟩
  · first | omega | (dsimp only; omega)
  refine ops_nil ?_
  refine c_seq ?_
  refine c_false rfl ?_
  refine c_exit ?_
  refine tq_e ?_
  refine tq_e ?_
  refine bq_e ?_
  refine tq_n ?_
  refine c_seqR ?_
  refine ops_cons rfl (ow_loadAB b4 ti28 rfl rfl ?_)
  refine ops_cons rfl (ow_storeB b2 ti28 rfl rfl rfl rfl rfl rfl ?_)
  intro w44 b46 hg43 z45
  replace oA := oA.grownBlk hg43 (Own.neT oA b2 (by decide))
  replace oC := oC.grownBlk hg43 (Own.neT oC b2 (by decide))
  replace oB := oB.grownBlk hg43 (Own.neT oB b2 (by decide))
  replace oN := oN.grownB b2 hg43 (by decide)
  replace hm := hm.grown hg43 (by intro g hg; injection hg; omega)
  replace bM := bM.grown hg43 (by intro h; injection h; omega)
  replace b4 := b4.grown hg43 (by intro h; injection h; omega)
  replace X := X.grown hg43 X.size (by intro g hg; injection hg; omega)
  clear hg43 b2
  refine ops_nil ?_
  refine c_ret ?_
  refine fin_cell1 rfl rfl b46 ti28 rfl ?_
  · skip
    rw [List.drop_eq_nil_of_le (by omega), List.append_nil] at oB
    have hyl : ys.length = m.ms.length := by omega
    rw [← hyl] at oB
    exact ⟨⟨m.id, AA, m.ns, cA, AB, ys, cB, AC, m.ss, cC⟩, by rw [← hyl]; rfl, congrArg (fun z => (⟨m.id, m.ns, z, m.ss⟩ : MedlD)) (by rw [em, List.take_of_length_le (by omega)]; try rfl), ⟨oA, oB, oN, hd, oC⟩, X⟩
  intro g3
  refine je_ov 4 (fun p : Option Addr × Nat => Value.slice p.1 m.ns.length p.2) (fun p wz => Own wz w.heap.size 59 4 p.1 m.ns.length p.2 (m.ns.flatMap NodeI.cells)) (none, 0) rfl rfl (by kernel_rfl) (listed' := #[true, true, true, true, true, true, true, false, true, true, false, false, true, false]) rfl ⟨inj_sl, fun _ _ _ h k => h.ext k, fun wq sq => ow_call ent192 rfl (ret_mono (cloneNodeI_c _ _ _ m.ns _ (hm.ext sq.1).sn hln) (fun v w' h => by obtain ⟨A, c, rfl, ho, hx⟩ := h; exact ⟨(A, c), rfl, Own.low ho (Nat.le_trans X.size (sq.1).size), hx⟩))⟩ ?_
  rintro ⟨AA, cA⟩
  refine je_ov 7 (fun p : Option Addr × Nat => Value.slice p.1 m.ms.length p.2) (fun p wz => Own wz w.heap.size 92 3 p.1 m.ms.length p.2 (m.ms.flatMap ModeI.cells)) (none, 0) rfl rfl (by kernel_rfl) (listed' := #[true, true, true, true, true, true, true, true, true, true, false, false, true, false]) rfl ⟨inj_sl, fun _ _ _ h k => h.ext k, fun wq sq => ow_call ent193 rfl (ret_mono (cloneModeI_c _ _ _ m.ms _ (hm.ext sq.1.1).sm hlm) (fun v w' h => by obtain ⟨A, c, rfl, ho, hx⟩ := h; exact ⟨(A, c), rfl, Own.low ho (Nat.le_trans X.size (sq.1.1).size), hx⟩))⟩ ?_
  rintro ⟨AB, cB⟩
  refine je_ov 10 (fun p : Option Addr × Nat => Value.slice p.1 m.ss.length p.2) (fun p wz => Own wz w.heap.size 89 8 p.1 m.ss.length p.2 (m.ss.flatMap SlotI.cells)) (none, 0) rfl rfl (by kernel_rfl) (listed' := #[true, true, true, true, true, true, true, true, true, true, true, false, true, false]) rfl ⟨inj_sl, fun _ _ _ h k => h.ext k, fun wq sq => ow_call ent194 rfl (ret_mono (cloneSlotI_c _ _ _ m.ss _ (hm.ext sq.1.1.1).ss hls) (fun v w' h => by obtain ⟨A, c, rfl, ho, hx⟩ := h; exact ⟨(A, c), rfl, Own.low ho (Nat.le_trans X.size (sq.1.1.1).size), hx⟩))⟩ ?_
  rintro ⟨AC, cC⟩
  refine je_take 11 _ rfl (by kernel_rfl) rfl (by kernel_rfl) (listed' := #[true, true, true, true, true, true, true, true, true, true, true, true, true, false]) rfl (Up.and (Up.and (Up.and (Up.and (Up.ext _) (fun _ _ h k => ⟨h.1.ext k, h.2⟩)) (fun _ _ h k => h.ext k)) (fun _ _ h k => h.ext k)) (fun _ _ h k => h.ext k)) (fun wq sq => ow_buildP pl28 ti28 rfl rfl ⟨rfl, Ext.refl _⟩) ?_
  refine je_done rfl (fun w47 sq a48 f49 => ⟨_, f49, ?_⟩)
  have xq := sq.1.1.1.1
  have b3 := sq.1.1.1.2.1
  have oA := sq.1.1.2
  have oB := sq.1.2
  have oC := sq.2
  have lg3 := sq.1.1.1.2.2.1
  have rg3 := sq.1.1.1.2.2.2.1
  have ng3gM := sq.1.1.1.2.2.2.2.1
  have ng3g2 := sq.1.1.1.2.2.2.2.2
  replace hm := hm.ext xq
  replace bM := bM.ext xq
  replace b2 := b2.ext xq
  replace X := Ext.trans X xq; clear xq sq
  refine ops_cons rfl (ow_storeB b3 ti28 rfl rfl rfl rfl rfl rfl ?_)
  intro w51 b4 hg50 z52
  replace hm := hm.grown hg50 (by intro g hg; injection hg; omega)
  replace bM := bM.grown hg50 (by intro h; injection h; omega)
  replace b2 := b2.grown hg50 (by intro h; injection h; omega)
  replace oA := oA.grownBlk hg50 (Own.neT oA b3 (by decide))
  replace oB := oB.grownBlk hg50 (Own.neT oB b3 (by decide))
  replace oC := oC.grownBlk hg50 (Own.neT oC b3 (by decide))
  replace X := X.grown hg50 X.size (by intro g hg; injection hg; omega)
  clear hg50 b3
  refine ops_nil ?_
  refine c_seq ?_
  refine c_seqR ?_
  refine ops_cons rfl (ow_fieldAddrB off28_2 rfl rfl ?_)
  refine ops_cons rfl (ow_loadB b4 ti25 rfl rfl ?_)
  refine ops_cons rfl (ow_len Tryz.underlying25 rfl ?_)
  refine ops_cons rfl (ow_move rfl ?_)
  refine ops_nil ?_
  refine c_block ?_
  refine c_loop (G := Nat × List ModeI) (fun ⟨k, ys⟩ => [(2, .pointer (some ⟨g2, 0, none⟩)), (3, .pointer (some ⟨g3, 0, none⟩)), (19, .int .i64 (m.ms.length : Nat)), (20, .int .i64 (k : Nat))]) (fun ⟨k, ys⟩ wr => k ≤ m.ms.length ∧ ys.length = k ∧ ys.map (·.m) = (m.ms.take k).map (·.m) ∧ Disj ys ∧ Own wr w.heap.size 59 4 AA m.ns.length cA (m.ns.flatMap NodeI.cells) ∧ Own wr w.heap.size 89 8 AC m.ss.length cC (m.ss.flatMap SlotI.cells) ∧ Own wr w.heap.size 92 3 AB m.ms.length cB ((ys ++ m.ms.drop k).flatMap ModeI.cells) ∧ NOwn wr w.heap.size 2 ys ∧ Med B wr m ∧ Blk wr gM 28 m.cells ∧ Blk wr g2 28 zeroM.cells ∧ Blk wr g3 28 [.int .i64 m.id, .slice AA m.ns.length cA, .slice AB m.ms.length cB, .slice AC m.ss.length cC] ∧ Ext w wr) (fun ⟨k, ys⟩ => m.ms.length - k) (0, []) (.cons rfl (.cons rfl (.cons rfl (.cons rfl (.nil _))))) ?_ ?_
  · exact ⟨by omega, rfl, rfl, Disj.nil_, oA, oC, oB, NOwn.nil_, hm, bM, b2, b4, X⟩
  clear hm bM b2 oA oB oC b4
  clear X
  rintro ⟨k, ys⟩ wr ⟨hk0, hy, em, hd, oA, oC, oB, oN, hm, bM, b2, b4, X⟩
  refine c_seqR ?_
  refine ops_cons rfl (ow_lss2 rfl rfl (fun hk => ?_) (fun hk => ?_))
  obtain ⟨x, hx, dx⟩ := drop_at' hk
  have hnl := hz.lx x (List.mem_of_getElem? hx)
  have hLx := app_at hy hx
  refine ops_nil ?_
  refine c_seq ?_
  refine c_true rfl ?_
  refine c_skip ?_
  refine tq_n ?_
  refine c_seq ?_
  refine c_block ?_
  refine c_seqR ?_
  refine ops_cons rfl (ow_move rfl ?_)
  refine ops_cons rfl (ow_assign rfl ?_)
  refine ops_nil ?_
  refine c_draw [false, false, false, false, false, false, false, false, false, true, false, false] mixed (by kernel_rfl) ?_
  have LX := X.size
  have hbd := fun y hy g hg => (Own.lt (oN y hy).1 (g := g) hg).2
  refine f_q rfl (fun wq sq => ow_fieldAddrB off28_2 rfl rfl ⟨rfl, Ext.refl _⟩) ?_
  refine f_q rfl (fun wq sq => ow_loadB (b4.ext sq) ti25 rfl rfl ⟨rfl, Ext.refl _⟩) ?_
  refine f_q rfl (fun wq sq => ow_move rfl ⟨rfl, Ext.refl _⟩) ?_
  refine f_q rfl (fun wq sq => ow_fieldAddrB off28_2 rfl rfl ⟨rfl, Ext.refl _⟩) ?_
  refine f_q rfl (fun wq sq => ow_loadB (b4.ext sq) ti25 rfl rfl ⟨rfl, Ext.refl _⟩) ?_
  refine f_q rfl (fun wq sq => ow_move rfl ⟨rfl, Ext.refl _⟩) ?_
  refine f_q rfl (fun wq sq => ow_indexT ((oB.ext sq)).sl ModeI.len rfl el25 rfl (by simp; omega) rfl hLx rfl ⟨rfl, Ext.refl _⟩) ?_
  refine f_q rfl (fun wq sq => ow_fieldAddr off92_2 rfl ⟨rfl, Ext.refl _⟩) ?_
  refine f_q rfl (fun wq sq => ow_loadTF ((oB.ext sq)).sl ModeI.len hLx ti30 rfl rfl rfl ⟨rfl, Ext.refl _⟩) ?_
  refine f_op (fun p : Option Addr × Nat => Value.slice p.1 x.m.next.length p.2) (fun p wz => Own wz wr.heap.size 2 1 p.1 x.m.next.length p.2 (x.m.next.flatMap eI)) (none, 0) rfl ⟨inj_sl, fun _ _ _ h k => h.ext k, fun wq sq => ow_call ent195 rfl (ret_mono (cloneint_c _ _ _ x.m.next _ ((hm.ext sq).sx.at_ hx) hnl) (fun v w' h => by obtain ⟨A, c, rfl, ho, hx⟩ := h; exact ⟨(A, c), rfl, Own.low ho (sq).size, hx⟩))⟩ ?_
  rintro ⟨AW, cW⟩
  refine f_q rfl (fun wq sq => ow_indexT ((oB.ext sq.1)).sl ModeI.len rfl el25 rfl (by simp; omega) rfl hLx rfl ⟨rfl, Ext.refl _⟩) ?_
  refine f_q rfl (fun wq sq => ow_fieldAddr off92_2 rfl ⟨rfl, Ext.refl _⟩) ?_
  refine f_nil (fun w53 sq => ?_)
  have xq := sq.1
  have oW := sq.2
  replace oA := oA.ext xq
  replace oC := oC.ext xq
  replace oB := oB.ext xq
  replace oN := oN.ext xq
  replace hm := hm.ext xq
  replace bM := bM.ext xq
  replace b2 := b2.ext xq
  replace b4 := b4.ext xq
  replace X := Ext.trans X xq; clear xq sq
  refine ops_cons rfl (ow_storeRF oB ti30 rfl rfl rfl rfl (by omega) (by omega) rfl ?_)
  intro w55 oB2 hg54 z56
  replace oA := oA.grown hg54 (Own.neO oA oB (by decide))
  replace oC := oC.grown hg54 (Own.neO oC oB (by decide))
  replace oN := oN.grownO oB hg54 (by decide)
  replace hm := hm.grown hg54 (fun g hg => Nat.le_trans Bhm (Own.lt oB hg).1)
  replace bM := bM.grown hg54 (fun h => Own.neT oB bM (by decide) h.symm)
  replace b2 := b2.grown hg54 (fun h => Own.neT oB b2 (by decide) h.symm)
  replace b4 := b4.grown hg54 (fun h => Own.neT oB b4 (by decide) h.symm)
  replace oW := oW.grown hg54 (Own.neO oW oB (by decide))
  replace X := X.grown hg54 X.size (fun g hg => (Own.lt oB hg).1)
  clear hg54 z56
  replace oB2 := oB2.to (cs' := ((ys ++ [(⟨⟨x.m.rounds, x.m.slots, x.m.next⟩, AW, cW⟩ : ModeI)]) ++ m.ms.drop (k + 1)).flatMap ModeI.cells) (by
    have e1 := set_field (x := x) (x' := (⟨⟨x.m.rounds, x.m.slots, x.m.next⟩, AW, cW⟩ : ModeI)) (vs := [.slice AW x.m.next.length cW]) ModeI.len (s' := 1) (f := 2) rfl (by omega) (ys ++ m.ms.drop k) k hLx
    rw [← app_set hy hx]; exact e1)
  refine ops_nil ?_
  refine bq_n ?_
  refine tq_n ?_
  refine c_region ?_
  refine ops_cons rfl (ow_add rfl rfl (w64 (by omega)) ?_)
  refine ops_cons rfl (ow_move rfl ?_)
  refine ops_nil ?_
  refine tq_n ⟨(k + 1, ys ++ [⟨⟨x.m.rounds, x.m.slots, x.m.next⟩, AW, cW⟩]), (.cons rfl (.cons rfl (.cons rfl (.cons rfl (.nil _))))), ?_, ?_⟩
  · exact ⟨by omega, (by simp [hy]), (by rw [List.take_add_one, hx]; simp [em]), (hd.snoc (x := ⟨⟨x.m.rounds, x.m.slots, x.m.next⟩, AW, cW⟩) (fun y hy g hg e => absurd (hbd y hy g hg) (Nat.not_lt.2 (Own.lt oW e).1))), oA, oC, oB2, oN.snoc (x := ⟨⟨x.m.rounds, x.m.slots, x.m.next⟩, AW, cW⟩) (Own.low oW LX) (by show x.m.next.length ≤ _; omega), hm, bM, b2, b4, X⟩
  · first | omega | (dsimp only; omega)
  refine ops_nil ?_
  refine c_seq ?_
  refine c_false rfl ?_
  refine c_exit ?_
  refine tq_e ?_
  refine tq_e ?_
  refine bq_e ?_
  refine tq_n ?_
  refine c_seqR ?_
  refine ops_cons rfl (ow_loadAB b4 ti28 rfl rfl ?_)
  refine ops_cons rfl (ow_storeB b2 ti28 rfl rfl rfl rfl rfl rfl ?_)
  intro w58 b60 hg57 z59
  replace oA := oA.grownBlk hg57 (Own.neT oA b2 (by decide))
  replace oC := oC.grownBlk hg57 (Own.neT oC b2 (by decide))
  replace oB := oB.grownBlk hg57 (Own.neT oB b2 (by decide))
  replace oN := oN.grownB b2 hg57 (by decide)
  replace hm := hm.grown hg57 (by intro g hg; injection hg; omega)
  replace bM := bM.grown hg57 (by intro h; injection h; omega)
  replace b4 := b4.grown hg57 (by intro h; injection h; omega)
  replace X := X.grown hg57 X.size (by intro g hg; injection hg; omega)
  clear hg57 b2
  refine ops_nil ?_
  refine c_ret ?_
  refine fin_cell1 rfl rfl b60 ti28 rfl ?_
  · skip
    rw [List.drop_eq_nil_of_le (by omega), List.append_nil] at oB
    have hyl : ys.length = m.ms.length := by omega
    rw [← hyl] at oB
    exact ⟨⟨m.id, AA, m.ns, cA, AB, ys, cB, AC, m.ss, cC⟩, by rw [← hyl]; rfl, congrArg (fun z => (⟨m.id, m.ns, z, m.ss⟩ : MedlD)) (by rw [em, List.take_of_length_le (by omega)]; try rfl), ⟨oA, oB, oN, hd, oC⟩, X⟩

theorem sWithId_c (m : MedlI) (B : Nat) (id : Int) (w : World) (hm : Med B w m) (hz : m.small) :
    Calls Tryz.prog 39 #[.agg m.cells.toArray, .int .i64 id] w (Ret fun v w' => ∃ m', v = .tuple #[.agg m'.cells.toArray, .int .i64 (withIdF m.d id).2] ∧ m'.d = (withIdF m.d id).1 ∧ MOwn w' w.heap.size 59 92 2 89 m' ∧ Ext w w') := by
  have hls := hz.ls
  have hlm := hz.lm
  have hln := hz.ln
  have Bhm := hm.1
  have X := Ext.refl w
  refine calls_of (args := [.agg m.cells.toArray, .int .i64 id]) Tryz.func39 Tryz.ntmps39 rfl rfl ?_
  refine c_seqR ?_
  refine ops_cons rfl (ow_box rfl rfl ?_)
  intro gM w2 egM bM x1 zgM
  have lgM : w.heap.size ≤ gM := Nat.le_trans X.size (Nat.le_of_eq egM.symm)
  have pgMhm := Nat.le_trans hm.1 (Nat.le_of_eq egM.symm)
  replace hm := hm.ext x1
  replace X := Ext.trans X x1; clear x1
  refine ops_cons rfl (ow_alloc ti28 ?_)
  intro g4 w4 eg4 b4 x3 zg4
  have lg4 : w.heap.size ≤ g4 := Nat.le_trans X.size (Nat.le_of_eq eg4.symm)
  have pg4hm := Nat.le_trans hm.1 (Nat.le_of_eq eg4.symm)
  have ng4bM := Nat.lt_of_lt_of_eq bM.lt eg4.symm
  replace hm := hm.ext x3
  replace bM := bM.ext x3
  replace X := Ext.trans X x3; clear x3
  refine ops_cons rfl (ow_assign rfl ?_)
  refine ops_nil ?_
  refine c_seq ?_
  refine c_seqR ?_
  refine ops_cons rfl (ow_loadAB bM ti28 rfl rfl ?_)
  refine ops_cons rfl (ow_callB ent70 rfl (sIsMedl_c m _ _ hm hz) (fun w6 hI x5 => ?_) (fun w6 hI x5 => ?_))
  replace hm := hm.ext x5
  replace bM := bM.ext x5
  replace b4 := b4.ext x5
  replace X := Ext.trans X x5; clear x5
  refine ops_cons rfl (ow_not rfl ?_)
  refine ops_nil ?_
  refine c_false rfl ?_
  refine c_skip ?_
  refine tq_n ?_
  refine c_seq ?_
  refine c_seqR ?_
  refine ops_cons rfl (ow_move rfl ?_)
  refine ops_cons rfl (ow_callB ent111 rfl (l01In_c _ _ _ _) (fun w9 hR x7 => ?_) (fun w9 hR x7 => ?_))
  replace hm := hm.ext x7
  replace bM := bM.ext x7
  replace b4 := b4.ext x7
  replace X := Ext.trans X x7; clear x7
  refine ops_cons rfl (ow_not rfl ?_)
  refine ops_nil ?_
  refine c_false rfl ?_
  refine c_skip ?_
  refine tq_n ?_
  refine c_seqR ?_
  refine ops_cons rfl (ow_loadAB bM ti28 rfl rfl ?_)
  refine ops_cons rfl (ow_call ent112 rfl (ret_mono (l13Own_c m _ _ hm hz) ?_))
  rintro _ w11 ⟨mR, rfl, eR, oR, x10⟩
  replace oR := MOwn.low oR X.size
  replace hm := hm.ext x10
  replace bM := bM.ext x10
  replace b4 := b4.ext x10
  replace X := Ext.trans X x10; clear x10
  refine ops_cons rfl (ow_alloc ti28 ?_)
  intro g6 w15 eg6 b6 x14 zg6
  have lg6 : w.heap.size ≤ g6 := Nat.le_trans X.size (Nat.le_of_eq eg6.symm)
  have pg6hm := Nat.le_trans hm.1 (Nat.le_of_eq eg6.symm)
  have ng6bM := Nat.lt_of_lt_of_eq bM.lt eg6.symm
  have ng6b4 := Nat.lt_of_lt_of_eq b4.lt eg6.symm
  replace hm := hm.ext x14
  replace bM := bM.ext x14
  replace b4 := b4.ext x14
  replace oR := oR.ext x14
  replace X := Ext.trans X x14; clear x14
  refine ops_cons rfl (ow_storeB b6 ti28 rfl rfl rfl rfl rfl rfl ?_)
  intro w17 b7 hg16 z18
  replace hm := hm.grown hg16 (by intro g hg; injection hg; omega)
  replace bM := bM.grown hg16 (by intro h; injection h; omega)
  replace b4 := b4.grown hg16 (by intro h; injection h; omega)
  replace oR := oR.grownB b6 hg16 ⟨by decide, by decide, by decide, by decide⟩
  replace X := X.grown hg16 X.size (by intro g hg; injection hg; omega)
  clear hg16 b6
  refine ops_nil ?_
  refine c_seqR ?_
  refine ops_cons rfl (ow_move rfl ?_)
  refine ops_cons rfl (ow_fieldAddrB off28_0 rfl rfl ?_)
  refine ops_cons rfl (ow_storeB b7 ti2 rfl rfl rfl rfl rfl rfl ?_)
  intro w20 b8 hg19 z21
  replace hm := hm.grown hg19 (by intro g hg; injection hg; omega)
  replace bM := bM.grown hg19 (by intro h; injection h; omega)
  replace b4 := b4.grown hg19 (by intro h; injection h; omega)
  replace oR := oR.grownB b7 hg19 ⟨by decide, by decide, by decide, by decide⟩
  replace X := X.grown hg19 X.size (by intro g hg; injection hg; omega)
  clear hg19 b7
  refine ops_nil ?_
  refine c_seqR ?_
  refine ops_cons rfl (ow_loadAB b8 ti28 rfl rfl ?_)
  refine ops_cons rfl (ow_storeB b4 ti28 rfl rfl rfl rfl rfl rfl ?_)
  intro w23 b5 hg22 z24
  replace hm := hm.grown hg22 (by intro g hg; injection hg; omega)
  replace bM := bM.grown hg22 (by intro h; injection h; omega)
  replace oR := oR.grownB b4 hg22 ⟨by decide, by decide, by decide, by decide⟩
  replace b8 := b8.grown hg22 (by intro h; injection h; omega)
  replace X := X.grown hg22 X.size (by intro g hg; injection hg; omega)
  clear hg22 b4
  refine ops_cons rfl (ow_assign rfl ?_)
  refine ops_nil ?_
  refine c_ret ?_
  refine fin_cell2 rfl rfl b5 ti28 rfl rfl ?_
  · skip
    first
    | (have e : withIdF m.d id = (⟨0, [], [], []⟩, 1) := by rw [withIdF, if_neg (by simp [hI])]
       rw [e]; exact ⟨zeroM, rfl, rfl, zeroM_own _ _ _ _ _ _, X⟩)
    | (have e : withIdF m.d id = (⟨0, [], [], []⟩, 2) := by rw [withIdF, if_pos hI, if_neg (by simp [hR])]
       rw [e]; exact ⟨zeroM, rfl, rfl, zeroM_own _ _ _ _ _ _, X⟩)
    | (have e : withIdF m.d id = (⟨id, m.d.ns, m.d.ms, m.d.ss⟩, 0) := by rw [withIdF, if_pos hI, if_pos hR]
       rw [e]; exact ⟨⟨id, mR.An, mR.ns, mR.cn, mR.Am, mR.ms, mR.cm, mR.As, mR.ss, mR.cs⟩, rfl, (by rw [← eR]; rfl), mOwn_id oR id, X⟩)
  replace hm := hm.ext x7
  replace bM := bM.ext x7
  replace b4 := b4.ext x7
  replace X := Ext.trans X x7; clear x7
  refine ops_cons rfl (ow_not rfl ?_)
  refine ops_nil ?_
  refine c_true rfl ?_
  refine c_seqR ?_
  refine ops_cons rfl (ow_buildP pl28 ti28 rfl rfl ?_)
  refine ops_cons rfl (ow_storeB b4 ti28 rfl rfl rfl rfl rfl rfl ?_)
  intro w26 b5 hg25 z27
  replace hm := hm.grown hg25 (by intro g hg; injection hg; omega)
  replace bM := bM.grown hg25 (by intro h; injection h; omega)
  replace X := X.grown hg25 X.size (by intro g hg; injection hg; omega)
  clear hg25 b4
  refine ops_cons rfl (ow_assign rfl ?_)
  refine ops_nil ?_
  refine c_ret ?_
  refine tq_r ?_
  refine fin_cell2 rfl rfl b5 ti28 rfl rfl ?_
  · skip
    first
    | (have e : withIdF m.d id = (⟨0, [], [], []⟩, 1) := by rw [withIdF, if_neg (by simp [hI])]
       rw [e]; exact ⟨zeroM, rfl, rfl, zeroM_own _ _ _ _ _ _, X⟩)
    | (have e : withIdF m.d id = (⟨0, [], [], []⟩, 2) := by rw [withIdF, if_pos hI, if_neg (by simp [hR])]
       rw [e]; exact ⟨zeroM, rfl, rfl, zeroM_own _ _ _ _ _ _, X⟩)
    | (have e : withIdF m.d id = (⟨id, m.d.ns, m.d.ms, m.d.ss⟩, 0) := by rw [withIdF, if_pos hI, if_pos hR]
       rw [e]; exact ⟨⟨id, mR.An, mR.ns, mR.cn, mR.Am, mR.ms, mR.cm, mR.As, mR.ss, mR.cs⟩, rfl, (by rw [← eR]; rfl), mOwn_id oR id, X⟩)
  replace hm := hm.ext x5
  replace bM := bM.ext x5
  replace b4 := b4.ext x5
  replace X := Ext.trans X x5; clear x5
  refine ops_cons rfl (ow_not rfl ?_)
  refine ops_nil ?_
  refine c_true rfl ?_
  refine c_seqR ?_
  refine ops_cons rfl (ow_buildP pl28 ti28 rfl rfl ?_)
  refine ops_cons rfl (ow_storeB b4 ti28 rfl rfl rfl rfl rfl rfl ?_)
  intro w29 b5 hg28 z30
  replace hm := hm.grown hg28 (by intro g hg; injection hg; omega)
  replace bM := bM.grown hg28 (by intro h; injection h; omega)
  replace X := X.grown hg28 X.size (by intro g hg; injection hg; omega)
  clear hg28 b4
  refine ops_cons rfl (ow_assign rfl ?_)
  refine ops_nil ?_
  refine c_ret ?_
  refine tq_r ?_
  refine fin_cell2 rfl rfl b5 ti28 rfl rfl ?_
  · skip
    first
    | (have e : withIdF m.d id = (⟨0, [], [], []⟩, 1) := by rw [withIdF, if_neg (by simp [hI])]
       rw [e]; exact ⟨zeroM, rfl, rfl, zeroM_own _ _ _ _ _ _, X⟩)
    | (have e : withIdF m.d id = (⟨0, [], [], []⟩, 2) := by rw [withIdF, if_pos hI, if_neg (by simp [hR])]
       rw [e]; exact ⟨zeroM, rfl, rfl, zeroM_own _ _ _ _ _ _, X⟩)
    | (have e : withIdF m.d id = (⟨id, m.d.ns, m.d.ms, m.d.ss⟩, 0) := by rw [withIdF, if_pos hI, if_pos hR]
       rw [e]; exact ⟨⟨id, mR.An, mR.ns, mR.cn, mR.Am, mR.ms, mR.cm, mR.As, mR.ss, mR.cs⟩, rfl, (by rw [← eR]; rfl), mOwn_id oR id, X⟩)

theorem iWithId_c (m : MedlI) (B : Nat) (id : Int) (w : World) (hm : Med B w m) (hz : m.small) :
    Calls Tryz.prog 38 #[.agg m.cells.toArray, .int .i64 id] w (Ret fun v w' => ∃ m', v = .tuple #[.agg m'.cells.toArray, .int .i64 (withIdF m.d id).2] ∧ m'.d = (withIdF m.d id).1 ∧ MOwn w' w.heap.size 59 92 2 89 m' ∧ Ext w w') := by
  have hls := hz.ls
  have hlm := hz.lm
  have hln := hz.ln
  have Bhm := hm.1
  have X := Ext.refl w
  refine calls_of (args := [.agg m.cells.toArray, .int .i64 id]) Tryz.func38 Tryz.ntmps38 rfl rfl ?_
  refine c_seqR ?_
  refine ops_cons rfl (ow_box rfl rfl ?_)
  intro gM w2 egM bM x1 zgM
  have lgM : w.heap.size ≤ gM := Nat.le_trans X.size (Nat.le_of_eq egM.symm)
  have pgMhm := Nat.le_trans hm.1 (Nat.le_of_eq egM.symm)
  replace hm := hm.ext x1
  replace X := Ext.trans X x1; clear x1
  refine ops_cons rfl (ow_alloc ti28 ?_)
  intro g4 w4 eg4 b4 x3 zg4
  have lg4 : w.heap.size ≤ g4 := Nat.le_trans X.size (Nat.le_of_eq eg4.symm)
  have pg4hm := Nat.le_trans hm.1 (Nat.le_of_eq eg4.symm)
  have ng4bM := Nat.lt_of_lt_of_eq bM.lt eg4.symm
  replace hm := hm.ext x3
  replace bM := bM.ext x3
  replace X := Ext.trans X x3; clear x3
  refine ops_cons rfl (ow_assign rfl ?_)
  refine ops_nil ?_
  refine c_seq ?_
  refine c_seqR ?_
  refine ops_cons rfl (ow_loadAB bM ti28 rfl rfl ?_)
  refine ops_cons rfl (ow_callB ent33 rfl (iIsMedl_c m _ _ hm hz) (fun w6 hI x5 => ?_) (fun w6 hI x5 => ?_))
  replace hm := hm.ext x5
  replace bM := bM.ext x5
  replace b4 := b4.ext x5
  replace X := Ext.trans X x5; clear x5
  refine ops_cons rfl (ow_not rfl ?_)
  refine ops_nil ?_
  refine c_false rfl ?_
  refine c_skip ?_
  refine tq_n ?_
  refine c_seq ?_
  refine c_seqR ?_
  refine ops_cons rfl (ow_move rfl ?_)
  refine ops_cons rfl (ow_callB ent109 rfl (within_c _ _ _ _) (fun w9 hR x7 => ?_) (fun w9 hR x7 => ?_))
  replace hm := hm.ext x7
  replace bM := bM.ext x7
  replace b4 := b4.ext x7
  replace X := Ext.trans X x7; clear x7
  refine ops_cons rfl (ow_not rfl ?_)
  refine ops_nil ?_
  refine c_false rfl ?_
  refine c_skip ?_
  refine tq_n ?_
  refine c_seqR ?_
  refine ops_cons rfl (ow_loadAB bM ti28 rfl rfl ?_)
  refine ops_cons rfl (ow_call ent110 rfl (ret_mono (copyMedl_c m _ _ hm hz) ?_))
  rintro _ w11 ⟨mR, rfl, eR, oR, x10⟩
  replace oR := MOwn.low oR X.size
  replace hm := hm.ext x10
  replace bM := bM.ext x10
  replace b4 := b4.ext x10
  replace X := Ext.trans X x10; clear x10
  refine ops_cons rfl (ow_alloc ti28 ?_)
  intro g6 w15 eg6 b6 x14 zg6
  have lg6 : w.heap.size ≤ g6 := Nat.le_trans X.size (Nat.le_of_eq eg6.symm)
  have pg6hm := Nat.le_trans hm.1 (Nat.le_of_eq eg6.symm)
  have ng6bM := Nat.lt_of_lt_of_eq bM.lt eg6.symm
  have ng6b4 := Nat.lt_of_lt_of_eq b4.lt eg6.symm
  replace hm := hm.ext x14
  replace bM := bM.ext x14
  replace b4 := b4.ext x14
  replace oR := oR.ext x14
  replace X := Ext.trans X x14; clear x14
  refine ops_cons rfl (ow_storeB b6 ti28 rfl rfl rfl rfl rfl rfl ?_)
  intro w17 b7 hg16 z18
  replace hm := hm.grown hg16 (by intro g hg; injection hg; omega)
  replace bM := bM.grown hg16 (by intro h; injection h; omega)
  replace b4 := b4.grown hg16 (by intro h; injection h; omega)
  replace oR := oR.grownB b6 hg16 ⟨by decide, by decide, by decide, by decide⟩
  replace X := X.grown hg16 X.size (by intro g hg; injection hg; omega)
  clear hg16 b6
  refine ops_nil ?_
  refine c_seqR ?_
  refine ops_cons rfl (ow_move rfl ?_)
  refine ops_cons rfl (ow_fieldAddrB off28_0 rfl rfl ?_)
  refine ops_cons rfl (ow_storeB b7 ti2 rfl rfl rfl rfl rfl rfl ?_)
  intro w20 b8 hg19 z21
  replace hm := hm.grown hg19 (by intro g hg; injection hg; omega)
  replace bM := bM.grown hg19 (by intro h; injection h; omega)
  replace b4 := b4.grown hg19 (by intro h; injection h; omega)
  replace oR := oR.grownB b7 hg19 ⟨by decide, by decide, by decide, by decide⟩
  replace X := X.grown hg19 X.size (by intro g hg; injection hg; omega)
  clear hg19 b7
  refine ops_nil ?_
  refine c_seqR ?_
  refine ops_cons rfl (ow_loadAB b8 ti28 rfl rfl ?_)
  refine ops_cons rfl (ow_storeB b4 ti28 rfl rfl rfl rfl rfl rfl ?_)
  intro w23 b5 hg22 z24
  replace hm := hm.grown hg22 (by intro g hg; injection hg; omega)
  replace bM := bM.grown hg22 (by intro h; injection h; omega)
  replace oR := oR.grownB b4 hg22 ⟨by decide, by decide, by decide, by decide⟩
  replace b8 := b8.grown hg22 (by intro h; injection h; omega)
  replace X := X.grown hg22 X.size (by intro g hg; injection hg; omega)
  clear hg22 b4
  refine ops_cons rfl (ow_assign rfl ?_)
  refine ops_nil ?_
  refine c_ret ?_
  refine fin_cell2 rfl rfl b5 ti28 rfl rfl ?_
  · skip
    first
    | (have e : withIdF m.d id = (⟨0, [], [], []⟩, 1) := by rw [withIdF, if_neg (by simp [hI])]
       rw [e]; exact ⟨zeroM, rfl, rfl, zeroM_own _ _ _ _ _ _, X⟩)
    | (have e : withIdF m.d id = (⟨0, [], [], []⟩, 2) := by rw [withIdF, if_pos hI, if_neg (by simp [hR])]
       rw [e]; exact ⟨zeroM, rfl, rfl, zeroM_own _ _ _ _ _ _, X⟩)
    | (have e : withIdF m.d id = (⟨id, m.d.ns, m.d.ms, m.d.ss⟩, 0) := by rw [withIdF, if_pos hI, if_pos hR]
       rw [e]; exact ⟨⟨id, mR.An, mR.ns, mR.cn, mR.Am, mR.ms, mR.cm, mR.As, mR.ss, mR.cs⟩, rfl, (by rw [← eR]; rfl), mOwn_id oR id, X⟩)
  replace hm := hm.ext x7
  replace bM := bM.ext x7
  replace b4 := b4.ext x7
  replace X := Ext.trans X x7; clear x7
  refine ops_cons rfl (ow_not rfl ?_)
  refine ops_nil ?_
  refine c_true rfl ?_
  refine c_seqR ?_
  refine ops_cons rfl (ow_buildP pl28 ti28 rfl rfl ?_)
  refine ops_cons rfl (ow_storeB b4 ti28 rfl rfl rfl rfl rfl rfl ?_)
  intro w26 b5 hg25 z27
  replace hm := hm.grown hg25 (by intro g hg; injection hg; omega)
  replace bM := bM.grown hg25 (by intro h; injection h; omega)
  replace X := X.grown hg25 X.size (by intro g hg; injection hg; omega)
  clear hg25 b4
  refine ops_cons rfl (ow_assign rfl ?_)
  refine ops_nil ?_
  refine c_ret ?_
  refine tq_r ?_
  refine fin_cell2 rfl rfl b5 ti28 rfl rfl ?_
  · skip
    first
    | (have e : withIdF m.d id = (⟨0, [], [], []⟩, 1) := by rw [withIdF, if_neg (by simp [hI])]
       rw [e]; exact ⟨zeroM, rfl, rfl, zeroM_own _ _ _ _ _ _, X⟩)
    | (have e : withIdF m.d id = (⟨0, [], [], []⟩, 2) := by rw [withIdF, if_pos hI, if_neg (by simp [hR])]
       rw [e]; exact ⟨zeroM, rfl, rfl, zeroM_own _ _ _ _ _ _, X⟩)
    | (have e : withIdF m.d id = (⟨id, m.d.ns, m.d.ms, m.d.ss⟩, 0) := by rw [withIdF, if_pos hI, if_pos hR]
       rw [e]; exact ⟨⟨id, mR.An, mR.ns, mR.cn, mR.Am, mR.ms, mR.cm, mR.As, mR.ss, mR.cs⟩, rfl, (by rw [← eR]; rfl), mOwn_id oR id, X⟩)
  replace hm := hm.ext x5
  replace bM := bM.ext x5
  replace b4 := b4.ext x5
  replace X := Ext.trans X x5; clear x5
  refine ops_cons rfl (ow_not rfl ?_)
  refine ops_nil ?_
  refine c_true rfl ?_
  refine c_seqR ?_
  refine ops_cons rfl (ow_buildP pl28 ti28 rfl rfl ?_)
  refine ops_cons rfl (ow_storeB b4 ti28 rfl rfl rfl rfl rfl rfl ?_)
  intro w29 b5 hg28 z30
  replace hm := hm.grown hg28 (by intro g hg; injection hg; omega)
  replace bM := bM.grown hg28 (by intro h; injection h; omega)
  replace X := X.grown hg28 X.size (by intro g hg; injection hg; omega)
  clear hg28 b4
  refine ops_cons rfl (ow_assign rfl ?_)
  refine ops_nil ?_
  refine c_ret ?_
  refine tq_r ?_
  refine fin_cell2 rfl rfl b5 ti28 rfl rfl ?_
  · skip
    first
    | (have e : withIdF m.d id = (⟨0, [], [], []⟩, 1) := by rw [withIdF, if_neg (by simp [hI])]
       rw [e]; exact ⟨zeroM, rfl, rfl, zeroM_own _ _ _ _ _ _, X⟩)
    | (have e : withIdF m.d id = (⟨0, [], [], []⟩, 2) := by rw [withIdF, if_pos hI, if_neg (by simp [hR])]
       rw [e]; exact ⟨zeroM, rfl, rfl, zeroM_own _ _ _ _ _ _, X⟩)
    | (have e : withIdF m.d id = (⟨id, m.d.ns, m.d.ms, m.d.ss⟩, 0) := by rw [withIdF, if_pos hI, if_pos hR]
       rw [e]; exact ⟨⟨id, mR.An, mR.ns, mR.cn, mR.Am, mR.ms, mR.cm, mR.As, mR.ss, mR.cs⟩, rfl, (by rw [← eR]; rfl), mOwn_id oR id, X⟩)
end Go.Proofs.YtdoibplhbdkapaaGreatDoor
