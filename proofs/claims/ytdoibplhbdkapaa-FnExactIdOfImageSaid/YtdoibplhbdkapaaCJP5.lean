/- Texts of the seat that a law needs, put together. No condition. -/
import Derived.Test.YtdoibplhbdkapaaCJP4
import Derived.Test.YtdoibplhbdkapaaCJP3
import Derived.Test.YtdoibplhbdkapaaCJP2
namespace Go.Proofs.Ytdoibplhbdkapaa
open Go.RowKit
set_option linter.unusedVariables false
set_option linter.unusedSimpArgs false
set_option maxRecDepth 20000
theorem equalI_n (A : Option Addr) (B c n : Nat) (xs : List Int) (A2 : Option Addr) (B2 c2 n2 : Nat) (ys : List Int) (w : World) (hs : Sl B w A (xs.flatMap eI)) (h2 : Sl B2 w A2 (ys.flatMap eI)) (hl : xs.length ≤ 1048576) (e1 : xs.length = n) (e2 : ys.length = n2) :
    Calls Try.prog 71 #[.slice A n c, .slice A2 n2 c2] w (Ret fun v w' => v = .bool (decide (xs = ys)) ∧ Ext w w') := by
  subst e1; subst e2; exact equalI_c A B c xs A2 B2 c2 ys w hs h2 hl
theorem chkB_len (k : Nat) (xs : List Int) : (chkB k xs).length = 3 := rfl
theorem has_mem {xs : List Int} {z : Int} : hasB xs z = true ↔ z ∈ xs := by simp [hasB, List.any_eq_true]
theorem dmg_mem {xs : List Int} {k : Nat} : ((k : Nat) : Int) ∈ dmg xs ↔ k < nS xs.length ∧ badK xs k = true := by
  unfold dmg dmgP
  rw [List.mem_map]
  constructor
  · rintro ⟨j, hj, e⟩
    have e2 : j = k := by omega
    subst e2
    have h := List.mem_filter.1 hj
    exact ⟨List.mem_range.1 h.1, h.2⟩
  · rintro ⟨h1, h2⟩
    exact ⟨k, List.mem_filter.2 ⟨List.mem_range.2 h1, h2⟩, rfl⟩
theorem dmg_zero {xs : List Int} (h : hasB (dmg xs) 0 = false) : badK xs 0 = false := by
  cases hb : badK xs 0 with
  | false => rfl
  | true =>
    have h1 : ((0 : Nat) : Int) ∈ dmg xs := dmg_mem.2 ⟨nS_pos _, hb⟩
    have h2 := has_mem.2 h1
    rw [show ((0 : Nat) : Int) = 0 from rfl, h] at h2; cases h2
theorem dmg_len {xs : List Int} (h : xs.length ≤ 1048576) : (dmg xs).length ≤ 1048576 := by
  have h1 := dmgP_le xs (nS xs.length)
  have h2 := nS_le xs.length
  unfold dmg; omega
def idV (p : List Int) : Int := p.getD 2 0 * 65536 + p.getD 3 0 * 256 + p.getD 4 0
def idImF (xs : List Int) : Int × Int := if isB xs = true then (if hasB (dmg xs) 0 = true then (0, 7) else if (sl33 xs 0).length < 8 ∨ (sl33 xs 0).getD 0 0 ≠ 0 then (0, 6) else if idV (sl33 xs 0) = 0 then (0, 6) else (idV (sl33 xs 0), 0)) else (0, 2)
theorem getD_of {p : List Int} {k : Nat} {x : Int} (h : p[k]? = some x) : p.getD k 0 = x := by rw [List.getD_eq_getElem?_getD, h]; rfl
theorem data_at {p : List Int} {k : Nat} {x : Int} (h8 : 8 ≤ p.length) (hk : k < 3) (h : p[2 + k]? = some x) : ((p.drop 2).take (p.length - 3 - 2))[k]? = some x := by
  rw [List.getElem?_take, if_pos (by omega), List.getElem?_drop]; exact h
theorem damaged_c (A : Option Addr) (B c : Nat) (xs : List Int) (w : World) (hs : Sl B w A (xs.flatMap eI)) (hl : xs.length ≤ 1024) (hb : ∀ x ∈ xs, 0 ≤ x ∧ x ≤ 255) (hc : xs.length ≤ c) (hn : Nexts B w (slcs A xs)) :
    Calls Try.prog 41 #[.slice A xs.length c] w (Ret fun v w' => ∃ A' c', v = .slice A' (dmg xs).length c' ∧ Own w' w.heap.size 2 1 A' (dmg xs).length c' ((dmg xs).flatMap eI) ∧ Ext w w') := by
  have hnS := nS_le xs.length
  have Bhs := hs.1
  have Bhn := hn.1
  have X := Ext.refl w
  refine calls_of (args := [.slice A xs.length c]) Try.func41 Try.ntmps41 rfl rfl ?_
  refine c_seqR ?_
  refine ops_cons rfl (ow_assign rfl ?_)
  refine ops_nil ?_
  refine c_seqR ?_
  refine ops_cons rfl (ow_buildSlice el22 ti2 rfl rfl rfl rfl rfl ?_)
  intro gO w2 egO oO bbgO x1 zgO
  replace oO := Own.low oO X.size
  replace hs := hs.ext x1
  replace hn := hn.ext x1
  replace X := Ext.trans X x1; clear x1
  refine ops_cons rfl (ow_assign rfl ?_)
  refine ops_nil ?_
  refine c_seq ?_
  refine c_seqR ?_
  refine ops_cons rfl (ow_move rfl ?_)
  refine ops_cons rfl (ow_call ent42 rfl (ret_mono (slicesOf_c A c xs _ (by omega) hc) ?_))
  rintro _ w4 ⟨AR, cR, rfl, oR, x3⟩
  replace oR := Own.low oR X.size
  replace hs := hs.ext x3
  replace hn := hn.ext x3
  replace oO := oO.ext x3
  replace X := Ext.trans X x3; clear x3
  refine ops_cons rfl (ow_len Try.underlying68 rfl ?_)
  refine ops_cons rfl (ow_move rfl ?_)
  refine ops_nil ?_
  refine c_block ?_
  refine c_loop (G := Nat × Nat × Option Addr × Nat) (fun ⟨k, n1, A1, c1⟩ => [(2, .slice none 0 0), (9, .slice AR (nS xs.length) cR), (10, .int .i64 ((nS xs.length) : Nat)), (3, .slice A1 n1 c1), (11, .int .i64 (k : Nat))]) (fun ⟨k, n1, A1, c1⟩ wr => k ≤ nS xs.length ∧ n1 ≤ k ∧ n1 = (dmgP xs k).length ∧ Own wr w.heap.size 2 1 A1 n1 c1 ((dmgP xs k).flatMap eI) ∧ Sl B wr A (xs.flatMap eI) ∧ Nexts B wr (slcs A xs) ∧ Own wr w.heap.size 22 1 AR (nS xs.length) cR ((slcs A xs).flatMap rowC) ∧ Ext w wr) (fun ⟨k, n1, A1, c1⟩ => nS xs.length - k) (0, 0, some ⟨gO, 0, none⟩, 0) (.cons rfl (.cons rfl (.cons rfl (.cons rfl (.cons rfl (.nil _)))))) ?_ ?_
  · exact ⟨(Nat.zero_le _), (Nat.le_refl _), rfl, oO, hs, hn, oR, X⟩
  clear hs hn oO oR
  clear X
  rintro ⟨k, n1, A1, c1⟩ wr ⟨hk0, hnk, hn1, oO, hs, hn, oR, X⟩
  refine c_seqR ?_
  refine ops_cons rfl (ow_lss2 rfl rfl (fun hk => ?_) (fun hk => ?_))
  obtain ⟨pA, pc, hx, hpc⟩ := slcs_get A xs (k := k) (by omega)
  have hpl := sl33_len xs k
  have hrl : (rowI pA pc (sl33 xs k)).m.next.length = (sl33 xs k).length := rfl
  have hrc : (rowI pA pc (sl33 xs k)).c = pc := rfl
  refine ops_nil ?_
  refine c_seq ?_
  refine c_true rfl ?_
  refine c_skip ?_
  refine tq_n ?_
  refine c_seq ?_
  refine c_block ?_
  refine c_seqR ?_
  refine ops_cons rfl (ow_move rfl ?_)
  refine ops_cons rfl (ow_indexT (oR).sl rowC_len rfl el68 rfl (slcs_len A xs).symm rfl hx rfl ?_)
  refine ops_cons rfl (ow_loadT (oR).sl rowC_len hx ti22 rfl rfl rfl ?_)
  have hp : Sl B _ pA ((sl33 xs k).flatMap eI) := hn.at_ hx
  refine ops_cons rfl (ow_assign rfl ?_)
  refine ops_cons rfl (ow_assign rfl ?_)
  refine ops_nil ?_
  refine c_seqR ?_
  refine ops_cons rfl (ow_move rfl ?_)
  refine ops_cons rfl (ow_len Try.underlying22 rfl ?_)
  refine ops_cons rfl (ow_sub rfl rfl (w64 (by omega)) ?_)
  by_cases hq : ((sl33 xs k).length : Int) - 3 < 2
  refine ops_cons rfl (ow_assign rfl ?_)
  refine ops_nil ?_
  refine c_seqI (fun wz => Sl B wz pA ((sl33 xs k).flatMap eI)) mixed ?_
  obtain ⟨w5, ew5⟩ : ∃ wy, wy = World.drew wr := ⟨_, rfl⟩
  rw [← ew5]
  have xd : Ext wr w5 := ew5 ▸ Ext.drew wr
  replace oO := oO.ext xd
  replace hs := hs.ext xd
  replace hn := hn.ext xd
  replace oR := oR.ext xd
  replace hp := hp.ext xd
  replace X := Ext.trans X xd; clear xd ew5
  refine wi_take 0 rfl (by kernel_rfl) rfl (by kernel_rfl) (listed' := #[true, false, false, false, false, false, false, false, false, false, false, false, false, false]) rfl (fun wq sq => ow_move rfl ⟨rfl, rfl⟩) ?_
  refine wi_take 1 rfl (by kernel_rfl) rfl (by kernel_rfl) (listed' := #[true, true, false, false, false, false, false, false, false, false, false, false, false, false]) rfl (fun wq sq => ow_lssT rfl rfl hq ⟨rfl, rfl⟩) ?_
  refine wi_take 2 rfl (by kernel_rfl) rfl (by kernel_rfl) (listed' := #[true, true, true, false, false, false, false, false, false, false, false, false, false, false]) rfl (fun wq sq => ow_move rfl ⟨rfl, rfl⟩) ?_
  refine wi_takeS 3 rfl (by kernel_rfl) rfl (by kernel_rfl) (listed' := #[true, true, true, true, false, false, false, false, false, false, false, false, false, false]) rfl rfl rfl rfl ?_
  refine wi_takeS 4 rfl (by kernel_rfl) rfl (by kernel_rfl) (listed' := #[true, true, true, true, true, false, false, false, false, false, false, false, false, false]) rfl rfl rfl rfl ?_
  refine wi_takeS 5 rfl (by kernel_rfl) rfl (by kernel_rfl) (listed' := #[true, true, true, true, true, true, false, false, false, false, false, false, false, false]) rfl rfl rfl rfl ?_
  refine wi_takeS 6 rfl (by kernel_rfl) rfl (by kernel_rfl) (listed' := #[true, true, true, true, true, true, true, false, false, false, false, false, false, false]) rfl rfl rfl rfl ?_
  refine wi_takeS 7 rfl (by kernel_rfl) rfl (by kernel_rfl) (listed' := #[true, true, true, true, true, true, true, true, false, false, false, false, false, false]) rfl rfl rfl rfl ?_
  refine wi_takeS 8 rfl (by kernel_rfl) rfl (by kernel_rfl) (listed' := #[true, true, true, true, true, true, true, true, true, false, false, false, false, false]) rfl rfl rfl rfl ?_
  refine wi_takeS 9 rfl (by kernel_rfl) rfl (by kernel_rfl) (listed' := #[true, true, true, true, true, true, true, true, true, true, false, false, false, false]) rfl rfl rfl rfl ?_
  refine wi_takeS 10 rfl (by kernel_rfl) rfl (by kernel_rfl) (listed' := #[true, true, true, true, true, true, true, true, true, true, true, false, false, false]) rfl rfl rfl rfl ?_
  refine wi_takeS 11 rfl (by kernel_rfl) rfl (by kernel_rfl) (listed' := #[true, true, true, true, true, true, true, true, true, true, true, true, false, false]) rfl rfl rfl rfl ?_
  refine wi_takeS 12 rfl (by kernel_rfl) rfl (by kernel_rfl) (listed' := #[true, true, true, true, true, true, true, true, true, true, true, true, true, false]) rfl rfl rfl rfl ?_
  refine wi_take 13 rfl (by kernel_rfl) rfl (by kernel_rfl) (listed' := #[true, true, true, true, true, true, true, true, true, true, true, true, true, true]) rfl (fun wq sq => ow_pick rfl rfl ⟨rfl, rfl⟩) ?_
  refine wi_done rfl hp (fun aj fj => ⟨_, fj, ?_⟩)
  refine c_true rfl ?_
  refine c_region ?_
  have hbk : badK xs k = true := badK_short (by omega)
  refine ops_cons rfl (ow_move rfl ?_)
  refine ops_cons rfl (ow_move rfl ?_)
  refine ops_cons rfl (ow_buildSlice el22 ti2 rfl rfl rfl rfl rfl ?_)
  intro g6 w9 eg6 oV bbg6 x7 zg6
  replace oV := Own.low oV X.size
  replace oO := oO.ext x7
  replace hs := hs.ext x7
  replace hn := hn.ext x7
  replace oR := oR.ext x7
  replace hp := hp.ext x7
  replace X := Ext.trans X x7; clear x7
  refine ops_cons rfl (ow_append (ts := #[]) oO X.size oV.sl rfl (one_ints [(k : Int)]) el22 ti2 rfl rfl rfl rfl (by omega) (by omega) ?_)
  intro AoN coN w11 oN hg10
  replace hs := hs.grown hg10 (fun g hg => Nat.le_trans Bhs (Own.lt oO hg).1)
  replace hn := hn.grown hg10 (fun g hg => Nat.le_trans Bhn (Own.lt oO hg).1)
  replace oR := oR.grown hg10 (Own.neO oR oO (by decide))
  replace hp := hp.grown hg10 (fun g hg => Nat.le_trans Bhs (Own.lt oO hg).1)
  replace X := X.grown hg10 X.size (fun g hg => (Own.lt oO hg).1)
  clear hg10
  refine ops_cons rfl (ow_assign rfl ?_)
  refine ops_nil ?_
  refine bq_n ?_
  refine tq_n ?_
  refine c_region ?_
  refine ops_cons rfl (ow_add rfl rfl (w64 (by omega)) ?_)
  refine ops_cons rfl (ow_move rfl ?_)
  refine ops_nil ?_
  refine tq_n ⟨(k + 1, n1 + 1, AoN, coN), (.cons rfl (.cons rfl (.cons rfl (.cons rfl (.cons rfl (.nil _)))))), ?_, ?_⟩
  · exact ⟨(by omega), (by omega), (by rw [dmgP_step, if_pos hbk]; simp [hn1]), (oN.to (by rw [dmgP_step, if_pos hbk, List.flatMap_append]; rfl)), hs, hn, oR, X⟩
  · first | omega | (dsimp only; omega)
  refine ops_cons rfl (ow_assign rfl ?_)
  refine ops_nil ?_
  refine c_seqI (fun wz => Sl B wz pA ((sl33 xs k).flatMap eI)) mixed ?_
  obtain ⟨w12, ew12⟩ : ∃ wy, wy = World.drew wr := ⟨_, rfl⟩
  rw [← ew12]
  have xd : Ext wr w12 := ew12 ▸ Ext.drew wr
  replace oO := oO.ext xd
  replace hs := hs.ext xd
  replace hn := hn.ext xd
  replace oR := oR.ext xd
  replace hp := hp.ext xd
  replace X := Ext.trans X xd; clear xd ew12
  refine wi_take 0 rfl (by kernel_rfl) rfl (by kernel_rfl) (listed' := #[true, false, false, false, false, false, false, false, false, false, false, false, false, false]) rfl (fun wq sq => ow_move rfl ⟨rfl, rfl⟩) ?_
  refine wi_take 1 rfl (by kernel_rfl) rfl (by kernel_rfl) (listed' := #[true, true, false, false, false, false, false, false, false, false, false, false, false, false]) rfl (fun wq sq => ow_lssF rfl rfl hq ⟨rfl, rfl⟩) ?_
  refine wi_take 2 rfl (by kernel_rfl) rfl (by kernel_rfl) (listed' := #[true, true, true, false, false, false, false, false, false, false, false, false, false, false]) rfl (fun wq sq => ow_move rfl ⟨rfl, rfl⟩) ?_
  refine wi_takeW 3 rfl (by kernel_rfl) rfl (by kernel_rfl) (listed' := #[true, true, true, true, false, false, false, false, false, false, false, false, false, false]) rfl rfl rfl (fun wq sq => ow_move rfl ⟨rfl, rfl⟩) ?_
  refine wi_takeW 4 rfl (by kernel_rfl) rfl (by kernel_rfl) (listed' := #[true, true, true, true, true, false, false, false, false, false, false, false, false, false]) rfl rfl rfl (fun wq sq => ow_move rfl ⟨rfl, rfl⟩) ?_
  refine wi_takeW 5 rfl (by kernel_rfl) rfl (by kernel_rfl) (listed' := #[true, true, true, true, true, true, false, false, false, false, false, false, false, false]) rfl rfl rfl (fun wq sq => ow_move rfl ⟨rfl, rfl⟩) ?_
  refine wi_takeW 6 rfl (by kernel_rfl) rfl (by kernel_rfl) (listed' := #[true, true, true, true, true, true, true, false, false, false, false, false, false, false]) rfl rfl rfl (fun wq sq => ow_sliceHO (h := (sl33 xs k).length - 3) el22 rfl rfl (by omega) (by omega) ⟨rfl, rfl⟩) ?_
  refine wi_takeW 8 rfl (by kernel_rfl) rfl (by kernel_rfl) (listed' := #[true, true, true, true, true, true, true, false, true, false, false, false, false, false]) rfl rfl rfl (fun wq sq => ow_move rfl ⟨rfl, rfl⟩) ?_
  refine wi_takeW 9 rfl (by kernel_rfl) rfl (by kernel_rfl) (listed' := #[true, true, true, true, true, true, true, false, true, true, false, false, false, false]) rfl rfl rfl (fun wq sq => ow_move rfl ⟨rfl, rfl⟩) ?_
  refine wi_takeW 10 rfl (by kernel_rfl) rfl (by kernel_rfl) (listed' := #[true, true, true, true, true, true, true, false, true, true, true, false, false, false]) rfl rfl rfl (fun wq sq => ow_sliceLX (l := (sl33 xs k).length - 3) el22 rfl rfl (by omega) (by omega) ⟨rfl, rfl⟩) ?_
  refine wi_oneW 7 rfl rfl (by kernel_rfl) (listed' := #[true, true, true, true, true, true, true, true, true, true, true, false, false, false]) rfl rfl rfl hp (ow_call ent72 rfl (ret_mono (blockCheck_n k _ _ _ _ ((sl33 xs k).take ((sl33 xs k).length - 3)) _ (hp.takeI _) (by rw [List.length_take]; omega) (by rw [List.length_take, sl33_len]; omega) (take_b (sl33_b hb k) _) (by omega)) ?_))
  rintro _ w14 ⟨AK, cK, rfl, oK, x13⟩
  replace oK := Own.low oK X.size
  replace oO := oO.ext x13
  replace hs := hs.ext x13
  replace hn := hn.ext x13
  replace oR := oR.ext x13
  replace hp := hp.ext x13
  replace X := Ext.trans X x13; clear x13
  refine wi_oneW 11 rfl rfl (by kernel_rfl) (listed' := #[true, true, true, true, true, true, true, true, true, true, true, true, false, false]) rfl rfl rfl hp (ow_callB ent71 rfl (equalI_n _ _ _ _ (chkB k ((sl33 xs k).take ((sl33 xs k).length - 3))) _ _ _ _ ((sl33 xs k).drop ((sl33 xs k).length - 3)) _ oK.sl (hp.dropX _ hpc) (by rw [chkB_len]; omega) (chkB_len _ _) (by rw [List.length_drop]; rfl)) (fun w16 he x15 => ?_) (fun w16 he x15 => ?_))
  replace oO := oO.ext x15
  replace hs := hs.ext x15
  replace hn := hn.ext x15
  replace oR := oR.ext x15
  replace hp := hp.ext x15
  replace oK := oK.ext x15
  replace X := Ext.trans X x15; clear x15
  refine wi_takeW 12 rfl (by kernel_rfl) rfl (by kernel_rfl) (listed' := #[true, true, true, true, true, true, true, true, true, true, true, true, true, false]) rfl rfl rfl (fun wq sq => ow_not rfl ⟨rfl, rfl⟩) ?_
  refine wi_take 13 rfl (by kernel_rfl) rfl (by kernel_rfl) (listed' := #[true, true, true, true, true, true, true, true, true, true, true, true, true, true]) rfl (fun wq sq => ow_pick rfl rfl ⟨rfl, rfl⟩) ?_
  refine wi_done rfl hp (fun aj fj => ⟨_, fj, ?_⟩)
  refine c_false rfl ?_
  refine c_skip ?_
  refine bq_n ?_
  refine tq_n ?_
  refine c_region ?_
  have hbk : badK xs k = false := by rw [badK_long (by omega), he]; rfl
  refine ops_cons rfl (ow_add rfl rfl (w64 (by omega)) ?_)
  refine ops_cons rfl (ow_move rfl ?_)
  refine ops_nil ?_
  refine tq_n ⟨(k + 1, n1, A1, c1), (.cons rfl (.cons rfl (.cons rfl (.cons rfl (.cons rfl (.nil _)))))), ?_, ?_⟩
  · exact ⟨(by omega), (by omega), (by rw [dmgP_step, if_neg (by rw [hbk]; decide)]; exact hn1), (oO.to (by rw [dmgP_step, if_neg (by rw [hbk]; decide)])), hs, hn, oR, X⟩
  · first | omega | (dsimp only; omega)
  replace oO := oO.ext x15
  replace hs := hs.ext x15
  replace hn := hn.ext x15
  replace oR := oR.ext x15
  replace hp := hp.ext x15
  replace oK := oK.ext x15
  replace X := Ext.trans X x15; clear x15
  refine wi_takeW 12 rfl (by kernel_rfl) rfl (by kernel_rfl) (listed' := #[true, true, true, true, true, true, true, true, true, true, true, true, true, false]) rfl rfl rfl (fun wq sq => ow_not rfl ⟨rfl, rfl⟩) ?_
  refine wi_take 13 rfl (by kernel_rfl) rfl (by kernel_rfl) (listed' := #[true, true, true, true, true, true, true, true, true, true, true, true, true, true]) rfl (fun wq sq => ow_pick rfl rfl ⟨rfl, rfl⟩) ?_
  refine wi_done rfl hp (fun aj fj => ⟨_, fj, ?_⟩)
  refine c_true rfl ?_
  refine c_region ?_
  have hbk : badK xs k = true := by rw [badK_long (by omega), he]; rfl
  refine ops_cons rfl (ow_move rfl ?_)
  refine ops_cons rfl (ow_move rfl ?_)
  refine ops_cons rfl (ow_buildSlice el22 ti2 rfl rfl rfl rfl rfl ?_)
  intro g17 w19 eg17 oV bbg17 x18 zg17
  replace oV := Own.low oV X.size
  replace oO := oO.ext x18
  replace hs := hs.ext x18
  replace hn := hn.ext x18
  replace oR := oR.ext x18
  replace hp := hp.ext x18
  replace X := Ext.trans X x18; clear x18
  refine ops_cons rfl (ow_append (ts := #[]) oO X.size oV.sl rfl (one_ints [(k : Int)]) el22 ti2 rfl rfl rfl rfl (by omega) (by omega) ?_)
  intro AoN coN w21 oN hg20
  replace hs := hs.grown hg20 (fun g hg => Nat.le_trans Bhs (Own.lt oO hg).1)
  replace hn := hn.grown hg20 (fun g hg => Nat.le_trans Bhn (Own.lt oO hg).1)
  replace oR := oR.grown hg20 (Own.neO oR oO (by decide))
  replace hp := hp.grown hg20 (fun g hg => Nat.le_trans Bhs (Own.lt oO hg).1)
  replace X := X.grown hg20 X.size (fun g hg => (Own.lt oO hg).1)
  clear hg20
  refine ops_cons rfl (ow_assign rfl ?_)
  refine ops_nil ?_
  refine bq_n ?_
  refine tq_n ?_
  refine c_region ?_
  refine ops_cons rfl (ow_add rfl rfl (w64 (by omega)) ?_)
  refine ops_cons rfl (ow_move rfl ?_)
  refine ops_nil ?_
  refine tq_n ⟨(k + 1, n1 + 1, AoN, coN), (.cons rfl (.cons rfl (.cons rfl (.cons rfl (.cons rfl (.nil _)))))), ?_, ?_⟩
  · exact ⟨(by omega), (by omega), (by rw [dmgP_step, if_pos hbk]; simp [hn1]), (oN.to (by rw [dmgP_step, if_pos hbk, List.flatMap_append]; rfl)), hs, hn, oR, X⟩
  · first | omega | (dsimp only; omega)
  refine ops_nil ?_
  refine c_seq ?_
  refine c_false rfl ?_
  refine c_exit ?_
  refine tq_e ?_
  refine tq_e ?_
  refine bq_e ?_
  refine tq_n ?_
  refine c_seqR ?_
  refine ops_cons rfl (ow_move rfl ?_)
  refine ops_cons rfl (ow_assign rfl ?_)
  refine ops_nil ?_
  refine c_ret ?_
  refine fin_ret1 rfl rfl ?_
  · skip
    have hkE : k = nS xs.length := by omega
    rw [hkE] at oO hn1
    unfold dmg
    rw [← hn1]; exact ⟨A1, c1, rfl, oO, X⟩

theorem l09Damaged_c (A : Option Addr) (B c : Nat) (xs : List Int) (w : World) (hs : Sl B w A (xs.flatMap eI)) (hl : xs.length ≤ 1024) (hb : ∀ x ∈ xs, 0 ≤ x ∧ x ≤ 255) (hc : xs.length ≤ c) :
    Calls Try.prog 37 #[.slice A xs.length c] w (Ret fun v w' => ∃ A' c', v = .slice A' (dmg xs).length c' ∧ Own w' w.heap.size 2 1 A' (dmg xs).length c' ((dmg xs).flatMap eI) ∧ Ext w w') := by
  have hnS := nS_le xs.length
  have Bhs := hs.1
  have X := Ext.refl w
  refine calls_of (args := [.slice A xs.length c]) Try.func37 Try.ntmps37 rfl rfl ?_
  refine c_seqR ?_
  refine ops_cons rfl (ow_assign rfl ?_)
  refine ops_nil ?_
  refine c_seqR ?_
  refine ops_cons rfl (ow_buildSlice el22 ti2 rfl rfl rfl rfl rfl ?_)
  intro gO w2 egO oO bbgO x1 zgO
  replace oO := Own.low oO X.size
  replace hs := hs.ext x1
  replace X := Ext.trans X x1; clear x1
  refine ops_cons rfl (ow_assign rfl ?_)
  refine ops_nil ?_
  refine c_seq ?_
  refine c_seqR ?_
  refine ops_cons rfl (ow_assign rfl ?_)
  refine ops_nil ?_
  refine c_block ?_
  refine c_loop (G := Nat × Nat × Option Addr × Nat) (fun ⟨k, n1, A1, c1⟩ => [(0, .slice A xs.length c), (2, .slice none 0 0), (3, .slice A1 n1 c1), (4, .int .i64 (k : Nat))]) (fun ⟨k, n1, A1, c1⟩ wr => k ≤ nS xs.length ∧ n1 ≤ k ∧ n1 = (dmgP xs k).length ∧ Own wr w.heap.size 2 1 A1 n1 c1 ((dmgP xs k).flatMap eI) ∧ Sl B wr A (xs.flatMap eI) ∧ Ext w wr) (fun ⟨k, n1, A1, c1⟩ => nS xs.length - k) (0, 0, some ⟨gO, 0, none⟩, 0) (.cons rfl (.cons rfl (.cons rfl (.cons rfl (.nil _))))) ?_ ?_
  · exact ⟨(Nat.zero_le _), (Nat.le_refl _), rfl, oO, hs, X⟩
  clear hs oO
  clear X
  rintro ⟨k, n1, A1, c1⟩ wr ⟨hk0, hnk, hn1, oO, hs, X⟩
  refine c_seq ?_
  refine c_seqR ?_
  refine ops_cons rfl (ow_move rfl ?_)
  refine ops_cons rfl (ow_eql2 rfl rfl (fun h0 => ?_) (fun h0 => ?_))
  have hkS := (nS_on (n := xs.length) (k := k)).2 (.inl (by omega))
  refine ops_cons rfl (ow_move rfl ?_)
  refine ops_skip rfl rfl rfl rfl ?_
  refine ops_skip rfl rfl rfl rfl ?_
  refine ops_skip rfl rfl rfl rfl ?_
  refine ops_skip rfl rfl rfl rfl ?_
  refine ops_skip rfl rfl rfl rfl ?_
  refine ops_cons rfl (ow_pick rfl rfl ?_)
  refine ops_nil ?_
  refine c_true rfl ?_
  refine c_skip ?_
  refine tq_n ?_
  refine c_seq ?_
  refine c_block ?_
  refine c_seqR ?_
  refine ops_cons rfl (ow_move rfl ?_)
  refine ops_cons rfl (ow_move rfl ?_)
  refine ops_cons rfl (ow_call ent38 rfl (ret_mono (l09Slice_c A B c xs k _ hs (by omega) hc (by omega)) ?_))
  rintro _ wS ⟨pA, pc, rfl, hpc, hp, xS⟩
  replace hs := hs.ext xS
  replace oO := oO.ext xS
  replace X := Ext.trans X xS; clear xS
  have hpl := sl33_len xs k
  refine ops_cons rfl (ow_assign rfl ?_)
  refine ops_nil ?_
  refine c_seqR ?_
  refine ops_cons rfl (ow_move rfl ?_)
  refine ops_cons rfl (ow_len Try.underlying22 rfl ?_)
  refine ops_cons rfl (ow_sub rfl rfl (w64 (by omega)) ?_)
  refine ops_cons rfl (ow_assign rfl ?_)
  refine ops_nil ?_
  refine c_seqD [false, false, false, false, false, false, false, false, false, false, false, false, false, false, false, false, false, false, false, false, false, false, false, false, false, false, false, false] mixed (by kernel_rfl) ?_
  refine f_q rfl (fun wq sq => ow_move rfl ⟨rfl, Ext.refl _⟩) ?_
  refine f_qb rfl (fun wq sq => ow_lss rfl rfl ⟨rfl, Ext.refl _⟩) (fun hq => ?_) (fun hq => ?_)
  refine f_q rfl (fun wq sq => ow_move rfl ⟨rfl, Ext.refl _⟩) ?_
  refine f_qs rfl rfl rfl rfl ?_
  refine f_qs rfl rfl rfl rfl ?_
  refine f_qs rfl rfl rfl rfl ?_
  refine f_qs rfl rfl rfl rfl ?_
  refine f_qs rfl rfl rfl rfl ?_
  refine f_qs rfl rfl rfl rfl ?_
  refine f_qs rfl rfl rfl rfl ?_
  refine f_qs rfl rfl rfl rfl ?_
  refine f_qs rfl rfl rfl rfl ?_
  refine f_qs rfl rfl rfl rfl ?_
  refine f_qs rfl rfl rfl rfl ?_
  refine f_qs rfl rfl rfl rfl ?_
  refine f_qs rfl rfl rfl rfl ?_
  refine f_qs rfl rfl rfl rfl ?_
  refine f_qs rfl rfl rfl rfl ?_
  refine f_qs rfl rfl rfl rfl ?_
  refine f_qs rfl rfl rfl rfl ?_
  refine f_qs rfl rfl rfl rfl ?_
  refine f_qs rfl rfl rfl rfl ?_
  refine f_qs rfl rfl rfl rfl ?_
  refine f_qs rfl rfl rfl rfl ?_
  refine f_qs rfl rfl rfl rfl ?_
  refine f_qs rfl rfl rfl rfl ?_
  refine f_qs rfl rfl rfl rfl ?_
  refine f_q rfl (fun wq sq => ow_pick rfl rfl ⟨rfl, Ext.refl _⟩) ?_
  refine f_nil (fun w3 sq => ?_)
  have xq := sq
  replace oO := oO.ext xq
  replace hs := hs.ext xq
  replace hp := hp.ext xq
  replace X := Ext.trans X xq; clear xq sq
  refine ops_nil ?_
  refine c_true rfl ?_
  refine c_region ?_
  have hbk : badK xs k = true := badK_short (by omega)
  refine ops_cons rfl (ow_move rfl ?_)
  refine ops_cons rfl (ow_move rfl ?_)
  refine ops_cons rfl (ow_buildSlice el22 ti2 rfl rfl rfl rfl rfl ?_)
  intro g4 w6 eg4 oV bbg4 x5 zg4
  replace oV := Own.low oV X.size
  replace oO := oO.ext x5
  replace hs := hs.ext x5
  replace hp := hp.ext x5
  replace X := Ext.trans X x5; clear x5
  refine ops_cons rfl (ow_append (ts := #[]) oO X.size oV.sl rfl (one_ints [(k : Int)]) el22 ti2 rfl rfl rfl rfl (by omega) (by omega) ?_)
  intro AoN coN w9 oN hg7
  replace hs := hs.grown hg7 (fun g hg => Nat.le_trans Bhs (Own.lt oO hg).1)
  replace hp := hp.grown hg7 (fun g hg => Nat.le_trans Bhs (Own.lt oO hg).1)
  replace X := X.grown hg7 X.size (fun g hg => (Own.lt oO hg).1)
  clear hg7
  refine ops_cons rfl (ow_assign rfl ?_)
  refine ops_nil ?_
  refine bq_n ?_
  refine tq_n ?_
  refine c_region ?_
  refine ops_cons rfl (ow_move rfl ?_)
  refine ops_cons rfl (ow_add rfl rfl (w64 (by omega)) ?_)
  refine ops_cons rfl (ow_assign rfl ?_)
  refine ops_nil ?_
  refine tq_n ⟨(k + 1, n1 + 1, AoN, coN), (.cons rfl (.cons rfl (.cons rfl (.cons rfl (.nil _))))), ?_, ?_⟩
  · exact ⟨(by omega), (by omega), (by rw [dmgP_step, if_pos hbk]; simp [hn1]), (oN.to (by rw [dmgP_step, if_pos hbk, List.flatMap_append]; rfl)), hs, X⟩
  · first | omega | (dsimp only; omega)
  obtain ⟨b0, hb0, _⟩ := drop_at (xs := (sl33 xs k)) (k := (sl33 xs k).length - 3) (by omega)
  obtain ⟨b1, hb1, _⟩ := drop_at (xs := (sl33 xs k)) (k := (sl33 xs k).length - 2) (by omega)
  obtain ⟨b2, hb2, _⟩ := drop_at (xs := (sl33 xs k)) (k := (sl33 xs k).length - 1) (by omega)
  have hr0 := sl33_b hb k b0 (List.mem_of_getElem? hb0)
  have hr1 := sl33_b hb k b1 (List.mem_of_getElem? hb1)
  have hr2 := sl33_b hb k b2 (List.mem_of_getElem? hb2)
  have hd3 := drop3 (l := (sl33 xs k)) (by omega) hb0 hb1 hb2
  have hck := crcK_in (k := k) ((sl33 xs k).take ((sl33 xs k).length - 3)) (by omega)
  refine f_q rfl (fun wq sq => ow_move rfl ⟨rfl, Ext.refl _⟩) ?_
  refine f_qw rfl rfl rfl (fun wq sq => ow_move rfl ⟨rfl, Ext.refl _⟩) ?_
  refine f_qw rfl rfl rfl (fun wq sq => ow_move rfl ⟨rfl, Ext.refl _⟩) ?_
  refine f_qw rfl rfl rfl (fun wq sq => ow_move rfl ⟨rfl, Ext.refl _⟩) ?_
  refine f_qw rfl rfl rfl (fun wq sq => ow_sliceHO (h := (sl33 xs k).length - 3) el22 rfl rfl (by omega) (by omega) ⟨rfl, Ext.refl _⟩) ?_
  refine f_qw rfl rfl rfl (fun wq sq => ow_call ent68 rfl (l09Check_n k _ _ _ _ ((sl33 xs k).take ((sl33 xs k).length - 3)) _ ((hp.ext sq).takeI _) (by rw [List.length_take]; omega) (by rw [List.length_take, sl33_len]; omega) (take_b (sl33_b hb k) _) (by omega))) ?_
  refine f_qw rfl rfl rfl (fun wq sq => ow_move rfl ⟨rfl, Ext.refl _⟩) ?_
  refine f_qw rfl rfl rfl (fun wq sq => ow_move rfl ⟨rfl, Ext.refl _⟩) ?_
  refine f_qw rfl rfl rfl (fun wq sq => ow_indexT (hp.ext sq) eI_len rfl el22 rfl rfl rfl hb0 (by omega) ⟨rfl, Ext.refl _⟩) ?_
  refine f_qw rfl rfl rfl (fun wq sq => ow_loadT (hp.ext sq) eI_len hb0 ti2 rfl rfl rfl ⟨rfl, Ext.refl _⟩) ?_
  refine f_qw rfl rfl rfl (fun wq sq => ow_mul rfl rfl (w64 (by omega)) ⟨rfl, Ext.refl _⟩) ?_
  refine f_qw rfl rfl rfl (fun wq sq => ow_move rfl ⟨rfl, Ext.refl _⟩) ?_
  refine f_qw rfl rfl rfl (fun wq sq => ow_move rfl ⟨rfl, Ext.refl _⟩) ?_
  refine f_qw rfl rfl rfl (fun wq sq => ow_add rfl rfl (w64 (by omega)) ⟨rfl, Ext.refl _⟩) ?_
  refine f_qw rfl rfl rfl (fun wq sq => ow_indexT (hp.ext sq) eI_len rfl el22 rfl rfl rfl hb1 (by omega) ⟨rfl, Ext.refl _⟩) ?_
  refine f_qw rfl rfl rfl (fun wq sq => ow_loadT (hp.ext sq) eI_len hb1 ti2 rfl rfl rfl ⟨rfl, Ext.refl _⟩) ?_
  refine f_qw rfl rfl rfl (fun wq sq => ow_mul rfl rfl (w64 (by omega)) ⟨rfl, Ext.refl _⟩) ?_
  refine f_qw rfl rfl rfl (fun wq sq => ow_add rfl rfl (w64 (by omega)) ⟨rfl, Ext.refl _⟩) ?_
  refine f_qw rfl rfl rfl (fun wq sq => ow_move rfl ⟨rfl, Ext.refl _⟩) ?_
  refine f_qw rfl rfl rfl (fun wq sq => ow_move rfl ⟨rfl, Ext.refl _⟩) ?_
  refine f_qw rfl rfl rfl (fun wq sq => ow_add rfl rfl (w64 (by omega)) ⟨rfl, Ext.refl _⟩) ?_
  refine f_qw rfl rfl rfl (fun wq sq => ow_indexT (hp.ext sq) eI_len rfl el22 rfl rfl rfl hb2 (by omega) ⟨rfl, Ext.refl _⟩) ?_
  refine f_qw rfl rfl rfl (fun wq sq => ow_loadT (hp.ext sq) eI_len hb2 ti2 rfl rfl rfl ⟨rfl, Ext.refl _⟩) ?_
  refine f_qw rfl rfl rfl (fun wq sq => ow_add rfl rfl (w64 (by omega)) ⟨rfl, Ext.refl _⟩) ?_
  refine f_qwb rfl rfl rfl (fun wq sq => ow_neq rfl rfl ⟨rfl, Ext.refl _⟩) (fun hne => ?_) (fun hne => ?_)
  refine f_q rfl (fun wq sq => ow_pick rfl rfl ⟨rfl, Ext.refl _⟩) ?_
  refine f_nil (fun w10 sq => ?_)
  have xq := sq
  replace oO := oO.ext xq
  replace hs := hs.ext xq
  replace hp := hp.ext xq
  replace X := Ext.trans X xq; clear xq sq
  refine ops_nil ?_
  refine c_true rfl ?_
  refine c_region ?_
  have hbk : badK xs k = true := by rw [badK_long (by omega), hd3, decide_eq_false (p := chkB k ((sl33 xs k).take ((sl33 xs k).length - 3)) = [b0, b1, b2]) (fun e => hne ((id3_eq hck hr0 hr1 hr2).1 e))]; rfl
  refine ops_cons rfl (ow_move rfl ?_)
  refine ops_cons rfl (ow_move rfl ?_)
  refine ops_cons rfl (ow_buildSlice el22 ti2 rfl rfl rfl rfl rfl ?_)
  intro g11 w13 eg11 oV bbg11 x12 zg11
  replace oV := Own.low oV X.size
  replace oO := oO.ext x12
  replace hs := hs.ext x12
  replace hp := hp.ext x12
  replace X := Ext.trans X x12; clear x12
  refine ops_cons rfl (ow_append (ts := #[]) oO X.size oV.sl rfl (one_ints [(k : Int)]) el22 ti2 rfl rfl rfl rfl (by omega) (by omega) ?_)
  intro AoN coN w15 oN hg14
  replace hs := hs.grown hg14 (fun g hg => Nat.le_trans Bhs (Own.lt oO hg).1)
  replace hp := hp.grown hg14 (fun g hg => Nat.le_trans Bhs (Own.lt oO hg).1)
  replace X := X.grown hg14 X.size (fun g hg => (Own.lt oO hg).1)
  clear hg14
  refine ops_cons rfl (ow_assign rfl ?_)
  refine ops_nil ?_
  refine bq_n ?_
  refine tq_n ?_
  refine c_region ?_
  refine ops_cons rfl (ow_move rfl ?_)
  refine ops_cons rfl (ow_add rfl rfl (w64 (by omega)) ?_)
  refine ops_cons rfl (ow_assign rfl ?_)
  refine ops_nil ?_
  refine tq_n ⟨(k + 1, n1 + 1, AoN, coN), (.cons rfl (.cons rfl (.cons rfl (.cons rfl (.nil _))))), ?_, ?_⟩
  · exact ⟨(by omega), (by omega), (by rw [dmgP_step, if_pos hbk]; simp [hn1]), (oN.to (by rw [dmgP_step, if_pos hbk, List.flatMap_append]; rfl)), hs, X⟩
  · first | omega | (dsimp only; omega)
  refine f_q rfl (fun wq sq => ow_pick rfl rfl ⟨rfl, Ext.refl _⟩) ?_
  refine f_nil (fun w16 sq => ?_)
  have xq := sq
  replace oO := oO.ext xq
  replace hs := hs.ext xq
  replace hp := hp.ext xq
  replace X := Ext.trans X xq; clear xq sq
  refine ops_nil ?_
  refine c_false rfl ?_
  refine c_skip ?_
  refine bq_n ?_
  refine tq_n ?_
  refine c_region ?_
  have hbk : badK xs k = false := by rw [badK_long (by omega), hd3, decide_eq_true (p := chkB k ((sl33 xs k).take ((sl33 xs k).length - 3)) = [b0, b1, b2]) ((id3_eq hck hr0 hr1 hr2).2 (by omega))]; rfl
  refine ops_cons rfl (ow_move rfl ?_)
  refine ops_cons rfl (ow_add rfl rfl (w64 (by omega)) ?_)
  refine ops_cons rfl (ow_assign rfl ?_)
  refine ops_nil ?_
  refine tq_n ⟨(k + 1, n1, A1, c1), (.cons rfl (.cons rfl (.cons rfl (.cons rfl (.nil _))))), ?_, ?_⟩
  · exact ⟨(by omega), (by omega), (by rw [dmgP_step, if_neg (by rw [hbk]; decide)]; exact hn1), (oO.to (by rw [dmgP_step, if_neg (by rw [hbk]; decide)])), hs, X⟩
  · first | omega | (dsimp only; omega)
  refine ops_cons rfl (ow_move rfl ?_)
  refine ops_want rfl rfl rfl (ow_move rfl ?_)
  refine ops_want rfl rfl rfl (ow_mul rfl rfl (show IntKind.i64.wrap _ = ((33 * k : Nat) : Int) from (w64 (by omega)).trans (by omega)) ?_)
  refine ops_want rfl rfl rfl (ow_move rfl ?_)
  refine ops_want rfl rfl rfl (ow_len Try.underlying22 rfl ?_)
  refine ops_want rfl rfl rfl (ow_lss2 rfl rfl (fun hk => ?_) (fun hk => ?_))
  have hkS := (nS_on (n := xs.length) (k := k)).2 (.inr (by omega))
  refine ops_cons rfl (ow_pick rfl rfl ?_)
  refine ops_nil ?_
  refine c_true rfl ?_
  refine c_skip ?_
  refine tq_n ?_
  refine c_seq ?_
  refine c_block ?_
  refine c_seqR ?_
  refine ops_cons rfl (ow_move rfl ?_)
  refine ops_cons rfl (ow_move rfl ?_)
  refine ops_cons rfl (ow_call ent38 rfl (ret_mono (l09Slice_c A B c xs k _ hs (by omega) hc (by omega)) ?_))
  rintro _ wS ⟨pA, pc, rfl, hpc, hp, xS⟩
  replace hs := hs.ext xS
  replace oO := oO.ext xS
  replace X := Ext.trans X xS; clear xS
  have hpl := sl33_len xs k
  refine ops_cons rfl (ow_assign rfl ?_)
  refine ops_nil ?_
  refine c_seqR ?_
  refine ops_cons rfl (ow_move rfl ?_)
  refine ops_cons rfl (ow_len Try.underlying22 rfl ?_)
  refine ops_cons rfl (ow_sub rfl rfl (w64 (by omega)) ?_)
  refine ops_cons rfl (ow_assign rfl ?_)
  refine ops_nil ?_
  refine c_seqD [false, false, false, false, false, false, false, false, false, false, false, false, false, false, false, false, false, false, false, false, false, false, false, false, false, false, false, false] mixed (by kernel_rfl) ?_
  refine f_q rfl (fun wq sq => ow_move rfl ⟨rfl, Ext.refl _⟩) ?_
  refine f_qb rfl (fun wq sq => ow_lss rfl rfl ⟨rfl, Ext.refl _⟩) (fun hq => ?_) (fun hq => ?_)
  refine f_q rfl (fun wq sq => ow_move rfl ⟨rfl, Ext.refl _⟩) ?_
  refine f_qs rfl rfl rfl rfl ?_
  refine f_qs rfl rfl rfl rfl ?_
  refine f_qs rfl rfl rfl rfl ?_
  refine f_qs rfl rfl rfl rfl ?_
  refine f_qs rfl rfl rfl rfl ?_
  refine f_qs rfl rfl rfl rfl ?_
  refine f_qs rfl rfl rfl rfl ?_
  refine f_qs rfl rfl rfl rfl ?_
  refine f_qs rfl rfl rfl rfl ?_
  refine f_qs rfl rfl rfl rfl ?_
  refine f_qs rfl rfl rfl rfl ?_
  refine f_qs rfl rfl rfl rfl ?_
  refine f_qs rfl rfl rfl rfl ?_
  refine f_qs rfl rfl rfl rfl ?_
  refine f_qs rfl rfl rfl rfl ?_
  refine f_qs rfl rfl rfl rfl ?_
  refine f_qs rfl rfl rfl rfl ?_
  refine f_qs rfl rfl rfl rfl ?_
  refine f_qs rfl rfl rfl rfl ?_
  refine f_qs rfl rfl rfl rfl ?_
  refine f_qs rfl rfl rfl rfl ?_
  refine f_qs rfl rfl rfl rfl ?_
  refine f_qs rfl rfl rfl rfl ?_
  refine f_qs rfl rfl rfl rfl ?_
  refine f_q rfl (fun wq sq => ow_pick rfl rfl ⟨rfl, Ext.refl _⟩) ?_
  refine f_nil (fun w17 sq => ?_)
  have xq := sq
  replace oO := oO.ext xq
  replace hs := hs.ext xq
  replace hp := hp.ext xq
  replace X := Ext.trans X xq; clear xq sq
  refine ops_nil ?_
  refine c_true rfl ?_
  refine c_region ?_
  have hbk : badK xs k = true := badK_short (by omega)
  refine ops_cons rfl (ow_move rfl ?_)
  refine ops_cons rfl (ow_move rfl ?_)
  refine ops_cons rfl (ow_buildSlice el22 ti2 rfl rfl rfl rfl rfl ?_)
  intro g18 w20 eg18 oV bbg18 x19 zg18
  replace oV := Own.low oV X.size
  replace oO := oO.ext x19
  replace hs := hs.ext x19
  replace hp := hp.ext x19
  replace X := Ext.trans X x19; clear x19
  refine ops_cons rfl (ow_append (ts := #[]) oO X.size oV.sl rfl (one_ints [(k : Int)]) el22 ti2 rfl rfl rfl rfl (by omega) (by omega) ?_)
  intro AoN coN w22 oN hg21
  replace hs := hs.grown hg21 (fun g hg => Nat.le_trans Bhs (Own.lt oO hg).1)
  replace hp := hp.grown hg21 (fun g hg => Nat.le_trans Bhs (Own.lt oO hg).1)
  replace X := X.grown hg21 X.size (fun g hg => (Own.lt oO hg).1)
  clear hg21
  refine ops_cons rfl (ow_assign rfl ?_)
  refine ops_nil ?_
  refine bq_n ?_
  refine tq_n ?_
  refine c_region ?_
  refine ops_cons rfl (ow_move rfl ?_)
  refine ops_cons rfl (ow_add rfl rfl (w64 (by omega)) ?_)
  refine ops_cons rfl (ow_assign rfl ?_)
  refine ops_nil ?_
  refine tq_n ⟨(k + 1, n1 + 1, AoN, coN), (.cons rfl (.cons rfl (.cons rfl (.cons rfl (.nil _))))), ?_, ?_⟩
  · exact ⟨(by omega), (by omega), (by rw [dmgP_step, if_pos hbk]; simp [hn1]), (oN.to (by rw [dmgP_step, if_pos hbk, List.flatMap_append]; rfl)), hs, X⟩
  · first | omega | (dsimp only; omega)
  obtain ⟨b0, hb0, _⟩ := drop_at (xs := (sl33 xs k)) (k := (sl33 xs k).length - 3) (by omega)
  obtain ⟨b1, hb1, _⟩ := drop_at (xs := (sl33 xs k)) (k := (sl33 xs k).length - 2) (by omega)
  obtain ⟨b2, hb2, _⟩ := drop_at (xs := (sl33 xs k)) (k := (sl33 xs k).length - 1) (by omega)
  have hr0 := sl33_b hb k b0 (List.mem_of_getElem? hb0)
  have hr1 := sl33_b hb k b1 (List.mem_of_getElem? hb1)
  have hr2 := sl33_b hb k b2 (List.mem_of_getElem? hb2)
  have hd3 := drop3 (l := (sl33 xs k)) (by omega) hb0 hb1 hb2
  have hck := crcK_in (k := k) ((sl33 xs k).take ((sl33 xs k).length - 3)) (by omega)
  refine f_q rfl (fun wq sq => ow_move rfl ⟨rfl, Ext.refl _⟩) ?_
  refine f_qw rfl rfl rfl (fun wq sq => ow_move rfl ⟨rfl, Ext.refl _⟩) ?_
  refine f_qw rfl rfl rfl (fun wq sq => ow_move rfl ⟨rfl, Ext.refl _⟩) ?_
  refine f_qw rfl rfl rfl (fun wq sq => ow_move rfl ⟨rfl, Ext.refl _⟩) ?_
  refine f_qw rfl rfl rfl (fun wq sq => ow_sliceHO (h := (sl33 xs k).length - 3) el22 rfl rfl (by omega) (by omega) ⟨rfl, Ext.refl _⟩) ?_
  refine f_qw rfl rfl rfl (fun wq sq => ow_call ent68 rfl (l09Check_n k _ _ _ _ ((sl33 xs k).take ((sl33 xs k).length - 3)) _ ((hp.ext sq).takeI _) (by rw [List.length_take]; omega) (by rw [List.length_take, sl33_len]; omega) (take_b (sl33_b hb k) _) (by omega))) ?_
  refine f_qw rfl rfl rfl (fun wq sq => ow_move rfl ⟨rfl, Ext.refl _⟩) ?_
  refine f_qw rfl rfl rfl (fun wq sq => ow_move rfl ⟨rfl, Ext.refl _⟩) ?_
  refine f_qw rfl rfl rfl (fun wq sq => ow_indexT (hp.ext sq) eI_len rfl el22 rfl rfl rfl hb0 (by omega) ⟨rfl, Ext.refl _⟩) ?_
  refine f_qw rfl rfl rfl (fun wq sq => ow_loadT (hp.ext sq) eI_len hb0 ti2 rfl rfl rfl ⟨rfl, Ext.refl _⟩) ?_
  refine f_qw rfl rfl rfl (fun wq sq => ow_mul rfl rfl (w64 (by omega)) ⟨rfl, Ext.refl _⟩) ?_
  refine f_qw rfl rfl rfl (fun wq sq => ow_move rfl ⟨rfl, Ext.refl _⟩) ?_
  refine f_qw rfl rfl rfl (fun wq sq => ow_move rfl ⟨rfl, Ext.refl _⟩) ?_
  refine f_qw rfl rfl rfl (fun wq sq => ow_add rfl rfl (w64 (by omega)) ⟨rfl, Ext.refl _⟩) ?_
  refine f_qw rfl rfl rfl (fun wq sq => ow_indexT (hp.ext sq) eI_len rfl el22 rfl rfl rfl hb1 (by omega) ⟨rfl, Ext.refl _⟩) ?_
  refine f_qw rfl rfl rfl (fun wq sq => ow_loadT (hp.ext sq) eI_len hb1 ti2 rfl rfl rfl ⟨rfl, Ext.refl _⟩) ?_
  refine f_qw rfl rfl rfl (fun wq sq => ow_mul rfl rfl (w64 (by omega)) ⟨rfl, Ext.refl _⟩) ?_
  refine f_qw rfl rfl rfl (fun wq sq => ow_add rfl rfl (w64 (by omega)) ⟨rfl, Ext.refl _⟩) ?_
  refine f_qw rfl rfl rfl (fun wq sq => ow_move rfl ⟨rfl, Ext.refl _⟩) ?_
  refine f_qw rfl rfl rfl (fun wq sq => ow_move rfl ⟨rfl, Ext.refl _⟩) ?_
  refine f_qw rfl rfl rfl (fun wq sq => ow_add rfl rfl (w64 (by omega)) ⟨rfl, Ext.refl _⟩) ?_
  refine f_qw rfl rfl rfl (fun wq sq => ow_indexT (hp.ext sq) eI_len rfl el22 rfl rfl rfl hb2 (by omega) ⟨rfl, Ext.refl _⟩) ?_
  refine f_qw rfl rfl rfl (fun wq sq => ow_loadT (hp.ext sq) eI_len hb2 ti2 rfl rfl rfl ⟨rfl, Ext.refl _⟩) ?_
  refine f_qw rfl rfl rfl (fun wq sq => ow_add rfl rfl (w64 (by omega)) ⟨rfl, Ext.refl _⟩) ?_
  refine f_qwb rfl rfl rfl (fun wq sq => ow_neq rfl rfl ⟨rfl, Ext.refl _⟩) (fun hne => ?_) (fun hne => ?_)
  refine f_q rfl (fun wq sq => ow_pick rfl rfl ⟨rfl, Ext.refl _⟩) ?_
  refine f_nil (fun w23 sq => ?_)
  have xq := sq
  replace oO := oO.ext xq
  replace hs := hs.ext xq
  replace hp := hp.ext xq
  replace X := Ext.trans X xq; clear xq sq
  refine ops_nil ?_
  refine c_true rfl ?_
  refine c_region ?_
  have hbk : badK xs k = true := by rw [badK_long (by omega), hd3, decide_eq_false (p := chkB k ((sl33 xs k).take ((sl33 xs k).length - 3)) = [b0, b1, b2]) (fun e => hne ((id3_eq hck hr0 hr1 hr2).1 e))]; rfl
  refine ops_cons rfl (ow_move rfl ?_)
  refine ops_cons rfl (ow_move rfl ?_)
  refine ops_cons rfl (ow_buildSlice el22 ti2 rfl rfl rfl rfl rfl ?_)
  intro g24 w26 eg24 oV bbg24 x25 zg24
  replace oV := Own.low oV X.size
  replace oO := oO.ext x25
  replace hs := hs.ext x25
  replace hp := hp.ext x25
  replace X := Ext.trans X x25; clear x25
  refine ops_cons rfl (ow_append (ts := #[]) oO X.size oV.sl rfl (one_ints [(k : Int)]) el22 ti2 rfl rfl rfl rfl (by omega) (by omega) ?_)
  intro AoN coN w28 oN hg27
  replace hs := hs.grown hg27 (fun g hg => Nat.le_trans Bhs (Own.lt oO hg).1)
  replace hp := hp.grown hg27 (fun g hg => Nat.le_trans Bhs (Own.lt oO hg).1)
  replace X := X.grown hg27 X.size (fun g hg => (Own.lt oO hg).1)
  clear hg27
  refine ops_cons rfl (ow_assign rfl ?_)
  refine ops_nil ?_
  refine bq_n ?_
  refine tq_n ?_
  refine c_region ?_
  refine ops_cons rfl (ow_move rfl ?_)
  refine ops_cons rfl (ow_add rfl rfl (w64 (by omega)) ?_)
  refine ops_cons rfl (ow_assign rfl ?_)
  refine ops_nil ?_
  refine tq_n ⟨(k + 1, n1 + 1, AoN, coN), (.cons rfl (.cons rfl (.cons rfl (.cons rfl (.nil _))))), ?_, ?_⟩
  · exact ⟨(by omega), (by omega), (by rw [dmgP_step, if_pos hbk]; simp [hn1]), (oN.to (by rw [dmgP_step, if_pos hbk, List.flatMap_append]; rfl)), hs, X⟩
  · first | omega | (dsimp only; omega)
  refine f_q rfl (fun wq sq => ow_pick rfl rfl ⟨rfl, Ext.refl _⟩) ?_
  refine f_nil (fun w29 sq => ?_)
  have xq := sq
  replace oO := oO.ext xq
  replace hs := hs.ext xq
  replace hp := hp.ext xq
  replace X := Ext.trans X xq; clear xq sq
  refine ops_nil ?_
  refine c_false rfl ?_
  refine c_skip ?_
  refine bq_n ?_
  refine tq_n ?_
  refine c_region ?_
  have hbk : badK xs k = false := by rw [badK_long (by omega), hd3, decide_eq_true (p := chkB k ((sl33 xs k).take ((sl33 xs k).length - 3)) = [b0, b1, b2]) ((id3_eq hck hr0 hr1 hr2).2 (by omega))]; rfl
  refine ops_cons rfl (ow_move rfl ?_)
  refine ops_cons rfl (ow_add rfl rfl (w64 (by omega)) ?_)
  refine ops_cons rfl (ow_assign rfl ?_)
  refine ops_nil ?_
  refine tq_n ⟨(k + 1, n1, A1, c1), (.cons rfl (.cons rfl (.cons rfl (.cons rfl (.nil _))))), ?_, ?_⟩
  · exact ⟨(by omega), (by omega), (by rw [dmgP_step, if_neg (by rw [hbk]; decide)]; exact hn1), (oO.to (by rw [dmgP_step, if_neg (by rw [hbk]; decide)])), hs, X⟩
  · first | omega | (dsimp only; omega)
  have hkN : ¬ k < nS xs.length := fun h => by have := (nS_on (n := xs.length)).1 h; omega
  refine ops_cons rfl (ow_pick rfl rfl ?_)
  refine ops_nil ?_
  refine c_false rfl ?_
  refine c_exit ?_
  refine tq_e ?_
  refine tq_e ?_
  refine bq_e ?_
  refine tq_n ?_
  refine c_seqR ?_
  refine ops_cons rfl (ow_move rfl ?_)
  refine ops_cons rfl (ow_assign rfl ?_)
  refine ops_nil ?_
  refine c_ret ?_
  refine fin_ret1 rfl rfl ?_
  · skip
    have hkE : k = nS xs.length := by omega
    rw [hkE] at oO hn1
    unfold dmg
    rw [← hn1]; exact ⟨A1, c1, rfl, oO, X⟩
end Go.Proofs.Ytdoibplhbdkapaa
namespace Go.Proofs.Ytdoibplhbdkapaa
open Go.RowKit
set_option linter.unusedVariables false
set_option linter.unusedSimpArgs false
set_option maxRecDepth 20000
theorem l01All_c (A : Option Addr) (B c : Nat) (xs : List Int) (m hi0 : Int) (w : World) (hs : Sl B w A (xs.flatMap eI)) (hl : xs.length ≤ 1048576) :
    Calls Try.prog 67 #[.slice A xs.length c, .int .i64 m, .int .i64 hi0] w (Ret fun v w' => v = .bool (decide ((xs.length : Int) ≤ m) && xs.all fun x => inB x 0 hi0) ∧ Ext w w') := by
  have Bhs := hs.1
  have X := Ext.refl w
  refine calls_of (args := [.slice A xs.length c, .int .i64 m, .int .i64 hi0]) Try.func67 Try.ntmps67 rfl rfl ?_
  refine c_seqR ?_
  refine ops_cons rfl (ow_assign rfl ?_)
  refine ops_nil ?_
  refine c_seq ?_
  refine c_seqR ?_
  refine ops_cons rfl (ow_move rfl ?_)
  refine ops_cons rfl (ow_len Try.underlying22 rfl ?_)
  refine ops_cons rfl (ow_move rfl ?_)
  refine ops_cons rfl (ow_gtr2 rfl rfl (fun hm => ?_) (fun hm => ?_))
  refine ops_nil ?_
  refine c_true rfl ?_
  refine c_seqR ?_
  refine ops_cons rfl (ow_assign rfl ?_)
  refine ops_nil ?_
  refine c_ret ?_
  refine tq_r ?_
  refine fin_ret1 rfl rfl ?_
  · skip
    refine ⟨congrArg Value.bool ?_, X⟩
    first | (rw [decide_eq_false (by omega)]; rfl) | (rw [decide_eq_true (by omega), hi, drop_end hk]; rfl) | (rw [hi, dx]; simp [*])
  refine ops_nil ?_
  refine c_false rfl ?_
  refine c_skip ?_
  refine tq_n ?_
  refine c_seq ?_
  refine c_seqR ?_
  refine ops_cons rfl (ow_assign rfl ?_)
  refine ops_nil ?_
  refine c_block ?_
  refine c_loop (G := Nat) (fun k => [(0, .slice A xs.length c), (2, .int .i64 hi0), (7, .int .i64 (k : Nat))]) (fun k wr => k ≤ xs.length ∧ xs.all (fun x => inB x 0 hi0) = (xs.drop k).all (fun x => inB x 0 hi0) ∧ Sl B wr A (xs.flatMap eI) ∧ Ext w wr) (fun k => xs.length - k) 0 (.cons rfl (.cons rfl (.cons rfl (.nil _)))) ?_ ?_
  · exact ⟨by omega, rfl, hs, X⟩
  clear hs
  clear X
  rintro k wr ⟨hk0, hi, hs, X⟩
  refine c_seq ?_
  refine c_seqR ?_
  refine ops_cons rfl (ow_move rfl ?_)
  refine ops_cons rfl (ow_move rfl ?_)
  refine ops_cons rfl (ow_len Try.underlying22 rfl ?_)
  refine ops_cons rfl (ow_lss2 rfl rfl (fun hk => ?_) (fun hk => ?_))
  obtain ⟨x, hx, dx⟩ := drop_at' hk
  refine ops_nil ?_
  refine c_true rfl ?_
  refine c_skip ?_
  refine tq_n ?_
  refine c_seq ?_
  refine c_block ?_
  refine c_seqR ?_
  refine ops_cons rfl (ow_move rfl ?_)
  refine ops_cons rfl (ow_move rfl ?_)
  refine ops_cons rfl (ow_indexT hs eI_len rfl el22 rfl rfl rfl hx rfl ?_)
  refine ops_cons rfl (ow_loadT hs eI_len hx ti2 rfl rfl rfl ?_)
  refine ops_cons rfl (ow_move rfl ?_)
  refine ops_cons rfl (ow_callB ent77 rfl (l01In_c _ _ _ _) (fun w3 h1 x2 => ?_) (fun w3 h1 x2 => ?_))
  replace hs := hs.ext x2
  replace X := Ext.trans X x2; clear x2
  refine ops_cons rfl (ow_not rfl ?_)
  refine ops_nil ?_
  refine c_false rfl ?_
  refine c_skip ?_
  refine bq_n ?_
  refine tq_n ?_
  refine c_region ?_
  refine ops_cons rfl (ow_move rfl ?_)
  refine ops_cons rfl (ow_add rfl rfl (w64 (by omega)) ?_)
  refine ops_cons rfl (ow_assign rfl ?_)
  refine ops_nil ?_
  refine tq_n ⟨k + 1, (.cons rfl (.cons rfl (.cons rfl (.nil _)))), ?_, ?_⟩
  · exact ⟨by omega, (by rw [hi, dx]; simp [*]), hs, X⟩
  · first | omega | (dsimp only; omega)
  replace hs := hs.ext x2
  replace X := Ext.trans X x2; clear x2
  refine ops_cons rfl (ow_not rfl ?_)
  refine ops_nil ?_
  refine c_true rfl ?_
  refine c_seqR ?_
  refine ops_cons rfl (ow_assign rfl ?_)
  refine ops_nil ?_
  refine c_ret ?_
  refine bq_r ?_
  refine tq_r ?_
  refine tq_r ?_
  refine bq_r ?_
  refine tq_r ?_
  refine fin_ret1 rfl rfl ?_
  · skip
    refine ⟨congrArg Value.bool ?_, X⟩
    first | (rw [decide_eq_false (by omega)]; rfl) | (rw [decide_eq_true (by omega), hi, drop_end hk]; rfl) | (rw [hi, dx]; simp [*])
  refine ops_nil ?_
  refine c_false rfl ?_
  refine c_exit ?_
  refine tq_e ?_
  refine tq_e ?_
  refine bq_e ?_
  refine tq_n ?_
  refine c_seqR ?_
  refine ops_cons rfl (ow_assign rfl ?_)
  refine ops_nil ?_
  refine c_ret ?_
  refine fin_ret1 rfl rfl ?_
  · skip
    refine ⟨congrArg Value.bool ?_, X⟩
    first | (rw [decide_eq_false (by omega)]; rfl) | (rw [decide_eq_true (by omega), hi, drop_end hk]; rfl) | (rw [hi, dx]; simp [*])

theorem sIsBytes_c (A : Option Addr) (B c : Nat) (xs : List Int) (w : World) (hs : Sl B w A (xs.flatMap eI)) (hl : xs.length ≤ 1048576) :
    Calls Try.prog 35 #[.slice A xs.length c] w (Ret fun v w' => v = .bool (isB xs) ∧ Ext w w') := by
  have Bhs := hs.1
  have X := Ext.refl w
  refine calls_of (args := [.slice A xs.length c]) Try.func35 Try.ntmps35 rfl rfl ?_
  refine c_seqR ?_
  refine ops_cons rfl (ow_assign rfl ?_)
  refine ops_nil ?_
  refine c_seqR ?_
  refine ops_cons rfl (ow_move rfl ?_)
  refine ops_cons rfl (ow_call ent67 rfl (ret_mono (l01All_c _ _ _ _ _ _ _ hs hl) ?_))
  rintro _ w2 ⟨rfl, x1⟩
  replace hs := hs.ext x1
  replace X := Ext.trans X x1; clear x1
  refine ops_cons rfl (ow_assign rfl ?_)
  refine ops_nil ?_
  refine c_ret ?_
  refine fin_ret1 rfl rfl ?_
  exact ⟨by rfl, X⟩

theorem iIsBytes_c (A : Option Addr) (B c : Nat) (xs : List Int) (w : World) (hs : Sl B w A (xs.flatMap eI)) (hl : xs.length ≤ 1048576) :
    Calls Try.prog 39 #[.slice A xs.length c] w (Ret fun v w' => v = .bool (isB xs) ∧ Ext w w') := by
  have Bhs := hs.1
  have X := Ext.refl w
  refine calls_of (args := [.slice A xs.length c]) Try.func39 Try.ntmps39 rfl rfl ?_
  refine c_seqR ?_
  refine ops_cons rfl (ow_assign rfl ?_)
  refine ops_nil ?_
  refine c_seqR ?_
  refine ops_cons rfl (ow_move rfl ?_)
  refine ops_cons rfl (ow_len Try.underlying22 rfl ?_)
  refine ops_cons rfl (ow_leq2 rfl rfl (fun hm => ?_) (fun hm => ?_))
  refine ops_cons rfl (ow_move rfl ?_)
  refine ops_want rfl rfl rfl (ow_move rfl ?_)
  refine ops_want rfl rfl rfl (ow_call ent69 rfl (ret_mono (allWithin_c _ _ _ _ _ _ _ hs hl) ?_))
  rintro _ w2 ⟨rfl, x1⟩
  replace hs := hs.ext x1
  replace X := Ext.trans X x1; clear x1
  refine ops_cons rfl (ow_pick rfl rfl ?_)
  refine ops_cons rfl (ow_assign rfl ?_)
  refine ops_nil ?_
  refine c_ret ?_
  refine fin_ret1 rfl rfl ?_
  · skip
    refine ⟨congrArg Value.bool ?_, X⟩
    first | (rw [isB, decide_eq_false (by omega)]; rfl) | (rw [isB, decide_eq_true (by omega)]; simp [*])
  refine ops_cons rfl (ow_move rfl ?_)
  refine ops_skip rfl rfl rfl rfl ?_
  refine ops_skip rfl rfl rfl rfl ?_
  refine ops_cons rfl (ow_pick rfl rfl ?_)
  refine ops_cons rfl (ow_assign rfl ?_)
  refine ops_nil ?_
  refine c_ret ?_
  refine fin_ret1 rfl rfl ?_
  · skip
    refine ⟨congrArg Value.bool ?_, X⟩
    first | (rw [isB, decide_eq_false (by omega)]; rfl) | (rw [isB, decide_eq_true (by omega)]; simp [*])
end Go.Proofs.Ytdoibplhbdkapaa
namespace Go.Proofs.Ytdoibplhbdkapaa
open Go.RowKit
set_option linter.unusedVariables false
set_option linter.unusedSimpArgs false
set_option maxRecDepth 20000
theorem idOf_c (A : Option Addr) (B c n : Nat) (xs : List Int) (x y z : Int) (w : World) (hs : Sl B w A (xs.flatMap eI)) (en : xs.length = n) (hx : xs[0]? = some x) (hy : xs[1]? = some y) (hz : xs[2]? = some z) (rx : 0 ≤ x ∧ x ≤ 255) (ry : 0 ≤ y ∧ y ≤ 255) (rz : 0 ≤ z ∧ z ≤ 255) :
    Calls Try.prog 43 #[.slice A n c] w (Ret fun v w' => v = .int .i64 (x * 65536 + y * 256 + z) ∧ Ext w w') := by
  have Bhs := hs.1
  have X := Ext.refl w
  refine calls_of (args := [.slice A n c]) Try.func43 Try.ntmps43 rfl rfl ?_
  refine c_seqR ?_
  refine ops_cons rfl (ow_assign rfl ?_)
  refine ops_nil ?_
  refine c_seqD [false, false, false, false, false, false, false, false, false, false, false, false, false, false] mixed (by kernel_rfl) ?_
  refine f_q rfl (fun wq sq => ow_move rfl ⟨rfl, Ext.refl _⟩) ?_
  refine f_q rfl (fun wq sq => ow_indexT (hs.ext sq) eI_len rfl el22 rfl en.symm rfl hx rfl ⟨rfl, Ext.refl _⟩) ?_
  refine f_q rfl (fun wq sq => ow_loadT (hs.ext sq) eI_len hx ti2 rfl rfl rfl ⟨rfl, Ext.refl _⟩) ?_
  refine f_q rfl (fun wq sq => ow_shl rfl rfl (by omega) (show IntKind.i64.wrap (x * 2 ^ (min ((16 : Int).toNat) IntKind.i64.bits)) = x * 65536 by rw [show (2 : Int) ^ (min ((16 : Int).toNat) IntKind.i64.bits) = 65536 from rfl]; exact w64 (by omega)) ⟨rfl, Ext.refl _⟩) ?_
  refine f_q rfl (fun wq sq => ow_move rfl ⟨rfl, Ext.refl _⟩) ?_
  refine f_q rfl (fun wq sq => ow_indexT (hs.ext sq) eI_len rfl el22 rfl en.symm rfl hy rfl ⟨rfl, Ext.refl _⟩) ?_
  refine f_q rfl (fun wq sq => ow_loadT (hs.ext sq) eI_len hy ti2 rfl rfl rfl ⟨rfl, Ext.refl _⟩) ?_
  refine f_q rfl (fun wq sq => ow_shl rfl rfl (by omega) (show IntKind.i64.wrap (y * 2 ^ (min ((8 : Int).toNat) IntKind.i64.bits)) = y * 256 by rw [show (2 : Int) ^ (min ((8 : Int).toNat) IntKind.i64.bits) = 256 from rfl]; exact w64 (by omega)) ⟨rfl, Ext.refl _⟩) ?_
  refine f_q rfl (fun wq sq => ow_add rfl rfl (w64 (by omega)) ⟨rfl, Ext.refl _⟩) ?_
  refine f_q rfl (fun wq sq => ow_move rfl ⟨rfl, Ext.refl _⟩) ?_
  refine f_q rfl (fun wq sq => ow_indexT (hs.ext sq) eI_len rfl el22 rfl en.symm rfl hz rfl ⟨rfl, Ext.refl _⟩) ?_
  refine f_q rfl (fun wq sq => ow_loadT (hs.ext sq) eI_len hz ti2 rfl rfl rfl ⟨rfl, Ext.refl _⟩) ?_
  refine f_q rfl (fun wq sq => ow_add rfl rfl (w64 (by omega)) ⟨rfl, Ext.refl _⟩) ?_
  refine f_q rfl (fun wq sq => ow_assign rfl ⟨rfl, Ext.refl _⟩) ?_
  refine f_nil (fun w1 sq => ?_)
  have xq := sq
  replace hs := hs.ext xq
  replace X := Ext.trans X xq; clear xq sq
  refine ops_nil ?_
  refine c_ret ?_
  refine fin_ret1 rfl rfl ?_
  exact ⟨by rfl, X⟩

theorem iIdIm_c (A : Option Addr) (B c : Nat) (xs : List Int) (w : World) (hs : Sl B w A (xs.flatMap eI)) (hl : xs.length ≤ 1048576) (hcap : xs.length ≤ c) :
    Calls Try.prog 9 #[.slice A xs.length c] w (Ret fun v w' => v = .tuple #[.int .i64 (idImF xs).1, .int .i64 (idImF xs).2] ∧ Ext w w') := by
  have hn := slcs_nexts hs hl
  have Bhs := hs.1
  have X := Ext.refl w
  refine calls_of (args := [.slice A xs.length c]) Try.func9 Try.ntmps9 rfl rfl ?_
  refine c_seqR ?_
  refine ops_cons rfl (ow_assign rfl ?_)
  refine ops_cons rfl (ow_assign rfl ?_)
  refine ops_nil ?_
  refine c_seq ?_
  refine c_seqR ?_
  refine ops_cons rfl (ow_move rfl ?_)
  refine ops_cons rfl (ow_callB ent39 rfl (iIsBytes_c _ _ _ _ _ hs hl) (fun w2 hI x1 => ?_) (fun w2 hI x1 => ?_))
  replace hs := hs.ext x1
  replace hn := hn.ext x1
  replace X := Ext.trans X x1; clear x1
  have hbm := isB_mem hI
  have hbl := isB_len hI
  refine ops_cons rfl (ow_not rfl ?_)
  refine ops_nil ?_
  refine c_false rfl ?_
  refine c_skip ?_
  refine tq_n ?_
  refine c_seq ?_
  refine c_seqR ?_
  refine ops_cons rfl (ow_move rfl ?_)
  refine ops_cons rfl (ow_call ent41 rfl (ret_mono (damaged_c _ _ c xs _ hs hbl hbm hcap hn) ?_))
  rintro _ w4 ⟨A5, c6, rfl, oD, x3⟩
  replace oD := Own.low oD X.size
  replace hs := hs.ext x3
  replace hn := hn.ext x3
  replace X := Ext.trans X x3; clear x3
  refine ops_cons rfl (ow_callB ent40 rfl (contains_c _ _ _ (dmg xs) 0 _ oD.sl (dmg_len hl)) (fun w9 hD x7 => ?_) (fun w9 hD x7 => ?_))
  replace hs := hs.ext x7
  replace hn := hn.ext x7
  replace oD := oD.ext x7
  replace X := Ext.trans X x7; clear x7
  refine ops_nil ?_
  refine c_true rfl ?_
  refine c_seqR ?_
  refine ops_cons rfl (ow_assign rfl ?_)
  refine ops_cons rfl (ow_assign rfl ?_)
  refine ops_nil ?_
  refine c_ret ?_
  refine tq_r ?_
  refine fin_ret2 rfl rfl rfl ?_
  · skip
    have e : idImF xs = (0, 7) := by rw [idImF, if_pos hI, if_pos hD]
    rw [e]; exact ⟨rfl, X⟩
  replace hs := hs.ext x7
  replace hn := hn.ext x7
  replace oD := oD.ext x7
  replace X := Ext.trans X x7; clear x7
  have hk0 := badK_false (dmg_zero hD)
  refine ops_nil ?_
  refine c_false rfl ?_
  refine c_skip ?_
  refine tq_n ?_
  refine c_seqR ?_
  refine ops_cons rfl (ow_move rfl ?_)
  obtain ⟨pA, pc, hx, hpc⟩ := slcs_get A xs (k := 0) (nS_pos _)
  have hrl : (rowI pA pc (sl33 xs 0)).m.next.length = (sl33 xs 0).length := rfl
  have hrc : (rowI pA pc (sl33 xs 0)).c = pc := rfl
  have hpl := sl33_len xs 0
  refine ops_cons rfl (ow_call ent42 rfl (ret_mono (slicesOf_c A c xs _ hl hcap) ?_))
  rintro _ w11 ⟨AR, cR, rfl, oR, x10⟩
  replace oR := Own.low oR X.size
  replace hs := hs.ext x10
  replace hn := hn.ext x10
  replace oD := oD.ext x10
  replace X := Ext.trans X x10; clear x10
  refine ops_cons rfl (ow_indexT (oR).sl rowC_len rfl el68 rfl (slcs_len A xs).symm rfl hx rfl ?_)
  refine ops_cons rfl (ow_loadT (oR).sl rowC_len hx ti22 rfl rfl rfl ?_)
  have hp : Sl B _ pA ((sl33 xs 0).flatMap eI) := hn.at_ hx
  refine ops_cons rfl (ow_assign rfl ?_)
  refine ops_nil ?_
  refine c_seqR ?_
  refine ops_cons rfl (ow_move rfl ?_)
  refine ops_cons rfl (ow_move rfl ?_)
  refine ops_cons rfl (ow_len Try.underlying22 rfl ?_)
  refine ops_cons rfl (ow_sub rfl rfl (w64 (by omega)) ?_)
  refine ops_cons rfl (ow_sliceLH el22 hp eI_len rfl rfl rfl (show (2 : Int) = ((2 : Nat) : Int) from rfl) (show _ = (((sl33 xs 0).length - 3 : Nat) : Int) by omega) (by omega) (by omega) ?_)
  intro Ap pS
  refine ops_cons rfl (ow_assign rfl ?_)
  refine ops_nil ?_
  refine c_seq ?_
  refine c_seqR ?_
  refine ops_cons rfl (ow_move rfl ?_)
  refine ops_cons rfl (ow_len Try.underlying22 rfl ?_)
  refine ops_cons rfl (ow_lss2 rfl rfl (fun h8 => ?_) (fun h8 => ?_))
  refine ops_cons rfl (ow_move rfl ?_)
  refine ops_skip rfl rfl rfl rfl ?_
  refine ops_skip rfl rfl rfl rfl ?_
  refine ops_skip rfl rfl rfl rfl ?_
  refine ops_skip rfl rfl rfl rfl ?_
  refine ops_cons rfl (ow_pick rfl rfl ?_)
  refine ops_cons rfl (ow_move rfl ?_)
  refine ops_skip rfl rfl rfl rfl ?_
  refine ops_skip rfl rfl rfl rfl ?_
  refine ops_skip rfl rfl rfl rfl ?_
  refine ops_cons rfl (ow_pick rfl rfl ?_)
  refine ops_nil ?_
  refine c_true rfl ?_
  refine c_seqR ?_
  refine ops_cons rfl (ow_assign rfl ?_)
  refine ops_cons rfl (ow_assign rfl ?_)
  refine ops_nil ?_
  refine c_ret ?_
  refine tq_r ?_
  refine fin_ret2 rfl rfl rfl ?_
  · skip
    have e : idImF xs = (0, 6) := by rw [idImF, if_pos hI, if_neg (by rw [hD]; decide), if_pos (.inl (by omega))]
    rw [e]; exact ⟨rfl, X⟩
  obtain ⟨p0, hp0, _⟩ := drop_at (xs := (sl33 xs 0)) (k := 0) (by omega)
  have hr0 := sl33_b hbm 0 p0 (List.mem_of_getElem? hp0)
  obtain ⟨p2, hp2, _⟩ := drop_at (xs := (sl33 xs 0)) (k := 2) (by omega)
  have hr2 := sl33_b hbm 0 p2 (List.mem_of_getElem? hp2)
  obtain ⟨p3, hp3, _⟩ := drop_at (xs := (sl33 xs 0)) (k := 3) (by omega)
  have hr3 := sl33_b hbm 0 p3 (List.mem_of_getElem? hp3)
  obtain ⟨p4, hp4, _⟩ := drop_at (xs := (sl33 xs 0)) (k := 4) (by omega)
  have hr4 := sl33_b hbm 0 p4 (List.mem_of_getElem? hp4)
  have hv : idV (sl33 xs 0) = p2 * 65536 + p3 * 256 + p4 := by rw [idV, getD_of hp2, getD_of hp3, getD_of hp4]
  have e0 : (sl33 xs 0).getD 0 0 = p0 := getD_of hp0
  refine ops_cons rfl (ow_move rfl ?_)
  refine ops_want rfl rfl rfl (ow_move rfl ?_)
  refine ops_want rfl rfl rfl (ow_indexT hp eI_len rfl el22 rfl rfl rfl hp0 rfl ?_)
  refine ops_want rfl rfl rfl (ow_loadT hp eI_len hp0 ti2 rfl rfl rfl ?_)
  refine ops_want rfl rfl rfl (ow_neq2 rfl rfl (fun hz0 => ?_) (fun hz0 => ?_))
  refine ops_cons rfl (ow_pick rfl rfl ?_)
  refine ops_cons rfl (ow_move rfl ?_)
  refine ops_skip rfl rfl rfl rfl ?_
  refine ops_skip rfl rfl rfl rfl ?_
  refine ops_skip rfl rfl rfl rfl ?_
  refine ops_cons rfl (ow_pick rfl rfl ?_)
  refine ops_nil ?_
  refine c_true rfl ?_
  refine c_seqR ?_
  refine ops_cons rfl (ow_assign rfl ?_)
  refine ops_cons rfl (ow_assign rfl ?_)
  refine ops_nil ?_
  refine c_ret ?_
  refine tq_r ?_
  refine fin_ret2 rfl rfl rfl ?_
  · skip
    have e : idImF xs = (0, 6) := by rw [idImF, if_pos hI, if_neg (by rw [hD]; decide), if_pos (.inr (by rw [e0]; exact hz0))]
    rw [e]; exact ⟨rfl, X⟩
  refine ops_cons rfl (ow_pick rfl rfl ?_)
  refine ops_cons rfl (ow_move rfl ?_)
  refine ops_want rfl rfl rfl (ow_move rfl ?_)
  refine ops_want rfl rfl rfl (ow_call ent43 rfl (ret_mono (idOf_c _ _ _ _ (((sl33 xs 0).drop 2).take ((sl33 xs 0).length - 3 - 2)) p2 p3 p4 _ pS (by rw [List.length_take, List.length_drop]; omega) (data_at (by omega) (by omega) hp2) (data_at (by omega) (by omega) hp3) (data_at (by omega) (by omega) hp4) hr2 hr3 hr4) ?_))
  rintro _ w13 ⟨rfl, x12⟩
  replace hs := hs.ext x12
  replace hn := hn.ext x12
  replace oD := oD.ext x12
  replace oR := oR.ext x12
  replace hp := hp.ext x12
  replace pS := pS.ext x12
  replace X := Ext.trans X x12; clear x12
  refine ops_want rfl rfl rfl (ow_eql2 rfl rfl (fun hid => ?_) (fun hid => ?_))
  refine ops_cons rfl (ow_pick rfl rfl ?_)
  refine ops_nil ?_
  refine c_true rfl ?_
  refine c_seqR ?_
  refine ops_cons rfl (ow_assign rfl ?_)
  refine ops_cons rfl (ow_assign rfl ?_)
  refine ops_nil ?_
  refine c_ret ?_
  refine tq_r ?_
  refine fin_ret2 rfl rfl rfl ?_
  · skip
    have e : idImF xs = (0, 6) := by rw [idImF, if_pos hI, if_neg (by rw [hD]; decide), if_neg (by rw [e0]; omega), if_pos (by rw [hv]; exact hid)]
    rw [e]; exact ⟨rfl, X⟩
  refine ops_cons rfl (ow_pick rfl rfl ?_)
  refine ops_nil ?_
  refine c_false rfl ?_
  refine c_skip ?_
  refine tq_n ?_
  refine c_seqR ?_
  refine ops_cons rfl (ow_move rfl ?_)
  refine ops_cons rfl (ow_call ent43 rfl (ret_mono (idOf_c _ _ _ _ (((sl33 xs 0).drop 2).take ((sl33 xs 0).length - 3 - 2)) p2 p3 p4 _ pS (by rw [List.length_take, List.length_drop]; omega) (data_at (by omega) (by omega) hp2) (data_at (by omega) (by omega) hp3) (data_at (by omega) (by omega) hp4) hr2 hr3 hr4) ?_))
  rintro _ w15 ⟨rfl, x14⟩
  replace hs := hs.ext x14
  replace hn := hn.ext x14
  replace oD := oD.ext x14
  replace oR := oR.ext x14
  replace hp := hp.ext x14
  replace pS := pS.ext x14
  replace X := Ext.trans X x14; clear x14
  refine ops_cons rfl (ow_assign rfl ?_)
  refine ops_cons rfl (ow_assign rfl ?_)
  refine ops_nil ?_
  refine c_ret ?_
  refine fin_ret2 rfl rfl rfl ?_
  · skip
    have e : idImF xs = (p2 * 65536 + p3 * 256 + p4, 0) := by rw [idImF, if_pos hI, if_neg (by rw [hD]; decide), if_neg (by rw [e0]; omega), hv, if_neg (by omega)]
    rw [e]; exact ⟨rfl, X⟩
  replace hs := hs.ext x1
  replace hn := hn.ext x1
  replace X := Ext.trans X x1; clear x1
  refine ops_cons rfl (ow_not rfl ?_)
  refine ops_nil ?_
  refine c_true rfl ?_
  refine c_seqR ?_
  refine ops_cons rfl (ow_assign rfl ?_)
  refine ops_cons rfl (ow_assign rfl ?_)
  refine ops_nil ?_
  refine c_ret ?_
  refine tq_r ?_
  refine fin_ret2 rfl rfl rfl ?_
  · skip
    have e : idImF xs = (0, 2) := by rw [idImF, if_neg (by rw [hI]; decide)]
    rw [e]; exact ⟨rfl, X⟩

theorem sIdIm_c (A : Option Addr) (B c : Nat) (xs : List Int) (w : World) (hs : Sl B w A (xs.flatMap eI)) (hl : xs.length ≤ 1048576) (hcap : xs.length ≤ c) :
    Calls Try.prog 7 #[.slice A xs.length c] w (Ret fun v w' => v = .tuple #[.int .i64 (idImF xs).1, .int .i64 (idImF xs).2] ∧ Ext w w') := by
  have Bhs := hs.1
  have X := Ext.refl w
  refine calls_of (args := [.slice A xs.length c]) Try.func7 Try.ntmps7 rfl rfl ?_
  refine c_seqR ?_
  refine ops_cons rfl (ow_assign rfl ?_)
  refine ops_cons rfl (ow_assign rfl ?_)
  refine ops_nil ?_
  refine c_seq ?_
  refine c_seqR ?_
  refine ops_cons rfl (ow_move rfl ?_)
  refine ops_cons rfl (ow_callB ent35 rfl (sIsBytes_c _ _ _ _ _ hs hl) (fun w2 hI x1 => ?_) (fun w2 hI x1 => ?_))
  replace hs := hs.ext x1
  replace X := Ext.trans X x1; clear x1
  have hbm := isB_mem hI
  have hbl := isB_len hI
  refine ops_cons rfl (ow_not rfl ?_)
  refine ops_nil ?_
  refine c_false rfl ?_
  refine c_skip ?_
  refine tq_n ?_
  refine c_seq ?_
  refine c_seqR ?_
  refine ops_cons rfl (ow_move rfl ?_)
  refine ops_cons rfl (ow_call ent37 rfl (ret_mono (l09Damaged_c _ _ c xs _ hs hbl hbm hcap) ?_))
  rintro _ w4 ⟨A5, c6, rfl, oD, x3⟩
  replace oD := Own.low oD X.size
  replace hs := hs.ext x3
  replace X := Ext.trans X x3; clear x3
  refine ops_cons rfl (ow_callB ent36 rfl (l01Has_c _ _ _ (dmg xs) 0 _ oD.sl (dmg_len hl)) (fun w9 hD x7 => ?_) (fun w9 hD x7 => ?_))
  replace hs := hs.ext x7
  replace oD := oD.ext x7
  replace X := Ext.trans X x7; clear x7
  clear oD
  refine ops_nil ?_
  refine c_true rfl ?_
  refine c_seqR ?_
  refine ops_cons rfl (ow_assign rfl ?_)
  refine ops_cons rfl (ow_assign rfl ?_)
  refine ops_nil ?_
  refine c_ret ?_
  refine tq_r ?_
  refine fin_ret2 rfl rfl rfl ?_
  · skip
    have e : idImF xs = (0, 7) := by rw [idImF, if_pos hI, if_pos hD]
    rw [e]; exact ⟨rfl, X⟩
  replace hs := hs.ext x7
  replace oD := oD.ext x7
  replace X := Ext.trans X x7; clear x7
  clear oD
  refine ops_nil ?_
  refine c_false rfl ?_
  refine c_skip ?_
  refine tq_n ?_
  refine c_seqR ?_
  refine ops_cons rfl (ow_move rfl ?_)
  refine ops_cons rfl (ow_call ent38 rfl (ret_mono (l09Slice_c A B c xs 0 _ hs hl hcap (by omega)) ?_))
  rintro _ wS ⟨pA, pc, rfl, hpc, hp, xS⟩
  replace hs := hs.ext xS
  replace X := Ext.trans X xS; clear xS
  have hpl := sl33_len xs 0
  refine ops_cons rfl (ow_assign rfl ?_)
  refine ops_nil ?_
  refine c_seq ?_
  refine c_seqR ?_
  refine ops_cons rfl (ow_move rfl ?_)
  refine ops_cons rfl (ow_len Try.underlying22 rfl ?_)
  refine ops_cons rfl (ow_lss2 rfl rfl (fun h8 => ?_) (fun h8 => ?_))
  refine ops_cons rfl (ow_move rfl ?_)
  refine ops_skip rfl rfl rfl rfl ?_
  refine ops_skip rfl rfl rfl rfl ?_
  refine ops_skip rfl rfl rfl rfl ?_
  refine ops_skip rfl rfl rfl rfl ?_
  refine ops_cons rfl (ow_pick rfl rfl ?_)
  refine ops_nil ?_
  refine c_true rfl ?_
  refine c_seqR ?_
  refine ops_cons rfl (ow_assign rfl ?_)
  refine ops_cons rfl (ow_assign rfl ?_)
  refine ops_nil ?_
  refine c_ret ?_
  refine tq_r ?_
  refine fin_ret2 rfl rfl rfl ?_
  · skip
    have e : idImF xs = (0, 6) := by rw [idImF, if_pos hI, if_neg (by rw [hD]; decide), if_pos (.inl (by omega))]
    rw [e]; exact ⟨rfl, X⟩
  obtain ⟨p0, hp0, _⟩ := drop_at (xs := (sl33 xs 0)) (k := 0) (by omega)
  have hr0 := sl33_b hbm 0 p0 (List.mem_of_getElem? hp0)
  obtain ⟨p2, hp2, _⟩ := drop_at (xs := (sl33 xs 0)) (k := 2) (by omega)
  have hr2 := sl33_b hbm 0 p2 (List.mem_of_getElem? hp2)
  obtain ⟨p3, hp3, _⟩ := drop_at (xs := (sl33 xs 0)) (k := 3) (by omega)
  have hr3 := sl33_b hbm 0 p3 (List.mem_of_getElem? hp3)
  obtain ⟨p4, hp4, _⟩ := drop_at (xs := (sl33 xs 0)) (k := 4) (by omega)
  have hr4 := sl33_b hbm 0 p4 (List.mem_of_getElem? hp4)
  have hv : idV (sl33 xs 0) = p2 * 65536 + p3 * 256 + p4 := by rw [idV, getD_of hp2, getD_of hp3, getD_of hp4]
  have e0 : (sl33 xs 0).getD 0 0 = p0 := getD_of hp0
  refine ops_cons rfl (ow_move rfl ?_)
  refine ops_want rfl rfl rfl (ow_move rfl ?_)
  refine ops_want rfl rfl rfl (ow_indexT hp eI_len rfl el22 rfl rfl rfl hp0 rfl ?_)
  refine ops_want rfl rfl rfl (ow_loadT hp eI_len hp0 ti2 rfl rfl rfl ?_)
  refine ops_want rfl rfl rfl (ow_neq2 rfl rfl (fun hz0 => ?_) (fun hz0 => ?_))
  refine ops_cons rfl (ow_pick rfl rfl ?_)
  refine ops_nil ?_
  refine c_true rfl ?_
  refine c_seqR ?_
  refine ops_cons rfl (ow_assign rfl ?_)
  refine ops_cons rfl (ow_assign rfl ?_)
  refine ops_nil ?_
  refine c_ret ?_
  refine tq_r ?_
  refine fin_ret2 rfl rfl rfl ?_
  · skip
    have e : idImF xs = (0, 6) := by rw [idImF, if_pos hI, if_neg (by rw [hD]; decide), if_pos (.inr (by rw [e0]; exact hz0))]
    rw [e]; exact ⟨rfl, X⟩
  refine ops_cons rfl (ow_pick rfl rfl ?_)
  refine ops_nil ?_
  refine c_false rfl ?_
  refine c_skip ?_
  refine tq_n ?_
  refine c_seqD [false, false, false, false, false, false, false, false, false, false, false, false, false, false] mixed (by kernel_rfl) ?_
  refine f_q rfl (fun wq sq => ow_move rfl ⟨rfl, Ext.refl _⟩) ?_
  refine f_q rfl (fun wq sq => ow_indexT (hp.ext sq) eI_len rfl el22 rfl rfl rfl hp2 rfl ⟨rfl, Ext.refl _⟩) ?_
  refine f_q rfl (fun wq sq => ow_loadT (hp.ext sq) eI_len hp2 ti2 rfl rfl rfl ⟨rfl, Ext.refl _⟩) ?_
  refine f_q rfl (fun wq sq => ow_mul rfl rfl (w64 (by omega)) ⟨rfl, Ext.refl _⟩) ?_
  refine f_q rfl (fun wq sq => ow_move rfl ⟨rfl, Ext.refl _⟩) ?_
  refine f_q rfl (fun wq sq => ow_indexT (hp.ext sq) eI_len rfl el22 rfl rfl rfl hp3 rfl ⟨rfl, Ext.refl _⟩) ?_
  refine f_q rfl (fun wq sq => ow_loadT (hp.ext sq) eI_len hp3 ti2 rfl rfl rfl ⟨rfl, Ext.refl _⟩) ?_
  refine f_q rfl (fun wq sq => ow_mul rfl rfl (w64 (by omega)) ⟨rfl, Ext.refl _⟩) ?_
  refine f_q rfl (fun wq sq => ow_add rfl rfl (w64 (by omega)) ⟨rfl, Ext.refl _⟩) ?_
  refine f_q rfl (fun wq sq => ow_move rfl ⟨rfl, Ext.refl _⟩) ?_
  refine f_q rfl (fun wq sq => ow_indexT (hp.ext sq) eI_len rfl el22 rfl rfl rfl hp4 rfl ⟨rfl, Ext.refl _⟩) ?_
  refine f_q rfl (fun wq sq => ow_loadT (hp.ext sq) eI_len hp4 ti2 rfl rfl rfl ⟨rfl, Ext.refl _⟩) ?_
  refine f_q rfl (fun wq sq => ow_add rfl rfl (w64 (by omega)) ⟨rfl, Ext.refl _⟩) ?_
  refine f_q rfl (fun wq sq => ow_assign rfl ⟨rfl, Ext.refl _⟩) ?_
  refine f_nil (fun w10 sq => ?_)
  have xq := sq
  replace hs := hs.ext xq
  replace hp := hp.ext xq
  replace X := Ext.trans X xq; clear xq sq
  refine ops_nil ?_
  refine c_seq ?_
  refine c_seqR ?_
  refine ops_cons rfl (ow_move rfl ?_)
  refine ops_cons rfl (ow_eql2 rfl rfl (fun hid => ?_) (fun hid => ?_))
  refine ops_nil ?_
  refine c_true rfl ?_
  refine c_seqR ?_
  refine ops_cons rfl (ow_assign rfl ?_)
  refine ops_cons rfl (ow_assign rfl ?_)
  refine ops_nil ?_
  refine c_ret ?_
  refine tq_r ?_
  refine fin_ret2 rfl rfl rfl ?_
  · skip
    have e : idImF xs = (0, 6) := by rw [idImF, if_pos hI, if_neg (by rw [hD]; decide), if_neg (by rw [e0]; omega), if_pos (by rw [hv]; exact hid)]
    rw [e]; exact ⟨rfl, X⟩
  refine ops_nil ?_
  refine c_false rfl ?_
  refine c_skip ?_
  refine tq_n ?_
  refine c_seqR ?_
  refine ops_cons rfl (ow_move rfl ?_)
  refine ops_cons rfl (ow_assign rfl ?_)
  refine ops_cons rfl (ow_assign rfl ?_)
  refine ops_nil ?_
  refine c_ret ?_
  refine fin_ret2 rfl rfl rfl ?_
  · skip
    have e : idImF xs = (p2 * 65536 + p3 * 256 + p4, 0) := by rw [idImF, if_pos hI, if_neg (by rw [hD]; decide), if_neg (by rw [e0]; omega), hv, if_neg (by omega)]
    rw [e]; exact ⟨rfl, X⟩
  replace hs := hs.ext x1
  replace X := Ext.trans X x1; clear x1
  refine ops_cons rfl (ow_not rfl ?_)
  refine ops_nil ?_
  refine c_true rfl ?_
  refine c_seqR ?_
  refine ops_cons rfl (ow_assign rfl ?_)
  refine ops_cons rfl (ow_assign rfl ?_)
  refine ops_nil ?_
  refine c_ret ?_
  refine tq_r ?_
  refine fin_ret2 rfl rfl rfl ?_
  · skip
    have e : idImF xs = (0, 2) := by rw [idImF, if_neg (by rw [hI]; decide)]
    rw [e]; exact ⟨rfl, X⟩
end Go.Proofs.Ytdoibplhbdkapaa
namespace Go.Proofs.Ytdoibplhbdkapaa
open Go.RowKit
set_option linter.unusedVariables false
set_option linter.unusedSimpArgs false

/-- the lists of a schedule are rows of the call's own -/
structure MOwn (w : World) (lo : Nat) (tN tM tI tS : TypeId) (m : MedlI) : Prop where
  on : Own w lo tN 4 m.An m.ns.length m.cn (m.ns.flatMap NodeI.cells)
  om : Own w lo tM 3 m.Am m.ms.length m.cm (m.ms.flatMap ModeI.cells)
  ox : NOwn w lo tI m.ms
  od : Disj m.ms
  os : Own w lo tS 8 m.As m.ss.length m.cs (m.ss.flatMap SlotI.cells)
section
variable {w w' : World} {lo lo' n c s g : Nat} {tN tM tI tS t' : TypeId} {m : MedlI} {A : Option Addr} {cs : List Value}
theorem MOwn.ext (h : MOwn w lo tN tM tI tS m) (hb : Ext w w') : MOwn w' lo tN tM tI tS m := ⟨h.on.ext hb, h.om.ext hb, h.ox.ext hb, h.od, h.os.ext hb⟩
theorem MOwn.low (h : MOwn w lo tN tM tI tS m) (hl : lo' ≤ lo) : MOwn w lo' tN tM tI tS m := ⟨h.on.low hl, h.om.low hl, h.ox.low hl, h.od, h.os.low hl⟩
theorem MOwn.sn (h : MOwn w lo tN tM tI tS m) : Sl w.heap.size w m.An (m.ns.flatMap NodeI.cells) := h.on.sl
theorem MOwn.sm (h : MOwn w lo tN tM tI tS m) : Sl w.heap.size w m.Am (m.ms.flatMap ModeI.cells) := h.om.sl
theorem MOwn.sx (h : MOwn w lo tN tM tI tS m) : Nexts w.heap.size w m.ms := h.ox.nexts
theorem MOwn.ss (h : MOwn w lo tN tM tI tS m) : Sl w.heap.size w m.As (m.ss.flatMap SlotI.cells) := h.os.sl
end
end Go.Proofs.Ytdoibplhbdkapaa
