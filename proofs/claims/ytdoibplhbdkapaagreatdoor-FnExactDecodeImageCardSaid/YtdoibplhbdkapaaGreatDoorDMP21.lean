/- Texts of the seat that a law needs, put together. No condition. -/
import Derived.Test.YtdoibplhbdkapaaGreatDoorDMP10
namespace Go.Proofs.YtdoibplhbdkapaaGreatDoor
open Go.RowKit
set_option linter.unusedVariables false
set_option linter.unusedSimpArgs false
set_option maxRecDepth 20000
def prts (A : Option Addr) (xs : List Int) : List ModeI := if xs.length = 0 then [rowI none 0 []] else chs A 28 xs (cN 28 xs.length)
theorem cN_nB {n : Nat} (h : n ≠ 0) : cN 28 n = nB n := by
  unfold cN nB; rw [if_neg h, show n + 28 - 1 = n + 27 by omega]
theorem prts_len (A : Option Addr) (xs : List Int) : (prts A xs).length = nB xs.length := by
  unfold prts
  split
  · rename_i h; rw [h]; rfl
  · rename_i h; rw [chs_len, cN_nB h]
theorem prts_get (A : Option Addr) (xs : List Int) {k : Nat} (h : k < nB xs.length) : ∃ pA pc, (prts A xs)[k]? = some (rowI pA pc (part28 xs k)) ∧ (part28 xs k).length ≤ pc := by
  unfold prts
  split
  · rename_i h0
    rw [h0] at h
    have hk : k = 0 := by have h2 : k < 1 := h; omega
    subst hk
    have e : xs = [] := List.eq_nil_of_length_eq_zero h0
    subst e
    exact ⟨none, 0, rfl, Nat.le_refl _⟩
  · rename_i h0
    rw [chs_at (by rw [cN_nB h0]; exact h)]
    refine ⟨_, _, rfl, ?_⟩
    rw [part28_len]; exact Nat.le_refl _
theorem prts_nexts {B : Nat} {w : World} {A : Option Addr} {xs : List Int} (hs : Sl B w A (xs.flatMap eI)) (hl : xs.length ≤ 1048576) : Nexts B w (prts A xs) := by
  unfold prts
  split
  · refine ⟨hs.1, fun x hx => ?_⟩
    obtain rfl : x = rowI none 0 [] := by simpa using hx
    exact ⟨Sl.nil_ hs.1 _, Nat.zero_le _⟩
  · exact chs_nexts hs hl _
theorem prts_one {xs : List Int} (h : xs.length = 0) (A : Option Addr) : (prts A xs).flatMap rowC = [.slice none 0 0] := by unfold prts; rw [if_pos h]; rfl
theorem blkH_T {xs : List Int} {k : Nat} (h : xs.length ≤ 28 * (k + 1)) : blkH xs k = [(k : Int), ((part28 xs k).length : Int) + 128] ++ part28 xs k := by unfold blkH lastB; rw [if_pos h]; rfl
theorem blkH_F {xs : List Int} {k : Nat} (h : ¬ xs.length ≤ 28 * (k + 1)) : blkH xs k = [(k : Int), ((part28 xs k).length : Int)] ++ part28 xs k := by unfold blkH lastB; rw [if_neg h, Int.add_zero]; rfl
theorem blkH_len (xs : List Int) (k : Nat) : (blkH xs k).length = 2 + (part28 xs k).length := by unfold blkH; rw [List.length_cons, List.length_cons]; omega
theorem blkH_b {xs : List Int} (hb : ∀ x ∈ xs, 0 ≤ x ∧ x ≤ 255) {k : Nat} (hk : k ≤ 255) : ∀ x ∈ blkH xs k, 0 ≤ x ∧ x ≤ 255 := fun x hx => by
  have hpl := part28_len xs k
  rcases List.mem_cons.1 hx with rfl | h4
  · omega
  · rcases List.mem_cons.1 h4 with rfl | h5
    · unfold lastB; split <;> omega
    · exact hb x (List.mem_of_mem_drop (List.mem_of_mem_take h5))
theorem part28_cut {xs : List Int} {k : Nat} (h : 28 * k ≤ xs.length) : (xs.drop (28 * k)).take (min xs.length (28 * (k + 1)) - 28 * k) = part28 xs k := by
  unfold part28
  by_cases h2 : 28 * (k + 1) ≤ xs.length
  · rw [Nat.min_eq_right h2, show 28 * (k + 1) - 28 * k = 28 by omega]
  · rw [Nat.min_eq_left (by omega), List.take_of_length_le (by simp), List.take_of_length_le (by simp; omega)]
theorem nB_k {n k : Nat} (h : k < nB n) : 28 * k ≤ n := by have := nB_on.1 h; omega
theorem imageOf_c (A : Option Addr) (B c : Nat) (xs : List Int) (w : World) (hs : Sl B w A (xs.flatMap eI)) (hl : xs.length ≤ 2000) (hb : ∀ x ∈ xs, 0 ≤ x ∧ x ≤ 255) (hc : xs.length ≤ c) (hn : Nexts B w (prts A xs)) :
    Calls Tryz.prog 69 #[.slice A xs.length c] w (Ret fun v w' => ∃ A' c', v = .slice A' (img xs).length c' ∧ Own w' w.heap.size 2 1 A' (img xs).length c' ((img xs).flatMap eI) ∧ Ext w w') := by
  have hnB := nB_le xs.length
  have Bhs := hs.1
  have Bhn := hn.1
  have X := Ext.refl w
  refine calls_of (args := [.slice A xs.length c]) Tryz.func69 Tryz.ntmps69 rfl rfl ?_
  refine c_seqR ?_
  refine ops_cons rfl (ow_assign rfl ?_)
  refine ops_nil ?_
  refine c_seqR ?_
  refine ops_cons rfl (ow_buildSlice el30 ti2 rfl rfl rfl rfl rfl ?_)
  intro gO w2 egO oO bbgO x1 zgO
  replace oO := Own.low oO X.size
  replace hs := hs.ext x1
  replace hn := hn.ext x1
  replace X := Ext.trans X x1; clear x1
  refine ops_cons rfl (ow_move rfl ?_)
  refine ops_cons rfl (ow_call ent152 rfl (ret_mono (chunk_c A xs.length c 28 _ (by omega)) ?_))
  rintro _ wK ⟨gs, gn, rfl, q1, q2, xK⟩
  replace hs := hs.ext xK
  replace hn := hn.ext xK
  replace oO := oO.ext xK
  replace X := Ext.trans X xK; clear xK
  refine ops_cons rfl (ow_call ent151 rfl (ret_mono (collect_c gs gn 28 c A xs _ q1 q2 (by omega) (by omega) hc) ?_))
  rintro _ wL ⟨AL, cL, rfl, oL, xL⟩
  replace oL := Own.low oL X.size
  replace hs := hs.ext xL
  replace hn := hn.ext xL
  replace oO := oO.ext xL
  replace X := Ext.trans X xL; clear xL q1 q2
  refine ops_cons rfl (ow_assign rfl ?_)
  refine ops_cons rfl (ow_assign rfl ?_)
  refine ops_nil ?_
  refine c_seq ?_
  refine c_seqR ?_
  refine ops_cons rfl (ow_move rfl ?_)
  refine ops_cons rfl (ow_len Tryz.underlying30 rfl ?_)
  refine ops_cons rfl (ow_eql2 rfl rfl (fun h0 => ?_) (fun h0 => ?_))
  refine ops_nil ?_
  refine c_true rfl ?_
  refine c_region ?_
  refine ops_cons rfl (ow_buildSlice el107 ti30 rfl rfl rfl rfl rfl ?_)
  intro gP w4 egP oP bbgP x3 zgP
  replace oP := Own.low oP X.size
  replace hs := hs.ext x3
  replace hn := hn.ext x3
  replace oO := oO.ext x3
  replace oL := oL.ext x3
  replace X := Ext.trans X x3; clear x3
  refine ops_cons rfl (ow_assign rfl ?_)
  refine ops_nil ?_
  refine tq_n ?_
  refine c_seq ?_
  refine c_seqR ?_
  have h00 : xs.length = 0 := by omega
  have e1 : nB xs.length = 1 := by rw [h00]; rfl
  have oR : Own _ w.heap.size 30 1 (some ⟨gP, 0, none⟩) 1 1 ((prts A xs).flatMap rowC) := oP.to (by rw [prts_one h00]; rfl)
  clear oP oL
  refine ops_cons rfl (ow_move rfl ?_)
  refine ops_cons rfl (ow_len Tryz.underlying107 rfl ?_)
  refine ops_cons rfl (ow_move rfl ?_)
  refine ops_nil ?_
  refine c_block ?_
  refine c_loop (G := Nat × Nat × Option Addr × Nat) (fun ⟨k, n1, A1, c1⟩ => [(2, .slice none 0 0), (4, .slice (some ⟨gP, 0, none⟩) 1 1), (17, .slice (some ⟨gP, 0, none⟩) 1 1), (18, .int .i64 (1 : Nat)), (3, .slice A1 n1 c1), (19, .int .i64 (k : Nat))]) (fun ⟨k, n1, A1, c1⟩ wr => k ≤ nB xs.length ∧ n1 ≤ 33 * k ∧ n1 = (imgP xs k).length ∧ Own wr w.heap.size 2 1 A1 n1 c1 ((imgP xs k).flatMap eI) ∧ Sl B wr A (xs.flatMap eI) ∧ Nexts B wr (prts A xs) ∧ Own wr w.heap.size 30 1 (some ⟨gP, 0, none⟩) 1 1 ((prts A xs).flatMap rowC) ∧ Ext w wr) (fun ⟨k, n1, A1, c1⟩ => nB xs.length - k) (0, 0, some ⟨gO, 0, none⟩, 0) (.cons rfl (.cons rfl (.cons rfl (.cons rfl (.cons rfl (.cons rfl (.nil _))))))) ?_ ?_
  · exact ⟨(Nat.zero_le _), (Nat.le_refl _), rfl, oO, hs, hn, oR, X⟩
  clear hs hn oO oR
  clear X
  rintro ⟨k, n1, A1, c1⟩ wr ⟨hk0, hnk, hn1, oO, hs, hn, oR, X⟩
  refine c_seqR ?_
  refine ops_cons rfl (ow_lss2 rfl rfl (fun hk => ?_) (fun hk => ?_))
  have LX := X.size
  have UO := fun g hg => (Own.lt oO (g := g) hg).2
  obtain ⟨pA, pc, hx, hpc⟩ := prts_get A xs (k := k) (by omega)
  have hpl := part28_len xs k
  have hrl : (rowI pA pc (part28 xs k)).m.next.length = (part28 xs k).length := rfl
  refine ops_nil ?_
  refine c_seq ?_
  refine c_true rfl ?_
  refine c_skip ?_
  refine tq_n ?_
  refine c_seq ?_
  refine c_block ?_
  refine c_seqR ?_
  refine ops_cons rfl (ow_move rfl ?_)
  refine ops_cons rfl (ow_indexT (oR).sl rowC_len rfl el107 rfl (e1.symm.trans (prts_len A xs).symm) rfl hx rfl ?_)
  refine ops_cons rfl (ow_loadT (oR).sl rowC_len hx ti30 rfl rfl rfl ?_)
  have hp : Sl B _ pA ((part28 xs k).flatMap eI) := hn.at_ hx
  refine ops_cons rfl (ow_assign rfl ?_)
  refine ops_cons rfl (ow_assign rfl ?_)
  refine ops_nil ?_
  refine c_seqR ?_
  refine ops_cons rfl (ow_move rfl ?_)
  refine ops_cons rfl (ow_len Tryz.underlying30 rfl ?_)
  refine ops_cons rfl (ow_assign rfl ?_)
  refine ops_nil ?_
  refine c_seq ?_
  refine c_seqR ?_
  refine ops_cons rfl (ow_move rfl ?_)
  refine ops_cons rfl (ow_move rfl ?_)
  refine ops_cons rfl (ow_len Tryz.underlying107 rfl ?_)
  refine ops_cons rfl (ow_sub rfl rfl (w64 (by omega)) ?_)
  refine ops_cons rfl (ow_eql2 rfl rfl (fun hlast => ?_) (fun hlast => ?_))
  refine ops_nil ?_
  refine c_true rfl ?_
  refine c_region ?_
  refine ops_cons rfl (ow_move rfl ?_)
  refine ops_cons rfl (ow_add rfl rfl (w64 (by omega)) ?_)
  refine ops_cons rfl (ow_assign rfl ?_)
  refine ops_nil ?_
  refine tq_n ?_
  refine c_seqR ?_
  have hL := (nB_last (n := xs.length) (k := k) (by omega)).2 (by omega)
  refine ops_cons rfl (ow_move rfl ?_)
  refine ops_cons rfl (ow_move rfl ?_)
  refine ops_cons rfl (ow_buildSlice el30 ti2 rfl rfl rfl rfl rfl ?_)
  intro gS w6 egS oS bbgS x5 zgS
  replace oS := Own.low oS (Nat.le_refl _)
  replace oO := oO.ext x5
  replace hs := hs.ext x5
  replace hn := hn.ext x5
  replace oR := oR.ext x5
  replace hp := hp.ext x5
  replace X := Ext.trans X x5; clear x5
  refine ops_cons rfl (ow_move rfl ?_)
  refine ops_cons rfl (ow_append (ts := #[]) oS (by omega) hp (flat_len eI_len _) (one_ints _) el30 ti2 rfl rfl rfl rfl (by omega) (by omega) ?_)
  intro AoB coB w9 oB hg7
  replace oO := oO.grown hg7 (fun g hg e => absurd (UO g e) (Nat.not_lt.2 (Own.lt oS hg).1))
  replace hs := hs.grown hg7 (fun g hg => Nat.le_trans (Nat.le_trans Bhs LX) (Own.lt oS hg).1)
  replace hn := hn.grown hg7 (fun g hg => Nat.le_trans (Nat.le_trans Bhs LX) (Own.lt oS hg).1)
  replace oR := oR.grown hg7 (Own.neO oR oS (by decide))
  replace hp := hp.grown hg7 (fun g hg => Nat.le_trans (Nat.le_trans Bhs LX) (Own.lt oS hg).1)
  replace X := X.grown hg7 X.size (fun g hg => (Nat.le_trans LX (Own.lt oS hg).1))
  clear hg7
  replace oB := oB.to (cs' := (blkH xs k).flatMap eI) (by rw [blkH_T hL, List.flatMap_append]; rfl)
  refine ops_cons rfl (ow_assign rfl ?_)
  refine ops_nil ?_
  refine c_region ?_
  refine ops_cons rfl (ow_move rfl ?_)
  refine ops_cons rfl (ow_move rfl ?_)
  refine ops_cons rfl (ow_append (ts := #[]) oO X.size oB.sl (by rw [flat_len eI_len, blkH_len]) (one_ints _) el30 ti2 rfl rfl rfl rfl (by omega) (by omega) ?_)
  intro AoM coM w11 oM hg10
  replace hs := hs.grown hg10 (fun g hg => Nat.le_trans Bhs (Own.lt oO hg).1)
  replace hn := hn.grown hg10 (fun g hg => Nat.le_trans Bhn (Own.lt oO hg).1)
  replace oR := oR.grown hg10 (Own.neO oR oO (by decide))
  replace hp := hp.grown hg10 (fun g hg => Nat.le_trans Bhs (Own.lt oO hg).1)
  replace oB := oB.grown hg10 (fun g hg e => absurd (UO g hg) (Nat.not_lt.2 (Own.lt oB e).1))
  replace X := X.grown hg10 X.size (fun g hg => (Own.lt oO hg).1)
  clear hg10
  refine ops_cons rfl (ow_move rfl ?_)
  refine ops_cons rfl (ow_move rfl ?_)
  refine ops_cons rfl (ow_call ent153 rfl (ret_mono (blockCheck_n k _ _ _ _ (blkH xs k) _ oB.sl (blkH_len xs k) (by rw [blkH_len]; omega) (blkH_b hb (by omega)) (by omega)) ?_))
  rintro _ w13 ⟨AC, cC, rfl, oC, x12⟩
  replace oC := Own.low oC X.size
  replace hs := hs.ext x12
  replace hn := hn.ext x12
  replace oR := oR.ext x12
  replace hp := hp.ext x12
  replace oB := oB.ext x12
  replace oM := oM.ext x12
  replace X := Ext.trans X x12; clear x12
  refine ops_cons rfl (ow_append (ts := #[]) oM X.size oC.sl rfl (one_ints (chkB k (blkH xs k))) el30 ti2 rfl rfl rfl rfl (by omega) (by omega) ?_)
  intro AoN coN w15 oN hg14
  replace hs := hs.grown hg14 (fun g hg => Nat.le_trans Bhs (Own.lt oM hg).1)
  replace hn := hn.grown hg14 (fun g hg => Nat.le_trans Bhn (Own.lt oM hg).1)
  replace oR := oR.grown hg14 (Own.neO oR oM (by decide))
  replace hp := hp.grown hg14 (fun g hg => Nat.le_trans Bhs (Own.lt oM hg).1)
  replace X := X.grown hg14 X.size (fun g hg => (Own.lt oM hg).1)
  clear hg14
  refine ops_cons rfl (ow_assign rfl ?_)
  refine ops_nil ?_
  refine bq_n ?_
  refine tq_n ?_
  refine c_region ?_
  refine ops_cons rfl (ow_add rfl rfl (w64 (by omega)) ?_)
  refine ops_cons rfl (ow_move rfl ?_)
  refine ops_nil ?_
  refine tq_n ⟨(k + 1, n1 + (2 + (part28 xs k).length) + 3, AoN, coN), (.cons rfl (.cons rfl (.cons rfl (.cons rfl (.cons rfl (.cons rfl (.nil _))))))), ?_, ?_⟩
  · exact ⟨(by omega), (by omega), (by rw [imgP_step, List.length_append, blkE, List.length_append, blkH_len, ← hn1, chkB_len]; omega), (oN.to (by rw [imgP_step, blkE, List.flatMap_append, List.flatMap_append, List.append_assoc])), hs, hn, oR, X⟩
  · first | omega | (dsimp only; omega)
  refine ops_nil ?_
  refine c_false rfl ?_
  refine c_skip ?_
  refine tq_n ?_
  refine c_seqR ?_
  have hL := (not_congr (nB_last (n := xs.length) (k := k) (by omega))).2 (by omega)
  refine ops_cons rfl (ow_move rfl ?_)
  refine ops_cons rfl (ow_move rfl ?_)
  refine ops_cons rfl (ow_buildSlice el30 ti2 rfl rfl rfl rfl rfl ?_)
  intro gS w17 egS oS bbgS x16 zgS
  replace oS := Own.low oS (Nat.le_refl _)
  replace oO := oO.ext x16
  replace hs := hs.ext x16
  replace hn := hn.ext x16
  replace oR := oR.ext x16
  replace hp := hp.ext x16
  replace X := Ext.trans X x16; clear x16
  refine ops_cons rfl (ow_move rfl ?_)
  refine ops_cons rfl (ow_append (ts := #[]) oS (by omega) hp (flat_len eI_len _) (one_ints _) el30 ti2 rfl rfl rfl rfl (by omega) (by omega) ?_)
  intro AoB coB w19 oB hg18
  replace oO := oO.grown hg18 (fun g hg e => absurd (UO g e) (Nat.not_lt.2 (Own.lt oS hg).1))
  replace hs := hs.grown hg18 (fun g hg => Nat.le_trans (Nat.le_trans Bhs LX) (Own.lt oS hg).1)
  replace hn := hn.grown hg18 (fun g hg => Nat.le_trans (Nat.le_trans Bhs LX) (Own.lt oS hg).1)
  replace oR := oR.grown hg18 (Own.neO oR oS (by decide))
  replace hp := hp.grown hg18 (fun g hg => Nat.le_trans (Nat.le_trans Bhs LX) (Own.lt oS hg).1)
  replace X := X.grown hg18 X.size (fun g hg => (Nat.le_trans LX (Own.lt oS hg).1))
  clear hg18
  replace oB := oB.to (cs' := (blkH xs k).flatMap eI) (by rw [blkH_F hL, List.flatMap_append]; rfl)
  refine ops_cons rfl (ow_assign rfl ?_)
  refine ops_nil ?_
  refine c_region ?_
  refine ops_cons rfl (ow_move rfl ?_)
  refine ops_cons rfl (ow_move rfl ?_)
  refine ops_cons rfl (ow_append (ts := #[]) oO X.size oB.sl (by rw [flat_len eI_len, blkH_len]) (one_ints _) el30 ti2 rfl rfl rfl rfl (by omega) (by omega) ?_)
  intro AoM coM w21 oM hg20
  replace hs := hs.grown hg20 (fun g hg => Nat.le_trans Bhs (Own.lt oO hg).1)
  replace hn := hn.grown hg20 (fun g hg => Nat.le_trans Bhn (Own.lt oO hg).1)
  replace oR := oR.grown hg20 (Own.neO oR oO (by decide))
  replace hp := hp.grown hg20 (fun g hg => Nat.le_trans Bhs (Own.lt oO hg).1)
  replace oB := oB.grown hg20 (fun g hg e => absurd (UO g hg) (Nat.not_lt.2 (Own.lt oB e).1))
  replace X := X.grown hg20 X.size (fun g hg => (Own.lt oO hg).1)
  clear hg20
  refine ops_cons rfl (ow_move rfl ?_)
  refine ops_cons rfl (ow_move rfl ?_)
  refine ops_cons rfl (ow_call ent153 rfl (ret_mono (blockCheck_n k _ _ _ _ (blkH xs k) _ oB.sl (blkH_len xs k) (by rw [blkH_len]; omega) (blkH_b hb (by omega)) (by omega)) ?_))
  rintro _ w23 ⟨AC, cC, rfl, oC, x22⟩
  replace oC := Own.low oC X.size
  replace hs := hs.ext x22
  replace hn := hn.ext x22
  replace oR := oR.ext x22
  replace hp := hp.ext x22
  replace oB := oB.ext x22
  replace oM := oM.ext x22
  replace X := Ext.trans X x22; clear x22
  refine ops_cons rfl (ow_append (ts := #[]) oM X.size oC.sl rfl (one_ints (chkB k (blkH xs k))) el30 ti2 rfl rfl rfl rfl (by omega) (by omega) ?_)
  intro AoN coN w25 oN hg24
  replace hs := hs.grown hg24 (fun g hg => Nat.le_trans Bhs (Own.lt oM hg).1)
  replace hn := hn.grown hg24 (fun g hg => Nat.le_trans Bhn (Own.lt oM hg).1)
  replace oR := oR.grown hg24 (Own.neO oR oM (by decide))
  replace hp := hp.grown hg24 (fun g hg => Nat.le_trans Bhs (Own.lt oM hg).1)
  replace X := X.grown hg24 X.size (fun g hg => (Own.lt oM hg).1)
  clear hg24
  refine ops_cons rfl (ow_assign rfl ?_)
  refine ops_nil ?_
  refine bq_n ?_
  refine tq_n ?_
  refine c_region ?_
  refine ops_cons rfl (ow_add rfl rfl (w64 (by omega)) ?_)
  refine ops_cons rfl (ow_move rfl ?_)
  refine ops_nil ?_
  refine tq_n ⟨(k + 1, n1 + (2 + (part28 xs k).length) + 3, AoN, coN), (.cons rfl (.cons rfl (.cons rfl (.cons rfl (.cons rfl (.cons rfl (.nil _))))))), ?_, ?_⟩
  · exact ⟨(by omega), (by omega), (by rw [imgP_step, List.length_append, blkE, List.length_append, blkH_len, ← hn1, chkB_len]; omega), (oN.to (by rw [imgP_step, blkE, List.flatMap_append, List.flatMap_append, List.append_assoc])), hs, hn, oR, X⟩
  · first | omega | (dsimp only; omega)
  refine ops_nil ?_
  refine c_seq ?_
  refine c_false rfl ?_
  refine c_exit ?_
  refine tq_e ?_
  refine tq_e ?_
  refine bq_e ?_
  refine tq_n ?_
  refine c_seqR ?_
  refine ops_cons rfl (ow_move rfl ?_)
  refine ops_cons rfl (ow_assign rfl ?_)
  refine ops_nil ?_
  refine c_ret ?_
  refine fin_ret1 rfl rfl ?_
  · skip
    have hkE : k = nB xs.length := by omega
    rw [hkE] at oO hn1
    unfold img
    rw [← hn1]; exact ⟨A1, c1, rfl, oO, X⟩
  refine ops_nil ?_
  refine c_false rfl ?_
  refine c_skip ?_
  refine tq_n ?_
  refine c_seq ?_
  refine c_seqR ?_
  have h00 : xs.length ≠ 0 := by omega
  have e1 : nB xs.length = cN 28 xs.length := (cN_nB h00).symm
  have oR : Own _ w.heap.size 30 1 AL (cN 28 xs.length) cL ((prts A xs).flatMap rowC) := oL.to (by unfold prts; rw [if_neg h00])
  clear oL
  refine ops_cons rfl (ow_move rfl ?_)
  refine ops_cons rfl (ow_len Tryz.underlying107 rfl ?_)
  refine ops_cons rfl (ow_move rfl ?_)
  refine ops_nil ?_
  refine c_block ?_
  refine c_loop (G := Nat × Nat × Option Addr × Nat) (fun ⟨k, n1, A1, c1⟩ => [(2, .slice none 0 0), (4, .slice AL (cN 28 xs.length) cL), (17, .slice AL (cN 28 xs.length) cL), (18, .int .i64 ((cN 28 xs.length) : Nat)), (3, .slice A1 n1 c1), (19, .int .i64 (k : Nat))]) (fun ⟨k, n1, A1, c1⟩ wr => k ≤ nB xs.length ∧ n1 ≤ 33 * k ∧ n1 = (imgP xs k).length ∧ Own wr w.heap.size 2 1 A1 n1 c1 ((imgP xs k).flatMap eI) ∧ Sl B wr A (xs.flatMap eI) ∧ Nexts B wr (prts A xs) ∧ Own wr w.heap.size 30 1 AL (cN 28 xs.length) cL ((prts A xs).flatMap rowC) ∧ Ext w wr) (fun ⟨k, n1, A1, c1⟩ => nB xs.length - k) (0, 0, some ⟨gO, 0, none⟩, 0) (.cons rfl (.cons rfl (.cons rfl (.cons rfl (.cons rfl (.cons rfl (.nil _))))))) ?_ ?_
  · exact ⟨(Nat.zero_le _), (Nat.le_refl _), rfl, oO, hs, hn, oR, X⟩
  clear hs hn oO oR
  clear X
  rintro ⟨k, n1, A1, c1⟩ wr ⟨hk0, hnk, hn1, oO, hs, hn, oR, X⟩
  refine c_seqR ?_
  refine ops_cons rfl (ow_lss2 rfl rfl (fun hk => ?_) (fun hk => ?_))
  have LX := X.size
  have UO := fun g hg => (Own.lt oO (g := g) hg).2
  obtain ⟨pA, pc, hx, hpc⟩ := prts_get A xs (k := k) (by omega)
  have hpl := part28_len xs k
  have hrl : (rowI pA pc (part28 xs k)).m.next.length = (part28 xs k).length := rfl
  refine ops_nil ?_
  refine c_seq ?_
  refine c_true rfl ?_
  refine c_skip ?_
  refine tq_n ?_
  refine c_seq ?_
  refine c_block ?_
  refine c_seqR ?_
  refine ops_cons rfl (ow_move rfl ?_)
  refine ops_cons rfl (ow_indexT (oR).sl rowC_len rfl el107 rfl (e1.symm.trans (prts_len A xs).symm) rfl hx rfl ?_)
  refine ops_cons rfl (ow_loadT (oR).sl rowC_len hx ti30 rfl rfl rfl ?_)
  have hp : Sl B _ pA ((part28 xs k).flatMap eI) := hn.at_ hx
  refine ops_cons rfl (ow_assign rfl ?_)
  refine ops_cons rfl (ow_assign rfl ?_)
  refine ops_nil ?_
  refine c_seqR ?_
  refine ops_cons rfl (ow_move rfl ?_)
  refine ops_cons rfl (ow_len Tryz.underlying30 rfl ?_)
  refine ops_cons rfl (ow_assign rfl ?_)
  refine ops_nil ?_
  refine c_seq ?_
  refine c_seqR ?_
  refine ops_cons rfl (ow_move rfl ?_)
  refine ops_cons rfl (ow_move rfl ?_)
  refine ops_cons rfl (ow_len Tryz.underlying107 rfl ?_)
  refine ops_cons rfl (ow_sub rfl rfl (w64 (by omega)) ?_)
  refine ops_cons rfl (ow_eql2 rfl rfl (fun hlast => ?_) (fun hlast => ?_))
  refine ops_nil ?_
  refine c_true rfl ?_
  refine c_region ?_
  refine ops_cons rfl (ow_move rfl ?_)
  refine ops_cons rfl (ow_add rfl rfl (w64 (by omega)) ?_)
  refine ops_cons rfl (ow_assign rfl ?_)
  refine ops_nil ?_
  refine tq_n ?_
  refine c_seqR ?_
  have hL := (nB_last (n := xs.length) (k := k) (by omega)).2 (by omega)
  refine ops_cons rfl (ow_move rfl ?_)
  refine ops_cons rfl (ow_move rfl ?_)
  refine ops_cons rfl (ow_buildSlice el30 ti2 rfl rfl rfl rfl rfl ?_)
  intro gS w27 egS oS bbgS x26 zgS
  replace oS := Own.low oS (Nat.le_refl _)
  replace oO := oO.ext x26
  replace hs := hs.ext x26
  replace hn := hn.ext x26
  replace oR := oR.ext x26
  replace hp := hp.ext x26
  replace X := Ext.trans X x26; clear x26
  refine ops_cons rfl (ow_move rfl ?_)
  refine ops_cons rfl (ow_append (ts := #[]) oS (by omega) hp (flat_len eI_len _) (one_ints _) el30 ti2 rfl rfl rfl rfl (by omega) (by omega) ?_)
  intro AoB coB w29 oB hg28
  replace oO := oO.grown hg28 (fun g hg e => absurd (UO g e) (Nat.not_lt.2 (Own.lt oS hg).1))
  replace hs := hs.grown hg28 (fun g hg => Nat.le_trans (Nat.le_trans Bhs LX) (Own.lt oS hg).1)
  replace hn := hn.grown hg28 (fun g hg => Nat.le_trans (Nat.le_trans Bhs LX) (Own.lt oS hg).1)
  replace oR := oR.grown hg28 (Own.neO oR oS (by decide))
  replace hp := hp.grown hg28 (fun g hg => Nat.le_trans (Nat.le_trans Bhs LX) (Own.lt oS hg).1)
  replace X := X.grown hg28 X.size (fun g hg => (Nat.le_trans LX (Own.lt oS hg).1))
  clear hg28
  replace oB := oB.to (cs' := (blkH xs k).flatMap eI) (by rw [blkH_T hL, List.flatMap_append]; rfl)
  refine ops_cons rfl (ow_assign rfl ?_)
  refine ops_nil ?_
  refine c_region ?_
  refine ops_cons rfl (ow_move rfl ?_)
  refine ops_cons rfl (ow_move rfl ?_)
  refine ops_cons rfl (ow_append (ts := #[]) oO X.size oB.sl (by rw [flat_len eI_len, blkH_len]) (one_ints _) el30 ti2 rfl rfl rfl rfl (by omega) (by omega) ?_)
  intro AoM coM w31 oM hg30
  replace hs := hs.grown hg30 (fun g hg => Nat.le_trans Bhs (Own.lt oO hg).1)
  replace hn := hn.grown hg30 (fun g hg => Nat.le_trans Bhn (Own.lt oO hg).1)
  replace oR := oR.grown hg30 (Own.neO oR oO (by decide))
  replace hp := hp.grown hg30 (fun g hg => Nat.le_trans Bhs (Own.lt oO hg).1)
  replace oB := oB.grown hg30 (fun g hg e => absurd (UO g hg) (Nat.not_lt.2 (Own.lt oB e).1))
  replace X := X.grown hg30 X.size (fun g hg => (Own.lt oO hg).1)
  clear hg30
  refine ops_cons rfl (ow_move rfl ?_)
  refine ops_cons rfl (ow_move rfl ?_)
  refine ops_cons rfl (ow_call ent153 rfl (ret_mono (blockCheck_n k _ _ _ _ (blkH xs k) _ oB.sl (blkH_len xs k) (by rw [blkH_len]; omega) (blkH_b hb (by omega)) (by omega)) ?_))
  rintro _ w33 ⟨AC, cC, rfl, oC, x32⟩
  replace oC := Own.low oC X.size
  replace hs := hs.ext x32
  replace hn := hn.ext x32
  replace oR := oR.ext x32
  replace hp := hp.ext x32
  replace oB := oB.ext x32
  replace oM := oM.ext x32
  replace X := Ext.trans X x32; clear x32
  refine ops_cons rfl (ow_append (ts := #[]) oM X.size oC.sl rfl (one_ints (chkB k (blkH xs k))) el30 ti2 rfl rfl rfl rfl (by omega) (by omega) ?_)
  intro AoN coN w35 oN hg34
  replace hs := hs.grown hg34 (fun g hg => Nat.le_trans Bhs (Own.lt oM hg).1)
  replace hn := hn.grown hg34 (fun g hg => Nat.le_trans Bhn (Own.lt oM hg).1)
  replace oR := oR.grown hg34 (Own.neO oR oM (by decide))
  replace hp := hp.grown hg34 (fun g hg => Nat.le_trans Bhs (Own.lt oM hg).1)
  replace X := X.grown hg34 X.size (fun g hg => (Own.lt oM hg).1)
  clear hg34
  refine ops_cons rfl (ow_assign rfl ?_)
  refine ops_nil ?_
  refine bq_n ?_
  refine tq_n ?_
  refine c_region ?_
  refine ops_cons rfl (ow_add rfl rfl (w64 (by omega)) ?_)
  refine ops_cons rfl (ow_move rfl ?_)
  refine ops_nil ?_
  refine tq_n ⟨(k + 1, n1 + (2 + (part28 xs k).length) + 3, AoN, coN), (.cons rfl (.cons rfl (.cons rfl (.cons rfl (.cons rfl (.cons rfl (.nil _))))))), ?_, ?_⟩
  · exact ⟨(by omega), (by omega), (by rw [imgP_step, List.length_append, blkE, List.length_append, blkH_len, ← hn1, chkB_len]; omega), (oN.to (by rw [imgP_step, blkE, List.flatMap_append, List.flatMap_append, List.append_assoc])), hs, hn, oR, X⟩
  · first | omega | (dsimp only; omega)
  refine ops_nil ?_
  refine c_false rfl ?_
  refine c_skip ?_
  refine tq_n ?_
  refine c_seqR ?_
  have hL := (not_congr (nB_last (n := xs.length) (k := k) (by omega))).2 (by omega)
  refine ops_cons rfl (ow_move rfl ?_)
  refine ops_cons rfl (ow_move rfl ?_)
  refine ops_cons rfl (ow_buildSlice el30 ti2 rfl rfl rfl rfl rfl ?_)
  intro gS w37 egS oS bbgS x36 zgS
  replace oS := Own.low oS (Nat.le_refl _)
  replace oO := oO.ext x36
  replace hs := hs.ext x36
  replace hn := hn.ext x36
  replace oR := oR.ext x36
  replace hp := hp.ext x36
  replace X := Ext.trans X x36; clear x36
  refine ops_cons rfl (ow_move rfl ?_)
  refine ops_cons rfl (ow_append (ts := #[]) oS (by omega) hp (flat_len eI_len _) (one_ints _) el30 ti2 rfl rfl rfl rfl (by omega) (by omega) ?_)
  intro AoB coB w39 oB hg38
  replace oO := oO.grown hg38 (fun g hg e => absurd (UO g e) (Nat.not_lt.2 (Own.lt oS hg).1))
  replace hs := hs.grown hg38 (fun g hg => Nat.le_trans (Nat.le_trans Bhs LX) (Own.lt oS hg).1)
  replace hn := hn.grown hg38 (fun g hg => Nat.le_trans (Nat.le_trans Bhs LX) (Own.lt oS hg).1)
  replace oR := oR.grown hg38 (Own.neO oR oS (by decide))
  replace hp := hp.grown hg38 (fun g hg => Nat.le_trans (Nat.le_trans Bhs LX) (Own.lt oS hg).1)
  replace X := X.grown hg38 X.size (fun g hg => (Nat.le_trans LX (Own.lt oS hg).1))
  clear hg38
  replace oB := oB.to (cs' := (blkH xs k).flatMap eI) (by rw [blkH_F hL, List.flatMap_append]; rfl)
  refine ops_cons rfl (ow_assign rfl ?_)
  refine ops_nil ?_
  refine c_region ?_
  refine ops_cons rfl (ow_move rfl ?_)
  refine ops_cons rfl (ow_move rfl ?_)
  refine ops_cons rfl (ow_append (ts := #[]) oO X.size oB.sl (by rw [flat_len eI_len, blkH_len]) (one_ints _) el30 ti2 rfl rfl rfl rfl (by omega) (by omega) ?_)
  intro AoM coM w41 oM hg40
  replace hs := hs.grown hg40 (fun g hg => Nat.le_trans Bhs (Own.lt oO hg).1)
  replace hn := hn.grown hg40 (fun g hg => Nat.le_trans Bhn (Own.lt oO hg).1)
  replace oR := oR.grown hg40 (Own.neO oR oO (by decide))
  replace hp := hp.grown hg40 (fun g hg => Nat.le_trans Bhs (Own.lt oO hg).1)
  replace oB := oB.grown hg40 (fun g hg e => absurd (UO g hg) (Nat.not_lt.2 (Own.lt oB e).1))
  replace X := X.grown hg40 X.size (fun g hg => (Own.lt oO hg).1)
  clear hg40
  refine ops_cons rfl (ow_move rfl ?_)
  refine ops_cons rfl (ow_move rfl ?_)
  refine ops_cons rfl (ow_call ent153 rfl (ret_mono (blockCheck_n k _ _ _ _ (blkH xs k) _ oB.sl (blkH_len xs k) (by rw [blkH_len]; omega) (blkH_b hb (by omega)) (by omega)) ?_))
  rintro _ w43 ⟨AC, cC, rfl, oC, x42⟩
  replace oC := Own.low oC X.size
  replace hs := hs.ext x42
  replace hn := hn.ext x42
  replace oR := oR.ext x42
  replace hp := hp.ext x42
  replace oB := oB.ext x42
  replace oM := oM.ext x42
  replace X := Ext.trans X x42; clear x42
  refine ops_cons rfl (ow_append (ts := #[]) oM X.size oC.sl rfl (one_ints (chkB k (blkH xs k))) el30 ti2 rfl rfl rfl rfl (by omega) (by omega) ?_)
  intro AoN coN w45 oN hg44
  replace hs := hs.grown hg44 (fun g hg => Nat.le_trans Bhs (Own.lt oM hg).1)
  replace hn := hn.grown hg44 (fun g hg => Nat.le_trans Bhn (Own.lt oM hg).1)
  replace oR := oR.grown hg44 (Own.neO oR oM (by decide))
  replace hp := hp.grown hg44 (fun g hg => Nat.le_trans Bhs (Own.lt oM hg).1)
  replace X := X.grown hg44 X.size (fun g hg => (Own.lt oM hg).1)
  clear hg44
  refine ops_cons rfl (ow_assign rfl ?_)
  refine ops_nil ?_
  refine bq_n ?_
  refine tq_n ?_
  refine c_region ?_
  refine ops_cons rfl (ow_add rfl rfl (w64 (by omega)) ?_)
  refine ops_cons rfl (ow_move rfl ?_)
  refine ops_nil ?_
  refine tq_n ⟨(k + 1, n1 + (2 + (part28 xs k).length) + 3, AoN, coN), (.cons rfl (.cons rfl (.cons rfl (.cons rfl (.cons rfl (.cons rfl (.nil _))))))), ?_, ?_⟩
  · exact ⟨(by omega), (by omega), (by rw [imgP_step, List.length_append, blkE, List.length_append, blkH_len, ← hn1, chkB_len]; omega), (oN.to (by rw [imgP_step, blkE, List.flatMap_append, List.flatMap_append, List.append_assoc])), hs, hn, oR, X⟩
  · first | omega | (dsimp only; omega)
  refine ops_nil ?_
  refine c_seq ?_
  refine c_false rfl ?_
  refine c_exit ?_
  refine tq_e ?_
  refine tq_e ?_
  refine bq_e ?_
  refine tq_n ?_
  refine c_seqR ?_
  refine ops_cons rfl (ow_move rfl ?_)
  refine ops_cons rfl (ow_assign rfl ?_)
  refine ops_nil ?_
  refine c_ret ?_
  refine fin_ret1 rfl rfl ?_
  · skip
    have hkE : k = nB xs.length := by omega
    rw [hkE] at oO hn1
    unfold img
    rw [← hn1]; exact ⟨A1, c1, rfl, oO, X⟩

theorem l09Image_c (A : Option Addr) (B c : Nat) (xs : List Int) (w : World) (hs : Sl B w A (xs.flatMap eI)) (hl : xs.length ≤ 2000) (hb : ∀ x ∈ xs, 0 ≤ x ∧ x ≤ 255) (hc : xs.length ≤ c) :
    Calls Tryz.prog 73 #[.slice A xs.length c] w (Ret fun v w' => ∃ A' c', v = .slice A' (img xs).length c' ∧ Own w' w.heap.size 2 1 A' (img xs).length c' ((img xs).flatMap eI) ∧ Ext w w') := by
  have hnB := nB_le xs.length
  have Bhs := hs.1
  have X := Ext.refl w
  refine calls_of (args := [.slice A xs.length c]) Tryz.func73 Tryz.ntmps73 rfl rfl ?_
  refine c_seqR ?_
  refine ops_cons rfl (ow_assign rfl ?_)
  refine ops_nil ?_
  refine c_seqR ?_
  refine ops_cons rfl (ow_buildSlice el30 ti2 rfl rfl rfl rfl rfl ?_)
  intro gO w2 egO oO bbgO x1 zgO
  replace oO := Own.low oO X.size
  replace hs := hs.ext x1
  replace X := Ext.trans X x1; clear x1
  refine ops_cons rfl (ow_assign rfl ?_)
  refine ops_nil ?_
  refine c_seq ?_
  refine c_seqR ?_
  refine ops_cons rfl (ow_assign rfl ?_)
  refine ops_nil ?_
  refine c_block ?_
  refine c_loop (G := Nat × Nat × Option Addr × Nat) (fun ⟨k, n1, A1, c1⟩ => [(0, .slice A xs.length c), (2, .slice none 0 0), (3, .slice A1 n1 c1), (4, .int .i64 (k : Nat))]) (fun ⟨k, n1, A1, c1⟩ wr => k ≤ nB xs.length ∧ n1 ≤ 33 * k ∧ n1 = (imgP xs k).length ∧ Own wr w.heap.size 2 1 A1 n1 c1 ((imgP xs k).flatMap eI) ∧ Sl B wr A (xs.flatMap eI) ∧ Ext w wr) (fun ⟨k, n1, A1, c1⟩ => nB xs.length - k) (0, 0, some ⟨gO, 0, none⟩, 0) (.cons rfl (.cons rfl (.cons rfl (.cons rfl (.nil _))))) ?_ ?_
  · exact ⟨(Nat.zero_le _), (Nat.le_refl _), rfl, oO, hs, X⟩
  clear hs oO
  clear X
  rintro ⟨k, n1, A1, c1⟩ wr ⟨hk0, hnk, hn1, oO, hs, X⟩
  refine c_seq ?_
  refine c_seqR ?_
  refine ops_cons rfl (ow_move rfl ?_)
  refine ops_cons rfl (ow_eql2 rfl rfl (fun h0 => ?_) (fun h0 => ?_))
  have hkS := (nB_on (n := xs.length) (k := k)).2 (.inl (by omega))
  have LX := X.size
  have UO := fun g hg => (Own.lt oO (g := g) hg).2
  have hpl := part28_len xs k
  have hk28 := nB_k hkS
  refine ops_cons rfl (ow_move rfl ?_)
  refine ops_skip rfl rfl rfl rfl ?_
  refine ops_skip rfl rfl rfl rfl ?_
  refine ops_skip rfl rfl rfl rfl ?_
  refine ops_skip rfl rfl rfl rfl ?_
  refine ops_skip rfl rfl rfl rfl ?_
  refine ops_cons rfl (ow_pick rfl rfl ?_)
  refine ops_nil ?_
  refine c_true rfl ?_
  refine c_skip ?_
  refine tq_n ?_
  refine c_seq ?_
  refine c_block ?_
  refine c_seqR ?_
  refine ops_cons rfl (ow_move rfl ?_)
  refine ops_cons rfl (ow_move rfl ?_)
  refine ops_cons rfl (ow_mul rfl rfl (show IntKind.i64.wrap _ = ((28 * k : Nat) : Int) from (w64 (by omega)).trans (by omega)) ?_)
  refine ops_cons rfl (ow_move rfl ?_)
  refine ops_cons rfl (ow_len Tryz.underlying30 rfl ?_)
  refine ops_cons rfl (ow_move rfl ?_)
  refine ops_cons rfl (ow_add rfl rfl (w64 (by omega)) ?_)
  refine ops_cons rfl (ow_mul rfl rfl (show IntKind.i64.wrap _ = ((28 * (k + 1) : Nat) : Int) from (w64 (by omega)).trans (by omega)) ?_)
  refine ops_cons rfl (ow_min rfl rfl ?_)
  refine ops_cons rfl (ow_sliceLH el30 hs eI_len rfl rfl rfl rfl (show _ = ((min xs.length (28 * (k + 1)) : Nat) : Int) by omega) (by omega) (by omega) ?_)
  intro Ap pS
  rw [part28_cut hk28] at pS
  have hcl : min xs.length (28 * (k + 1)) - 28 * k = (part28 xs k).length := by rw [part28_len]; omega
  refine ops_cons rfl (ow_assign rfl ?_)
  refine ops_nil ?_
  refine c_seqR ?_
  refine ops_cons rfl (ow_move rfl ?_)
  refine ops_cons rfl (ow_len Tryz.underlying30 rfl ?_)
  refine ops_cons rfl (ow_assign rfl ?_)
  refine ops_nil ?_
  refine c_seq ?_
  refine c_seqR ?_
  refine ops_cons rfl (ow_move rfl ?_)
  refine ops_cons rfl (ow_add rfl rfl (w64 (by omega)) ?_)
  refine ops_cons rfl (ow_mul rfl rfl (show IntKind.i64.wrap _ = ((28 * (k + 1) : Nat) : Int) from (w64 (by omega)).trans (by omega)) ?_)
  refine ops_cons rfl (ow_move rfl ?_)
  refine ops_cons rfl (ow_len Tryz.underlying30 rfl ?_)
  refine ops_cons rfl (ow_geq2 rfl rfl (fun hlast => ?_) (fun hlast => ?_))
  refine ops_nil ?_
  refine c_true rfl ?_
  refine c_region ?_
  refine ops_cons rfl (ow_move rfl ?_)
  refine ops_cons rfl (ow_add rfl rfl (w64 (by omega)) ?_)
  refine ops_cons rfl (ow_assign rfl ?_)
  refine ops_nil ?_
  refine tq_n ?_
  refine c_seqR ?_
  refine ops_cons rfl (ow_move rfl ?_)
  refine ops_cons rfl (ow_move rfl ?_)
  refine ops_cons rfl (ow_buildSlice el30 ti2 rfl rfl rfl rfl rfl ?_)
  intro gS w4 egS oS bbgS x3 zgS
  replace oS := Own.low oS (Nat.le_refl _)
  replace oO := oO.ext x3
  replace hs := hs.ext x3
  replace pS := pS.ext x3
  replace X := Ext.trans X x3; clear x3
  refine ops_cons rfl (ow_move rfl ?_)
  refine ops_cons rfl (ow_append (ts := #[]) oS (by omega) pS (by rw [flat_len eI_len, hcl]) (one_ints _) el30 ti2 rfl rfl rfl rfl (by omega) (by omega) ?_)
  intro AoB coB w6 oB hg5
  replace oO := oO.grown hg5 (fun g hg e => absurd (UO g e) (Nat.not_lt.2 (Own.lt oS hg).1))
  replace hs := hs.grown hg5 (fun g hg => Nat.le_trans (Nat.le_trans Bhs LX) (Own.lt oS hg).1)
  replace pS := pS.grown hg5 (fun g hg => Nat.le_trans (Nat.le_trans Bhs LX) (Own.lt oS hg).1)
  replace X := X.grown hg5 X.size (fun g hg => (Nat.le_trans LX (Own.lt oS hg).1))
  clear hg5
  replace oB := oB.to (cs' := (blkH xs k).flatMap eI) (by rw [blkH_T (by omega), ← hcl, List.flatMap_append]; rfl)
  refine ops_cons rfl (ow_assign rfl ?_)
  refine ops_nil ?_
  refine c_seqR ?_
  refine ops_cons rfl (ow_move rfl ?_)
  refine ops_cons rfl (ow_move rfl ?_)
  refine ops_cons rfl (ow_call ent158 rfl (ret_mono (l09Check_n k _ _ _ _ (blkH xs k) _ oB.sl (by rw [blkH_len, ← hcl]) (by rw [blkH_len]; omega) (blkH_b hb (by omega)) (by omega)) ?_))
  rintro _ w9 ⟨rfl, x7⟩
  replace oO := oO.ext x7
  replace hs := hs.ext x7
  replace pS := pS.ext x7
  replace oB := oB.ext x7
  replace X := Ext.trans X x7; clear x7
  have hck := crcK_in (k := k) (blkH xs k) (by omega)
  refine ops_cons rfl (ow_assign rfl ?_)
  refine ops_nil ?_
  refine c_region ?_
  refine ops_cons rfl (ow_move rfl ?_)
  refine ops_cons rfl (ow_move rfl ?_)
  refine ops_cons rfl (ow_move rfl ?_)
  refine ops_cons rfl (ow_quo rfl rfl (by omega) (q64 (by omega)) ?_)
  refine ops_cons rfl (ow_move rfl ?_)
  refine ops_cons rfl (ow_quo rfl rfl (by omega) (q64 (by omega)) ?_)
  refine ops_cons rfl (ow_rem rfl rfl (by omega) (m64 (by omega)) ?_)
  refine ops_cons rfl (ow_move rfl ?_)
  refine ops_cons rfl (ow_rem rfl rfl (by omega) (m64 (by omega)) ?_)
  refine ops_cons rfl (ow_buildSlice el30 ti2 rfl rfl rfl rfl rfl ?_)
  intro g10 w12 eg10 oT bbg10 x11 zg10
  replace oT := Own.low oT X.size
  replace oO := oO.ext x11
  replace hs := hs.ext x11
  replace pS := pS.ext x11
  replace oB := oB.ext x11
  replace X := Ext.trans X x11; clear x11
  refine ops_cons rfl (ow_append (ts := #[]) oB (by obtain ⟨gq, _, _, h1, h2, _⟩ := oB.form (by omega); have h3 := (Array.getElem?_eq_some_iff.1 h2).1; omega) oT.sl rfl (one_ints (chkB k (blkH xs k))) el30 ti2 rfl rfl rfl rfl (by omega) (by omega) ?_)
  intro AoE coE w14 oE hg13
  replace oO := oO.grown hg13 (fun g hg e => absurd (UO g e) (Nat.not_lt.2 (Own.lt oB hg).1))
  replace hs := hs.grown hg13 (fun g hg => Nat.le_trans (Nat.le_trans Bhs LX) (Own.lt oB hg).1)
  replace pS := pS.grown hg13 (fun g hg => Nat.le_trans (Nat.le_trans Bhs LX) (Own.lt oB hg).1)
  replace X := X.grown hg13 X.size (fun g hg => (Nat.le_trans LX (Own.lt oB hg).1))
  clear hg13
  replace oE := oE.to (cs' := (blkE xs k).flatMap eI) (by rw [blkE, List.flatMap_append]; rfl)
  refine ops_cons rfl (ow_append (ts := #[]) oO X.size oE.sl (by rw [flat_len eI_len, blkE, List.length_append, blkH_len, chkB_len, ← hcl]) (one_ints _) el30 ti2 rfl rfl rfl rfl (by omega) (by omega) ?_)
  intro AoN coN w16 oN hg15
  replace hs := hs.grown hg15 (fun g hg => Nat.le_trans Bhs (Own.lt oO hg).1)
  replace pS := pS.grown hg15 (fun g hg => Nat.le_trans Bhs (Own.lt oO hg).1)
  replace X := X.grown hg15 X.size (fun g hg => (Own.lt oO hg).1)
  clear hg15
  refine ops_cons rfl (ow_assign rfl ?_)
  refine ops_nil ?_
  refine bq_n ?_
  refine tq_n ?_
  refine c_region ?_
  refine ops_cons rfl (ow_move rfl ?_)
  refine ops_cons rfl (ow_add rfl rfl (w64 (by omega)) ?_)
  refine ops_cons rfl (ow_assign rfl ?_)
  refine ops_nil ?_
  refine tq_n ⟨(k + 1, n1 + (2 + (min xs.length (28 * (k + 1)) - 28 * k) + 3), AoN, coN), (.cons rfl (.cons rfl (.cons rfl (.cons rfl (.nil _))))), ?_, ?_⟩
  · exact ⟨(by omega), (by omega), (by rw [imgP_step, List.length_append, blkE, List.length_append, blkH_len, ← hn1, chkB_len]; omega), (oN.to (by rw [imgP_step, List.flatMap_append])), hs, X⟩
  · first | omega | (dsimp only; omega)
  refine ops_nil ?_
  refine c_false rfl ?_
  refine c_skip ?_
  refine tq_n ?_
  refine c_seqR ?_
  refine ops_cons rfl (ow_move rfl ?_)
  refine ops_cons rfl (ow_move rfl ?_)
  refine ops_cons rfl (ow_buildSlice el30 ti2 rfl rfl rfl rfl rfl ?_)
  intro gS w18 egS oS bbgS x17 zgS
  replace oS := Own.low oS (Nat.le_refl _)
  replace oO := oO.ext x17
  replace hs := hs.ext x17
  replace pS := pS.ext x17
  replace X := Ext.trans X x17; clear x17
  refine ops_cons rfl (ow_move rfl ?_)
  refine ops_cons rfl (ow_append (ts := #[]) oS (by omega) pS (by rw [flat_len eI_len, hcl]) (one_ints _) el30 ti2 rfl rfl rfl rfl (by omega) (by omega) ?_)
  intro AoB coB w20 oB hg19
  replace oO := oO.grown hg19 (fun g hg e => absurd (UO g e) (Nat.not_lt.2 (Own.lt oS hg).1))
  replace hs := hs.grown hg19 (fun g hg => Nat.le_trans (Nat.le_trans Bhs LX) (Own.lt oS hg).1)
  replace pS := pS.grown hg19 (fun g hg => Nat.le_trans (Nat.le_trans Bhs LX) (Own.lt oS hg).1)
  replace X := X.grown hg19 X.size (fun g hg => (Nat.le_trans LX (Own.lt oS hg).1))
  clear hg19
  replace oB := oB.to (cs' := (blkH xs k).flatMap eI) (by rw [blkH_F (by omega), ← hcl, List.flatMap_append]; rfl)
  refine ops_cons rfl (ow_assign rfl ?_)
  refine ops_nil ?_
  refine c_seqR ?_
  refine ops_cons rfl (ow_move rfl ?_)
  refine ops_cons rfl (ow_move rfl ?_)
  refine ops_cons rfl (ow_call ent158 rfl (ret_mono (l09Check_n k _ _ _ _ (blkH xs k) _ oB.sl (by rw [blkH_len, ← hcl]) (by rw [blkH_len]; omega) (blkH_b hb (by omega)) (by omega)) ?_))
  rintro _ w22 ⟨rfl, x21⟩
  replace oO := oO.ext x21
  replace hs := hs.ext x21
  replace pS := pS.ext x21
  replace oB := oB.ext x21
  replace X := Ext.trans X x21; clear x21
  have hck := crcK_in (k := k) (blkH xs k) (by omega)
  refine ops_cons rfl (ow_assign rfl ?_)
  refine ops_nil ?_
  refine c_region ?_
  refine ops_cons rfl (ow_move rfl ?_)
  refine ops_cons rfl (ow_move rfl ?_)
  refine ops_cons rfl (ow_move rfl ?_)
  refine ops_cons rfl (ow_quo rfl rfl (by omega) (q64 (by omega)) ?_)
  refine ops_cons rfl (ow_move rfl ?_)
  refine ops_cons rfl (ow_quo rfl rfl (by omega) (q64 (by omega)) ?_)
  refine ops_cons rfl (ow_rem rfl rfl (by omega) (m64 (by omega)) ?_)
  refine ops_cons rfl (ow_move rfl ?_)
  refine ops_cons rfl (ow_rem rfl rfl (by omega) (m64 (by omega)) ?_)
  refine ops_cons rfl (ow_buildSlice el30 ti2 rfl rfl rfl rfl rfl ?_)
  intro g23 w25 eg23 oT bbg23 x24 zg23
  replace oT := Own.low oT X.size
  replace oO := oO.ext x24
  replace hs := hs.ext x24
  replace pS := pS.ext x24
  replace oB := oB.ext x24
  replace X := Ext.trans X x24; clear x24
  refine ops_cons rfl (ow_append (ts := #[]) oB (by obtain ⟨gq, _, _, h1, h2, _⟩ := oB.form (by omega); have h3 := (Array.getElem?_eq_some_iff.1 h2).1; omega) oT.sl rfl (one_ints (chkB k (blkH xs k))) el30 ti2 rfl rfl rfl rfl (by omega) (by omega) ?_)
  intro AoE coE w27 oE hg26
  replace oO := oO.grown hg26 (fun g hg e => absurd (UO g e) (Nat.not_lt.2 (Own.lt oB hg).1))
  replace hs := hs.grown hg26 (fun g hg => Nat.le_trans (Nat.le_trans Bhs LX) (Own.lt oB hg).1)
  replace pS := pS.grown hg26 (fun g hg => Nat.le_trans (Nat.le_trans Bhs LX) (Own.lt oB hg).1)
  replace X := X.grown hg26 X.size (fun g hg => (Nat.le_trans LX (Own.lt oB hg).1))
  clear hg26
  replace oE := oE.to (cs' := (blkE xs k).flatMap eI) (by rw [blkE, List.flatMap_append]; rfl)
  refine ops_cons rfl (ow_append (ts := #[]) oO X.size oE.sl (by rw [flat_len eI_len, blkE, List.length_append, blkH_len, chkB_len, ← hcl]) (one_ints _) el30 ti2 rfl rfl rfl rfl (by omega) (by omega) ?_)
  intro AoN coN w29 oN hg28
  replace hs := hs.grown hg28 (fun g hg => Nat.le_trans Bhs (Own.lt oO hg).1)
  replace pS := pS.grown hg28 (fun g hg => Nat.le_trans Bhs (Own.lt oO hg).1)
  replace X := X.grown hg28 X.size (fun g hg => (Own.lt oO hg).1)
  clear hg28
  refine ops_cons rfl (ow_assign rfl ?_)
  refine ops_nil ?_
  refine bq_n ?_
  refine tq_n ?_
  refine c_region ?_
  refine ops_cons rfl (ow_move rfl ?_)
  refine ops_cons rfl (ow_add rfl rfl (w64 (by omega)) ?_)
  refine ops_cons rfl (ow_assign rfl ?_)
  refine ops_nil ?_
  refine tq_n ⟨(k + 1, n1 + (2 + (min xs.length (28 * (k + 1)) - 28 * k) + 3), AoN, coN), (.cons rfl (.cons rfl (.cons rfl (.cons rfl (.nil _))))), ?_, ?_⟩
  · exact ⟨(by omega), (by omega), (by rw [imgP_step, List.length_append, blkE, List.length_append, blkH_len, ← hn1, chkB_len]; omega), (oN.to (by rw [imgP_step, List.flatMap_append])), hs, X⟩
  · first | omega | (dsimp only; omega)
  refine ops_cons rfl (ow_move rfl ?_)
  refine ops_want rfl rfl rfl (ow_move rfl ?_)
  refine ops_want rfl rfl rfl (ow_mul rfl rfl (show IntKind.i64.wrap _ = ((28 * k : Nat) : Int) from (w64 (by omega)).trans (by omega)) ?_)
  refine ops_want rfl rfl rfl (ow_move rfl ?_)
  refine ops_want rfl rfl rfl (ow_len Tryz.underlying30 rfl ?_)
  refine ops_want rfl rfl rfl (ow_lss2 rfl rfl (fun hk => ?_) (fun hk => ?_))
  have hkS := (nB_on (n := xs.length) (k := k)).2 (.inr (by omega))
  have LX := X.size
  have UO := fun g hg => (Own.lt oO (g := g) hg).2
  have hpl := part28_len xs k
  have hk28 := nB_k hkS
  refine ops_cons rfl (ow_pick rfl rfl ?_)
  refine ops_nil ?_
  refine c_true rfl ?_
  refine c_skip ?_
  refine tq_n ?_
  refine c_seq ?_
  refine c_block ?_
  refine c_seqR ?_
  refine ops_cons rfl (ow_move rfl ?_)
  refine ops_cons rfl (ow_move rfl ?_)
  refine ops_cons rfl (ow_mul rfl rfl (show IntKind.i64.wrap _ = ((28 * k : Nat) : Int) from (w64 (by omega)).trans (by omega)) ?_)
  refine ops_cons rfl (ow_move rfl ?_)
  refine ops_cons rfl (ow_len Tryz.underlying30 rfl ?_)
  refine ops_cons rfl (ow_move rfl ?_)
  refine ops_cons rfl (ow_add rfl rfl (w64 (by omega)) ?_)
  refine ops_cons rfl (ow_mul rfl rfl (show IntKind.i64.wrap _ = ((28 * (k + 1) : Nat) : Int) from (w64 (by omega)).trans (by omega)) ?_)
  refine ops_cons rfl (ow_min rfl rfl ?_)
  refine ops_cons rfl (ow_sliceLH el30 hs eI_len rfl rfl rfl rfl (show _ = ((min xs.length (28 * (k + 1)) : Nat) : Int) by omega) (by omega) (by omega) ?_)
  intro Ap pS
  rw [part28_cut hk28] at pS
  have hcl : min xs.length (28 * (k + 1)) - 28 * k = (part28 xs k).length := by rw [part28_len]; omega
  refine ops_cons rfl (ow_assign rfl ?_)
  refine ops_nil ?_
  refine c_seqR ?_
  refine ops_cons rfl (ow_move rfl ?_)
  refine ops_cons rfl (ow_len Tryz.underlying30 rfl ?_)
  refine ops_cons rfl (ow_assign rfl ?_)
  refine ops_nil ?_
  refine c_seq ?_
  refine c_seqR ?_
  refine ops_cons rfl (ow_move rfl ?_)
  refine ops_cons rfl (ow_add rfl rfl (w64 (by omega)) ?_)
  refine ops_cons rfl (ow_mul rfl rfl (show IntKind.i64.wrap _ = ((28 * (k + 1) : Nat) : Int) from (w64 (by omega)).trans (by omega)) ?_)
  refine ops_cons rfl (ow_move rfl ?_)
  refine ops_cons rfl (ow_len Tryz.underlying30 rfl ?_)
  refine ops_cons rfl (ow_geq2 rfl rfl (fun hlast => ?_) (fun hlast => ?_))
  refine ops_nil ?_
  refine c_true rfl ?_
  refine c_region ?_
  refine ops_cons rfl (ow_move rfl ?_)
  refine ops_cons rfl (ow_add rfl rfl (w64 (by omega)) ?_)
  refine ops_cons rfl (ow_assign rfl ?_)
  refine ops_nil ?_
  refine tq_n ?_
  refine c_seqR ?_
  refine ops_cons rfl (ow_move rfl ?_)
  refine ops_cons rfl (ow_move rfl ?_)
  refine ops_cons rfl (ow_buildSlice el30 ti2 rfl rfl rfl rfl rfl ?_)
  intro gS w31 egS oS bbgS x30 zgS
  replace oS := Own.low oS (Nat.le_refl _)
  replace oO := oO.ext x30
  replace hs := hs.ext x30
  replace pS := pS.ext x30
  replace X := Ext.trans X x30; clear x30
  refine ops_cons rfl (ow_move rfl ?_)
  refine ops_cons rfl (ow_append (ts := #[]) oS (by omega) pS (by rw [flat_len eI_len, hcl]) (one_ints _) el30 ti2 rfl rfl rfl rfl (by omega) (by omega) ?_)
  intro AoB coB w33 oB hg32
  replace oO := oO.grown hg32 (fun g hg e => absurd (UO g e) (Nat.not_lt.2 (Own.lt oS hg).1))
  replace hs := hs.grown hg32 (fun g hg => Nat.le_trans (Nat.le_trans Bhs LX) (Own.lt oS hg).1)
  replace pS := pS.grown hg32 (fun g hg => Nat.le_trans (Nat.le_trans Bhs LX) (Own.lt oS hg).1)
  replace X := X.grown hg32 X.size (fun g hg => (Nat.le_trans LX (Own.lt oS hg).1))
  clear hg32
  replace oB := oB.to (cs' := (blkH xs k).flatMap eI) (by rw [blkH_T (by omega), ← hcl, List.flatMap_append]; rfl)
  refine ops_cons rfl (ow_assign rfl ?_)
  refine ops_nil ?_
  refine c_seqR ?_
  refine ops_cons rfl (ow_move rfl ?_)
  refine ops_cons rfl (ow_move rfl ?_)
  refine ops_cons rfl (ow_call ent158 rfl (ret_mono (l09Check_n k _ _ _ _ (blkH xs k) _ oB.sl (by rw [blkH_len, ← hcl]) (by rw [blkH_len]; omega) (blkH_b hb (by omega)) (by omega)) ?_))
  rintro _ w35 ⟨rfl, x34⟩
  replace oO := oO.ext x34
  replace hs := hs.ext x34
  replace pS := pS.ext x34
  replace oB := oB.ext x34
  replace X := Ext.trans X x34; clear x34
  have hck := crcK_in (k := k) (blkH xs k) (by omega)
  refine ops_cons rfl (ow_assign rfl ?_)
  refine ops_nil ?_
  refine c_region ?_
  refine ops_cons rfl (ow_move rfl ?_)
  refine ops_cons rfl (ow_move rfl ?_)
  refine ops_cons rfl (ow_move rfl ?_)
  refine ops_cons rfl (ow_quo rfl rfl (by omega) (q64 (by omega)) ?_)
  refine ops_cons rfl (ow_move rfl ?_)
  refine ops_cons rfl (ow_quo rfl rfl (by omega) (q64 (by omega)) ?_)
  refine ops_cons rfl (ow_rem rfl rfl (by omega) (m64 (by omega)) ?_)
  refine ops_cons rfl (ow_move rfl ?_)
  refine ops_cons rfl (ow_rem rfl rfl (by omega) (m64 (by omega)) ?_)
  refine ops_cons rfl (ow_buildSlice el30 ti2 rfl rfl rfl rfl rfl ?_)
  intro g36 w38 eg36 oT bbg36 x37 zg36
  replace oT := Own.low oT X.size
  replace oO := oO.ext x37
  replace hs := hs.ext x37
  replace pS := pS.ext x37
  replace oB := oB.ext x37
  replace X := Ext.trans X x37; clear x37
  refine ops_cons rfl (ow_append (ts := #[]) oB (by obtain ⟨gq, _, _, h1, h2, _⟩ := oB.form (by omega); have h3 := (Array.getElem?_eq_some_iff.1 h2).1; omega) oT.sl rfl (one_ints (chkB k (blkH xs k))) el30 ti2 rfl rfl rfl rfl (by omega) (by omega) ?_)
  intro AoE coE w40 oE hg39
  replace oO := oO.grown hg39 (fun g hg e => absurd (UO g e) (Nat.not_lt.2 (Own.lt oB hg).1))
  replace hs := hs.grown hg39 (fun g hg => Nat.le_trans (Nat.le_trans Bhs LX) (Own.lt oB hg).1)
  replace pS := pS.grown hg39 (fun g hg => Nat.le_trans (Nat.le_trans Bhs LX) (Own.lt oB hg).1)
  replace X := X.grown hg39 X.size (fun g hg => (Nat.le_trans LX (Own.lt oB hg).1))
  clear hg39
  replace oE := oE.to (cs' := (blkE xs k).flatMap eI) (by rw [blkE, List.flatMap_append]; rfl)
  refine ops_cons rfl (ow_append (ts := #[]) oO X.size oE.sl (by rw [flat_len eI_len, blkE, List.length_append, blkH_len, chkB_len, ← hcl]) (one_ints _) el30 ti2 rfl rfl rfl rfl (by omega) (by omega) ?_)
  intro AoN coN w42 oN hg41
  replace hs := hs.grown hg41 (fun g hg => Nat.le_trans Bhs (Own.lt oO hg).1)
  replace pS := pS.grown hg41 (fun g hg => Nat.le_trans Bhs (Own.lt oO hg).1)
  replace X := X.grown hg41 X.size (fun g hg => (Own.lt oO hg).1)
  clear hg41
  refine ops_cons rfl (ow_assign rfl ?_)
  refine ops_nil ?_
  refine bq_n ?_
  refine tq_n ?_
  refine c_region ?_
  refine ops_cons rfl (ow_move rfl ?_)
  refine ops_cons rfl (ow_add rfl rfl (w64 (by omega)) ?_)
  refine ops_cons rfl (ow_assign rfl ?_)
  refine ops_nil ?_
  refine tq_n ⟨(k + 1, n1 + (2 + (min xs.length (28 * (k + 1)) - 28 * k) + 3), AoN, coN), (.cons rfl (.cons rfl (.cons rfl (.cons rfl (.nil _))))), ?_, ?_⟩
  · exact ⟨(by omega), (by omega), (by rw [imgP_step, List.length_append, blkE, List.length_append, blkH_len, ← hn1, chkB_len]; omega), (oN.to (by rw [imgP_step, List.flatMap_append])), hs, X⟩
  · first | omega | (dsimp only; omega)
  refine ops_nil ?_
  refine c_false rfl ?_
  refine c_skip ?_
  refine tq_n ?_
  refine c_seqR ?_
  refine ops_cons rfl (ow_move rfl ?_)
  refine ops_cons rfl (ow_move rfl ?_)
  refine ops_cons rfl (ow_buildSlice el30 ti2 rfl rfl rfl rfl rfl ?_)
  intro gS w44 egS oS bbgS x43 zgS
  replace oS := Own.low oS (Nat.le_refl _)
  replace oO := oO.ext x43
  replace hs := hs.ext x43
  replace pS := pS.ext x43
  replace X := Ext.trans X x43; clear x43
  refine ops_cons rfl (ow_move rfl ?_)
  refine ops_cons rfl (ow_append (ts := #[]) oS (by omega) pS (by rw [flat_len eI_len, hcl]) (one_ints _) el30 ti2 rfl rfl rfl rfl (by omega) (by omega) ?_)
  intro AoB coB w46 oB hg45
  replace oO := oO.grown hg45 (fun g hg e => absurd (UO g e) (Nat.not_lt.2 (Own.lt oS hg).1))
  replace hs := hs.grown hg45 (fun g hg => Nat.le_trans (Nat.le_trans Bhs LX) (Own.lt oS hg).1)
  replace pS := pS.grown hg45 (fun g hg => Nat.le_trans (Nat.le_trans Bhs LX) (Own.lt oS hg).1)
  replace X := X.grown hg45 X.size (fun g hg => (Nat.le_trans LX (Own.lt oS hg).1))
  clear hg45
  replace oB := oB.to (cs' := (blkH xs k).flatMap eI) (by rw [blkH_F (by omega), ← hcl, List.flatMap_append]; rfl)
  refine ops_cons rfl (ow_assign rfl ?_)
  refine ops_nil ?_
  refine c_seqR ?_
  refine ops_cons rfl (ow_move rfl ?_)
  refine ops_cons rfl (ow_move rfl ?_)
  refine ops_cons rfl (ow_call ent158 rfl (ret_mono (l09Check_n k _ _ _ _ (blkH xs k) _ oB.sl (by rw [blkH_len, ← hcl]) (by rw [blkH_len]; omega) (blkH_b hb (by omega)) (by omega)) ?_))
  rintro _ w48 ⟨rfl, x47⟩
  replace oO := oO.ext x47
  replace hs := hs.ext x47
  replace pS := pS.ext x47
  replace oB := oB.ext x47
  replace X := Ext.trans X x47; clear x47
  have hck := crcK_in (k := k) (blkH xs k) (by omega)
  refine ops_cons rfl (ow_assign rfl ?_)
  refine ops_nil ?_
  refine c_region ?_
  refine ops_cons rfl (ow_move rfl ?_)
  refine ops_cons rfl (ow_move rfl ?_)
  refine ops_cons rfl (ow_move rfl ?_)
  refine ops_cons rfl (ow_quo rfl rfl (by omega) (q64 (by omega)) ?_)
  refine ops_cons rfl (ow_move rfl ?_)
  refine ops_cons rfl (ow_quo rfl rfl (by omega) (q64 (by omega)) ?_)
  refine ops_cons rfl (ow_rem rfl rfl (by omega) (m64 (by omega)) ?_)
  refine ops_cons rfl (ow_move rfl ?_)
  refine ops_cons rfl (ow_rem rfl rfl (by omega) (m64 (by omega)) ?_)
  refine ops_cons rfl (ow_buildSlice el30 ti2 rfl rfl rfl rfl rfl ?_)
  intro g49 w51 eg49 oT bbg49 x50 zg49
  replace oT := Own.low oT X.size
  replace oO := oO.ext x50
  replace hs := hs.ext x50
  replace pS := pS.ext x50
  replace oB := oB.ext x50
  replace X := Ext.trans X x50; clear x50
  refine ops_cons rfl (ow_append (ts := #[]) oB (by obtain ⟨gq, _, _, h1, h2, _⟩ := oB.form (by omega); have h3 := (Array.getElem?_eq_some_iff.1 h2).1; omega) oT.sl rfl (one_ints (chkB k (blkH xs k))) el30 ti2 rfl rfl rfl rfl (by omega) (by omega) ?_)
  intro AoE coE w53 oE hg52
  replace oO := oO.grown hg52 (fun g hg e => absurd (UO g e) (Nat.not_lt.2 (Own.lt oB hg).1))
  replace hs := hs.grown hg52 (fun g hg => Nat.le_trans (Nat.le_trans Bhs LX) (Own.lt oB hg).1)
  replace pS := pS.grown hg52 (fun g hg => Nat.le_trans (Nat.le_trans Bhs LX) (Own.lt oB hg).1)
  replace X := X.grown hg52 X.size (fun g hg => (Nat.le_trans LX (Own.lt oB hg).1))
  clear hg52
  replace oE := oE.to (cs' := (blkE xs k).flatMap eI) (by rw [blkE, List.flatMap_append]; rfl)
  refine ops_cons rfl (ow_append (ts := #[]) oO X.size oE.sl (by rw [flat_len eI_len, blkE, List.length_append, blkH_len, chkB_len, ← hcl]) (one_ints _) el30 ti2 rfl rfl rfl rfl (by omega) (by omega) ?_)
  intro AoN coN w55 oN hg54
  replace hs := hs.grown hg54 (fun g hg => Nat.le_trans Bhs (Own.lt oO hg).1)
  replace pS := pS.grown hg54 (fun g hg => Nat.le_trans Bhs (Own.lt oO hg).1)
  replace X := X.grown hg54 X.size (fun g hg => (Own.lt oO hg).1)
  clear hg54
  refine ops_cons rfl (ow_assign rfl ?_)
  refine ops_nil ?_
  refine bq_n ?_
  refine tq_n ?_
  refine c_region ?_
  refine ops_cons rfl (ow_move rfl ?_)
  refine ops_cons rfl (ow_add rfl rfl (w64 (by omega)) ?_)
  refine ops_cons rfl (ow_assign rfl ?_)
  refine ops_nil ?_
  refine tq_n ⟨(k + 1, n1 + (2 + (min xs.length (28 * (k + 1)) - 28 * k) + 3), AoN, coN), (.cons rfl (.cons rfl (.cons rfl (.cons rfl (.nil _))))), ?_, ?_⟩
  · exact ⟨(by omega), (by omega), (by rw [imgP_step, List.length_append, blkE, List.length_append, blkH_len, ← hn1, chkB_len]; omega), (oN.to (by rw [imgP_step, List.flatMap_append])), hs, X⟩
  · first | omega | (dsimp only; omega)
  have hkN : ¬ k < nB xs.length := fun h => by have := (nB_on (n := xs.length)).1 h; omega
  refine ops_cons rfl (ow_pick rfl rfl ?_)
  refine ops_nil ?_
  refine c_false rfl ?_
  refine c_exit ?_
  refine tq_e ?_
  refine tq_e ?_
  refine bq_e ?_
  refine tq_n ?_
  refine c_seqR ?_
  refine ops_cons rfl (ow_move rfl ?_)
  refine ops_cons rfl (ow_assign rfl ?_)
  refine ops_nil ?_
  refine c_ret ?_
  refine fin_ret1 rfl rfl ?_
  · skip
    have hkE : k = nB xs.length := by omega
    rw [hkE] at oO hn1
    unfold img
    rw [← hn1]; exact ⟨A1, c1, rfl, oO, X⟩
end Go.Proofs.YtdoibplhbdkapaaGreatDoor
