/- Texts of the seat that a law needs, put together. No condition. -/
import Derived.Test.YtdoibplhbdkapaaGreatDoorDMP9
import Derived.Test.YtdoibplhbdkapaaGreatDoorDMP6
import Derived.Laws.StructEq
namespace Go.Proofs.YtdoibplhbdkapaaGreatDoor
open Go.RowKit
set_option linter.unusedVariables false
set_option linter.unusedSimpArgs false
set_option maxRecDepth 20000
theorem ow_lssT {P : Program} {e : List (Nat × Value)} {ty : TypeId} {w : World} {K : Value → World → Prop} {x y : Operand} {t t' : TypeId} {k : IntKind} {m n : Int} (hx : evO e x = some (.int k m)) (hy : evO e y = some (.int k n)) (hh : m < n) (h : K (.bool true) w) : OpWp P e (.binOp .lss t x y t') ty w K :=
  ow_lss hx hy (by rw [decide_eq_true hh]; exact h)
theorem ow_lssF {P : Program} {e : List (Nat × Value)} {ty : TypeId} {w : World} {K : Value → World → Prop} {x y : Operand} {t t' : TypeId} {k : IntKind} {m n : Int} (hx : evO e x = some (.int k m)) (hy : evO e y = some (.int k n)) (hh : ¬ m < n) (h : K (.bool false) w) : OpWp P e (.binOp .lss t x y t') ty w K :=
  ow_lss hx hy (by rw [decide_eq_false hh]; exact h)
theorem and8 {z : Int} (h : 0 ≤ z ∧ z ≤ 1099511627776) : bitsV .and .i64 z 255 = z % 256 := by
  obtain ⟨n, rfl⟩ : ∃ n : Nat, z = (n : Int) := ⟨z.toNat, by omega⟩
  have h1 := bits_and (a := n) (b := 255) (by omega) (by omega)
  rw [show ((255 : Nat) : Int) = 255 from rfl] at h1
  rw [h1, show n &&& 255 = n % 256 from Nat.and_two_pow_sub_one_eq_mod n 8]; omega
def slcs (A : Option Addr) (xs : List Int) : List ModeI := if xs.length = 0 then [rowI none 0 []] else chs A 33 xs (cN 33 xs.length)
theorem cN_nS {n : Nat} (h : n ≠ 0) : cN 33 n = nS n := by
  unfold cN nS; rw [if_neg h, show n + 33 - 1 = n + 32 by omega]
theorem slcs_len (A : Option Addr) (xs : List Int) : (slcs A xs).length = nS xs.length := by
  unfold slcs
  split
  · rename_i h; rw [h]; rfl
  · rename_i h; rw [chs_len, cN_nS h]
theorem chs_at {A : Option Addr} {d : Nat} {xs : List Int} {m k : Nat} (h : k < m) : (chs A d xs m)[k]? = some (chPart A d xs k) := by
  unfold chs; rw [List.getElem?_map, List.getElem?_range h]; rfl
theorem slcs_get (A : Option Addr) (xs : List Int) {k : Nat} (h : k < nS xs.length) : ∃ pA pc, (slcs A xs)[k]? = some (rowI pA pc (sl33 xs k)) ∧ (sl33 xs k).length ≤ pc := by
  unfold slcs
  split
  · rename_i h0
    rw [h0] at h
    have hk : k = 0 := by have h2 : k < 1 := h; omega
    subst hk
    have e : xs = [] := List.eq_nil_of_length_eq_zero h0
    subst e
    exact ⟨none, 0, rfl, Nat.le_refl _⟩
  · rename_i h0
    rw [chs_at (by rw [cN_nS h0]; exact h)]
    refine ⟨_, _, rfl, ?_⟩
    rw [sl33_len]; exact Nat.le_refl _
theorem chs_nexts {B : Nat} {w : World} {A : Option Addr} {d : Nat} {xs : List Int} (hs : Sl B w A (xs.flatMap eI)) (hl : xs.length ≤ 1048576) (m : Nat) : Nexts B w (chs A d xs m) := ⟨hs.1, fun x hx => by
  obtain ⟨k, _, rfl⟩ := List.mem_map.1 hx
  exact ⟨(hs.dropI _).takeI _, by rw [chPart_len]; omega⟩⟩
theorem slcs_nexts {B : Nat} {w : World} {A : Option Addr} {xs : List Int} (hs : Sl B w A (xs.flatMap eI)) (hl : xs.length ≤ 1048576) : Nexts B w (slcs A xs) := by
  unfold slcs
  split
  · refine ⟨hs.1, fun x hx => ?_⟩
    obtain rfl : x = rowI none 0 [] := by simpa using hx
    exact ⟨Sl.nil_ hs.1 _, Nat.zero_le _⟩
  · exact chs_nexts hs hl _
theorem slcs_one {xs : List Int} (h : xs.length = 0) (A : Option Addr) : (slcs A xs).flatMap rowC = [.slice none 0 0] := by unfold slcs; rw [if_pos h]; rfl
theorem sl33_b {xs : List Int} (hb : ∀ x ∈ xs, 0 ≤ x ∧ x ≤ 255) (k : Nat) : ∀ x ∈ sl33 xs k, 0 ≤ x ∧ x ≤ 255 := fun x hx => hb x (List.mem_of_mem_drop (List.mem_of_mem_take hx))
theorem take_b {xs : List Int} (hb : ∀ x ∈ xs, 0 ≤ x ∧ x ≤ 255) (k : Nat) : ∀ x ∈ xs.take k, 0 ≤ x ∧ x ≤ 255 := fun x hx => hb x (List.mem_of_mem_take hx)
theorem isB_mem {xs : List Int} (h : isB xs = true) : ∀ x ∈ xs, 0 ≤ x ∧ x ≤ 255 := fun x hx => by
  obtain ⟨k, hk⟩ := List.mem_iff_getElem?.1 hx
  exact isB_at h hk
theorem sl33_cut (xs : List Int) (k : Nat) : (xs.drop (min xs.length (33 * k))).take (min xs.length (min xs.length (33 * k) + 33) - min xs.length (33 * k)) = sl33 xs k := by
  unfold sl33
  by_cases h : 33 * k ≤ xs.length
  · rw [Nat.min_eq_right h]
    by_cases h2 : 33 * k + 33 ≤ xs.length
    · rw [Nat.min_eq_right h2, show 33 * k + 33 - 33 * k = 33 by omega]
    · rw [Nat.min_eq_left (by omega), List.take_of_length_le (by simp), List.take_of_length_le (by simp; omega)]
  · have e : min xs.length (33 * k) = xs.length := by omega
    rw [e, List.drop_length, List.drop_of_length_le (by omega)]; simp
theorem sl33_cutl (xs : List Int) (k : Nat) : min xs.length (min xs.length (33 * k) + 33) - min xs.length (33 * k) = (sl33 xs k).length := by rw [sl33_len]; omega
theorem badK_short {xs : List Int} {k : Nat} (h : (sl33 xs k).length < 5) : badK xs k = true := by rw [badK, decide_eq_true h]; rfl
theorem badK_long {xs : List Int} {k : Nat} (h : ¬ (sl33 xs k).length < 5) : badK xs k = !decide (chkB k ((sl33 xs k).take ((sl33 xs k).length - 3)) = (sl33 xs k).drop ((sl33 xs k).length - 3)) := by rw [badK, decide_eq_false h]; rfl
theorem drop3 {l : List Int} {x y z : Int} (h3 : 3 ≤ l.length) (hx : l[l.length - 3]? = some x) (hy : l[l.length - 2]? = some y) (hz : l[l.length - 1]? = some z) : l.drop (l.length - 3) = [x, y, z] := by
  have e0 : (l.drop (l.length - 3))[0]? = some x := by rw [List.getElem?_drop]; exact hx
  have e1 : (l.drop (l.length - 3))[1]? = some y := by rw [List.getElem?_drop, show l.length - 3 + 1 = l.length - 2 by omega]; exact hy
  have e2 : (l.drop (l.length - 3))[2]? = some z := by rw [List.getElem?_drop, show l.length - 3 + 2 = l.length - 1 by omega]; exact hz
  have el : (l.drop (l.length - 3)).length = 3 := by simp; omega
  generalize l.drop (l.length - 3) = d at *
  match d, el with
  | [a, b, c], _ =>
    simp at e0 e1 e2
    rw [e0, e1, e2]
theorem chunk_c (A : Option Addr) (n c d : Nat) (w : World) (hd : 1 ≤ d) :
    Calls Tryz.prog 152 #[.slice A n c, .int .i64 (d : Nat)] w (Ret fun v w' => ∃ gs gn, v = .func (.func 220) #[] #[.pointer (some ⟨gs, 0, none⟩), .pointer (some ⟨gn, 0, none⟩)] ∧ Blk w' gs 30 [.slice A n c] ∧ Blk w' gn 3 [.int .i64 (d : Nat)] ∧ Ext w w') := by
  have X := Ext.refl w
  refine calls_of (args := [.slice A n c, .int .i64 (d : Nat)]) Tryz.func152 Tryz.ntmps152 rfl rfl ?_
  refine c_seqR ?_
  refine ops_cons rfl (ow_box rfl rfl ?_)
  intro gs w2 egs q1 x1 zgs
  have lgs : w.heap.size ≤ gs := Nat.le_trans X.size (Nat.le_of_eq egs.symm)
  replace X := Ext.trans X x1; clear x1
  refine ops_cons rfl (ow_box rfl rfl ?_)
  intro gn w4 egn q2 x3 zgn
  have lgn : w.heap.size ≤ gn := Nat.le_trans X.size (Nat.le_of_eq egn.symm)
  have ngnq1 := Nat.lt_of_lt_of_eq q1.lt egn.symm
  replace q1 := q1.ext x3
  replace X := Ext.trans X x3; clear x3
  refine ops_cons rfl (ow_assign rfl ?_)
  refine ops_nil ?_
  refine c_seq ?_
  refine c_seqR ?_
  refine ops_cons rfl (ow_loadB q2 ti3 rfl rfl ?_)
  refine ops_cons rfl (ow_lss2 rfl rfl (fun h5 => absurd h5 (by omega)) (fun h5 => ?_))
  refine ops_nil ?_
  refine c_false rfl ?_
  refine c_skip ?_
  refine tq_n ?_
  refine c_seqR ?_
  refine ops_cons rfl (ow_makeFunc rfl ?_)
  refine ops_cons rfl (ow_assign rfl ?_)
  refine ops_nil ?_
  refine c_ret ?_
  refine fin_ret1 rfl rfl ?_
  exact ⟨gs, gn, rfl, q1, q2, X⟩

theorem collect_c (gs gn d c : Nat) (A : Option Addr) (xs : List Int) (w : World) (q1 : Blk w gs 30 [.slice A xs.length c]) (q2 : Blk w gn 3 [.int .i64 (d : Nat)]) (hd : 1 ≤ d ∧ d ≤ 1000) (hl : xs.length ≤ 1048576) (hc : xs.length ≤ c) :
    Calls Tryz.prog 151 #[.func (.func 220) #[] #[.pointer (some ⟨gs, 0, none⟩), .pointer (some ⟨gn, 0, none⟩)]] w (Ret fun v w' => ∃ A' c', v = .slice A' (cN d xs.length) c' ∧ Own w' w.heap.size 30 1 A' (cN d xs.length) c' ((chs A d xs (cN d xs.length)).flatMap rowC) ∧ Ext w w') := by
  have X := Ext.refl w
  refine calls_of (args := [.func (.func 220) #[] #[.pointer (some ⟨gs, 0, none⟩), .pointer (some ⟨gn, 0, none⟩)]]) Tryz.func151 Tryz.ntmps151 rfl rfl ?_
  refine c_seqR ?_
  refine ops_cons rfl (ow_assign rfl ?_)
  refine ops_nil ?_
  refine c_seqR ?_
  refine ops_cons rfl (ow_move rfl ?_)
  refine ops_cons rfl (ow_call ent219 rfl (ret_mono (appendSeq_c gs gn d c A xs _ q1 q2 hd hl hc) ?_))
  rintro _ wA ⟨AL, cL, rfl, oL, xA⟩
  replace oL := Own.low oL X.size
  replace q1 := q1.ext xA
  replace q2 := q2.ext xA
  replace X := Ext.trans X xA; clear xA
  refine ops_cons rfl (ow_assign rfl ?_)
  refine ops_nil ?_
  refine c_ret ?_
  refine fin_ret1 rfl rfl ?_
  exact ⟨AL, cL, rfl, oL, X⟩

theorem slicesOf_c (A : Option Addr) (c : Nat) (xs : List Int) (w : World) (hl : xs.length ≤ 1048576) (hc : xs.length ≤ c) :
    Calls Tryz.prog 85 #[.slice A xs.length c] w (Ret fun v w' => ∃ A' c', v = .slice A' (nS xs.length) c' ∧ Own w' w.heap.size 30 1 A' (nS xs.length) c' ((slcs A xs).flatMap rowC) ∧ Ext w w') := by
  have X := Ext.refl w
  refine calls_of (args := [.slice A xs.length c]) Tryz.func85 Tryz.ntmps85 rfl rfl ?_
  refine c_seqR ?_
  refine ops_cons rfl (ow_assign rfl ?_)
  refine ops_nil ?_
  refine c_seq ?_
  refine c_seqR ?_
  refine ops_cons rfl (ow_move rfl ?_)
  refine ops_cons rfl (ow_len Tryz.underlying30 rfl ?_)
  refine ops_cons rfl (ow_eql2 rfl rfl (fun h0 => ?_) (fun h0 => ?_))
  refine ops_nil ?_
  refine c_true rfl ?_
  refine c_seqR ?_
  refine ops_cons rfl (ow_buildSlice el107 ti30 rfl rfl rfl rfl rfl ?_)
  intro gO w2 egO oO bbgO x1 zgO
  replace oO := Own.low oO X.size
  replace X := Ext.trans X x1; clear x1
  refine ops_cons rfl (ow_assign rfl ?_)
  refine ops_nil ?_
  refine c_ret ?_
  refine tq_r ?_
  refine fin_ret1 rfl rfl ?_
  · skip
    have h00 : xs.length = 0 := by omega
    have e : nS xs.length = 1 := by rw [h00]; rfl
    exact ⟨_, _, by rw [e], by rw [e, slcs_one h00]; exact oO.to rfl, X⟩
  refine ops_nil ?_
  refine c_false rfl ?_
  refine c_skip ?_
  refine tq_n ?_
  refine c_seqR ?_
  refine ops_cons rfl (ow_move rfl ?_)
  refine ops_cons rfl (ow_call ent152 rfl (ret_mono (chunk_c A xs.length c 33 _ (by omega)) ?_))
  rintro _ wK ⟨gs, gn, rfl, q1, q2, xK⟩
  replace X := Ext.trans X xK; clear xK
  refine ops_cons rfl (ow_call ent151 rfl (ret_mono (collect_c gs gn 33 c A xs _ q1 q2 (by omega) hl hc) ?_))
  rintro _ wL ⟨AL, cL, rfl, oL, xL⟩
  replace oL := Own.low oL X.size
  replace X := Ext.trans X xL; clear xL
  refine ops_cons rfl (ow_assign rfl ?_)
  refine ops_nil ?_
  refine c_ret ?_
  refine fin_ret1 rfl rfl ?_
  · skip
    have h00 : xs.length ≠ 0 := by omega
    rw [cN_nS h00] at oL ⊢
    exact ⟨AL, cL, rfl, oL.to (by unfold slcs; rw [if_neg h00, cN_nS h00]), X⟩

theorem three_c (z : Int) (w : World) (hz : 0 ≤ z ∧ z < 16777216) :
    Calls Tryz.prog 147 #[.int .i64 z] w (Ret fun v w' => ∃ A' c', v = .slice A' 3 c' ∧ Own w' w.heap.size 2 1 A' 3 c' ((id3 z).flatMap eI) ∧ Ext w w') := by
  have X := Ext.refl w
  refine calls_of (args := [.int .i64 z]) Tryz.func147 Tryz.ntmps147 rfl rfl ?_
  refine c_seqR ?_
  refine ops_cons rfl (ow_assign rfl ?_)
  refine ops_nil ?_
  refine c_seqR ?_
  refine ops_cons rfl (ow_move rfl ?_)
  refine ops_cons rfl (ow_shr rfl rfl (by omega) (shrP 65536 hz.1 (by omega) rfl) ?_)
  refine ops_cons rfl (ow_move rfl ?_)
  refine ops_cons rfl (ow_shr rfl rfl (by omega) (shrP 256 hz.1 (by omega) rfl) ?_)
  refine ops_cons rfl (ow_and rfl rfl (and8 (by omega)) ?_)
  refine ops_cons rfl (ow_move rfl ?_)
  refine ops_cons rfl (ow_and rfl rfl (and8 (by omega)) ?_)
  refine ops_cons rfl (ow_buildSlice el30 ti2 rfl rfl rfl rfl rfl ?_)
  intro g1 w3 eg1 oS bbg1 x2 zg1
  replace oS := Own.low oS X.size
  replace X := Ext.trans X x2; clear x2
  refine ops_cons rfl (ow_assign rfl ?_)
  refine ops_nil ?_
  refine c_ret ?_
  refine fin_ret1 rfl rfl ?_
  exact ⟨_, _, rfl, oS.to rfl, X⟩

theorem blockCheck_c (k : Nat) (A : Option Addr) (B c : Nat) (xs : List Int) (w : World) (hs : Sl B w A (xs.flatMap eI)) (hl : xs.length ≤ 100000) (hb : ∀ x ∈ xs, 0 ≤ x ∧ x ≤ 255) (hk : k ≤ 100000) :
    Calls Tryz.prog 153 #[.int .i64 (k : Nat), .slice A xs.length c] w (Ret fun v w' => ∃ A' c', v = .slice A' 3 c' ∧ Own w' w.heap.size 2 1 A' 3 c' ((chkB k xs).flatMap eI) ∧ Ext w w') := by
  have Bhs := hs.1
  have X := Ext.refl w
  refine calls_of (args := [.int .i64 (k : Nat), .slice A xs.length c]) Tryz.func153 Tryz.ntmps153 rfl rfl ?_
  refine c_seqR ?_
  refine ops_cons rfl (ow_assign rfl ?_)
  refine ops_nil ?_
  refine c_seqR ?_
  refine ops_cons rfl (ow_call ent221 rfl (ret_mono (iStdCrc_c _) ?_))
  rintro _ w2 ⟨rfl, x1⟩
  replace hs := hs.ext x1
  replace X := Ext.trans X x1; clear x1
  refine ops_cons rfl (ow_move rfl ?_)
  refine ops_cons rfl (ow_add rfl rfl (w64 (by omega)) ?_)
  refine ops_cons rfl (ow_move rfl ?_)
  refine ops_cons rfl (ow_call ent223 rfl (ret_mono (toBits_c _ _ _ xs _ hs (by omega) hb) ?_))
  rintro _ w4 ⟨AB, cB, rfl, oB, x3⟩
  replace oB := Own.low oB X.size
  replace hs := hs.ext x3
  replace X := Ext.trans X x3; clear x3
  refine ops_cons rfl (ow_call ent222 rfl (ret_mono (feed_c _ _ _ (bitsL xs) ((k : Int) + 1) _ (oB).sl (by rw [bitsL_len]; omega) (by omega) (fun b hb => bitsL_in b hb)) ?_))
  rintro _ w6 ⟨rfl, x5⟩
  replace hs := hs.ext x5
  replace oB := oB.ext x5
  replace X := Ext.trans X x5; clear x5
  refine ops_cons rfl (ow_call ent147 rfl (ret_mono (three_c (crcK k xs) _ (crcK_in xs (by omega))) ?_))
  rintro _ w9 ⟨AT, cT, rfl, oT, x7⟩
  replace oT := Own.low oT X.size
  replace hs := hs.ext x7
  replace oB := oB.ext x7
  replace X := Ext.trans X x7; clear x7
  refine ops_cons rfl (ow_assign rfl ?_)
  refine ops_nil ?_
  refine c_ret ?_
  refine fin_ret1 rfl rfl ?_
  exact ⟨_, _, rfl, oT, X⟩

theorem blockCheck_n (k n : Nat) (A : Option Addr) (B c : Nat) (xs : List Int) (w : World) (hs : Sl B w A (xs.flatMap eI)) (en : xs.length = n) (hl : xs.length ≤ 100000) (hb : ∀ x ∈ xs, 0 ≤ x ∧ x ≤ 255) (hk : k ≤ 100000) :
    Calls Tryz.prog 153 #[.int .i64 (k : Nat), .slice A n c] w (Ret fun v w' => ∃ A' c', v = .slice A' 3 c' ∧ Own w' w.heap.size 2 1 A' 3 c' ((chkB k xs).flatMap eI) ∧ Ext w w') := by
  subst en; exact blockCheck_c k A B c xs w hs hl hb hk

theorem l09Check_c (k : Nat) (A : Option Addr) (B c : Nat) (xs : List Int) (w : World) (hs : Sl B w A (xs.flatMap eI)) (hl : xs.length ≤ 100000) (hb : ∀ x ∈ xs, 0 ≤ x ∧ x ≤ 255) (hk : k ≤ 100000) :
    Calls Tryz.prog 158 #[.int .i64 (k : Nat), .slice A xs.length c] w (Ret fun v w' => v = .int .i64 (crcK k xs) ∧ Ext w w') := by
  have Bhs := hs.1
  have X := Ext.refl w
  refine calls_of (args := [.int .i64 (k : Nat), .slice A xs.length c]) Tryz.func158 Tryz.ntmps158 rfl rfl ?_
  refine c_seqR ?_
  refine ops_cons rfl (ow_assign rfl ?_)
  refine ops_nil ?_
  refine c_seqR ?_
  refine ops_cons rfl (ow_call ent234 rfl (ret_mono (sStdCrc_c _) ?_))
  rintro _ w2 ⟨rfl, x1⟩
  replace hs := hs.ext x1
  replace X := Ext.trans X x1; clear x1
  refine ops_cons rfl (ow_move rfl ?_)
  refine ops_cons rfl (ow_add rfl rfl (w64 (by omega)) ?_)
  refine ops_cons rfl (ow_move rfl ?_)
  refine ops_cons rfl (ow_call ent235 rfl (ret_mono (l01Bits_c _ _ _ xs _ hs (by omega) hb) ?_))
  rintro _ w4 ⟨AB, cB, rfl, oB, x3⟩
  replace oB := Own.low oB X.size
  replace hs := hs.ext x3
  replace X := Ext.trans X x3; clear x3
  refine ops_cons rfl (ow_call ent233 rfl (ret_mono (l02Feed_c _ _ _ (bitsL xs) ((k : Int) + 1) _ (oB).sl (by rw [bitsL_len]; omega) (by omega) (fun b hb => bitsL_in b hb)) ?_))
  rintro _ w6 ⟨rfl, x5⟩
  replace hs := hs.ext x5
  replace oB := oB.ext x5
  replace X := Ext.trans X x5; clear x5
  refine ops_cons rfl (ow_assign rfl ?_)
  refine ops_nil ?_
  refine c_ret ?_
  refine fin_ret1 rfl rfl ?_
  exact ⟨by rfl, X⟩

theorem l09Check_n (k n : Nat) (A : Option Addr) (B c : Nat) (xs : List Int) (w : World) (hs : Sl B w A (xs.flatMap eI)) (en : xs.length = n) (hl : xs.length ≤ 100000) (hb : ∀ x ∈ xs, 0 ≤ x ∧ x ≤ 255) (hk : k ≤ 100000) :
    Calls Tryz.prog 158 #[.int .i64 (k : Nat), .slice A n c] w (Ret fun v w' => v = .int .i64 (crcK k xs) ∧ Ext w w') := by
  subst en; exact l09Check_c k A B c xs w hs hl hb hk

theorem l09Slice_c (A : Option Addr) (B c : Nat) (xs : List Int) (k : Nat) (w : World) (hs : Sl B w A (xs.flatMap eI)) (hl : xs.length ≤ 1048576) (hc : xs.length ≤ c) (hk : k ≤ 100000) :
    Calls Tryz.prog 101 #[.slice A xs.length c, .int .i64 (k : Nat)] w (Ret fun v w' => ∃ A' c', v = .slice A' (sl33 xs k).length c' ∧ (sl33 xs k).length ≤ c' ∧ Sl B w' A' ((sl33 xs k).flatMap eI) ∧ Ext w w') := by
  have Bhs := hs.1
  have X := Ext.refl w
  refine calls_of (args := [.slice A xs.length c, .int .i64 (k : Nat)]) Tryz.func101 Tryz.ntmps101 rfl rfl ?_
  refine c_seqR ?_
  refine ops_cons rfl (ow_assign rfl ?_)
  refine ops_nil ?_
  refine c_seqR ?_
  refine ops_cons rfl (ow_move rfl ?_)
  refine ops_cons rfl (ow_len Tryz.underlying30 rfl ?_)
  refine ops_cons rfl (ow_move rfl ?_)
  refine ops_cons rfl (ow_mul rfl rfl (show IntKind.i64.wrap _ = ((33 * k : Nat) : Int) from (w64 (by omega)).trans (by omega)) ?_)
  refine ops_cons rfl (ow_min rfl rfl ?_)
  refine ops_cons rfl (ow_assign rfl ?_)
  refine ops_nil ?_
  refine c_seqR ?_
  refine ops_cons rfl (ow_move rfl ?_)
  refine ops_cons rfl (ow_move rfl ?_)
  refine ops_cons rfl (ow_move rfl ?_)
  refine ops_cons rfl (ow_len Tryz.underlying30 rfl ?_)
  refine ops_cons rfl (ow_move rfl ?_)
  refine ops_cons rfl (ow_add rfl rfl (w64 (by omega)) ?_)
  refine ops_cons rfl (ow_min rfl rfl ?_)
  refine ops_cons rfl (ow_sliceLH el30 hs eI_len rfl rfl rfl (show _ = ((min xs.length (33 * k) : Nat) : Int) by omega) (show _ = ((min xs.length (min xs.length (33 * k) + 33) : Nat) : Int) by omega) (by omega) (by omega) ?_)
  intro Ap pS
  refine ops_cons rfl (ow_assign rfl ?_)
  refine ops_nil ?_
  refine c_ret ?_
  refine fin_ret1 rfl rfl ?_
  · skip
    rw [sl33_cut] at pS
    rw [sl33_cutl]
    exact ⟨Ap, _, rfl, by rw [← sl33_cutl]; omega, pS, X⟩
end Go.Proofs.YtdoibplhbdkapaaGreatDoor
namespace Go.Proofs.YtdoibplhbdkapaaGreatDoor
open Go.RowKit
set_option linter.unusedVariables false
set_option linter.unusedSimpArgs false
section
variable {P : Program} {e : List (Nat × Value)} {ty t t' el : TypeId} {w : World} {K : Value → World → Prop} {x y : Operand} {A : Option Addr} {n c : Nat}
end
theorem Own.pre {w : World} {lo n c s h : Nat} {t : TypeId} {A : Option Addr} {cs : List Value} (o : Own w lo t s A n c cs) (hh : h ≤ n) : Own w lo t s A h c (cs.take (h * s)) := by
  have hl : (cs.take (h * s)).length = h * s := by
    rw [List.length_take, o.1]
    exact Nat.min_eq_left (Nat.mul_le_mul_right s hh)
  refine ⟨hl, ?_⟩
  rcases o.2 with ⟨h1, h2⟩ | ⟨g, cap, cur, hv, hlo, hg, hnc, hm, hs, hc⟩
  · simp only [Value.slice.injEq] at h1
    obtain ⟨rfl, h3, rfl⟩ := h1
    left
    have h4 : h = 0 := by omega
    subst h4
    exact ⟨rfl, rfl⟩
  · simp only [Value.slice.injEq] at hv
    obtain ⟨rfl, _, rfl⟩ := hv
    right
    refine ⟨g, c, cur, rfl, hlo, hg, by omega, hm, hs, ?_⟩
    rw [← hc, List.take_take, Nat.min_eq_left (Nat.mul_le_mul_right s hh)]
section
variable {P : Program} {n : Nat} {fn : Func} {R : Value → World → Prop} {e : List (Nat × Value)} {w : World}
end
section
variable {P : Program} {e : List (Nat × Value)} {ty t t' : TypeId} {w : World} {K : Value → World → Prop} {x y : Operand} {a : Array Value}
end
section
variable {P : Program} {e : List (Nat × Value)} {w : World} {K : Value → World → Prop} {ty t el : TypeId} {x hi : Operand} {s n c h : Nat} {A : Option Addr} {k2 : IntKind} {m2 : Int}
theorem ow_sliceHO (ht : elO P t = some (el, s)) (hx : evO e x = some (.slice A n c)) (h2 : evO e hi = some (.int k2 m2)) (e2 : m2 = (h : Int))
    (hc : h ≤ c) (hK : K (.slice A h c) w) : OpWp P e (.slice t x none (some hi) none) ty w K := fun ρ d p a g hρ => by
  have g0 := hρ _ _ hx; have g2 := hρ _ _ h2
  obtain ⟨hu, hsz⟩ := elem_of ht
  subst e2
  have hr := run_slice_h (P := P) (w := w) t A n c hu k2 (h : Int) (by omega) (by omega)
  simp only [execOp, g0, Option.map_some, Option.map_none, g2, Sem.run_bind, run_sliceAt_slice w t _ _ _ _ hu, hr, hsz, Result.andThen_ok, Sem.run_pure, upto, sliced, Int.toNat_natCast]
  have e1 : (if c = 0 then A else A.map (·.add (0 * s))) = A := by split <;> simp [map_add0]
  simpa [map_add0] using hK
end
end Go.Proofs.YtdoibplhbdkapaaGreatDoor
namespace Go.Proofs.YtdoibplhbdkapaaGreatDoor
open Go.RowKit
set_option linter.unusedVariables false
set_option linter.unusedSimpArgs false
set_option maxRecDepth 20000
theorem equalI_n (A : Option Addr) (B c n : Nat) (xs : List Int) (A2 : Option Addr) (B2 c2 n2 : Nat) (ys : List Int) (w : World) (hs : Sl B w A (xs.flatMap eI)) (h2 : Sl B2 w A2 (ys.flatMap eI)) (hl : xs.length ≤ 1048576) (e1 : xs.length = n) (e2 : ys.length = n2) :
    Calls Tryz.prog 168 #[.slice A n c, .slice A2 n2 c2] w (Ret fun v w' => v = .bool (decide (xs = ys)) ∧ Ext w w') := by
  subst e1; subst e2; exact equalI_c A B c xs A2 B2 c2 ys w hs h2 hl
theorem chkB_len (k : Nat) (xs : List Int) : (chkB k xs).length = 3 := rfl
theorem getD_of {p : List Int} {k : Nat} {x : Int} (h : p[k]? = some x) : p.getD k 0 = x := by rw [List.getD_eq_getElem?_getD, h]; rfl
theorem damaged_c (A : Option Addr) (B c : Nat) (xs : List Int) (w : World) (hs : Sl B w A (xs.flatMap eI)) (hl : xs.length ≤ 1024) (hb : ∀ x ∈ xs, 0 ≤ x ∧ x ≤ 255) (hc : xs.length ≤ c) (hn : Nexts B w (slcs A xs)) :
    Calls Tryz.prog 84 #[.slice A xs.length c] w (Ret fun v w' => ∃ A' c', v = .slice A' (dmg xs).length c' ∧ Own w' w.heap.size 2 1 A' (dmg xs).length c' ((dmg xs).flatMap eI) ∧ Ext w w') := by
  have hnS := nS_le xs.length
  have Bhs := hs.1
  have Bhn := hn.1
  have X := Ext.refl w
  refine calls_of (args := [.slice A xs.length c]) Tryz.func84 Tryz.ntmps84 rfl rfl ?_
  refine c_seqR ?_
  refine ops_cons rfl (ow_assign rfl ?_)
  refine ops_nil ?_
  refine c_seqR ?_
  refine ops_cons rfl (ow_buildSlice el30 ti2 rfl rfl rfl rfl rfl ?_)
  intro gO w2 egO oO bbgO x1 zgO
  replace oO := Own.low oO X.size
  replace hs := hs.ext x1
  replace hn := hn.ext x1
  replace X := Ext.trans X x1; clear x1
  refine ops_cons rfl (ow_assign rfl ?_)
  refine ops_nil ?_
  refine c_seq ?_
  refine c_seqR ?_
  refine ops_cons rfl (ow_move rfl ?_)
  refine ops_cons rfl (ow_call ent85 rfl (ret_mono (slicesOf_c A c xs _ (by omega) hc) ?_))
  rintro _ w4 ⟨AR, cR, rfl, oR, x3⟩
  replace oR := Own.low oR X.size
  replace hs := hs.ext x3
  replace hn := hn.ext x3
  replace oO := oO.ext x3
  replace X := Ext.trans X x3; clear x3
  refine ops_cons rfl (ow_len Tryz.underlying107 rfl ?_)
  refine ops_cons rfl (ow_move rfl ?_)
  refine ops_nil ?_
  refine c_block ?_
  refine c_loop (G := Nat × Nat × Option Addr × Nat) (fun ⟨k, n1, A1, c1⟩ => [(2, .slice none 0 0), (9, .slice AR (nS xs.length) cR), (10, .int .i64 ((nS xs.length) : Nat)), (3, .slice A1 n1 c1), (11, .int .i64 (k : Nat))]) (fun ⟨k, n1, A1, c1⟩ wr => k ≤ nS xs.length ∧ n1 ≤ k ∧ n1 = (dmgP xs k).length ∧ Own wr w.heap.size 2 1 A1 n1 c1 ((dmgP xs k).flatMap eI) ∧ Sl B wr A (xs.flatMap eI) ∧ Nexts B wr (slcs A xs) ∧ Own wr w.heap.size 30 1 AR (nS xs.length) cR ((slcs A xs).flatMap rowC) ∧ Ext w wr) (fun ⟨k, n1, A1, c1⟩ => nS xs.length - k) (0, 0, some ⟨gO, 0, none⟩, 0) (.cons rfl (.cons rfl (.cons rfl (.cons rfl (.cons rfl (.nil _)))))) ?_ ?_
  · exact ⟨(Nat.zero_le _), (Nat.le_refl _), rfl, oO, hs, hn, oR, X⟩
  clear hs hn oO oR
  clear X
  rintro ⟨k, n1, A1, c1⟩ wr ⟨hk0, hnk, hn1, oO, hs, hn, oR, X⟩
  refine c_seqR ?_
  refine ops_cons rfl (ow_lss2 rfl rfl (fun hk => ?_) (fun hk => ?_))
  obtain ⟨pA, pc, hx, hpc⟩ := slcs_get A xs (k := k) (by omega)
  have hpl := sl33_len xs k
  have hrl : (rowI pA pc (sl33 xs k)).m.next.length = (sl33 xs k).length := rfl
  have hrc : (rowI pA pc (sl33 xs k)).c = pc := rfl
  refine ops_nil ?_
  refine c_seq ?_
  refine c_true rfl ?_
  refine c_skip ?_
  refine tq_n ?_
  refine c_seq ?_
  refine c_block ?_
  refine c_seqR ?_
  refine ops_cons rfl (ow_move rfl ?_)
  refine ops_cons rfl (ow_indexT (oR).sl rowC_len rfl el107 rfl (slcs_len A xs).symm rfl hx rfl ?_)
  refine ops_cons rfl (ow_loadT (oR).sl rowC_len hx ti30 rfl rfl rfl ?_)
  have hp : Sl B _ pA ((sl33 xs k).flatMap eI) := hn.at_ hx
  refine ops_cons rfl (ow_assign rfl ?_)
  refine ops_cons rfl (ow_assign rfl ?_)
  refine ops_nil ?_
  refine c_seqR ?_
  refine ops_cons rfl (ow_move rfl ?_)
  refine ops_cons rfl (ow_len Tryz.underlying30 rfl ?_)
  refine ops_cons rfl (ow_sub rfl rfl (w64 (by omega)) ?_)
  by_cases hq : ((sl33 xs k).length : Int) - 3 < 2
  refine ops_cons rfl (ow_assign rfl ?_)
  refine ops_nil ?_
  refine c_seqI (fun wz => Sl B wz pA ((sl33 xs k).flatMap eI)) mixed ?_
  obtain ⟨w5, ew5⟩ : ∃ wy, wy = World.drew wr := ⟨_, rfl⟩
  rw [← ew5]
  have xd : Ext wr w5 := ew5 ▸ Ext.drew wr
  replace oO := oO.ext xd
  replace hs := hs.ext xd
  replace hn := hn.ext xd
  replace oR := oR.ext xd
  replace hp := hp.ext xd
  replace X := Ext.trans X xd; clear xd ew5
  refine wi_take 0 rfl (by kernel_rfl) rfl (by kernel_rfl) (listed' := #[true, false, false, false, false, false, false, false, false, false, false, false, false, false]) rfl (fun wq sq => ow_move rfl ⟨rfl, rfl⟩) ?_
  refine wi_take 1 rfl (by kernel_rfl) rfl (by kernel_rfl) (listed' := #[true, true, false, false, false, false, false, false, false, false, false, false, false, false]) rfl (fun wq sq => ow_lssT rfl rfl hq ⟨rfl, rfl⟩) ?_
  refine wi_take 2 rfl (by kernel_rfl) rfl (by kernel_rfl) (listed' := #[true, true, true, false, false, false, false, false, false, false, false, false, false, false]) rfl (fun wq sq => ow_move rfl ⟨rfl, rfl⟩) ?_
  refine wi_takeS 3 rfl (by kernel_rfl) rfl (by kernel_rfl) (listed' := #[true, true, true, true, false, false, false, false, false, false, false, false, false, false]) rfl rfl rfl rfl ?_
  refine wi_takeS 4 rfl (by kernel_rfl) rfl (by kernel_rfl) (listed' := #[true, true, true, true, true, false, false, false, false, false, false, false, false, false]) rfl rfl rfl rfl ?_
  refine wi_takeS 5 rfl (by kernel_rfl) rfl (by kernel_rfl) (listed' := #[true, true, true, true, true, true, false, false, false, false, false, false, false, false]) rfl rfl rfl rfl ?_
  refine wi_takeS 6 rfl (by kernel_rfl) rfl (by kernel_rfl) (listed' := #[true, true, true, true, true, true, true, false, false, false, false, false, false, false]) rfl rfl rfl rfl ?_
  refine wi_takeS 7 rfl (by kernel_rfl) rfl (by kernel_rfl) (listed' := #[true, true, true, true, true, true, true, true, false, false, false, false, false, false]) rfl rfl rfl rfl ?_
  refine wi_takeS 8 rfl (by kernel_rfl) rfl (by kernel_rfl) (listed' := #[true, true, true, true, true, true, true, true, true, false, false, false, false, false]) rfl rfl rfl rfl ?_
  refine wi_takeS 9 rfl (by kernel_rfl) rfl (by kernel_rfl) (listed' := #[true, true, true, true, true, true, true, true, true, true, false, false, false, false]) rfl rfl rfl rfl ?_
  refine wi_takeS 10 rfl (by kernel_rfl) rfl (by kernel_rfl) (listed' := #[true, true, true, true, true, true, true, true, true, true, true, false, false, false]) rfl rfl rfl rfl ?_
  refine wi_takeS 11 rfl (by kernel_rfl) rfl (by kernel_rfl) (listed' := #[true, true, true, true, true, true, true, true, true, true, true, true, false, false]) rfl rfl rfl rfl ?_
  refine wi_takeS 12 rfl (by kernel_rfl) rfl (by kernel_rfl) (listed' := #[true, true, true, true, true, true, true, true, true, true, true, true, true, false]) rfl rfl rfl rfl ?_
  refine wi_take 13 rfl (by kernel_rfl) rfl (by kernel_rfl) (listed' := #[true, true, true, true, true, true, true, true, true, true, true, true, true, true]) rfl (fun wq sq => ow_pick rfl rfl ⟨rfl, rfl⟩) ?_
  refine wi_done rfl hp (fun aj fj => ⟨_, fj, ?_⟩)
  refine c_true rfl ?_
  refine c_region ?_
  have hbk : badK xs k = true := badK_short (by omega)
  refine ops_cons rfl (ow_move rfl ?_)
  refine ops_cons rfl (ow_move rfl ?_)
  refine ops_cons rfl (ow_buildSlice el30 ti2 rfl rfl rfl rfl rfl ?_)
  intro g6 w9 eg6 oV bbg6 x7 zg6
  replace oV := Own.low oV X.size
  replace oO := oO.ext x7
  replace hs := hs.ext x7
  replace hn := hn.ext x7
  replace oR := oR.ext x7
  replace hp := hp.ext x7
  replace X := Ext.trans X x7; clear x7
  refine ops_cons rfl (ow_append (ts := #[]) oO X.size oV.sl rfl (one_ints [(k : Int)]) el30 ti2 rfl rfl rfl rfl (by omega) (by omega) ?_)
  intro AoN coN w11 oN hg10
  replace hs := hs.grown hg10 (fun g hg => Nat.le_trans Bhs (Own.lt oO hg).1)
  replace hn := hn.grown hg10 (fun g hg => Nat.le_trans Bhn (Own.lt oO hg).1)
  replace oR := oR.grown hg10 (Own.neO oR oO (by decide))
  replace hp := hp.grown hg10 (fun g hg => Nat.le_trans Bhs (Own.lt oO hg).1)
  replace X := X.grown hg10 X.size (fun g hg => (Own.lt oO hg).1)
  clear hg10
  refine ops_cons rfl (ow_assign rfl ?_)
  refine ops_nil ?_
  refine bq_n ?_
  refine tq_n ?_
  refine c_region ?_
  refine ops_cons rfl (ow_add rfl rfl (w64 (by omega)) ?_)
  refine ops_cons rfl (ow_move rfl ?_)
  refine ops_nil ?_
  refine tq_n ⟨(k + 1, n1 + 1, AoN, coN), (.cons rfl (.cons rfl (.cons rfl (.cons rfl (.cons rfl (.nil _)))))), ?_, ?_⟩
  · exact ⟨(by omega), (by omega), (by rw [dmgP_step, if_pos hbk]; simp [hn1]), (oN.to (by rw [dmgP_step, if_pos hbk, List.flatMap_append]; rfl)), hs, hn, oR, X⟩
  · first | omega | (dsimp only; omega)
  refine ops_cons rfl (ow_assign rfl ?_)
  refine ops_nil ?_
  refine c_seqI (fun wz => Sl B wz pA ((sl33 xs k).flatMap eI)) mixed ?_
  obtain ⟨w12, ew12⟩ : ∃ wy, wy = World.drew wr := ⟨_, rfl⟩
  rw [← ew12]
  have xd : Ext wr w12 := ew12 ▸ Ext.drew wr
  replace oO := oO.ext xd
  replace hs := hs.ext xd
  replace hn := hn.ext xd
  replace oR := oR.ext xd
  replace hp := hp.ext xd
  replace X := Ext.trans X xd; clear xd ew12
  refine wi_take 0 rfl (by kernel_rfl) rfl (by kernel_rfl) (listed' := #[true, false, false, false, false, false, false, false, false, false, false, false, false, false]) rfl (fun wq sq => ow_move rfl ⟨rfl, rfl⟩) ?_
  refine wi_take 1 rfl (by kernel_rfl) rfl (by kernel_rfl) (listed' := #[true, true, false, false, false, false, false, false, false, false, false, false, false, false]) rfl (fun wq sq => ow_lssF rfl rfl hq ⟨rfl, rfl⟩) ?_
  refine wi_take 2 rfl (by kernel_rfl) rfl (by kernel_rfl) (listed' := #[true, true, true, false, false, false, false, false, false, false, false, false, false, false]) rfl (fun wq sq => ow_move rfl ⟨rfl, rfl⟩) ?_
  refine wi_takeW 3 rfl (by kernel_rfl) rfl (by kernel_rfl) (listed' := #[true, true, true, true, false, false, false, false, false, false, false, false, false, false]) rfl rfl rfl (fun wq sq => ow_move rfl ⟨rfl, rfl⟩) ?_
  refine wi_takeW 4 rfl (by kernel_rfl) rfl (by kernel_rfl) (listed' := #[true, true, true, true, true, false, false, false, false, false, false, false, false, false]) rfl rfl rfl (fun wq sq => ow_move rfl ⟨rfl, rfl⟩) ?_
  refine wi_takeW 5 rfl (by kernel_rfl) rfl (by kernel_rfl) (listed' := #[true, true, true, true, true, true, false, false, false, false, false, false, false, false]) rfl rfl rfl (fun wq sq => ow_move rfl ⟨rfl, rfl⟩) ?_
  refine wi_takeW 6 rfl (by kernel_rfl) rfl (by kernel_rfl) (listed' := #[true, true, true, true, true, true, true, false, false, false, false, false, false, false]) rfl rfl rfl (fun wq sq => ow_sliceHO (h := (sl33 xs k).length - 3) el30 rfl rfl (by omega) (by omega) ⟨rfl, rfl⟩) ?_
  refine wi_takeW 8 rfl (by kernel_rfl) rfl (by kernel_rfl) (listed' := #[true, true, true, true, true, true, true, false, true, false, false, false, false, false]) rfl rfl rfl (fun wq sq => ow_move rfl ⟨rfl, rfl⟩) ?_
  refine wi_takeW 9 rfl (by kernel_rfl) rfl (by kernel_rfl) (listed' := #[true, true, true, true, true, true, true, false, true, true, false, false, false, false]) rfl rfl rfl (fun wq sq => ow_move rfl ⟨rfl, rfl⟩) ?_
  refine wi_takeW 10 rfl (by kernel_rfl) rfl (by kernel_rfl) (listed' := #[true, true, true, true, true, true, true, false, true, true, true, false, false, false]) rfl rfl rfl (fun wq sq => ow_sliceLX (l := (sl33 xs k).length - 3) el30 rfl rfl (by omega) (by omega) ⟨rfl, rfl⟩) ?_
  refine wi_oneW 7 rfl rfl (by kernel_rfl) (listed' := #[true, true, true, true, true, true, true, true, true, true, true, false, false, false]) rfl rfl rfl hp (ow_call ent153 rfl (ret_mono (blockCheck_n k _ _ _ _ ((sl33 xs k).take ((sl33 xs k).length - 3)) _ (hp.takeI _) (by rw [List.length_take]; omega) (by rw [List.length_take, sl33_len]; omega) (take_b (sl33_b hb k) _) (by omega)) ?_))
  rintro _ w14 ⟨AK, cK, rfl, oK, x13⟩
  replace oK := Own.low oK X.size
  replace oO := oO.ext x13
  replace hs := hs.ext x13
  replace hn := hn.ext x13
  replace oR := oR.ext x13
  replace hp := hp.ext x13
  replace X := Ext.trans X x13; clear x13
  refine wi_oneW 11 rfl rfl (by kernel_rfl) (listed' := #[true, true, true, true, true, true, true, true, true, true, true, true, false, false]) rfl rfl rfl hp (ow_callB ent168 rfl (equalI_n _ _ _ _ (chkB k ((sl33 xs k).take ((sl33 xs k).length - 3))) _ _ _ _ ((sl33 xs k).drop ((sl33 xs k).length - 3)) _ oK.sl (hp.dropX _ hpc) (by rw [chkB_len]; omega) (chkB_len _ _) (by rw [List.length_drop]; rfl)) (fun w16 he x15 => ?_) (fun w16 he x15 => ?_))
  replace oO := oO.ext x15
  replace hs := hs.ext x15
  replace hn := hn.ext x15
  replace oR := oR.ext x15
  replace hp := hp.ext x15
  replace oK := oK.ext x15
  replace X := Ext.trans X x15; clear x15
  refine wi_takeW 12 rfl (by kernel_rfl) rfl (by kernel_rfl) (listed' := #[true, true, true, true, true, true, true, true, true, true, true, true, true, false]) rfl rfl rfl (fun wq sq => ow_not rfl ⟨rfl, rfl⟩) ?_
  refine wi_take 13 rfl (by kernel_rfl) rfl (by kernel_rfl) (listed' := #[true, true, true, true, true, true, true, true, true, true, true, true, true, true]) rfl (fun wq sq => ow_pick rfl rfl ⟨rfl, rfl⟩) ?_
  refine wi_done rfl hp (fun aj fj => ⟨_, fj, ?_⟩)
  refine c_false rfl ?_
  refine c_skip ?_
  refine bq_n ?_
  refine tq_n ?_
  refine c_region ?_
  have hbk : badK xs k = false := by rw [badK_long (by omega), he]; rfl
  refine ops_cons rfl (ow_add rfl rfl (w64 (by omega)) ?_)
  refine ops_cons rfl (ow_move rfl ?_)
  refine ops_nil ?_
  refine tq_n ⟨(k + 1, n1, A1, c1), (.cons rfl (.cons rfl (.cons rfl (.cons rfl (.cons rfl (.nil _)))))), ?_, ?_⟩
  · exact ⟨(by omega), (by omega), (by rw [dmgP_step, if_neg (by rw [hbk]; decide)]; exact hn1), (oO.to (by rw [dmgP_step, if_neg (by rw [hbk]; decide)])), hs, hn, oR, X⟩
  · first | omega | (dsimp only; omega)
  replace oO := oO.ext x15
  replace hs := hs.ext x15
  replace hn := hn.ext x15
  replace oR := oR.ext x15
  replace hp := hp.ext x15
  replace oK := oK.ext x15
  replace X := Ext.trans X x15; clear x15
  refine wi_takeW 12 rfl (by kernel_rfl) rfl (by kernel_rfl) (listed' := #[true, true, true, true, true, true, true, true, true, true, true, true, true, false]) rfl rfl rfl (fun wq sq => ow_not rfl ⟨rfl, rfl⟩) ?_
  refine wi_take 13 rfl (by kernel_rfl) rfl (by kernel_rfl) (listed' := #[true, true, true, true, true, true, true, true, true, true, true, true, true, true]) rfl (fun wq sq => ow_pick rfl rfl ⟨rfl, rfl⟩) ?_
  refine wi_done rfl hp (fun aj fj => ⟨_, fj, ?_⟩)
  refine c_true rfl ?_
  refine c_region ?_
  have hbk : badK xs k = true := by rw [badK_long (by omega), he]; rfl
  refine ops_cons rfl (ow_move rfl ?_)
  refine ops_cons rfl (ow_move rfl ?_)
  refine ops_cons rfl (ow_buildSlice el30 ti2 rfl rfl rfl rfl rfl ?_)
  intro g17 w19 eg17 oV bbg17 x18 zg17
  replace oV := Own.low oV X.size
  replace oO := oO.ext x18
  replace hs := hs.ext x18
  replace hn := hn.ext x18
  replace oR := oR.ext x18
  replace hp := hp.ext x18
  replace X := Ext.trans X x18; clear x18
  refine ops_cons rfl (ow_append (ts := #[]) oO X.size oV.sl rfl (one_ints [(k : Int)]) el30 ti2 rfl rfl rfl rfl (by omega) (by omega) ?_)
  intro AoN coN w21 oN hg20
  replace hs := hs.grown hg20 (fun g hg => Nat.le_trans Bhs (Own.lt oO hg).1)
  replace hn := hn.grown hg20 (fun g hg => Nat.le_trans Bhn (Own.lt oO hg).1)
  replace oR := oR.grown hg20 (Own.neO oR oO (by decide))
  replace hp := hp.grown hg20 (fun g hg => Nat.le_trans Bhs (Own.lt oO hg).1)
  replace X := X.grown hg20 X.size (fun g hg => (Own.lt oO hg).1)
  clear hg20
  refine ops_cons rfl (ow_assign rfl ?_)
  refine ops_nil ?_
  refine bq_n ?_
  refine tq_n ?_
  refine c_region ?_
  refine ops_cons rfl (ow_add rfl rfl (w64 (by omega)) ?_)
  refine ops_cons rfl (ow_move rfl ?_)
  refine ops_nil ?_
  refine tq_n ⟨(k + 1, n1 + 1, AoN, coN), (.cons rfl (.cons rfl (.cons rfl (.cons rfl (.cons rfl (.nil _)))))), ?_, ?_⟩
  · exact ⟨(by omega), (by omega), (by rw [dmgP_step, if_pos hbk]; simp [hn1]), (oN.to (by rw [dmgP_step, if_pos hbk, List.flatMap_append]; rfl)), hs, hn, oR, X⟩
  · first | omega | (dsimp only; omega)
  refine ops_nil ?_
  refine c_seq ?_
  refine c_false rfl ?_
  refine c_exit ?_
  refine tq_e ?_
  refine tq_e ?_
  refine bq_e ?_
  refine tq_n ?_
  refine c_seqR ?_
  refine ops_cons rfl (ow_move rfl ?_)
  refine ops_cons rfl (ow_assign rfl ?_)
  refine ops_nil ?_
  refine c_ret ?_
  refine fin_ret1 rfl rfl ?_
  · skip
    have hkE : k = nS xs.length := by omega
    rw [hkE] at oO hn1
    unfold dmg
    rw [← hn1]; exact ⟨A1, c1, rfl, oO, X⟩

theorem l09Damaged_c (A : Option Addr) (B c : Nat) (xs : List Int) (w : World) (hs : Sl B w A (xs.flatMap eI)) (hl : xs.length ≤ 1024) (hb : ∀ x ∈ xs, 0 ≤ x ∧ x ≤ 255) (hc : xs.length ≤ c) :
    Calls Tryz.prog 100 #[.slice A xs.length c] w (Ret fun v w' => ∃ A' c', v = .slice A' (dmg xs).length c' ∧ Own w' w.heap.size 2 1 A' (dmg xs).length c' ((dmg xs).flatMap eI) ∧ Ext w w') := by
  have hnS := nS_le xs.length
  have Bhs := hs.1
  have X := Ext.refl w
  refine calls_of (args := [.slice A xs.length c]) Tryz.func100 Tryz.ntmps100 rfl rfl ?_
  refine c_seqR ?_
  refine ops_cons rfl (ow_assign rfl ?_)
  refine ops_nil ?_
  refine c_seqR ?_
  refine ops_cons rfl (ow_buildSlice el30 ti2 rfl rfl rfl rfl rfl ?_)
  intro gO w2 egO oO bbgO x1 zgO
  replace oO := Own.low oO X.size
  replace hs := hs.ext x1
  replace X := Ext.trans X x1; clear x1
  refine ops_cons rfl (ow_assign rfl ?_)
  refine ops_nil ?_
  refine c_seq ?_
  refine c_seqR ?_
  refine ops_cons rfl (ow_assign rfl ?_)
  refine ops_nil ?_
  refine c_block ?_
  refine c_loop (G := Nat × Nat × Option Addr × Nat) (fun ⟨k, n1, A1, c1⟩ => [(0, .slice A xs.length c), (2, .slice none 0 0), (3, .slice A1 n1 c1), (4, .int .i64 (k : Nat))]) (fun ⟨k, n1, A1, c1⟩ wr => k ≤ nS xs.length ∧ n1 ≤ k ∧ n1 = (dmgP xs k).length ∧ Own wr w.heap.size 2 1 A1 n1 c1 ((dmgP xs k).flatMap eI) ∧ Sl B wr A (xs.flatMap eI) ∧ Ext w wr) (fun ⟨k, n1, A1, c1⟩ => nS xs.length - k) (0, 0, some ⟨gO, 0, none⟩, 0) (.cons rfl (.cons rfl (.cons rfl (.cons rfl (.nil _))))) ?_ ?_
  · exact ⟨(Nat.zero_le _), (Nat.le_refl _), rfl, oO, hs, X⟩
  clear hs oO
  clear X
  rintro ⟨k, n1, A1, c1⟩ wr ⟨hk0, hnk, hn1, oO, hs, X⟩
  refine c_seq ?_
  refine c_seqR ?_
  refine ops_cons rfl (ow_move rfl ?_)
  refine ops_cons rfl (ow_eql2 rfl rfl (fun h0 => ?_) (fun h0 => ?_))
  have hkS := (nS_on (n := xs.length) (k := k)).2 (.inl (by omega))
  refine ops_cons rfl (ow_move rfl ?_)
  refine ops_skip rfl rfl rfl rfl ?_
  refine ops_skip rfl rfl rfl rfl ?_
  refine ops_skip rfl rfl rfl rfl ?_
  refine ops_skip rfl rfl rfl rfl ?_
  refine ops_skip rfl rfl rfl rfl ?_
  refine ops_cons rfl (ow_pick rfl rfl ?_)
  refine ops_nil ?_
  refine c_true rfl ?_
  refine c_skip ?_
  refine tq_n ?_
  refine c_seq ?_
  refine c_block ?_
  refine c_seqR ?_
  refine ops_cons rfl (ow_move rfl ?_)
  refine ops_cons rfl (ow_move rfl ?_)
  refine ops_cons rfl (ow_call ent101 rfl (ret_mono (l09Slice_c A B c xs k _ hs (by omega) hc (by omega)) ?_))
  rintro _ wS ⟨pA, pc, rfl, hpc, hp, xS⟩
  replace hs := hs.ext xS
  replace oO := oO.ext xS
  replace X := Ext.trans X xS; clear xS
  have hpl := sl33_len xs k
  refine ops_cons rfl (ow_assign rfl ?_)
  refine ops_nil ?_
  refine c_seqR ?_
  refine ops_cons rfl (ow_move rfl ?_)
  refine ops_cons rfl (ow_len Tryz.underlying30 rfl ?_)
  refine ops_cons rfl (ow_sub rfl rfl (w64 (by omega)) ?_)
  refine ops_cons rfl (ow_assign rfl ?_)
  refine ops_nil ?_
  refine c_seqD [false, false, false, false, false, false, false, false, false, false, false, false, false, false, false, false, false, false, false, false, false, false, false, false, false, false, false, false] mixed (by kernel_rfl) ?_
  refine f_q rfl (fun wq sq => ow_move rfl ⟨rfl, Ext.refl _⟩) ?_
  refine f_qb rfl (fun wq sq => ow_lss rfl rfl ⟨rfl, Ext.refl _⟩) (fun hq => ?_) (fun hq => ?_)
  refine f_q rfl (fun wq sq => ow_move rfl ⟨rfl, Ext.refl _⟩) ?_
  refine f_qs rfl rfl rfl rfl ?_
  refine f_qs rfl rfl rfl rfl ?_
  refine f_qs rfl rfl rfl rfl ?_
  refine f_qs rfl rfl rfl rfl ?_
  refine f_qs rfl rfl rfl rfl ?_
  refine f_qs rfl rfl rfl rfl ?_
  refine f_qs rfl rfl rfl rfl ?_
  refine f_qs rfl rfl rfl rfl ?_
  refine f_qs rfl rfl rfl rfl ?_
  refine f_qs rfl rfl rfl rfl ?_
  refine f_qs rfl rfl rfl rfl ?_
  refine f_qs rfl rfl rfl rfl ?_
  refine f_qs rfl rfl rfl rfl ?_
  refine f_qs rfl rfl rfl rfl ?_
  refine f_qs rfl rfl rfl rfl ?_
  refine f_qs rfl rfl rfl rfl ?_
  refine f_qs rfl rfl rfl rfl ?_
  refine f_qs rfl rfl rfl rfl ?_
  refine f_qs rfl rfl rfl rfl ?_
  refine f_qs rfl rfl rfl rfl ?_
  refine f_qs rfl rfl rfl rfl ?_
  refine f_qs rfl rfl rfl rfl ?_
  refine f_qs rfl rfl rfl rfl ?_
  refine f_qs rfl rfl rfl rfl ?_
  refine f_q rfl (fun wq sq => ow_pick rfl rfl ⟨rfl, Ext.refl _⟩) ?_
  refine f_nil (fun w3 sq => ?_)
  have xq := sq
  replace oO := oO.ext xq
  replace hs := hs.ext xq
  replace hp := hp.ext xq
  replace X := Ext.trans X xq; clear xq sq
  refine ops_nil ?_
  refine c_true rfl ?_
  refine c_region ?_
  have hbk : badK xs k = true := badK_short (by omega)
  refine ops_cons rfl (ow_move rfl ?_)
  refine ops_cons rfl (ow_move rfl ?_)
  refine ops_cons rfl (ow_buildSlice el30 ti2 rfl rfl rfl rfl rfl ?_)
  intro g4 w6 eg4 oV bbg4 x5 zg4
  replace oV := Own.low oV X.size
  replace oO := oO.ext x5
  replace hs := hs.ext x5
  replace hp := hp.ext x5
  replace X := Ext.trans X x5; clear x5
  refine ops_cons rfl (ow_append (ts := #[]) oO X.size oV.sl rfl (one_ints [(k : Int)]) el30 ti2 rfl rfl rfl rfl (by omega) (by omega) ?_)
  intro AoN coN w9 oN hg7
  replace hs := hs.grown hg7 (fun g hg => Nat.le_trans Bhs (Own.lt oO hg).1)
  replace hp := hp.grown hg7 (fun g hg => Nat.le_trans Bhs (Own.lt oO hg).1)
  replace X := X.grown hg7 X.size (fun g hg => (Own.lt oO hg).1)
  clear hg7
  refine ops_cons rfl (ow_assign rfl ?_)
  refine ops_nil ?_
  refine bq_n ?_
  refine tq_n ?_
  refine c_region ?_
  refine ops_cons rfl (ow_move rfl ?_)
  refine ops_cons rfl (ow_add rfl rfl (w64 (by omega)) ?_)
  refine ops_cons rfl (ow_assign rfl ?_)
  refine ops_nil ?_
  refine tq_n ⟨(k + 1, n1 + 1, AoN, coN), (.cons rfl (.cons rfl (.cons rfl (.cons rfl (.nil _))))), ?_, ?_⟩
  · exact ⟨(by omega), (by omega), (by rw [dmgP_step, if_pos hbk]; simp [hn1]), (oN.to (by rw [dmgP_step, if_pos hbk, List.flatMap_append]; rfl)), hs, X⟩
  · first | omega | (dsimp only; omega)
  obtain ⟨b0, hb0, _⟩ := drop_at (xs := (sl33 xs k)) (k := (sl33 xs k).length - 3) (by omega)
  obtain ⟨b1, hb1, _⟩ := drop_at (xs := (sl33 xs k)) (k := (sl33 xs k).length - 2) (by omega)
  obtain ⟨b2, hb2, _⟩ := drop_at (xs := (sl33 xs k)) (k := (sl33 xs k).length - 1) (by omega)
  have hr0 := sl33_b hb k b0 (List.mem_of_getElem? hb0)
  have hr1 := sl33_b hb k b1 (List.mem_of_getElem? hb1)
  have hr2 := sl33_b hb k b2 (List.mem_of_getElem? hb2)
  have hd3 := drop3 (l := (sl33 xs k)) (by omega) hb0 hb1 hb2
  have hck := crcK_in (k := k) ((sl33 xs k).take ((sl33 xs k).length - 3)) (by omega)
  refine f_q rfl (fun wq sq => ow_move rfl ⟨rfl, Ext.refl _⟩) ?_
  refine f_qw rfl rfl rfl (fun wq sq => ow_move rfl ⟨rfl, Ext.refl _⟩) ?_
  refine f_qw rfl rfl rfl (fun wq sq => ow_move rfl ⟨rfl, Ext.refl _⟩) ?_
  refine f_qw rfl rfl rfl (fun wq sq => ow_move rfl ⟨rfl, Ext.refl _⟩) ?_
  refine f_qw rfl rfl rfl (fun wq sq => ow_sliceHO (h := (sl33 xs k).length - 3) el30 rfl rfl (by omega) (by omega) ⟨rfl, Ext.refl _⟩) ?_
  refine f_qw rfl rfl rfl (fun wq sq => ow_call ent158 rfl (l09Check_n k _ _ _ _ ((sl33 xs k).take ((sl33 xs k).length - 3)) _ ((hp.ext sq).takeI _) (by rw [List.length_take]; omega) (by rw [List.length_take, sl33_len]; omega) (take_b (sl33_b hb k) _) (by omega))) ?_
  refine f_qw rfl rfl rfl (fun wq sq => ow_move rfl ⟨rfl, Ext.refl _⟩) ?_
  refine f_qw rfl rfl rfl (fun wq sq => ow_move rfl ⟨rfl, Ext.refl _⟩) ?_
  refine f_qw rfl rfl rfl (fun wq sq => ow_indexT (hp.ext sq) eI_len rfl el30 rfl rfl rfl hb0 (by omega) ⟨rfl, Ext.refl _⟩) ?_
  refine f_qw rfl rfl rfl (fun wq sq => ow_loadT (hp.ext sq) eI_len hb0 ti2 rfl rfl rfl ⟨rfl, Ext.refl _⟩) ?_
  refine f_qw rfl rfl rfl (fun wq sq => ow_mul rfl rfl (w64 (by omega)) ⟨rfl, Ext.refl _⟩) ?_
  refine f_qw rfl rfl rfl (fun wq sq => ow_move rfl ⟨rfl, Ext.refl _⟩) ?_
  refine f_qw rfl rfl rfl (fun wq sq => ow_move rfl ⟨rfl, Ext.refl _⟩) ?_
  refine f_qw rfl rfl rfl (fun wq sq => ow_add rfl rfl (w64 (by omega)) ⟨rfl, Ext.refl _⟩) ?_
  refine f_qw rfl rfl rfl (fun wq sq => ow_indexT (hp.ext sq) eI_len rfl el30 rfl rfl rfl hb1 (by omega) ⟨rfl, Ext.refl _⟩) ?_
  refine f_qw rfl rfl rfl (fun wq sq => ow_loadT (hp.ext sq) eI_len hb1 ti2 rfl rfl rfl ⟨rfl, Ext.refl _⟩) ?_
  refine f_qw rfl rfl rfl (fun wq sq => ow_mul rfl rfl (w64 (by omega)) ⟨rfl, Ext.refl _⟩) ?_
  refine f_qw rfl rfl rfl (fun wq sq => ow_add rfl rfl (w64 (by omega)) ⟨rfl, Ext.refl _⟩) ?_
  refine f_qw rfl rfl rfl (fun wq sq => ow_move rfl ⟨rfl, Ext.refl _⟩) ?_
  refine f_qw rfl rfl rfl (fun wq sq => ow_move rfl ⟨rfl, Ext.refl _⟩) ?_
  refine f_qw rfl rfl rfl (fun wq sq => ow_add rfl rfl (w64 (by omega)) ⟨rfl, Ext.refl _⟩) ?_
  refine f_qw rfl rfl rfl (fun wq sq => ow_indexT (hp.ext sq) eI_len rfl el30 rfl rfl rfl hb2 (by omega) ⟨rfl, Ext.refl _⟩) ?_
  refine f_qw rfl rfl rfl (fun wq sq => ow_loadT (hp.ext sq) eI_len hb2 ti2 rfl rfl rfl ⟨rfl, Ext.refl _⟩) ?_
  refine f_qw rfl rfl rfl (fun wq sq => ow_add rfl rfl (w64 (by omega)) ⟨rfl, Ext.refl _⟩) ?_
  refine f_qwb rfl rfl rfl (fun wq sq => ow_neq rfl rfl ⟨rfl, Ext.refl _⟩) (fun hne => ?_) (fun hne => ?_)
  refine f_q rfl (fun wq sq => ow_pick rfl rfl ⟨rfl, Ext.refl _⟩) ?_
  refine f_nil (fun w10 sq => ?_)
  have xq := sq
  replace oO := oO.ext xq
  replace hs := hs.ext xq
  replace hp := hp.ext xq
  replace X := Ext.trans X xq; clear xq sq
  refine ops_nil ?_
  refine c_true rfl ?_
  refine c_region ?_
  have hbk : badK xs k = true := by rw [badK_long (by omega), hd3, decide_eq_false (p := chkB k ((sl33 xs k).take ((sl33 xs k).length - 3)) = [b0, b1, b2]) (fun e => hne ((id3_eq hck hr0 hr1 hr2).1 e))]; rfl
  refine ops_cons rfl (ow_move rfl ?_)
  refine ops_cons rfl (ow_move rfl ?_)
  refine ops_cons rfl (ow_buildSlice el30 ti2 rfl rfl rfl rfl rfl ?_)
  intro g11 w13 eg11 oV bbg11 x12 zg11
  replace oV := Own.low oV X.size
  replace oO := oO.ext x12
  replace hs := hs.ext x12
  replace hp := hp.ext x12
  replace X := Ext.trans X x12; clear x12
  refine ops_cons rfl (ow_append (ts := #[]) oO X.size oV.sl rfl (one_ints [(k : Int)]) el30 ti2 rfl rfl rfl rfl (by omega) (by omega) ?_)
  intro AoN coN w15 oN hg14
  replace hs := hs.grown hg14 (fun g hg => Nat.le_trans Bhs (Own.lt oO hg).1)
  replace hp := hp.grown hg14 (fun g hg => Nat.le_trans Bhs (Own.lt oO hg).1)
  replace X := X.grown hg14 X.size (fun g hg => (Own.lt oO hg).1)
  clear hg14
  refine ops_cons rfl (ow_assign rfl ?_)
  refine ops_nil ?_
  refine bq_n ?_
  refine tq_n ?_
  refine c_region ?_
  refine ops_cons rfl (ow_move rfl ?_)
  refine ops_cons rfl (ow_add rfl rfl (w64 (by omega)) ?_)
  refine ops_cons rfl (ow_assign rfl ?_)
  refine ops_nil ?_
  refine tq_n ⟨(k + 1, n1 + 1, AoN, coN), (.cons rfl (.cons rfl (.cons rfl (.cons rfl (.nil _))))), ?_, ?_⟩
  · exact ⟨(by omega), (by omega), (by rw [dmgP_step, if_pos hbk]; simp [hn1]), (oN.to (by rw [dmgP_step, if_pos hbk, List.flatMap_append]; rfl)), hs, X⟩
  · first | omega | (dsimp only; omega)
  refine f_q rfl (fun wq sq => ow_pick rfl rfl ⟨rfl, Ext.refl _⟩) ?_
  refine f_nil (fun w16 sq => ?_)
  have xq := sq
  replace oO := oO.ext xq
  replace hs := hs.ext xq
  replace hp := hp.ext xq
  replace X := Ext.trans X xq; clear xq sq
  refine ops_nil ?_
  refine c_false rfl ?_
  refine c_skip ?_
  refine bq_n ?_
  refine tq_n ?_
  refine c_region ?_
  have hbk : badK xs k = false := by rw [badK_long (by omega), hd3, decide_eq_true (p := chkB k ((sl33 xs k).take ((sl33 xs k).length - 3)) = [b0, b1, b2]) ((id3_eq hck hr0 hr1 hr2).2 (by omega))]; rfl
  refine ops_cons rfl (ow_move rfl ?_)
  refine ops_cons rfl (ow_add rfl rfl (w64 (by omega)) ?_)
  refine ops_cons rfl (ow_assign rfl ?_)
  refine ops_nil ?_
  refine tq_n ⟨(k + 1, n1, A1, c1), (.cons rfl (.cons rfl (.cons rfl (.cons rfl (.nil _))))), ?_, ?_⟩
  · exact ⟨(by omega), (by omega), (by rw [dmgP_step, if_neg (by rw [hbk]; decide)]; exact hn1), (oO.to (by rw [dmgP_step, if_neg (by rw [hbk]; decide)])), hs, X⟩
  · first | omega | (dsimp only; omega)
  refine ops_cons rfl (ow_move rfl ?_)
  refine ops_want rfl rfl rfl (ow_move rfl ?_)
  refine ops_want rfl rfl rfl (ow_mul rfl rfl (show IntKind.i64.wrap _ = ((33 * k : Nat) : Int) from (w64 (by omega)).trans (by omega)) ?_)
  refine ops_want rfl rfl rfl (ow_move rfl ?_)
  refine ops_want rfl rfl rfl (ow_len Tryz.underlying30 rfl ?_)
  refine ops_want rfl rfl rfl (ow_lss2 rfl rfl (fun hk => ?_) (fun hk => ?_))
  have hkS := (nS_on (n := xs.length) (k := k)).2 (.inr (by omega))
  refine ops_cons rfl (ow_pick rfl rfl ?_)
  refine ops_nil ?_
  refine c_true rfl ?_
  refine c_skip ?_
  refine tq_n ?_
  refine c_seq ?_
  refine c_block ?_
  refine c_seqR ?_
  refine ops_cons rfl (ow_move rfl ?_)
  refine ops_cons rfl (ow_move rfl ?_)
  refine ops_cons rfl (ow_call ent101 rfl (ret_mono (l09Slice_c A B c xs k _ hs (by omega) hc (by omega)) ?_))
  rintro _ wS ⟨pA, pc, rfl, hpc, hp, xS⟩
  replace hs := hs.ext xS
  replace oO := oO.ext xS
  replace X := Ext.trans X xS; clear xS
  have hpl := sl33_len xs k
  refine ops_cons rfl (ow_assign rfl ?_)
  refine ops_nil ?_
  refine c_seqR ?_
  refine ops_cons rfl (ow_move rfl ?_)
  refine ops_cons rfl (ow_len Tryz.underlying30 rfl ?_)
  refine ops_cons rfl (ow_sub rfl rfl (w64 (by omega)) ?_)
  refine ops_cons rfl (ow_assign rfl ?_)
  refine ops_nil ?_
  refine c_seqD [false, false, false, false, false, false, false, false, false, false, false, false, false, false, false, false, false, false, false, false, false, false, false, false, false, false, false, false] mixed (by kernel_rfl) ?_
  refine f_q rfl (fun wq sq => ow_move rfl ⟨rfl, Ext.refl _⟩) ?_
  refine f_qb rfl (fun wq sq => ow_lss rfl rfl ⟨rfl, Ext.refl _⟩) (fun hq => ?_) (fun hq => ?_)
  refine f_q rfl (fun wq sq => ow_move rfl ⟨rfl, Ext.refl _⟩) ?_
  refine f_qs rfl rfl rfl rfl ?_
  refine f_qs rfl rfl rfl rfl ?_
  refine f_qs rfl rfl rfl rfl ?_
  refine f_qs rfl rfl rfl rfl ?_
  refine f_qs rfl rfl rfl rfl ?_
  refine f_qs rfl rfl rfl rfl ?_
  refine f_qs rfl rfl rfl rfl ?_
  refine f_qs rfl rfl rfl rfl ?_
  refine f_qs rfl rfl rfl rfl ?_
  refine f_qs rfl rfl rfl rfl ?_
  refine f_qs rfl rfl rfl rfl ?_
  refine f_qs rfl rfl rfl rfl ?_
  refine f_qs rfl rfl rfl rfl ?_
  refine f_qs rfl rfl rfl rfl ?_
  refine f_qs rfl rfl rfl rfl ?_
  refine f_qs rfl rfl rfl rfl ?_
  refine f_qs rfl rfl rfl rfl ?_
  refine f_qs rfl rfl rfl rfl ?_
  refine f_qs rfl rfl rfl rfl ?_
  refine f_qs rfl rfl rfl rfl ?_
  refine f_qs rfl rfl rfl rfl ?_
  refine f_qs rfl rfl rfl rfl ?_
  refine f_qs rfl rfl rfl rfl ?_
  refine f_qs rfl rfl rfl rfl ?_
  refine f_q rfl (fun wq sq => ow_pick rfl rfl ⟨rfl, Ext.refl _⟩) ?_
  refine f_nil (fun w17 sq => ?_)
  have xq := sq
  replace oO := oO.ext xq
  replace hs := hs.ext xq
  replace hp := hp.ext xq
  replace X := Ext.trans X xq; clear xq sq
  refine ops_nil ?_
  refine c_true rfl ?_
  refine c_region ?_
  have hbk : badK xs k = true := badK_short (by omega)
  refine ops_cons rfl (ow_move rfl ?_)
  refine ops_cons rfl (ow_move rfl ?_)
  refine ops_cons rfl (ow_buildSlice el30 ti2 rfl rfl rfl rfl rfl ?_)
  intro g18 w20 eg18 oV bbg18 x19 zg18
  replace oV := Own.low oV X.size
  replace oO := oO.ext x19
  replace hs := hs.ext x19
  replace hp := hp.ext x19
  replace X := Ext.trans X x19; clear x19
  refine ops_cons rfl (ow_append (ts := #[]) oO X.size oV.sl rfl (one_ints [(k : Int)]) el30 ti2 rfl rfl rfl rfl (by omega) (by omega) ?_)
  intro AoN coN w22 oN hg21
  replace hs := hs.grown hg21 (fun g hg => Nat.le_trans Bhs (Own.lt oO hg).1)
  replace hp := hp.grown hg21 (fun g hg => Nat.le_trans Bhs (Own.lt oO hg).1)
  replace X := X.grown hg21 X.size (fun g hg => (Own.lt oO hg).1)
  clear hg21
  refine ops_cons rfl (ow_assign rfl ?_)
  refine ops_nil ?_
  refine bq_n ?_
  refine tq_n ?_
  refine c_region ?_
  refine ops_cons rfl (ow_move rfl ?_)
  refine ops_cons rfl (ow_add rfl rfl (w64 (by omega)) ?_)
  refine ops_cons rfl (ow_assign rfl ?_)
  refine ops_nil ?_
  refine tq_n ⟨(k + 1, n1 + 1, AoN, coN), (.cons rfl (.cons rfl (.cons rfl (.cons rfl (.nil _))))), ?_, ?_⟩
  · exact ⟨(by omega), (by omega), (by rw [dmgP_step, if_pos hbk]; simp [hn1]), (oN.to (by rw [dmgP_step, if_pos hbk, List.flatMap_append]; rfl)), hs, X⟩
  · first | omega | (dsimp only; omega)
  obtain ⟨b0, hb0, _⟩ := drop_at (xs := (sl33 xs k)) (k := (sl33 xs k).length - 3) (by omega)
  obtain ⟨b1, hb1, _⟩ := drop_at (xs := (sl33 xs k)) (k := (sl33 xs k).length - 2) (by omega)
  obtain ⟨b2, hb2, _⟩ := drop_at (xs := (sl33 xs k)) (k := (sl33 xs k).length - 1) (by omega)
  have hr0 := sl33_b hb k b0 (List.mem_of_getElem? hb0)
  have hr1 := sl33_b hb k b1 (List.mem_of_getElem? hb1)
  have hr2 := sl33_b hb k b2 (List.mem_of_getElem? hb2)
  have hd3 := drop3 (l := (sl33 xs k)) (by omega) hb0 hb1 hb2
  have hck := crcK_in (k := k) ((sl33 xs k).take ((sl33 xs k).length - 3)) (by omega)
  refine f_q rfl (fun wq sq => ow_move rfl ⟨rfl, Ext.refl _⟩) ?_
  refine f_qw rfl rfl rfl (fun wq sq => ow_move rfl ⟨rfl, Ext.refl _⟩) ?_
  refine f_qw rfl rfl rfl (fun wq sq => ow_move rfl ⟨rfl, Ext.refl _⟩) ?_
  refine f_qw rfl rfl rfl (fun wq sq => ow_move rfl ⟨rfl, Ext.refl _⟩) ?_
  refine f_qw rfl rfl rfl (fun wq sq => ow_sliceHO (h := (sl33 xs k).length - 3) el30 rfl rfl (by omega) (by omega) ⟨rfl, Ext.refl _⟩) ?_
  refine f_qw rfl rfl rfl (fun wq sq => ow_call ent158 rfl (l09Check_n k _ _ _ _ ((sl33 xs k).take ((sl33 xs k).length - 3)) _ ((hp.ext sq).takeI _) (by rw [List.length_take]; omega) (by rw [List.length_take, sl33_len]; omega) (take_b (sl33_b hb k) _) (by omega))) ?_
  refine f_qw rfl rfl rfl (fun wq sq => ow_move rfl ⟨rfl, Ext.refl _⟩) ?_
  refine f_qw rfl rfl rfl (fun wq sq => ow_move rfl ⟨rfl, Ext.refl _⟩) ?_
  refine f_qw rfl rfl rfl (fun wq sq => ow_indexT (hp.ext sq) eI_len rfl el30 rfl rfl rfl hb0 (by omega) ⟨rfl, Ext.refl _⟩) ?_
  refine f_qw rfl rfl rfl (fun wq sq => ow_loadT (hp.ext sq) eI_len hb0 ti2 rfl rfl rfl ⟨rfl, Ext.refl _⟩) ?_
  refine f_qw rfl rfl rfl (fun wq sq => ow_mul rfl rfl (w64 (by omega)) ⟨rfl, Ext.refl _⟩) ?_
  refine f_qw rfl rfl rfl (fun wq sq => ow_move rfl ⟨rfl, Ext.refl _⟩) ?_
  refine f_qw rfl rfl rfl (fun wq sq => ow_move rfl ⟨rfl, Ext.refl _⟩) ?_
  refine f_qw rfl rfl rfl (fun wq sq => ow_add rfl rfl (w64 (by omega)) ⟨rfl, Ext.refl _⟩) ?_
  refine f_qw rfl rfl rfl (fun wq sq => ow_indexT (hp.ext sq) eI_len rfl el30 rfl rfl rfl hb1 (by omega) ⟨rfl, Ext.refl _⟩) ?_
  refine f_qw rfl rfl rfl (fun wq sq => ow_loadT (hp.ext sq) eI_len hb1 ti2 rfl rfl rfl ⟨rfl, Ext.refl _⟩) ?_
  refine f_qw rfl rfl rfl (fun wq sq => ow_mul rfl rfl (w64 (by omega)) ⟨rfl, Ext.refl _⟩) ?_
  refine f_qw rfl rfl rfl (fun wq sq => ow_add rfl rfl (w64 (by omega)) ⟨rfl, Ext.refl _⟩) ?_
  refine f_qw rfl rfl rfl (fun wq sq => ow_move rfl ⟨rfl, Ext.refl _⟩) ?_
  refine f_qw rfl rfl rfl (fun wq sq => ow_move rfl ⟨rfl, Ext.refl _⟩) ?_
  refine f_qw rfl rfl rfl (fun wq sq => ow_add rfl rfl (w64 (by omega)) ⟨rfl, Ext.refl _⟩) ?_
  refine f_qw rfl rfl rfl (fun wq sq => ow_indexT (hp.ext sq) eI_len rfl el30 rfl rfl rfl hb2 (by omega) ⟨rfl, Ext.refl _⟩) ?_
  refine f_qw rfl rfl rfl (fun wq sq => ow_loadT (hp.ext sq) eI_len hb2 ti2 rfl rfl rfl ⟨rfl, Ext.refl _⟩) ?_
  refine f_qw rfl rfl rfl (fun wq sq => ow_add rfl rfl (w64 (by omega)) ⟨rfl, Ext.refl _⟩) ?_
  refine f_qwb rfl rfl rfl (fun wq sq => ow_neq rfl rfl ⟨rfl, Ext.refl _⟩) (fun hne => ?_) (fun hne => ?_)
  refine f_q rfl (fun wq sq => ow_pick rfl rfl ⟨rfl, Ext.refl _⟩) ?_
  refine f_nil (fun w23 sq => ?_)
  have xq := sq
  replace oO := oO.ext xq
  replace hs := hs.ext xq
  replace hp := hp.ext xq
  replace X := Ext.trans X xq; clear xq sq
  refine ops_nil ?_
  refine c_true rfl ?_
  refine c_region ?_
  have hbk : badK xs k = true := by rw [badK_long (by omega), hd3, decide_eq_false (p := chkB k ((sl33 xs k).take ((sl33 xs k).length - 3)) = [b0, b1, b2]) (fun e => hne ((id3_eq hck hr0 hr1 hr2).1 e))]; rfl
  refine ops_cons rfl (ow_move rfl ?_)
  refine ops_cons rfl (ow_move rfl ?_)
  refine ops_cons rfl (ow_buildSlice el30 ti2 rfl rfl rfl rfl rfl ?_)
  intro g24 w26 eg24 oV bbg24 x25 zg24
  replace oV := Own.low oV X.size
  replace oO := oO.ext x25
  replace hs := hs.ext x25
  replace hp := hp.ext x25
  replace X := Ext.trans X x25; clear x25
  refine ops_cons rfl (ow_append (ts := #[]) oO X.size oV.sl rfl (one_ints [(k : Int)]) el30 ti2 rfl rfl rfl rfl (by omega) (by omega) ?_)
  intro AoN coN w28 oN hg27
  replace hs := hs.grown hg27 (fun g hg => Nat.le_trans Bhs (Own.lt oO hg).1)
  replace hp := hp.grown hg27 (fun g hg => Nat.le_trans Bhs (Own.lt oO hg).1)
  replace X := X.grown hg27 X.size (fun g hg => (Own.lt oO hg).1)
  clear hg27
  refine ops_cons rfl (ow_assign rfl ?_)
  refine ops_nil ?_
  refine bq_n ?_
  refine tq_n ?_
  refine c_region ?_
  refine ops_cons rfl (ow_move rfl ?_)
  refine ops_cons rfl (ow_add rfl rfl (w64 (by omega)) ?_)
  refine ops_cons rfl (ow_assign rfl ?_)
  refine ops_nil ?_
  refine tq_n ⟨(k + 1, n1 + 1, AoN, coN), (.cons rfl (.cons rfl (.cons rfl (.cons rfl (.nil _))))), ?_, ?_⟩
  · exact ⟨(by omega), (by omega), (by rw [dmgP_step, if_pos hbk]; simp [hn1]), (oN.to (by rw [dmgP_step, if_pos hbk, List.flatMap_append]; rfl)), hs, X⟩
  · first | omega | (dsimp only; omega)
  refine f_q rfl (fun wq sq => ow_pick rfl rfl ⟨rfl, Ext.refl _⟩) ?_
  refine f_nil (fun w29 sq => ?_)
  have xq := sq
  replace oO := oO.ext xq
  replace hs := hs.ext xq
  replace hp := hp.ext xq
  replace X := Ext.trans X xq; clear xq sq
  refine ops_nil ?_
  refine c_false rfl ?_
  refine c_skip ?_
  refine bq_n ?_
  refine tq_n ?_
  refine c_region ?_
  have hbk : badK xs k = false := by rw [badK_long (by omega), hd3, decide_eq_true (p := chkB k ((sl33 xs k).take ((sl33 xs k).length - 3)) = [b0, b1, b2]) ((id3_eq hck hr0 hr1 hr2).2 (by omega))]; rfl
  refine ops_cons rfl (ow_move rfl ?_)
  refine ops_cons rfl (ow_add rfl rfl (w64 (by omega)) ?_)
  refine ops_cons rfl (ow_assign rfl ?_)
  refine ops_nil ?_
  refine tq_n ⟨(k + 1, n1, A1, c1), (.cons rfl (.cons rfl (.cons rfl (.cons rfl (.nil _))))), ?_, ?_⟩
  · exact ⟨(by omega), (by omega), (by rw [dmgP_step, if_neg (by rw [hbk]; decide)]; exact hn1), (oO.to (by rw [dmgP_step, if_neg (by rw [hbk]; decide)])), hs, X⟩
  · first | omega | (dsimp only; omega)
  have hkN : ¬ k < nS xs.length := fun h => by have := (nS_on (n := xs.length)).1 h; omega
  refine ops_cons rfl (ow_pick rfl rfl ?_)
  refine ops_nil ?_
  refine c_false rfl ?_
  refine c_exit ?_
  refine tq_e ?_
  refine tq_e ?_
  refine bq_e ?_
  refine tq_n ?_
  refine c_seqR ?_
  refine ops_cons rfl (ow_move rfl ?_)
  refine ops_cons rfl (ow_assign rfl ?_)
  refine ops_nil ?_
  refine c_ret ?_
  refine fin_ret1 rfl rfl ?_
  · skip
    have hkE : k = nS xs.length := by omega
    rw [hkE] at oO hn1
    unfold dmg
    rw [← hn1]; exact ⟨A1, c1, rfl, oO, X⟩
end Go.Proofs.YtdoibplhbdkapaaGreatDoor
