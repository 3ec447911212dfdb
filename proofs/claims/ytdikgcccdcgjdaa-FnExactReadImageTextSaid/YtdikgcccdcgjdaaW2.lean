/- What the text of an image is. No condition. -/
import Derived.Test.YtdikgcccdcgjdaaW1
namespace Go.Proofs.Ytdikgcccdcgjdaa
open Go.RowKit
set_option linter.unusedVariables false
set_option linter.unusedSimpArgs false
def hexD : ByteArray := ⟨#[48, 49, 50, 51, 52, 53, 54, 55, 56, 57, 97, 98, 99, 100, 101, 102]⟩
def hxd (m : Int) : UInt8 := hexD.data.toList.getD m.toNat 0
def hex2 (x : Int) : List UInt8 := [hxd (x / 16), hxd (x % 16)]
def hexB (xs : List Int) : List UInt8 := xs.flatMap hex2
theorem hexB_take {xs : List Int} {k : Nat} {x : Int} (h : xs[k]? = some x) : (hexB (xs.take (k + 1))).flatMap eB = (hexB (xs.take k)).flatMap eB ++ (eB (hxd (x / 16)) ++ eB (hxd (x % 16))) := by
  simp only [hexB]
  rw [List.take_add_one, h]
  simp [List.flatMap_append, hex2]
theorem hexB_len (xs : List Int) : (hexB xs).length = 2 * xs.length := by
  induction xs with
  | nil => rfl
  | cons x xs ih => simp only [hexB, List.flatMap_cons, List.length_append] at *; rw [ih]; simp [hex2]; omega
theorem sImageT_c (A : Option Addr) (B c : Nat) (xs : List Int) (w : World) (hs : Sl B w A (xs.flatMap eI)) (hl : xs.length ≤ 1048576) :
    Calls Try.prog 12 #[.slice A xs.length c] w (Ret fun v w' => v = .string (if isB xs = true then strOf (hexB xs) else ByteArray.empty) ∧ Ext w w') := by
  have Bhs := hs.1
  have X := Ext.refl w
  refine calls_of (args := [.slice A xs.length c]) Try.func12 Try.ntmps12 rfl rfl ?_
  refine c_seqR ?_
  refine ops_cons rfl (ow_assign rfl ?_)
  refine ops_nil ?_
  refine c_seq ?_
  refine c_seqR ?_
  refine ops_cons rfl (ow_move rfl ?_)
  refine ops_cons rfl (ow_callB ent30 rfl (sIsBytes_c _ _ _ _ _ hs hl) (fun w2 hB x1 => ?_) (fun w2 hB x1 => ?_))
  · skip
    replace hs := hs.ext x1
    replace X := Ext.trans X x1; clear x1
    refine ops_cons rfl (ow_not rfl ?_)
    refine ops_nil ?_
    refine c_false rfl ?_
    refine c_skip ?_
    refine tq_n ?_
    refine c_seqR ?_
    refine ops_cons rfl (ow_buildSlice el50 ti5 rfl rfl rfl rfl rfl ?_)
    intro gO w4 egO oO bbgO x3 zgO
    replace oO := Own.low oO X.size
    replace hs := hs.ext x3
    replace X := Ext.trans X x3; clear x3
    refine ops_cons rfl (ow_assign rfl ?_)
    refine ops_nil ?_
    refine c_seq ?_
    refine c_seqR ?_
    refine ops_cons rfl (ow_assign rfl ?_)
    refine ops_nil ?_
    refine c_block ?_
    refine c_loop (G := Nat × Nat × Option Addr × Nat) (fun ⟨k, n, A1, c1⟩ => [(0, .slice A xs.length c), (3, .slice A1 n c1), (4, .int .i64 (k : Nat))]) (fun ⟨k, n, A1, c1⟩ wr => k ≤ xs.length ∧ n = 2 * k ∧ Sl B wr A (xs.flatMap eI) ∧ Own wr w.heap.size 5 1 A1 n c1 ((hexB (xs.take k)).flatMap eB) ∧ Ext w wr) (fun ⟨k, n, A1, c1⟩ => xs.length - k) (0, 0, some ⟨gO, 0, none⟩, 0) (.cons rfl (.cons rfl (.cons rfl (.nil _)))) ?_ ?_
    · exact ⟨by omega, rfl, hs, oO, X⟩
    clear hs oO
    clear X
    rintro ⟨k, n, A1, c1⟩ wr ⟨hk0, hn, hs, oO, X⟩
    refine c_seq ?_
    refine c_seqR ?_
    refine ops_cons rfl (ow_move rfl ?_)
    refine ops_cons rfl (ow_move rfl ?_)
    refine ops_cons rfl (ow_len Try.underlying32 rfl ?_)
    refine ops_cons rfl (ow_lss2 rfl rfl (fun hk => ?_) (fun hk => ?_))
    · skip
      obtain ⟨x, hx, dx⟩ := drop_at' hk
      have bx := isB_at hB hx
      have b1 : 0 ≤ x / 16 ∧ x / 16 < 16 := by omega
      have b2 : 0 ≤ x % 16 ∧ x % 16 < 16 := by omega
      have hL := isB_len hB
      refine ops_nil ?_
      refine c_true rfl ?_
      refine c_skip ?_
      refine tq_n ?_
      refine c_seq ?_
      refine c_block ?_
      refine c_draw [false, false, false, false, false, false, false, false, false, false, false, false, false, true] mixed (by kernel_rfl) ?_
      refine f_q rfl (fun wq sq => ow_move rfl ⟨rfl, Ext.refl _⟩) ?_
      refine f_q rfl (fun wq sq => ow_move rfl ⟨rfl, Ext.refl _⟩) ?_
      refine f_q rfl (fun wq sq => ow_move rfl ⟨rfl, Ext.refl _⟩) ?_
      refine f_q rfl (fun wq sq => ow_indexT (hs.ext sq) eI_len rfl el32 rfl rfl rfl hx rfl ⟨rfl, Ext.refl _⟩) ?_
      refine f_q rfl (fun wq sq => ow_loadT (hs.ext sq) eI_len hx ti2 rfl rfl rfl ⟨rfl, Ext.refl _⟩) ?_
      refine f_q rfl (fun wq sq => ow_quo rfl rfl (by omega) (q64 (by omega)) ⟨rfl, Ext.refl _⟩) ?_
      refine f_q rfl (fun wq sq => ow_indexS Try.underlying9 rfl rfl b1.1 (show _ < (16 : Int) from b1.2) ⟨rfl, Ext.refl _⟩) ?_
      refine f_q rfl (fun wq sq => ow_move rfl ⟨rfl, Ext.refl _⟩) ?_
      refine f_q rfl (fun wq sq => ow_move rfl ⟨rfl, Ext.refl _⟩) ?_
      refine f_q rfl (fun wq sq => ow_indexT (hs.ext sq) eI_len rfl el32 rfl rfl rfl hx rfl ⟨rfl, Ext.refl _⟩) ?_
      refine f_q rfl (fun wq sq => ow_loadT (hs.ext sq) eI_len hx ti2 rfl rfl rfl ⟨rfl, Ext.refl _⟩) ?_
      refine f_q rfl (fun wq sq => ow_rem rfl rfl (by omega) (m64 (by omega)) ⟨rfl, Ext.refl _⟩) ?_
      refine f_q rfl (fun wq sq => ow_indexS Try.underlying9 rfl rfl b2.1 (show _ < (16 : Int) from b2.2) ⟨rfl, Ext.refl _⟩) ?_
      refine f_op (fun gS : Nat => Value.slice (some ⟨gS, 0, none⟩) 2 2) (fun gS wz => Own wz w.heap.size 5 1 (some ⟨gS, 0, none⟩) 2 2 (eB (hxd (x / 16)) ++ eB (hxd (x % 16)))) 0 rfl ⟨inj_own, fun _ _ _ h k => h.ext k, fun wq sq => ow_buildSlice el50 ti5 rfl rfl rfl rfl rfl (fun g w' hg ho hb hx hz => ⟨g, rfl, Own.low ho (Nat.le_trans X.size (sq).size), hx⟩)⟩ ?_
      intro gS
      refine f_nil (fun w5 sq => ?_)
      have xq := sq.1
      have oS := sq.2
      replace hs := hs.ext xq
      replace oO := oO.ext xq
      replace X := Ext.trans X xq; clear xq sq
      refine ops_cons rfl (ow_append (ts := #[]) oO X.size oS.sl (by first | rfl | simp) (by first | exact List.all_eq_true.1 rfl | simp [Value.oneCell']) el50 ti5 rfl rfl rfl rfl (by omega) (by omega) ?_)
      intro AoN coN w7 oN hg6
      replace hs := hs.grown hg6 (fun g hg => Nat.le_trans Bhs (Own.lt oO hg).1)
      replace X := X.grown hg6 X.size (fun g hg => (Own.lt oO hg).1)
      clear hg6
      refine ops_cons rfl (ow_assign rfl ?_)
      refine ops_nil ?_
      refine bq_n ?_
      refine tq_n ?_
      refine c_region ?_
      refine ops_cons rfl (ow_move rfl ?_)
      refine ops_cons rfl (ow_add rfl rfl (w64 (by omega)) ?_)
      refine ops_cons rfl (ow_assign rfl ?_)
      refine ops_nil ?_
      refine tq_n ⟨(k + 1, n + 2, AoN, coN), (.cons rfl (.cons rfl (.cons rfl (.nil _)))), ?_, ?_⟩
      · exact ⟨by omega, by omega, hs, oN.to (hexB_take hx).symm, X⟩
      · dsimp only; omega
    · skip
      refine ops_nil ?_
      refine c_false rfl ?_
      refine c_exit ?_
      refine tq_e ?_
      refine tq_e ?_
      refine bq_e ?_
      refine tq_n ?_
      refine c_seqR ?_
      refine ops_cons rfl (ow_move rfl ?_)
      refine ops_cons rfl (ow_convBS Try.underlying50 Try.underlying5 Try.underlying9 (oO).sl rfl (by rw [hexB_len, List.length_take]; omega) ?_)
      refine ops_cons rfl (ow_assign rfl ?_)
      refine ops_nil ?_
      refine c_ret ?_
      refine fin_ret1 rfl rfl ?_
      refine ⟨?_, X⟩
      first | (rw [hB]; rfl) | (rw [hB, List.take_of_length_le (by omega)]; rfl)
  · skip
    replace hs := hs.ext x1
    replace X := Ext.trans X x1; clear x1
    refine ops_cons rfl (ow_not rfl ?_)
    refine ops_nil ?_
    refine c_true rfl ?_
    refine c_seqR ?_
    refine ops_cons rfl (ow_assign rfl ?_)
    refine ops_nil ?_
    refine c_ret ?_
    refine tq_r ?_
    refine fin_ret1 rfl rfl ?_
    refine ⟨?_, X⟩
    first | (rw [hB]; rfl) | (rw [hB, List.take_of_length_le (by omega)]; rfl)

theorem iImageT_c (A : Option Addr) (B c : Nat) (xs : List Int) (w : World) (hs : Sl B w A (xs.flatMap eI)) (hl : xs.length ≤ 1048576) :
    Calls Try.prog 14 #[.slice A xs.length c] w (Ret fun v w' => v = .string (if isB xs = true then strOf (hexB xs) else ByteArray.empty) ∧ Ext w w') := by
  have Bhs := hs.1
  have X := Ext.refl w
  refine calls_of (args := [.slice A xs.length c]) Try.func14 Try.ntmps14 rfl rfl ?_
  refine c_seqR ?_
  refine ops_cons rfl (ow_assign rfl ?_)
  refine ops_nil ?_
  refine c_seq ?_
  refine c_seqR ?_
  refine ops_cons rfl (ow_move rfl ?_)
  refine ops_cons rfl (ow_callB ent34 rfl (iIsBytes_c _ _ _ _ _ hs hl) (fun w2 hB x1 => ?_) (fun w2 hB x1 => ?_))
  · skip
    replace hs := hs.ext x1
    replace X := Ext.trans X x1; clear x1
    refine ops_cons rfl (ow_not rfl ?_)
    refine ops_nil ?_
    refine c_false rfl ?_
    refine c_skip ?_
    refine tq_n ?_
    refine c_seqR ?_
    refine ops_cons rfl (ow_buildSlice el50 ti5 rfl rfl rfl rfl rfl ?_)
    intro gO w4 egO oO bbgO x3 zgO
    replace oO := Own.low oO X.size
    replace hs := hs.ext x3
    replace X := Ext.trans X x3; clear x3
    refine ops_cons rfl (ow_assign rfl ?_)
    refine ops_nil ?_
    refine c_seq ?_
    refine c_seqR ?_
    refine ops_cons rfl (ow_move rfl ?_)
    refine ops_cons rfl (ow_len Try.underlying32 rfl ?_)
    refine ops_cons rfl (ow_move rfl ?_)
    refine ops_nil ?_
    refine c_block ?_
    refine c_loop (G := Nat × Nat × Option Addr × Nat) (fun ⟨k, n, A1, c1⟩ => [(10, .slice A xs.length c), (11, .int .i64 (xs.length : Nat)), (3, .slice A1 n c1), (12, .int .i64 (k : Nat))]) (fun ⟨k, n, A1, c1⟩ wr => k ≤ xs.length ∧ n = 2 * k ∧ Sl B wr A (xs.flatMap eI) ∧ Own wr w.heap.size 5 1 A1 n c1 ((hexB (xs.take k)).flatMap eB) ∧ Ext w wr) (fun ⟨k, n, A1, c1⟩ => xs.length - k) (0, 0, some ⟨gO, 0, none⟩, 0) (.cons rfl (.cons rfl (.cons rfl (.cons rfl (.nil _))))) ?_ ?_
    · exact ⟨by omega, rfl, hs, oO, X⟩
    clear hs oO
    clear X
    rintro ⟨k, n, A1, c1⟩ wr ⟨hk0, hn, hs, oO, X⟩
    refine c_seqR ?_
    refine ops_cons rfl (ow_lss2 rfl rfl (fun hk => ?_) (fun hk => ?_))
    · skip
      obtain ⟨x, hx, dx⟩ := drop_at' hk
      have bx := isB_at hB hx
      have b1 : 0 ≤ x / 16 ∧ x / 16 < 16 := by omega
      have b2 : 0 ≤ x % 16 ∧ x % 16 < 16 := by omega
      have hL := isB_len hB
      refine ops_nil ?_
      refine c_seq ?_
      refine c_true rfl ?_
      refine c_skip ?_
      refine tq_n ?_
      refine c_seq ?_
      refine c_block ?_
      refine c_seqR ?_
      refine ops_cons rfl (ow_indexT hs eI_len rfl el32 rfl rfl rfl hx rfl ?_)
      refine ops_cons rfl (ow_loadT hs eI_len hx ti2 rfl rfl rfl ?_)
      refine ops_cons rfl (ow_assign rfl ?_)
      refine ops_nil ?_
      refine c_draw [false, false, false, false, false, false, false, true] mixed (by kernel_rfl) ?_
      refine f_q rfl (fun wq sq => ow_move rfl ⟨rfl, Ext.refl _⟩) ?_
      refine f_q rfl (fun wq sq => ow_move rfl ⟨rfl, Ext.refl _⟩) ?_
      refine f_q rfl (fun wq sq => ow_quo rfl rfl (by omega) (q64 (by omega)) ⟨rfl, Ext.refl _⟩) ?_
      refine f_q rfl (fun wq sq => ow_indexS Try.underlying9 rfl rfl b1.1 (show _ < (16 : Int) from b1.2) ⟨rfl, Ext.refl _⟩) ?_
      refine f_q rfl (fun wq sq => ow_move rfl ⟨rfl, Ext.refl _⟩) ?_
      refine f_q rfl (fun wq sq => ow_rem rfl rfl (by omega) (m64 (by omega)) ⟨rfl, Ext.refl _⟩) ?_
      refine f_q rfl (fun wq sq => ow_indexS Try.underlying9 rfl rfl b2.1 (show _ < (16 : Int) from b2.2) ⟨rfl, Ext.refl _⟩) ?_
      refine f_op (fun gS : Nat => Value.slice (some ⟨gS, 0, none⟩) 2 2) (fun gS wz => Own wz w.heap.size 5 1 (some ⟨gS, 0, none⟩) 2 2 (eB (hxd (x / 16)) ++ eB (hxd (x % 16)))) 0 rfl ⟨inj_own, fun _ _ _ h k => h.ext k, fun wq sq => ow_buildSlice el50 ti5 rfl rfl rfl rfl rfl (fun g w' hg ho hb hx hz => ⟨g, rfl, Own.low ho (Nat.le_trans X.size (sq).size), hx⟩)⟩ ?_
      intro gS
      refine f_nil (fun w5 sq => ?_)
      have xq := sq.1
      have oS := sq.2
      replace hs := hs.ext xq
      replace oO := oO.ext xq
      replace X := Ext.trans X xq; clear xq sq
      refine ops_cons rfl (ow_append (ts := #[]) oO X.size oS.sl (by first | rfl | simp) (by first | exact List.all_eq_true.1 rfl | simp [Value.oneCell']) el50 ti5 rfl rfl rfl rfl (by omega) (by omega) ?_)
      intro AoN coN w7 oN hg6
      replace hs := hs.grown hg6 (fun g hg => Nat.le_trans Bhs (Own.lt oO hg).1)
      replace X := X.grown hg6 X.size (fun g hg => (Own.lt oO hg).1)
      clear hg6
      refine ops_cons rfl (ow_assign rfl ?_)
      refine ops_nil ?_
      refine bq_n ?_
      refine tq_n ?_
      refine c_region ?_
      refine ops_cons rfl (ow_add rfl rfl (w64 (by omega)) ?_)
      refine ops_cons rfl (ow_move rfl ?_)
      refine ops_nil ?_
      refine tq_n ⟨(k + 1, n + 2, AoN, coN), (.cons rfl (.cons rfl (.cons rfl (.cons rfl (.nil _))))), ?_, ?_⟩
      · exact ⟨by omega, by omega, hs, oN.to (hexB_take hx).symm, X⟩
      · dsimp only; omega
    · skip
      refine ops_nil ?_
      refine c_seq ?_
      refine c_false rfl ?_
      refine c_exit ?_
      refine tq_e ?_
      refine tq_e ?_
      refine bq_e ?_
      refine tq_n ?_
      refine c_seqR ?_
      refine ops_cons rfl (ow_move rfl ?_)
      refine ops_cons rfl (ow_convBS Try.underlying50 Try.underlying5 Try.underlying9 (oO).sl rfl (by rw [hexB_len, List.length_take]; omega) ?_)
      refine ops_cons rfl (ow_assign rfl ?_)
      refine ops_nil ?_
      refine c_ret ?_
      refine fin_ret1 rfl rfl ?_
      refine ⟨?_, X⟩
      first | (rw [hB]; rfl) | (rw [hB, List.take_of_length_le (by omega)]; rfl)
  · skip
    replace hs := hs.ext x1
    replace X := Ext.trans X x1; clear x1
    refine ops_cons rfl (ow_not rfl ?_)
    refine ops_nil ?_
    refine c_true rfl ?_
    refine c_seqR ?_
    refine ops_cons rfl (ow_assign rfl ?_)
    refine ops_nil ?_
    refine c_ret ?_
    refine tq_r ?_
    refine fin_ret1 rfl rfl ?_
    refine ⟨?_, X⟩
    first | (rw [hB]; rfl) | (rw [hB, List.take_of_length_le (by omega)]; rfl)
end Go.Proofs.Ytdikgcccdcgjdaa
