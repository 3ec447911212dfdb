/- Texts of the seat that a law needs, put together. No condition. -/
import Derived.Test.YtdoibplhbdkapaaGreatDoorDMP8
import Derived.Test.YtdoibplhbdkapaaGreatDoorDMP3
import Derived.Test.YtdoibplhbdkapaaGreatDoorDMP6
import Derived.RangeFuncFrom
import Derived.RangeFuncBox
import Derived.RangeFuncLeaves
import Derived.RangeFuncCalls
import Derived.TacticsIn
import Derived.RangeFuncBound
import Derived.Test.YtdoibplhbdkapaaGreatDoorDMP7
namespace Go.Proofs.YtdoibplhbdkapaaGreatDoor
open Go.RowKit
set_option linter.unusedVariables false
set_option linter.unusedSimpArgs false
set_option maxRecDepth 20000
theorem shl1 {z : Int} (h : 0 ≤ z ∧ z ≤ 1099511627776) : IntKind.i64.wrap (z * 2 ^ (min ((1 : Int).toNat) IntKind.i64.bits)) = z * 2 := by
  rw [show (2 : Int) ^ (min ((1 : Int).toNat) IntKind.i64.bits) = 2 from rfl]; exact w64 (by omega)
theorem shr_z {x z : Int} {j : Nat} (e : z = (j : Int)) (h : 0 ≤ x) (hj : j ≤ 63) : x.fdiv (2 ^ (min z.toNat IntKind.i64.bits)) = x / 2 ^ j := by subst e; exact shr_pow h hj
theorem wuz {n : Int} (h : 0 ≤ n ∧ n ≤ 9223372036854775807) : IntKind.u64.wrap n = n := by
  have h1 : n % 18446744073709551616 = n := by omega
  simp [IntKind.wrap, IntKind.bits, IntKind.signed, h1]
theorem u8v {xs : List Int} (hb : ∀ x ∈ xs, 0 ≤ x ∧ x ≤ 255) {k : Nat} {x : Int} (h : xs[k]? = some x) : 0 ≤ x ∧ x ≤ 255 := hb x (List.mem_of_getElem? h)
theorem crc_eq {r x : Int} (h : 0 ≤ r ∧ r < 16777216) : crcS r x = if (x + r / 8388608) % 2 = 1 then xorC (r * 2 % 16777216) else r * 2 % 16777216 := by
  unfold crcS
  rw [show r * 2 % 16777216 = r % 8388608 * 2 by omega, Int.add_comm]
theorem Sl.takeI {B : Nat} {w : World} {A : Option Addr} {xs : List Int} (h : Sl B w A (xs.flatMap eI)) (k : Nat) : Sl B w A ((xs.take k).flatMap eI) := by
  have e := flat_take (enc := eI) eI_len xs k
  rw [Nat.mul_one] at e
  rw [← e]
  exact ⟨h.1, fun j v hj => by
    rw [List.getElem?_take] at hj
    split at hj
    · exact h.2 j v hj
    · cases hj⟩
theorem add_add_ (a : Addr) (i j : Nat) : (a.add i).add j = a.add (i + j) := by
  unfold Addr.add
  by_cases hi : i = 0 <;> by_cases hj : j = 0 <;> simp [hi, hj, Nat.add_assoc]
theorem Sl.dropI {B : Nat} {w : World} {A : Option Addr} {xs : List Int} (h : Sl B w A (xs.flatMap eI)) (k : Nat) : Sl B w (A.map (·.add k)) ((xs.drop k).flatMap eI) := by
  have e := flat_drop (enc := eI) eI_len xs k
  rw [Nat.mul_one] at e
  rw [← e]
  refine ⟨h.1, fun j v hj => ?_⟩
  rw [List.getElem?_drop] at hj
  obtain ⟨h1, h2, h3⟩ := h.2 _ v hj
  cases A with
  | none => cases h1
  | some a =>
    refine ⟨rfl, ?_, ?_⟩
    · show (a.add k).block < B
      rw [block_of_add]; exact h2
    · show w.cell? ((a.add k).add j) = some v
      rw [add_add_]; exact h3
theorem Sl.dropX {B c : Nat} {w : World} {A : Option Addr} {xs : List Int} (h : Sl B w A (xs.flatMap eI)) (k : Nat) (hc : xs.length ≤ c) : Sl B w (if c = k then A else A.map (·.add (k * 1))) ((xs.drop k).flatMap eI) := by
  split
  · rename_i hk
    rw [List.drop_of_length_le (by omega)]
    exact ⟨h.1, fun j v hj => by simp at hj⟩
  · rw [Nat.mul_one]; exact h.dropI k
theorem equalI_c (A : Option Addr) (B c : Nat) (xs : List Int) (A2 : Option Addr) (B2 c2 : Nat) (ys : List Int) (w : World) (hs : Sl B w A (xs.flatMap eI)) (h2 : Sl B2 w A2 (ys.flatMap eI)) (hl : xs.length ≤ 1048576) :
    Calls Tryz.prog 168 #[.slice A xs.length c, .slice A2 ys.length c2] w (Ret fun v w' => v = .bool (decide (xs = ys)) ∧ Ext w w') := by
  have Bhs := hs.1
  have Bh2 := h2.1
  have X := Ext.refl w
  refine calls_of (args := [.slice A xs.length c, .slice A2 ys.length c2]) Tryz.func168 Tryz.ntmps168 rfl rfl ?_
  refine c_seqR ?_
  refine ops_cons rfl (ow_assign rfl ?_)
  refine ops_nil ?_
  refine c_seq ?_
  refine c_seqR ?_
  refine ops_cons rfl (ow_move rfl ?_)
  refine ops_cons rfl (ow_len Tryz.underlying30 rfl ?_)
  refine ops_cons rfl (ow_move rfl ?_)
  refine ops_cons rfl (ow_len Tryz.underlying30 rfl ?_)
  refine ops_cons rfl (ow_neq2 rfl rfl (fun hlen => ?_) (fun hlen => ?_))
  refine ops_nil ?_
  refine c_true rfl ?_
  refine c_seqR ?_
  refine ops_cons rfl (ow_assign rfl ?_)
  refine ops_nil ?_
  refine c_ret ?_
  refine tq_r ?_
  refine fin_ret1 rfl rfl ?_
  · skip
    refine ⟨congrArg Value.bool ?_, X⟩
    exact (decide_eq_false (fun e => hlen (by rw [e]))).symm
  refine ops_nil ?_
  refine c_false rfl ?_
  refine c_skip ?_
  refine tq_n ?_
  refine c_seq ?_
  refine c_seqR ?_
  refine ops_cons rfl (ow_move rfl ?_)
  refine ops_cons rfl (ow_len Tryz.underlying30 rfl ?_)
  refine ops_cons rfl (ow_move rfl ?_)
  refine ops_nil ?_
  refine c_block ?_
  refine c_loop (G := Nat) (fun k => [(0, .slice A xs.length c), (1, .slice A2 ys.length c2), (12, .int .i64 (xs.length : Nat)), (13, .int .i64 (k : Nat))]) (fun k wr => k ≤ xs.length ∧ xs.take k = ys.take k ∧ Sl B wr A (xs.flatMap eI) ∧ Sl B2 wr A2 (ys.flatMap eI) ∧ Ext w wr) (fun k => xs.length - k) 0 (.cons rfl (.cons rfl (.cons rfl (.cons rfl (.nil _))))) ?_ ?_
  · exact ⟨by omega, rfl, hs, h2, X⟩
  clear hs h2
  clear X
  rintro k wr ⟨hk0, hi, hs, h2, X⟩
  refine c_seqR ?_
  refine ops_cons rfl (ow_lss2 rfl rfl (fun hk => ?_) (fun hk => ?_))
  obtain ⟨x, hx, dx⟩ := drop_at' hk
  obtain ⟨y, hy, dy⟩ := drop_at (xs := ys) (k := k) (by omega)
  refine ops_nil ?_
  refine c_seq ?_
  refine c_true rfl ?_
  refine c_skip ?_
  refine tq_n ?_
  refine c_seq ?_
  refine c_block ?_
  refine c_seqR ?_
  refine ops_cons rfl (ow_move rfl ?_)
  refine ops_cons rfl (ow_assign rfl ?_)
  refine ops_nil ?_
  refine c_seqD [false, false, false, false, false, false, false, false, false] mixed (by kernel_rfl) ?_
  refine f_q rfl (fun wq sq => ow_move rfl ⟨rfl, Ext.refl _⟩) ?_
  refine f_q rfl (fun wq sq => ow_move rfl ⟨rfl, Ext.refl _⟩) ?_
  refine f_q rfl (fun wq sq => ow_indexT (hs.ext sq) eI_len rfl el30 rfl rfl rfl hx rfl ⟨rfl, Ext.refl _⟩) ?_
  refine f_q rfl (fun wq sq => ow_loadT (hs.ext sq) eI_len hx ti2 rfl rfl rfl ⟨rfl, Ext.refl _⟩) ?_
  refine f_q rfl (fun wq sq => ow_move rfl ⟨rfl, Ext.refl _⟩) ?_
  refine f_q rfl (fun wq sq => ow_move rfl ⟨rfl, Ext.refl _⟩) ?_
  refine f_q rfl (fun wq sq => ow_indexT (h2.ext sq) eI_len rfl el30 rfl rfl rfl hy rfl ⟨rfl, Ext.refl _⟩) ?_
  refine f_q rfl (fun wq sq => ow_loadT (h2.ext sq) eI_len hy ti2 rfl rfl rfl ⟨rfl, Ext.refl _⟩) ?_
  refine f_qb rfl (fun wq sq => ow_neq rfl rfl ⟨rfl, Ext.refl _⟩) (fun hxy => ?_) (fun hxy => ?_)
  refine f_nil (fun w1 sq => ?_)
  have xq := sq
  replace hs := hs.ext xq
  replace h2 := h2.ext xq
  replace X := Ext.trans X xq; clear xq sq
  refine ops_nil ?_
  refine c_true rfl ?_
  refine c_seqR ?_
  refine ops_cons rfl (ow_assign rfl ?_)
  refine ops_nil ?_
  refine c_ret ?_
  refine bq_r ?_
  refine tq_r ?_
  refine tq_r ?_
  refine bq_r ?_
  refine tq_r ?_
  refine fin_ret1 rfl rfl ?_
  · skip
    refine ⟨congrArg Value.bool ?_, X⟩
    refine (decide_eq_false (fun e => ?_)).symm
    rw [e, hy] at hx; injection hx with hx; omega
  refine f_nil (fun w2 sq => ?_)
  have xq := sq
  replace hs := hs.ext xq
  replace h2 := h2.ext xq
  replace X := Ext.trans X xq; clear xq sq
  refine ops_nil ?_
  refine c_false rfl ?_
  refine c_skip ?_
  refine bq_n ?_
  refine tq_n ?_
  refine c_region ?_
  refine ops_cons rfl (ow_add rfl rfl (w64 (by omega)) ?_)
  refine ops_cons rfl (ow_move rfl ?_)
  refine ops_nil ?_
  refine tq_n ⟨k + 1, (.cons rfl (.cons rfl (.cons rfl (.cons rfl (.nil _))))), ?_, ?_⟩
  · exact ⟨by omega, (by rw [List.take_add_one, List.take_add_one, hi, hx, hy, show x = y by omega]), hs, h2, X⟩
  · first | omega | (dsimp only; omega)
  refine ops_nil ?_
  refine c_seq ?_
  refine c_false rfl ?_
  refine c_exit ?_
  refine tq_e ?_
  refine tq_e ?_
  refine bq_e ?_
  refine tq_n ?_
  refine c_seqR ?_
  refine ops_cons rfl (ow_assign rfl ?_)
  refine ops_nil ?_
  refine c_ret ?_
  refine fin_ret1 rfl rfl ?_
  · skip
    refine ⟨congrArg Value.bool ?_, X⟩
    refine (decide_eq_true ?_).symm
    have e1 : xs.take xs.length = ys.take xs.length := by have h := hi; rwa [show k = xs.length by omega] at h
    rw [List.take_length, List.take_of_length_le (by omega)] at e1; exact e1

theorem sameI_c (A : Option Addr) (B c : Nat) (xs : List Int) (A2 : Option Addr) (B2 c2 : Nat) (ys : List Int) (w : World) (hs : Sl B w A (xs.flatMap eI)) (h2 : Sl B2 w A2 (ys.flatMap eI)) (hl : xs.length ≤ 1048576) :
    Calls Tryz.prog 240 #[.slice A xs.length c, .slice A2 ys.length c2] w (Ret fun v w' => v = .bool (decide (xs = ys)) ∧ Ext w w') := by
  have Bhs := hs.1
  have Bh2 := h2.1
  have X := Ext.refl w
  refine calls_of (args := [.slice A xs.length c, .slice A2 ys.length c2]) Tryz.func240 Tryz.ntmps240 rfl rfl ?_
  refine c_seqR ?_
  refine ops_cons rfl (ow_assign rfl ?_)
  refine ops_nil ?_
  refine c_seq ?_
  refine c_seqR ?_
  refine ops_cons rfl (ow_move rfl ?_)
  refine ops_cons rfl (ow_len Tryz.underlying30 rfl ?_)
  refine ops_cons rfl (ow_move rfl ?_)
  refine ops_cons rfl (ow_len Tryz.underlying30 rfl ?_)
  refine ops_cons rfl (ow_neq2 rfl rfl (fun hlen => ?_) (fun hlen => ?_))
  refine ops_nil ?_
  refine c_true rfl ?_
  refine c_seqR ?_
  refine ops_cons rfl (ow_assign rfl ?_)
  refine ops_nil ?_
  refine c_ret ?_
  refine tq_r ?_
  refine fin_ret1 rfl rfl ?_
  · skip
    refine ⟨congrArg Value.bool ?_, X⟩
    exact (decide_eq_false (fun e => hlen (by rw [e]))).symm
  refine ops_nil ?_
  refine c_false rfl ?_
  refine c_skip ?_
  refine tq_n ?_
  refine c_seq ?_
  refine c_seqR ?_
  refine ops_cons rfl (ow_assign rfl ?_)
  refine ops_nil ?_
  refine c_block ?_
  refine c_loop (G := Nat) (fun k => [(0, .slice A xs.length c), (1, .slice A2 ys.length c2), (5, .int .i64 (k : Nat))]) (fun k wr => k ≤ xs.length ∧ xs.take k = ys.take k ∧ Sl B wr A (xs.flatMap eI) ∧ Sl B2 wr A2 (ys.flatMap eI) ∧ Ext w wr) (fun k => xs.length - k) 0 (.cons rfl (.cons rfl (.cons rfl (.nil _)))) ?_ ?_
  · exact ⟨by omega, rfl, hs, h2, X⟩
  clear hs h2
  clear X
  rintro k wr ⟨hk0, hi, hs, h2, X⟩
  refine c_seq ?_
  refine c_seqR ?_
  refine ops_cons rfl (ow_move rfl ?_)
  refine ops_cons rfl (ow_move rfl ?_)
  refine ops_cons rfl (ow_len Tryz.underlying30 rfl ?_)
  refine ops_cons rfl (ow_lss2 rfl rfl (fun hk => ?_) (fun hk => ?_))
  obtain ⟨x, hx, dx⟩ := drop_at' hk
  obtain ⟨y, hy, dy⟩ := drop_at (xs := ys) (k := k) (by omega)
  refine ops_nil ?_
  refine c_true rfl ?_
  refine c_skip ?_
  refine tq_n ?_
  refine c_seq ?_
  refine c_block ?_
  refine c_seqD [false, false, false, false, false, false, false, false, false] mixed (by kernel_rfl) ?_
  refine f_q rfl (fun wq sq => ow_move rfl ⟨rfl, Ext.refl _⟩) ?_
  refine f_q rfl (fun wq sq => ow_move rfl ⟨rfl, Ext.refl _⟩) ?_
  refine f_q rfl (fun wq sq => ow_indexT (hs.ext sq) eI_len rfl el30 rfl rfl rfl hx rfl ⟨rfl, Ext.refl _⟩) ?_
  refine f_q rfl (fun wq sq => ow_loadT (hs.ext sq) eI_len hx ti2 rfl rfl rfl ⟨rfl, Ext.refl _⟩) ?_
  refine f_q rfl (fun wq sq => ow_move rfl ⟨rfl, Ext.refl _⟩) ?_
  refine f_q rfl (fun wq sq => ow_move rfl ⟨rfl, Ext.refl _⟩) ?_
  refine f_q rfl (fun wq sq => ow_indexT (h2.ext sq) eI_len rfl el30 rfl rfl rfl hy rfl ⟨rfl, Ext.refl _⟩) ?_
  refine f_q rfl (fun wq sq => ow_loadT (h2.ext sq) eI_len hy ti2 rfl rfl rfl ⟨rfl, Ext.refl _⟩) ?_
  refine f_qb rfl (fun wq sq => ow_neq rfl rfl ⟨rfl, Ext.refl _⟩) (fun hxy => ?_) (fun hxy => ?_)
  refine f_nil (fun w1 sq => ?_)
  have xq := sq
  replace hs := hs.ext xq
  replace h2 := h2.ext xq
  replace X := Ext.trans X xq; clear xq sq
  refine ops_nil ?_
  refine c_true rfl ?_
  refine c_seqR ?_
  refine ops_cons rfl (ow_assign rfl ?_)
  refine ops_nil ?_
  refine c_ret ?_
  refine bq_r ?_
  refine tq_r ?_
  refine tq_r ?_
  refine bq_r ?_
  refine tq_r ?_
  refine fin_ret1 rfl rfl ?_
  · skip
    refine ⟨congrArg Value.bool ?_, X⟩
    refine (decide_eq_false (fun e => ?_)).symm
    rw [e, hy] at hx; injection hx with hx; omega
  refine f_nil (fun w2 sq => ?_)
  have xq := sq
  replace hs := hs.ext xq
  replace h2 := h2.ext xq
  replace X := Ext.trans X xq; clear xq sq
  refine ops_nil ?_
  refine c_false rfl ?_
  refine c_skip ?_
  refine bq_n ?_
  refine tq_n ?_
  refine c_region ?_
  refine ops_cons rfl (ow_move rfl ?_)
  refine ops_cons rfl (ow_add rfl rfl (w64 (by omega)) ?_)
  refine ops_cons rfl (ow_assign rfl ?_)
  refine ops_nil ?_
  refine tq_n ⟨k + 1, (.cons rfl (.cons rfl (.cons rfl (.nil _)))), ?_, ?_⟩
  · exact ⟨by omega, (by rw [List.take_add_one, List.take_add_one, hi, hx, hy, show x = y by omega]), hs, h2, X⟩
  · first | omega | (dsimp only; omega)
  refine ops_nil ?_
  refine c_false rfl ?_
  refine c_exit ?_
  refine tq_e ?_
  refine tq_e ?_
  refine bq_e ?_
  refine tq_n ?_
  refine c_seqR ?_
  refine ops_cons rfl (ow_assign rfl ?_)
  refine ops_nil ?_
  refine c_ret ?_
  refine fin_ret1 rfl rfl ?_
  · skip
    refine ⟨congrArg Value.bool ?_, X⟩
    refine (decide_eq_true ?_).symm
    have e1 : xs.take xs.length = ys.take xs.length := by have h := hi; rwa [show k = xs.length by omega] at h
    rw [List.take_length, List.take_of_length_le (by omega)] at e1; exact e1

theorem appNum_c (A : Option Addr) (lo n c : Nat) (cs : List Value) (x : Int) (w : World) (oA : Own w lo 2 1 A n c cs) (hlo : lo ≤ w.heap.size) (hx : 0 ≤ x ∧ x ≤ 255) (hn : n ≤ 16777216) :
    Calls Tryz.prog 257 #[.slice A n c, .int .i64 x, .int .i64 8] w (Ret fun v w' => ∃ A' c', v = .slice A' (n + 8) c' ∧ Own w' lo 2 1 A' (n + 8) c' (cs ++ (bitP x 8).flatMap eI) ∧ Below lo w w') := by
  have X := Below.refl lo w
  refine calls_of (args := [.slice A n c, .int .i64 x, .int .i64 8]) Tryz.func257 Tryz.ntmps257 rfl rfl ?_
  refine c_seqR ?_
  refine ops_cons rfl (ow_assign rfl ?_)
  refine ops_nil ?_
  refine c_seq ?_
  refine c_seqR ?_
  refine ops_cons rfl (ow_move rfl ?_)
  refine ops_cons rfl (ow_sub rfl rfl (show IntKind.i64.wrap (8 - 1) = 7 by decide) ?_)
  refine ops_cons rfl (ow_assign rfl ?_)
  refine ops_nil ?_
  refine c_block ?_
  refine c_loop (G := Nat × Int × Nat × Option Addr × Nat) (fun ⟨k, z, n1, A1, c1⟩ => [(1, .int .i64 x), (6, .slice none 0 0), (0, .slice A1 n1 c1), (7, .int .i64 z)]) (fun ⟨k, z, n1, A1, c1⟩ wr => k ≤ 8 ∧ z = 7 - (k : Int) ∧ n1 = n + k ∧ Own wr lo 2 1 A1 n1 c1 (cs ++ (bitP x k).flatMap eI) ∧ Below lo w wr) (fun ⟨k, z, n1, A1, c1⟩ => 8 - k) (0, 7, n, A, c) (.cons rfl (.cons rfl (.cons rfl (.cons rfl (.nil _))))) ?_ ?_
  · exact ⟨by omega, (by omega), rfl, (oA.to (by simp [bitP])), X⟩
  clear oA
  clear X
  rintro ⟨k, z, n1, A1, c1⟩ wr ⟨hk0, hz, hn1, oA, X⟩
  refine c_seq ?_
  refine c_seqR ?_
  refine ops_cons rfl (ow_move rfl ?_)
  refine ops_cons rfl (ow_geq2 rfl rfl (fun hk => ?_) (fun hk => ?_))
  refine ops_nil ?_
  refine c_true rfl ?_
  refine c_skip ?_
  refine tq_n ?_
  refine c_seq ?_
  refine c_block ?_
  refine c_region ?_
  refine ops_cons rfl (ow_move rfl ?_)
  refine ops_cons rfl (ow_move rfl ?_)
  refine ops_cons rfl (ow_move rfl ?_)
  refine ops_cons rfl (ow_shr rfl rfl (by omega) (shr_z (j := 7 - k) (by omega) hx.1 (by omega)) ?_)
  refine ops_cons rfl (ow_and rfl rfl (bit_shr (by omega) (by omega)) ?_)
  refine ops_cons rfl (ow_buildSlice el30 ti2 rfl rfl rfl rfl rfl ?_)
  intro g1 w3 eg1 oS bbg1 x2 zg1
  replace oS := Own.low oS (Nat.le_trans hlo X.size)
  replace oA := oA.ext x2
  replace X := Below.trans X (Below.mono x2 (Nat.le_trans hlo X.size)); clear x2
  refine ops_cons rfl (ow_append (ts := #[]) oA (Nat.le_trans hlo X.size) oS.sl rfl (one_ints [bitI x (7 - k)]) el30 ti2 rfl rfl rfl rfl (by omega) (by omega) ?_)
  intro AoN coN w5 oN hg4
  replace X := X.grown hg4 (Nat.le_trans hlo X.size) (fun g hg => (Own.lt oA hg).1)
  clear hg4
  refine ops_cons rfl (ow_assign rfl ?_)
  refine ops_nil ?_
  refine bq_n ?_
  refine tq_n ?_
  refine c_region ?_
  refine ops_cons rfl (ow_move rfl ?_)
  refine ops_cons rfl (ow_sub rfl rfl (w64 (by omega)) ?_)
  refine ops_cons rfl (ow_assign rfl ?_)
  refine ops_nil ?_
  refine tq_n ⟨(k + 1, z - 1, n1 + 1, AoN, coN), (.cons rfl (.cons rfl (.cons rfl (.cons rfl (.nil _))))), ?_, ?_⟩
  · exact ⟨by omega, (by omega), (by omega), (oN.to (by rw [bitP_step, List.flatMap_append, ← List.append_assoc]; rfl)), X⟩
  · first | omega | (dsimp only; omega)
  refine ops_nil ?_
  refine c_false rfl ?_
  refine c_exit ?_
  refine tq_e ?_
  refine tq_e ?_
  refine bq_e ?_
  refine tq_n ?_
  refine c_seqR ?_
  refine ops_cons rfl (ow_move rfl ?_)
  refine ops_cons rfl (ow_assign rfl ?_)
  refine ops_nil ?_
  refine c_ret ?_
  refine fin_ret1 rfl rfl ?_
  · skip
    have e : k = 8 := by omega
    subst e; subst hn1
    exact ⟨A1, c1, rfl, oA, X⟩

theorem toBits_c (A : Option Addr) (B c : Nat) (xs : List Int) (w : World) (hs : Sl B w A (xs.flatMap eI)) (hl : xs.length ≤ 1048576) (hb : ∀ x ∈ xs, 0 ≤ x ∧ x ≤ 255) :
    Calls Tryz.prog 223 #[.slice A xs.length c] w (Ret fun v w' => ∃ A' c', v = .slice A' (bitsL xs).length c' ∧ Own w' w.heap.size 2 1 A' (bitsL xs).length c' ((bitsL xs).flatMap eI) ∧ Ext w w') := by
  have Bhs := hs.1
  have X := Ext.refl w
  refine calls_of (args := [.slice A xs.length c]) Tryz.func223 Tryz.ntmps223 rfl rfl ?_
  refine c_seqR ?_
  refine ops_cons rfl (ow_assign rfl ?_)
  refine ops_nil ?_
  refine c_seqR ?_
  refine ops_cons rfl (ow_buildSlice el30 ti2 rfl rfl rfl rfl rfl ?_)
  intro gO w2 egO oO bbgO x1 zgO
  replace oO := Own.low oO X.size
  replace hs := hs.ext x1
  replace X := Ext.trans X x1; clear x1
  refine ops_cons rfl (ow_assign rfl ?_)
  refine ops_nil ?_
  refine c_seq ?_
  refine c_seqR ?_
  refine ops_cons rfl (ow_move rfl ?_)
  refine ops_cons rfl (ow_len Tryz.underlying30 rfl ?_)
  refine ops_cons rfl (ow_move rfl ?_)
  refine ops_nil ?_
  refine c_block ?_
  refine c_loop (G := Nat × Nat × Option Addr × Nat) (fun ⟨k, n1, A1, c1⟩ => [(2, .slice none 0 0), (7, .slice A xs.length c), (8, .int .i64 (xs.length : Nat)), (3, .slice A1 n1 c1), (9, .int .i64 (k : Nat))]) (fun ⟨k, n1, A1, c1⟩ wr => k ≤ xs.length ∧ n1 = (bitsL (xs.take k)).length ∧ Own wr w.heap.size 2 1 A1 n1 c1 ((bitsL (xs.take k)).flatMap eI) ∧ Sl B wr A (xs.flatMap eI) ∧ Ext w wr) (fun ⟨k, n1, A1, c1⟩ => xs.length - k) (0, 0, some ⟨gO, 0, none⟩, 0) (.cons rfl (.cons rfl (.cons rfl (.cons rfl (.cons rfl (.nil _)))))) ?_ ?_
  · exact ⟨by omega, rfl, oO, hs, X⟩
  clear hs oO
  clear X
  rintro ⟨k, n1, A1, c1⟩ wr ⟨hk0, hn1, oO, hs, X⟩
  refine c_seqR ?_
  refine ops_cons rfl (ow_lss2 rfl rfl (fun hk => ?_) (fun hk => ?_))
  obtain ⟨x, hx, dx⟩ := drop_at' hk
  refine ops_nil ?_
  refine c_seq ?_
  refine c_true rfl ?_
  refine c_skip ?_
  refine tq_n ?_
  refine c_seq ?_
  refine c_block ?_
  refine c_seqR ?_
  refine ops_cons rfl (ow_indexT hs eI_len rfl el30 rfl rfl rfl hx rfl ?_)
  refine ops_cons rfl (ow_loadT hs eI_len hx ti2 rfl rfl rfl ?_)
  refine ops_cons rfl (ow_assign rfl ?_)
  refine ops_nil ?_
  refine c_region ?_
  refine ops_cons rfl (ow_move rfl ?_)
  refine ops_cons rfl (ow_move rfl ?_)
  have hxb := u8v hb hx
  have hn2 := bitsL_len (xs.take k)
  rw [List.length_take] at hn2
  refine ops_cons rfl (ow_call ent257 rfl (ret_mono (appNum_c A1 w.heap.size n1 c1 _ x _ oO X.size hxb (by omega)) ?_))
  rintro _ wB ⟨A2, c2, rfl, oN, xB⟩
  replace hs := hs.below (Below.mono xB Bhs)
  replace X := Below.trans X xB; clear xB oO
  refine ops_cons rfl (ow_assign rfl ?_)
  refine ops_nil ?_
  refine bq_n ?_
  refine tq_n ?_
  refine c_region ?_
  refine ops_cons rfl (ow_add rfl rfl (w64 (by omega)) ?_)
  refine ops_cons rfl (ow_move rfl ?_)
  refine ops_nil ?_
  refine tq_n ⟨(k + 1, n1 + 8, A2, c2), (.cons rfl (.cons rfl (.cons rfl (.cons rfl (.cons rfl (.nil _)))))), ?_, ?_⟩
  · exact ⟨by omega, (by rw [bitsL_step hx, List.length_append, bitP_len, hn1]), (oN.to (by rw [bitsL_step hx, List.flatMap_append])), hs, X⟩
  · first | omega | (dsimp only; omega)
  refine ops_nil ?_
  refine c_seq ?_
  refine c_false rfl ?_
  refine c_exit ?_
  refine tq_e ?_
  refine tq_e ?_
  refine bq_e ?_
  refine tq_n ?_
  refine c_seqR ?_
  refine ops_cons rfl (ow_move rfl ?_)
  refine ops_cons rfl (ow_assign rfl ?_)
  refine ops_nil ?_
  refine c_ret ?_
  refine fin_ret1 rfl rfl ?_
  · skip
    rw [show k = xs.length by omega, List.take_length] at oO hn1
    rw [← hn1]; exact ⟨A1, c1, rfl, oO, X⟩

theorem l01Bits_c (A : Option Addr) (B c : Nat) (xs : List Int) (w : World) (hs : Sl B w A (xs.flatMap eI)) (hl : xs.length ≤ 1048576) (hb : ∀ x ∈ xs, 0 ≤ x ∧ x ≤ 255) :
    Calls Tryz.prog 235 #[.slice A xs.length c] w (Ret fun v w' => ∃ A' c', v = .slice A' (bitsL xs).length c' ∧ Own w' w.heap.size 2 1 A' (bitsL xs).length c' ((bitsL xs).flatMap eI) ∧ Ext w w') := by
  have Bhs := hs.1
  have X := Ext.refl w
  refine calls_of (args := [.slice A xs.length c]) Tryz.func235 Tryz.ntmps235 rfl rfl ?_
  refine c_seqR ?_
  refine ops_cons rfl (ow_assign rfl ?_)
  refine ops_nil ?_
  refine c_seqR ?_
  refine ops_cons rfl (ow_buildSlice el30 ti2 rfl rfl rfl rfl rfl ?_)
  intro gO w2 egO oO bbgO x1 zgO
  replace oO := Own.low oO X.size
  replace hs := hs.ext x1
  replace X := Ext.trans X x1; clear x1
  refine ops_cons rfl (ow_assign rfl ?_)
  refine ops_nil ?_
  refine c_seq ?_
  refine c_seqR ?_
  refine ops_cons rfl (ow_assign rfl ?_)
  refine ops_nil ?_
  refine c_block ?_
  refine c_loop (G := Nat × Nat × Option Addr × Nat) (fun ⟨k, n1, A1, c1⟩ => [(0, .slice A xs.length c), (2, .slice none 0 0), (3, .slice A1 n1 c1), (4, .int .i64 (k : Nat))]) (fun ⟨k, n1, A1, c1⟩ wr => k ≤ xs.length ∧ n1 = (bitsL (xs.take k)).length ∧ Own wr w.heap.size 2 1 A1 n1 c1 ((bitsL (xs.take k)).flatMap eI) ∧ Sl B wr A (xs.flatMap eI) ∧ Ext w wr) (fun ⟨k, n1, A1, c1⟩ => xs.length - k) (0, 0, some ⟨gO, 0, none⟩, 0) (.cons rfl (.cons rfl (.cons rfl (.cons rfl (.nil _))))) ?_ ?_
  · exact ⟨by omega, rfl, oO, hs, X⟩
  clear hs oO
  clear X
  rintro ⟨k, n1, A1, c1⟩ wr ⟨hk0, hn1, oO, hs, X⟩
  refine c_seq ?_
  refine c_seqR ?_
  refine ops_cons rfl (ow_move rfl ?_)
  refine ops_cons rfl (ow_move rfl ?_)
  refine ops_cons rfl (ow_len Tryz.underlying30 rfl ?_)
  refine ops_cons rfl (ow_lss2 rfl rfl (fun hk => ?_) (fun hk => ?_))
  obtain ⟨x, hx, dx⟩ := drop_at' hk
  have hxb := u8v hb hx
  have hn2 := bitsL_len (xs.take k)
  rw [List.length_take] at hn2
  refine ops_nil ?_
  refine c_true rfl ?_
  refine c_skip ?_
  refine tq_n ?_
  refine c_seq ?_
  refine c_block ?_
  refine c_seqR ?_
  refine ops_cons rfl (ow_assign rfl ?_)
  refine ops_nil ?_
  refine c_block ?_
  refine c_loop (G := Nat × Int × Nat × Option Addr × Nat) (fun ⟨j, z, n2, A2, c2⟩ => [(0, .slice A xs.length c), (2, .slice none 0 0), (4, .int .i64 (k : Nat)), (7, .int .i64 (k : Nat)), (8, .slice A xs.length c), (9, .int .i64 (xs.length : Nat)), (3, .slice A2 n2 c2), (5, .int .i64 z)]) (fun ⟨j, z, n2, A2, c2⟩ wr => j ≤ 8 ∧ z = 7 - (j : Int) ∧ n2 = n1 + j ∧ Own wr w.heap.size 2 1 A2 n2 c2 (((bitsL (xs.take k)) ++ bitP x j).flatMap eI) ∧ Sl B wr A (xs.flatMap eI) ∧ Ext w wr) (fun ⟨j, z, n2, A2, c2⟩ => 8 - j) (0, 7, n1, A1, c1) (.cons rfl (.cons rfl (.cons rfl (.cons rfl (.cons rfl (.cons rfl (.cons rfl (.cons rfl (.nil _))))))))) ?_ ?_
  · exact ⟨by omega, (by omega), rfl, (oO.to (by simp [bitP])), hs, X⟩
  clear oO hs
  clear X
  rintro ⟨j, z, n2, A2, c2⟩ wr ⟨hj0, hz, hn3, oP, hs, X⟩
  refine c_seq ?_
  refine c_seqR ?_
  refine ops_cons rfl (ow_move rfl ?_)
  refine ops_cons rfl (ow_geq2 rfl rfl (fun hj => ?_) (fun hj => ?_))
  refine ops_nil ?_
  refine c_true rfl ?_
  refine c_skip ?_
  refine tq_n ?_
  refine c_seq ?_
  refine c_block ?_
  refine c_region ?_
  refine ops_cons rfl (ow_move rfl ?_)
  refine ops_cons rfl (ow_move rfl ?_)
  refine ops_cons rfl (ow_move rfl ?_)
  refine ops_cons rfl (ow_indexT hs eI_len rfl el30 rfl rfl rfl hx rfl ?_)
  refine ops_cons rfl (ow_loadT hs eI_len hx ti2 rfl rfl rfl ?_)
  refine ops_cons rfl (ow_move rfl ?_)
  refine ops_cons rfl (ow_conv Tryz.underlying3 Tryz.underlying140 rfl (wuz (by omega)) ?_)
  refine ops_cons rfl (ow_shr rfl rfl (by omega) (shr_z (j := 7 - j) (by omega) hxb.1 (by omega)) ?_)
  refine ops_cons rfl (ow_and rfl rfl (bit_shr (by omega) (by omega)) ?_)
  refine ops_cons rfl (ow_buildSlice el30 ti2 rfl rfl rfl rfl rfl ?_)
  intro g3 w5 eg3 oS bbg3 x4 zg3
  replace oS := Own.low oS X.size
  replace oP := oP.ext x4
  replace hs := hs.ext x4
  replace X := Ext.trans X x4; clear x4
  refine ops_cons rfl (ow_append (ts := #[]) oP X.size oS.sl rfl (one_ints [bitI x (7 - j)]) el30 ti2 rfl rfl rfl rfl (by omega) (by omega) ?_)
  intro AoN coN w7 oN hg6
  replace hs := hs.grown hg6 (fun g hg => Nat.le_trans Bhs (Own.lt oP hg).1)
  replace X := X.grown hg6 X.size (fun g hg => (Own.lt oP hg).1)
  clear hg6
  refine ops_cons rfl (ow_assign rfl ?_)
  refine ops_nil ?_
  refine bq_n ?_
  refine tq_n ?_
  refine c_region ?_
  refine ops_cons rfl (ow_move rfl ?_)
  refine ops_cons rfl (ow_sub rfl rfl (w64 (by omega)) ?_)
  refine ops_cons rfl (ow_assign rfl ?_)
  refine ops_nil ?_
  refine tq_n ⟨(j + 1, z - 1, n2 + 1, AoN, coN), (.cons rfl (.cons rfl (.cons rfl (.cons rfl (.cons rfl (.cons rfl (.cons rfl (.cons rfl (.nil _))))))))), ?_, ?_⟩
  · exact ⟨by omega, (by omega), (by omega), (oN.to (by rw [bitP_step, ← List.append_assoc]; exact Eq.symm (by rw [List.flatMap_append]; rfl))), hs, X⟩
  · first | omega | (dsimp only; omega)
  refine ops_nil ?_
  refine c_false rfl ?_
  refine c_exit ?_
  refine tq_e ?_
  refine tq_e ?_
  refine bq_e ?_
  refine bq_n ?_
  refine tq_n ?_
  refine c_region ?_
  refine ops_cons rfl (ow_move rfl ?_)
  refine ops_cons rfl (ow_add rfl rfl (w64 (by omega)) ?_)
  refine ops_cons rfl (ow_assign rfl ?_)
  refine ops_nil ?_
  refine tq_n ⟨(k + 1, n2, A2, c2), (.cons rfl (.cons rfl (.cons rfl (.cons rfl (.nil _))))), ?_, ?_⟩
  · exact ⟨by omega, (by rw [bitsL_step hx, List.length_append, bitP_len]; omega), (oP.to (by rw [bitsL_step hx, show j = 8 by omega])), hs, X⟩
  · first | omega | (dsimp only; omega)
  refine ops_nil ?_
  refine c_false rfl ?_
  refine c_exit ?_
  refine tq_e ?_
  refine tq_e ?_
  refine bq_e ?_
  refine tq_n ?_
  refine c_seqR ?_
  refine ops_cons rfl (ow_move rfl ?_)
  refine ops_cons rfl (ow_assign rfl ?_)
  refine ops_nil ?_
  refine c_ret ?_
  refine fin_ret1 rfl rfl ?_
  · skip
    rw [show k = xs.length by omega, List.take_length] at oO hn1
    rw [← hn1]; exact ⟨A1, c1, rfl, oO, X⟩

theorem iStdCrc_c  (w : World)  :
    Calls Tryz.prog 221 #[] w (Ret fun v w' => v = .agg #[.int .i64 24, .int .i64 6122955] ∧ Ext w w') := by
  have X := Ext.refl w
  refine calls_of (args := []) Tryz.func221 Tryz.ntmps221 rfl rfl ?_
  refine c_seqR ?_
  refine ops_cons rfl (ow_alloc ti218 ?_)
  intro g0 w2 eg0 b0 x1 zg0
  have lg0 : w.heap.size ≤ g0 := Nat.le_trans X.size (Nat.le_of_eq eg0.symm)
  replace X := Ext.trans X x1; clear x1
  refine ops_nil ?_
  refine c_seqR ?_
  refine ops_cons rfl (ow_buildP pl218 ti218 rfl rfl ?_)
  refine ops_cons rfl (ow_storeB b0 ti218 rfl rfl rfl rfl rfl rfl ?_)
  intro w4 b1 hg3 z5
  replace X := X.grown hg3 X.size (by intro g hg; injection hg; omega)
  clear hg3 b0
  refine ops_nil ?_
  refine c_ret ?_
  refine fin_cell1 rfl rfl b1 ti218 rfl ?_
  exact ⟨by rfl, X⟩

theorem sStdCrc_c  (w : World)  :
    Calls Tryz.prog 234 #[] w (Ret fun v w' => v = .agg #[.int .i64 24, .int .i64 6122955] ∧ Ext w w') := by
  have X := Ext.refl w
  refine calls_of (args := []) Tryz.func234 Tryz.ntmps234 rfl rfl ?_
  refine c_seqR ?_
  refine ops_cons rfl (ow_alloc ti218 ?_)
  intro g0 w2 eg0 b0 x1 zg0
  have lg0 : w.heap.size ≤ g0 := Nat.le_trans X.size (Nat.le_of_eq eg0.symm)
  replace X := Ext.trans X x1; clear x1
  refine ops_nil ?_
  refine c_seqR ?_
  refine ops_cons rfl (ow_buildP pl218 ti218 rfl rfl ?_)
  refine ops_cons rfl (ow_storeB b0 ti218 rfl rfl rfl rfl rfl rfl ?_)
  intro w4 b1 hg3 z5
  replace X := X.grown hg3 X.size (by intro g hg; injection hg; omega)
  clear hg3 b0
  refine ops_nil ?_
  refine c_ret ?_
  refine fin_cell1 rfl rfl b1 ti218 rfl ?_
  exact ⟨by rfl, X⟩

theorem feed_c (A : Option Addr) (B c : Nat) (xs : List Int) (r : Int) (w : World) (hs : Sl B w A (xs.flatMap eI)) (hl : xs.length ≤ 1048576) (hr : 0 ≤ r ∧ r < 16777216) (hb : ∀ b ∈ xs, 0 ≤ b ∧ b ≤ 1) :
    Calls Tryz.prog 222 #[.agg #[.int .i64 24, .int .i64 6122955], .int .i64 r, .slice A xs.length c] w (Ret fun v w' => v = .int .i64 (crcF r xs) ∧ Ext w w') := by
  have Bhs := hs.1
  have X := Ext.refl w
  refine calls_of (args := [.agg #[.int .i64 24, .int .i64 6122955], .int .i64 r, .slice A xs.length c]) Tryz.func222 Tryz.ntmps222 rfl rfl ?_
  refine c_seqR ?_
  refine ops_cons rfl (ow_box rfl rfl ?_)
  intro gC w2 egC bC x1 zgC
  have lgC : w.heap.size ≤ gC := Nat.le_trans X.size (Nat.le_of_eq egC.symm)
  have pgChs := Nat.le_trans hs.1 (Nat.le_of_eq egC.symm)
  replace hs := hs.ext x1
  replace X := Ext.trans X x1; clear x1
  refine ops_cons rfl (ow_assign rfl ?_)
  refine ops_nil ?_
  refine c_seq ?_
  refine c_seqR ?_
  refine ops_cons rfl (ow_move rfl ?_)
  refine ops_cons rfl (ow_len Tryz.underlying30 rfl ?_)
  refine ops_cons rfl (ow_move rfl ?_)
  refine ops_nil ?_
  refine c_block ?_
  refine c_loop (G := Nat × Int) (fun ⟨k, r1⟩ => [(3, .pointer (some ⟨gC, 0, none⟩)), (6, .int .i64 0), (10, .slice A xs.length c), (11, .int .i64 (xs.length : Nat)), (1, .int .i64 r1), (12, .int .i64 (k : Nat))]) (fun ⟨k, r1⟩ wr => k ≤ xs.length ∧ r1 = (crcF r (xs.take k)) ∧ Sl B wr A (xs.flatMap eI) ∧ Blk wr gC 218 [.int .i64 24, .int .i64 6122955] ∧ Ext w wr) (fun ⟨k, r1⟩ => xs.length - k) (0, r) (.cons rfl (.cons rfl (.cons rfl (.cons rfl (.cons rfl (.cons rfl (.nil _))))))) ?_ ?_
  · exact ⟨by omega, rfl, hs, bC, X⟩
  clear hs bC
  clear X
  rintro ⟨k, r1⟩ wr ⟨hk0, hr1, hs, bC, X⟩
  refine c_seqR ?_
  refine ops_cons rfl (ow_lss2 rfl rfl (fun hk => ?_) (fun hk => ?_))
  obtain ⟨x, hx, dx⟩ := drop_at' hk
  have hri := crcF_in (xs.take k) hr
  rw [← hr1] at hri
  have hxb := hb x (List.mem_of_getElem? hx)
  refine ops_nil ?_
  refine c_seq ?_
  refine c_true rfl ?_
  refine c_skip ?_
  refine tq_n ?_
  refine c_seq ?_
  refine c_block ?_
  refine c_seqR ?_
  refine ops_cons rfl (ow_indexT hs eI_len rfl el30 rfl rfl rfl hx rfl ?_)
  refine ops_cons rfl (ow_loadT hs eI_len hx ti2 rfl rfl rfl ?_)
  refine ops_cons rfl (ow_assign rfl ?_)
  refine ops_nil ?_
  refine c_seqR ?_
  refine ops_cons rfl (ow_move rfl ?_)
  refine ops_cons rfl (ow_move rfl ?_)
  refine ops_cons rfl (ow_fieldAddrB off218_0 rfl rfl ?_)
  refine ops_cons rfl (ow_loadB bC ti2 rfl rfl ?_)
  refine ops_cons rfl (ow_sub rfl rfl (show IntKind.i64.wrap (24 - 1) = 23 by decide) ?_)
  refine ops_cons rfl (ow_shr rfl rfl (by omega) (shrP 8388608 hri.1 (by omega) rfl) ?_)
  refine ops_cons rfl (ow_xor rfl rfl (xor01 (by omega) (by omega)) ?_)
  refine ops_cons rfl (ow_assign rfl ?_)
  refine ops_nil ?_
  refine c_seqR ?_
  refine ops_cons rfl (ow_move rfl ?_)
  refine ops_cons rfl (ow_shl rfl rfl (by omega) (shl1 (by omega)) ?_)
  refine ops_cons rfl (ow_fieldAddrB off218_0 rfl rfl ?_)
  refine ops_cons rfl (ow_loadB bC ti2 rfl rfl ?_)
  refine ops_cons rfl (ow_shl rfl rfl (by omega) (show IntKind.i64.wrap (1 * 2 ^ (min ((24 : Int).toNat) IntKind.i64.bits)) = 16777216 by decide) ?_)
  refine ops_cons rfl (ow_sub rfl rfl (show IntKind.i64.wrap (16777216 - 1) = 16777215 by decide) ?_)
  refine ops_cons rfl (ow_and rfl rfl (and24 (by omega)) ?_)
  refine ops_cons rfl (ow_assign rfl ?_)
  refine ops_nil ?_
  refine c_seqR ?_
  refine ops_cons rfl (ow_move rfl ?_)
  refine ops_cons rfl (ow_eql2 rfl rfl (fun ht => ?_) (fun ht => ?_))
  refine ops_nil ?_
  refine c_true rfl ?_
  refine c_region ?_
  refine ops_cons rfl (ow_move rfl ?_)
  refine ops_cons rfl (ow_fieldAddrB off218_1 rfl rfl ?_)
  refine ops_cons rfl (ow_loadB bC ti2 rfl rfl ?_)
  refine ops_cons rfl (ow_xor rfl rfl (xorC_eq (by omega)) ?_)
  refine ops_cons rfl (ow_assign rfl ?_)
  refine ops_nil ?_
  refine bq_n ?_
  refine tq_n ?_
  refine c_region ?_
  refine ops_cons rfl (ow_add rfl rfl (w64 (by omega)) ?_)
  refine ops_cons rfl (ow_move rfl ?_)
  refine ops_nil ?_
  refine tq_n ⟨(k + 1, xorC (r1 * 2 % 16777216)), (.cons rfl (.cons rfl (.cons rfl (.cons rfl (.cons rfl (.cons rfl (.nil _))))))), ?_, ?_⟩
  · exact ⟨by omega, (by rw [crcF_step hx, ← hr1, crc_eq hri, if_pos ht]), hs, bC, X⟩
  · first | omega | (dsimp only; omega)
  refine ops_nil ?_
  refine c_false rfl ?_
  refine c_skip ?_
  refine bq_n ?_
  refine tq_n ?_
  refine c_region ?_
  refine ops_cons rfl (ow_add rfl rfl (w64 (by omega)) ?_)
  refine ops_cons rfl (ow_move rfl ?_)
  refine ops_nil ?_
  refine tq_n ⟨(k + 1, r1 * 2 % 16777216), (.cons rfl (.cons rfl (.cons rfl (.cons rfl (.cons rfl (.cons rfl (.nil _))))))), ?_, ?_⟩
  · exact ⟨by omega, (by rw [crcF_step hx, ← hr1, crc_eq hri, if_neg ht]), hs, bC, X⟩
  · first | omega | (dsimp only; omega)
  refine ops_nil ?_
  refine c_seq ?_
  refine c_false rfl ?_
  refine c_exit ?_
  refine tq_e ?_
  refine tq_e ?_
  refine bq_e ?_
  refine tq_n ?_
  refine c_seqR ?_
  refine ops_cons rfl (ow_move rfl ?_)
  refine ops_cons rfl (ow_assign rfl ?_)
  refine ops_nil ?_
  refine c_ret ?_
  refine fin_ret1 rfl rfl ?_
  · skip
    refine ⟨congrArg (Value.int .i64) ?_, X⟩
    rw [hr1, show k = xs.length by omega, List.take_length]

theorem l02Feed_c (A : Option Addr) (B c : Nat) (xs : List Int) (r : Int) (w : World) (hs : Sl B w A (xs.flatMap eI)) (hl : xs.length ≤ 1048576) (hr : 0 ≤ r ∧ r < 16777216) (hb : ∀ b ∈ xs, 0 ≤ b ∧ b ≤ 1) :
    Calls Tryz.prog 233 #[.agg #[.int .i64 24, .int .i64 6122955], .int .i64 r, .slice A xs.length c] w (Ret fun v w' => v = .int .i64 (crcF r xs) ∧ Ext w w') := by
  have Bhs := hs.1
  have X := Ext.refl w
  refine calls_of (args := [.agg #[.int .i64 24, .int .i64 6122955], .int .i64 r, .slice A xs.length c]) Tryz.func233 Tryz.ntmps233 rfl rfl ?_
  refine c_seqR ?_
  refine ops_cons rfl (ow_box rfl rfl ?_)
  intro gC w2 egC bC x1 zgC
  have lgC : w.heap.size ≤ gC := Nat.le_trans X.size (Nat.le_of_eq egC.symm)
  have pgChs := Nat.le_trans hs.1 (Nat.le_of_eq egC.symm)
  replace hs := hs.ext x1
  replace X := Ext.trans X x1; clear x1
  refine ops_cons rfl (ow_assign rfl ?_)
  refine ops_nil ?_
  refine c_seqR ?_
  refine ops_cons rfl (ow_fieldAddrB off218_0 rfl rfl ?_)
  refine ops_cons rfl (ow_loadB bC ti2 rfl rfl ?_)
  refine ops_cons rfl (ow_sub rfl rfl (show IntKind.i64.wrap (24 - 1) = 23 by decide) ?_)
  refine ops_cons rfl (ow_conv Tryz.underlying2 Tryz.underlying140 rfl (show IntKind.u64.wrap 23 = 23 by decide) ?_)
  refine ops_cons rfl (ow_shl rfl rfl (by omega) (show IntKind.i64.wrap (1 * 2 ^ (min ((23 : Int).toNat) IntKind.i64.bits)) = 8388608 by decide) ?_)
  refine ops_cons rfl (ow_assign rfl ?_)
  refine ops_nil ?_
  refine c_seq ?_
  refine c_seqR ?_
  refine ops_cons rfl (ow_assign rfl ?_)
  refine ops_nil ?_
  refine c_block ?_
  refine c_loop (G := Nat × Int) (fun ⟨k, r1⟩ => [(2, .slice A xs.length c), (3, .pointer (some ⟨gC, 0, none⟩)), (6, .int .i64 0), (7, .int .i64 8388608), (1, .int .i64 r1), (8, .int .i64 (k : Nat))]) (fun ⟨k, r1⟩ wr => k ≤ xs.length ∧ r1 = (crcF r (xs.take k)) ∧ Sl B wr A (xs.flatMap eI) ∧ Blk wr gC 218 [.int .i64 24, .int .i64 6122955] ∧ Ext w wr) (fun ⟨k, r1⟩ => xs.length - k) (0, r) (.cons rfl (.cons rfl (.cons rfl (.cons rfl (.cons rfl (.cons rfl (.nil _))))))) ?_ ?_
  · exact ⟨by omega, rfl, hs, bC, X⟩
  clear hs bC
  clear X
  rintro ⟨k, r1⟩ wr ⟨hk0, hr1, hs, bC, X⟩
  refine c_seq ?_
  refine c_seqR ?_
  refine ops_cons rfl (ow_move rfl ?_)
  refine ops_cons rfl (ow_move rfl ?_)
  refine ops_cons rfl (ow_len Tryz.underlying30 rfl ?_)
  refine ops_cons rfl (ow_lss2 rfl rfl (fun hk => ?_) (fun hk => ?_))
  obtain ⟨x, hx, dx⟩ := drop_at' hk
  have hri := crcF_in (xs.take k) hr
  rw [← hr1] at hri
  have hxb := hb x (List.mem_of_getElem? hx)
  refine ops_nil ?_
  refine c_true rfl ?_
  refine c_skip ?_
  refine tq_n ?_
  refine c_seq ?_
  refine c_block ?_
  refine c_seqD [false, false, false, false, false, false, false, false, false] mixed (by kernel_rfl) ?_
  refine f_q rfl (fun wq sq => ow_move rfl ⟨rfl, Ext.refl _⟩) ?_
  refine f_q rfl (fun wq sq => ow_move rfl ⟨rfl, Ext.refl _⟩) ?_
  refine f_q rfl (fun wq sq => ow_quo rfl rfl (by omega) (q64 (by omega)) ⟨rfl, Ext.refl _⟩) ?_
  refine f_q rfl (fun wq sq => ow_move rfl ⟨rfl, Ext.refl _⟩) ?_
  refine f_q rfl (fun wq sq => ow_move rfl ⟨rfl, Ext.refl _⟩) ?_
  refine f_q rfl (fun wq sq => ow_indexT (hs.ext sq) eI_len rfl el30 rfl rfl rfl hx rfl ⟨rfl, Ext.refl _⟩) ?_
  refine f_q rfl (fun wq sq => ow_loadT (hs.ext sq) eI_len hx ti2 rfl rfl rfl ⟨rfl, Ext.refl _⟩) ?_
  refine f_q rfl (fun wq sq => ow_xor rfl rfl ((xor01 (by omega) (by omega)).trans (show _ = (x + r1 / 8388608) % 2 by rw [Int.add_comm])) ⟨rfl, Ext.refl _⟩) ?_
  refine f_q rfl (fun wq sq => ow_assign rfl ⟨rfl, Ext.refl _⟩) ?_
  refine f_nil (fun w3 sq => ?_)
  have xq := sq
  replace hs := hs.ext xq
  replace bC := bC.ext xq
  replace X := Ext.trans X xq; clear xq sq
  refine ops_nil ?_
  refine c_seqR ?_
  refine ops_cons rfl (ow_move rfl ?_)
  refine ops_cons rfl (ow_move rfl ?_)
  refine ops_cons rfl (ow_rem rfl rfl (by omega) (m64 (by omega)) ?_)
  refine ops_cons rfl (ow_mul rfl rfl (show IntKind.i64.wrap _ = r1 * 2 % 16777216 from (w64 (by omega)).trans (by omega)) ?_)
  refine ops_cons rfl (ow_assign rfl ?_)
  refine ops_nil ?_
  refine c_seqR ?_
  refine ops_cons rfl (ow_move rfl ?_)
  refine ops_cons rfl (ow_eql2 rfl rfl (fun ht => ?_) (fun ht => ?_))
  refine ops_nil ?_
  refine c_true rfl ?_
  refine c_region ?_
  refine ops_cons rfl (ow_move rfl ?_)
  refine ops_cons rfl (ow_fieldAddrB off218_1 rfl rfl ?_)
  refine ops_cons rfl (ow_loadB bC ti2 rfl rfl ?_)
  refine ops_cons rfl (ow_xor rfl rfl (xorC_eq (by omega)) ?_)
  refine ops_cons rfl (ow_assign rfl ?_)
  refine ops_nil ?_
  refine bq_n ?_
  refine tq_n ?_
  refine c_region ?_
  refine ops_cons rfl (ow_move rfl ?_)
  refine ops_cons rfl (ow_add rfl rfl (w64 (by omega)) ?_)
  refine ops_cons rfl (ow_assign rfl ?_)
  refine ops_nil ?_
  refine tq_n ⟨(k + 1, xorC (r1 * 2 % 16777216)), (.cons rfl (.cons rfl (.cons rfl (.cons rfl (.cons rfl (.cons rfl (.nil _))))))), ?_, ?_⟩
  · exact ⟨by omega, (by rw [crcF_step hx, ← hr1, crc_eq hri, if_pos ht]), hs, bC, X⟩
  · first | omega | (dsimp only; omega)
  refine ops_nil ?_
  refine c_false rfl ?_
  refine c_skip ?_
  refine bq_n ?_
  refine tq_n ?_
  refine c_region ?_
  refine ops_cons rfl (ow_move rfl ?_)
  refine ops_cons rfl (ow_add rfl rfl (w64 (by omega)) ?_)
  refine ops_cons rfl (ow_assign rfl ?_)
  refine ops_nil ?_
  refine tq_n ⟨(k + 1, r1 * 2 % 16777216), (.cons rfl (.cons rfl (.cons rfl (.cons rfl (.cons rfl (.cons rfl (.nil _))))))), ?_, ?_⟩
  · exact ⟨by omega, (by rw [crcF_step hx, ← hr1, crc_eq hri, if_neg ht]), hs, bC, X⟩
  · first | omega | (dsimp only; omega)
  refine ops_nil ?_
  refine c_false rfl ?_
  refine c_exit ?_
  refine tq_e ?_
  refine tq_e ?_
  refine bq_e ?_
  refine tq_n ?_
  refine c_seqR ?_
  refine ops_cons rfl (ow_move rfl ?_)
  refine ops_cons rfl (ow_assign rfl ?_)
  refine ops_nil ?_
  refine c_ret ?_
  refine fin_ret1 rfl rfl ?_
  · skip
    refine ⟨congrArg (Value.int .i64) ?_, X⟩
    rw [hr1, show k = xs.length by omega, List.take_length]
end Go.Proofs.YtdoibplhbdkapaaGreatDoor
namespace Go.Proofs.YtdoibplhbdkapaaGreatDoor
open Go.RowKit
set_option linter.unusedVariables false
set_option linter.unusedSimpArgs false
/-- a fence that bars nothing -/
def WideF (F : Fence) : Prop := F = Fence.wide ∨ ∃ l, F = Fence.wide.inRound l
theorem WideF.w : WideF Fence.wide := .inl rfl
theorem WideF.r (l : Nat) : WideF (Fence.wide.inRound l) := .inr ⟨l, rfl⟩
theorem callsW {F : Fence} (hF : WideF F) {m : Nat} {P : Program} {f : FuncId} {args : Array Value} {w : World} {R : Ending → World → Prop} (h : Calls P f args w R) : CallsIn F m P f args w R := by
  rcases hF with rfl | ⟨l, rfl⟩
  · exact callsIn_wide.2 h
  · exact CallsIn.inRound l (callsIn_wide.2 h)
theorem WideF.fn {F : Fence} (hF : WideF F) (f : FuncId) : F.fn f := by
  rcases hF with rfl | ⟨l, rfl⟩ <;> trivial
theorem WideF.deep {F : Fence} (hF : WideF F) (m : Nat) : F.depth.isSome = true → 1 ≤ m := by
  rcases hF with rfl | ⟨l, rfl⟩ <;> (intro h; cases h)
def noDef : Op → Bool
  | .defer _ => false
  | _ => true
theorem noDef_spec {op : Op} (h : noDef op = true) : ∀ c, op ≠ .defer c := fun c e => by subst e; cases h
def FitsD (D : List Deferred) (n : Nat) (e : List (Nat × Value)) (a : Act) : Prop := a.defers = D ∧ a.tmps.size = n ∧ ∀ t v, lk e t = some v → a.tmps.getD t undef = v
theorem FitsD.fits {D : List Deferred} {n : Nat} {e : List (Nat × Value)} {a : Act} (h : FitsD D n e a) : Fits n e { a with defers := [] } := ⟨rfl, h.2.1, h.2.2⟩
theorem FitsD.knows {D : List Deferred} {n : Nat} {e : List (Nat × Value)} {a : Act} (h : FitsD D n e a) : Knows e a.eval := h.fits.knows
theorem FitsD.put {D : List Deferred} {n : Nat} {e : List (Nat × Value)} {a : Act} (h : FitsD D n e a) (d : Option Tmp) (v : Value) (hd : dstOk n d = true) : FitsD D n (updO e d v) (a.put d v) := by
  have h1 := h.fits.put d v hd
  have h2 : ({ a with defers := [] } : Act).put d v = { a.put d v with defers := [] } := by cases d <;> rfl
  have h3 : (a.put d v).defers = a.defers := by cases d <;> rfl
  rw [h2] at h1
  exact ⟨h3.trans h.1, h1.2.1, h1.2.2⟩
section
variable {F : Fence} {m : Nat} {P : Program} {n : Nat} {D : List Deferred} {ops : Array Oper} {rest : List Oper} {e : List (Nat × Value)} {w : World} {K : List (Nat × Value) → World → Prop}
theorem wpIn_of_upto (hF : WideF F) {o : Oper} {a : Act} {w : World} {K : Value → World → Prop} {next : Act → World → Prop} {Q : Exit → Act → World → Prop} (hd : ∀ c, o.op ≠ .defer c)
    (h : upto P K ((execOp a.eval o).run P w)) (hk : ∀ v w', K v w' → next (a.put o.dst v) w') : o.wpIn F m P a w next Q := by
  refine ⟨fun f _ => hF.fn f, ?_⟩
  rw [Oper.semAt_eq _ _ _ hd]
  generalize (execOp a.eval o).run P w = r at *
  cases r with
  | halt x w => exact h.elim
  | ok n w =>
    cases n <;> simp only [upto] at h <;> simp only [Oper.uponIn] <;> first
      | exact hk _ _ h
      | exact ⟨hF.deep m, callsW hF (Calls.mono h (fun e w'' he => by cases e <;> first | exact hk _ _ he | exact he.elim))⟩
def OpsF (F : Fence) (m : Nat) (P : Program) (n : Nat) (D : List Deferred) (ops : Array Oper) (l : List Oper) (e : List (Nat × Value)) (w : World) (K : List (Nat × Value) → World → Prop) : Prop :=
  ∀ (a : Act) (Q : Exit → Act → World → Prop), FitsD D n e a → (∀ e' a' w', FitsD D n e' a' → K e' w' → Q .normal a' w') → wpListIn F m P ops Q l a w
theorem opsF_nil (h : K e w) : OpsF F m P n D ops [] e w K := fun _ _ ha hK => wpListIn_nil (hK _ _ _ ha h)
theorem opsF_cons (hF : WideF F) {dst : Option Tmp} {op : Op} {ty : TypeId} {pos : String} {af : Array Edge} (hd : dstOk n dst = true) (hn : noDef op = true)
    (h : OpWp P e op ty w fun v w' => OpsF F m P n D ops rest (updO e dst v) w' K) : OpsF F m P n D ops (⟨dst, op, ty, pos, af, none⟩ :: rest) e w K :=
  fun a Q ha hK => wpListIn_plain rfl fun K' hK' => wpIn_of_upto hF (o := ⟨dst, op, ty, pos, af, none⟩) (noDef_spec hn) (h a.eval dst pos af none ha.knows) fun v w' hv => hK' _ _ (hv _ Q (ha.put dst v hd) hK)
/-- a call of yield -/
theorem opsF_yield (hF : WideF F) {dst : Option Tmp} {x : Operand} {args : Array Operand} {ts : Array TypeId} {vs : List Value} {l : Nat} {ty : TypeId} {pos : String} {af : Array Edge} (hd : dstOk n dst = true)
    (hx : evO e x = some (.func (.yield l) #[] #[])) (hy : argsO e args.toList = some vs)
    (h : YieldAt F (m - 1) P l vs.toArray w fun en w' => ∃ v, en = .returned v ∧ OpsF F m P n D ops rest (updO e dst v) w' K) : OpsF F m P n D ops (⟨dst, .call ⟨.value x, args, ts⟩, ty, pos, af, none⟩ :: rest) e w K :=
  fun a Q ha hK => wpListIn_plain rfl fun K' hK' => by
    have h1 : args.map a.eval = vs.toArray := Array.ext' (by simpa using argsO_spec ha.knows _ _ hy)
    have h2 := ha.knows _ _ hx
    obtain ⟨fn, tmps, assign, body, hy, hR⟩ := h
    refine ⟨fun f _ => hF.fn f, ?_⟩
    rw [Oper.semAt_eq _ _ _ (fun c h => by cases h)]
    have hr : (execOp a.eval ⟨dst, .call ⟨.value x, args, ts⟩, ty, pos, af, none⟩).run P w = .ok (.round l fn tmps assign body) w := by
      simp only [execOp, resolve, h1, h2, Deferred.ofValue, invoke]
      simp only [Sem.run_bind, Sem.run_pure, Result.andThen_ok, Array.append_empty, Array.empty_append]
      exact hy
    rw [hr, Oper.uponIn_round]
    refine ⟨hF.deep m, hR.mono ?_⟩
    rintro en w' ⟨v, rfl, hv⟩
    exact hK' _ _ (hv _ Q (ha.put dst v hd) hK)
end
section
variable {m : Nat} {P : Program} {n : Nat} {e : List (Nat × Value)} {w : World} {Q : Exit → List (Nat × Value) → World → Prop}
theorem c_regF (m : Nat) {id : Nat} {l : List Oper} (h : OpsF Fence.wide m P n [] l.toArray l e w (fun e' w' => Q .normal e' w')) : CWp P n (.region id l.toArray false) e w Q :=
  fun a ha => (wpIn_wide (n := m)).1 (wpIn_region_lit (h a _ ha fun e' _ _ hf hk => ⟨e', hf, hk⟩))
theorem c_seqF (m : Nat) {id : Nat} {l : List Oper} {y : Code} (h : OpsF Fence.wide m P n [] l.toArray l e w (fun e' w' => CWp P n y e' w' Q)) : CWp P n (.seq (.region id l.toArray false) y) e w Q := c_seq (c_regF m h)
end
theorem gb_of_ext {w w' : World} (h : Ext w w') : w.grownBy w' none := ⟨h.os, h.tape, h.output, h.size, fun k hk _ => h.block k hk⟩
theorem abides_ext {β : Type} {B : Nat} {J : β → World → Prop} (hJ : AbidesFrom B J) {s : β} {w w' : World} (h : J s w) (x : Ext w w') : J s w' := hJ s w w' none h (gb_of_ext x) (fun r e => by cases e)
section
variable {P : Program} {e : List (Nat × Value)} {ty : TypeId} {w : World} {K : Value → World → Prop} {x lo hi mx : Operand} {t el : TypeId} {s n c l h : Nat} {A : Option Addr} {k1 k2 k3 : IntKind} {m1 m2 m3 : Int}
theorem ow_sliceLX (ht : elO P t = some (el, s)) (hx : evO e x = some (.slice A n c)) (h1 : evO e lo = some (.int k1 m1)) (e1 : m1 = (l : Int)) (hl : l ≤ n) (hK : K (.slice (if c = l then A else A.map (·.add (l * s))) (n - l) (c - l)) w) : OpWp P e (.slice t x (some lo) none none) ty w K := fun ρ d p a g hρ => by
  have g0 := hρ _ _ hx; have g1 := hρ _ _ h1
  obtain ⟨hu, hsz⟩ := elem_of ht
  subst e1
  have hr := run_slice_l (P := P) (w := w) t A n c hu k1 (l : Int) (by omega) (by omega)
  simp only [execOp, g0, Option.map_some, Option.map_none, g1, Sem.run_bind, run_sliceAt_slice w t _ _ _ _ hu, hr, hsz, Result.andThen_ok, Sem.run_pure, upto, sliced, Int.toNat_natCast]
  exact hK
theorem ow_sliceLHM (ht : elO P t = some (el, 1)) (hx : evO e x = some (.slice A n c)) (h1 : evO e lo = some (.int k1 m1)) (h2 : evO e hi = some (.int k2 m2)) (h3 : evO e mx = some (.int k3 m3)) (e1 : m1 = (l : Int)) (e2 : m2 = (h : Int)) (e3 : m3 = (h : Int)) (hlh : l < h) (hc : h ≤ c)
    (hK : K (.slice (A.map (·.add l)) (h - l) (h - l)) w) : OpWp P e (.slice t x (some lo) (some hi) (some mx)) ty w K := fun ρ d p a g hρ => by
  have g0 := hρ _ _ hx; have g1 := hρ _ _ h1; have g2 := hρ _ _ h2; have g3 := hρ _ _ h3
  obtain ⟨hu, hsz⟩ := elem_of ht
  subst e1; subst e2; subst e3
  have hr := run_slice_lhm (P := P) (w := w) t A n c hu k1 k2 k3 (l : Int) (h : Int) (h : Int) (by omega) (by omega) (by omega) (by omega)
  simp only [execOp, g0, Option.map_some, Option.map_none, g1, g2, g3, Sem.run_bind, run_sliceAt_slice w t _ _ _ _ hu, hr, hsz, Result.andThen_ok, Sem.run_pure, upto, sliced, Int.toNat_natCast]
  rw [if_neg (by omega), Nat.mul_one]
  exact hK
end
/-- an invariant of the rounds, carried by the iterator -/
def JK {β : Type} (J : β → World → Prop) (B : Nat) (s : β) (w : World) : Prop := AbidesFrom B J ∧ J s w
theorem JK.ext {β : Type} {J : β → World → Prop} {B : Nat} {s : β} {w w' : World} (h : JK J B s w) (x : Ext w w') : JK J B s w' := ⟨h.1, abides_ext h.1 h.2 x⟩
theorem yield_two {en : Ending} {A B : Prop} (h : (en = .returned (.bool true) ∧ A) ∨ (en = .returned (.bool false) ∧ B)) : ∃ b, en = .returned (.bool b) ∧ (b = true → A) ∧ (b = false → B) := by
  rcases h with ⟨h, a⟩ | ⟨h, b⟩
  · exact ⟨true, h, (fun _ => a), (fun h => by cases h)⟩
  · exact ⟨false, h, (fun h => by cases h), (fun _ => b)⟩
end Go.Proofs.YtdoibplhbdkapaaGreatDoor
namespace Go.Proofs.YtdoibplhbdkapaaGreatDoor
open Go.RowKit
set_option linter.unusedVariables false
set_option linter.unusedSimpArgs false
set_option maxRecDepth 20000
def chA (A : Option Addr) (l : Nat) : Option Addr := A.map (·.add l)
def chPart (A : Option Addr) (d : Nat) (xs : List Int) (k : Nat) : ModeI := rowI (chA A (d * k)) (min d (xs.length - d * k)) ((xs.drop (d * k)).take d)
def chs (A : Option Addr) (d : Nat) (xs : List Int) (m : Nat) : List ModeI := (List.range m).map (chPart A d xs)
def cN (d n : Nat) : Nat := (n + d - 1) / d
theorem chs_succ (A : Option Addr) (d : Nat) (xs : List Int) (k : Nat) : chs A d xs (k + 1) = chs A d xs k ++ [chPart A d xs k] := by simp [chs, List.range_succ]
theorem chs_len (A : Option Addr) (d : Nat) (xs : List Int) (k : Nat) : (chs A d xs k).length = k := by simp [chs]
theorem chPart_len (A : Option Addr) (d : Nat) (xs : List Int) (k : Nat) : (chPart A d xs k).m.next.length = min d (xs.length - d * k) := by simp [chPart, rowI]
theorem cN_lt {d n k : Nat} (hd : 1 ≤ d) : k < cN d n ↔ d * k < n := by
  unfold cN
  rw [Nat.lt_div_iff_mul_lt (by omega), Nat.mul_comm k d]; omega
theorem cN_end {d n k : Nat} (hd : 1 ≤ d) (h1 : k ≤ cN d n) (h2 : ¬ d * k < n) : k = cN d n := by
  have h3 : ¬ k < cN d n := fun h => h2 ((cN_lt hd).1 h)
  omega
theorem cN_le {d n : Nat} (hd : 1 ≤ d) : cN d n ≤ n := by
  rcases Nat.eq_zero_or_pos (cN d n) with h | h
  · omega
  · have h1 := (cN_lt (d := d) (n := n) (k := cN d n - 1) hd).1 (by omega)
    have h2 : cN d n - 1 ≤ d * (cN d n - 1) := Nat.le_mul_of_pos_left _ (by omega)
    omega
theorem chunk1_c (l n0 gs gn d c : Nat) (A : Option Addr) (xs : List Int) (J Jx : List ModeI → World → Prop) (w : World) (q1 : Blk w gs 30 [.slice A xs.length c]) (q2 : Blk w gn 3 [.int .i64 (d : Nat)]) (hj : JK J w.heap.size [] w) (hlo : n0 ≤ w.heap.size) (hgs : gs < n0) (hgn : gn < n0) (hd : 1 ≤ d ∧ d ≤ 1000) (hl : xs.length ≤ 1048576) (hc : xs.length ≤ c) (hY : ∀ pre x W1, J pre W1 → pre.length < cN d xs.length → YieldAt Fence.wide 0 Tryz.prog l #[Value.slice (ModeI.A x) (ModeI.m x).next.length (ModeI.c x)] W1 fun e W' => (e = .returned (.bool true) ∧ J (pre ++ [x]) W' ∧ Below n0 W1 W') ∨ (e = .returned (.bool false) ∧ Jx (pre ++ [x]) W')) :
    Calls Tryz.prog 220 #[.func (.yield l) #[] #[], .pointer (some ⟨gs, 0, none⟩), .pointer (some ⟨gn, 0, none⟩)] w (Ret fun v w' => J (chs A d xs (cN d xs.length)) w' ∨ ∃ pre, Jx pre w') := by
  have X := Below.refl n0 w
  refine calls_of (args := [.func (.yield l) #[] #[], .pointer (some ⟨gs, 0, none⟩), .pointer (some ⟨gn, 0, none⟩)]) Tryz.func220 Tryz.ntmps220 rfl rfl ?_
  refine c_seqR ?_
  refine ops_cons rfl (ow_assign rfl ?_)
  refine ops_nil ?_
  refine c_block ?_
  refine c_loop (G := Nat × Nat) (fun ⟨k, i⟩ => [(0, .func (.yield l) #[] #[]), (1, .pointer (some ⟨gs, 0, none⟩)), (2, .pointer (some ⟨gn, 0, none⟩)), (4, .int .i64 (i : Nat))]) (fun ⟨k, i⟩ wr => i = d * k ∧ k ≤ cN d xs.length ∧ JK J w.heap.size (chs A d xs k) wr ∧ Blk wr gs 30 [.slice A xs.length c] ∧ Blk wr gn 3 [.int .i64 (d : Nat)] ∧ Below n0 w wr) (fun ⟨k, i⟩ => cN d xs.length - k) (0, 0) (.cons rfl (.cons rfl (.cons rfl (.cons rfl (.nil _))))) ?_ ?_
  · exact ⟨rfl, (Nat.zero_le _), hj, q1, q2, X⟩
  clear q1 q2 hj
  clear X
  rintro ⟨k, i⟩ wr ⟨hik, hkN, hj, q1, q2, X⟩
  refine c_seq ?_
  refine c_seqR ?_
  refine ops_cons rfl (ow_move rfl ?_)
  refine ops_cons rfl (ow_loadB q1 ti30 rfl rfl ?_)
  refine ops_cons rfl (ow_len Tryz.underlying30 rfl ?_)
  refine ops_cons rfl (ow_lss2 rfl rfl (fun hk => ?_) (fun hk => ?_))
  refine ops_nil ?_
  refine c_true rfl ?_
  refine c_skip ?_
  refine tq_n ?_
  refine c_seq ?_
  refine c_block ?_
  refine c_seqD [false, false, false, false, false, false, false] mixed (by kernel_rfl) ?_
  refine f_q rfl (fun wq sq => ow_loadB (q2.ext sq) ti3 rfl rfl ⟨rfl, Ext.refl _⟩) ?_
  refine f_q rfl (fun wq sq => ow_loadB (q1.ext sq) ti30 rfl rfl ⟨rfl, Ext.refl _⟩) ?_
  refine f_q rfl (fun wq sq => ow_move rfl ⟨rfl, Ext.refl _⟩) ?_
  refine f_q rfl (fun wq sq => ow_sliceLX (l := i) el30 rfl rfl rfl (by omega) ⟨rfl, Ext.refl _⟩) ?_
  refine f_q rfl (fun wq sq => ow_len Tryz.underlying30 rfl ⟨rfl, Ext.refl _⟩) ?_
  refine f_q rfl (fun wq sq => ow_min rfl rfl ⟨rfl, Ext.refl _⟩) ?_
  refine f_q rfl (fun wq sq => ow_assign rfl ⟨rfl, Ext.refl _⟩) ?_
  refine f_nil (fun w1 sq => ?_)
  have xq := sq
  replace hj := hj.ext xq
  replace q1 := q1.ext xq
  replace q2 := q2.ext xq
  replace X := Below.trans X (Below.mono xq (Nat.le_trans hlo X.size)); clear xq sq
  refine ops_nil ?_
  refine c_seqF 1 ?_
  refine opsF_cons WideF.w rfl rfl (ow_move rfl ?_)
  refine opsF_cons WideF.w rfl rfl (ow_loadB q1 ti30 rfl rfl ?_)
  refine opsF_cons WideF.w rfl rfl (ow_move rfl ?_)
  refine opsF_cons WideF.w rfl rfl (ow_move rfl ?_)
  refine opsF_cons WideF.w rfl rfl (ow_move rfl ?_)
  refine opsF_cons WideF.w rfl rfl (ow_add rfl rfl (show IntKind.i64.wrap _ = ((i + min d (xs.length - i) : Nat) : Int) from (w64 (by omega)).trans (by omega)) ?_)
  refine opsF_cons WideF.w rfl rfl (ow_move rfl ?_)
  refine opsF_cons WideF.w rfl rfl (ow_move rfl ?_)
  refine opsF_cons WideF.w rfl rfl (ow_add rfl rfl (show IntKind.i64.wrap _ = ((i + min d (xs.length - i) : Nat) : Int) from (w64 (by omega)).trans (by omega)) ?_)
  refine opsF_cons WideF.w rfl rfl (ow_sliceLHM (l := i) (h := i + min d (xs.length - i)) el30 rfl rfl rfl rfl rfl rfl rfl (by omega) (by omega) ?_)
  refine opsF_yield WideF.w rfl rfl rfl ?_
  have hck := (cN_lt (n := xs.length) (k := k) hd.1).2 (by rw [← hik]; omega)
  have hpl := chPart_len A d xs k
  rw [← hik] at hpl
  have hyy := hY _ (chPart A d xs k) _ hj.2 (by rw [chs_len]; exact hck)
  rw [hpl] at hyy
  rw [show i + min d (xs.length - i) - i = min d (xs.length - i) by omega]
  have eP : (chPart A d xs k).A = A.map (·.add i) ∧ (chPart A d xs k).c = min d (xs.length - i) := ⟨by rw [hik]; rfl, by rw [hik]; rfl⟩
  rw [eP.1, eP.2] at hyy
  refine hyy.mono ?_
  intro en wY hyq
  obtain ⟨bq, rfl, hyT, hyF⟩ := yield_two hyq
  refine ⟨_, rfl, ?_⟩
  cases hbq : bq
  have hjx := hyF hbq
  refine opsF_cons WideF.w rfl rfl (ow_not rfl ?_)
  refine opsF_nil ?_
  refine c_true rfl ?_
  refine c_ret ?_
  refine bq_r ?_
  refine tq_r ?_
  refine tq_r ?_
  refine bq_r ?_
  refine fin_ret0 rfl ?_
  · skip
    first
    | exact .inr ⟨_, hjx⟩
    | (have e := cN_end hd.1 hkN (by rw [← hik]; omega)
       rw [← e]; exact .inl hj.2)
  obtain ⟨hj2, hbl⟩ := hyT hbq
  replace q1 := q1.below hbl hgs
  replace q2 := q2.below hbl hgn
  replace X := Below.trans X hbl
  replace hj : JK J w.heap.size (chs A d xs (k + 1)) wY := ⟨hj.1, by rw [chs_succ]; exact hj2⟩
  refine opsF_cons WideF.w rfl rfl (ow_not rfl ?_)
  refine opsF_nil ?_
  refine c_false rfl ?_
  refine c_skip ?_
  refine bq_n ?_
  refine tq_n ?_
  refine c_region ?_
  refine ops_cons rfl (ow_move rfl ?_)
  refine ops_cons rfl (ow_loadB q2 ti3 rfl rfl ?_)
  refine ops_cons rfl (ow_add rfl rfl (show IntKind.i64.wrap _ = ((i + d : Nat) : Int) from (w64 (by omega)).trans (by omega)) ?_)
  refine ops_cons rfl (ow_assign rfl ?_)
  refine ops_nil ?_
  refine tq_n ⟨(k + 1, i + d), (.cons rfl (.cons rfl (.cons rfl (.cons rfl (.nil _))))), ?_, ?_⟩
  · exact ⟨(by rw [Nat.mul_succ, ← hik]), (by omega), hj, q1, q2, X⟩
  · exact Nat.sub_lt_sub_left hck (Nat.lt_succ_self k)
  refine ops_nil ?_
  refine c_false rfl ?_
  refine c_exit ?_
  refine tq_e ?_
  refine tq_e ?_
  refine bq_e ?_
  refine fin_end0 rfl ?_
  · skip
    first
    | exact .inr ⟨_, hjx⟩
    | (have e := cN_end hd.1 hkN (by rw [← hik]; omega)
       rw [← e]; exact .inl hj.2)
end Go.Proofs.YtdoibplhbdkapaaGreatDoor
namespace Go.Proofs.YtdoibplhbdkapaaGreatDoor
open Go.RowKit
set_option linter.unusedVariables false
set_option linter.unusedSimpArgs false
set_option maxRecDepth 20000
theorem blk_nc {W W' : World} {g : Nat} {t : TypeId} {cs : List Value} {row : Option Nat} (h : Blk W g t cs) (hrow : ∀ r, row = some r → ∃ o : Obj, W.heap[r]? = some o ∧ o.isCells = false) : some g ≠ row := fun e => by
  obtain ⟨o, ho, hc⟩ := hrow g e.symm
  rw [show W.heap[g]? = _ from h] at ho
  cases ho; cases hc
theorem own_nc {W : World} {lo n c s : Nat} {t : TypeId} {A : Option Addr} {cs : List Value} {row : Option Nat} (h : Own W lo t s A n c cs) (hrow : ∀ r, row = some r → ∃ o : Obj, W.heap[r]? = some o ∧ o.isCells = false) : ∀ g, row = some g → (Value.slice A n c).ownBlock ≠ some g := fun g e e2 => by
  obtain ⟨o, ho, hc⟩ := hrow g e
  rcases h.2 with ⟨h1, _⟩ | ⟨g', cap, cur, h1, _, hg, _⟩
  · rw [h1] at e2; cases e2
  · rw [h1] at e2
    have e3 : g' = g := by simpa [Value.ownBlock] using e2
    subst e3
    rw [hg] at ho; cases ho; cases hc
theorem own_cells {W : World} {lo n c s : Nat} {t : TypeId} {A : Option Addr} {cs : List Value} (h : Own W lo t s A n c cs) : ∀ (j : Nat) (o : Obj), (Value.slice A n c).ownBlock = some j → W.heap[j]? = some o → o.isCells = true := fun j o e2 ho => by
  rcases h.2 with ⟨h1, _⟩ | ⟨g', cap, cur, h1, _, hg, _⟩
  · rw [h1] at e2; cases e2
  · rw [h1] at e2
    have e3 : g' = j := by simpa [Value.ownBlock] using e2
    subst e3
    rw [hg] at ho; cases ho; rfl
/-- what holds between two rounds -/
def ColI (n0 gb : Nat) (w : World) (s : List ModeI) (W : World) : Prop := (∃ A c, Blk W gb 107 [.slice A s.length c] ∧ Own W n0 30 1 A s.length c (s.flatMap rowC)) ∧ Below n0 w W
theorem colI_from {n0 gb B : Nat} {w : World} (hn : n0 ≤ w.heap.size) (hB : n0 ≤ B) : OwnFrom B (ColI n0 gb w) := fun s W W' row h hg hr => by
  obtain ⟨⟨A, c, h1, h2⟩, h3⟩ := h
  have hr2 : ∀ r, row = some r → ∃ o : Obj, W.heap[r]? = some o ∧ o.isCells = false := fun r e => (hr r e).2
  exact ⟨⟨A, c, h1.grown hg (blk_nc (W' := W') h1 hr2), h2.grown hg (own_nc h2 hr2)⟩, ownFrom_below hn hB s W W' row h3 hg hr⟩
theorem chunk_seq (n0 gs gn d c : Nat) (A : Option Addr) (xs : List Int) (w : World) (q1 : Blk w gs 30 [.slice A xs.length c]) (q2 : Blk w gn 3 [.int .i64 (d : Nat)]) (hn0 : n0 = w.heap.size) (hd : 1 ≤ d ∧ d ≤ 1000) (hl : xs.length ≤ 1048576) (hc : xs.length ≤ c) :
    SeqStopsK Fence.wide 1 Tryz.prog 220 #[.pointer (some ⟨gs, 0, none⟩), .pointer (some ⟨gn, 0, none⟩)] (fun x : ModeI => #[Value.slice x.A x.m.next.length x.c]) (Below n0) (fun ps => ps = chs A d xs (cN d xs.length)) (fun _ => True) (cN d xs.length) w := fun l J Jx W hW hJ hJx hY h0 => by
  have h1 := q1.lt
  have h2 := q2.lt
  refine callsW .w (Calls.mono (chunk1_c l n0 gs gn d c A xs J Jx W (q1.below hW h1) (q2.below hW h2) ⟨hJ, h0⟩ (by rw [hn0]; exact hW.size) (by omega) (by omega) hd hl hc hY) fun e W' h => ?_)
  cases e <;> first | exact h.elim | skip
  refine ⟨⟨_, rfl⟩, ?_⟩
  rcases h with h | ⟨pre, h⟩
  · exact .inl ⟨_, rfl, h⟩
  · exact .inr ⟨pre, trivial, h⟩
theorem one_row (x : ModeI) : ∀ u ∈ rowC x, u.oneCell' = true := fun u hu => by
  obtain rfl : u = _ := by simpa [rowC] using hu
  rfl
set_option maxHeartbeats 1000000 in
theorem appendSeq_c (gs gn d c : Nat) (A : Option Addr) (xs : List Int) (w : World) (q1 : Blk w gs 30 [.slice A xs.length c]) (q2 : Blk w gn 3 [.int .i64 (d : Nat)]) (hd : 1 ≤ d ∧ d ≤ 1000) (hl : xs.length ≤ 1048576) (hc : xs.length ≤ c) :
    Calls Tryz.prog 219 #[.slice none 0 0, .func (.func 220) #[] #[.pointer (some ⟨gs, 0, none⟩), .pointer (some ⟨gn, 0, none⟩)]] w
      (Ret fun v w' => ∃ A' c', v = .slice A' (cN d xs.length) c' ∧ Own w' w.heap.size 30 1 A' (cN d xs.length) c' ((chs A d xs (cN d xs.length)).flatMap rowC) ∧ Ext w w') := by
  obtain ⟨n0, hn0⟩ : ∃ n0, n0 = w.heap.size := ⟨_, rfl⟩
  have hN := cN_le (d := d) (n := xs.length) hd.1
  refine callsIn_wide.1 (callsIn_of_wp_marks (n := 2) Tryz.func219 rfl trivial ?_)
  refine wpIn_seq ?_
  have hf0 : FitsD [] 13 (frameOf 0 [.slice none 0 0, .func (.func 220) #[] #[.pointer (some ⟨gs, 0, none⟩), .pointer (some ⟨gn, 0, none⟩)]]) { tmps := #[.slice none 0 0, .func (.func 220) #[] #[.pointer (some ⟨gs, 0, none⟩), .pointer (some ⟨gn, 0, none⟩)]] ++ Array.replicate (Tryz.f219.ntmps - 2) undef, defers := [] } := by
    refine ⟨rfl, by rw [Tryz.ntmps219]; rfl, fun t v ht => ?_⟩
    obtain ⟨_, h2⟩ := lk_frameOf _ 0 t v ht
    simp only [Nat.sub_zero] at h2
    match t, h2 with
    | 0, h2 => simpa using h2
    | 1, h2 => simpa using h2
    | t + 2, h2 => simp at h2
  refine wpIn_region_lit ((?_ : OpsF Fence.wide 2 Tryz.prog 13 [] _ _ _ w (fun e1 w1 => lk e1 2 = some (.pointer (some ⟨w.heap.size, 0, none⟩)) ∧ lk e1 1 = some (.func (.func 220) #[] #[.pointer (some ⟨gs, 0, none⟩), .pointer (some ⟨gn, 0, none⟩)]) ∧ Blk w1 w.heap.size 107 [.slice none 0 0] ∧ Ext w w1)) _ _ hf0 ?_)
  · refine opsF_cons .w rfl rfl (ow_box rfl rfl ?_)
    intro g w1 eg b1 x1 z1
    subst eg
    refine opsF_cons .w rfl rfl (ow_assign rfl ?_)
    exact opsF_nil ⟨rfl, rfl, b1, x1⟩
  rintro e1 a1 w1 hf1 ⟨k2, k1, b1, x1⟩
  have hz1 : n0 < w1.heap.size := by rw [hn0]; exact b1.lt
  refine wpIn_seq ?_
  refine wpIn_seq ?_
  refine wpIn_region_lit ((?_ : OpsF Fence.wide 2 Tryz.prog 13 [] _ _ e1 w1 (fun e2 w2 => lk e2 2 = some (.pointer (some ⟨w.heap.size, 0, none⟩)) ∧ lk e2 6 = some (.func (.func 220) #[] #[.pointer (some ⟨gs, 0, none⟩), .pointer (some ⟨gn, 0, none⟩)]) ∧ w2 = w1)) _ _ hf1 ?_)
  · refine opsF_cons .w rfl rfl (ow_move k1 ?_)
    exact opsF_nil ⟨by rw [updO, lk_cons, if_neg (by decide)]; exact k2, by rw [updO, lk_cons, if_pos rfl], rfl⟩
  rintro e2 a2 w2 hf2 ⟨k2, k6, rfl⟩
  refine wpIn_block ?_
  have hseq := (chunk_seq n0 gs gn d c A xs w q1 q2 hn0 hd hl hc)
  refine wpIn_rangeFunc_ownF (n := 2) rfl (by decide) (gf := 220) (lb := #[.pointer (some ⟨gs, 0, none⟩), .pointer (some ⟨gn, 0, none⟩)]) (hf2.knows (.tmp 6) _ k6) trivial ent220 hseq (hKt := belowK_t) (hKb := belowK_b (by omega)) (hb0 := x1) (fun _ => rfl)
    (ColI n0 w.heap.size w) (fun _ _ _ => False) (colI_from (by omega) (by omega)) (fun _ _ _ _ _ h _ _ => h) ⟨⟨none, 0, b1, Own.nil_ _ _ _ _⟩, by rw [hn0]; exact x1⟩
    (fun x => ({ tmps := a2.tmps.setIfInBounds 7 (Value.slice x.A x.m.next.length x.c), defers := [] } : Act).put (some 5) (Value.slice x.A x.m.next.length x.c))
    ?_ ?_ ?_ ?_
  · intro l x W K hK
    have e0 : ∀ (T : Array Value) (u : Value), (#[7].zip #[u]).foldl (fun t (p, v) => t.setIfInBounds p v) T = T.setIfInBounds 7 u := fun T u => by simp
    rw [e0]
    have e7 : (({ tmps := a2.tmps.setIfInBounds 7 (Value.slice x.A x.m.next.length x.c), defers := [] } : Act).eval (.tmp 7)) = Value.slice x.A x.m.next.length x.c := by
      show (a2.tmps.setIfInBounds 7 _).getD 7 undef = _
      simp [Array.getD_eq_getD_getElem?, hf2.2.1]
    refine wpIn_region_lit (l := [_]) (wpListIn_plain rfl fun K' hK' => ⟨fun f _ => trivial, ?_⟩)
    rw [Oper.semAt_eq _ _ _ (fun c h => by cases h)]
    unfold execOp
    simp only [Sem.run_pure, Oper.uponIn_value, e7]
    exact hK' _ _ (wpListIn_nil hK)
  · -- one round
    intro l pre x W hI hlen
    obtain ⟨⟨A1, c1, bB, oO⟩, hbel⟩ := hI
    have hs0 : n0 ≤ W.heap.size := by have := hbel.size; omega
    have hgB := bB.lt
    obtain ⟨vx, hvx⟩ : ∃ vx, vx = Value.slice x.A x.m.next.length x.c := ⟨_, rfl⟩
    rw [← hvx]
    have hfx : FitsD [] 13 [(5, vx), (2, .pointer (some ⟨w.heap.size, 0, none⟩))] (({ tmps := a2.tmps.setIfInBounds 7 vx, defers := [] } : Act).put (some 5) vx) := by
      have hsz := hf2.2.1
      have h2 := hf2.2.2 2 _ k2
      refine ⟨rfl, by simp [Act.put, hsz], fun t v ht => ?_⟩
      rw [lk_cons] at ht
      split at ht
      · rename_i h5; subst h5
        injection ht with ht; subst ht
        simp [Act.put, hsz, Array.getD_eq_getD_getElem?]
      · rw [lk_cons] at ht
        split at ht
        · rename_i h5 h6; subst h6
          injection ht with ht; subst ht
          simp only [Act.put]
          simp only [Array.getD_eq_getD_getElem?] at h2 ⊢
          rw [Array.getElem?_setIfInBounds_ne (by decide), Array.getElem?_setIfInBounds_ne (by decide)]
          exact h2
        · cases ht
    refine wpIn_block (wpIn_region_lit ((?_ : OpsF (Fence.wide.inRound l) 0 Tryz.prog 13 [] _ _ _ W (fun _ W' => KeepsOthers W W' ∧ Below n0 W W' ∧ ColI n0 w.heap.size w (pre ++ [x]) W')) _ _ hfx fun e' a' w' _ h => h))
    subst hvx
    have hr := WideF.r l
    refine opsF_cons hr rfl rfl (ow_loadB bB ti107 rfl rfl ?_)
    refine opsF_cons hr rfl rfl (ow_move rfl ?_)
    refine opsF_cons hr rfl rfl (ow_buildSlice el107 ti30 rfl rfl rfl rfl rfl ?_)
    intro gT W1 egT oT bT xT zT
    have bB1 := bB.ext xT
    have oO1 := oO.ext xT
    have hb1 : Below n0 W W1 := Below.mono xT hs0
    have hk1 : KeepsOthers W W1 := KeepsOthers.of_grownBy (gb_of_ext xT) (fun j o e => by cases e)
    have oT1 : Own W1 W.heap.size 30 1 (some ⟨gT, 0, none⟩) 1 1 (rowC x) := oT.to rfl
    refine opsF_cons hr rfl rfl (ow_append (ts := #[]) oO1 (by have := xT.size; omega) oT1.sl rfl (one_row x) el107 ti30 rfl rfl rfl rfl (by omega) (by omega) ?_)
    intro A2 c2 W2 oA hgA
    have hne : some w.heap.size ≠ (Value.slice A1 pre.length c1).ownBlock := fun e => Own.neT oO1 bB1 (by decide) e.symm
    have bB2 := bB1.grown hgA hne
    have hb2 : Below n0 W W2 := hb1.grown hgA (by have := xT.size; omega) (fun k e => (Own.lt oO1 e).1)
    have hk2 : KeepsOthers W W2 := hk1.trans (KeepsOthers.of_grownBy hgA (own_cells oO1))
    refine opsF_cons hr rfl rfl (ow_storeB bB2 ti107 rfl rfl rfl rfl rfl rfl ?_)
    intro W3 bB3 hg3 z3
    have oA3 := oA.grown hg3 (fun g e => by injection e with e; subst e; exact Own.neT oA bB2 (by decide))
    have hb3 : Below n0 W W3 := hb2.grown hg3 (by have := hgA.size; have := xT.size; omega) (fun k e => by injection e; omega)
    have hk3 : KeepsOthers W W3 := hk2.trans (KeepsOthers.of_grownBy hg3 (fun j o e ho => by injection e with e; subst e; rw [show W2.heap[w.heap.size]? = _ from bB2] at ho; cases ho; rfl))
    refine opsF_nil ⟨hk3, hb3, ⟨A2, c2, ?_, ?_⟩, hbel.trans hb3⟩
    · rw [List.length_append]; exact bB3
    · rw [List.length_append, List.flatMap_append]; exact oA3.to (by simp)
  · -- behind the loop
    intro D ps W hD hS hI hK
    subst hS
    obtain ⟨⟨A1, c1, bB, oO⟩, hbel⟩ := hI
    rw [chs_len] at bB oO
    have hf3 : FitsD [{ target := .collected D, args := #[] }] 13 e2 { a2 with defers := { target := .collected D, args := #[] } :: a2.defers } := ⟨by rw [hf2.1], hf2.2.1, hf2.2.2⟩
    show ((Code.seq _ _).wpIn _ _ _ _ _ _)
    refine wpIn_seq ?_
    refine wpIn_region_lit ((?_ : OpsF Fence.wide 2 Tryz.prog 13 _ _ _ e2 W (fun e4 w4 => lk e4 4 = some (.slice A1 (cN d xs.length) c1) ∧ w4 = W)) _ _ hf3 ?_)
    · refine opsF_cons .w rfl rfl (ow_loadB bB ti107 k2 rfl ?_)
      refine opsF_cons .w rfl rfl (ow_assign rfl ?_)
      exact opsF_nil ⟨rfl, rfl⟩
    rintro e4 a4 w4 hf4 ⟨k4, rfl⟩
    refine wpIn_ret ?_
    show LeavesInM _ _ _ _ _ _ a4.defers .returning w4
    rw [hf4.1]
    refine ⟨by simp, .inl ⟨_, _, rfl, run_takeDeferred hK, ?_⟩⟩
    have hgD := grownBy_putObj' w4 D (.deferred none)
    have hrow : ∀ r, some D = some r → ∃ o : Obj, w4.heap[r]? = some o ∧ o.isCells = false := fun r e => by injection e with e; subst e; exact ⟨_, hK, rfl⟩
    have h4 := hf4.2.2 4 _ k4
    refine ⟨_, results_tmp rfl _ _ _, A1, c1, h4, ?_, ?_⟩
    · rw [← hn0]; exact oO.grown hgD (own_nc oO hrow)
    · have := hbel.grown hgD (by have := hbel.size; omega) (fun k e => by injection e; omega)
      rwa [hn0] at this
  · intro D c' pre W hD hS hI hK
    exact hI.elim
end Go.Proofs.YtdoibplhbdkapaaGreatDoor
