/- Images and their texts. No condition. -/
import Derived.Test.YtimabffnoanciaaU2
import Derived.Test.YtimabffnoanciaaMod1
import Derived.Test.YtimabffnoanciaaFlowH
import Derived.Test.YtimabffnoanciaaFlowG
namespace Go.Proofs.Ytimabffnoanciaa
open Go.RowKit
set_option linter.unusedVariables false
set_option linter.unusedSimpArgs false
set_option maxRecDepth 20000
def hexD : ByteArray := ⟨#[48, 49, 50, 51, 52, 53, 54, 55, 56, 57, 97, 98, 99, 100, 101, 102]⟩
def hxd (m : Int) : UInt8 := hexD.data.toList.getD m.toNat 0
def hex2 (x : Int) : List UInt8 := [hxd (x / 16), hxd (x % 16)]
def hexB (xs : List Int) : List UInt8 := xs.flatMap hex2
theorem hexB_take {xs : List Int} {k : Nat} {x : Int} (h : xs[k]? = some x) : (hexB (xs.take (k + 1))).flatMap eB = (hexB (xs.take k)).flatMap eB ++ (eB (hxd (x / 16)) ++ eB (hxd (x % 16))) := by
  simp only [hexB]
  rw [List.take_add_one, h]
  simp [List.flatMap_append, hex2]
theorem hexB_len (xs : List Int) : (hexB xs).length = 2 * xs.length := by
  induction xs with
  | nil => rfl
  | cons x xs ih => simp only [hexB, List.flatMap_cons, List.length_append] at *; rw [ih]; simp [hex2]; omega
theorem w8 {n : Int} (h : 0 ≤ n ∧ n ≤ 255) : IntKind.u8.wrap n = n := by
  have h1 : n % 256 = n := by omega
  simp [IntKind.wrap, IntKind.bits, IntKind.signed, h1]
def hexV (b : UInt8) : Int := if 48 ≤ (b.toNat : Int) ∧ (b.toNat : Int) ≤ 57 then b.toNat - 48 else if 97 ≤ (b.toNat : Int) ∧ (b.toNat : Int) ≤ 102 then b.toNat - 97 + 10 else -1
theorem hexV_le (b : UInt8) : -1 ≤ hexV b ∧ hexV b ≤ 15 := by unfold hexV; split <;> (try split) <;> omega
def rdG : List UInt8 → Option (List Int)
  | a :: b :: r => if hexV a < 0 ∨ hexV b < 0 then none else (rdG r).map ((16 * hexV a + hexV b) :: ·)
  | _ => some []
def rd (s : ByteArray) : List Int × Bool := if (s.size : Int) % 2 ≠ 0 ∨ 2048 < (s.size : Int) then ([], false) else match rdG s.data.toList with
  | none => ([], false)
  | some l => (l, true)
theorem rdG_len : ∀ (n : Nat) (l : List UInt8) (ys : List Int), l.length ≤ n → rdG l = some ys → ys.length ≤ n
  | n, [], ys, _, h => by simp [rdG] at h; subst h; simp
  | n, [a], ys, _, h => by simp [rdG] at h; subst h; simp
  | 0, a :: b :: r, ys, hn, h => by simp at hn
  | n + 1, a :: b :: r, ys, hn, h => by
    rw [rdG] at h
    split at h
    · cases h
    · cases hr : rdG r with
      | none => rw [hr] at h; cases h
      | some zs =>
        rw [hr] at h
        have := rdG_len n r zs (by simp at hn; omega) hr
        simp at h; subst h; simp; omega
theorem rd_len (s : ByteArray) (h : s.size ≤ 1048576) : (rd s).1.length ≤ 1048576 := by
  unfold rd
  split
  · simp
  · split
    · simp
    · rename_i l hl
      exact rdG_len 1048576 _ _ (show s.size ≤ 1048576 from h) hl
theorem drop2 {l : List UInt8} {i : Nat} (h : i + 1 < l.length) : l.drop i = l.getD (i : Int).toNat 0 :: l.getD ((i : Int) + 1).toNat 0 :: l.drop (i + 2) := by
  rw [show ((i : Int)).toNat = i by omega, show ((i : Int) + 1).toNat = i + 1 by omega, List.drop_eq_getElem_cons (show i < l.length by omega), List.drop_eq_getElem_cons h]
  simp [List.getD_eq_getElem?_getD, List.getElem?_eq_getElem h, List.getElem?_eq_getElem (show i < l.length by omega)]
theorem l01All_c (A : Option Addr) (B c : Nat) (xs : List Int) (m hi0 : Int) (w : World) (hs : Sl B w A (xs.flatMap eI)) (hl : xs.length ≤ 1048576) :
    Calls Try.prog 73 #[.slice A xs.length c, .int .i64 m, .int .i64 hi0] w (Ret fun v w' => v = .bool (decide ((xs.length : Int) ≤ m) && xs.all fun x => inB x 0 hi0) ∧ Ext w w') := by
  have Bhs := hs.1
  have X := Ext.refl w
  refine calls_of (args := [.slice A xs.length c, .int .i64 m, .int .i64 hi0]) Try.func73 Try.ntmps73 rfl rfl ?_
  refine c_seqR ?_
  refine ops_cons rfl (ow_assign rfl ?_)
  refine ops_nil ?_
  refine c_seq ?_
  refine c_seqR ?_
  refine ops_cons rfl (ow_move rfl ?_)
  refine ops_cons rfl (ow_len Try.underlying24 rfl ?_)
  refine ops_cons rfl (ow_move rfl ?_)
  refine ops_cons rfl (ow_gtr2 rfl rfl (fun hm => ?_) (fun hm => ?_))
  · skip
    refine ops_nil ?_
    refine c_true rfl ?_
    refine c_seqR ?_
    refine ops_cons rfl (ow_assign rfl ?_)
    refine ops_nil ?_
    refine c_ret ?_
    refine tq_r ?_
    refine fin_ret1 rfl rfl ?_
    refine ⟨congrArg Value.bool ?_, X⟩
    first | (rw [decide_eq_false (by omega)]; rfl) | (rw [decide_eq_true (by omega), hi, drop_end hk]; rfl) | (rw [hi, dx]; simp [*])
  · skip
    refine ops_nil ?_
    refine c_false rfl ?_
    refine c_skip ?_
    refine tq_n ?_
    refine c_seq ?_
    refine c_seqR ?_
    refine ops_cons rfl (ow_assign rfl ?_)
    refine ops_nil ?_
    refine c_block ?_
    refine c_loop (G := Nat) (fun k => [(0, .slice A xs.length c), (2, .int .i64 hi0), (7, .int .i64 (k : Nat))]) (fun k wr => k ≤ xs.length ∧ xs.all (fun x => inB x 0 hi0) = (xs.drop k).all (fun x => inB x 0 hi0) ∧ Sl B wr A (xs.flatMap eI) ∧ Ext w wr) (fun k => xs.length - k) 0 (.cons rfl (.cons rfl (.cons rfl (.nil _)))) ?_ ?_
    · exact ⟨by omega, rfl, hs, X⟩
    clear hs
    clear X
    rintro k wr ⟨hk0, hi, hs, X⟩
    refine c_seq ?_
    refine c_seqR ?_
    refine ops_cons rfl (ow_move rfl ?_)
    refine ops_cons rfl (ow_move rfl ?_)
    refine ops_cons rfl (ow_len Try.underlying24 rfl ?_)
    refine ops_cons rfl (ow_lss2 rfl rfl (fun hk => ?_) (fun hk => ?_))
    · skip
      obtain ⟨x, hx, dx⟩ := drop_at' hk
      refine ops_nil ?_
      refine c_true rfl ?_
      refine c_skip ?_
      refine tq_n ?_
      refine c_seq ?_
      refine c_block ?_
      refine c_seqR ?_
      refine ops_cons rfl (ow_move rfl ?_)
      refine ops_cons rfl (ow_move rfl ?_)
      refine ops_cons rfl (ow_indexT hs eI_len rfl el24 rfl rfl rfl hx rfl ?_)
      refine ops_cons rfl (ow_loadT hs eI_len hx ti2 rfl rfl rfl ?_)
      refine ops_cons rfl (ow_move rfl ?_)
      refine ops_cons rfl (ow_callB ent106 rfl (l01In_c _ _ _ _) (fun w3 h1 x2 => ?_) (fun w3 h1 x2 => ?_))
      · skip
        replace hs := hs.ext x2
        replace X := Ext.trans X x2; clear x2
        refine ops_cons rfl (ow_not rfl ?_)
        refine ops_nil ?_
        refine c_false rfl ?_
        refine c_skip ?_
        refine bq_n ?_
        refine tq_n ?_
        refine c_region ?_
        refine ops_cons rfl (ow_move rfl ?_)
        refine ops_cons rfl (ow_add rfl rfl (w64 (by omega)) ?_)
        refine ops_cons rfl (ow_assign rfl ?_)
        refine ops_nil ?_
        refine tq_n ⟨k + 1, (.cons rfl (.cons rfl (.cons rfl (.nil _)))), ?_, ?_⟩
        · exact ⟨by omega, (by rw [hi, dx]; simp [*]), hs, X⟩
        · first | omega | (dsimp only; omega)
      · skip
        replace hs := hs.ext x2
        replace X := Ext.trans X x2; clear x2
        refine ops_cons rfl (ow_not rfl ?_)
        refine ops_nil ?_
        refine c_true rfl ?_
        refine c_seqR ?_
        refine ops_cons rfl (ow_assign rfl ?_)
        refine ops_nil ?_
        refine c_ret ?_
        refine bq_r ?_
        refine tq_r ?_
        refine tq_r ?_
        refine bq_r ?_
        refine tq_r ?_
        refine fin_ret1 rfl rfl ?_
        refine ⟨congrArg Value.bool ?_, X⟩
        first | (rw [decide_eq_false (by omega)]; rfl) | (rw [decide_eq_true (by omega), hi, drop_end hk]; rfl) | (rw [hi, dx]; simp [*])
    · skip
      refine ops_nil ?_
      refine c_false rfl ?_
      refine c_exit ?_
      refine tq_e ?_
      refine tq_e ?_
      refine bq_e ?_
      refine tq_n ?_
      refine c_seqR ?_
      refine ops_cons rfl (ow_assign rfl ?_)
      refine ops_nil ?_
      refine c_ret ?_
      refine fin_ret1 rfl rfl ?_
      refine ⟨congrArg Value.bool ?_, X⟩
      first | (rw [decide_eq_false (by omega)]; rfl) | (rw [decide_eq_true (by omega), hi, drop_end hk]; rfl) | (rw [hi, dx]; simp [*])

theorem sIsBytes_c (A : Option Addr) (B c : Nat) (xs : List Int) (w : World) (hs : Sl B w A (xs.flatMap eI)) (hl : xs.length ≤ 1048576) :
    Calls Try.prog 21 #[.slice A xs.length c] w (Ret fun v w' => v = .bool (isB xs) ∧ Ext w w') := by
  have Bhs := hs.1
  have X := Ext.refl w
  refine calls_of (args := [.slice A xs.length c]) Try.func21 Try.ntmps21 rfl rfl ?_
  refine c_seqR ?_
  refine ops_cons rfl (ow_assign rfl ?_)
  refine ops_nil ?_
  refine c_seqR ?_
  refine ops_cons rfl (ow_move rfl ?_)
  refine ops_cons rfl (ow_call ent73 rfl (ret_mono (l01All_c _ _ _ _ _ _ _ hs hl) ?_))
  rintro _ w2 ⟨rfl, x1⟩
  replace hs := hs.ext x1
  replace X := Ext.trans X x1; clear x1
  refine ops_cons rfl (ow_assign rfl ?_)
  refine ops_nil ?_
  refine c_ret ?_
  refine fin_ret1 rfl rfl ?_
  exact ⟨by rfl, X⟩

theorem allWithin_c (A : Option Addr) (B c : Nat) (xs : List Int) (lo hi0 : Int) (w : World) (hs : Sl B w A (xs.flatMap eI)) (hl : xs.length ≤ 1048576) :
    Calls Try.prog 107 #[.slice A xs.length c, .int .i64 lo, .int .i64 hi0] w (Ret fun v w' => v = .bool (xs.all fun x => inB x lo hi0) ∧ Ext w w') := by
  have Bhs := hs.1
  have X := Ext.refl w
  refine calls_of (args := [.slice A xs.length c, .int .i64 lo, .int .i64 hi0]) Try.func107 Try.ntmps107 rfl rfl ?_
  refine c_seqR ?_
  refine ops_cons rfl (ow_assign rfl ?_)
  refine ops_nil ?_
  refine c_seq ?_
  refine c_seqR ?_
  refine ops_cons rfl (ow_move rfl ?_)
  refine ops_cons rfl (ow_len Try.underlying24 rfl ?_)
  refine ops_cons rfl (ow_move rfl ?_)
  refine ops_nil ?_
  refine c_block ?_
  refine c_loop (G := Nat) (fun k => [(1, .int .i64 lo), (2, .int .i64 hi0), (9, .slice A xs.length c), (10, .int .i64 (xs.length : Nat)), (11, .int .i64 (k : Nat))]) (fun k wr => k ≤ xs.length ∧ (xs.all fun x => inB x lo hi0) = ((xs.drop k).all fun x => inB x lo hi0) ∧ Sl B wr A (xs.flatMap eI) ∧ Ext w wr) (fun k => xs.length - k) 0 (.cons rfl (.cons rfl (.cons rfl (.cons rfl (.cons rfl (.nil _)))))) ?_ ?_
  · exact ⟨by omega, rfl, hs, X⟩
  clear hs
  clear X
  rintro k wr ⟨hk0, hi, hs, X⟩
  refine c_seqR ?_
  refine ops_cons rfl (ow_lss2 rfl rfl (fun hk => ?_) (fun hk => ?_))
  · skip
    obtain ⟨x, hx, dx⟩ := drop_at' hk
    refine ops_nil ?_
    refine c_seq ?_
    refine c_true rfl ?_
    refine c_skip ?_
    refine tq_n ?_
    refine c_seq ?_
    refine c_block ?_
    refine c_seqR ?_
    refine ops_cons rfl (ow_indexT hs eI_len rfl el24 rfl rfl rfl hx rfl ?_)
    refine ops_cons rfl (ow_loadT hs eI_len hx ti2 rfl rfl rfl ?_)
    refine ops_cons rfl (ow_assign rfl ?_)
    refine ops_nil ?_
    refine c_seqR ?_
    refine ops_cons rfl (ow_move rfl ?_)
    refine ops_cons rfl (ow_move rfl ?_)
    refine ops_cons rfl (ow_lss2 rfl rfl (fun h1 => ?_) (fun h1 => ?_))
    · skip
      refine ops_cons rfl (ow_move rfl ?_)
      refine ops_skip rfl rfl rfl rfl ?_
      refine ops_skip rfl rfl rfl rfl ?_
      refine ops_skip rfl rfl rfl rfl ?_
      refine ops_cons rfl (ow_pick rfl rfl ?_)
      refine ops_nil ?_
      refine c_true rfl ?_
      refine c_seqR ?_
      refine ops_cons rfl (ow_assign rfl ?_)
      refine ops_nil ?_
      refine c_ret ?_
      refine bq_r ?_
      refine tq_r ?_
      refine tq_r ?_
      refine bq_r ?_
      refine tq_r ?_
      refine fin_ret1 rfl rfl ?_
      refine ⟨congrArg Value.bool ?_, X⟩
      first | (rw [hi, drop_end hk]; rfl) | (rw [hi, dx, List.all_cons, inB, decide_eq_false (by omega)]; rfl) | (rw [hi, dx, List.all_cons, inB, decide_eq_true (by omega), decide_eq_false (by omega)]; rfl)
    · skip
      refine ops_cons rfl (ow_move rfl ?_)
      refine ops_want rfl rfl rfl (ow_move rfl ?_)
      refine ops_want rfl rfl rfl (ow_move rfl ?_)
      refine ops_want rfl rfl rfl (ow_gtr2 rfl rfl (fun h2 => ?_) (fun h2 => ?_))
      · skip
        refine ops_cons rfl (ow_pick rfl rfl ?_)
        refine ops_nil ?_
        refine c_true rfl ?_
        refine c_seqR ?_
        refine ops_cons rfl (ow_assign rfl ?_)
        refine ops_nil ?_
        refine c_ret ?_
        refine bq_r ?_
        refine tq_r ?_
        refine tq_r ?_
        refine bq_r ?_
        refine tq_r ?_
        refine fin_ret1 rfl rfl ?_
        refine ⟨congrArg Value.bool ?_, X⟩
        first | (rw [hi, drop_end hk]; rfl) | (rw [hi, dx, List.all_cons, inB, decide_eq_false (by omega)]; rfl) | (rw [hi, dx, List.all_cons, inB, decide_eq_true (by omega), decide_eq_false (by omega)]; rfl)
      · skip
        refine ops_cons rfl (ow_pick rfl rfl ?_)
        refine ops_nil ?_
        refine c_false rfl ?_
        refine c_skip ?_
        refine bq_n ?_
        refine tq_n ?_
        refine c_region ?_
        refine ops_cons rfl (ow_add rfl rfl (w64 (by omega)) ?_)
        refine ops_cons rfl (ow_move rfl ?_)
        refine ops_nil ?_
        refine tq_n ⟨k + 1, (.cons rfl (.cons rfl (.cons rfl (.cons rfl (.cons rfl (.nil _)))))), ?_, ?_⟩
        · exact ⟨by omega, (by rw [hi, dx, List.all_cons, inB, decide_eq_true (by omega), decide_eq_true (by omega)]; rfl), hs, X⟩
        · first | omega | (dsimp only; omega)
  · skip
    refine ops_nil ?_
    refine c_seq ?_
    refine c_false rfl ?_
    refine c_exit ?_
    refine tq_e ?_
    refine tq_e ?_
    refine bq_e ?_
    refine tq_n ?_
    refine c_seqR ?_
    refine ops_cons rfl (ow_assign rfl ?_)
    refine ops_nil ?_
    refine c_ret ?_
    refine fin_ret1 rfl rfl ?_
    refine ⟨congrArg Value.bool ?_, X⟩
    first | (rw [hi, drop_end hk]; rfl) | (rw [hi, dx, List.all_cons, inB, decide_eq_false (by omega)]; rfl) | (rw [hi, dx, List.all_cons, inB, decide_eq_true (by omega), decide_eq_false (by omega)]; rfl)

theorem iIsBytes_c (A : Option Addr) (B c : Nat) (xs : List Int) (w : World) (hs : Sl B w A (xs.flatMap eI)) (hl : xs.length ≤ 1048576) :
    Calls Try.prog 68 #[.slice A xs.length c] w (Ret fun v w' => v = .bool (isB xs) ∧ Ext w w') := by
  have Bhs := hs.1
  have X := Ext.refl w
  refine calls_of (args := [.slice A xs.length c]) Try.func68 Try.ntmps68 rfl rfl ?_
  refine c_seqR ?_
  refine ops_cons rfl (ow_assign rfl ?_)
  refine ops_nil ?_
  refine c_seqR ?_
  refine ops_cons rfl (ow_move rfl ?_)
  refine ops_cons rfl (ow_len Try.underlying24 rfl ?_)
  refine ops_cons rfl (ow_leq2 rfl rfl (fun hm => ?_) (fun hm => ?_))
  · skip
    refine ops_cons rfl (ow_move rfl ?_)
    refine ops_want rfl rfl rfl (ow_move rfl ?_)
    refine ops_want rfl rfl rfl (ow_call ent107 rfl (ret_mono (allWithin_c _ _ _ _ _ _ _ hs hl) ?_))
    rintro _ w2 ⟨rfl, x1⟩
    replace hs := hs.ext x1
    replace X := Ext.trans X x1; clear x1
    refine ops_cons rfl (ow_pick rfl rfl ?_)
    refine ops_cons rfl (ow_assign rfl ?_)
    refine ops_nil ?_
    refine c_ret ?_
    refine fin_ret1 rfl rfl ?_
    refine ⟨congrArg Value.bool ?_, X⟩
    first | (rw [isB, decide_eq_false (by omega)]; rfl) | (rw [isB, decide_eq_true (by omega)]; simp [*])
  · skip
    refine ops_cons rfl (ow_move rfl ?_)
    refine ops_skip rfl rfl rfl rfl ?_
    refine ops_skip rfl rfl rfl rfl ?_
    refine ops_cons rfl (ow_pick rfl rfl ?_)
    refine ops_cons rfl (ow_assign rfl ?_)
    refine ops_nil ?_
    refine c_ret ?_
    refine fin_ret1 rfl rfl ?_
    refine ⟨congrArg Value.bool ?_, X⟩
    first | (rw [isB, decide_eq_false (by omega)]; rfl) | (rw [isB, decide_eq_true (by omega)]; simp [*])

theorem sImageT_c (A : Option Addr) (B c : Nat) (xs : List Int) (w : World) (hs : Sl B w A (xs.flatMap eI)) (hl : xs.length ≤ 1048576) :
    Calls Try.prog 20 #[.slice A xs.length c] w (Ret fun v w' => v = .string (if isB xs = true then strOf (hexB xs) else ByteArray.empty) ∧ Ext w w') := by
  have Bhs := hs.1
  have X := Ext.refl w
  refine calls_of (args := [.slice A xs.length c]) Try.func20 Try.ntmps20 rfl rfl ?_
  refine c_seqR ?_
  refine ops_cons rfl (ow_assign rfl ?_)
  refine ops_nil ?_
  refine c_seq ?_
  refine c_seqR ?_
  refine ops_cons rfl (ow_move rfl ?_)
  refine ops_cons rfl (ow_callB ent21 rfl (sIsBytes_c _ _ _ _ _ hs hl) (fun w2 hB x1 => ?_) (fun w2 hB x1 => ?_))
  · skip
    replace hs := hs.ext x1
    replace X := Ext.trans X x1; clear x1
    refine ops_cons rfl (ow_not rfl ?_)
    refine ops_nil ?_
    refine c_false rfl ?_
    refine c_skip ?_
    refine tq_n ?_
    refine c_seqR ?_
    refine ops_cons rfl (ow_buildSlice el22 ti5 rfl rfl rfl rfl rfl ?_)
    intro gO w4 egO oO bbgO x3 zgO
    replace oO := Own.low oO X.size
    replace hs := hs.ext x3
    replace X := Ext.trans X x3; clear x3
    refine ops_cons rfl (ow_assign rfl ?_)
    refine ops_nil ?_
    refine c_seq ?_
    refine c_seqR ?_
    refine ops_cons rfl (ow_assign rfl ?_)
    refine ops_nil ?_
    refine c_block ?_
    refine c_loop (G := Nat × Nat × Option Addr × Nat) (fun ⟨k, n, A1, c1⟩ => [(0, .slice A xs.length c), (3, .slice A1 n c1), (4, .int .i64 (k : Nat))]) (fun ⟨k, n, A1, c1⟩ wr => k ≤ xs.length ∧ n = 2 * k ∧ Sl B wr A (xs.flatMap eI) ∧ Own wr w.heap.size 5 1 A1 n c1 ((hexB (xs.take k)).flatMap eB) ∧ Ext w wr) (fun ⟨k, n, A1, c1⟩ => xs.length - k) (0, 0, some ⟨gO, 0, none⟩, 0) (.cons rfl (.cons rfl (.cons rfl (.nil _)))) ?_ ?_
    · exact ⟨by omega, rfl, hs, oO, X⟩
    clear hs oO
    clear X
    rintro ⟨k, n, A1, c1⟩ wr ⟨hk0, hn, hs, oO, X⟩
    refine c_seq ?_
    refine c_seqR ?_
    refine ops_cons rfl (ow_move rfl ?_)
    refine ops_cons rfl (ow_move rfl ?_)
    refine ops_cons rfl (ow_len Try.underlying24 rfl ?_)
    refine ops_cons rfl (ow_lss2 rfl rfl (fun hk => ?_) (fun hk => ?_))
    · skip
      obtain ⟨x, hx, dx⟩ := drop_at' hk
      have bx := isB_at hB hx
      have b1 : 0 ≤ x / 16 ∧ x / 16 < 16 := by omega
      have b2 : 0 ≤ x % 16 ∧ x % 16 < 16 := by omega
      have hL := isB_len hB
      refine ops_nil ?_
      refine c_true rfl ?_
      refine c_skip ?_
      refine tq_n ?_
      refine c_seq ?_
      refine c_block ?_
      refine c_draw [false, false, false, false, false, false, false, false, false, false, false, false, false, true] mixed (by kernel_rfl) ?_
      refine f_q rfl (fun wq sq => ow_move rfl ⟨rfl, Ext.refl _⟩) ?_
      refine f_q rfl (fun wq sq => ow_move rfl ⟨rfl, Ext.refl _⟩) ?_
      refine f_q rfl (fun wq sq => ow_move rfl ⟨rfl, Ext.refl _⟩) ?_
      refine f_q rfl (fun wq sq => ow_indexT (hs.ext sq) eI_len rfl el24 rfl rfl rfl hx rfl ⟨rfl, Ext.refl _⟩) ?_
      refine f_q rfl (fun wq sq => ow_loadT (hs.ext sq) eI_len hx ti2 rfl rfl rfl ⟨rfl, Ext.refl _⟩) ?_
      refine f_q rfl (fun wq sq => ow_quo rfl rfl (by omega) (q64 (by omega)) ⟨rfl, Ext.refl _⟩) ?_
      refine f_q rfl (fun wq sq => ow_indexS Try.underlying9 rfl rfl b1.1 (show _ < (16 : Int) from b1.2) ⟨rfl, Ext.refl _⟩) ?_
      refine f_q rfl (fun wq sq => ow_move rfl ⟨rfl, Ext.refl _⟩) ?_
      refine f_q rfl (fun wq sq => ow_move rfl ⟨rfl, Ext.refl _⟩) ?_
      refine f_q rfl (fun wq sq => ow_indexT (hs.ext sq) eI_len rfl el24 rfl rfl rfl hx rfl ⟨rfl, Ext.refl _⟩) ?_
      refine f_q rfl (fun wq sq => ow_loadT (hs.ext sq) eI_len hx ti2 rfl rfl rfl ⟨rfl, Ext.refl _⟩) ?_
      refine f_q rfl (fun wq sq => ow_rem rfl rfl (by omega) (m64 (by omega)) ⟨rfl, Ext.refl _⟩) ?_
      refine f_q rfl (fun wq sq => ow_indexS Try.underlying9 rfl rfl b2.1 (show _ < (16 : Int) from b2.2) ⟨rfl, Ext.refl _⟩) ?_
      refine f_op (fun gS : Nat => Value.slice (some ⟨gS, 0, none⟩) 2 2) (fun gS wz => Own wz w.heap.size 5 1 (some ⟨gS, 0, none⟩) 2 2 (eB (hxd (x / 16)) ++ eB (hxd (x % 16)))) 0 rfl ⟨inj_own, fun _ _ _ h k => h.ext k, fun wq sq => ow_buildSlice el22 ti5 rfl rfl rfl rfl rfl (fun g w' hg ho hb hx hz => ⟨g, rfl, Own.low ho (Nat.le_trans X.size (sq).size), hx⟩)⟩ ?_
      intro gS
      refine f_nil (fun w5 sq => ?_)
      have xq := sq.1
      have oS := sq.2
      replace hs := hs.ext xq
      replace oO := oO.ext xq
      replace X := Ext.trans X xq; clear xq sq
      refine ops_cons rfl (ow_append (ts := #[]) oO X.size oS.sl (by first | rfl | simp) (by first | exact List.all_eq_true.1 rfl | simp [Value.oneCell']) el22 ti5 rfl rfl rfl rfl (by omega) (by omega) ?_)
      intro AoN coN w7 oN hg6
      replace hs := hs.grown hg6 (fun g hg => Nat.le_trans Bhs (Own.lt oO hg).1)
      replace X := X.grown hg6 X.size (fun g hg => (Own.lt oO hg).1)
      clear hg6
      refine ops_cons rfl (ow_assign rfl ?_)
      refine ops_nil ?_
      refine bq_n ?_
      refine tq_n ?_
      refine c_region ?_
      refine ops_cons rfl (ow_move rfl ?_)
      refine ops_cons rfl (ow_add rfl rfl (w64 (by omega)) ?_)
      refine ops_cons rfl (ow_assign rfl ?_)
      refine ops_nil ?_
      refine tq_n ⟨(k + 1, n + 2, AoN, coN), (.cons rfl (.cons rfl (.cons rfl (.nil _)))), ?_, ?_⟩
      · exact ⟨by omega, by omega, hs, oN.to (hexB_take hx).symm, X⟩
      · dsimp only; omega
    · skip
      refine ops_nil ?_
      refine c_false rfl ?_
      refine c_exit ?_
      refine tq_e ?_
      refine tq_e ?_
      refine bq_e ?_
      refine tq_n ?_
      refine c_seqR ?_
      refine ops_cons rfl (ow_move rfl ?_)
      refine ops_cons rfl (ow_convBS Try.underlying22 Try.underlying5 Try.underlying9 (oO).sl rfl (by rw [hexB_len, List.length_take]; omega) ?_)
      refine ops_cons rfl (ow_assign rfl ?_)
      refine ops_nil ?_
      refine c_ret ?_
      refine fin_ret1 rfl rfl ?_
      refine ⟨?_, X⟩
      first | (rw [hB]; rfl) | (rw [hB, List.take_of_length_le (by omega)]; rfl)
  · skip
    replace hs := hs.ext x1
    replace X := Ext.trans X x1; clear x1
    refine ops_cons rfl (ow_not rfl ?_)
    refine ops_nil ?_
    refine c_true rfl ?_
    refine c_seqR ?_
    refine ops_cons rfl (ow_assign rfl ?_)
    refine ops_nil ?_
    refine c_ret ?_
    refine tq_r ?_
    refine fin_ret1 rfl rfl ?_
    refine ⟨?_, X⟩
    first | (rw [hB]; rfl) | (rw [hB, List.take_of_length_le (by omega)]; rfl)

theorem iImageT_c (A : Option Addr) (B c : Nat) (xs : List Int) (w : World) (hs : Sl B w A (xs.flatMap eI)) (hl : xs.length ≤ 1048576) :
    Calls Try.prog 16 #[.slice A xs.length c] w (Ret fun v w' => v = .string (if isB xs = true then strOf (hexB xs) else ByteArray.empty) ∧ Ext w w') := by
  have Bhs := hs.1
  have X := Ext.refl w
  refine calls_of (args := [.slice A xs.length c]) Try.func16 Try.ntmps16 rfl rfl ?_
  refine c_seqR ?_
  refine ops_cons rfl (ow_assign rfl ?_)
  refine ops_nil ?_
  refine c_seq ?_
  refine c_seqR ?_
  refine ops_cons rfl (ow_move rfl ?_)
  refine ops_cons rfl (ow_callB ent68 rfl (iIsBytes_c _ _ _ _ _ hs hl) (fun w2 hB x1 => ?_) (fun w2 hB x1 => ?_))
  · skip
    replace hs := hs.ext x1
    replace X := Ext.trans X x1; clear x1
    refine ops_cons rfl (ow_not rfl ?_)
    refine ops_nil ?_
    refine c_false rfl ?_
    refine c_skip ?_
    refine tq_n ?_
    refine c_seqR ?_
    refine ops_cons rfl (ow_buildSlice el22 ti5 rfl rfl rfl rfl rfl ?_)
    intro gO w4 egO oO bbgO x3 zgO
    replace oO := Own.low oO X.size
    replace hs := hs.ext x3
    replace X := Ext.trans X x3; clear x3
    refine ops_cons rfl (ow_assign rfl ?_)
    refine ops_nil ?_
    refine c_seq ?_
    refine c_seqR ?_
    refine ops_cons rfl (ow_move rfl ?_)
    refine ops_cons rfl (ow_len Try.underlying24 rfl ?_)
    refine ops_cons rfl (ow_move rfl ?_)
    refine ops_nil ?_
    refine c_block ?_
    refine c_loop (G := Nat × Nat × Option Addr × Nat) (fun ⟨k, n, A1, c1⟩ => [(10, .slice A xs.length c), (11, .int .i64 (xs.length : Nat)), (3, .slice A1 n c1), (12, .int .i64 (k : Nat))]) (fun ⟨k, n, A1, c1⟩ wr => k ≤ xs.length ∧ n = 2 * k ∧ Sl B wr A (xs.flatMap eI) ∧ Own wr w.heap.size 5 1 A1 n c1 ((hexB (xs.take k)).flatMap eB) ∧ Ext w wr) (fun ⟨k, n, A1, c1⟩ => xs.length - k) (0, 0, some ⟨gO, 0, none⟩, 0) (.cons rfl (.cons rfl (.cons rfl (.cons rfl (.nil _))))) ?_ ?_
    · exact ⟨by omega, rfl, hs, oO, X⟩
    clear hs oO
    clear X
    rintro ⟨k, n, A1, c1⟩ wr ⟨hk0, hn, hs, oO, X⟩
    refine c_seqR ?_
    refine ops_cons rfl (ow_lss2 rfl rfl (fun hk => ?_) (fun hk => ?_))
    · skip
      obtain ⟨x, hx, dx⟩ := drop_at' hk
      have bx := isB_at hB hx
      have b1 : 0 ≤ x / 16 ∧ x / 16 < 16 := by omega
      have b2 : 0 ≤ x % 16 ∧ x % 16 < 16 := by omega
      have hL := isB_len hB
      refine ops_nil ?_
      refine c_seq ?_
      refine c_true rfl ?_
      refine c_skip ?_
      refine tq_n ?_
      refine c_seq ?_
      refine c_block ?_
      refine c_seqR ?_
      refine ops_cons rfl (ow_indexT hs eI_len rfl el24 rfl rfl rfl hx rfl ?_)
      refine ops_cons rfl (ow_loadT hs eI_len hx ti2 rfl rfl rfl ?_)
      refine ops_cons rfl (ow_assign rfl ?_)
      refine ops_nil ?_
      refine c_draw [false, false, false, false, false, false, false, true] mixed (by kernel_rfl) ?_
      refine f_q rfl (fun wq sq => ow_move rfl ⟨rfl, Ext.refl _⟩) ?_
      refine f_q rfl (fun wq sq => ow_move rfl ⟨rfl, Ext.refl _⟩) ?_
      refine f_q rfl (fun wq sq => ow_quo rfl rfl (by omega) (q64 (by omega)) ⟨rfl, Ext.refl _⟩) ?_
      refine f_q rfl (fun wq sq => ow_indexS Try.underlying9 rfl rfl b1.1 (show _ < (16 : Int) from b1.2) ⟨rfl, Ext.refl _⟩) ?_
      refine f_q rfl (fun wq sq => ow_move rfl ⟨rfl, Ext.refl _⟩) ?_
      refine f_q rfl (fun wq sq => ow_rem rfl rfl (by omega) (m64 (by omega)) ⟨rfl, Ext.refl _⟩) ?_
      refine f_q rfl (fun wq sq => ow_indexS Try.underlying9 rfl rfl b2.1 (show _ < (16 : Int) from b2.2) ⟨rfl, Ext.refl _⟩) ?_
      refine f_op (fun gS : Nat => Value.slice (some ⟨gS, 0, none⟩) 2 2) (fun gS wz => Own wz w.heap.size 5 1 (some ⟨gS, 0, none⟩) 2 2 (eB (hxd (x / 16)) ++ eB (hxd (x % 16)))) 0 rfl ⟨inj_own, fun _ _ _ h k => h.ext k, fun wq sq => ow_buildSlice el22 ti5 rfl rfl rfl rfl rfl (fun g w' hg ho hb hx hz => ⟨g, rfl, Own.low ho (Nat.le_trans X.size (sq).size), hx⟩)⟩ ?_
      intro gS
      refine f_nil (fun w5 sq => ?_)
      have xq := sq.1
      have oS := sq.2
      replace hs := hs.ext xq
      replace oO := oO.ext xq
      replace X := Ext.trans X xq; clear xq sq
      refine ops_cons rfl (ow_append (ts := #[]) oO X.size oS.sl (by first | rfl | simp) (by first | exact List.all_eq_true.1 rfl | simp [Value.oneCell']) el22 ti5 rfl rfl rfl rfl (by omega) (by omega) ?_)
      intro AoN coN w7 oN hg6
      replace hs := hs.grown hg6 (fun g hg => Nat.le_trans Bhs (Own.lt oO hg).1)
      replace X := X.grown hg6 X.size (fun g hg => (Own.lt oO hg).1)
      clear hg6
      refine ops_cons rfl (ow_assign rfl ?_)
      refine ops_nil ?_
      refine bq_n ?_
      refine tq_n ?_
      refine c_region ?_
      refine ops_cons rfl (ow_add rfl rfl (w64 (by omega)) ?_)
      refine ops_cons rfl (ow_move rfl ?_)
      refine ops_nil ?_
      refine tq_n ⟨(k + 1, n + 2, AoN, coN), (.cons rfl (.cons rfl (.cons rfl (.cons rfl (.nil _))))), ?_, ?_⟩
      · exact ⟨by omega, by omega, hs, oN.to (hexB_take hx).symm, X⟩
      · dsimp only; omega
    · skip
      refine ops_nil ?_
      refine c_seq ?_
      refine c_false rfl ?_
      refine c_exit ?_
      refine tq_e ?_
      refine tq_e ?_
      refine bq_e ?_
      refine tq_n ?_
      refine c_seqR ?_
      refine ops_cons rfl (ow_move rfl ?_)
      refine ops_cons rfl (ow_convBS Try.underlying22 Try.underlying5 Try.underlying9 (oO).sl rfl (by rw [hexB_len, List.length_take]; omega) ?_)
      refine ops_cons rfl (ow_assign rfl ?_)
      refine ops_nil ?_
      refine c_ret ?_
      refine fin_ret1 rfl rfl ?_
      refine ⟨?_, X⟩
      first | (rw [hB]; rfl) | (rw [hB, List.take_of_length_le (by omega)]; rfl)
  · skip
    replace hs := hs.ext x1
    replace X := Ext.trans X x1; clear x1
    refine ops_cons rfl (ow_not rfl ?_)
    refine ops_nil ?_
    refine c_true rfl ?_
    refine c_seqR ?_
    refine ops_cons rfl (ow_assign rfl ?_)
    refine ops_nil ?_
    refine c_ret ?_
    refine tq_r ?_
    refine fin_ret1 rfl rfl ?_
    refine ⟨?_, X⟩
    first | (rw [hB]; rfl) | (rw [hB, List.take_of_length_le (by omega)]; rfl)

theorem l14Digit_c (b : UInt8) (w : World)  :
    Calls Try.prog 72 #[.int .u8 (b.toNat : Nat)] w (Ret fun v w' => v = .int .i64 (hexV b) ∧ Ext w w') := by
  have hb := b.toNat_lt
  have X := Ext.refl w
  refine calls_of (args := [.int .u8 (b.toNat : Nat)]) Try.func72 Try.ntmps72 rfl rfl ?_
  refine c_seqR ?_
  refine ops_cons rfl (ow_assign rfl ?_)
  refine ops_nil ?_
  refine c_seq ?_
  refine c_block ?_
  refine c_seqR ?_
  refine ops_cons rfl (ow_move rfl ?_)
  refine ops_cons rfl (ow_geq2 rfl rfl (fun h1 => ?_) (fun h1 => ?_))
  · skip
    refine ops_cons rfl (ow_move rfl ?_)
    refine ops_want rfl rfl rfl (ow_move rfl ?_)
    refine ops_want rfl rfl rfl (ow_leq2 rfl rfl (fun h2 => ?_) (fun h2 => ?_))
    · skip
      refine ops_cons rfl (ow_pick rfl rfl ?_)
      refine ops_cons rfl (ow_assign rfl ?_)
      refine ops_nil ?_
      refine c_true rfl ?_
      refine c_seqR ?_
      refine ops_cons rfl (ow_move rfl ?_)
      refine ops_cons rfl (ow_sub rfl rfl (w8 (by omega)) ?_)
      refine ops_cons rfl (ow_conv Try.underlying5 Try.underlying2 rfl (w64 (by omega)) ?_)
      refine ops_cons rfl (ow_assign rfl ?_)
      refine ops_nil ?_
      refine c_ret ?_
      refine bq_r ?_
      refine tq_r ?_
      refine fin_ret1 rfl rfl ?_
      refine ⟨congrArg (Value.int .i64) ?_, X⟩
      unfold hexV
      (repeat' split) <;> omega
    · skip
      refine ops_cons rfl (ow_pick rfl rfl ?_)
      refine ops_cons rfl (ow_assign rfl ?_)
      refine ops_nil ?_
      refine c_false rfl ?_
      refine c_seqR ?_
      refine ops_cons rfl (ow_move rfl ?_)
      refine ops_cons rfl (ow_geq2 rfl rfl (fun h3 => ?_) (fun h3 => ?_))
      · skip
        refine ops_cons rfl (ow_move rfl ?_)
        refine ops_want rfl rfl rfl (ow_move rfl ?_)
        refine ops_want rfl rfl rfl (ow_leq2 rfl rfl (fun h4 => ?_) (fun h4 => ?_))
        · skip
          refine ops_cons rfl (ow_pick rfl rfl ?_)
          refine ops_cons rfl (ow_assign rfl ?_)
          refine ops_nil ?_
          refine c_true rfl ?_
          refine c_seqR ?_
          refine ops_cons rfl (ow_move rfl ?_)
          refine ops_cons rfl (ow_sub rfl rfl (w8 (by omega)) ?_)
          refine ops_cons rfl (ow_conv Try.underlying5 Try.underlying2 rfl (w64 (by omega)) ?_)
          refine ops_cons rfl (ow_add rfl rfl (w64 (by omega)) ?_)
          refine ops_cons rfl (ow_assign rfl ?_)
          refine ops_nil ?_
          refine c_ret ?_
          refine bq_r ?_
          refine tq_r ?_
          refine fin_ret1 rfl rfl ?_
          refine ⟨congrArg (Value.int .i64) ?_, X⟩
          unfold hexV
          (repeat' split) <;> omega
        · skip
          refine ops_cons rfl (ow_pick rfl rfl ?_)
          refine ops_cons rfl (ow_assign rfl ?_)
          refine ops_nil ?_
          refine c_false rfl ?_
          refine c_skip ?_
          refine bq_n ?_
          refine tq_n ?_
          refine c_seqR ?_
          refine ops_cons rfl (ow_assign rfl ?_)
          refine ops_nil ?_
          refine c_ret ?_
          refine fin_ret1 rfl rfl ?_
          refine ⟨congrArg (Value.int .i64) ?_, X⟩
          unfold hexV
          (repeat' split) <;> omega
      · skip
        refine ops_cons rfl (ow_move rfl ?_)
        refine ops_skip rfl rfl rfl rfl ?_
        refine ops_skip rfl rfl rfl rfl ?_
        refine ops_cons rfl (ow_pick rfl rfl ?_)
        refine ops_cons rfl (ow_assign rfl ?_)
        refine ops_nil ?_
        refine c_false rfl ?_
        refine c_skip ?_
        refine bq_n ?_
        refine tq_n ?_
        refine c_seqR ?_
        refine ops_cons rfl (ow_assign rfl ?_)
        refine ops_nil ?_
        refine c_ret ?_
        refine fin_ret1 rfl rfl ?_
        refine ⟨congrArg (Value.int .i64) ?_, X⟩
        unfold hexV
        (repeat' split) <;> omega
  · skip
    refine ops_cons rfl (ow_move rfl ?_)
    refine ops_skip rfl rfl rfl rfl ?_
    refine ops_skip rfl rfl rfl rfl ?_
    refine ops_cons rfl (ow_pick rfl rfl ?_)
    refine ops_cons rfl (ow_assign rfl ?_)
    refine ops_nil ?_
    refine c_false rfl ?_
    refine c_seqR ?_
    refine ops_cons rfl (ow_move rfl ?_)
    refine ops_cons rfl (ow_geq2 rfl rfl (fun h5 => ?_) (fun h5 => ?_))
    · skip
      refine ops_cons rfl (ow_move rfl ?_)
      refine ops_want rfl rfl rfl (ow_move rfl ?_)
      refine ops_want rfl rfl rfl (ow_leq2 rfl rfl (fun h6 => ?_) (fun h6 => ?_))
      · skip
        refine ops_cons rfl (ow_pick rfl rfl ?_)
        refine ops_cons rfl (ow_assign rfl ?_)
        refine ops_nil ?_
        refine c_true rfl ?_
        refine c_seqR ?_
        refine ops_cons rfl (ow_move rfl ?_)
        refine ops_cons rfl (ow_sub rfl rfl (w8 (by omega)) ?_)
        refine ops_cons rfl (ow_conv Try.underlying5 Try.underlying2 rfl (w64 (by omega)) ?_)
        refine ops_cons rfl (ow_add rfl rfl (w64 (by omega)) ?_)
        refine ops_cons rfl (ow_assign rfl ?_)
        refine ops_nil ?_
        refine c_ret ?_
        refine bq_r ?_
        refine tq_r ?_
        refine fin_ret1 rfl rfl ?_
        refine ⟨congrArg (Value.int .i64) ?_, X⟩
        unfold hexV
        (repeat' split) <;> omega
      · skip
        refine ops_cons rfl (ow_pick rfl rfl ?_)
        refine ops_cons rfl (ow_assign rfl ?_)
        refine ops_nil ?_
        refine c_false rfl ?_
        refine c_skip ?_
        refine bq_n ?_
        refine tq_n ?_
        refine c_seqR ?_
        refine ops_cons rfl (ow_assign rfl ?_)
        refine ops_nil ?_
        refine c_ret ?_
        refine fin_ret1 rfl rfl ?_
        refine ⟨congrArg (Value.int .i64) ?_, X⟩
        unfold hexV
        (repeat' split) <;> omega
    · skip
      refine ops_cons rfl (ow_move rfl ?_)
      refine ops_skip rfl rfl rfl rfl ?_
      refine ops_skip rfl rfl rfl rfl ?_
      refine ops_cons rfl (ow_pick rfl rfl ?_)
      refine ops_cons rfl (ow_assign rfl ?_)
      refine ops_nil ?_
      refine c_false rfl ?_
      refine c_skip ?_
      refine bq_n ?_
      refine tq_n ?_
      refine c_seqR ?_
      refine ops_cons rfl (ow_assign rfl ?_)
      refine ops_nil ?_
      refine c_ret ?_
      refine fin_ret1 rfl rfl ?_
      refine ⟨congrArg (Value.int .i64) ?_, X⟩
      unfold hexV
      (repeat' split) <;> omega

theorem hexDigit_c (b : UInt8) (w : World)  :
    Calls Try.prog 69 #[.int .u8 (b.toNat : Nat)] w (Ret fun v w' => v = .int .i64 (hexV b) ∧ Ext w w') := by
  have hb := b.toNat_lt
  have X := Ext.refl w
  refine calls_of (args := [.int .u8 (b.toNat : Nat)]) Try.func69 Try.ntmps69 rfl rfl ?_
  refine c_seqR ?_
  refine ops_cons rfl (ow_assign rfl ?_)
  refine ops_nil ?_
  refine c_seq ?_
  refine c_block ?_
  refine c_seqR ?_
  refine ops_cons rfl (ow_move rfl ?_)
  refine ops_cons rfl (ow_geq2 rfl rfl (fun h1 => ?_) (fun h1 => ?_))
  · skip
    refine ops_cons rfl (ow_move rfl ?_)
    refine ops_want rfl rfl rfl (ow_move rfl ?_)
    refine ops_want rfl rfl rfl (ow_leq2 rfl rfl (fun h2 => ?_) (fun h2 => ?_))
    · skip
      refine ops_cons rfl (ow_pick rfl rfl ?_)
      refine ops_cons rfl (ow_assign rfl ?_)
      refine ops_nil ?_
      refine c_true rfl ?_
      refine c_seqR ?_
      refine ops_cons rfl (ow_move rfl ?_)
      refine ops_cons rfl (ow_sub rfl rfl (w8 (by omega)) ?_)
      refine ops_cons rfl (ow_conv Try.underlying5 Try.underlying2 rfl (w64 (by omega)) ?_)
      refine ops_cons rfl (ow_assign rfl ?_)
      refine ops_nil ?_
      refine c_ret ?_
      refine bq_r ?_
      refine tq_r ?_
      refine fin_ret1 rfl rfl ?_
      refine ⟨congrArg (Value.int .i64) ?_, X⟩
      unfold hexV
      (repeat' split) <;> omega
    · skip
      refine ops_cons rfl (ow_pick rfl rfl ?_)
      refine ops_cons rfl (ow_assign rfl ?_)
      refine ops_nil ?_
      refine c_false rfl ?_
      refine c_seqR ?_
      refine ops_cons rfl (ow_move rfl ?_)
      refine ops_cons rfl (ow_geq2 rfl rfl (fun h3 => ?_) (fun h3 => ?_))
      · skip
        refine ops_cons rfl (ow_move rfl ?_)
        refine ops_want rfl rfl rfl (ow_move rfl ?_)
        refine ops_want rfl rfl rfl (ow_leq2 rfl rfl (fun h4 => ?_) (fun h4 => ?_))
        · skip
          refine ops_cons rfl (ow_pick rfl rfl ?_)
          refine ops_cons rfl (ow_assign rfl ?_)
          refine ops_nil ?_
          refine c_true rfl ?_
          refine c_seqR ?_
          refine ops_cons rfl (ow_move rfl ?_)
          refine ops_cons rfl (ow_sub rfl rfl (w8 (by omega)) ?_)
          refine ops_cons rfl (ow_conv Try.underlying5 Try.underlying2 rfl (w64 (by omega)) ?_)
          refine ops_cons rfl (ow_add rfl rfl (w64 (by omega)) ?_)
          refine ops_cons rfl (ow_assign rfl ?_)
          refine ops_nil ?_
          refine c_ret ?_
          refine bq_r ?_
          refine tq_r ?_
          refine fin_ret1 rfl rfl ?_
          refine ⟨congrArg (Value.int .i64) ?_, X⟩
          unfold hexV
          (repeat' split) <;> omega
        · skip
          refine ops_cons rfl (ow_pick rfl rfl ?_)
          refine ops_cons rfl (ow_assign rfl ?_)
          refine ops_nil ?_
          refine c_false rfl ?_
          refine c_skip ?_
          refine bq_n ?_
          refine tq_n ?_
          refine c_seqR ?_
          refine ops_cons rfl (ow_assign rfl ?_)
          refine ops_nil ?_
          refine c_ret ?_
          refine fin_ret1 rfl rfl ?_
          refine ⟨congrArg (Value.int .i64) ?_, X⟩
          unfold hexV
          (repeat' split) <;> omega
      · skip
        refine ops_cons rfl (ow_move rfl ?_)
        refine ops_skip rfl rfl rfl rfl ?_
        refine ops_skip rfl rfl rfl rfl ?_
        refine ops_cons rfl (ow_pick rfl rfl ?_)
        refine ops_cons rfl (ow_assign rfl ?_)
        refine ops_nil ?_
        refine c_false rfl ?_
        refine c_skip ?_
        refine bq_n ?_
        refine tq_n ?_
        refine c_seqR ?_
        refine ops_cons rfl (ow_assign rfl ?_)
        refine ops_nil ?_
        refine c_ret ?_
        refine fin_ret1 rfl rfl ?_
        refine ⟨congrArg (Value.int .i64) ?_, X⟩
        unfold hexV
        (repeat' split) <;> omega
  · skip
    refine ops_cons rfl (ow_move rfl ?_)
    refine ops_skip rfl rfl rfl rfl ?_
    refine ops_skip rfl rfl rfl rfl ?_
    refine ops_cons rfl (ow_pick rfl rfl ?_)
    refine ops_cons rfl (ow_assign rfl ?_)
    refine ops_nil ?_
    refine c_false rfl ?_
    refine c_seqR ?_
    refine ops_cons rfl (ow_move rfl ?_)
    refine ops_cons rfl (ow_geq2 rfl rfl (fun h5 => ?_) (fun h5 => ?_))
    · skip
      refine ops_cons rfl (ow_move rfl ?_)
      refine ops_want rfl rfl rfl (ow_move rfl ?_)
      refine ops_want rfl rfl rfl (ow_leq2 rfl rfl (fun h6 => ?_) (fun h6 => ?_))
      · skip
        refine ops_cons rfl (ow_pick rfl rfl ?_)
        refine ops_cons rfl (ow_assign rfl ?_)
        refine ops_nil ?_
        refine c_true rfl ?_
        refine c_seqR ?_
        refine ops_cons rfl (ow_move rfl ?_)
        refine ops_cons rfl (ow_sub rfl rfl (w8 (by omega)) ?_)
        refine ops_cons rfl (ow_conv Try.underlying5 Try.underlying2 rfl (w64 (by omega)) ?_)
        refine ops_cons rfl (ow_add rfl rfl (w64 (by omega)) ?_)
        refine ops_cons rfl (ow_assign rfl ?_)
        refine ops_nil ?_
        refine c_ret ?_
        refine bq_r ?_
        refine tq_r ?_
        refine fin_ret1 rfl rfl ?_
        refine ⟨congrArg (Value.int .i64) ?_, X⟩
        unfold hexV
        (repeat' split) <;> omega
      · skip
        refine ops_cons rfl (ow_pick rfl rfl ?_)
        refine ops_cons rfl (ow_assign rfl ?_)
        refine ops_nil ?_
        refine c_false rfl ?_
        refine c_skip ?_
        refine bq_n ?_
        refine tq_n ?_
        refine c_seqR ?_
        refine ops_cons rfl (ow_assign rfl ?_)
        refine ops_nil ?_
        refine c_ret ?_
        refine fin_ret1 rfl rfl ?_
        refine ⟨congrArg (Value.int .i64) ?_, X⟩
        unfold hexV
        (repeat' split) <;> omega
    · skip
      refine ops_cons rfl (ow_move rfl ?_)
      refine ops_skip rfl rfl rfl rfl ?_
      refine ops_skip rfl rfl rfl rfl ?_
      refine ops_cons rfl (ow_pick rfl rfl ?_)
      refine ops_cons rfl (ow_assign rfl ?_)
      refine ops_nil ?_
      refine c_false rfl ?_
      refine c_skip ?_
      refine bq_n ?_
      refine tq_n ?_
      refine c_seqR ?_
      refine ops_cons rfl (ow_assign rfl ?_)
      refine ops_nil ?_
      refine c_ret ?_
      refine fin_ret1 rfl rfl ?_
      refine ⟨congrArg (Value.int .i64) ?_, X⟩
      unfold hexV
      (repeat' split) <;> omega

theorem sRd_c (s : ByteArray) (w : World) (hz : s.size ≤ 1048576) :
    Calls Try.prog 19 #[.string s] w (Ret fun v w' => ∃ A' c', v = .tuple #[.slice A' (rd s).1.length c', .bool (rd s).2] ∧ Own w' w.heap.size 2 1 A' (rd s).1.length c' ((rd s).1.flatMap eI) ∧ Ext w w') := by
  have X := Ext.refl w
  refine calls_of (args := [.string s]) Try.func19 Try.ntmps19 rfl rfl ?_
  refine c_seqR ?_
  refine ops_cons rfl (ow_assign rfl ?_)
  refine ops_cons rfl (ow_assign rfl ?_)
  refine ops_nil ?_
  refine c_seq ?_
  refine c_seqR ?_
  refine ops_cons rfl (ow_move rfl ?_)
  refine ops_cons rfl (ow_lenS Try.underlying9 rfl ?_)
  refine ops_cons rfl (ow_rem rfl rfl (by omega) (m64 (by omega)) ?_)
  refine ops_cons rfl (ow_neq2 rfl rfl (fun h1 => ?_) (fun h1 => ?_))
  · skip
    refine ops_cons rfl (ow_move rfl ?_)
    refine ops_skip rfl rfl rfl rfl ?_
    refine ops_skip rfl rfl rfl rfl ?_
    refine ops_skip rfl rfl rfl rfl ?_
    refine ops_cons rfl (ow_pick rfl rfl ?_)
    refine ops_nil ?_
    refine c_true rfl ?_
    refine c_seqR ?_
    refine ops_cons rfl (ow_assign rfl ?_)
    refine ops_cons rfl (ow_assign rfl ?_)
    refine ops_nil ?_
    refine c_ret ?_
    refine tq_r ?_
    refine fin_ret2 rfl rfl rfl ?_
    first
    | (have e : rd s = ([], false) := by
        unfold rd; first | rw [if_pos (by omega)] | (rw [if_neg (by omega), hr, dx, rdG, if_pos (by omega)]; rfl)
       rw [e]; exact ⟨none, 0, rfl, Own.nil_ _ _ _ _, X⟩)
    | (have e : rd s = (ys, true) := by
        unfold rd; rw [if_neg (by omega), hr, List.drop_eq_nil_of_le (by have : s.data.toList.length = s.size := rfl; omega)]; simp [rdG]
       rw [e, ← hn]; exact ⟨A1, c1, rfl, oO, X⟩)
  · skip
    refine ops_cons rfl (ow_move rfl ?_)
    refine ops_want rfl rfl rfl (ow_move rfl ?_)
    refine ops_want rfl rfl rfl (ow_lenS Try.underlying9 rfl ?_)
    refine ops_want rfl rfl rfl (ow_gtr2 rfl rfl (fun h2 => ?_) (fun h2 => ?_))
    · skip
      refine ops_cons rfl (ow_pick rfl rfl ?_)
      refine ops_nil ?_
      refine c_true rfl ?_
      refine c_seqR ?_
      refine ops_cons rfl (ow_assign rfl ?_)
      refine ops_cons rfl (ow_assign rfl ?_)
      refine ops_nil ?_
      refine c_ret ?_
      refine tq_r ?_
      refine fin_ret2 rfl rfl rfl ?_
      first
      | (have e : rd s = ([], false) := by
          unfold rd; first | rw [if_pos (by omega)] | (rw [if_neg (by omega), hr, dx, rdG, if_pos (by omega)]; rfl)
         rw [e]; exact ⟨none, 0, rfl, Own.nil_ _ _ _ _, X⟩)
      | (have e : rd s = (ys, true) := by
          unfold rd; rw [if_neg (by omega), hr, List.drop_eq_nil_of_le (by have : s.data.toList.length = s.size := rfl; omega)]; simp [rdG]
         rw [e, ← hn]; exact ⟨A1, c1, rfl, oO, X⟩)
    · skip
      refine ops_cons rfl (ow_pick rfl rfl ?_)
      refine ops_nil ?_
      refine c_false rfl ?_
      refine c_skip ?_
      refine tq_n ?_
      refine c_seqR ?_
      refine ops_cons rfl (ow_buildSlice el24 ti2 rfl rfl rfl rfl rfl ?_)
      intro gO w4 egO oO bbgO x3 zgO
      replace oO := Own.low oO X.size
      replace X := Ext.trans X x3; clear x3
      refine ops_cons rfl (ow_assign rfl ?_)
      refine ops_nil ?_
      refine c_seq ?_
      refine c_seqR ?_
      refine ops_cons rfl (ow_assign rfl ?_)
      refine ops_nil ?_
      refine c_block ?_
      refine c_loop (G := Nat × Nat × List Int × Option Addr × Nat) (fun ⟨i, n, ys, A1, c1⟩ => [(0, .string s), (4, .slice A1 n c1), (5, .int .i64 (i : Nat))]) (fun ⟨i, n, ys, A1, c1⟩ wr => i ≤ s.size ∧ i % 2 = 0 ∧ n = ys.length ∧ 2 * n = i ∧ rdG s.data.toList = (rdG (s.data.toList.drop i)).map (ys ++ ·) ∧ Own wr w.heap.size 2 1 A1 n c1 (ys.flatMap eI) ∧ Ext w wr) (fun ⟨i, n, ys, A1, c1⟩ => s.size - i) (0, 0, [], some ⟨gO, 0, none⟩, 0) (.cons rfl (.cons rfl (.cons rfl (.nil _)))) ?_ ?_
      · exact ⟨by omega, rfl, rfl, rfl, by simp, oO, X⟩
      clear oO
      clear X
      rintro ⟨i, n, ys, A1, c1⟩ wr ⟨hi, he, hn, h2, hr, oO, X⟩
      refine c_seq ?_
      refine c_seqR ?_
      refine ops_cons rfl (ow_move rfl ?_)
      refine ops_cons rfl (ow_move rfl ?_)
      refine ops_cons rfl (ow_lenS Try.underlying9 rfl ?_)
      refine ops_cons rfl (ow_lss2 rfl rfl (fun hk => ?_) (fun hk => ?_))
      · skip
        have hi2 : i + 1 < s.data.toList.length := by have : s.data.toList.length = s.size := rfl; omega
        have dx := drop2 hi2
        have va := hexV_le (s.data.toList.getD (i : Int).toNat 0)
        have vb := hexV_le (s.data.toList.getD ((i : Int) + 1).toNat 0)
        refine ops_nil ?_
        refine c_true rfl ?_
        refine c_skip ?_
        refine tq_n ?_
        refine c_seq ?_
        refine c_block ?_
        refine c_seqD [false, false, false, false, false, false, false, false, false, false, false] mixed (by kernel_rfl) ?_
        refine f_q rfl (fun wq sq => ow_move rfl ⟨rfl, Ext.refl _⟩) ?_
        refine f_q rfl (fun wq sq => ow_move rfl ⟨rfl, Ext.refl _⟩) ?_
        refine f_q rfl (fun wq sq => ow_indexS Try.underlying9 rfl rfl (by omega) (by omega) ⟨rfl, Ext.refl _⟩) ?_
        refine f_q rfl (fun wq sq => ow_call ent72 rfl (l14Digit_c _ _)) ?_
        refine f_q rfl (fun wq sq => ow_move rfl ⟨rfl, Ext.refl _⟩) ?_
        refine f_q rfl (fun wq sq => ow_move rfl ⟨rfl, Ext.refl _⟩) ?_
        refine f_q rfl (fun wq sq => ow_add rfl rfl (w64 (by omega)) ⟨rfl, Ext.refl _⟩) ?_
        refine f_q rfl (fun wq sq => ow_indexS Try.underlying9 rfl rfl (by omega) (by omega) ⟨rfl, Ext.refl _⟩) ?_
        refine f_q rfl (fun wq sq => ow_call ent72 rfl (l14Digit_c _ _)) ?_
        refine f_q rfl (fun wq sq => ow_assign rfl ⟨rfl, Ext.refl _⟩) ?_
        refine f_q rfl (fun wq sq => ow_assign rfl ⟨rfl, Ext.refl _⟩) ?_
        refine f_nil (fun w5 sq => ?_)
        have xq := sq
        replace oO := oO.ext xq
        replace X := Ext.trans X xq; clear xq sq
        refine ops_nil ?_
        refine c_seq ?_
        refine c_seqR ?_
        refine ops_cons rfl (ow_move rfl ?_)
        refine ops_cons rfl (ow_lss2 rfl rfl (fun h6 => ?_) (fun h6 => ?_))
        · skip
          refine ops_cons rfl (ow_move rfl ?_)
          refine ops_skip rfl rfl rfl rfl ?_
          refine ops_skip rfl rfl rfl rfl ?_
          refine ops_cons rfl (ow_pick rfl rfl ?_)
          refine ops_nil ?_
          refine c_true rfl ?_
          refine c_seqR ?_
          refine ops_cons rfl (ow_assign rfl ?_)
          refine ops_cons rfl (ow_assign rfl ?_)
          refine ops_nil ?_
          refine c_ret ?_
          refine tq_r ?_
          refine bq_r ?_
          refine tq_r ?_
          refine tq_r ?_
          refine bq_r ?_
          refine tq_r ?_
          refine fin_ret2 rfl rfl rfl ?_
          first
          | (have e : rd s = ([], false) := by
              unfold rd; first | rw [if_pos (by omega)] | (rw [if_neg (by omega), hr, dx, rdG, if_pos (by omega)]; rfl)
             rw [e]; exact ⟨none, 0, rfl, Own.nil_ _ _ _ _, X⟩)
          | (have e : rd s = (ys, true) := by
              unfold rd; rw [if_neg (by omega), hr, List.drop_eq_nil_of_le (by have : s.data.toList.length = s.size := rfl; omega)]; simp [rdG]
             rw [e, ← hn]; exact ⟨A1, c1, rfl, oO, X⟩)
        · skip
          refine ops_cons rfl (ow_move rfl ?_)
          refine ops_want rfl rfl rfl (ow_move rfl ?_)
          refine ops_want rfl rfl rfl (ow_lss2 rfl rfl (fun h7 => ?_) (fun h7 => ?_))
          · skip
            refine ops_cons rfl (ow_pick rfl rfl ?_)
            refine ops_nil ?_
            refine c_true rfl ?_
            refine c_seqR ?_
            refine ops_cons rfl (ow_assign rfl ?_)
            refine ops_cons rfl (ow_assign rfl ?_)
            refine ops_nil ?_
            refine c_ret ?_
            refine tq_r ?_
            refine bq_r ?_
            refine tq_r ?_
            refine tq_r ?_
            refine bq_r ?_
            refine tq_r ?_
            refine fin_ret2 rfl rfl rfl ?_
            first
            | (have e : rd s = ([], false) := by
                unfold rd; first | rw [if_pos (by omega)] | (rw [if_neg (by omega), hr, dx, rdG, if_pos (by omega)]; rfl)
               rw [e]; exact ⟨none, 0, rfl, Own.nil_ _ _ _ _, X⟩)
            | (have e : rd s = (ys, true) := by
                unfold rd; rw [if_neg (by omega), hr, List.drop_eq_nil_of_le (by have : s.data.toList.length = s.size := rfl; omega)]; simp [rdG]
               rw [e, ← hn]; exact ⟨A1, c1, rfl, oO, X⟩)
          · skip
            refine ops_cons rfl (ow_pick rfl rfl ?_)
            refine ops_nil ?_
            refine c_false rfl ?_
            refine c_skip ?_
            refine tq_n ?_
            refine c_region ?_
            refine ops_cons rfl (ow_move rfl ?_)
            refine ops_cons rfl (ow_move rfl ?_)
            refine ops_cons rfl (ow_mul rfl rfl (w64 (by omega)) ?_)
            refine ops_cons rfl (ow_move rfl ?_)
            refine ops_cons rfl (ow_add rfl rfl (w64 (by omega)) ?_)
            refine ops_cons rfl (ow_buildSlice el24 ti2 rfl rfl rfl rfl rfl ?_)
            intro g8 w10 eg8 oS bbg8 x9 zg8
            replace oS := Own.low oS X.size
            replace oO := oO.ext x9
            replace X := Ext.trans X x9; clear x9
            refine ops_cons rfl (ow_append (ts := #[]) oO X.size oS.sl (by first | rfl | simp) (by first | exact List.all_eq_true.1 rfl | simp [Value.oneCell']) el24 ti2 rfl rfl rfl rfl (by omega) (by omega) ?_)
            intro AoN coN w12 oN hg11
            replace X := X.grown hg11 X.size (fun g hg => (Own.lt oO hg).1)
            clear hg11
            refine ops_cons rfl (ow_assign rfl ?_)
            refine ops_nil ?_
            refine bq_n ?_
            refine tq_n ?_
            refine c_region ?_
            refine ops_cons rfl (ow_move rfl ?_)
            refine ops_cons rfl (ow_add rfl rfl (w64 (by omega)) ?_)
            refine ops_cons rfl (ow_assign rfl ?_)
            refine ops_nil ?_
            refine tq_n ⟨(i + 2, n + 1, ys ++ [16 * hexV (s.data.toList.getD (i : Int).toNat 0) + hexV (s.data.toList.getD ((i : Int) + 1).toNat 0)], AoN, coN), (.cons rfl (.cons rfl (.cons rfl (.nil _)))), ?_, ?_⟩
            · exact ⟨by omega, by omega, by simp [hn], by omega, by rw [hr, dx, rdG, if_neg (by omega)]; simp [Option.map_map, Function.comp_def], oN.to (snoc eI ys _).symm, X⟩
            · dsimp only; omega
      · skip
        refine ops_nil ?_
        refine c_false rfl ?_
        refine c_exit ?_
        refine tq_e ?_
        refine tq_e ?_
        refine bq_e ?_
        refine tq_n ?_
        refine c_seqR ?_
        refine ops_cons rfl (ow_move rfl ?_)
        refine ops_cons rfl (ow_assign rfl ?_)
        refine ops_cons rfl (ow_assign rfl ?_)
        refine ops_nil ?_
        refine c_ret ?_
        refine fin_ret2 rfl rfl rfl ?_
        first
        | (have e : rd s = ([], false) := by
            unfold rd; first | rw [if_pos (by omega)] | (rw [if_neg (by omega), hr, dx, rdG, if_pos (by omega)]; rfl)
           rw [e]; exact ⟨none, 0, rfl, Own.nil_ _ _ _ _, X⟩)
        | (have e : rd s = (ys, true) := by
            unfold rd; rw [if_neg (by omega), hr, List.drop_eq_nil_of_le (by have : s.data.toList.length = s.size := rfl; omega)]; simp [rdG]
           rw [e, ← hn]; exact ⟨A1, c1, rfl, oO, X⟩)

theorem iRd_c (s : ByteArray) (w : World) (hz : s.size ≤ 1048576) :
    Calls Try.prog 17 #[.string s] w (Ret fun v w' => ∃ A' c', v = .tuple #[.slice A' (rd s).1.length c', .bool (rd s).2] ∧ Own w' w.heap.size 2 1 A' (rd s).1.length c' ((rd s).1.flatMap eI) ∧ Ext w w') := by
  have X := Ext.refl w
  refine calls_of (args := [.string s]) Try.func17 Try.ntmps17 rfl rfl ?_
  refine c_seqR ?_
  refine ops_cons rfl (ow_assign rfl ?_)
  refine ops_cons rfl (ow_assign rfl ?_)
  refine ops_nil ?_
  refine c_seq ?_
  refine c_seqR ?_
  refine ops_cons rfl (ow_move rfl ?_)
  refine ops_cons rfl (ow_lenS Try.underlying9 rfl ?_)
  refine ops_cons rfl (ow_rem rfl rfl (by omega) (m64 (by omega)) ?_)
  refine ops_cons rfl (ow_neq2 rfl rfl (fun h1 => ?_) (fun h1 => ?_))
  · skip
    refine ops_cons rfl (ow_move rfl ?_)
    refine ops_skip rfl rfl rfl rfl ?_
    refine ops_skip rfl rfl rfl rfl ?_
    refine ops_skip rfl rfl rfl rfl ?_
    refine ops_skip rfl rfl rfl rfl ?_
    refine ops_cons rfl (ow_pick rfl rfl ?_)
    refine ops_nil ?_
    refine c_true rfl ?_
    refine c_seqR ?_
    refine ops_cons rfl (ow_assign rfl ?_)
    refine ops_cons rfl (ow_assign rfl ?_)
    refine ops_nil ?_
    refine c_ret ?_
    refine tq_r ?_
    refine fin_ret2 rfl rfl rfl ?_
    first
    | (have e : rd s = ([], false) := by
        unfold rd; first | rw [if_pos (by omega)] | (rw [if_neg (by omega), hr, dx, rdG, if_pos (by omega)]; rfl)
       rw [e]; exact ⟨none, 0, rfl, Own.nil_ _ _ _ _, X⟩)
    | (have e : rd s = (ys, true) := by
        unfold rd; rw [if_neg (by omega), hr, List.drop_eq_nil_of_le (by have : s.data.toList.length = s.size := rfl; omega)]; simp [rdG]
       rw [e, ← hn]; exact ⟨A1, c1, rfl, oO, X⟩)
  · skip
    refine ops_cons rfl (ow_move rfl ?_)
    refine ops_want rfl rfl rfl (ow_move rfl ?_)
    refine ops_want rfl rfl rfl (ow_lenS Try.underlying9 rfl ?_)
    refine ops_want rfl rfl rfl (ow_quo rfl rfl (by omega) (q64 (by omega)) ?_)
    refine ops_want rfl rfl rfl (ow_gtr2 rfl rfl (fun h2 => ?_) (fun h2 => ?_))
    · skip
      refine ops_cons rfl (ow_pick rfl rfl ?_)
      refine ops_nil ?_
      refine c_true rfl ?_
      refine c_seqR ?_
      refine ops_cons rfl (ow_assign rfl ?_)
      refine ops_cons rfl (ow_assign rfl ?_)
      refine ops_nil ?_
      refine c_ret ?_
      refine tq_r ?_
      refine fin_ret2 rfl rfl rfl ?_
      first
      | (have e : rd s = ([], false) := by
          unfold rd; first | rw [if_pos (by omega)] | (rw [if_neg (by omega), hr, dx, rdG, if_pos (by omega)]; rfl)
         rw [e]; exact ⟨none, 0, rfl, Own.nil_ _ _ _ _, X⟩)
      | (have e : rd s = (ys, true) := by
          unfold rd; rw [if_neg (by omega), hr, List.drop_eq_nil_of_le (by have : s.data.toList.length = s.size := rfl; omega)]; simp [rdG]
         rw [e, ← hn]; exact ⟨A1, c1, rfl, oO, X⟩)
    · skip
      refine ops_cons rfl (ow_pick rfl rfl ?_)
      refine ops_nil ?_
      refine c_false rfl ?_
      refine c_skip ?_
      refine tq_n ?_
      refine c_seqR ?_
      refine ops_cons rfl (ow_buildSlice el24 ti2 rfl rfl rfl rfl rfl ?_)
      intro gO w4 egO oO bbgO x3 zgO
      replace oO := Own.low oO X.size
      replace X := Ext.trans X x3; clear x3
      refine ops_cons rfl (ow_assign rfl ?_)
      refine ops_nil ?_
      refine c_seq ?_
      refine c_seqR ?_
      refine ops_cons rfl (ow_assign rfl ?_)
      refine ops_nil ?_
      refine c_block ?_
      refine c_loop (G := Nat × Nat × List Int × Option Addr × Nat) (fun ⟨i, n, ys, A1, c1⟩ => [(0, .string s), (4, .slice A1 n c1), (5, .int .i64 (i : Nat))]) (fun ⟨i, n, ys, A1, c1⟩ wr => i ≤ s.size ∧ i % 2 = 0 ∧ n = ys.length ∧ 2 * n = i ∧ rdG s.data.toList = (rdG (s.data.toList.drop i)).map (ys ++ ·) ∧ Own wr w.heap.size 2 1 A1 n c1 (ys.flatMap eI) ∧ Ext w wr) (fun ⟨i, n, ys, A1, c1⟩ => s.size - i) (0, 0, [], some ⟨gO, 0, none⟩, 0) (.cons rfl (.cons rfl (.cons rfl (.nil _)))) ?_ ?_
      · exact ⟨by omega, rfl, rfl, rfl, by simp, oO, X⟩
      clear oO
      clear X
      rintro ⟨i, n, ys, A1, c1⟩ wr ⟨hi, he, hn, h2, hr, oO, X⟩
      refine c_seq ?_
      refine c_seqR ?_
      refine ops_cons rfl (ow_move rfl ?_)
      refine ops_cons rfl (ow_move rfl ?_)
      refine ops_cons rfl (ow_lenS Try.underlying9 rfl ?_)
      refine ops_cons rfl (ow_lss2 rfl rfl (fun hk => ?_) (fun hk => ?_))
      · skip
        have hi2 : i + 1 < s.data.toList.length := by have : s.data.toList.length = s.size := rfl; omega
        have dx := drop2 hi2
        have va := hexV_le (s.data.toList.getD (i : Int).toNat 0)
        have vb := hexV_le (s.data.toList.getD ((i : Int) + 1).toNat 0)
        refine ops_nil ?_
        refine c_true rfl ?_
        refine c_skip ?_
        refine tq_n ?_
        refine c_seq ?_
        refine c_block ?_
        refine c_seqD [false, false, false, false, false, false, false, false, false, false, false] mixed (by kernel_rfl) ?_
        refine f_q rfl (fun wq sq => ow_move rfl ⟨rfl, Ext.refl _⟩) ?_
        refine f_q rfl (fun wq sq => ow_move rfl ⟨rfl, Ext.refl _⟩) ?_
        refine f_q rfl (fun wq sq => ow_indexS Try.underlying9 rfl rfl (by omega) (by omega) ⟨rfl, Ext.refl _⟩) ?_
        refine f_q rfl (fun wq sq => ow_call ent69 rfl (hexDigit_c _ _)) ?_
        refine f_q rfl (fun wq sq => ow_move rfl ⟨rfl, Ext.refl _⟩) ?_
        refine f_q rfl (fun wq sq => ow_move rfl ⟨rfl, Ext.refl _⟩) ?_
        refine f_q rfl (fun wq sq => ow_add rfl rfl (w64 (by omega)) ⟨rfl, Ext.refl _⟩) ?_
        refine f_q rfl (fun wq sq => ow_indexS Try.underlying9 rfl rfl (by omega) (by omega) ⟨rfl, Ext.refl _⟩) ?_
        refine f_q rfl (fun wq sq => ow_call ent69 rfl (hexDigit_c _ _)) ?_
        refine f_q rfl (fun wq sq => ow_assign rfl ⟨rfl, Ext.refl _⟩) ?_
        refine f_q rfl (fun wq sq => ow_assign rfl ⟨rfl, Ext.refl _⟩) ?_
        refine f_nil (fun w5 sq => ?_)
        have xq := sq
        replace oO := oO.ext xq
        replace X := Ext.trans X xq; clear xq sq
        refine ops_nil ?_
        refine c_seq ?_
        refine c_seqR ?_
        refine ops_cons rfl (ow_move rfl ?_)
        refine ops_cons rfl (ow_lss2 rfl rfl (fun h6 => ?_) (fun h6 => ?_))
        · skip
          refine ops_cons rfl (ow_move rfl ?_)
          refine ops_skip rfl rfl rfl rfl ?_
          refine ops_skip rfl rfl rfl rfl ?_
          refine ops_cons rfl (ow_pick rfl rfl ?_)
          refine ops_nil ?_
          refine c_true rfl ?_
          refine c_seqR ?_
          refine ops_cons rfl (ow_assign rfl ?_)
          refine ops_cons rfl (ow_assign rfl ?_)
          refine ops_nil ?_
          refine c_ret ?_
          refine tq_r ?_
          refine bq_r ?_
          refine tq_r ?_
          refine tq_r ?_
          refine bq_r ?_
          refine tq_r ?_
          refine fin_ret2 rfl rfl rfl ?_
          first
          | (have e : rd s = ([], false) := by
              unfold rd; first | rw [if_pos (by omega)] | (rw [if_neg (by omega), hr, dx, rdG, if_pos (by omega)]; rfl)
             rw [e]; exact ⟨none, 0, rfl, Own.nil_ _ _ _ _, X⟩)
          | (have e : rd s = (ys, true) := by
              unfold rd; rw [if_neg (by omega), hr, List.drop_eq_nil_of_le (by have : s.data.toList.length = s.size := rfl; omega)]; simp [rdG]
             rw [e, ← hn]; exact ⟨A1, c1, rfl, oO, X⟩)
        · skip
          refine ops_cons rfl (ow_move rfl ?_)
          refine ops_want rfl rfl rfl (ow_move rfl ?_)
          refine ops_want rfl rfl rfl (ow_lss2 rfl rfl (fun h7 => ?_) (fun h7 => ?_))
          · skip
            refine ops_cons rfl (ow_pick rfl rfl ?_)
            refine ops_nil ?_
            refine c_true rfl ?_
            refine c_seqR ?_
            refine ops_cons rfl (ow_assign rfl ?_)
            refine ops_cons rfl (ow_assign rfl ?_)
            refine ops_nil ?_
            refine c_ret ?_
            refine tq_r ?_
            refine bq_r ?_
            refine tq_r ?_
            refine tq_r ?_
            refine bq_r ?_
            refine tq_r ?_
            refine fin_ret2 rfl rfl rfl ?_
            first
            | (have e : rd s = ([], false) := by
                unfold rd; first | rw [if_pos (by omega)] | (rw [if_neg (by omega), hr, dx, rdG, if_pos (by omega)]; rfl)
               rw [e]; exact ⟨none, 0, rfl, Own.nil_ _ _ _ _, X⟩)
            | (have e : rd s = (ys, true) := by
                unfold rd; rw [if_neg (by omega), hr, List.drop_eq_nil_of_le (by have : s.data.toList.length = s.size := rfl; omega)]; simp [rdG]
               rw [e, ← hn]; exact ⟨A1, c1, rfl, oO, X⟩)
          · skip
            refine ops_cons rfl (ow_pick rfl rfl ?_)
            refine ops_nil ?_
            refine c_false rfl ?_
            refine c_skip ?_
            refine tq_n ?_
            refine c_region ?_
            refine ops_cons rfl (ow_move rfl ?_)
            refine ops_cons rfl (ow_move rfl ?_)
            refine ops_cons rfl (ow_mul rfl rfl (w64 (by omega)) ?_)
            refine ops_cons rfl (ow_move rfl ?_)
            refine ops_cons rfl (ow_add rfl rfl (w64 (by omega)) ?_)
            refine ops_cons rfl (ow_buildSlice el24 ti2 rfl rfl rfl rfl rfl ?_)
            intro g8 w10 eg8 oS bbg8 x9 zg8
            replace oS := Own.low oS X.size
            replace oO := oO.ext x9
            replace X := Ext.trans X x9; clear x9
            refine ops_cons rfl (ow_append (ts := #[]) oO X.size oS.sl (by first | rfl | simp) (by first | exact List.all_eq_true.1 rfl | simp [Value.oneCell']) el24 ti2 rfl rfl rfl rfl (by omega) (by omega) ?_)
            intro AoN coN w12 oN hg11
            replace X := X.grown hg11 X.size (fun g hg => (Own.lt oO hg).1)
            clear hg11
            refine ops_cons rfl (ow_assign rfl ?_)
            refine ops_nil ?_
            refine bq_n ?_
            refine tq_n ?_
            refine c_region ?_
            refine ops_cons rfl (ow_move rfl ?_)
            refine ops_cons rfl (ow_add rfl rfl (w64 (by omega)) ?_)
            refine ops_cons rfl (ow_assign rfl ?_)
            refine ops_nil ?_
            refine tq_n ⟨(i + 2, n + 1, ys ++ [16 * hexV (s.data.toList.getD (i : Int).toNat 0) + hexV (s.data.toList.getD ((i : Int) + 1).toNat 0)], AoN, coN), (.cons rfl (.cons rfl (.cons rfl (.nil _)))), ?_, ?_⟩
            · exact ⟨by omega, by omega, by simp [hn], by omega, by rw [hr, dx, rdG, if_neg (by omega)]; simp [Option.map_map, Function.comp_def], oN.to (snoc eI ys _).symm, X⟩
            · dsimp only; omega
      · skip
        refine ops_nil ?_
        refine c_false rfl ?_
        refine c_exit ?_
        refine tq_e ?_
        refine tq_e ?_
        refine bq_e ?_
        refine tq_n ?_
        refine c_seqR ?_
        refine ops_cons rfl (ow_move rfl ?_)
        refine ops_cons rfl (ow_assign rfl ?_)
        refine ops_cons rfl (ow_assign rfl ?_)
        refine ops_nil ?_
        refine c_ret ?_
        refine fin_ret2 rfl rfl rfl ?_
        first
        | (have e : rd s = ([], false) := by
            unfold rd; first | rw [if_pos (by omega)] | (rw [if_neg (by omega), hr, dx, rdG, if_pos (by omega)]; rfl)
           rw [e]; exact ⟨none, 0, rfl, Own.nil_ _ _ _ _, X⟩)
        | (have e : rd s = (ys, true) := by
            unfold rd; rw [if_neg (by omega), hr, List.drop_eq_nil_of_le (by have : s.data.toList.length = s.size := rfl; omega)]; simp [rdG]
           rw [e, ← hn]; exact ⟨A1, c1, rfl, oO, X⟩)
end Go.Proofs.Ytimabffnoanciaa
