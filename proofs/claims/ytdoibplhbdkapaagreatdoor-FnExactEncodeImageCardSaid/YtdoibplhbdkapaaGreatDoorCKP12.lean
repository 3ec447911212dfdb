/- Texts of the seat that a law needs, put together. No condition. -/
import Derived.Test.YtdoibplhbdkapaaGreatDoorCKP9
import Derived.Lib.AppendZeros
import Derived.Test.YtdoibplhbdkapaaGreatDoorCKP8
import Derived.Test.YtdoibplhbdkapaaGreatDoorCKP6
namespace Go.Proofs.YtdoibplhbdkapaaGreatDoor
open Go.RowKit
set_option linter.unusedVariables false
set_option linter.unusedSimpArgs false
section
variable {P : Program} {e : List (Nat × Value)} {ty : TypeId} {w : World} {K : Value → World → Prop} {x y : Operand} {t tn el : TypeId} {s b : Nat} {z : List Value} {a : Bool}
theorem ow_cap {A : Option Addr} {l c : Nat} (ht : P.underlying t = some (.slice el)) (hx : evO e x = some (.slice A l c)) (h : K (.int .i64 c) w) : OpWp P e (.call ⟨.builtin .cap, #[x], #[t]⟩) ty w K := fun ρ d p a g hρ => by
  have h1 := hρ _ _ hx
  simp [execOp, resolve, invoke, builtin, h1, Builtin.cap_, run_underlying ht, upto, goInt]; exact h
theorem ow_appendZ {n : Nat} {k kn : IntKind} (ht : elO P t = some (el, s)) (htn : P.underlying tn = some (.int kn)) (hi : tiO P el = some (a, s, b, z)) (hzl : Nat.beq z.length s = true) (h0 : Nat.blt 0 s = true)
    (hx : evO e x = some (.slice none 0 0)) (hy : evO e y = some (.int k (n : Int))) (hn : 0 < n) (hm : n ≤ 9223372036854775807) (hb : n * b ≤ 281474976710656)
    (h : ∀ g c w' cs, g = w.heap.size → Own w' w.heap.size el s (some ⟨g, 0, none⟩) n c cs → Ext w w' → K (.slice (some ⟨g, 0, none⟩) n c) w') : OpWp P e (.call ⟨.builtin .append, #[x, y], #[t, tn]⟩) ty w K := fun ρ d p af g hρ => by
  have g1 := hρ _ _ hx; have g2 := hρ _ _ hy
  obtain ⟨ti, hu, hti, hts⟩ := elO_spec ht
  obtain ⟨d', i', zv, hd, hi', hz, ha, hs, hb', hzv⟩ := tiO_spec hi
  obtain rfl : ti = i' := by rw [hti] at hi'; injection hi'
  have hzl' : z.length = s := Nat.eq_of_beq_eq_true hzl
  have h0' : 0 < s := by simpa using h0
  have hzc : zv.cells.size = s := by rw [← hzl', ← hzv]; simp
  have hr := Go.Lib.run_append_nil_zeros (P := P) w t tn ty el ti zv k kn hu htn hti hz n hn (by rw [hts]; exact h0') (by omega) (by rw [hb']; exact hb)
  simp only [execOp, resolve, invoke, builtin, Sem.run_bind, Sem.run_pure, Result.andThen_ok, List.map_toArray, List.map_cons, List.map_nil, g1, g2, hr, upto]
  have hge := grownCap_ge w n 0 el
  have hcm : grownCap w n 0 el ≤ maxLen := grownCap_le_maxLen w n 0 el (by unfold maxLen; omega)
  refine h w.heap.size _ _ (Builtin.zeroCells zv.cells n).toList rfl ⟨by rw [Array.length_toList, size_zeroCells, hzc], .inr ⟨w.heap.size, _, _, rfl, Nat.le_refl _, heap_alloc_new w.drew _, hge, hcm, ?_, ?_⟩⟩ ?_
  · simp only [Array.size_append, size_zeroCells, hzc, ← Nat.add_mul]
    congr 1; omega
  · simp only [Array.toList_append]
    have e1 : n * s = (Builtin.zeroCells zv.cells n).toList.length := by rw [Array.length_toList, size_zeroCells, hzc]
    rw [e1]; exact List.take_left
  · exact (Ext.drew w).trans (Ext.alloc w.drew _)
end
end Go.Proofs.YtdoibplhbdkapaaGreatDoor
namespace Go.Proofs.YtdoibplhbdkapaaGreatDoor
open Go.RowKit
set_option linter.unusedVariables false
set_option linter.unusedSimpArgs false
set_option maxRecDepth 20000
theorem growNil_c (n : Nat) (w : World) (hn : n ≤ 1048576) :
    Calls Tryz.prog 216 #[.slice none 0 0, .int .i64 (n : Nat)] w (Ret fun v w' => ∃ A' c', v = .slice A' 0 c' ∧ Own w' w.heap.size 2 1 A' 0 c' [] ∧ Ext w w') := by
  have X := Ext.refl w
  refine calls_of (args := [.slice none 0 0, .int .i64 (n : Nat)]) Tryz.func216 Tryz.ntmps216 rfl rfl ?_
  refine c_seqR ?_
  refine ops_cons rfl (ow_assign rfl ?_)
  refine ops_nil ?_
  refine c_seq ?_
  refine c_seqR ?_
  refine ops_cons rfl (ow_move rfl ?_)
  refine ops_cons rfl (ow_lss2 rfl rfl (fun h1 => absurd h1 (by omega)) (fun h1 => ?_))
  refine ops_nil ?_
  refine c_false rfl ?_
  refine c_skip ?_
  refine tq_n ?_
  refine c_seq ?_
  refine c_seqR ?_
  refine ops_cons rfl (ow_move rfl ?_)
  refine ops_cons rfl (ow_move rfl ?_)
  refine ops_cons rfl (ow_cap Tryz.underlying30 rfl ?_)
  refine ops_cons rfl (ow_move rfl ?_)
  refine ops_cons rfl (ow_len Tryz.underlying30 rfl ?_)
  refine ops_cons rfl (ow_sub rfl rfl (w64 (by omega)) ?_)
  refine ops_cons rfl (ow_sub rfl rfl (show IntKind.i64.wrap _ = ((n : Nat) : Int) by rw [w64 (by omega)]; omega) ?_)
  refine ops_cons rfl (ow_assign rfl ?_)
  refine ops_nil ?_
  refine c_seqR ?_
  refine ops_cons rfl (ow_move rfl ?_)
  refine ops_cons rfl (ow_gtr2 rfl rfl (fun hp => ?_) (fun hp => ?_))
  refine ops_nil ?_
  refine c_true rfl ?_
  refine c_region ?_
  refine ops_cons rfl (ow_move rfl ?_)
  refine ops_cons rfl (ow_move rfl ?_)
  refine ops_cons rfl (ow_cap Tryz.underlying30 rfl ?_)
  refine ops_cons rfl (ow_sliceHO el30 rfl rfl (show _ = ((0 : Nat) : Int) from rfl) (Nat.le_refl _) ?_)
  refine ops_cons rfl (ow_move rfl ?_)
  refine ops_cons rfl (ow_appendZ (n := n) el30 Tryz.underlying3 ti2 rfl rfl rfl rfl (by omega) (by omega) (by omega) ?_)
  intro gZ cZ wZ csZ eZ oZ xZ
  replace X := Ext.trans X xZ
  refine ops_cons rfl (ow_move rfl ?_)
  refine ops_cons rfl (ow_len Tryz.underlying30 rfl ?_)
  refine ops_cons rfl (ow_sliceHO el30 rfl rfl (show _ = ((0 : Nat) : Int) from rfl) (Nat.zero_le _) ?_)
  have oY := Own.pre oZ (Nat.zero_le n)
  refine ops_cons rfl (ow_assign rfl ?_)
  refine ops_nil ?_
  refine tq_n ?_
  refine c_seqR ?_
  refine ops_cons rfl (ow_move rfl ?_)
  refine ops_cons rfl (ow_assign rfl ?_)
  refine ops_nil ?_
  refine c_ret ?_
  refine fin_ret1 rfl rfl ?_
  · skip
    first
    | (exact ⟨_, _, rfl, oY.to (by simp), X⟩)
    | (exact ⟨none, 0, rfl, Own.nil_ _ _ _ _, X⟩)
  refine ops_nil ?_
  refine c_false rfl ?_
  refine c_skip ?_
  refine tq_n ?_
  refine c_seqR ?_
  refine ops_cons rfl (ow_move rfl ?_)
  refine ops_cons rfl (ow_assign rfl ?_)
  refine ops_nil ?_
  refine c_ret ?_
  refine fin_ret1 rfl rfl ?_
  · skip
    first
    | (exact ⟨_, _, rfl, oY.to (by simp), X⟩)
    | (exact ⟨none, 0, rfl, Own.nil_ _ _ _ _, X⟩)

theorem concat_c (A : Option Addr) (B B2 c : Nat) (rs : List ModeI) (w : World) (hs : Sl B w A (rs.flatMap rowC)) (hn : Nexts B2 w rs) (hl : rs.length ≤ 1000) (hL : (sumL rs).length ≤ 1048576) :
    Calls Tryz.prog 146 #[.slice A rs.length c] w (Ret fun v w' => ∃ A' c', v = .slice A' (sumL rs).length c' ∧ Own w' w.heap.size 2 1 A' (sumL rs).length c' ((sumL rs).flatMap eI) ∧ Ext w w') := by
  have hle := fun k => sumL_le rs k
  have Bhs := hs.1
  have Bhn := hn.1
  have X := Ext.refl w
  refine calls_of (args := [.slice A rs.length c]) Tryz.func146 Tryz.ntmps146 rfl rfl ?_
  refine c_seqR ?_
  refine ops_cons rfl (ow_assign rfl ?_)
  refine ops_nil ?_
  refine c_seqR ?_
  refine ops_cons rfl (ow_assign rfl ?_)
  refine ops_nil ?_
  refine c_seq ?_
  refine c_seqR ?_
  refine ops_cons rfl (ow_move rfl ?_)
  refine ops_cons rfl (ow_len Tryz.underlying107 rfl ?_)
  refine ops_cons rfl (ow_move rfl ?_)
  refine ops_nil ?_
  refine c_block ?_
  refine c_loop (G := Nat × Int) (fun ⟨k, t⟩ => [(0, .slice A rs.length c), (2, .slice none 0 0), (9, .slice A rs.length c), (10, .int .i64 (rs.length : Nat)), (3, .int .i64 t), (11, .int .i64 (k : Nat))]) (fun ⟨k, t⟩ wr => k ≤ rs.length ∧ t = ((sumL (rs.take k)).length : Int) ∧ Sl B wr A (rs.flatMap rowC) ∧ Nexts B2 wr rs ∧ Ext w wr) (fun ⟨k, t⟩ => rs.length - k) (0, 0) (.cons rfl (.cons rfl (.cons rfl (.cons rfl (.cons rfl (.cons rfl (.nil _))))))) ?_ ?_
  · exact ⟨by omega, rfl, hs, hn, X⟩
  clear hs hn
  clear X
  rintro ⟨k, t⟩ wr ⟨hk0, ht, hs, hn, X⟩
  refine c_seqR ?_
  refine ops_cons rfl (ow_lss2 rfl rfl (fun hk => ?_) (fun hk => ?_))
  obtain ⟨x, hx, dx⟩ := drop_at' hk
  have hlk := hle k
  have hlk1 := hle (k + 1)
  rw [sumL_step hx, List.length_append] at hlk1
  refine ops_nil ?_
  refine c_seq ?_
  refine c_true rfl ?_
  refine c_skip ?_
  refine tq_n ?_
  refine c_seq ?_
  refine c_block ?_
  refine c_seqR ?_
  refine ops_cons rfl (ow_indexT hs rowC_len rfl el107 rfl rfl rfl hx rfl ?_)
  refine ops_cons rfl (ow_loadT hs rowC_len hx ti30 rfl rfl rfl ?_)
  refine ops_cons rfl (ow_assign rfl ?_)
  refine ops_nil ?_
  refine c_seqR ?_
  refine ops_cons rfl (ow_move rfl ?_)
  refine ops_cons rfl (ow_move rfl ?_)
  refine ops_cons rfl (ow_len Tryz.underlying30 rfl ?_)
  refine ops_cons rfl (ow_add rfl rfl (w64 (by omega)) ?_)
  refine ops_cons rfl (ow_assign rfl ?_)
  refine ops_nil ?_
  refine c_seqR ?_
  refine ops_cons rfl (ow_move rfl ?_)
  refine ops_cons rfl (ow_lss2 rfl rfl (fun h1 => absurd h1 (by omega)) (fun h1 => ?_))
  refine ops_nil ?_
  refine c_false rfl ?_
  refine c_skip ?_
  refine bq_n ?_
  refine tq_n ?_
  refine c_region ?_
  refine ops_cons rfl (ow_add rfl rfl (w64 (by omega)) ?_)
  refine ops_cons rfl (ow_move rfl ?_)
  refine ops_nil ?_
  refine tq_n ⟨(k + 1, t + (x.m.next.length : Int)), (.cons rfl (.cons rfl (.cons rfl (.cons rfl (.cons rfl (.cons rfl (.nil _))))))), ?_, ?_⟩
  · exact ⟨by omega, (by rw [sumL_step hx, List.length_append]; omega), hs, hn, X⟩
  · first | omega | (dsimp only; omega)
  have hkk : k = rs.length := by omega
  refine ops_nil ?_
  refine c_seq ?_
  refine c_false rfl ?_
  refine c_exit ?_
  refine tq_e ?_
  refine tq_e ?_
  refine bq_e ?_
  refine tq_n ?_
  refine c_seqR ?_
  refine ops_cons rfl (ow_move rfl ?_)
  subst ht
  refine ops_cons rfl (ow_call ent216 rfl (ret_mono (growNil_c (sumL (rs.take k)).length _ (by have := hle k; omega)) ?_))
  rintro _ w3 ⟨AG, cG, rfl, oG, x2⟩
  replace oG := Own.low oG X.size
  replace hs := hs.ext x2
  replace hn := hn.ext x2
  replace X := Ext.trans X x2; clear x2
  refine ops_cons rfl (ow_assign rfl ?_)
  refine ops_nil ?_
  refine c_seq ?_
  refine c_seqR ?_
  refine ops_cons rfl (ow_move rfl ?_)
  refine ops_cons rfl (ow_len Tryz.underlying107 rfl ?_)
  refine ops_cons rfl (ow_move rfl ?_)
  refine ops_nil ?_
  refine c_block ?_
  refine c_loop (G := Nat × Nat × Option Addr × Nat) (fun ⟨j, n1, A1, c1⟩ => [(2, .slice none 0 0), (25, .slice A rs.length c), (26, .int .i64 (rs.length : Nat)), (6, .slice A1 n1 c1), (27, .int .i64 (j : Nat))]) (fun ⟨j, n1, A1, c1⟩ wr => j ≤ rs.length ∧ n1 = (sumL (rs.take j)).length ∧ Own wr w.heap.size 2 1 A1 n1 c1 ((sumL (rs.take j)).flatMap eI) ∧ Sl B wr A (rs.flatMap rowC) ∧ Nexts B2 wr rs ∧ Ext w wr) (fun ⟨j, n1, A1, c1⟩ => rs.length - j) (0, 0, AG, cG) (.cons rfl (.cons rfl (.cons rfl (.cons rfl (.cons rfl (.nil _)))))) ?_ ?_
  · exact ⟨by omega, rfl, oG, hs, hn, X⟩
  clear hs hn oG
  clear X
  rintro ⟨j, n1, A1, c1⟩ wr ⟨hj0, hn1, oO, hs, hn, X⟩
  refine c_seqR ?_
  refine ops_cons rfl (ow_lss2 rfl rfl (fun hj => ?_) (fun hj => ?_))
  obtain ⟨y, hy, dy⟩ := drop_at' hj
  have hlj := hle (j + 1)
  rw [sumL_step hy, List.length_append] at hlj
  refine ops_nil ?_
  refine c_seq ?_
  refine c_true rfl ?_
  refine c_skip ?_
  refine tq_n ?_
  refine c_seq ?_
  refine c_block ?_
  refine c_seqR ?_
  refine ops_cons rfl (ow_indexT hs rowC_len rfl el107 rfl rfl rfl hy rfl ?_)
  have hny := hn.at_ hy
  refine ops_cons rfl (ow_loadT hs rowC_len hy ti30 rfl rfl rfl ?_)
  refine ops_cons rfl (ow_assign rfl ?_)
  refine ops_nil ?_
  refine c_region ?_
  refine ops_cons rfl (ow_move rfl ?_)
  refine ops_cons rfl (ow_move rfl ?_)
  refine ops_cons rfl (ow_append (ts := #[]) oO X.size hny (flat_len eI_len _) (one_ints _) el30 ti2 rfl rfl rfl rfl (by omega) (by omega) ?_)
  intro AoN coN w5 oN hg4
  replace hs := hs.grown hg4 (fun g hg => Nat.le_trans Bhs (Own.lt oO hg).1)
  replace hn := hn.grown hg4 (fun g hg => Nat.le_trans Bhn (Own.lt oO hg).1)
  replace hny := hny.grown hg4 (fun g hg => Nat.le_trans Bhn (Own.lt oO hg).1)
  replace X := X.grown hg4 X.size (fun g hg => (Own.lt oO hg).1)
  clear hg4
  refine ops_cons rfl (ow_assign rfl ?_)
  refine ops_nil ?_
  refine bq_n ?_
  refine tq_n ?_
  refine c_region ?_
  refine ops_cons rfl (ow_add rfl rfl (w64 (by omega)) ?_)
  refine ops_cons rfl (ow_move rfl ?_)
  refine ops_nil ?_
  refine tq_n ⟨(j + 1, n1 + y.m.next.length, AoN, coN), (.cons rfl (.cons rfl (.cons rfl (.cons rfl (.cons rfl (.nil _)))))), ?_, ?_⟩
  · exact ⟨by omega, (by rw [sumL_step hy, List.length_append]; omega), oN.to (by rw [sumL_step hy, List.flatMap_append]), hs, hn, X⟩
  · first | omega | (dsimp only; omega)
  refine ops_nil ?_
  refine c_seq ?_
  refine c_false rfl ?_
  refine c_exit ?_
  refine tq_e ?_
  refine tq_e ?_
  refine bq_e ?_
  refine tq_n ?_
  refine c_seqR ?_
  refine ops_cons rfl (ow_move rfl ?_)
  refine ops_cons rfl (ow_assign rfl ?_)
  refine ops_nil ?_
  refine c_ret ?_
  refine fin_ret1 rfl rfl ?_
  · skip
    rw [show j = rs.length by omega, List.take_length] at oO hn1
    rw [← hn1]; exact ⟨A1, c1, rfl, oO, X⟩
end Go.Proofs.YtdoibplhbdkapaaGreatDoor
namespace Go.Proofs.YtdoibplhbdkapaaGreatDoor
open Go.RowKit
set_option linter.unusedVariables false
set_option linter.unusedSimpArgs false
set_option maxRecDepth 20000
theorem l12Find_c (A : Option Addr) (B c : Nat) (xs : List SlotI) (m r s : Int) (w : World) (hs : Sl B w A (xs.flatMap SlotI.cells)) (hl : xs.length ≤ 1048576) :
    Calls Tryz.prog 107 #[.slice A xs.length c, .int .i64 m, .int .i64 r, .int .i64 s] w (Ret fun v w' => v = .int .i64 (findS (hitS m r s) 0 xs) ∧ Ext w w') := by
  have Bhs := hs.1
  have X := Ext.refl w
  refine calls_of (args := [.slice A xs.length c, .int .i64 m, .int .i64 r, .int .i64 s]) Tryz.func107 Tryz.ntmps107 rfl rfl ?_
  refine c_seqR ?_
  refine ops_cons rfl (ow_assign rfl ?_)
  refine ops_nil ?_
  refine c_seq ?_
  refine c_seqR ?_
  refine ops_cons rfl (ow_assign rfl ?_)
  refine ops_nil ?_
  refine c_block ?_
  refine c_loop (G := Nat) (fun k => [(0, .slice A xs.length c), (1, .int .i64 m), (2, .int .i64 r), (3, .int .i64 s), (9, .int .i64 (k : Nat))]) (fun k wr => k ≤ xs.length ∧ (findS (hitS m r s) 0 xs) = findS (hitS m r s) (k : Int) (xs.drop k) ∧ Sl B wr A (xs.flatMap SlotI.cells) ∧ Ext w wr) (fun k => xs.length - k) 0 (.cons rfl (.cons rfl (.cons rfl (.cons rfl (.cons rfl (.nil _)))))) ?_ ?_
  · exact ⟨by omega, rfl, hs, X⟩
  clear hs
  clear X
  rintro k wr ⟨hk0, hi, hs, X⟩
  refine c_seq ?_
  refine c_seqR ?_
  refine ops_cons rfl (ow_move rfl ?_)
  refine ops_cons rfl (ow_move rfl ?_)
  refine ops_cons rfl (ow_len Tryz.underlying26 rfl ?_)
  refine ops_cons rfl (ow_lss2 rfl rfl (fun hk => ?_) (fun hk => ?_))
  obtain ⟨x, hx, dx⟩ := drop_at' hk
  refine ops_nil ?_
  refine c_true rfl ?_
  refine c_skip ?_
  refine tq_n ?_
  refine c_seq ?_
  refine c_block ?_
  refine c_seqR ?_
  refine ops_cons rfl (ow_move rfl ?_)
  refine ops_cons rfl (ow_move rfl ?_)
  refine ops_cons rfl (ow_indexT hs SlotI.len rfl el26 rfl rfl rfl hx rfl ?_)
  refine ops_cons rfl (ow_fieldAddr off89_0 rfl ?_)
  refine ops_cons rfl (ow_loadTF hs SlotI.len hx ti2 rfl rfl rfl ?_)
  refine ops_cons rfl (ow_move rfl ?_)
  refine ops_cons rfl (ow_eql2 rfl rfl (fun h1 => ?_) (fun h1 => ?_))
  refine ops_cons rfl (ow_move rfl ?_)
  refine ops_want rfl rfl rfl (ow_move rfl ?_)
  refine ops_want rfl rfl rfl (ow_move rfl ?_)
  refine ops_want rfl rfl rfl (ow_indexT hs SlotI.len rfl el26 rfl rfl rfl hx rfl ?_)
  refine ops_want rfl rfl rfl (ow_fieldAddr off89_1 rfl ?_)
  refine ops_want rfl rfl rfl (ow_loadTF hs SlotI.len hx ti2 rfl rfl rfl ?_)
  refine ops_want rfl rfl rfl (ow_move rfl ?_)
  refine ops_want rfl rfl rfl (ow_eql2 rfl rfl (fun h2 => ?_) (fun h2 => ?_))
  refine ops_cons rfl (ow_pick rfl rfl ?_)
  refine ops_cons rfl (ow_move rfl ?_)
  refine ops_want rfl rfl rfl (ow_move rfl ?_)
  refine ops_want rfl rfl rfl (ow_move rfl ?_)
  refine ops_want rfl rfl rfl (ow_indexT hs SlotI.len rfl el26 rfl rfl rfl hx rfl ?_)
  refine ops_want rfl rfl rfl (ow_fieldAddr off89_2 rfl ?_)
  refine ops_want rfl rfl rfl (ow_loadTF hs SlotI.len hx ti2 rfl rfl rfl ?_)
  refine ops_want rfl rfl rfl (ow_move rfl ?_)
  refine ops_want rfl rfl rfl (ow_eql2 rfl rfl (fun h3 => ?_) (fun h3 => ?_))
  refine ops_cons rfl (ow_pick rfl rfl ?_)
  refine ops_nil ?_
  refine c_true rfl ?_
  refine c_seqR ?_
  refine ops_cons rfl (ow_move rfl ?_)
  refine ops_cons rfl (ow_assign rfl ?_)
  refine ops_nil ?_
  refine c_ret ?_
  refine bq_r ?_
  refine tq_r ?_
  refine tq_r ?_
  refine bq_r ?_
  refine tq_r ?_
  refine fin_ret1 rfl rfl ?_
  · skip
    refine ⟨congrArg (Value.int .i64) ?_, X⟩
    first
    | (rw [hi, drop_end hk]; rfl)
    | (rw [hi, dx, findS, if_pos (by simp [hitS, *])])
  refine ops_cons rfl (ow_pick rfl rfl ?_)
  refine ops_nil ?_
  refine c_false rfl ?_
  refine c_skip ?_
  refine bq_n ?_
  refine tq_n ?_
  refine c_region ?_
  refine ops_cons rfl (ow_move rfl ?_)
  refine ops_cons rfl (ow_add rfl rfl (w64 (by omega)) ?_)
  refine ops_cons rfl (ow_assign rfl ?_)
  refine ops_nil ?_
  refine tq_n ⟨k + 1, (.cons rfl (.cons rfl (.cons rfl (.cons rfl (.cons rfl (.nil _)))))), ?_, ?_⟩
  · exact ⟨by omega, (by rw [hi, dx, findS, if_neg (by simp [hitS, *])]; rfl), hs, X⟩
  · first | omega | (dsimp only; omega)
  refine ops_cons rfl (ow_pick rfl rfl ?_)
  refine ops_cons rfl (ow_move rfl ?_)
  refine ops_skip rfl rfl rfl rfl ?_
  refine ops_skip rfl rfl rfl rfl ?_
  refine ops_skip rfl rfl rfl rfl ?_
  refine ops_skip rfl rfl rfl rfl ?_
  refine ops_skip rfl rfl rfl rfl ?_
  refine ops_skip rfl rfl rfl rfl ?_
  refine ops_skip rfl rfl rfl rfl ?_
  refine ops_cons rfl (ow_pick rfl rfl ?_)
  refine ops_nil ?_
  refine c_false rfl ?_
  refine c_skip ?_
  refine bq_n ?_
  refine tq_n ?_
  refine c_region ?_
  refine ops_cons rfl (ow_move rfl ?_)
  refine ops_cons rfl (ow_add rfl rfl (w64 (by omega)) ?_)
  refine ops_cons rfl (ow_assign rfl ?_)
  refine ops_nil ?_
  refine tq_n ⟨k + 1, (.cons rfl (.cons rfl (.cons rfl (.cons rfl (.cons rfl (.nil _)))))), ?_, ?_⟩
  · exact ⟨by omega, (by rw [hi, dx, findS, if_neg (by simp [hitS, *])]; rfl), hs, X⟩
  · first | omega | (dsimp only; omega)
  refine ops_cons rfl (ow_move rfl ?_)
  refine ops_skip rfl rfl rfl rfl ?_
  refine ops_skip rfl rfl rfl rfl ?_
  refine ops_skip rfl rfl rfl rfl ?_
  refine ops_skip rfl rfl rfl rfl ?_
  refine ops_skip rfl rfl rfl rfl ?_
  refine ops_skip rfl rfl rfl rfl ?_
  refine ops_skip rfl rfl rfl rfl ?_
  refine ops_cons rfl (ow_pick rfl rfl ?_)
  refine ops_cons rfl (ow_move rfl ?_)
  refine ops_skip rfl rfl rfl rfl ?_
  refine ops_skip rfl rfl rfl rfl ?_
  refine ops_skip rfl rfl rfl rfl ?_
  refine ops_skip rfl rfl rfl rfl ?_
  refine ops_skip rfl rfl rfl rfl ?_
  refine ops_skip rfl rfl rfl rfl ?_
  refine ops_skip rfl rfl rfl rfl ?_
  refine ops_cons rfl (ow_pick rfl rfl ?_)
  refine ops_nil ?_
  refine c_false rfl ?_
  refine c_skip ?_
  refine bq_n ?_
  refine tq_n ?_
  refine c_region ?_
  refine ops_cons rfl (ow_move rfl ?_)
  refine ops_cons rfl (ow_add rfl rfl (w64 (by omega)) ?_)
  refine ops_cons rfl (ow_assign rfl ?_)
  refine ops_nil ?_
  refine tq_n ⟨k + 1, (.cons rfl (.cons rfl (.cons rfl (.cons rfl (.cons rfl (.nil _)))))), ?_, ?_⟩
  · exact ⟨by omega, (by rw [hi, dx, findS, if_neg (by simp [hitS, *])]; rfl), hs, X⟩
  · first | omega | (dsimp only; omega)
  refine ops_nil ?_
  refine c_false rfl ?_
  refine c_exit ?_
  refine tq_e ?_
  refine tq_e ?_
  refine bq_e ?_
  refine tq_n ?_
  refine c_seqR ?_
  refine ops_cons rfl (ow_assign rfl ?_)
  refine ops_nil ?_
  refine c_ret ?_
  refine fin_ret1 rfl rfl ?_
  · skip
    refine ⟨congrArg (Value.int .i64) ?_, X⟩
    first
    | (rw [hi, drop_end hk]; rfl)
    | (rw [hi, dx, findS, if_pos (by simp [hitS, *])])

theorem findSlot1_c (x : SlotI) (g1 g2 g3 : Nat) (m r s : Int) (w : World) (q1 : Blk w g1 2 [.int .i64 m]) (q2 : Blk w g2 2 [.int .i64 r]) (q3 : Blk w g3 2 [.int .i64 s]) :
    Calls Tryz.prog 191 #[.agg x.cells.toArray, .pointer (some ⟨g1, 0, none⟩), .pointer (some ⟨g2, 0, none⟩), .pointer (some ⟨g3, 0, none⟩)] w (Ret fun v w' => v = .bool (hitS m r s x) ∧ Ext w w') := by
  have X := Ext.refl w
  refine calls_of (args := [.agg x.cells.toArray, .pointer (some ⟨g1, 0, none⟩), .pointer (some ⟨g2, 0, none⟩), .pointer (some ⟨g3, 0, none⟩)]) Tryz.func191 Tryz.ntmps191 rfl rfl ?_
  refine c_seqR ?_
  refine ops_cons rfl (ow_box rfl rfl ?_)
  intro g4 w3 eg4 b1 x2 zg4
  have lg4 : w.heap.size ≤ g4 := Nat.le_trans X.size (Nat.le_of_eq eg4.symm)
  have ng4q1 := Nat.lt_of_lt_of_eq q1.lt eg4.symm
  have ng4q2 := Nat.lt_of_lt_of_eq q2.lt eg4.symm
  have ng4q3 := Nat.lt_of_lt_of_eq q3.lt eg4.symm
  replace q1 := q1.ext x2
  replace q2 := q2.ext x2
  replace q3 := q3.ext x2
  replace X := Ext.trans X x2; clear x2
  refine ops_cons rfl (ow_assign rfl ?_)
  refine ops_nil ?_
  refine c_seqR ?_
  refine ops_cons rfl (ow_fieldAddrB off89_0 rfl rfl ?_)
  refine ops_cons rfl (ow_loadB b1 ti2 rfl rfl ?_)
  refine ops_cons rfl (ow_loadB q1 ti2 rfl rfl ?_)
  refine ops_cons rfl (ow_eql2 rfl rfl (fun h5 => ?_) (fun h5 => ?_))
  refine ops_cons rfl (ow_move rfl ?_)
  refine ops_want rfl rfl rfl (ow_fieldAddrB off89_1 rfl rfl ?_)
  refine ops_want rfl rfl rfl (ow_loadB b1 ti2 rfl rfl ?_)
  refine ops_want rfl rfl rfl (ow_loadB q2 ti2 rfl rfl ?_)
  refine ops_want rfl rfl rfl (ow_eql2 rfl rfl (fun h6 => ?_) (fun h6 => ?_))
  refine ops_cons rfl (ow_pick rfl rfl ?_)
  refine ops_cons rfl (ow_move rfl ?_)
  refine ops_want rfl rfl rfl (ow_fieldAddrB off89_2 rfl rfl ?_)
  refine ops_want rfl rfl rfl (ow_loadB b1 ti2 rfl rfl ?_)
  refine ops_want rfl rfl rfl (ow_loadB q3 ti2 rfl rfl ?_)
  refine ops_want rfl rfl rfl (ow_eql rfl rfl ?_)
  refine ops_cons rfl (ow_pick rfl rfl ?_)
  refine ops_cons rfl (ow_assign rfl ?_)
  refine ops_nil ?_
  refine c_ret ?_
  refine fin_ret1 rfl rfl ?_
  exact ⟨by simp [hitS, *], X⟩
  refine ops_cons rfl (ow_pick rfl rfl ?_)
  refine ops_cons rfl (ow_move rfl ?_)
  refine ops_skip rfl rfl rfl rfl ?_
  refine ops_skip rfl rfl rfl rfl ?_
  refine ops_skip rfl rfl rfl rfl ?_
  refine ops_skip rfl rfl rfl rfl ?_
  refine ops_cons rfl (ow_pick rfl rfl ?_)
  refine ops_cons rfl (ow_assign rfl ?_)
  refine ops_nil ?_
  refine c_ret ?_
  refine fin_ret1 rfl rfl ?_
  exact ⟨by simp [hitS, *], X⟩
  refine ops_cons rfl (ow_move rfl ?_)
  refine ops_skip rfl rfl rfl rfl ?_
  refine ops_skip rfl rfl rfl rfl ?_
  refine ops_skip rfl rfl rfl rfl ?_
  refine ops_skip rfl rfl rfl rfl ?_
  refine ops_cons rfl (ow_pick rfl rfl ?_)
  refine ops_cons rfl (ow_move rfl ?_)
  refine ops_skip rfl rfl rfl rfl ?_
  refine ops_skip rfl rfl rfl rfl ?_
  refine ops_skip rfl rfl rfl rfl ?_
  refine ops_skip rfl rfl rfl rfl ?_
  refine ops_cons rfl (ow_pick rfl rfl ?_)
  refine ops_cons rfl (ow_assign rfl ?_)
  refine ops_nil ?_
  refine c_ret ?_
  refine fin_ret1 rfl rfl ?_
  exact ⟨by simp [hitS, *], X⟩

theorem indexFunc_c (A : Option Addr) (B c : Nat) (xs : List SlotI) (g1 g2 g3 : Nat) (m r s : Int) (w : World) (hs : Sl B w A (xs.flatMap SlotI.cells)) (q1 : Blk w g1 2 [.int .i64 m]) (q2 : Blk w g2 2 [.int .i64 r]) (q3 : Blk w g3 2 [.int .i64 s]) (hl : xs.length ≤ 1048576) :
    Calls Tryz.prog 190 #[.slice A xs.length c, .func (.func 191) #[] #[.pointer (some ⟨g1, 0, none⟩), .pointer (some ⟨g2, 0, none⟩), .pointer (some ⟨g3, 0, none⟩)]] w (Ret fun v w' => v = .int .i64 (findS (hitS m r s) 0 xs) ∧ Ext w w') := by
  have Bhs := hs.1
  have X := Ext.refl w
  refine calls_of (args := [.slice A xs.length c, .func (.func 191) #[] #[.pointer (some ⟨g1, 0, none⟩), .pointer (some ⟨g2, 0, none⟩), .pointer (some ⟨g3, 0, none⟩)]]) Tryz.func190 Tryz.ntmps190 rfl rfl ?_
  refine c_seqR ?_
  refine ops_cons rfl (ow_assign rfl ?_)
  refine ops_nil ?_
  refine c_seq ?_
  refine c_seqR ?_
  refine ops_cons rfl (ow_move rfl ?_)
  refine ops_cons rfl (ow_len Tryz.underlying26 rfl ?_)
  refine ops_cons rfl (ow_move rfl ?_)
  refine ops_nil ?_
  refine c_block ?_
  refine c_loop (G := Nat) (fun k => [(0, .slice A xs.length c), (1, .func (.func 191) #[] #[.pointer (some ⟨g1, 0, none⟩), .pointer (some ⟨g2, 0, none⟩), .pointer (some ⟨g3, 0, none⟩)]), (7, .int .i64 (xs.length : Nat)), (8, .int .i64 (k : Nat))]) (fun k wr => k ≤ xs.length ∧ (findS (hitS m r s) 0 xs) = findS (hitS m r s) (k : Int) (xs.drop k) ∧ Sl B wr A (xs.flatMap SlotI.cells) ∧ Blk wr g1 2 [.int .i64 m] ∧ Blk wr g2 2 [.int .i64 r] ∧ Blk wr g3 2 [.int .i64 s] ∧ Ext w wr) (fun k => xs.length - k) 0 (.cons rfl (.cons rfl (.cons rfl (.cons rfl (.nil _))))) ?_ ?_
  · exact ⟨by omega, rfl, hs, q1, q2, q3, X⟩
  clear hs q1 q2 q3
  clear X
  rintro k wr ⟨hk0, hi, hs, q1, q2, q3, X⟩
  refine c_seqR ?_
  refine ops_cons rfl (ow_lss2 rfl rfl (fun hk => ?_) (fun hk => ?_))
  obtain ⟨x, hx, dx⟩ := drop_at' hk
  refine ops_nil ?_
  refine c_seq ?_
  refine c_true rfl ?_
  refine c_skip ?_
  refine tq_n ?_
  refine c_seq ?_
  refine c_block ?_
  refine c_seqR ?_
  refine ops_cons rfl (ow_move rfl ?_)
  refine ops_cons rfl (ow_assign rfl ?_)
  refine ops_nil ?_
  refine c_seqR ?_
  refine ops_cons rfl (ow_move rfl ?_)
  refine ops_cons rfl (ow_move rfl ?_)
  refine ops_cons rfl (ow_move rfl ?_)
  refine ops_cons rfl (ow_indexT hs SlotI.len rfl el26 rfl rfl rfl hx rfl ?_)
  refine ops_cons rfl (ow_loadTA hs SlotI.len hx ti89 rfl ?_)
  refine ops_cons rfl (ow_callVLB ent191 rfl rfl (findSlot1_c _ _ _ _ _ _ _ _ q1 q2 q3) (fun w3 h1 x2 => ?_) (fun w3 h1 x2 => ?_))
  replace hs := hs.ext x2
  replace q1 := q1.ext x2
  replace q2 := q2.ext x2
  replace q3 := q3.ext x2
  replace X := Ext.trans X x2; clear x2
  refine ops_nil ?_
  refine c_true rfl ?_
  refine c_seqR ?_
  refine ops_cons rfl (ow_move rfl ?_)
  refine ops_cons rfl (ow_assign rfl ?_)
  refine ops_nil ?_
  refine c_ret ?_
  refine bq_r ?_
  refine tq_r ?_
  refine tq_r ?_
  refine bq_r ?_
  refine tq_r ?_
  refine fin_ret1 rfl rfl ?_
  · skip
    refine ⟨congrArg (Value.int .i64) ?_, X⟩
    first
    | (rw [hi, drop_end hk]; rfl)
    | (rw [hi, dx, findS, if_pos (by simp [*])])
  replace hs := hs.ext x2
  replace q1 := q1.ext x2
  replace q2 := q2.ext x2
  replace q3 := q3.ext x2
  replace X := Ext.trans X x2; clear x2
  refine ops_nil ?_
  refine c_false rfl ?_
  refine c_skip ?_
  refine bq_n ?_
  refine tq_n ?_
  refine c_region ?_
  refine ops_cons rfl (ow_add rfl rfl (w64 (by omega)) ?_)
  refine ops_cons rfl (ow_move rfl ?_)
  refine ops_nil ?_
  refine tq_n ⟨k + 1, (.cons rfl (.cons rfl (.cons rfl (.cons rfl (.nil _))))), ?_, ?_⟩
  · exact ⟨by omega, (by rw [hi, dx, findS, if_neg (by simp [*])]; rfl), hs, q1, q2, q3, X⟩
  · first | omega | (dsimp only; omega)
  refine ops_nil ?_
  refine c_seq ?_
  refine c_false rfl ?_
  refine c_exit ?_
  refine tq_e ?_
  refine tq_e ?_
  refine bq_e ?_
  refine tq_n ?_
  refine c_seqR ?_
  refine ops_cons rfl (ow_assign rfl ?_)
  refine ops_nil ?_
  refine c_ret ?_
  refine fin_ret1 rfl rfl ?_
  · skip
    refine ⟨congrArg (Value.int .i64) ?_, X⟩
    first
    | (rw [hi, drop_end hk]; rfl)
    | (rw [hi, dx, findS, if_pos (by simp [*])])

theorem findSlot_c (A : Option Addr) (B c : Nat) (xs : List SlotI) (m r s : Int) (w : World) (hs : Sl B w A (xs.flatMap SlotI.cells)) (hl : xs.length ≤ 1048576) :
    Calls Tryz.prog 106 #[.slice A xs.length c, .int .i64 m, .int .i64 r, .int .i64 s] w (Ret fun v w' => v = .int .i64 (findS (hitS m r s) 0 xs) ∧ Ext w w') := by
  have Bhs := hs.1
  have X := Ext.refl w
  refine calls_of (args := [.slice A xs.length c, .int .i64 m, .int .i64 r, .int .i64 s]) Tryz.func106 Tryz.ntmps106 rfl rfl ?_
  refine c_seqR ?_
  refine ops_cons rfl (ow_box rfl rfl ?_)
  intro g4 w3 eg4 b1 x2 zg4
  have lg4 : w.heap.size ≤ g4 := Nat.le_trans X.size (Nat.le_of_eq eg4.symm)
  have pg4hs := Nat.le_trans hs.1 (Nat.le_of_eq eg4.symm)
  replace hs := hs.ext x2
  replace X := Ext.trans X x2; clear x2
  refine ops_cons rfl (ow_box rfl rfl ?_)
  intro g8 w7 eg8 b5 x6 zg8
  have lg8 : w.heap.size ≤ g8 := Nat.le_trans X.size (Nat.le_of_eq eg8.symm)
  have pg8hs := Nat.le_trans hs.1 (Nat.le_of_eq eg8.symm)
  have ng8b1 := Nat.lt_of_lt_of_eq b1.lt eg8.symm
  replace hs := hs.ext x6
  replace b1 := b1.ext x6
  replace X := Ext.trans X x6; clear x6
  refine ops_cons rfl (ow_box rfl rfl ?_)
  intro g12 w11 eg12 b9 x10 zg12
  have lg12 : w.heap.size ≤ g12 := Nat.le_trans X.size (Nat.le_of_eq eg12.symm)
  have pg12hs := Nat.le_trans hs.1 (Nat.le_of_eq eg12.symm)
  have ng12b1 := Nat.lt_of_lt_of_eq b1.lt eg12.symm
  have ng12b5 := Nat.lt_of_lt_of_eq b5.lt eg12.symm
  replace hs := hs.ext x10
  replace b1 := b1.ext x10
  replace b5 := b5.ext x10
  replace X := Ext.trans X x10; clear x10
  refine ops_cons rfl (ow_assign rfl ?_)
  refine ops_nil ?_
  refine c_seqR ?_
  refine ops_cons rfl (ow_move rfl ?_)
  refine ops_cons rfl (ow_makeFunc rfl ?_)
  refine ops_cons rfl (ow_call ent190 rfl (ret_mono (indexFunc_c _ _ _ _ _ _ _ _ _ _ _ hs b1 b5 b9 hl) ?_))
  rintro _ w14 ⟨rfl, x13⟩
  replace hs := hs.ext x13
  replace b1 := b1.ext x13
  replace b5 := b5.ext x13
  replace b9 := b9.ext x13
  replace X := Ext.trans X x13; clear x13
  refine ops_cons rfl (ow_assign rfl ?_)
  refine ops_nil ?_
  refine c_ret ?_
  refine fin_ret1 rfl rfl ?_
  exact ⟨by rfl, X⟩
end Go.Proofs.YtdoibplhbdkapaaGreatDoor
