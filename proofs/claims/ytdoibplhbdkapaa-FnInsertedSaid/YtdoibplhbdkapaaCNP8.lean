/- Texts of the seat that a law needs, put together. No condition. -/
import Derived.Test.YtdoibplhbdkapaaCNP7
import Derived.Test.YtdoibplhbdkapaaCNP5
import Derived.Test.YtdoibplhbdkapaaCNP2
import Derived.ProofKit
import Derived.OpenShut
namespace Go.Proofs.Ytdoibplhbdkapaa
open Go.RowKit
set_option linter.unusedVariables false
set_option linter.unusedSimpArgs false
set_option maxRecDepth 20000
def slSm (x : SlotI) : Prop := (0 ≤ x.mode ∧ x.mode ≤ 15) ∧ (0 ≤ x.round ∧ x.round ≤ 7) ∧ (0 ≤ x.slot ∧ x.slot ≤ 15) ∧ ((0 ≤ x.desc.node ∧ x.desc.node ≤ 31) ∧ (0 ≤ x.desc.kind ∧ x.desc.kind ≤ 3) ∧ (0 ≤ x.desc.size ∧ x.desc.size ≤ 32) ∧ (0 ≤ x.desc.duration ∧ x.desc.duration ≤ 2000))
theorem l12Draw_c (A : Option Addr) (B c : Nat) (bs : List UInt8) (gS a : Nat) (sd : Int) (w : World) (q : Blk w gS 112 (srcC A c bs a sd)) (hs : Sl B w A (bs.flatMap eB)) (hB : B ≤ gS) (ok : a ≤ bs.length ∧ 0 ≤ sd ∧ sd < 2147483647) (hbl : bs.length ≤ 1048576) :
    Calls Try.prog 87 #[.pointer (some ⟨gS, 0, none⟩)] w (Ret fun v w' => ∃ A' c' xs a' sd', v = .slice A' (List.length xs) c' ∧ (xs.length ≤ 12 ∧ ∀ x ∈ xs, slSm x) ∧ Own w' w.heap.size 49 8 A' xs.length c' (xs.flatMap SlotI.cells) ∧ (a' ≤ bs.length ∧ 0 ≤ sd' ∧ sd' < 2147483647) ∧ Blk w' gS 112 (srcC A c bs a' sd') ∧ w.grownBy w' (some gS)) := by
  have Bhs := hs.1
  have X := gb_refl w (some gS)
  refine calls_of (args := [.pointer (some ⟨gS, 0, none⟩)]) Try.func87 Try.ntmps87 rfl rfl ?_
  refine c_seqR ?_
  refine ops_cons rfl (ow_assign rfl ?_)
  refine ops_nil ?_
  refine c_seqR ?_
  refine ops_cons rfl (ow_buildSlice el43 ti49 rfl rfl rfl rfl rfl ?_)
  intro gO w2 egO oI bbgO x1 zgO
  replace oI := Own.low oI X.size
  replace q := q.ext x1
  replace hs := hs.ext x1
  replace X := gb_ext X x1; clear x1
  refine ops_cons rfl (ow_assign rfl ?_)
  refine ops_nil ?_
  refine c_seq ?_
  refine c_seqR ?_
  refine ops_cons rfl (ow_assign rfl ?_)
  refine ops_nil ?_
  refine c_block ?_
  refine c_loop (G := Int × List SlotI × Nat × Option Addr × Nat) (fun ⟨m, ys, n1, A1, c1⟩ => [(2, .slice none 0 0), (0, .pointer (some ⟨gS, 0, none⟩)), (3, .slice A1 n1 c1), (4, .int .i64 m)]) (fun ⟨m, ys, n1, A1, c1⟩ wr => (0 ≤ m ∧ m ≤ 2) ∧ (n1 : Int) ≤ 6 * m ∧ (∀ y ∈ ys, slSm y) ∧ n1 = ys.length ∧ (∃ a sd, (a ≤ bs.length ∧ 0 ≤ sd ∧ sd < 2147483647) ∧ Blk wr gS 112 (srcC A c bs a sd)) ∧ Own wr w.heap.size 49 8 A1 n1 c1 (ys.flatMap SlotI.cells) ∧ Sl B wr A (bs.flatMap eB) ∧ w.grownBy wr (some gS)) (fun ⟨m, ys, n1, A1, c1⟩ => (2 - m).toNat) (0, [], 0, some ⟨gO, 0, none⟩, 0) (.cons rfl (.cons rfl (.cons rfl (.cons rfl (.nil _))))) ?_ ?_
  · exact ⟨(by omega), (by show ((0 : Nat) : Int) ≤ _; omega), (fun y hy => by simp at hy), rfl, ⟨_, _, ok, q⟩, oI, hs, X⟩
  clear q hs oI
  clear X
  rintro ⟨m, ys, n1, A1, c1⟩ wr ⟨hm0, hl0, hsm, hn, qq, oO, hs, X⟩
  obtain ⟨a, sd, ok, q⟩ := qq
  refine c_seq ?_
  refine c_seqR ?_
  refine ops_cons rfl (ow_move rfl ?_)
  refine ops_cons rfl (ow_lss2 rfl rfl (fun h3 => ?_) (fun h3 => ?_))
  refine ops_nil ?_
  refine c_true rfl ?_
  refine c_skip ?_
  refine tq_n ?_
  refine c_seq ?_
  refine c_block ?_
  refine c_seqR ?_
  refine ops_cons rfl (ow_assign rfl ?_)
  refine ops_nil ?_
  refine c_block ?_
  refine c_loop (G := Int × List SlotI × Nat × Option Addr × Nat) (fun ⟨r, ys, n1, A1, c1⟩ => [(2, .slice none 0 0), (4, .int .i64 m), (8, .int .i64 m), (0, .pointer (some ⟨gS, 0, none⟩)), (3, .slice A1 n1 c1), (5, .int .i64 r)]) (fun ⟨r, ys, n1, A1, c1⟩ wr => (0 ≤ r ∧ r ≤ 2) ∧ (n1 : Int) ≤ 6 * m + 3 * r ∧ (∀ y ∈ ys, slSm y) ∧ n1 = ys.length ∧ (∃ a sd, (a ≤ bs.length ∧ 0 ≤ sd ∧ sd < 2147483647) ∧ Blk wr gS 112 (srcC A c bs a sd)) ∧ Own wr w.heap.size 49 8 A1 n1 c1 (ys.flatMap SlotI.cells) ∧ Sl B wr A (bs.flatMap eB) ∧ w.grownBy wr (some gS)) (fun ⟨r, ys, n1, A1, c1⟩ => (2 - r).toNat) (0, ys, n1, A1, c1) (.cons rfl (.cons rfl (.cons rfl (.cons rfl (.cons rfl (.cons rfl (.nil _))))))) ?_ ?_
  · exact ⟨(by omega), (by omega), hsm, hn, ⟨_, _, ok, q⟩, oO, hs, X⟩
  clear oO hs q
  clear X
  rintro ⟨r, ys, n1, A1, c1⟩ wr ⟨hr0, hl1, hsm, hn, qq, oO, hs, X⟩
  obtain ⟨a, sd, ok, q⟩ := qq
  refine c_seq ?_
  refine c_seqR ?_
  refine ops_cons rfl (ow_move rfl ?_)
  refine ops_cons rfl (ow_lss2 rfl rfl (fun h6 => ?_) (fun h6 => ?_))
  refine ops_nil ?_
  refine c_true rfl ?_
  refine c_skip ?_
  refine tq_n ?_
  refine c_seq ?_
  refine c_block ?_
  refine c_seqR ?_
  refine ops_cons rfl (ow_assign rfl ?_)
  refine ops_nil ?_
  refine c_block ?_
  refine c_loop (G := Int × List SlotI × Nat × Option Addr × Nat) (fun ⟨s, ys, n1, A1, c1⟩ => [(2, .slice none 0 0), (4, .int .i64 m), (5, .int .i64 r), (8, .int .i64 m), (12, .int .i64 r), (0, .pointer (some ⟨gS, 0, none⟩)), (3, .slice A1 n1 c1), (6, .int .i64 s)]) (fun ⟨s, ys, n1, A1, c1⟩ wr => (0 ≤ s ∧ s ≤ 3) ∧ (n1 : Int) ≤ 6 * m + 3 * r + s ∧ (∀ y ∈ ys, slSm y) ∧ n1 = ys.length ∧ (∃ a sd, (a ≤ bs.length ∧ 0 ≤ sd ∧ sd < 2147483647) ∧ Blk wr gS 112 (srcC A c bs a sd)) ∧ Own wr w.heap.size 49 8 A1 n1 c1 (ys.flatMap SlotI.cells) ∧ Sl B wr A (bs.flatMap eB) ∧ w.grownBy wr (some gS)) (fun ⟨s, ys, n1, A1, c1⟩ => (3 - s).toNat) (0, ys, n1, A1, c1) (.cons rfl (.cons rfl (.cons rfl (.cons rfl (.cons rfl (.cons rfl (.cons rfl (.cons rfl (.nil _))))))))) ?_ ?_
  · exact ⟨(by omega), (by omega), hsm, hn, ⟨_, _, ok, q⟩, oO, hs, X⟩
  clear oO hs q
  clear X
  rintro ⟨s, ys, n1, A1, c1⟩ wr ⟨hs0, hl2, hsm, hn, qq, oO, hs, X⟩
  obtain ⟨a, sd, ok, q⟩ := qq
  refine c_seq ?_
  refine c_seqR ?_
  refine ops_cons rfl (ow_move rfl ?_)
  refine ops_cons rfl (ow_lss2 rfl rfl (fun h9 => ?_) (fun h9 => ?_))
  refine ops_nil ?_
  refine c_true rfl ?_
  refine c_skip ?_
  refine tq_n ?_
  refine c_seq ?_
  refine c_block ?_
  refine c_seqR ?_
  refine ops_cons rfl (ow_move rfl ?_)
  refine ops_cons rfl (ow_call ent63 rfl (ret_mono (l01Next_c _ _ _ _ _ _ _ _ _ q hs hB ok hbl (by omega)) ?_))
  rintro _ w4 ⟨r0, a6, sd7, rfl, hr8, ok, b5, x3⟩
  replace oO := oO.grownBlk x3 (Own.neT oO q (by decide))
  replace hs := hs.grown x3 (by intro g hg; injection hg; omega)
  replace X := gb_trans X x3
  clear x3 q
  refine ops_cons rfl (ow_gtr2 rfl rfl (fun h11 => ?_) (fun h11 => ?_))
  refine ops_nil ?_
  refine c_true rfl ?_
  refine c_region ?_
  refine ops_cons rfl (ow_move rfl ?_)
  refine ops_cons rfl (ow_move rfl ?_)
  refine ops_cons rfl (ow_move rfl ?_)
  refine ops_cons rfl (ow_move rfl ?_)
  refine ops_cons rfl (ow_move rfl ?_)
  refine ops_cons rfl (ow_call ent88 rfl (ret_mono (l08Draw_c _ _ _ _ _ _ _ _ b5 hs hB ok hbl) ?_))
  rintro _ w10 ⟨dd, a12, sd13, rfl, hp14, ok, b11, x9⟩
  replace oO := oO.grownBlk x9 (Own.neT oO b5 (by decide))
  replace hs := hs.grown x9 (by intro g hg; injection hg; omega)
  replace X := gb_trans X x9
  clear x9 b5
  refine ops_cons rfl (ow_buildP pl49 ti49 rfl rfl ?_)
  refine ops_cons rfl (ow_buildSlice el43 ti49 rfl rfl rfl rfl rfl ?_)
  intro g15 w17 eg15 oV bbg15 x16 zg15
  replace oV := Own.low oV X.size
  replace oO := oO.ext x16
  replace hs := hs.ext x16
  replace b11 := b11.ext x16
  replace X := gb_ext X x16; clear x16
  refine ops_cons rfl (ow_append (ts := #[]) oO X.size oV.sl (by first | rfl | simp) (by first | exact List.all_eq_true.1 rfl | simp [Value.oneCell']) el43 ti49 rfl rfl rfl rfl (by omega) (by omega) ?_)
  intro AoN coN w19 oN hg18
  replace hs := hs.grown hg18 (fun g hg => Nat.le_trans Bhs (Own.lt oO hg).1)
  replace b11 := b11.grown hg18 (fun h => Own.neT oO b11 (by decide) h.symm)
  replace X := gb_new X hg18 (fun g hg => (Own.lt oO hg).1)
  clear hg18
  refine ops_cons rfl (ow_assign rfl ?_)
  refine ops_nil ?_
  refine bq_n ?_
  refine tq_n ?_
  refine c_region ?_
  refine ops_cons rfl (ow_move rfl ?_)
  refine ops_cons rfl (ow_add rfl rfl (w64 (by omega)) ?_)
  refine ops_cons rfl (ow_assign rfl ?_)
  refine ops_nil ?_
  refine tq_n ⟨(s + 1, ys ++ [⟨m, r, s, dd⟩], n1 + 1, AoN, coN), (.cons rfl (.cons rfl (.cons rfl (.cons rfl (.cons rfl (.cons rfl (.cons rfl (.cons rfl (.nil _))))))))), ?_, ?_⟩
  · skip
    exact ⟨(by omega), (by omega), (fun y hy => by
      rcases List.mem_append.1 hy with h | h
      · exact hsm y h
      · obtain rfl : y = ⟨m, r, s, dd⟩ := by simpa using h
        exact ⟨by show 0 ≤ m ∧ m ≤ 15; omega, by show 0 ≤ r ∧ r ≤ 7; omega, by show 0 ≤ s ∧ s ≤ 15; omega, by show (0 ≤ dd.node ∧ dd.node ≤ 31) ∧ (0 ≤ dd.kind ∧ dd.kind ≤ 3) ∧ (0 ≤ dd.size ∧ dd.size ≤ 32) ∧ (0 ≤ dd.duration ∧ dd.duration ≤ 2000); omega⟩), (by simp [hn]), ⟨_, _, ok, b11⟩, oN.to (snoc SlotI.cells ys ⟨m, r, s, dd⟩).symm, hs, X⟩
  · first | omega | (dsimp only; omega)
  refine ops_nil ?_
  refine c_false rfl ?_
  refine c_skip ?_
  refine bq_n ?_
  refine tq_n ?_
  refine c_region ?_
  refine ops_cons rfl (ow_move rfl ?_)
  refine ops_cons rfl (ow_add rfl rfl (w64 (by omega)) ?_)
  refine ops_cons rfl (ow_assign rfl ?_)
  refine ops_nil ?_
  refine tq_n ⟨(s + 1, ys, n1, A1, c1), (.cons rfl (.cons rfl (.cons rfl (.cons rfl (.cons rfl (.cons rfl (.cons rfl (.cons rfl (.nil _))))))))), ?_, ?_⟩
  · exact ⟨(by omega), (by omega), hsm, hn, ⟨_, _, ok, b5⟩, oO, hs, X⟩
  · first | omega | (dsimp only; omega)
  refine ops_nil ?_
  refine c_false rfl ?_
  refine c_exit ?_
  refine tq_e ?_
  refine tq_e ?_
  refine bq_e ?_
  refine bq_n ?_
  refine tq_n ?_
  refine c_region ?_
  refine ops_cons rfl (ow_move rfl ?_)
  refine ops_cons rfl (ow_add rfl rfl (w64 (by omega)) ?_)
  refine ops_cons rfl (ow_assign rfl ?_)
  refine ops_nil ?_
  refine tq_n ⟨(r + 1, ys, n1, A1, c1), (.cons rfl (.cons rfl (.cons rfl (.cons rfl (.cons rfl (.cons rfl (.nil _))))))), ?_, ?_⟩
  · exact ⟨(by omega), (by omega), hsm, hn, ⟨_, _, ok, q⟩, oO, hs, X⟩
  · first | omega | (dsimp only; omega)
  refine ops_nil ?_
  refine c_false rfl ?_
  refine c_exit ?_
  refine tq_e ?_
  refine tq_e ?_
  refine bq_e ?_
  refine bq_n ?_
  refine tq_n ?_
  refine c_region ?_
  refine ops_cons rfl (ow_move rfl ?_)
  refine ops_cons rfl (ow_add rfl rfl (w64 (by omega)) ?_)
  refine ops_cons rfl (ow_assign rfl ?_)
  refine ops_nil ?_
  refine tq_n ⟨(m + 1, ys, n1, A1, c1), (.cons rfl (.cons rfl (.cons rfl (.cons rfl (.nil _))))), ?_, ?_⟩
  · exact ⟨(by omega), (by omega), hsm, hn, ⟨_, _, ok, q⟩, oO, hs, X⟩
  · first | omega | (dsimp only; omega)
  refine ops_nil ?_
  refine c_false rfl ?_
  refine c_exit ?_
  refine tq_e ?_
  refine tq_e ?_
  refine bq_e ?_
  refine tq_n ?_
  refine c_seqR ?_
  refine ops_cons rfl (ow_move rfl ?_)
  refine ops_cons rfl (ow_assign rfl ?_)
  refine ops_nil ?_
  refine c_ret ?_
  refine fin_ret1 rfl rfl ?_
  · skip
    subst hn
    exact ⟨A1, c1, ys, _, _, rfl, ⟨by omega, hsm⟩, oO, ok, q, X⟩

theorem l12DrawAny_c (A : Option Addr) (B c : Nat) (bs : List UInt8) (gS a : Nat) (sd : Int) (w : World) (q : Blk w gS 112 (srcC A c bs a sd)) (hs : Sl B w A (bs.flatMap eB)) (hB : B ≤ gS) (ok : a ≤ bs.length ∧ 0 ≤ sd ∧ sd < 2147483647) (hbl : bs.length ≤ 1048576) :
    Calls Try.prog 62 #[.pointer (some ⟨gS, 0, none⟩)] w (Ret fun v w' => ∃ A' c' xs a' sd', v = .slice A' (List.length xs) c' ∧ xs.length ≤ 130 ∧ Own w' w.heap.size 49 8 A' xs.length c' (xs.flatMap SlotI.cells) ∧ (a' ≤ bs.length ∧ 0 ≤ sd' ∧ sd' < 2147483647) ∧ Blk w' gS 112 (srcC A c bs a' sd') ∧ w.grownBy w' (some gS)) := by
  have Bhs := hs.1
  have X := gb_refl w (some gS)
  refine calls_of (args := [.pointer (some ⟨gS, 0, none⟩)]) Try.func62 Try.ntmps62 rfl rfl ?_
  refine c_seqR ?_
  refine ops_cons rfl (ow_assign rfl ?_)
  refine ops_nil ?_
  refine c_seqR ?_
  refine ops_cons rfl (ow_move rfl ?_)
  have LoT := X.size
  refine ops_cons rfl (ow_call ent87 rfl (ret_mono (l12Draw_c _ _ _ _ _ _ _ _ q hs hB ok hbl) ?_))
  rintro _ w2 ⟨AT, cT, ys, a4, sd5, rfl, hyl, oT, ok, b3, x1⟩
  replace hs := hs.grown x1 (by intro g hg; injection hg; omega)
  replace X := gb_trans X x1
  clear x1 q
  replace oT := Own.low oT LoT
  have hyl0 := hyl.1
  refine ops_cons rfl (ow_assign rfl ?_)
  refine ops_nil ?_
  refine c_seq ?_
  refine c_seqR ?_
  refine ops_cons rfl (ow_move rfl ?_)
  refine ops_cons rfl (ow_len Try.underlying43 rfl ?_)
  refine ops_cons rfl (ow_eql2 rfl rfl (fun h0 => ?_) (fun h0 => ?_))
  refine ops_nil ?_
  refine c_true rfl ?_
  refine c_seqR ?_
  refine ops_cons rfl (ow_move rfl ?_)
  refine ops_cons rfl (ow_assign rfl ?_)
  refine ops_nil ?_
  refine c_ret ?_
  refine tq_r ?_
  refine fin_ret1 rfl rfl ?_
  · skip
    first
    | (exact ⟨_, _, zs, _, _, by rw [hzl], by omega, by rw [hzl]; exact oR, ok, b3, X⟩)
    | (subst hn; exact ⟨_, _, zs, _, _, rfl, by omega, oO, ok, b3, X⟩)
    | (exact ⟨_, _, ys, _, _, rfl, by omega, oT, ok, b3, X⟩)
  refine ops_nil ?_
  refine c_false rfl ?_
  refine c_skip ?_
  refine tq_n ?_
  refine c_seqR ?_
  refine ops_cons rfl (ow_move rfl ?_)
  refine ops_cons rfl (ow_move rfl ?_)
  refine ops_cons rfl (ow_len Try.underlying43 rfl ?_)
  have hn0 : (ys.length : Int) ≠ 0 := by omega
  refine ops_cons rfl (ow_call ent63 rfl (ret_mono (l01Next_c _ _ _ _ _ _ _ _ _ b3 hs hB ok hbl (by omega)) ?_))
  rintro _ w9 ⟨rk, a11, sd12, rfl, hr13, ok, b10, x7⟩
  replace hs := hs.grown x7 (by intro g hg; injection hg; omega)
  replace oT := oT.grownBlk x7 (Own.neT oT b3 (by decide))
  replace X := gb_trans X x7
  clear x7 b3
  refine ops_cons rfl (ow_assign rfl ?_)
  refine ops_nil ?_
  refine c_seq ?_
  refine c_seqR ?_
  refine ops_cons rfl (ow_move rfl ?_)
  refine ops_cons rfl (ow_call ent63 rfl (ret_mono (l01Next_c _ _ _ _ _ _ _ _ _ b10 hs hB ok hbl (by omega)) ?_))
  rintro _ w15 ⟨r24, a17, sd18, rfl, hr19, ok, b16, x14⟩
  replace hs := hs.grown x14 (by intro g hg; injection hg; omega)
  replace oT := oT.grownBlk x14 (Own.neT oT b10 (by decide))
  replace X := gb_trans X x14
  clear x14 b10
  refine ops_nil ?_
  refine c_block ?_
  refine c_seqR ?_
  refine ops_cons rfl (ow_eql2 rfl rfl (fun h20 => ?_) (fun h20 => ?_))
  refine ops_cons rfl (ow_assign rfl ?_)
  refine ops_nil ?_
  refine c_true rfl ?_
  refine c_region ?_
  refine ops_cons rfl (ow_move rfl ?_)
  refine ops_cons rfl (ow_move rfl ?_)
  refine ops_cons rfl (ow_buildSlice el22 ti2 rfl rfl rfl rfl rfl ?_)
  intro g21 w23 eg21 oL bbg21 x22 zg21
  replace oL := Own.low oL X.size
  replace hs := hs.ext x22
  replace oT := oT.ext x22
  replace b16 := b16.ext x22
  replace X := gb_ext X x22; clear x22
  replace oL := oL.to (cs' := ([-1, 15, 16] : List Int).flatMap eI) rfl
  refine ops_cons rfl (ow_move rfl ?_)
  refine ops_cons rfl (ow_call ent63 rfl (ret_mono (l01Next_c _ _ _ _ _ _ _ _ _ b16 hs hB ok hbl (by omega)) ?_))
  rintro _ w25 ⟨rr, a27, sd28, rfl, hr29, ok, b26, x24⟩
  replace hs := hs.grown x24 (by intro g hg; injection hg; omega)
  replace oT := oT.grownBlk x24 (Own.neT oT b16 (by decide))
  replace oL := oL.grownBlk x24 (Own.neT oL b16 (by decide))
  replace X := gb_trans X x24
  clear x24 b16
  obtain ⟨y, hy⟩ : ∃ y, ([-1, 15, 16] : List Int)[rr.toNat]? = some y := ⟨_, List.getElem?_eq_getElem (by simp; omega)⟩
  obtain ⟨x, hx⟩ : ∃ x, ys[rk.toNat]? = some x := ⟨_, List.getElem?_eq_getElem (by omega)⟩
  refine ops_cons rfl (ow_indexT (oL).sl eI_len rfl el22 rfl rfl rfl hy (by omega) ?_)
  refine ops_cons rfl (ow_loadT (oL).sl eI_len hy ti2 rfl rfl rfl ?_)
  refine ops_cons rfl (ow_indexT (oT).sl SlotI.len rfl el43 rfl rfl rfl hx (by omega) ?_)
  refine ops_cons rfl (ow_fieldAddr off49_0 rfl ?_)
  refine ops_cons rfl (ow_storeRF oT ti2 rfl rfl rfl rfl (by omega) (by omega) rfl ?_)
  intro w31 oU hg30 z32
  replace hs := hs.grown hg30 (fun g hg => Nat.le_trans Bhs (Own.lt oT hg).1)
  replace oL := oL.grown hg30 (Own.neO oL oT (by decide))
  replace b26 := b26.grown hg30 (fun h => Own.neT oT b26 (by decide) h.symm)
  replace X : w.grownBy w31 (some gS) := by first | exact gb_trans X hg30 | exact gb_new X hg30 (fun g hg => (Own.lt oT hg).1)
  clear hg30 z32
  obtain ⟨zs, hzl, oR⟩ : ∃ zs : List SlotI, zs.length = ys.length ∧ Own _ _ _ _ _ _ _ (zs.flatMap SlotI.cells) := ⟨ys.set rk.toNat ⟨y, x.round, x.slot, x.desc⟩, List.length_set .., oU.to (set_field (x := x) (x' := ⟨y, x.round, x.slot, x.desc⟩) (vs := [.int .i64 y]) SlotI.len (f := 0) rfl (by omega) ys rk.toNat hx)⟩
  refine ops_nil ?_
  refine bq_n ?_
  refine tq_n ?_
  refine c_seqR ?_
  refine ops_cons rfl (ow_move rfl ?_)
  refine ops_cons rfl (ow_assign rfl ?_)
  refine ops_nil ?_
  refine c_ret ?_
  refine fin_ret1 rfl rfl ?_
  · skip
    first
    | (exact ⟨_, _, zs, _, _, by rw [hzl], by omega, by rw [hzl]; exact oR, ok, b26, X⟩)
    | (subst hn; exact ⟨_, _, zs, _, _, rfl, by omega, oO, ok, b26, X⟩)
    | (exact ⟨_, _, ys, _, _, rfl, by omega, oT, ok, b26, X⟩)
  refine ops_cons rfl (ow_assign rfl ?_)
  refine ops_nil ?_
  refine c_false rfl ?_
  refine c_seqR ?_
  refine ops_cons rfl (ow_eql2 rfl rfl (fun h33 => ?_) (fun h33 => ?_))
  refine ops_cons rfl (ow_assign rfl ?_)
  refine ops_nil ?_
  refine c_true rfl ?_
  refine c_region ?_
  refine ops_cons rfl (ow_move rfl ?_)
  refine ops_cons rfl (ow_move rfl ?_)
  refine ops_cons rfl (ow_buildSlice el22 ti2 rfl rfl rfl rfl rfl ?_)
  intro g34 w36 eg34 oL bbg34 x35 zg34
  replace oL := Own.low oL X.size
  replace hs := hs.ext x35
  replace oT := oT.ext x35
  replace b16 := b16.ext x35
  replace X := gb_ext X x35; clear x35
  replace oL := oL.to (cs' := ([-1, 7, 8] : List Int).flatMap eI) rfl
  refine ops_cons rfl (ow_move rfl ?_)
  refine ops_cons rfl (ow_call ent63 rfl (ret_mono (l01Next_c _ _ _ _ _ _ _ _ _ b16 hs hB ok hbl (by omega)) ?_))
  rintro _ w38 ⟨rr, a40, sd41, rfl, hr42, ok, b39, x37⟩
  replace hs := hs.grown x37 (by intro g hg; injection hg; omega)
  replace oT := oT.grownBlk x37 (Own.neT oT b16 (by decide))
  replace oL := oL.grownBlk x37 (Own.neT oL b16 (by decide))
  replace X := gb_trans X x37
  clear x37 b16
  obtain ⟨y, hy⟩ : ∃ y, ([-1, 7, 8] : List Int)[rr.toNat]? = some y := ⟨_, List.getElem?_eq_getElem (by simp; omega)⟩
  obtain ⟨x, hx⟩ : ∃ x, ys[rk.toNat]? = some x := ⟨_, List.getElem?_eq_getElem (by omega)⟩
  refine ops_cons rfl (ow_indexT (oL).sl eI_len rfl el22 rfl rfl rfl hy (by omega) ?_)
  refine ops_cons rfl (ow_loadT (oL).sl eI_len hy ti2 rfl rfl rfl ?_)
  refine ops_cons rfl (ow_indexT (oT).sl SlotI.len rfl el43 rfl rfl rfl hx (by omega) ?_)
  refine ops_cons rfl (ow_fieldAddr off49_1 rfl ?_)
  refine ops_cons rfl (ow_storeRF oT ti2 rfl rfl rfl rfl (by omega) (by omega) rfl ?_)
  intro w44 oU hg43 z45
  replace hs := hs.grown hg43 (fun g hg => Nat.le_trans Bhs (Own.lt oT hg).1)
  replace oL := oL.grown hg43 (Own.neO oL oT (by decide))
  replace b39 := b39.grown hg43 (fun h => Own.neT oT b39 (by decide) h.symm)
  replace X : w.grownBy w44 (some gS) := by first | exact gb_trans X hg43 | exact gb_new X hg43 (fun g hg => (Own.lt oT hg).1)
  clear hg43 z45
  obtain ⟨zs, hzl, oR⟩ : ∃ zs : List SlotI, zs.length = ys.length ∧ Own _ _ _ _ _ _ _ (zs.flatMap SlotI.cells) := ⟨ys.set rk.toNat ⟨x.mode, y, x.slot, x.desc⟩, List.length_set .., oU.to (set_field (x := x) (x' := ⟨x.mode, y, x.slot, x.desc⟩) (vs := [.int .i64 y]) SlotI.len (f := 1) rfl (by omega) ys rk.toNat hx)⟩
  refine ops_nil ?_
  refine bq_n ?_
  refine tq_n ?_
  refine c_seqR ?_
  refine ops_cons rfl (ow_move rfl ?_)
  refine ops_cons rfl (ow_assign rfl ?_)
  refine ops_nil ?_
  refine c_ret ?_
  refine fin_ret1 rfl rfl ?_
  · skip
    first
    | (exact ⟨_, _, zs, _, _, by rw [hzl], by omega, by rw [hzl]; exact oR, ok, b39, X⟩)
    | (subst hn; exact ⟨_, _, zs, _, _, rfl, by omega, oO, ok, b39, X⟩)
    | (exact ⟨_, _, ys, _, _, rfl, by omega, oT, ok, b39, X⟩)
  refine ops_cons rfl (ow_assign rfl ?_)
  refine ops_nil ?_
  refine c_false rfl ?_
  refine c_seqR ?_
  refine ops_cons rfl (ow_eql2 rfl rfl (fun h46 => ?_) (fun h46 => ?_))
  refine ops_cons rfl (ow_assign rfl ?_)
  refine ops_nil ?_
  refine c_true rfl ?_
  refine c_region ?_
  refine ops_cons rfl (ow_move rfl ?_)
  refine ops_cons rfl (ow_move rfl ?_)
  refine ops_cons rfl (ow_buildSlice el22 ti2 rfl rfl rfl rfl rfl ?_)
  intro g47 w49 eg47 oL bbg47 x48 zg47
  replace oL := Own.low oL X.size
  replace hs := hs.ext x48
  replace oT := oT.ext x48
  replace b16 := b16.ext x48
  replace X := gb_ext X x48; clear x48
  replace oL := oL.to (cs' := ([-1, 15, 16] : List Int).flatMap eI) rfl
  refine ops_cons rfl (ow_move rfl ?_)
  refine ops_cons rfl (ow_call ent63 rfl (ret_mono (l01Next_c _ _ _ _ _ _ _ _ _ b16 hs hB ok hbl (by omega)) ?_))
  rintro _ w51 ⟨rr, a53, sd54, rfl, hr55, ok, b52, x50⟩
  replace hs := hs.grown x50 (by intro g hg; injection hg; omega)
  replace oT := oT.grownBlk x50 (Own.neT oT b16 (by decide))
  replace oL := oL.grownBlk x50 (Own.neT oL b16 (by decide))
  replace X := gb_trans X x50
  clear x50 b16
  obtain ⟨y, hy⟩ : ∃ y, ([-1, 15, 16] : List Int)[rr.toNat]? = some y := ⟨_, List.getElem?_eq_getElem (by simp; omega)⟩
  obtain ⟨x, hx⟩ : ∃ x, ys[rk.toNat]? = some x := ⟨_, List.getElem?_eq_getElem (by omega)⟩
  refine ops_cons rfl (ow_indexT (oL).sl eI_len rfl el22 rfl rfl rfl hy (by omega) ?_)
  refine ops_cons rfl (ow_loadT (oL).sl eI_len hy ti2 rfl rfl rfl ?_)
  refine ops_cons rfl (ow_indexT (oT).sl SlotI.len rfl el43 rfl rfl rfl hx (by omega) ?_)
  refine ops_cons rfl (ow_fieldAddr off49_2 rfl ?_)
  refine ops_cons rfl (ow_storeRF oT ti2 rfl rfl rfl rfl (by omega) (by omega) rfl ?_)
  intro w57 oU hg56 z58
  replace hs := hs.grown hg56 (fun g hg => Nat.le_trans Bhs (Own.lt oT hg).1)
  replace oL := oL.grown hg56 (Own.neO oL oT (by decide))
  replace b52 := b52.grown hg56 (fun h => Own.neT oT b52 (by decide) h.symm)
  replace X : w.grownBy w57 (some gS) := by first | exact gb_trans X hg56 | exact gb_new X hg56 (fun g hg => (Own.lt oT hg).1)
  clear hg56 z58
  obtain ⟨zs, hzl, oR⟩ : ∃ zs : List SlotI, zs.length = ys.length ∧ Own _ _ _ _ _ _ _ (zs.flatMap SlotI.cells) := ⟨ys.set rk.toNat ⟨x.mode, x.round, y, x.desc⟩, List.length_set .., oU.to (set_field (x := x) (x' := ⟨x.mode, x.round, y, x.desc⟩) (vs := [.int .i64 y]) SlotI.len (f := 2) rfl (by omega) ys rk.toNat hx)⟩
  refine ops_nil ?_
  refine bq_n ?_
  refine tq_n ?_
  refine c_seqR ?_
  refine ops_cons rfl (ow_move rfl ?_)
  refine ops_cons rfl (ow_assign rfl ?_)
  refine ops_nil ?_
  refine c_ret ?_
  refine fin_ret1 rfl rfl ?_
  · skip
    first
    | (exact ⟨_, _, zs, _, _, by rw [hzl], by omega, by rw [hzl]; exact oR, ok, b52, X⟩)
    | (subst hn; exact ⟨_, _, zs, _, _, rfl, by omega, oO, ok, b52, X⟩)
    | (exact ⟨_, _, ys, _, _, rfl, by omega, oT, ok, b52, X⟩)
  refine ops_cons rfl (ow_assign rfl ?_)
  refine ops_nil ?_
  refine c_false rfl ?_
  refine c_seqR ?_
  refine ops_cons rfl (ow_eql2 rfl rfl (fun h59 => ?_) (fun h59 => ?_))
  refine ops_cons rfl (ow_assign rfl ?_)
  refine ops_nil ?_
  refine c_true rfl ?_
  refine c_region ?_
  refine ops_cons rfl (ow_move rfl ?_)
  refine ops_cons rfl (ow_move rfl ?_)
  refine ops_cons rfl (ow_move rfl ?_)
  refine ops_cons rfl (ow_call ent64 rfl (ret_mono (l08DrawAny_c _ _ _ _ _ _ _ _ b16 hs hB ok hbl) ?_))
  rintro _ w61 ⟨dd, a63, sd64, rfl, hp65, ok, b62, x60⟩
  replace hs := hs.grown x60 (by intro g hg; injection hg; omega)
  replace oT := oT.grownBlk x60 (Own.neT oT b16 (by decide))
  replace X := gb_trans X x60
  clear x60 b16
  obtain ⟨x, hx⟩ : ∃ x, ys[rk.toNat]? = some x := ⟨_, List.getElem?_eq_getElem (by omega)⟩
  refine ops_cons rfl (ow_indexT (oT).sl SlotI.len rfl el43 rfl rfl rfl hx (by omega) ?_)
  refine ops_cons rfl (ow_fieldAddr off49_3 rfl ?_)
  refine ops_cons rfl (ow_storeRF oT ti47 rfl rfl rfl rfl (by omega) (by omega) rfl ?_)
  intro w67 oU hg66 z68
  replace hs := hs.grown hg66 (fun g hg => Nat.le_trans Bhs (Own.lt oT hg).1)
  replace b62 := b62.grown hg66 (fun h => Own.neT oT b62 (by decide) h.symm)
  replace X : w.grownBy w67 (some gS) := by first | exact gb_trans X hg66 | exact gb_new X hg66 (fun g hg => (Own.lt oT hg).1)
  clear hg66 z68
  obtain ⟨zs, hzl, oR⟩ : ∃ zs : List SlotI, zs.length = ys.length ∧ Own _ _ _ _ _ _ _ (zs.flatMap SlotI.cells) := ⟨ys.set rk.toNat ⟨x.mode, x.round, x.slot, dd⟩, List.length_set .., oU.to (set_field (x := x) (x' := ⟨x.mode, x.round, x.slot, dd⟩) (vs := dd.cells) SlotI.len (f := 3) rfl (by omega) ys rk.toNat hx)⟩
  refine ops_nil ?_
  refine bq_n ?_
  refine tq_n ?_
  refine c_seqR ?_
  refine ops_cons rfl (ow_move rfl ?_)
  refine ops_cons rfl (ow_assign rfl ?_)
  refine ops_nil ?_
  refine c_ret ?_
  refine fin_ret1 rfl rfl ?_
  · skip
    first
    | (exact ⟨_, _, zs, _, _, by rw [hzl], by omega, by rw [hzl]; exact oR, ok, b62, X⟩)
    | (subst hn; exact ⟨_, _, zs, _, _, rfl, by omega, oO, ok, b62, X⟩)
    | (exact ⟨_, _, ys, _, _, rfl, by omega, oT, ok, b62, X⟩)
  refine ops_cons rfl (ow_assign rfl ?_)
  refine ops_nil ?_
  refine c_false rfl ?_
  refine c_seqR ?_
  refine ops_cons rfl (ow_eql2 rfl rfl (fun h69 => ?_) (fun h69 => ?_))
  refine ops_cons rfl (ow_assign rfl ?_)
  refine ops_nil ?_
  refine c_true rfl ?_
  refine c_region ?_
  refine ops_cons rfl (ow_move rfl ?_)
  refine ops_cons rfl (ow_move rfl ?_)
  refine ops_cons rfl (ow_move rfl ?_)
  obtain ⟨x, hx⟩ : ∃ x, ys[rk.toNat]? = some x := ⟨_, List.getElem?_eq_getElem (by omega)⟩
  refine ops_cons rfl (ow_indexT (oT).sl SlotI.len rfl el43 rfl rfl rfl hx (by omega) ?_)
  refine ops_cons rfl (ow_loadTA (oT).sl SlotI.len hx ti49 rfl ?_)
  refine ops_cons rfl (ow_buildSlice el43 ti49 rfl rfl rfl rfl rfl ?_)
  intro g70 w72 eg70 oV bbg70 x71 zg70
  replace oV := Own.low oV X.size
  replace hs := hs.ext x71
  replace oT := oT.ext x71
  replace b16 := b16.ext x71
  replace X := gb_ext X x71; clear x71
  refine ops_cons rfl (ow_append (ts := #[]) oT X.size oV.sl (by first | rfl | simp) (by first | exact List.all_eq_true.1 rfl | simp [Value.oneCell']) el43 ti49 rfl rfl rfl rfl (by omega) (by omega) ?_)
  intro AoU coU w74 oU hg73
  replace hs := hs.grown hg73 (fun g hg => Nat.le_trans Bhs (Own.lt oT hg).1)
  replace b16 := b16.grown hg73 (fun h => Own.neT oT b16 (by decide) h.symm)
  replace X := gb_new X hg73 (fun g hg => (Own.lt oT hg).1)
  clear hg73
  obtain ⟨zs, hzl, oR⟩ : ∃ zs : List SlotI, zs.length = ys.length + 1 ∧ Own _ _ _ _ _ _ _ (zs.flatMap SlotI.cells) := ⟨ys ++ [x], by simp, oU.to (snoc SlotI.cells ys x).symm⟩
  refine ops_cons rfl (ow_assign rfl ?_)
  refine ops_nil ?_
  refine bq_n ?_
  refine tq_n ?_
  refine c_seqR ?_
  refine ops_cons rfl (ow_move rfl ?_)
  refine ops_cons rfl (ow_assign rfl ?_)
  refine ops_nil ?_
  refine c_ret ?_
  refine fin_ret1 rfl rfl ?_
  · skip
    first
    | (exact ⟨_, _, zs, _, _, by rw [hzl], by omega, by rw [hzl]; exact oR, ok, b16, X⟩)
    | (subst hn; exact ⟨_, _, zs, _, _, rfl, by omega, oO, ok, b16, X⟩)
    | (exact ⟨_, _, ys, _, _, rfl, by omega, oT, ok, b16, X⟩)
  refine ops_cons rfl (ow_assign rfl ?_)
  refine ops_nil ?_
  refine c_false rfl ?_
  refine c_seqR ?_
  refine ops_cons rfl (ow_eql2 rfl rfl (fun h75 => ?_) (fun h75 => ?_))
  refine ops_cons rfl (ow_assign rfl ?_)
  refine ops_nil ?_
  refine c_true rfl ?_
  refine c_seqR ?_
  refine ops_cons rfl (ow_buildSlice el43 ti49 rfl rfl rfl rfl rfl ?_)
  intro gI w77 egI oI bbgI x76 zgI
  replace oI := Own.low oI X.size
  replace hs := hs.ext x76
  replace oT := oT.ext x76
  replace b16 := b16.ext x76
  replace X := gb_ext X x76; clear x76
  refine ops_cons rfl (ow_assign rfl ?_)
  refine ops_nil ?_
  refine c_seqR ?_
  refine ops_cons rfl (ow_move rfl ?_)
  refine ops_cons rfl (ow_call ent88 rfl (ret_mono (l08Draw_c _ _ _ _ _ _ _ _ b16 hs hB ok hbl) ?_))
  rintro _ w79 ⟨dd, a81, sd82, rfl, hp83, ok, b80, x78⟩
  replace hs := hs.grown x78 (by intro g hg; injection hg; omega)
  replace oT := oT.grownBlk x78 (Own.neT oT b16 (by decide))
  replace oI := oI.grownBlk x78 (Own.neT oI b16 (by decide))
  replace X := gb_trans X x78
  clear x78 b16
  refine ops_cons rfl (ow_alloc ti47 ?_)
  intro gD w85 egD bD x84 zgD
  have lgD : w.heap.size ≤ gD := Nat.le_trans X.size (Nat.le_of_eq egD.symm)
  have pgDhs := Nat.le_trans hs.1 (Nat.le_of_eq egD.symm)
  have ngDb80 := Nat.lt_of_lt_of_eq b80.lt egD.symm
  replace hs := hs.ext x84
  replace oT := oT.ext x84
  replace oI := oI.ext x84
  replace b80 := b80.ext x84
  replace X := gb_ext X x84; clear x84
  refine ops_cons rfl (ow_storeB bD ti47 rfl rfl rfl rfl rfl rfl ?_)
  intro w87 bE hg86 z88
  replace hs := hs.grown hg86 (by intro g hg; injection hg; omega)
  replace oT := oT.grownBlk hg86 (Own.neT oT bD (by decide))
  replace oI := oI.grownBlk hg86 (Own.neT oI bD (by decide))
  replace b80 := b80.grown hg86 (by intro h; injection h; omega)
  replace X := gb_new X hg86 (by intro g hg; injection hg; omega)
  clear hg86 bD
  refine ops_nil ?_
  refine c_seqR ?_
  refine ops_cons rfl (ow_assign rfl ?_)
  refine ops_nil ?_
  refine c_block ?_
  refine c_loop (G := Int × List SlotI × Nat × Option Addr × Nat) (fun ⟨i, zs, n1, A1, c1⟩ => [(2, .slice none 0 0), (5, .pointer (some ⟨gD, 0, none⟩)), (0, .pointer (some ⟨gS, 0, none⟩)), (3, .slice A1 n1 c1), (6, .int .i64 i)]) (fun ⟨i, zs, n1, A1, c1⟩ wr => (0 ≤ i ∧ i ≤ 121) ∧ n1 = zs.length ∧ (n1 : Int) = i ∧ (∃ a sd, (a ≤ bs.length ∧ 0 ≤ sd ∧ sd < 2147483647) ∧ Blk wr gS 112 (srcC A c bs a sd)) ∧ Own wr w.heap.size 49 8 A1 n1 c1 (zs.flatMap SlotI.cells) ∧ Sl B wr A (bs.flatMap eB) ∧ Blk wr gD 47 dd.cells ∧ w.grownBy wr (some gS)) (fun ⟨i, zs, n1, A1, c1⟩ => (122 - i).toNat) (0, [], 0, some ⟨gI, 0, none⟩, 0) (.cons rfl (.cons rfl (.cons rfl (.cons rfl (.cons rfl (.nil _)))))) ?_ ?_
  · exact ⟨(by omega), rfl, rfl, ⟨_, _, ok, b80⟩, oI, hs, bE, X⟩
  clear hs oT oI b80 bE
  clear X
  rintro ⟨i, zs, n1, A1, c1⟩ wr ⟨hi0, hn, hni, qq, oO, hs, bE, X⟩
  obtain ⟨a, sd, ok, q⟩ := qq
  refine c_seq ?_
  refine c_seqR ?_
  refine ops_cons rfl (ow_move rfl ?_)
  refine ops_cons rfl (ow_move rfl ?_)
  refine ops_cons rfl (ow_call ent63 rfl (ret_mono (l01Next_c _ _ _ _ _ _ _ _ _ q hs hB ok hbl (by omega)) ?_))
  rintro _ w90 ⟨rr, a92, sd93, rfl, hr94, ok, b91, x89⟩
  replace oO := oO.grownBlk x89 (Own.neT oO q (by decide))
  replace hs := hs.grown x89 (by intro g hg; injection hg; omega)
  replace bE := bE.grown x89 (by intro h; injection h; omega)
  replace X := gb_trans X x89
  clear x89 q
  refine ops_cons rfl (ow_add rfl rfl (w64 (by omega)) ?_)
  refine ops_cons rfl (ow_lss2 rfl rfl (fun hlt => ?_) (fun hlt => ?_))
  refine ops_nil ?_
  refine c_true rfl ?_
  refine c_skip ?_
  refine tq_n ?_
  refine c_seq ?_
  refine c_block ?_
  refine c_region ?_
  refine ops_cons rfl (ow_move rfl ?_)
  refine ops_cons rfl (ow_move rfl ?_)
  refine ops_cons rfl (ow_quo rfl rfl (by omega) (q64 (by omega)) ?_)
  refine ops_cons rfl (ow_move rfl ?_)
  refine ops_cons rfl (ow_rem rfl rfl (by omega) (m64 (by omega)) ?_)
  refine ops_cons rfl (ow_loadAB bE ti47 rfl rfl ?_)
  refine ops_cons rfl (ow_buildP pl49 ti49 rfl rfl ?_)
  refine ops_cons rfl (ow_buildSlice el43 ti49 rfl rfl rfl rfl rfl ?_)
  intro g95 w97 eg95 oV bbg95 x96 zg95
  replace oV := Own.low oV X.size
  replace oO := oO.ext x96
  replace hs := hs.ext x96
  replace bE := bE.ext x96
  replace b91 := b91.ext x96
  replace X := gb_ext X x96; clear x96
  refine ops_cons rfl (ow_append (ts := #[]) oO X.size oV.sl (by first | rfl | simp) (by first | exact List.all_eq_true.1 rfl | simp [Value.oneCell']) el43 ti49 rfl rfl rfl rfl (by omega) (by omega) ?_)
  intro AoN coN w99 oN hg98
  replace hs := hs.grown hg98 (fun g hg => Nat.le_trans Bhs (Own.lt oO hg).1)
  replace bE := bE.grown hg98 (fun h => Own.neT oO bE (by decide) h.symm)
  replace b91 := b91.grown hg98 (fun h => Own.neT oO b91 (by decide) h.symm)
  replace X := gb_new X hg98 (fun g hg => (Own.lt oO hg).1)
  clear hg98
  refine ops_cons rfl (ow_assign rfl ?_)
  refine ops_nil ?_
  refine bq_n ?_
  refine tq_n ?_
  refine c_region ?_
  refine ops_cons rfl (ow_move rfl ?_)
  refine ops_cons rfl (ow_add rfl rfl (w64 (by omega)) ?_)
  refine ops_cons rfl (ow_assign rfl ?_)
  refine ops_nil ?_
  refine tq_n ⟨(i + 1, zs ++ [⟨i / 16, 0, i % 16, dd⟩], n1 + 1, AoN, coN), (.cons rfl (.cons rfl (.cons rfl (.cons rfl (.cons rfl (.nil _)))))), ?_, ?_⟩
  · exact ⟨(by omega), (by simp [hn]), (by omega), ⟨_, _, ok, b91⟩, oN.to (snoc SlotI.cells zs ⟨i / 16, 0, i % 16, dd⟩).symm, hs, bE, X⟩
  · first | omega | (dsimp only; omega)
  refine ops_nil ?_
  refine c_false rfl ?_
  refine c_exit ?_
  refine tq_e ?_
  refine tq_e ?_
  refine bq_e ?_
  refine bq_n ?_
  refine tq_n ?_
  refine c_seqR ?_
  refine ops_cons rfl (ow_move rfl ?_)
  refine ops_cons rfl (ow_assign rfl ?_)
  refine ops_nil ?_
  refine c_ret ?_
  refine fin_ret1 rfl rfl ?_
  · skip
    first
    | (exact ⟨_, _, zs, _, _, by rw [hzl], by omega, by rw [hzl]; exact oR, ok, b91, X⟩)
    | (subst hn; exact ⟨_, _, zs, _, _, rfl, by omega, oO, ok, b91, X⟩)
    | (exact ⟨_, _, ys, _, _, rfl, by omega, oT, ok, b91, X⟩)
  refine ops_cons rfl (ow_assign rfl ?_)
  refine ops_nil ?_
  refine c_false rfl ?_
  refine c_skip ?_
  refine bq_n ?_
  refine tq_n ?_
  refine c_seqR ?_
  refine ops_cons rfl (ow_move rfl ?_)
  refine ops_cons rfl (ow_assign rfl ?_)
  refine ops_nil ?_
  refine c_ret ?_
  refine fin_ret1 rfl rfl ?_
  · skip
    first
    | (exact ⟨_, _, zs, _, _, by rw [hzl], by omega, by rw [hzl]; exact oR, ok, b16, X⟩)
    | (subst hn; exact ⟨_, _, zs, _, _, rfl, by omega, oO, ok, b16, X⟩)
    | (exact ⟨_, _, ys, _, _, rfl, by omega, oT, ok, b16, X⟩)
end Go.Proofs.Ytdoibplhbdkapaa
namespace Go.Proofs.Ytdoibplhbdkapaa
open Go.RowKit
set_option linter.unusedVariables false
set_option linter.unusedSimpArgs false
section
variable {P : Program} {n : Nat} {fn : Func} {e : List (Nat × Value)} {w : World} {R : Value → World → Prop} {s b s' b' : Nat} {z z' cs vs cs' vs' : List Value} {g i g' i' : Nat} {T T' S S' : TypeId} {t u t' x y : Tmp} {v v1 v2 : Value}
theorem load_cell (hb : Blk w g T' cs) (ht : tiO P T = some (true, s, b, z)) (hs : subL cs i s = some vs) : (loadVar T ⟨g, i, none⟩).run P w = .ok (.agg vs.toArray) w := run_loadVarA ht (subL_spec hs).1 (fun j v hj => by rw [add_blk, hb.cell]; exact (subL_spec hs).2 j v hj)
theorem fin_tc (hr : fn.results = #[.tmp u, .cell t T]) (hu : lk e u = some v) (hv : lk e t = some (.pointer (some ⟨g, i, none⟩))) (hb : Blk w g T' cs) (ht : tiO P T = some (true, s, b, z)) (hs : subL cs i s = some vs) (h : R (.tuple #[v, .agg vs.toArray]) w) : fin P n fn R .ret e w := fun a ha => by
  have h1 := ha.2.2 t _ hv
  have h3 := ha.2.2 u _ hu
  have h2 := load_cell (P := P) hb ht hs
  simp only [Array.getD_eq_getD_getElem?] at h1 h3
  refine ⟨_, ?_, h⟩
  simp only [results, hr]
  simp [Sem.run_bind, Result.andThen, asAddr, h1, h2, h3]
theorem fin_cc (hr : fn.results = #[.cell t T, .cell t' S]) (hv : lk e t = some (.pointer (some ⟨g, i, none⟩))) (hb : Blk w g T' cs) (ht : tiO P T = some (true, s, b, z)) (hs : subL cs i s = some vs) (hv' : lk e t' = some (.pointer (some ⟨g', i', none⟩))) (hb' : Blk w g' S' cs') (ht' : tiO P S = some (true, s', b', z')) (hs' : subL cs' i' s' = some vs') (h : R (.tuple #[.agg vs.toArray, .agg vs'.toArray]) w) : fin P n fn R .ret e w := fun a ha => by
  have h1 := ha.2.2 t _ hv
  have h3 := ha.2.2 t' _ hv'
  have h2 := load_cell (P := P) hb ht hs
  have h4 := load_cell (P := P) hb' ht' hs'
  simp only [Array.getD_eq_getD_getElem?] at h1 h3
  refine ⟨_, ?_, h⟩
  simp only [results, hr]
  simp [Sem.run_bind, Result.andThen, asAddr, h1, h2, h3, h4]
end
end Go.Proofs.Ytdoibplhbdkapaa
namespace Go.Proofs.Ytdoibplhbdkapaa
open Go.RowKit
set_option linter.unusedVariables false
set_option linter.unusedSimpArgs false
set_option maxRecDepth 20000
theorem drawIS_c (A : Option Addr) (B c : Nat) (bs : List UInt8) (w : World) (hs : Sl B w A (bs.flatMap eB)) (hbl : bs.length ≤ 1048576) :
    Calls Try.prog 27 #[.slice A bs.length c] w (Ret fun v w' => ∃ A' c' xs x, v = .tuple #[.slice A' (List.length xs) c', .agg (SlotI.cells x).toArray] ∧ xs.length ≤ 130 ∧ Own w' w.heap.size 49 8 A' xs.length c' (xs.flatMap SlotI.cells) ∧ Ext w w') := by
  have Bhs := hs.1
  have X := Ext.refl w
  refine calls_of (args := [.slice A bs.length c]) Try.func27 Try.ntmps27 rfl rfl ?_
  refine c_seqR ?_
  refine ops_cons rfl (ow_assign rfl ?_)
  refine ops_cons rfl (ow_alloc ti49 ?_)
  intro g3 w2 eg3 b3 x1 zg3
  have lg3 : w.heap.size ≤ g3 := Nat.le_trans X.size (Nat.le_of_eq eg3.symm)
  have pg3hs := Nat.le_trans hs.1 (Nat.le_of_eq eg3.symm)
  replace hs := hs.ext x1
  replace X := Ext.trans X x1; clear x1
  refine ops_nil ?_
  refine c_seqR ?_
  refine ops_cons rfl (ow_move rfl ?_)
  have L3 := b3.lt
  refine ops_cons rfl (ow_call ent61 rfl (ret_mono (l01From_c _ _ _ _ _ hs hbl) ?_))
  rintro _ w4 ⟨gS, a8, sd9, rfl, lgS0, ok, o5, x3⟩
  have lgS : w.heap.size ≤ gS := Nat.le_trans X.size lgS0
  replace hs := hs.ext x3
  replace b3 := b3.ext x3
  replace X := Ext.trans X x3; clear x3
  refine ops_cons rfl (ow_assign rfl ?_)
  refine ops_nil ?_
  refine c_seqR ?_
  have hB : B ≤ gS := by omega
  refine ops_cons rfl (ow_move rfl ?_)
  have L3b := b3.lt
  have LoT := X.size
  refine ops_cons rfl (ow_call ent62 rfl (ret_mono (l12DrawAny_c _ _ _ _ _ _ _ _ o5 hs hB ok hbl) ?_))
  rintro _ w11 ⟨AT, cT, ys, a13, sd14, rfl, hyl, oT, ok, b12, x10⟩
  replace hs := hs.grown x10 (by intro g hg; injection hg; omega)
  replace b3 := b3.grown x10 (by intro h; injection h; omega)
  replace X := X.grown x10 X.size (by intro g hg; injection hg; omega)
  clear x10 o5
  have U3 : ∀ g, (Value.slice AT ys.length cT).ownBlock = some g → g ≠ g3 := fun g hg e => absurd (Own.lt oT hg).1 (Nat.not_le.2 (e ▸ L3b))
  replace oT := Own.low oT LoT
  refine ops_cons rfl (ow_assign rfl ?_)
  refine ops_nil ?_
  refine c_seqR ?_
  refine ops_cons rfl (ow_move rfl ?_)
  refine ops_cons rfl (ow_move rfl ?_)
  refine ops_cons rfl (ow_call ent63 rfl (ret_mono (l01Next_c _ _ _ _ _ _ _ _ _ b12 hs hB ok hbl (by omega)) ?_))
  rintro _ w17 ⟨r1, a19, sd20, rfl, hr21, ok, b18, x16⟩
  replace hs := hs.grown x16 (by intro g hg; injection hg; omega)
  replace b3 := b3.grown x16 (by intro h; injection h; omega)
  replace oT := oT.grownBlk x16 (Own.neT oT b12 (by decide))
  replace X := X.grown x16 X.size (by intro g hg; injection hg; omega)
  clear x16 b12
  refine ops_cons rfl (ow_move rfl ?_)
  refine ops_cons rfl (ow_call ent63 rfl (ret_mono (l01Next_c _ _ _ _ _ _ _ _ _ b18 hs hB ok hbl (by omega)) ?_))
  rintro _ w23 ⟨r2, a25, sd26, rfl, hr27, ok, b24, x22⟩
  replace hs := hs.grown x22 (by intro g hg; injection hg; omega)
  replace b3 := b3.grown x22 (by intro h; injection h; omega)
  replace oT := oT.grownBlk x22 (Own.neT oT b18 (by decide))
  replace X := X.grown x22 X.size (by intro g hg; injection hg; omega)
  clear x22 b18
  refine ops_cons rfl (ow_quo rfl rfl (by omega) (q64 (by omega)) ?_)
  refine ops_cons rfl (ow_sub rfl rfl (w64 (by omega)) ?_)
  refine ops_cons rfl (ow_move rfl ?_)
  refine ops_cons rfl (ow_call ent63 rfl (ret_mono (l01Next_c _ _ _ _ _ _ _ _ _ b24 hs hB ok hbl (by omega)) ?_))
  rintro _ w29 ⟨r3, a31, sd32, rfl, hr33, ok, b30, x28⟩
  replace hs := hs.grown x28 (by intro g hg; injection hg; omega)
  replace b3 := b3.grown x28 (by intro h; injection h; omega)
  replace oT := oT.grownBlk x28 (Own.neT oT b24 (by decide))
  replace X := X.grown x28 X.size (by intro g hg; injection hg; omega)
  clear x28 b24
  refine ops_cons rfl (ow_move rfl ?_)
  refine ops_cons rfl (ow_call ent63 rfl (ret_mono (l01Next_c _ _ _ _ _ _ _ _ _ b30 hs hB ok hbl (by omega)) ?_))
  rintro _ w35 ⟨r4, a37, sd38, rfl, hr39, ok, b36, x34⟩
  replace hs := hs.grown x34 (by intro g hg; injection hg; omega)
  replace b3 := b3.grown x34 (by intro h; injection h; omega)
  replace oT := oT.grownBlk x34 (Own.neT oT b30 (by decide))
  replace X := X.grown x34 X.size (by intro g hg; injection hg; omega)
  clear x34 b30
  refine ops_cons rfl (ow_move rfl ?_)
  refine ops_cons rfl (ow_call ent64 rfl (ret_mono (l08DrawAny_c _ _ _ _ _ _ _ _ b36 hs hB ok hbl) ?_))
  rintro _ w41 ⟨dd, a43, sd44, rfl, hp45, ok, b42, x40⟩
  replace hs := hs.grown x40 (by intro g hg; injection hg; omega)
  replace b3 := b3.grown x40 (by intro h; injection h; omega)
  replace oT := oT.grownBlk x40 (Own.neT oT b36 (by decide))
  replace X := X.grown x40 X.size (by intro g hg; injection hg; omega)
  clear x40 b36
  refine ops_cons rfl (ow_buildP pl49 ti49 rfl rfl ?_)
  refine ops_cons rfl (ow_assign rfl ?_)
  refine ops_cons rfl (ow_storeB b3 ti49 rfl rfl rfl rfl rfl rfl ?_)
  intro w47 bX hg46 z48
  replace hs := hs.grown hg46 (by intro g hg; injection hg; omega)
  replace oT := oT.grownBlk hg46 (fun h => U3 _ h rfl)
  replace b42 := b42.grown hg46 (by intro h; injection h; omega)
  replace X := X.grown hg46 X.size (by intro g hg; injection hg; omega)
  clear hg46 b3
  refine ops_nil ?_
  refine c_ret ?_
  refine fin_tc rfl rfl rfl bX ti49 rfl ?_
  exact ⟨_, _, ys, ⟨r1 - r2 / 19, r3, r4, dd⟩, rfl, hyl, oT, X⟩

theorem drawCS_c (A : Option Addr) (B c : Nat) (bs : List UInt8) (w : World) (hs : Sl B w A (bs.flatMap eB)) (hbl : bs.length ≤ 1048576) :
    Calls Try.prog 29 #[.slice A bs.length c] w (Ret fun v w' => ∃ a b, v = .tuple #[.agg (SlotI.cells a).toArray, .agg (SlotI.cells b).toArray] ∧ Ext w w') := by
  have Bhs := hs.1
  have X := Ext.refl w
  refine calls_of (args := [.slice A bs.length c]) Try.func29 Try.ntmps29 rfl rfl ?_
  refine c_seqR ?_
  refine ops_cons rfl (ow_alloc ti49 ?_)
  intro g2 w2 eg2 b2 x1 zg2
  have lg2 : w.heap.size ≤ g2 := Nat.le_trans X.size (Nat.le_of_eq eg2.symm)
  have pg2hs := Nat.le_trans hs.1 (Nat.le_of_eq eg2.symm)
  replace hs := hs.ext x1
  replace X := Ext.trans X x1; clear x1
  refine ops_cons rfl (ow_alloc ti49 ?_)
  intro g3 w4 eg3 b3 x3 zg3
  have lg3 : w.heap.size ≤ g3 := Nat.le_trans X.size (Nat.le_of_eq eg3.symm)
  have pg3hs := Nat.le_trans hs.1 (Nat.le_of_eq eg3.symm)
  have ng3b2 := Nat.lt_of_lt_of_eq b2.lt eg3.symm
  replace hs := hs.ext x3
  replace b2 := b2.ext x3
  replace X := Ext.trans X x3; clear x3
  refine ops_nil ?_
  refine c_seqR ?_
  refine ops_cons rfl (ow_move rfl ?_)
  have L2 := b2.lt
  have L3 := b3.lt
  refine ops_cons rfl (ow_call ent61 rfl (ret_mono (l01From_c _ _ _ _ _ hs hbl) ?_))
  rintro _ w6 ⟨gS, a10, sd11, rfl, lgS0, ok, o7, x5⟩
  have lgS : w.heap.size ≤ gS := Nat.le_trans X.size lgS0
  replace hs := hs.ext x5
  replace b2 := b2.ext x5
  replace b3 := b3.ext x5
  replace X := Ext.trans X x5; clear x5
  refine ops_cons rfl (ow_assign rfl ?_)
  refine ops_nil ?_
  refine c_seqR ?_
  have hB : B ≤ gS := by omega
  refine ops_cons rfl (ow_move rfl ?_)
  refine ops_cons rfl (ow_call ent63 rfl (ret_mono (l01Next_c _ _ _ _ _ _ _ _ _ o7 hs hB ok hbl (by omega)) ?_))
  rintro _ w13 ⟨r1, a15, sd16, rfl, hr17, ok, b14, x12⟩
  replace hs := hs.grown x12 (by intro g hg; injection hg; omega)
  replace b2 := b2.grown x12 (by intro h; injection h; omega)
  replace b3 := b3.grown x12 (by intro h; injection h; omega)
  replace X := X.grown x12 X.size (by intro g hg; injection hg; omega)
  clear x12 o7
  refine ops_cons rfl (ow_move rfl ?_)
  refine ops_cons rfl (ow_call ent63 rfl (ret_mono (l01Next_c _ _ _ _ _ _ _ _ _ b14 hs hB ok hbl (by omega)) ?_))
  rintro _ w19 ⟨r2, a21, sd22, rfl, hr23, ok, b20, x18⟩
  replace hs := hs.grown x18 (by intro g hg; injection hg; omega)
  replace b2 := b2.grown x18 (by intro h; injection h; omega)
  replace b3 := b3.grown x18 (by intro h; injection h; omega)
  replace X := X.grown x18 X.size (by intro g hg; injection hg; omega)
  clear x18 b14
  refine ops_cons rfl (ow_move rfl ?_)
  refine ops_cons rfl (ow_call ent63 rfl (ret_mono (l01Next_c _ _ _ _ _ _ _ _ _ b20 hs hB ok hbl (by omega)) ?_))
  rintro _ w25 ⟨r3, a27, sd28, rfl, hr29, ok, b26, x24⟩
  replace hs := hs.grown x24 (by intro g hg; injection hg; omega)
  replace b2 := b2.grown x24 (by intro h; injection h; omega)
  replace b3 := b3.grown x24 (by intro h; injection h; omega)
  replace X := X.grown x24 X.size (by intro g hg; injection hg; omega)
  clear x24 b20
  refine ops_cons rfl (ow_buildP pl49 ti49 rfl rfl ?_)
  refine ops_cons rfl (ow_alloc ti49 ?_)
  intro g5 w31 eg5 b4 x30 zg5
  have lg5 : w.heap.size ≤ g5 := Nat.le_trans X.size (Nat.le_of_eq eg5.symm)
  have pg5hs := Nat.le_trans hs.1 (Nat.le_of_eq eg5.symm)
  have ng5b2 := Nat.lt_of_lt_of_eq b2.lt eg5.symm
  have ng5b3 := Nat.lt_of_lt_of_eq b3.lt eg5.symm
  have ng5b26 := Nat.lt_of_lt_of_eq b26.lt eg5.symm
  replace hs := hs.ext x30
  replace b2 := b2.ext x30
  replace b3 := b3.ext x30
  replace b26 := b26.ext x30
  replace X := Ext.trans X x30; clear x30
  refine ops_cons rfl (ow_storeB b4 ti49 rfl rfl rfl rfl rfl rfl ?_)
  intro w33 b5 hg32 z34
  replace hs := hs.grown hg32 (by intro g hg; injection hg; omega)
  replace b2 := b2.grown hg32 (by intro h; injection h; omega)
  replace b3 := b3.grown hg32 (by intro h; injection h; omega)
  replace b26 := b26.grown hg32 (by intro h; injection h; omega)
  replace X := X.grown hg32 X.size (by intro g hg; injection hg; omega)
  clear hg32 b4
  replace b5 : Blk _ g5 49 (⟨r1, r2, r3, ⟨0, 0, 0, 0, false⟩⟩ : SlotI).cells := b5
  refine ops_nil ?_
  refine c_seq ?_
  refine c_seqR ?_
  refine ops_cons rfl (ow_move rfl ?_)
  refine ops_cons rfl (ow_call ent63 rfl (ret_mono (l01Next_c _ _ _ _ _ _ _ _ _ b26 hs hB ok hbl (by omega)) ?_))
  rintro _ w36 ⟨r4, a38, sd39, rfl, hr40, ok, b37, x35⟩
  replace hs := hs.grown x35 (by intro g hg; injection hg; omega)
  replace b2 := b2.grown x35 (by intro h; injection h; omega)
  replace b3 := b3.grown x35 (by intro h; injection h; omega)
  replace b5 := b5.grown x35 (by intro h; injection h; omega)
  replace X := X.grown x35 X.size (by intro g hg; injection hg; omega)
  clear x35 b26
  refine ops_cons rfl (ow_eql2 rfl rfl (fun h41 => ?_) (fun h41 => ?_))
  refine ops_nil ?_
  refine c_true rfl ?_
  refine c_seqI (fun wz => Blk wz g5 49 (⟨r1, r2, r3, ⟨0, 0, 0, 0, false⟩⟩ : SlotI).cells) mixed ?_
  obtain ⟨w42, ew42⟩ : ∃ wy, wy = World.drew w36 := ⟨_, rfl⟩
  rw [← ew42]
  have xd : Ext w36 w42 := ew42 ▸ Ext.drew w36
  replace hs := hs.ext xd
  replace b2 := b2.ext xd
  replace b3 := b3.ext xd
  replace b5 := b5.ext xd
  replace b37 := b37.ext xd
  replace X := Ext.trans X xd; clear xd ew42
  refine wi_take 0 rfl (by kernel_rfl) rfl (by kernel_rfl) (listed' := #[true, false, false, false, false, false, false, false, false, false]) rfl (fun wq sq => ow_loadAB sq ti49 rfl rfl ⟨rfl, rfl⟩) ?_
  refine wi_take 1 rfl (by kernel_rfl) rfl (by kernel_rfl) (listed' := #[true, true, false, false, false, false, false, false, false, false]) rfl (fun wq sq => ow_fieldAddrB off49_0 rfl rfl ⟨rfl, rfl⟩) ?_
  refine wi_take 2 rfl (by kernel_rfl) rfl (by kernel_rfl) (listed' := #[true, true, true, false, false, false, false, false, false, false]) rfl (fun wq sq => ow_loadB sq ti2 rfl rfl ⟨rfl, rfl⟩) ?_
  refine wi_take 3 rfl (by kernel_rfl) rfl (by kernel_rfl) (listed' := #[true, true, true, true, false, false, false, false, false, false]) rfl (fun wq sq => ow_fieldAddrB off49_1 rfl rfl ⟨rfl, rfl⟩) ?_
  refine wi_take 4 rfl (by kernel_rfl) rfl (by kernel_rfl) (listed' := #[true, true, true, true, true, false, false, false, false, false]) rfl (fun wq sq => ow_loadB sq ti2 rfl rfl ⟨rfl, rfl⟩) ?_
  refine wi_take 5 rfl (by kernel_rfl) rfl (by kernel_rfl) (listed' := #[true, true, true, true, true, true, false, false, false, false]) rfl (fun wq sq => ow_move rfl ⟨rfl, rfl⟩) ?_
  refine wi_one 6 rfl rfl (by kernel_rfl) (listed' := #[true, true, true, true, true, true, true, false, false, false]) rfl b5 (ow_call ent63 rfl (ret_mono (l01Next_c _ _ _ _ _ _ _ _ _ b37 hs hB ok hbl (by omega)) ?_))
  rintro _ w44 ⟨r5, a46, sd47, rfl, hr48, ok, b45, x43⟩
  replace hs := hs.grown x43 (by intro g hg; injection hg; omega)
  replace b2 := b2.grown x43 (by intro h; injection h; omega)
  replace b3 := b3.grown x43 (by intro h; injection h; omega)
  replace b5 := b5.grown x43 (by intro h; injection h; omega)
  replace X := X.grown x43 X.size (by intro g hg; injection hg; omega)
  clear x43 b37
  refine wi_take 7 rfl (by kernel_rfl) rfl (by kernel_rfl) (listed' := #[true, true, true, true, true, true, true, true, false, false]) rfl (fun wq sq => ow_buildP pl49 ti49 rfl rfl ⟨rfl, rfl⟩) ?_
  refine wi_one 8 rfl rfl (by kernel_rfl) (listed' := #[true, true, true, true, true, true, true, true, true, false]) rfl b5 (ow_storeB b2 ti49 rfl rfl rfl rfl rfl rfl ?_)
  intro w50 bP hg49 z51
  replace hs := hs.grown hg49 (by intro g hg; injection hg; omega)
  replace b3 := b3.grown hg49 (by intro h; injection h; omega)
  replace b5 := b5.grown hg49 (by intro h; injection h; omega)
  replace b45 := b45.grown hg49 (by intro h; injection h; omega)
  replace X := X.grown hg49 X.size (by intro g hg; injection hg; omega)
  clear hg49 b2
  refine wi_one 9 rfl rfl (by kernel_rfl) (listed' := #[true, true, true, true, true, true, true, true, true, true]) rfl b5 (ow_storeB b3 ti49 rfl rfl rfl rfl rfl rfl ?_)
  intro w53 bQ hg52 z54
  replace hs := hs.grown hg52 (by intro g hg; injection hg; omega)
  replace b5 := b5.grown hg52 (by intro h; injection h; omega)
  replace b45 := b45.grown hg52 (by intro h; injection h; omega)
  replace bP := bP.grown hg52 (by intro h; injection h; omega)
  replace X := X.grown hg52 X.size (by intro g hg; injection hg; omega)
  clear hg52 b3
  refine wi_done rfl b5 (fun aj fj => ⟨_, fj, ?_⟩)
  refine c_ret ?_
  refine tq_r ?_
  refine fin_cc rfl rfl bP ti49 rfl rfl bQ ti49 rfl ?_
  · skip
    first
    | exact ⟨⟨r1, r2, r3, ⟨0, 0, 0, 0, false⟩⟩, ⟨r1, r2, r5, ⟨0, 0, 0, 0, false⟩⟩, rfl, X⟩
    | exact ⟨⟨r1, r2, r3, ⟨0, 0, 0, 0, false⟩⟩, ⟨r5, r6, r7, ⟨0, 0, 0, 0, false⟩⟩, rfl, X⟩
  refine ops_nil ?_
  refine c_false rfl ?_
  refine c_skip ?_
  refine tq_n ?_
  refine c_seqI (fun wz => Blk wz g5 49 (⟨r1, r2, r3, ⟨0, 0, 0, 0, false⟩⟩ : SlotI).cells) mixed ?_
  obtain ⟨w55, ew55⟩ : ∃ wy, wy = World.drew w36 := ⟨_, rfl⟩
  rw [← ew55]
  have xd : Ext w36 w55 := ew55 ▸ Ext.drew w36
  replace hs := hs.ext xd
  replace b2 := b2.ext xd
  replace b3 := b3.ext xd
  replace b5 := b5.ext xd
  replace b37 := b37.ext xd
  replace X := Ext.trans X xd; clear xd ew55
  refine wi_take 0 rfl (by kernel_rfl) rfl (by kernel_rfl) (listed' := #[true, false, false, false, false, false, false, false, false, false]) rfl (fun wq sq => ow_loadAB sq ti49 rfl rfl ⟨rfl, rfl⟩) ?_
  refine wi_take 1 rfl (by kernel_rfl) rfl (by kernel_rfl) (listed' := #[true, true, false, false, false, false, false, false, false, false]) rfl (fun wq sq => ow_move rfl ⟨rfl, rfl⟩) ?_
  refine wi_take 3 rfl (by kernel_rfl) rfl (by kernel_rfl) (listed' := #[true, true, false, true, false, false, false, false, false, false]) rfl (fun wq sq => ow_move rfl ⟨rfl, rfl⟩) ?_
  refine wi_take 5 rfl (by kernel_rfl) rfl (by kernel_rfl) (listed' := #[true, true, false, true, false, true, false, false, false, false]) rfl (fun wq sq => ow_move rfl ⟨rfl, rfl⟩) ?_
  refine wi_one 2 rfl rfl (by kernel_rfl) (listed' := #[true, true, true, true, false, true, false, false, false, false]) rfl b5 (ow_call ent63 rfl (ret_mono (l01Next_c _ _ _ _ _ _ _ _ _ b37 hs hB ok hbl (by omega)) ?_))
  rintro _ w57 ⟨r5, a59, sd60, rfl, hr61, ok, b58, x56⟩
  replace hs := hs.grown x56 (by intro g hg; injection hg; omega)
  replace b2 := b2.grown x56 (by intro h; injection h; omega)
  replace b3 := b3.grown x56 (by intro h; injection h; omega)
  replace b5 := b5.grown x56 (by intro h; injection h; omega)
  replace X := X.grown x56 X.size (by intro g hg; injection hg; omega)
  clear x56 b37
  refine wi_one 4 rfl rfl (by kernel_rfl) (listed' := #[true, true, true, true, true, true, false, false, false, false]) rfl b5 (ow_call ent63 rfl (ret_mono (l01Next_c _ _ _ _ _ _ _ _ _ b58 hs hB ok hbl (by omega)) ?_))
  rintro _ w63 ⟨r6, a65, sd66, rfl, hr67, ok, b64, x62⟩
  replace hs := hs.grown x62 (by intro g hg; injection hg; omega)
  replace b2 := b2.grown x62 (by intro h; injection h; omega)
  replace b3 := b3.grown x62 (by intro h; injection h; omega)
  replace b5 := b5.grown x62 (by intro h; injection h; omega)
  replace X := X.grown x62 X.size (by intro g hg; injection hg; omega)
  clear x62 b58
  refine wi_one 6 rfl rfl (by kernel_rfl) (listed' := #[true, true, true, true, true, true, true, false, false, false]) rfl b5 (ow_call ent63 rfl (ret_mono (l01Next_c _ _ _ _ _ _ _ _ _ b64 hs hB ok hbl (by omega)) ?_))
  rintro _ w69 ⟨r7, a71, sd72, rfl, hr73, ok, b70, x68⟩
  replace hs := hs.grown x68 (by intro g hg; injection hg; omega)
  replace b2 := b2.grown x68 (by intro h; injection h; omega)
  replace b3 := b3.grown x68 (by intro h; injection h; omega)
  replace b5 := b5.grown x68 (by intro h; injection h; omega)
  replace X := X.grown x68 X.size (by intro g hg; injection hg; omega)
  clear x68 b64
  refine wi_take 7 rfl (by kernel_rfl) rfl (by kernel_rfl) (listed' := #[true, true, true, true, true, true, true, true, false, false]) rfl (fun wq sq => ow_buildP pl49 ti49 rfl rfl ⟨rfl, rfl⟩) ?_
  refine wi_one 8 rfl rfl (by kernel_rfl) (listed' := #[true, true, true, true, true, true, true, true, true, false]) rfl b5 (ow_storeB b2 ti49 rfl rfl rfl rfl rfl rfl ?_)
  intro w75 bP hg74 z76
  replace hs := hs.grown hg74 (by intro g hg; injection hg; omega)
  replace b3 := b3.grown hg74 (by intro h; injection h; omega)
  replace b5 := b5.grown hg74 (by intro h; injection h; omega)
  replace b70 := b70.grown hg74 (by intro h; injection h; omega)
  replace X := X.grown hg74 X.size (by intro g hg; injection hg; omega)
  clear hg74 b2
  refine wi_one 9 rfl rfl (by kernel_rfl) (listed' := #[true, true, true, true, true, true, true, true, true, true]) rfl b5 (ow_storeB b3 ti49 rfl rfl rfl rfl rfl rfl ?_)
  intro w78 bQ hg77 z79
  replace hs := hs.grown hg77 (by intro g hg; injection hg; omega)
  replace b5 := b5.grown hg77 (by intro h; injection h; omega)
  replace b70 := b70.grown hg77 (by intro h; injection h; omega)
  replace bP := bP.grown hg77 (by intro h; injection h; omega)
  replace X := X.grown hg77 X.size (by intro g hg; injection hg; omega)
  clear hg77 b3
  refine wi_done rfl b5 (fun aj fj => ⟨_, fj, ?_⟩)
  refine c_ret ?_
  refine fin_cc rfl rfl bP ti49 rfl rfl bQ ti49 rfl ?_
  · skip
    first
    | exact ⟨⟨r1, r2, r3, ⟨0, 0, 0, 0, false⟩⟩, ⟨r1, r2, r5, ⟨0, 0, 0, 0, false⟩⟩, rfl, X⟩
    | exact ⟨⟨r1, r2, r3, ⟨0, 0, 0, 0, false⟩⟩, ⟨r5, r6, r7, ⟨0, 0, 0, 0, false⟩⟩, rfl, X⟩
end Go.Proofs.Ytdoibplhbdkapaa
namespace Go.Proofs.Ytdoibplhbdkapaa
open Go.RowKit
set_option linter.unusedVariables false
set_option linter.unusedSimpArgs false
set_option maxRecDepth 20000
theorem eqSelf_Desc (d : Desc) (w : World) (k : Nat) : (Op.equalIn (k + 2) 47 (.agg d.cells.toArray) (.agg d.cells.toArray)).run Try.prog w = .ok true w := by
  rw [run_equalIn_agg w (k + 1) 47 _ _ (by kernel_rfl) (by kernel_rfl)]
  simp only [Program.fieldsOf, Try.underlying47, Desc.cells]
  simp [Op.eqFields, part, run_equalIn_int w k 2 _ _ _ _ Try.underlying2, run_equalIn_bool' w k 4 _ _ Try.underlying4]
theorem eqSelf_SlotI (d : SlotI) (w : World) (k : Nat) : (Op.equalIn (k + 3) 49 (.agg d.cells.toArray) (.agg d.cells.toArray)).run Try.prog w = .ok true w := by
  have h := eqSelf_Desc d.desc w k
  rw [run_equalIn_agg w (k + 2) 49 _ _ (by kernel_rfl) (by kernel_rfl)]
  simp only [Program.fieldsOf, Try.underlying49, SlotI.cells]
  simp only [Desc.cells] at h ⊢
  simp [Op.eqFields, part, run_equalIn_int w (k + 1) 2 _ _ _ _ Try.underlying2, h]
theorem big_c (A : Option Addr) (c : Nat) (bs : List UInt8) (w : World)  :
    Calls Try.prog 26 #[.slice A bs.length c] w (Ret fun v w' => v = .bool (decide ((4096 : Int) < bs.length)) ∧ Ext w w') := by
  have X := Ext.refl w
  refine calls_of (args := [.slice A bs.length c]) Try.func26 Try.ntmps26 rfl rfl ?_
  refine c_seqR ?_
  refine ops_cons rfl (ow_assign rfl ?_)
  refine ops_nil ?_
  refine c_seqR ?_
  refine ops_cons rfl (ow_move rfl ?_)
  refine ops_cons rfl (ow_len Try.underlying54 rfl ?_)
  refine ops_cons rfl (ow_gtr rfl rfl ?_)
  refine ops_cons rfl (ow_assign rfl ?_)
  refine ops_nil ?_
  refine c_ret ?_
  refine fin_ret1 rfl rfl ?_
  exact ⟨by rfl, X⟩

theorem likeSlots_c (A A' : Option Addr) (B B' c c' : Nat) (xs : List SlotI) (w : World) (hs : Sl B w A (xs.flatMap SlotI.cells)) (ht : Sl B' w A' (xs.flatMap SlotI.cells)) (hl : xs.length ≤ 1048576) :
    Calls Try.prog 28 #[.slice A xs.length c, .slice A' xs.length c'] w (Ret fun v w' => v = .bool true ∧ Ext w w') := by
  have Bhs := hs.1
  have Bht := ht.1
  have X := Ext.refl w
  refine calls_of (args := [.slice A xs.length c, .slice A' xs.length c']) Try.func28 Try.ntmps28 rfl rfl ?_
  refine c_seqR ?_
  refine ops_cons rfl (ow_assign rfl ?_)
  refine ops_nil ?_
  refine c_seq ?_
  refine c_seqR ?_
  refine ops_cons rfl (ow_move rfl ?_)
  refine ops_cons rfl (ow_len Try.underlying43 rfl ?_)
  refine ops_cons rfl (ow_move rfl ?_)
  refine ops_cons rfl (ow_len Try.underlying43 rfl ?_)
  refine ops_cons rfl (ow_neq2 rfl rfl (fun h1 => absurd h1 (by simp)) (fun h1 => ?_))
  refine ops_nil ?_
  refine c_false rfl ?_
  refine c_skip ?_
  refine tq_n ?_
  refine c_seq ?_
  refine c_seqR ?_
  refine ops_cons rfl (ow_assign rfl ?_)
  refine ops_nil ?_
  refine c_block ?_
  refine c_loop (G := Nat) (fun k => [(0, .slice A xs.length c), (1, .slice A' xs.length c'), (5, .int .i64 (k : Nat))]) (fun k wr => k ≤ xs.length ∧ Sl B wr A (xs.flatMap SlotI.cells) ∧ Sl B' wr A' (xs.flatMap SlotI.cells) ∧ Ext w wr) (fun k => xs.length - k) 0 (.cons rfl (.cons rfl (.cons rfl (.nil _)))) ?_ ?_
  · exact ⟨by omega, hs, ht, X⟩
  clear hs ht
  clear X
  rintro k wr ⟨hk0, hs, ht, X⟩
  refine c_seq ?_
  refine c_seqR ?_
  refine ops_cons rfl (ow_move rfl ?_)
  refine ops_cons rfl (ow_move rfl ?_)
  refine ops_cons rfl (ow_len Try.underlying43 rfl ?_)
  refine ops_cons rfl (ow_lss2 rfl rfl (fun hk => ?_) (fun hk => ?_))
  obtain ⟨x, hx, dx⟩ := drop_at' hk
  refine ops_nil ?_
  refine c_true rfl ?_
  refine c_skip ?_
  refine tq_n ?_
  refine c_seq ?_
  refine c_block ?_
  refine c_seqD [false, false, false, false, false, false, false, false, false] mixed (by kernel_rfl) ?_
  refine f_q rfl (fun wq sq => ow_move rfl ⟨rfl, Ext.refl _⟩) ?_
  refine f_q rfl (fun wq sq => ow_move rfl ⟨rfl, Ext.refl _⟩) ?_
  refine f_q rfl (fun wq sq => ow_indexT (hs.ext sq) SlotI.len rfl el43 rfl rfl rfl hx rfl ⟨rfl, Ext.refl _⟩) ?_
  refine f_q rfl (fun wq sq => ow_loadTA (hs.ext sq) SlotI.len hx ti49 rfl ⟨rfl, Ext.refl _⟩) ?_
  refine f_q rfl (fun wq sq => ow_move rfl ⟨rfl, Ext.refl _⟩) ?_
  refine f_q rfl (fun wq sq => ow_move rfl ⟨rfl, Ext.refl _⟩) ?_
  refine f_q rfl (fun wq sq => ow_indexT (ht.ext sq) SlotI.len rfl el43 rfl rfl rfl hx rfl ⟨rfl, Ext.refl _⟩) ?_
  refine f_q rfl (fun wq sq => ow_loadTA (ht.ext sq) SlotI.len hx ti49 rfl ⟨rfl, Ext.refl _⟩) ?_
  refine f_q rfl (fun wq sq => ow_neqA rfl rfl (by kernel_rfl) (fun w => eqSelf_SlotI _ w 9997) ⟨rfl, Ext.refl _⟩) ?_
  refine f_nil (fun w2 sq => ?_)
  have xq := sq
  replace hs := hs.ext xq
  replace ht := ht.ext xq
  replace X := Ext.trans X xq; clear xq sq
  refine ops_nil ?_
  refine c_false rfl ?_
  refine c_skip ?_
  refine bq_n ?_
  refine tq_n ?_
  refine c_region ?_
  refine ops_cons rfl (ow_move rfl ?_)
  refine ops_cons rfl (ow_add rfl rfl (w64 (by omega)) ?_)
  refine ops_cons rfl (ow_assign rfl ?_)
  refine ops_nil ?_
  refine tq_n ⟨k + 1, (.cons rfl (.cons rfl (.cons rfl (.nil _)))), ?_, ?_⟩
  · exact ⟨by omega, hs, ht, X⟩
  · omega
  refine ops_nil ?_
  refine c_false rfl ?_
  refine c_exit ?_
  refine tq_e ?_
  refine tq_e ?_
  refine bq_e ?_
  refine tq_n ?_
  refine c_seqR ?_
  refine ops_cons rfl (ow_assign rfl ?_)
  refine ops_nil ?_
  refine c_ret ?_
  refine fin_ret1 rfl rfl ?_
  exact ⟨by rfl, X⟩
end Go.Proofs.Ytdoibplhbdkapaa
namespace Go.Proofs.Ytdoibplhbdkapaa
open Go.ChangeShapes Go.WideShapes Go.ChangeAt Go.RowKit
set_option linter.unusedVariables false
set_option linter.unusedSimpArgs false

theorem trodAll_stays {H : Type} {enc : TypeId × Value → H} {P : Program} (hl : laidOutB P = true) {W W' : World} (hb : Ext W W') : ∀ (ts : List TypeId) (vs : List Value) (ds : List (DataW H)) (ps : List MemPlace),
    ts.all (fun t => P.readableRec t && decide (t < P.types.size)) = true → DataW.TrodAll enc P W 0 (fun _ => true) true ts vs ds ps → (∀ x ∈ ps, x.block < W.heap.size) →
    DataW.TrodAll enc P W' 0 (fun b => decide (b < W.heap.size)) true ts vs ds ps
  | [], vs, ds, ps, _, h, _ => by
    obtain ⟨rfl, rfl, rfl⟩ := trodAll_nil h
    exact trodAll_mk0
  | t :: ts, vs, ds, ps, ht, h, hlt => by
    obtain ⟨v, vs', d, ds', p, q, rfl, rfl, rfl, h1, h2⟩ := trodAll_cons h
    simp only [List.all_cons, Bool.and_eq_true, decide_eq_true_eq] at ht
    exact trodAll_cons_mk (Below.trod hl ht.1.1 ht.1.2 h1 hb (fun x hx => hlt x (by simp [hx]))) (trodAll_stays hl hb ts vs' ds' q ht.2 h2 (fun x hx => hlt x (by simp [hx])))

theorem law_post {H : Type} {enc : TypeId × Value → H} {P : Program} {f : Func} {s : ChangeSpec} {W W' : World} {args : Array Value} {ds gs : List (DataW H)} {before : List MemPlace} {tb : TypeId}
    (hl : laidOutB P = true) (hpar : f.params.toList.all (fun t => P.readableRec t && decide (t < P.types.size)) = true) (hvars : s.vars = []) (hres : f.resultTypes = #[tb]) (htb : P.underlying tb = some .bool)
    (hW : DataW.Whole enc P f.params.toList s.vars false W args.toList ds gs before) (hspec : s.fn H (ds ++ gs) = { results := [.lit (.bool true)], args := ds }) (hb : Ext W W') :
    s.post enc P f false true false false W args (.bool true) W' := by
  have hlt : ∀ x ∈ before, x.block < W.heap.size := fun x hx => hW.lt x hx
  have hW' := hW
  obtain ⟨p, q, hA, hV, rfl, hfz, hnd⟩ := hW
  refine ⟨ds, gs, p ++ q, [], p, [], hW', ?_, ?_, ?_, Below.frame hb _, fun h => by cases h⟩
  · rw [hspec, hres]
    exact trodAll_cons_mk (shut_bool htb true) trodAll_mk0
  · rw [hspec]
    exact trodAll_stays hl hb _ _ _ _ hpar hA (fun x hx => hlt x (by simp [hx]))
  · rw [hspec, hvars]
    rfl

section
variable {H : Type} {enc : TypeId × Value → H} {P : Program} {W : World} {sp : Nat → Bool}

theorem exists_list {α : Type} {Q : Nat → α → Prop} : ∀ n, (∀ i, i < n → ∃ y, Q i y) → ∃ xs : List α, xs.length = n ∧ ∀ (i : Nat) (y : α), xs[i]? = some y → Q i y
  | 0, _ => ⟨[], rfl, by simp⟩
  | n + 1, h => by
    obtain ⟨xs, hl, hq⟩ := exists_list n (fun i hi => h i (by omega))
    obtain ⟨y, hy⟩ := h n (by omega)
    refine ⟨xs ++ [y], by simp [hl], fun i z hz => ?_⟩
    by_cases hi : i < n
    · rw [List.getElem?_append_left (by omega)] at hz
      exact hq i z hz
    · have hin : i = n := by
        have := (List.getElem?_eq_some_iff.1 hz).1
        simp [hl] at this; omega
      subst hin
      rw [List.getElem?_append_right (by omega)] at hz
      simp [hl] at hz
      subst hz
      exact hy

theorem open_sl {t e : TypeId} {s : Nat} {α : Type} {en : α → List Value} {ok : α → Prop} {fuel : Nat} {v : Value} {x : DataW H × List MemPlace} (ht : P.underlying t = some (.slice e)) (hs : P.cellsOf e = s) (he : ∀ y, (en y).length = s) (h0 : 0 < s)
    (ho : ∀ n cs x, DataW.trod enc P W 0 sp true n e cs = some x → ∃ y, cs = en y ∧ ok y) (h : DataW.trod enc P W 0 sp true fuel t [v] = some x) :
    ∃ (A : Option Addr) (xs : List α) (c : Nat), v = .slice A xs.length c ∧ Sl W.heap.size W A (xs.flatMap en) ∧ (∀ y ∈ xs, ok y) ∧ xs.length ≤ 9223372036854775807 := by
  rcases DataW.trod_slice ht h with ⟨hv, _⟩ | ⟨a, len, cap, elems, rest, n, _, hv, _, _, hlc, hcm, hel, hg, _⟩
  · have hv : v = .slice none 0 0 := by simpa using hv
    exact ⟨none, [], 0, hv, Sl.nil_ (Nat.le_refl _) _, by simp, by simp⟩
  · have hv : v = .slice (some a) len cap := by simpa using hv
    obtain ⟨xs, hl, hq⟩ := exists_list (Q := fun i y => ok y ∧ ∀ (j : Nat) (u : Value), (en y)[j]? = some u → W.cell? (a.add (i * s + j)) = some u) len (fun i hi => by
      have h1 := hg i hi
      have hil : i < elems.length := by omega
      rw [List.getElem?_eq_getElem hil, Option.bind_eq_some_iff] at h1
      obtain ⟨cs, hc, htr⟩ := h1
      obtain ⟨y, rfl, hy⟩ := ho _ _ _ htr
      rw [hs] at hc
      obtain ⟨_, hcl, hat⟩ := World.cells?_some hc
      refine ⟨y, hy, fun j u hj => ?_⟩
      have hjl : j < s := by rw [← he y]; exact (List.getElem?_eq_some_iff.1 hj).1
      rw [← add_add', hat j hjl, hj])
    refine ⟨some a, xs, cap, by rw [hl]; exact hv, ⟨Nat.le_refl _, fun m u hm => ?_⟩, fun y hy => ?_, ?_⟩
    · obtain ⟨j, y, i, rfl, hi, hj, hu⟩ := flat_none he xs m u hm h0
      have hc := (hq j y hj).2 i u hu
      exact ⟨rfl, by have := World.block_lt_of_cell? W _ hc; rwa [block_of_add] at this, hc⟩
    · obtain ⟨i, hi, rfl⟩ := List.mem_iff_getElem.1 hy
      exact (hq i _ (List.getElem?_eq_getElem hi)).1
    · have : cap ≤ maxLen := hcm
      unfold maxLen at this
      omega

def In64 (z : Int) : Prop := -9223372036854775808 ≤ z ∧ z ≤ 9223372036854775807
theorem open_u8 {t : TypeId} {fuel : Nat} {cs : List Value} {x : DataW H × List MemPlace} (ht : P.underlying t = some (.int .u8)) (h : DataW.trod enc P W 0 sp true fuel t cs = some x) : ∃ b : UInt8, cs = eB b ∧ True := by
  obtain ⟨z, hz, _, hw⟩ := DataW.trod_int ht h
  have : 0 ≤ z ∧ z ≤ 255 := by simpa [Lit.wf, IntKind.min, IntKind.max, IntKind.signed, IntKind.bits] using hw
  refine ⟨UInt8.ofNat z.toNat, ?_, trivial⟩
  rw [hz, eB]
  congr 2
  simp
  omega
theorem cell_of {t : TypeId} {v : Value} {d : DataW H} {p : List MemPlace} (hc : v.cells = #[v]) (h : DataW.Trod enc P W 0 sp true t v d p) : ∃ n x, DataW.trod enc P W 0 sp true n t [v] = some x := by
  obtain ⟨n, hn⟩ := h
  exact ⟨n, _, by simpa [hc] using hn⟩
end

end Go.Proofs.Ytdoibplhbdkapaa
