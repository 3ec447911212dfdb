/- Slot tables that are drawn. No condition. -/
import Derived.Test.YtojgfbbdjobdnaaG2
import Derived.Test.YtojgfbbdjobdnaaFlowK
namespace Go.Proofs.Ytojgfbbdjobdnaa
open Go.RowKit
set_option linter.unusedVariables false
set_option linter.unusedSimpArgs false
set_option maxRecDepth 20000
def slSm (x : SlotI) : Prop := (0 ≤ x.mode ∧ x.mode ≤ 15) ∧ (0 ≤ x.round ∧ x.round ≤ 7) ∧ (0 ≤ x.slot ∧ x.slot ≤ 15) ∧ ((0 ≤ x.desc.node ∧ x.desc.node ≤ 31) ∧ (0 ≤ x.desc.kind ∧ x.desc.kind ≤ 3) ∧ (0 ≤ x.desc.size ∧ x.desc.size ≤ 32) ∧ (0 ≤ x.desc.duration ∧ x.desc.duration ≤ 2000))
theorem l12Draw_c (A : Option Addr) (B c : Nat) (bs : List UInt8) (gS a : Nat) (sd : Int) (w : World) (q : Blk w gS 91 (srcC A c bs a sd)) (hs : Sl B w A (bs.flatMap eB)) (hB : B ≤ gS) (ok : a ≤ bs.length ∧ 0 ≤ sd ∧ sd < 2147483647) (hbl : bs.length ≤ 1048576) :
    Calls Try.prog 61 #[.pointer (some ⟨gS, 0, none⟩)] w (Ret fun v w' => ∃ A' c' xs a' sd', v = .slice A' (List.length xs) c' ∧ (xs.length ≤ 12 ∧ ∀ x ∈ xs, slSm x) ∧ Own w' w.heap.size 46 8 A' xs.length c' (xs.flatMap SlotI.cells) ∧ (a' ≤ bs.length ∧ 0 ≤ sd' ∧ sd' < 2147483647) ∧ Blk w' gS 91 (srcC A c bs a' sd') ∧ w.grownBy w' (some gS)) := by
  have Bhs := hs.1
  have X := gb_refl w (some gS)
  refine calls_of (args := [.pointer (some ⟨gS, 0, none⟩)]) Try.func61 Try.ntmps61 rfl rfl ?_
  refine c_seqR ?_
  refine ops_cons rfl (ow_assign rfl ?_)
  refine ops_nil ?_
  refine c_seqR ?_
  refine ops_cons rfl (ow_buildSlice el35 ti46 rfl rfl rfl rfl rfl ?_)
  intro gO w2 egO oI bbgO x1 zgO
  replace oI := Own.low oI X.size
  replace q := q.ext x1
  replace hs := hs.ext x1
  replace X := gb_ext X x1; clear x1
  refine ops_cons rfl (ow_assign rfl ?_)
  refine ops_nil ?_
  refine c_seq ?_
  refine c_seqR ?_
  refine ops_cons rfl (ow_assign rfl ?_)
  refine ops_nil ?_
  refine c_block ?_
  refine c_loop (G := Int × List SlotI × Nat × Option Addr × Nat) (fun ⟨m, ys, n1, A1, c1⟩ => [(2, .slice none 0 0), (0, .pointer (some ⟨gS, 0, none⟩)), (3, .slice A1 n1 c1), (4, .int .i64 m)]) (fun ⟨m, ys, n1, A1, c1⟩ wr => (0 ≤ m ∧ m ≤ 2) ∧ (n1 : Int) ≤ 6 * m ∧ (∀ y ∈ ys, slSm y) ∧ n1 = ys.length ∧ (∃ a sd, (a ≤ bs.length ∧ 0 ≤ sd ∧ sd < 2147483647) ∧ Blk wr gS 91 (srcC A c bs a sd)) ∧ Own wr w.heap.size 46 8 A1 n1 c1 (ys.flatMap SlotI.cells) ∧ Sl B wr A (bs.flatMap eB) ∧ w.grownBy wr (some gS)) (fun ⟨m, ys, n1, A1, c1⟩ => (2 - m).toNat) (0, [], 0, some ⟨gO, 0, none⟩, 0) (.cons rfl (.cons rfl (.cons rfl (.cons rfl (.nil _))))) ?_ ?_
  · exact ⟨(by omega), (by show ((0 : Nat) : Int) ≤ _; omega), (fun y hy => by simp at hy), rfl, ⟨_, _, ok, q⟩, oI, hs, X⟩
  clear q hs oI
  clear X
  rintro ⟨m, ys, n1, A1, c1⟩ wr ⟨hm0, hl0, hsm, hn, qq, oO, hs, X⟩
  obtain ⟨a, sd, ok, q⟩ := qq
  refine c_seq ?_
  refine c_seqR ?_
  refine ops_cons rfl (ow_move rfl ?_)
  refine ops_cons rfl (ow_lss2 rfl rfl (fun h3 => ?_) (fun h3 => ?_))
  · skip
    refine ops_nil ?_
    refine c_true rfl ?_
    refine c_skip ?_
    refine tq_n ?_
    refine c_seq ?_
    refine c_block ?_
    refine c_seqR ?_
    refine ops_cons rfl (ow_assign rfl ?_)
    refine ops_nil ?_
    refine c_block ?_
    refine c_loop (G := Int × List SlotI × Nat × Option Addr × Nat) (fun ⟨r, ys, n1, A1, c1⟩ => [(2, .slice none 0 0), (4, .int .i64 m), (8, .int .i64 m), (0, .pointer (some ⟨gS, 0, none⟩)), (3, .slice A1 n1 c1), (5, .int .i64 r)]) (fun ⟨r, ys, n1, A1, c1⟩ wr => (0 ≤ r ∧ r ≤ 2) ∧ (n1 : Int) ≤ 6 * m + 3 * r ∧ (∀ y ∈ ys, slSm y) ∧ n1 = ys.length ∧ (∃ a sd, (a ≤ bs.length ∧ 0 ≤ sd ∧ sd < 2147483647) ∧ Blk wr gS 91 (srcC A c bs a sd)) ∧ Own wr w.heap.size 46 8 A1 n1 c1 (ys.flatMap SlotI.cells) ∧ Sl B wr A (bs.flatMap eB) ∧ w.grownBy wr (some gS)) (fun ⟨r, ys, n1, A1, c1⟩ => (2 - r).toNat) (0, ys, n1, A1, c1) (.cons rfl (.cons rfl (.cons rfl (.cons rfl (.cons rfl (.cons rfl (.nil _))))))) ?_ ?_
    · exact ⟨(by omega), (by omega), hsm, hn, ⟨_, _, ok, q⟩, oO, hs, X⟩
    clear oO hs q
    clear X
    rintro ⟨r, ys, n1, A1, c1⟩ wr ⟨hr0, hl1, hsm, hn, qq, oO, hs, X⟩
    obtain ⟨a, sd, ok, q⟩ := qq
    refine c_seq ?_
    refine c_seqR ?_
    refine ops_cons rfl (ow_move rfl ?_)
    refine ops_cons rfl (ow_lss2 rfl rfl (fun h6 => ?_) (fun h6 => ?_))
    · skip
      refine ops_nil ?_
      refine c_true rfl ?_
      refine c_skip ?_
      refine tq_n ?_
      refine c_seq ?_
      refine c_block ?_
      refine c_seqR ?_
      refine ops_cons rfl (ow_assign rfl ?_)
      refine ops_nil ?_
      refine c_block ?_
      refine c_loop (G := Int × List SlotI × Nat × Option Addr × Nat) (fun ⟨s, ys, n1, A1, c1⟩ => [(2, .slice none 0 0), (4, .int .i64 m), (5, .int .i64 r), (8, .int .i64 m), (12, .int .i64 r), (0, .pointer (some ⟨gS, 0, none⟩)), (3, .slice A1 n1 c1), (6, .int .i64 s)]) (fun ⟨s, ys, n1, A1, c1⟩ wr => (0 ≤ s ∧ s ≤ 3) ∧ (n1 : Int) ≤ 6 * m + 3 * r + s ∧ (∀ y ∈ ys, slSm y) ∧ n1 = ys.length ∧ (∃ a sd, (a ≤ bs.length ∧ 0 ≤ sd ∧ sd < 2147483647) ∧ Blk wr gS 91 (srcC A c bs a sd)) ∧ Own wr w.heap.size 46 8 A1 n1 c1 (ys.flatMap SlotI.cells) ∧ Sl B wr A (bs.flatMap eB) ∧ w.grownBy wr (some gS)) (fun ⟨s, ys, n1, A1, c1⟩ => (3 - s).toNat) (0, ys, n1, A1, c1) (.cons rfl (.cons rfl (.cons rfl (.cons rfl (.cons rfl (.cons rfl (.cons rfl (.cons rfl (.nil _))))))))) ?_ ?_
      · exact ⟨(by omega), (by omega), hsm, hn, ⟨_, _, ok, q⟩, oO, hs, X⟩
      clear oO hs q
      clear X
      rintro ⟨s, ys, n1, A1, c1⟩ wr ⟨hs0, hl2, hsm, hn, qq, oO, hs, X⟩
      obtain ⟨a, sd, ok, q⟩ := qq
      refine c_seq ?_
      refine c_seqR ?_
      refine ops_cons rfl (ow_move rfl ?_)
      refine ops_cons rfl (ow_lss2 rfl rfl (fun h9 => ?_) (fun h9 => ?_))
      · skip
        refine ops_nil ?_
        refine c_true rfl ?_
        refine c_skip ?_
        refine tq_n ?_
        refine c_seq ?_
        refine c_block ?_
        refine c_seqR ?_
        refine ops_cons rfl (ow_move rfl ?_)
        refine ops_cons rfl (ow_call ent45 rfl (ret_mono (l01Next_c _ _ _ _ _ _ _ _ _ q hs hB ok hbl (by omega)) ?_))
        rintro _ w4 ⟨r0, a6, sd7, rfl, hr8, ok, b5, x3⟩
        replace oO := oO.grownBlk x3 (Own.neT oO q (by decide))
        replace hs := hs.grown x3 (by intro g hg; injection hg; omega)
        replace X : w.grownBy w4 (some gS) := by first | exact gb_trans X x3 | exact gb_new X x3 (by intro g hg; injection hg; omega)
        clear x3 q
        refine ops_cons rfl (ow_gtr2 rfl rfl (fun h11 => ?_) (fun h11 => ?_))
        · skip
          refine ops_nil ?_
          refine c_true rfl ?_
          refine c_region ?_
          refine ops_cons rfl (ow_move rfl ?_)
          refine ops_cons rfl (ow_move rfl ?_)
          refine ops_cons rfl (ow_move rfl ?_)
          refine ops_cons rfl (ow_move rfl ?_)
          refine ops_cons rfl (ow_move rfl ?_)
          refine ops_cons rfl (ow_call ent78 rfl (ret_mono (l08Draw_c _ _ _ _ _ _ _ _ b5 hs hB ok hbl) ?_))
          rintro _ w10 ⟨dd, a12, sd13, rfl, hp14, ok, b11, x9⟩
          replace oO := oO.grownBlk x9 (Own.neT oO b5 (by decide))
          replace hs := hs.grown x9 (by intro g hg; injection hg; omega)
          replace X : w.grownBy w10 (some gS) := by first | exact gb_trans X x9 | exact gb_new X x9 (by intro g hg; injection hg; omega)
          clear x9 b5
          refine ops_cons rfl (ow_buildP pl46 ti46 rfl rfl ?_)
          refine ops_cons rfl (ow_buildSlice el35 ti46 rfl rfl rfl rfl rfl ?_)
          intro g15 w17 eg15 oV bbg15 x16 zg15
          replace oV := Own.low oV X.size
          replace oO := oO.ext x16
          replace hs := hs.ext x16
          replace b11 := b11.ext x16
          replace X := gb_ext X x16; clear x16
          refine ops_cons rfl (ow_append (ts := #[]) oO X.size oV.sl (by first | rfl | simp) (by first | exact List.all_eq_true.1 rfl | simp [Value.oneCell']) el35 ti46 rfl rfl rfl rfl (by omega) (by omega) ?_)
          intro AoN coN w19 oN hg18
          replace hs := hs.grown hg18 (fun g hg => Nat.le_trans Bhs (Own.lt oO hg).1)
          replace b11 := b11.grown hg18 (fun h => Own.neT oO b11 (by decide) h.symm)
          replace X := gb_new X hg18 (fun g hg => (Own.lt oO hg).1)
          clear hg18
          refine ops_cons rfl (ow_assign rfl ?_)
          refine ops_nil ?_
          refine bq_n ?_
          refine tq_n ?_
          refine c_region ?_
          refine ops_cons rfl (ow_move rfl ?_)
          refine ops_cons rfl (ow_add rfl rfl (w64 (by omega)) ?_)
          refine ops_cons rfl (ow_assign rfl ?_)
          refine ops_nil ?_
          refine tq_n ⟨(s + 1, ys ++ [⟨m, r, s, dd⟩], n1 + 1, AoN, coN), (.cons rfl (.cons rfl (.cons rfl (.cons rfl (.cons rfl (.cons rfl (.cons rfl (.cons rfl (.nil _))))))))), ?_, ?_⟩
          · skip
            exact ⟨(by omega), (by omega), (fun y hy => by
              rcases List.mem_append.1 hy with h | h
              · exact hsm y h
              · obtain rfl : y = ⟨m, r, s, dd⟩ := by simpa using h
                exact ⟨by show 0 ≤ m ∧ m ≤ 15; omega, by show 0 ≤ r ∧ r ≤ 7; omega, by show 0 ≤ s ∧ s ≤ 15; omega, by show (0 ≤ dd.node ∧ dd.node ≤ 31) ∧ (0 ≤ dd.kind ∧ dd.kind ≤ 3) ∧ (0 ≤ dd.size ∧ dd.size ≤ 32) ∧ (0 ≤ dd.duration ∧ dd.duration ≤ 2000); omega⟩), (by simp [hn]), ⟨_, _, ok, b11⟩, oN.to (snoc SlotI.cells ys ⟨m, r, s, dd⟩).symm, hs, X⟩
          · first | omega | (dsimp only; omega)
        · skip
          refine ops_nil ?_
          refine c_false rfl ?_
          refine c_skip ?_
          refine bq_n ?_
          refine tq_n ?_
          refine c_region ?_
          refine ops_cons rfl (ow_move rfl ?_)
          refine ops_cons rfl (ow_add rfl rfl (w64 (by omega)) ?_)
          refine ops_cons rfl (ow_assign rfl ?_)
          refine ops_nil ?_
          refine tq_n ⟨(s + 1, ys, n1, A1, c1), (.cons rfl (.cons rfl (.cons rfl (.cons rfl (.cons rfl (.cons rfl (.cons rfl (.cons rfl (.nil _))))))))), ?_, ?_⟩
          · exact ⟨(by omega), (by omega), hsm, hn, ⟨_, _, ok, b5⟩, oO, hs, X⟩
          · first | omega | (dsimp only; omega)
      · skip
        refine ops_nil ?_
        refine c_false rfl ?_
        refine c_exit ?_
        refine tq_e ?_
        refine tq_e ?_
        refine bq_e ?_
        refine bq_n ?_
        refine tq_n ?_
        refine c_region ?_
        refine ops_cons rfl (ow_move rfl ?_)
        refine ops_cons rfl (ow_add rfl rfl (w64 (by omega)) ?_)
        refine ops_cons rfl (ow_assign rfl ?_)
        refine ops_nil ?_
        refine tq_n ⟨(r + 1, ys, n1, A1, c1), (.cons rfl (.cons rfl (.cons rfl (.cons rfl (.cons rfl (.cons rfl (.nil _))))))), ?_, ?_⟩
        · exact ⟨(by omega), (by omega), hsm, hn, ⟨_, _, ok, q⟩, oO, hs, X⟩
        · first | omega | (dsimp only; omega)
    · skip
      refine ops_nil ?_
      refine c_false rfl ?_
      refine c_exit ?_
      refine tq_e ?_
      refine tq_e ?_
      refine bq_e ?_
      refine bq_n ?_
      refine tq_n ?_
      refine c_region ?_
      refine ops_cons rfl (ow_move rfl ?_)
      refine ops_cons rfl (ow_add rfl rfl (w64 (by omega)) ?_)
      refine ops_cons rfl (ow_assign rfl ?_)
      refine ops_nil ?_
      refine tq_n ⟨(m + 1, ys, n1, A1, c1), (.cons rfl (.cons rfl (.cons rfl (.cons rfl (.nil _))))), ?_, ?_⟩
      · exact ⟨(by omega), (by omega), hsm, hn, ⟨_, _, ok, q⟩, oO, hs, X⟩
      · first | omega | (dsimp only; omega)
  · skip
    refine ops_nil ?_
    refine c_false rfl ?_
    refine c_exit ?_
    refine tq_e ?_
    refine tq_e ?_
    refine bq_e ?_
    refine tq_n ?_
    refine c_seqR ?_
    refine ops_cons rfl (ow_move rfl ?_)
    refine ops_cons rfl (ow_assign rfl ?_)
    refine ops_nil ?_
    refine c_ret ?_
    refine fin_ret1 rfl rfl ?_
    subst hn
    exact ⟨A1, c1, ys, _, _, rfl, ⟨by omega, hsm⟩, oO, ok, q, X⟩

theorem l12DrawAny_c (A : Option Addr) (B c : Nat) (bs : List UInt8) (gS a : Nat) (sd : Int) (w : World) (q : Blk w gS 91 (srcC A c bs a sd)) (hs : Sl B w A (bs.flatMap eB)) (hB : B ≤ gS) (ok : a ≤ bs.length ∧ 0 ≤ sd ∧ sd < 2147483647) (hbl : bs.length ≤ 1048576) :
    Calls Try.prog 56 #[.pointer (some ⟨gS, 0, none⟩)] w (Ret fun v w' => ∃ A' c' xs a' sd', v = .slice A' (List.length xs) c' ∧ xs.length ≤ 130 ∧ Own w' w.heap.size 46 8 A' xs.length c' (xs.flatMap SlotI.cells) ∧ (a' ≤ bs.length ∧ 0 ≤ sd' ∧ sd' < 2147483647) ∧ Blk w' gS 91 (srcC A c bs a' sd') ∧ w.grownBy w' (some gS)) := by
  have Bhs := hs.1
  have X := gb_refl w (some gS)
  refine calls_of (args := [.pointer (some ⟨gS, 0, none⟩)]) Try.func56 Try.ntmps56 rfl rfl ?_
  refine c_seqR ?_
  refine ops_cons rfl (ow_assign rfl ?_)
  refine ops_nil ?_
  refine c_seqR ?_
  refine ops_cons rfl (ow_move rfl ?_)
  have LoT := X.size
  refine ops_cons rfl (ow_call ent61 rfl (ret_mono (l12Draw_c _ _ _ _ _ _ _ _ q hs hB ok hbl) ?_))
  rintro _ w2 ⟨AT, cT, ys, a4, sd5, rfl, hyl, oT, ok, b3, x1⟩
  replace hs := hs.grown x1 (by intro g hg; injection hg; omega)
  replace X : w.grownBy w2 (some gS) := by first | exact gb_trans X x1 | exact gb_new X x1 (by intro g hg; injection hg; omega)
  clear x1 q
  replace oT := Own.low oT LoT
  have hyl0 := hyl.1
  refine ops_cons rfl (ow_assign rfl ?_)
  refine ops_nil ?_
  refine c_seq ?_
  refine c_seqR ?_
  refine ops_cons rfl (ow_move rfl ?_)
  refine ops_cons rfl (ow_len Try.underlying35 rfl ?_)
  refine ops_cons rfl (ow_eql2 rfl rfl (fun h0 => ?_) (fun h0 => ?_))
  · skip
    refine ops_nil ?_
    refine c_true rfl ?_
    refine c_seqR ?_
    refine ops_cons rfl (ow_move rfl ?_)
    refine ops_cons rfl (ow_assign rfl ?_)
    refine ops_nil ?_
    refine c_ret ?_
    refine tq_r ?_
    refine fin_ret1 rfl rfl ?_
    first
    | (exact ⟨_, _, zs, _, _, by rw [hzl], by omega, by rw [hzl]; exact oR, ok, b3, X⟩)
    | (subst hn; exact ⟨_, _, zs, _, _, rfl, by omega, oO, ok, b3, X⟩)
    | (exact ⟨_, _, ys, _, _, rfl, by omega, oT, ok, b3, X⟩)
  · skip
    refine ops_nil ?_
    refine c_false rfl ?_
    refine c_skip ?_
    refine tq_n ?_
    refine c_seqR ?_
    refine ops_cons rfl (ow_move rfl ?_)
    refine ops_cons rfl (ow_move rfl ?_)
    refine ops_cons rfl (ow_len Try.underlying35 rfl ?_)
    have hn0 : (ys.length : Int) ≠ 0 := by omega
    refine ops_cons rfl (ow_call ent45 rfl (ret_mono (l01Next_c _ _ _ _ _ _ _ _ _ b3 hs hB ok hbl (by omega)) ?_))
    rintro _ w8 ⟨rk, a10, sd11, rfl, hr12, ok, b9, x7⟩
    replace hs := hs.grown x7 (by intro g hg; injection hg; omega)
    replace oT := oT.grownBlk x7 (Own.neT oT b3 (by decide))
    replace X : w.grownBy w8 (some gS) := by first | exact gb_trans X x7 | exact gb_new X x7 (by intro g hg; injection hg; omega)
    clear x7 b3
    refine ops_cons rfl (ow_assign rfl ?_)
    refine ops_nil ?_
    refine c_seq ?_
    refine c_seqR ?_
    refine ops_cons rfl (ow_move rfl ?_)
    refine ops_cons rfl (ow_call ent45 rfl (ret_mono (l01Next_c _ _ _ _ _ _ _ _ _ b9 hs hB ok hbl (by omega)) ?_))
    rintro _ w14 ⟨r24, a16, sd17, rfl, hr18, ok, b15, x13⟩
    replace hs := hs.grown x13 (by intro g hg; injection hg; omega)
    replace oT := oT.grownBlk x13 (Own.neT oT b9 (by decide))
    replace X : w.grownBy w14 (some gS) := by first | exact gb_trans X x13 | exact gb_new X x13 (by intro g hg; injection hg; omega)
    clear x13 b9
    refine ops_nil ?_
    refine c_block ?_
    refine c_seqR ?_
    refine ops_cons rfl (ow_eql2 rfl rfl (fun h19 => ?_) (fun h19 => ?_))
    · skip
      refine ops_cons rfl (ow_assign rfl ?_)
      refine ops_nil ?_
      refine c_true rfl ?_
      refine c_region ?_
      refine ops_cons rfl (ow_move rfl ?_)
      refine ops_cons rfl (ow_move rfl ?_)
      refine ops_cons rfl (ow_buildSlice el26 ti2 rfl rfl rfl rfl rfl ?_)
      intro g20 w22 eg20 oL bbg20 x21 zg20
      replace oL := Own.low oL X.size
      replace hs := hs.ext x21
      replace oT := oT.ext x21
      replace b15 := b15.ext x21
      replace X := gb_ext X x21; clear x21
      replace oL := oL.to (cs' := ([-1, 15, 16] : List Int).flatMap eI) rfl
      refine ops_cons rfl (ow_move rfl ?_)
      refine ops_cons rfl (ow_call ent45 rfl (ret_mono (l01Next_c _ _ _ _ _ _ _ _ _ b15 hs hB ok hbl (by omega)) ?_))
      rintro _ w24 ⟨rr, a26, sd27, rfl, hr28, ok, b25, x23⟩
      replace hs := hs.grown x23 (by intro g hg; injection hg; omega)
      replace oT := oT.grownBlk x23 (Own.neT oT b15 (by decide))
      replace oL := oL.grownBlk x23 (Own.neT oL b15 (by decide))
      replace X : w.grownBy w24 (some gS) := by first | exact gb_trans X x23 | exact gb_new X x23 (by intro g hg; injection hg; omega)
      clear x23 b15
      obtain ⟨y, hy⟩ : ∃ y, ([-1, 15, 16] : List Int)[rr.toNat]? = some y := ⟨_, List.getElem?_eq_getElem (by simp; omega)⟩
      obtain ⟨x, hx⟩ : ∃ x, ys[rk.toNat]? = some x := ⟨_, List.getElem?_eq_getElem (by omega)⟩
      refine ops_cons rfl (ow_indexT (oL).sl eI_len rfl el26 rfl rfl rfl hy (by omega) ?_)
      refine ops_cons rfl (ow_loadT (oL).sl eI_len hy ti2 rfl rfl rfl ?_)
      refine ops_cons rfl (ow_indexT (oT).sl SlotI.len rfl el35 rfl rfl rfl hx (by omega) ?_)
      refine ops_cons rfl (ow_fieldAddr off46_0 rfl ?_)
      refine ops_cons rfl (ow_storeRF oT ti2 rfl rfl rfl rfl (by omega) (by omega) rfl ?_)
      intro w30 oU hg29 z31
      replace hs := hs.grown hg29 (fun g hg => Nat.le_trans Bhs (Own.lt oT hg).1)
      replace oL := oL.grown hg29 (Own.neO oL oT (by decide))
      replace b25 := b25.grown hg29 (fun h => Own.neT oT b25 (by decide) h.symm)
      replace X : w.grownBy w30 (some gS) := by first | exact gb_trans X hg29 | exact gb_new X hg29 (fun g hg => (Own.lt oT hg).1)
      clear hg29 z31
      obtain ⟨zs, hzl, oR⟩ : ∃ zs : List SlotI, zs.length = ys.length ∧ Own _ _ _ _ _ _ _ (zs.flatMap SlotI.cells) := ⟨ys.set rk.toNat ⟨y, x.round, x.slot, x.desc⟩, List.length_set .., oU.to (set_field (x := x) (x' := ⟨y, x.round, x.slot, x.desc⟩) (vs := [.int .i64 y]) SlotI.len (f := 0) rfl (by omega) ys rk.toNat hx)⟩
      refine ops_nil ?_
      refine bq_n ?_
      refine tq_n ?_
      refine c_seqR ?_
      refine ops_cons rfl (ow_move rfl ?_)
      refine ops_cons rfl (ow_assign rfl ?_)
      refine ops_nil ?_
      refine c_ret ?_
      refine fin_ret1 rfl rfl ?_
      first
      | (exact ⟨_, _, zs, _, _, by rw [hzl], by omega, by rw [hzl]; exact oR, ok, b25, X⟩)
      | (subst hn; exact ⟨_, _, zs, _, _, rfl, by omega, oO, ok, b25, X⟩)
      | (exact ⟨_, _, ys, _, _, rfl, by omega, oT, ok, b25, X⟩)
    · skip
      refine ops_cons rfl (ow_assign rfl ?_)
      refine ops_nil ?_
      refine c_false rfl ?_
      refine c_seqR ?_
      refine ops_cons rfl (ow_eql2 rfl rfl (fun h32 => ?_) (fun h32 => ?_))
      · skip
        refine ops_cons rfl (ow_assign rfl ?_)
        refine ops_nil ?_
        refine c_true rfl ?_
        refine c_region ?_
        refine ops_cons rfl (ow_move rfl ?_)
        refine ops_cons rfl (ow_move rfl ?_)
        refine ops_cons rfl (ow_buildSlice el26 ti2 rfl rfl rfl rfl rfl ?_)
        intro g33 w35 eg33 oL bbg33 x34 zg33
        replace oL := Own.low oL X.size
        replace hs := hs.ext x34
        replace oT := oT.ext x34
        replace b15 := b15.ext x34
        replace X := gb_ext X x34; clear x34
        replace oL := oL.to (cs' := ([-1, 7, 8] : List Int).flatMap eI) rfl
        refine ops_cons rfl (ow_move rfl ?_)
        refine ops_cons rfl (ow_call ent45 rfl (ret_mono (l01Next_c _ _ _ _ _ _ _ _ _ b15 hs hB ok hbl (by omega)) ?_))
        rintro _ w37 ⟨rr, a39, sd40, rfl, hr41, ok, b38, x36⟩
        replace hs := hs.grown x36 (by intro g hg; injection hg; omega)
        replace oT := oT.grownBlk x36 (Own.neT oT b15 (by decide))
        replace oL := oL.grownBlk x36 (Own.neT oL b15 (by decide))
        replace X : w.grownBy w37 (some gS) := by first | exact gb_trans X x36 | exact gb_new X x36 (by intro g hg; injection hg; omega)
        clear x36 b15
        obtain ⟨y, hy⟩ : ∃ y, ([-1, 7, 8] : List Int)[rr.toNat]? = some y := ⟨_, List.getElem?_eq_getElem (by simp; omega)⟩
        obtain ⟨x, hx⟩ : ∃ x, ys[rk.toNat]? = some x := ⟨_, List.getElem?_eq_getElem (by omega)⟩
        refine ops_cons rfl (ow_indexT (oL).sl eI_len rfl el26 rfl rfl rfl hy (by omega) ?_)
        refine ops_cons rfl (ow_loadT (oL).sl eI_len hy ti2 rfl rfl rfl ?_)
        refine ops_cons rfl (ow_indexT (oT).sl SlotI.len rfl el35 rfl rfl rfl hx (by omega) ?_)
        refine ops_cons rfl (ow_fieldAddr off46_1 rfl ?_)
        refine ops_cons rfl (ow_storeRF oT ti2 rfl rfl rfl rfl (by omega) (by omega) rfl ?_)
        intro w43 oU hg42 z44
        replace hs := hs.grown hg42 (fun g hg => Nat.le_trans Bhs (Own.lt oT hg).1)
        replace oL := oL.grown hg42 (Own.neO oL oT (by decide))
        replace b38 := b38.grown hg42 (fun h => Own.neT oT b38 (by decide) h.symm)
        replace X : w.grownBy w43 (some gS) := by first | exact gb_trans X hg42 | exact gb_new X hg42 (fun g hg => (Own.lt oT hg).1)
        clear hg42 z44
        obtain ⟨zs, hzl, oR⟩ : ∃ zs : List SlotI, zs.length = ys.length ∧ Own _ _ _ _ _ _ _ (zs.flatMap SlotI.cells) := ⟨ys.set rk.toNat ⟨x.mode, y, x.slot, x.desc⟩, List.length_set .., oU.to (set_field (x := x) (x' := ⟨x.mode, y, x.slot, x.desc⟩) (vs := [.int .i64 y]) SlotI.len (f := 1) rfl (by omega) ys rk.toNat hx)⟩
        refine ops_nil ?_
        refine bq_n ?_
        refine tq_n ?_
        refine c_seqR ?_
        refine ops_cons rfl (ow_move rfl ?_)
        refine ops_cons rfl (ow_assign rfl ?_)
        refine ops_nil ?_
        refine c_ret ?_
        refine fin_ret1 rfl rfl ?_
        first
        | (exact ⟨_, _, zs, _, _, by rw [hzl], by omega, by rw [hzl]; exact oR, ok, b38, X⟩)
        | (subst hn; exact ⟨_, _, zs, _, _, rfl, by omega, oO, ok, b38, X⟩)
        | (exact ⟨_, _, ys, _, _, rfl, by omega, oT, ok, b38, X⟩)
      · skip
        refine ops_cons rfl (ow_assign rfl ?_)
        refine ops_nil ?_
        refine c_false rfl ?_
        refine c_seqR ?_
        refine ops_cons rfl (ow_eql2 rfl rfl (fun h45 => ?_) (fun h45 => ?_))
        · skip
          refine ops_cons rfl (ow_assign rfl ?_)
          refine ops_nil ?_
          refine c_true rfl ?_
          refine c_region ?_
          refine ops_cons rfl (ow_move rfl ?_)
          refine ops_cons rfl (ow_move rfl ?_)
          refine ops_cons rfl (ow_buildSlice el26 ti2 rfl rfl rfl rfl rfl ?_)
          intro g46 w48 eg46 oL bbg46 x47 zg46
          replace oL := Own.low oL X.size
          replace hs := hs.ext x47
          replace oT := oT.ext x47
          replace b15 := b15.ext x47
          replace X := gb_ext X x47; clear x47
          replace oL := oL.to (cs' := ([-1, 15, 16] : List Int).flatMap eI) rfl
          refine ops_cons rfl (ow_move rfl ?_)
          refine ops_cons rfl (ow_call ent45 rfl (ret_mono (l01Next_c _ _ _ _ _ _ _ _ _ b15 hs hB ok hbl (by omega)) ?_))
          rintro _ w50 ⟨rr, a52, sd53, rfl, hr54, ok, b51, x49⟩
          replace hs := hs.grown x49 (by intro g hg; injection hg; omega)
          replace oT := oT.grownBlk x49 (Own.neT oT b15 (by decide))
          replace oL := oL.grownBlk x49 (Own.neT oL b15 (by decide))
          replace X : w.grownBy w50 (some gS) := by first | exact gb_trans X x49 | exact gb_new X x49 (by intro g hg; injection hg; omega)
          clear x49 b15
          obtain ⟨y, hy⟩ : ∃ y, ([-1, 15, 16] : List Int)[rr.toNat]? = some y := ⟨_, List.getElem?_eq_getElem (by simp; omega)⟩
          obtain ⟨x, hx⟩ : ∃ x, ys[rk.toNat]? = some x := ⟨_, List.getElem?_eq_getElem (by omega)⟩
          refine ops_cons rfl (ow_indexT (oL).sl eI_len rfl el26 rfl rfl rfl hy (by omega) ?_)
          refine ops_cons rfl (ow_loadT (oL).sl eI_len hy ti2 rfl rfl rfl ?_)
          refine ops_cons rfl (ow_indexT (oT).sl SlotI.len rfl el35 rfl rfl rfl hx (by omega) ?_)
          refine ops_cons rfl (ow_fieldAddr off46_2 rfl ?_)
          refine ops_cons rfl (ow_storeRF oT ti2 rfl rfl rfl rfl (by omega) (by omega) rfl ?_)
          intro w56 oU hg55 z57
          replace hs := hs.grown hg55 (fun g hg => Nat.le_trans Bhs (Own.lt oT hg).1)
          replace oL := oL.grown hg55 (Own.neO oL oT (by decide))
          replace b51 := b51.grown hg55 (fun h => Own.neT oT b51 (by decide) h.symm)
          replace X : w.grownBy w56 (some gS) := by first | exact gb_trans X hg55 | exact gb_new X hg55 (fun g hg => (Own.lt oT hg).1)
          clear hg55 z57
          obtain ⟨zs, hzl, oR⟩ : ∃ zs : List SlotI, zs.length = ys.length ∧ Own _ _ _ _ _ _ _ (zs.flatMap SlotI.cells) := ⟨ys.set rk.toNat ⟨x.mode, x.round, y, x.desc⟩, List.length_set .., oU.to (set_field (x := x) (x' := ⟨x.mode, x.round, y, x.desc⟩) (vs := [.int .i64 y]) SlotI.len (f := 2) rfl (by omega) ys rk.toNat hx)⟩
          refine ops_nil ?_
          refine bq_n ?_
          refine tq_n ?_
          refine c_seqR ?_
          refine ops_cons rfl (ow_move rfl ?_)
          refine ops_cons rfl (ow_assign rfl ?_)
          refine ops_nil ?_
          refine c_ret ?_
          refine fin_ret1 rfl rfl ?_
          first
          | (exact ⟨_, _, zs, _, _, by rw [hzl], by omega, by rw [hzl]; exact oR, ok, b51, X⟩)
          | (subst hn; exact ⟨_, _, zs, _, _, rfl, by omega, oO, ok, b51, X⟩)
          | (exact ⟨_, _, ys, _, _, rfl, by omega, oT, ok, b51, X⟩)
        · skip
          refine ops_cons rfl (ow_assign rfl ?_)
          refine ops_nil ?_
          refine c_false rfl ?_
          refine c_seqR ?_
          refine ops_cons rfl (ow_eql2 rfl rfl (fun h58 => ?_) (fun h58 => ?_))
          · skip
            refine ops_cons rfl (ow_assign rfl ?_)
            refine ops_nil ?_
            refine c_true rfl ?_
            refine c_region ?_
            refine ops_cons rfl (ow_move rfl ?_)
            refine ops_cons rfl (ow_move rfl ?_)
            refine ops_cons rfl (ow_move rfl ?_)
            refine ops_cons rfl (ow_call ent66 rfl (ret_mono (l08DrawAny_c _ _ _ _ _ _ _ _ b15 hs hB ok hbl) ?_))
            rintro _ w60 ⟨dd, a62, sd63, rfl, hp64, ok, b61, x59⟩
            replace hs := hs.grown x59 (by intro g hg; injection hg; omega)
            replace oT := oT.grownBlk x59 (Own.neT oT b15 (by decide))
            replace X : w.grownBy w60 (some gS) := by first | exact gb_trans X x59 | exact gb_new X x59 (by intro g hg; injection hg; omega)
            clear x59 b15
            obtain ⟨x, hx⟩ : ∃ x, ys[rk.toNat]? = some x := ⟨_, List.getElem?_eq_getElem (by omega)⟩
            refine ops_cons rfl (ow_indexT (oT).sl SlotI.len rfl el35 rfl rfl rfl hx (by omega) ?_)
            refine ops_cons rfl (ow_fieldAddr off46_3 rfl ?_)
            refine ops_cons rfl (ow_storeRF oT ti39 rfl rfl rfl rfl (by omega) (by omega) rfl ?_)
            intro w66 oU hg65 z67
            replace hs := hs.grown hg65 (fun g hg => Nat.le_trans Bhs (Own.lt oT hg).1)
            replace b61 := b61.grown hg65 (fun h => Own.neT oT b61 (by decide) h.symm)
            replace X : w.grownBy w66 (some gS) := by first | exact gb_trans X hg65 | exact gb_new X hg65 (fun g hg => (Own.lt oT hg).1)
            clear hg65 z67
            obtain ⟨zs, hzl, oR⟩ : ∃ zs : List SlotI, zs.length = ys.length ∧ Own _ _ _ _ _ _ _ (zs.flatMap SlotI.cells) := ⟨ys.set rk.toNat ⟨x.mode, x.round, x.slot, dd⟩, List.length_set .., oU.to (set_field (x := x) (x' := ⟨x.mode, x.round, x.slot, dd⟩) (vs := dd.cells) SlotI.len (f := 3) rfl (by omega) ys rk.toNat hx)⟩
            refine ops_nil ?_
            refine bq_n ?_
            refine tq_n ?_
            refine c_seqR ?_
            refine ops_cons rfl (ow_move rfl ?_)
            refine ops_cons rfl (ow_assign rfl ?_)
            refine ops_nil ?_
            refine c_ret ?_
            refine fin_ret1 rfl rfl ?_
            first
            | (exact ⟨_, _, zs, _, _, by rw [hzl], by omega, by rw [hzl]; exact oR, ok, b61, X⟩)
            | (subst hn; exact ⟨_, _, zs, _, _, rfl, by omega, oO, ok, b61, X⟩)
            | (exact ⟨_, _, ys, _, _, rfl, by omega, oT, ok, b61, X⟩)
          · skip
            refine ops_cons rfl (ow_assign rfl ?_)
            refine ops_nil ?_
            refine c_false rfl ?_
            refine c_seqR ?_
            refine ops_cons rfl (ow_eql2 rfl rfl (fun h68 => ?_) (fun h68 => ?_))
            · skip
              refine ops_cons rfl (ow_assign rfl ?_)
              refine ops_nil ?_
              refine c_true rfl ?_
              refine c_region ?_
              refine ops_cons rfl (ow_move rfl ?_)
              refine ops_cons rfl (ow_move rfl ?_)
              refine ops_cons rfl (ow_move rfl ?_)
              obtain ⟨x, hx⟩ : ∃ x, ys[rk.toNat]? = some x := ⟨_, List.getElem?_eq_getElem (by omega)⟩
              refine ops_cons rfl (ow_indexT (oT).sl SlotI.len rfl el35 rfl rfl rfl hx (by omega) ?_)
              refine ops_cons rfl (ow_loadTA (oT).sl SlotI.len hx ti46 rfl ?_)
              refine ops_cons rfl (ow_buildSlice el35 ti46 rfl rfl rfl rfl rfl ?_)
              intro g69 w71 eg69 oV bbg69 x70 zg69
              replace oV := Own.low oV X.size
              replace hs := hs.ext x70
              replace oT := oT.ext x70
              replace b15 := b15.ext x70
              replace X := gb_ext X x70; clear x70
              refine ops_cons rfl (ow_append (ts := #[]) oT X.size oV.sl (by first | rfl | simp) (by first | exact List.all_eq_true.1 rfl | simp [Value.oneCell']) el35 ti46 rfl rfl rfl rfl (by omega) (by omega) ?_)
              intro AoU coU w73 oU hg72
              replace hs := hs.grown hg72 (fun g hg => Nat.le_trans Bhs (Own.lt oT hg).1)
              replace b15 := b15.grown hg72 (fun h => Own.neT oT b15 (by decide) h.symm)
              replace X := gb_new X hg72 (fun g hg => (Own.lt oT hg).1)
              clear hg72
              obtain ⟨zs, hzl, oR⟩ : ∃ zs : List SlotI, zs.length = ys.length + 1 ∧ Own _ _ _ _ _ _ _ (zs.flatMap SlotI.cells) := ⟨ys ++ [x], by simp, oU.to (snoc SlotI.cells ys x).symm⟩
              refine ops_cons rfl (ow_assign rfl ?_)
              refine ops_nil ?_
              refine bq_n ?_
              refine tq_n ?_
              refine c_seqR ?_
              refine ops_cons rfl (ow_move rfl ?_)
              refine ops_cons rfl (ow_assign rfl ?_)
              refine ops_nil ?_
              refine c_ret ?_
              refine fin_ret1 rfl rfl ?_
              first
              | (exact ⟨_, _, zs, _, _, by rw [hzl], by omega, by rw [hzl]; exact oR, ok, b15, X⟩)
              | (subst hn; exact ⟨_, _, zs, _, _, rfl, by omega, oO, ok, b15, X⟩)
              | (exact ⟨_, _, ys, _, _, rfl, by omega, oT, ok, b15, X⟩)
            · skip
              refine ops_cons rfl (ow_assign rfl ?_)
              refine ops_nil ?_
              refine c_false rfl ?_
              refine c_seqR ?_
              refine ops_cons rfl (ow_eql2 rfl rfl (fun h74 => ?_) (fun h74 => ?_))
              · skip
                refine ops_cons rfl (ow_assign rfl ?_)
                refine ops_nil ?_
                refine c_true rfl ?_
                refine c_seqR ?_
                refine ops_cons rfl (ow_buildSlice el35 ti46 rfl rfl rfl rfl rfl ?_)
                intro gI w76 egI oI bbgI x75 zgI
                replace oI := Own.low oI X.size
                replace hs := hs.ext x75
                replace oT := oT.ext x75
                replace b15 := b15.ext x75
                replace X := gb_ext X x75; clear x75
                refine ops_cons rfl (ow_assign rfl ?_)
                refine ops_nil ?_
                refine c_seqR ?_
                refine ops_cons rfl (ow_move rfl ?_)
                refine ops_cons rfl (ow_call ent78 rfl (ret_mono (l08Draw_c _ _ _ _ _ _ _ _ b15 hs hB ok hbl) ?_))
                rintro _ w78 ⟨dd, a80, sd81, rfl, hp82, ok, b79, x77⟩
                replace hs := hs.grown x77 (by intro g hg; injection hg; omega)
                replace oT := oT.grownBlk x77 (Own.neT oT b15 (by decide))
                replace oI := oI.grownBlk x77 (Own.neT oI b15 (by decide))
                replace X : w.grownBy w78 (some gS) := by first | exact gb_trans X x77 | exact gb_new X x77 (by intro g hg; injection hg; omega)
                clear x77 b15
                refine ops_cons rfl (ow_alloc ti39 ?_)
                intro gD w84 egD bD x83 zgD
                have lgD : w.heap.size ≤ gD := Nat.le_trans X.size (Nat.le_of_eq egD.symm)
                have pgDhs := Nat.le_trans hs.1 (Nat.le_of_eq egD.symm)
                have ngDb79 := Nat.lt_of_lt_of_eq b79.lt egD.symm
                replace hs := hs.ext x83
                replace oT := oT.ext x83
                replace oI := oI.ext x83
                replace b79 := b79.ext x83
                replace X := gb_ext X x83; clear x83
                refine ops_cons rfl (ow_storeB bD ti39 rfl rfl rfl rfl rfl rfl ?_)
                intro w86 bE hg85 z87
                replace hs := hs.grown hg85 (by intro g hg; injection hg; omega)
                replace oT := oT.grownBlk hg85 (Own.neT oT bD (by decide))
                replace oI := oI.grownBlk hg85 (Own.neT oI bD (by decide))
                replace b79 := b79.grown hg85 (by intro h; injection h; omega)
                replace X : w.grownBy w86 (some gS) := by first | exact gb_trans X hg85 | exact gb_new X hg85 (by intro g hg; injection hg; omega)
                clear hg85 bD
                refine ops_nil ?_
                refine c_seqR ?_
                refine ops_cons rfl (ow_assign rfl ?_)
                refine ops_nil ?_
                refine c_block ?_
                refine c_loop (G := Int × List SlotI × Nat × Option Addr × Nat) (fun ⟨i, zs, n1, A1, c1⟩ => [(2, .slice none 0 0), (5, .pointer (some ⟨gD, 0, none⟩)), (0, .pointer (some ⟨gS, 0, none⟩)), (3, .slice A1 n1 c1), (6, .int .i64 i)]) (fun ⟨i, zs, n1, A1, c1⟩ wr => (0 ≤ i ∧ i ≤ 121) ∧ n1 = zs.length ∧ (n1 : Int) = i ∧ (∃ a sd, (a ≤ bs.length ∧ 0 ≤ sd ∧ sd < 2147483647) ∧ Blk wr gS 91 (srcC A c bs a sd)) ∧ Own wr w.heap.size 46 8 A1 n1 c1 (zs.flatMap SlotI.cells) ∧ Sl B wr A (bs.flatMap eB) ∧ Blk wr gD 39 dd.cells ∧ w.grownBy wr (some gS)) (fun ⟨i, zs, n1, A1, c1⟩ => (122 - i).toNat) (0, [], 0, some ⟨gI, 0, none⟩, 0) (.cons rfl (.cons rfl (.cons rfl (.cons rfl (.cons rfl (.nil _)))))) ?_ ?_
                · exact ⟨(by omega), rfl, rfl, ⟨_, _, ok, b79⟩, oI, hs, bE, X⟩
                clear hs oT oI b79 bE
                clear X
                rintro ⟨i, zs, n1, A1, c1⟩ wr ⟨hi0, hn, hni, qq, oO, hs, bE, X⟩
                obtain ⟨a, sd, ok, q⟩ := qq
                refine c_seq ?_
                refine c_seqR ?_
                refine ops_cons rfl (ow_move rfl ?_)
                refine ops_cons rfl (ow_move rfl ?_)
                refine ops_cons rfl (ow_call ent45 rfl (ret_mono (l01Next_c _ _ _ _ _ _ _ _ _ q hs hB ok hbl (by omega)) ?_))
                rintro _ w89 ⟨rr, a91, sd92, rfl, hr93, ok, b90, x88⟩
                replace oO := oO.grownBlk x88 (Own.neT oO q (by decide))
                replace hs := hs.grown x88 (by intro g hg; injection hg; omega)
                replace bE := bE.grown x88 (by intro h; injection h; omega)
                replace X : w.grownBy w89 (some gS) := by first | exact gb_trans X x88 | exact gb_new X x88 (by intro g hg; injection hg; omega)
                clear x88 q
                refine ops_cons rfl (ow_add rfl rfl (w64 (by omega)) ?_)
                refine ops_cons rfl (ow_lss2 rfl rfl (fun hlt => ?_) (fun hlt => ?_))
                · skip
                  refine ops_nil ?_
                  refine c_true rfl ?_
                  refine c_skip ?_
                  refine tq_n ?_
                  refine c_seq ?_
                  refine c_block ?_
                  refine c_region ?_
                  refine ops_cons rfl (ow_move rfl ?_)
                  refine ops_cons rfl (ow_move rfl ?_)
                  refine ops_cons rfl (ow_quo rfl rfl (by omega) (q64 (by omega)) ?_)
                  refine ops_cons rfl (ow_move rfl ?_)
                  refine ops_cons rfl (ow_rem rfl rfl (by omega) (m64 (by omega)) ?_)
                  refine ops_cons rfl (ow_loadAB bE ti39 rfl rfl ?_)
                  refine ops_cons rfl (ow_buildP pl46 ti46 rfl rfl ?_)
                  refine ops_cons rfl (ow_buildSlice el35 ti46 rfl rfl rfl rfl rfl ?_)
                  intro g94 w96 eg94 oV bbg94 x95 zg94
                  replace oV := Own.low oV X.size
                  replace oO := oO.ext x95
                  replace hs := hs.ext x95
                  replace bE := bE.ext x95
                  replace b90 := b90.ext x95
                  replace X := gb_ext X x95; clear x95
                  refine ops_cons rfl (ow_append (ts := #[]) oO X.size oV.sl (by first | rfl | simp) (by first | exact List.all_eq_true.1 rfl | simp [Value.oneCell']) el35 ti46 rfl rfl rfl rfl (by omega) (by omega) ?_)
                  intro AoN coN w98 oN hg97
                  replace hs := hs.grown hg97 (fun g hg => Nat.le_trans Bhs (Own.lt oO hg).1)
                  replace bE := bE.grown hg97 (fun h => Own.neT oO bE (by decide) h.symm)
                  replace b90 := b90.grown hg97 (fun h => Own.neT oO b90 (by decide) h.symm)
                  replace X := gb_new X hg97 (fun g hg => (Own.lt oO hg).1)
                  clear hg97
                  refine ops_cons rfl (ow_assign rfl ?_)
                  refine ops_nil ?_
                  refine bq_n ?_
                  refine tq_n ?_
                  refine c_region ?_
                  refine ops_cons rfl (ow_move rfl ?_)
                  refine ops_cons rfl (ow_add rfl rfl (w64 (by omega)) ?_)
                  refine ops_cons rfl (ow_assign rfl ?_)
                  refine ops_nil ?_
                  refine tq_n ⟨(i + 1, zs ++ [⟨i / 16, 0, i % 16, dd⟩], n1 + 1, AoN, coN), (.cons rfl (.cons rfl (.cons rfl (.cons rfl (.cons rfl (.nil _)))))), ?_, ?_⟩
                  · exact ⟨(by omega), (by simp [hn]), (by omega), ⟨_, _, ok, b90⟩, oN.to (snoc SlotI.cells zs ⟨i / 16, 0, i % 16, dd⟩).symm, hs, bE, X⟩
                  · first | omega | (dsimp only; omega)
                · skip
                  refine ops_nil ?_
                  refine c_false rfl ?_
                  refine c_exit ?_
                  refine tq_e ?_
                  refine tq_e ?_
                  refine bq_e ?_
                  refine bq_n ?_
                  refine tq_n ?_
                  refine c_seqR ?_
                  refine ops_cons rfl (ow_move rfl ?_)
                  refine ops_cons rfl (ow_assign rfl ?_)
                  refine ops_nil ?_
                  refine c_ret ?_
                  refine fin_ret1 rfl rfl ?_
                  first
                  | (exact ⟨_, _, zs, _, _, by rw [hzl], by omega, by rw [hzl]; exact oR, ok, b90, X⟩)
                  | (subst hn; exact ⟨_, _, zs, _, _, rfl, by omega, oO, ok, b90, X⟩)
                  | (exact ⟨_, _, ys, _, _, rfl, by omega, oT, ok, b90, X⟩)
              · skip
                refine ops_cons rfl (ow_assign rfl ?_)
                refine ops_nil ?_
                refine c_false rfl ?_
                refine c_skip ?_
                refine bq_n ?_
                refine tq_n ?_
                refine c_seqR ?_
                refine ops_cons rfl (ow_move rfl ?_)
                refine ops_cons rfl (ow_assign rfl ?_)
                refine ops_nil ?_
                refine c_ret ?_
                refine fin_ret1 rfl rfl ?_
                first
                | (exact ⟨_, _, zs, _, _, by rw [hzl], by omega, by rw [hzl]; exact oR, ok, b15, X⟩)
                | (subst hn; exact ⟨_, _, zs, _, _, rfl, by omega, oO, ok, b15, X⟩)
                | (exact ⟨_, _, ys, _, _, rfl, by omega, oT, ok, b15, X⟩)

theorem drawFind_c (A : Option Addr) (B c : Nat) (bs : List UInt8) (w : World) (hs : Sl B w A (bs.flatMap eB)) (hbl : bs.length ≤ 1048576) :
    Calls Try.prog 18 #[.slice A bs.length c] w (Ret fun v w' => ∃ A' c' xs x y z, v = .tuple #[.slice A' (List.length xs) c', .int .i64 x, .int .i64 y, .int .i64 z] ∧ xs.length ≤ 130 ∧ Own w' w.heap.size 46 8 A' xs.length c' (xs.flatMap SlotI.cells) ∧ Ext w w') := by
  have Bhs := hs.1
  have X := Ext.refl w
  refine calls_of (args := [.slice A bs.length c]) Try.func18 Try.ntmps18 rfl rfl ?_
  refine c_seqR ?_
  refine ops_cons rfl (ow_assign rfl ?_)
  refine ops_cons rfl (ow_assign rfl ?_)
  refine ops_cons rfl (ow_assign rfl ?_)
  refine ops_cons rfl (ow_assign rfl ?_)
  refine ops_nil ?_
  refine c_seqR ?_
  refine ops_cons rfl (ow_move rfl ?_)
  refine ops_cons rfl (ow_call ent40 rfl (ret_mono (l01From_c _ _ _ _ _ hs hbl) ?_))
  rintro _ w2 ⟨gS, a6, sd7, rfl, lgS0, ok, o3, x1⟩
  have lgS : w.heap.size ≤ gS := Nat.le_trans X.size lgS0
  replace hs := hs.ext x1
  replace X := Ext.trans X x1; clear x1
  refine ops_cons rfl (ow_assign rfl ?_)
  refine ops_nil ?_
  refine c_seqR ?_
  have hB : B ≤ gS := by omega
  refine ops_cons rfl (ow_move rfl ?_)
  have LoT := X.size
  refine ops_cons rfl (ow_call ent56 rfl (ret_mono (l12DrawAny_c _ _ _ _ _ _ _ _ o3 hs hB ok hbl) ?_))
  rintro _ w9 ⟨A_11, c_12, ys, a13, sd14, rfl, hyl, oT, ok, b10, x8⟩
  replace hs := hs.grown x8 (by intro g hg; injection hg; omega)
  replace X := X.grown x8 X.size (by intro g hg; injection hg; omega)
  clear x8 o3
  replace oT := Own.low oT LoT
  refine ops_cons rfl (ow_assign rfl ?_)
  refine ops_nil ?_
  refine c_seqR ?_
  refine ops_cons rfl (ow_move rfl ?_)
  refine ops_cons rfl (ow_move rfl ?_)
  refine ops_cons rfl (ow_call ent45 rfl (ret_mono (l01Next_c _ _ _ _ _ _ _ _ _ b10 hs hB ok hbl (by omega)) ?_))
  rintro _ w17 ⟨r19, a20, sd21, rfl, hr22, ok, b18, x16⟩
  replace hs := hs.grown x16 (by intro g hg; injection hg; omega)
  replace oT := oT.grownBlk x16 (Own.neT oT b10 (by decide))
  replace X := X.grown x16 X.size (by intro g hg; injection hg; omega)
  clear x16 b10
  refine ops_cons rfl (ow_move rfl ?_)
  refine ops_cons rfl (ow_call ent45 rfl (ret_mono (l01Next_c _ _ _ _ _ _ _ _ _ b18 hs hB ok hbl (by omega)) ?_))
  rintro _ w24 ⟨r26, a27, sd28, rfl, hr29, ok, b25, x23⟩
  replace hs := hs.grown x23 (by intro g hg; injection hg; omega)
  replace oT := oT.grownBlk x23 (Own.neT oT b18 (by decide))
  replace X := X.grown x23 X.size (by intro g hg; injection hg; omega)
  clear x23 b18
  refine ops_cons rfl (ow_move rfl ?_)
  refine ops_cons rfl (ow_call ent45 rfl (ret_mono (l01Next_c _ _ _ _ _ _ _ _ _ b25 hs hB ok hbl (by omega)) ?_))
  rintro _ w31 ⟨r33, a34, sd35, rfl, hr36, ok, b32, x30⟩
  replace hs := hs.grown x30 (by intro g hg; injection hg; omega)
  replace oT := oT.grownBlk x30 (Own.neT oT b25 (by decide))
  replace X := X.grown x30 X.size (by intro g hg; injection hg; omega)
  clear x30 b25
  refine ops_cons rfl (ow_assign rfl ?_)
  refine ops_cons rfl (ow_assign rfl ?_)
  refine ops_cons rfl (ow_assign rfl ?_)
  refine ops_cons rfl (ow_assign rfl ?_)
  refine ops_nil ?_
  refine c_ret ?_
  refine fin_ret4 rfl rfl rfl rfl rfl ?_
  exact ⟨_, _, ys, _, _, _, rfl, hyl, oT, X⟩

theorem drawNode_c (A : Option Addr) (B c : Nat) (bs : List UInt8) (w : World) (hs : Sl B w A (bs.flatMap eB)) (hbl : bs.length ≤ 1048576) :
    Calls Try.prog 21 #[.slice A bs.length c] w (Ret fun v w' => ∃ A' c' xs x, v = .tuple #[.slice A' (List.length xs) c', .int .i64 x] ∧ xs.length ≤ 130 ∧ Own w' w.heap.size 46 8 A' xs.length c' (xs.flatMap SlotI.cells) ∧ Ext w w') := by
  have Bhs := hs.1
  have X := Ext.refl w
  refine calls_of (args := [.slice A bs.length c]) Try.func21 Try.ntmps21 rfl rfl ?_
  refine c_seqR ?_
  refine ops_cons rfl (ow_assign rfl ?_)
  refine ops_cons rfl (ow_assign rfl ?_)
  refine ops_nil ?_
  refine c_seqR ?_
  refine ops_cons rfl (ow_move rfl ?_)
  refine ops_cons rfl (ow_call ent40 rfl (ret_mono (l01From_c _ _ _ _ _ hs hbl) ?_))
  rintro _ w2 ⟨gS, a6, sd7, rfl, lgS0, ok, o3, x1⟩
  have lgS : w.heap.size ≤ gS := Nat.le_trans X.size lgS0
  replace hs := hs.ext x1
  replace X := Ext.trans X x1; clear x1
  refine ops_cons rfl (ow_assign rfl ?_)
  refine ops_nil ?_
  refine c_seqR ?_
  have hB : B ≤ gS := by omega
  refine ops_cons rfl (ow_move rfl ?_)
  have LoT := X.size
  refine ops_cons rfl (ow_call ent56 rfl (ret_mono (l12DrawAny_c _ _ _ _ _ _ _ _ o3 hs hB ok hbl) ?_))
  rintro _ w9 ⟨A_11, c_12, ys, a13, sd14, rfl, hyl, oT, ok, b10, x8⟩
  replace hs := hs.grown x8 (by intro g hg; injection hg; omega)
  replace X := X.grown x8 X.size (by intro g hg; injection hg; omega)
  clear x8 o3
  replace oT := Own.low oT LoT
  refine ops_cons rfl (ow_assign rfl ?_)
  refine ops_nil ?_
  refine c_seqR ?_
  refine ops_cons rfl (ow_move rfl ?_)
  refine ops_cons rfl (ow_move rfl ?_)
  refine ops_cons rfl (ow_call ent45 rfl (ret_mono (l01Next_c _ _ _ _ _ _ _ _ _ b10 hs hB ok hbl (by omega)) ?_))
  rintro _ w17 ⟨r19, a20, sd21, rfl, hr22, ok, b18, x16⟩
  replace hs := hs.grown x16 (by intro g hg; injection hg; omega)
  replace oT := oT.grownBlk x16 (Own.neT oT b10 (by decide))
  replace X := X.grown x16 X.size (by intro g hg; injection hg; omega)
  clear x16 b10
  refine ops_cons rfl (ow_sub rfl rfl (w64 (by omega)) ?_)
  refine ops_cons rfl (ow_assign rfl ?_)
  refine ops_cons rfl (ow_assign rfl ?_)
  refine ops_nil ?_
  refine c_ret ?_
  refine fin_ret2 rfl rfl rfl ?_
  exact ⟨_, _, ys, _, rfl, hyl, oT, X⟩

theorem drawSTB_c (A : Option Addr) (B c : Nat) (bs : List UInt8) (w : World) (hs : Sl B w A (bs.flatMap eB)) (hbl : bs.length ≤ 1048576) :
    Calls Try.prog 24 #[.slice A bs.length c] w (Ret fun v w' => ∃ A' c' xs, v = .slice A' (List.length xs) c' ∧ xs.length ≤ 130 ∧ Own w' w.heap.size 46 8 A' xs.length c' (xs.flatMap SlotI.cells) ∧ Ext w w') := by
  have Bhs := hs.1
  have X := Ext.refl w
  refine calls_of (args := [.slice A bs.length c]) Try.func24 Try.ntmps24 rfl rfl ?_
  refine c_seqR ?_
  refine ops_cons rfl (ow_assign rfl ?_)
  refine ops_nil ?_
  refine c_seqR ?_
  refine ops_cons rfl (ow_move rfl ?_)
  refine ops_cons rfl (ow_call ent40 rfl (ret_mono (l01From_c _ _ _ _ _ hs hbl) ?_))
  rintro _ w2 ⟨gS, a6, sd7, rfl, lgS0, ok, o3, x1⟩
  have lgS : w.heap.size ≤ gS := Nat.le_trans X.size lgS0
  replace hs := hs.ext x1
  replace X := Ext.trans X x1; clear x1
  have hB : B ≤ gS := by omega
  have LoT := X.size
  refine ops_cons rfl (ow_call ent56 rfl (ret_mono (l12DrawAny_c _ _ _ _ _ _ _ _ o3 hs hB ok hbl) ?_))
  rintro _ w9 ⟨A_11, c_12, ys, a13, sd14, rfl, hyl, oT, ok, b10, x8⟩
  replace hs := hs.grown x8 (by intro g hg; injection hg; omega)
  replace X := X.grown x8 X.size (by intro g hg; injection hg; omega)
  clear x8 o3
  replace oT := Own.low oT LoT
  refine ops_cons rfl (ow_assign rfl ?_)
  refine ops_nil ?_
  refine c_ret ?_
  refine fin_ret1 rfl rfl ?_
  exact ⟨_, _, ys, rfl, hyl, oT, X⟩
end Go.Proofs.Ytojgfbbdjobdnaa
