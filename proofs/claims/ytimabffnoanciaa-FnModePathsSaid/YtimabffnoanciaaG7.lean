/- Mode tables and modes that are drawn. No condition. -/
import Derived.Test.YtimabffnoanciaaG5
namespace Go.Proofs.Ytimabffnoanciaa
open Go.RowKit
set_option linter.unusedVariables false
set_option linter.unusedSimpArgs false
set_option maxRecDepth 20000
theorem l11DrawMode_c (A : Option Addr) (B c : Nat) (bs : List UInt8) (gS a : Nat) (sd : Int) (A3 : Option Addr) (n c3 : Nat) (w : World) (q : Blk w gS 122 (srcC A c bs a sd)) (hs : Sl B w A (bs.flatMap eB)) (hB : B ≤ gS) (ok : a ≤ bs.length ∧ 0 ≤ sd ∧ sd < 2147483647) (hbl : bs.length ≤ 1048576) (hn17 : n ≤ 17) :
    Calls Try.prog 123 #[.pointer (some ⟨gS, 0, none⟩), .slice A3 n c3] w (Ret fun v w' => ∃ r a' sd', v = .int .i64 r ∧ True ∧ (a' ≤ bs.length ∧ 0 ≤ sd' ∧ sd' < 2147483647) ∧ Blk w' gS 122 (srcC A c bs a' sd') ∧ w.grownBy w' (some gS)) := by
  have Bhs := hs.1
  have X := gb_refl w (some gS)
  refine calls_of (args := [.pointer (some ⟨gS, 0, none⟩), .slice A3 n c3]) Try.func123 Try.ntmps123 rfl rfl ?_
  refine c_seqR ?_
  refine ops_cons rfl (ow_assign rfl ?_)
  refine ops_nil ?_
  refine c_seqR ?_
  refine ops_cons rfl (ow_move rfl ?_)
  refine ops_cons rfl (ow_move rfl ?_)
  refine ops_cons rfl (ow_len Try.underlying60 rfl ?_)
  refine ops_cons rfl (ow_call ent70 rfl (ret_mono (l01Next_c _ _ _ _ _ _ _ _ _ q hs hB ok hbl (by omega)) ?_))
  rintro _ w2 ⟨r1, a4, sd5, rfl, hr6, ok, b3, x1⟩
  replace hs := hs.grown x1 (by intro g hg; injection hg; omega)
  replace X : w.grownBy w2 (some gS) := by first | exact gb_trans X x1 | exact gb_new X x1 (by intro g hg; injection hg; omega)
  clear x1 q
  refine ops_cons rfl (ow_move rfl ?_)
  refine ops_cons rfl (ow_call ent70 rfl (ret_mono (l01Next_c _ _ _ _ _ _ _ _ _ b3 hs hB ok hbl (by omega)) ?_))
  rintro _ w8 ⟨r2, a10, sd11, rfl, hr12, ok, b9, x7⟩
  replace hs := hs.grown x7 (by intro g hg; injection hg; omega)
  replace X : w.grownBy w8 (some gS) := by first | exact gb_trans X x7 | exact gb_new X x7 (by intro g hg; injection hg; omega)
  clear x7 b3
  refine ops_cons rfl (ow_quo rfl rfl (by omega) (q64 (by omega)) ?_)
  refine ops_cons rfl (ow_move rfl ?_)
  refine ops_cons rfl (ow_len Try.underlying60 rfl ?_)
  have hq : r2 / 15 = 0 ∨ r2 / 15 = 1 := by omega
  have hqm : r2 / 15 * (n : Int) = 0 ∨ r2 / 15 * (n : Int) = n := by rcases hq with h | h <;> rw [h] <;> simp
  refine ops_cons rfl (ow_mul rfl rfl (w64 (by omega)) ?_)
  refine ops_cons rfl (ow_add rfl rfl (w64 (by omega)) ?_)
  refine ops_cons rfl (ow_move rfl ?_)
  refine ops_cons rfl (ow_call ent70 rfl (ret_mono (l01Next_c _ _ _ _ _ _ _ _ _ b9 hs hB ok hbl (by omega)) ?_))
  rintro _ w14 ⟨r3, a16, sd17, rfl, hr18, ok, b15, x13⟩
  replace hs := hs.grown x13 (by intro g hg; injection hg; omega)
  replace X : w.grownBy w14 (some gS) := by first | exact gb_trans X x13 | exact gb_new X x13 (by intro g hg; injection hg; omega)
  clear x13 b9
  refine ops_cons rfl (ow_quo rfl rfl (by omega) (q64 (by omega)) ?_)
  refine ops_cons rfl (ow_sub rfl rfl (w64 (by omega)) ?_)
  refine ops_cons rfl (ow_assign rfl ?_)
  refine ops_nil ?_
  refine c_ret ?_
  refine fin_ret1 rfl rfl ?_
  exact ⟨_, _, _, rfl, trivial, ok, b15, X⟩

theorem drawMay_c (A : Option Addr) (B c : Nat) (bs : List UInt8) (w : World) (hs : Sl B w A (bs.flatMap eB)) (hbl : bs.length ≤ 1048576) :
    Calls Try.prog 96 #[.slice A bs.length c] w (Ret fun v w' => ∃ A' c' xs fr to, v = .tuple #[.slice A' (List.length xs) c', .int .i64 fr, .int .i64 to] ∧ (xs.length ≤ 17 ∧ ∀ x ∈ xs, x.m.next.length ≤ 5) ∧ Own w' w.heap.size 114 3 A' xs.length c' (xs.flatMap ModeI.cells) ∧ NOwn w' w.heap.size 2 xs ∧ Ext w w') := by
  have Bhs := hs.1
  have X := Ext.refl w
  refine calls_of (args := [.slice A bs.length c]) Try.func96 Try.ntmps96 rfl rfl ?_
  refine c_seqR ?_
  refine ops_cons rfl (ow_assign rfl ?_)
  refine ops_cons rfl (ow_assign rfl ?_)
  refine ops_cons rfl (ow_assign rfl ?_)
  refine ops_nil ?_
  refine c_seqR ?_
  refine ops_cons rfl (ow_move rfl ?_)
  refine ops_cons rfl (ow_call ent67 rfl (ret_mono (l01From_c _ _ _ _ _ hs hbl) ?_))
  rintro _ w2 ⟨gS, a6, sd7, rfl, lgS0, ok, o3, x1⟩
  have lgS : w.heap.size ≤ gS := Nat.le_trans X.size lgS0
  replace hs := hs.ext x1
  replace X := Ext.trans X x1; clear x1
  have hB : B ≤ gS := by omega
  refine ops_cons rfl (ow_assign rfl ?_)
  refine ops_nil ?_
  refine c_seqR ?_
  refine ops_cons rfl (ow_move rfl ?_)
  have LoT := X.size
  refine ops_cons rfl (ow_call ent122 rfl (ret_mono (l11DrawAny_c _ _ _ _ _ _ _ _ o3 hs hB ok hbl) ?_))
  rintro _ w9 ⟨A_11, c_12, ys, a13, sd14, rfl, hyl, oT, oTn, ok, b10, x8⟩
  replace hs := hs.grown x8 (by intro g hg; injection hg; omega)
  replace X := X.grown x8 X.size (by intro g hg; injection hg; omega)
  clear x8 o3
  replace oT := Own.low oT LoT
  replace oTn := NOwn.low oTn LoT
  refine ops_cons rfl (ow_assign rfl ?_)
  refine ops_nil ?_
  refine c_seqR ?_
  refine ops_cons rfl (ow_move rfl ?_)
  refine ops_cons rfl (ow_move rfl ?_)
  refine ops_cons rfl (ow_call ent123 rfl (ret_mono (l11DrawMode_c _ _ _ _ _ _ _ _ _ _ _ b10 hs hB ok hbl hyl.1) ?_))
  rintro _ w17 ⟨rf, a19, sd20, rfl, h_, ok, b18, x16⟩
  replace hs := hs.grown x16 (by intro g hg; injection hg; omega)
  replace oT := oT.grownBlk x16 (Own.neT oT b10 (by decide))
  replace oTn := oTn.grownB b10 x16 (by decide)
  replace X := X.grown x16 X.size (by intro g hg; injection hg; omega)
  clear x16 b10
  refine ops_cons rfl (ow_assign rfl ?_)
  refine ops_nil ?_
  refine c_seqR ?_
  refine ops_cons rfl (ow_move rfl ?_)
  refine ops_cons rfl (ow_move rfl ?_)
  refine ops_cons rfl (ow_move rfl ?_)
  refine ops_cons rfl (ow_move rfl ?_)
  refine ops_cons rfl (ow_call ent123 rfl (ret_mono (l11DrawMode_c _ _ _ _ _ _ _ _ _ _ _ b18 hs hB ok hbl hyl.1) ?_))
  rintro _ w22 ⟨rt, a24, sd25, rfl, h_, ok, b23, x21⟩
  replace hs := hs.grown x21 (by intro g hg; injection hg; omega)
  replace oT := oT.grownBlk x21 (Own.neT oT b18 (by decide))
  replace oTn := oTn.grownB b18 x21 (by decide)
  replace X := X.grown x21 X.size (by intro g hg; injection hg; omega)
  clear x21 b18
  refine ops_cons rfl (ow_assign rfl ?_)
  refine ops_cons rfl (ow_assign rfl ?_)
  refine ops_cons rfl (ow_assign rfl ?_)
  refine ops_nil ?_
  refine c_ret ?_
  refine fin_ret3 rfl rfl rfl rfl ?_
  exact ⟨_, _, ys, _, _, rfl, hyl, oT, oTn, X⟩

theorem drawMP_c (A : Option Addr) (B c : Nat) (bs : List UInt8) (w : World) (hs : Sl B w A (bs.flatMap eB)) (hbl : bs.length ≤ 1048576) :
    Calls Try.prog 53 #[.slice A bs.length c] w (Ret fun v w' => ∃ A' c' xs fr to, v = .tuple #[.slice A' (List.length xs) c', .int .i64 fr, .int .i64 to] ∧ (xs.length ≤ 17 ∧ ∀ x ∈ xs, x.m.next.length ≤ 5) ∧ Own w' w.heap.size 114 3 A' xs.length c' (xs.flatMap ModeI.cells) ∧ NOwn w' w.heap.size 2 xs ∧ Ext w w') := by
  have Bhs := hs.1
  have X := Ext.refl w
  refine calls_of (args := [.slice A bs.length c]) Try.func53 Try.ntmps53 rfl rfl ?_
  refine c_seqR ?_
  refine ops_cons rfl (ow_assign rfl ?_)
  refine ops_cons rfl (ow_assign rfl ?_)
  refine ops_cons rfl (ow_assign rfl ?_)
  refine ops_nil ?_
  refine c_seqR ?_
  refine ops_cons rfl (ow_move rfl ?_)
  refine ops_cons rfl (ow_call ent96 rfl (ret_mono (drawMay_c _ _ _ _ _ hs hbl) ?_))
  rintro _ w2 ⟨A3, c4, ys, fr, to, rfl, hyl, oT, oTn, x1⟩
  replace oT := Own.low oT X.size
  replace oTn := NOwn.low oTn X.size
  replace hs := hs.ext x1
  replace X := Ext.trans X x1; clear x1
  refine ops_cons rfl (ow_extract rfl rfl ?_)
  refine ops_cons rfl (ow_extract rfl rfl ?_)
  refine ops_cons rfl (ow_extract rfl rfl ?_)
  refine ops_cons rfl (ow_assign rfl ?_)
  refine ops_cons rfl (ow_assign rfl ?_)
  refine ops_cons rfl (ow_assign rfl ?_)
  refine ops_nil ?_
  refine c_ret ?_
  refine fin_ret3 rfl rfl rfl rfl ?_
  exact ⟨_, _, ys, _, _, rfl, hyl, oT, oTn, X⟩
end Go.Proofs.Ytimabffnoanciaa
