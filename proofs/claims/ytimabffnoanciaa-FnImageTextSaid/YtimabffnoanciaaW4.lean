/- Texts that are drawn. No condition. -/
import Derived.Test.YtimabffnoanciaaW3
import Derived.Test.YtimabffnoanciaaGB
import Derived.Test.YtimabffnoanciaaFlowP
namespace Go.Proofs.Ytimabffnoanciaa
open Go.RowKit
set_option linter.unusedVariables false
set_option linter.unusedSimpArgs false
set_option maxRecDepth 20000
theorem extr_sum (s : ByteArray) {a : Nat} (h : a ≤ s.size) : (s.extract 0 a).size + (s.extract a s.size).size = s.size := by rw [ByteArray.size_extract, ByteArray.size_extract]; omega
theorem extr_sum1 (s : ByteArray) {k : Int} (h : 0 ≤ k ∧ k ≤ s.size) : (s.extract 0 k.toNat).size + (s.extract (k + 1).toNat s.size).size ≤ s.size := by rw [ByteArray.size_extract, ByteArray.size_extract]; omega
theorem damage_c (A : Option Addr) (B c : Nat) (bs : List UInt8) (gS a : Nat) (sd : Int) (s : ByteArray) (w : World) (q : Blk w gS 122 (srcC A c bs a sd)) (hs : Sl B w A (bs.flatMap eB)) (hB : B ≤ gS) (ok : a ≤ bs.length ∧ 0 ≤ sd ∧ sd < 2147483647) (hbl : bs.length ≤ 1048576) (hss : s.size ≤ 1048576) :
    Calls Try.prog 71 #[.pointer (some ⟨gS, 0, none⟩), .string s] w (Ret fun v w' => ∃ u a' sd', v = .string u ∧ u.size ≤ s.size + 1 ∧ (a' ≤ bs.length ∧ 0 ≤ sd' ∧ sd' < 2147483647) ∧ Blk w' gS 122 (srcC A c bs a' sd') ∧ w.grownBy w' (some gS)) := by
  have Bhs := hs.1
  have X := gb_refl w (some gS)
  refine calls_of (args := [.pointer (some ⟨gS, 0, none⟩), .string s]) Try.func71 Try.ntmps71 rfl rfl ?_
  refine c_seqR ?_
  refine ops_cons rfl (ow_assign rfl ?_)
  refine ops_nil ?_
  refine c_seqR ?_
  refine ops_cons rfl (ow_move rfl ?_)
  refine ops_cons rfl (ow_move rfl ?_)
  refine ops_cons rfl (ow_lenS Try.underlying9 rfl ?_)
  refine ops_cons rfl (ow_add rfl rfl (w64 (by omega)) ?_)
  refine ops_cons rfl (ow_call ent70 rfl (ret_mono (l01Next_c _ _ _ _ _ _ _ _ _ q hs hB ok hbl (by omega)) ?_))
  rintro _ w2 ⟨rk, a4, sd5, rfl, hr6, ok, b3, x1⟩
  replace hs := hs.grown x1 (by intro g hg; injection hg; omega)
  replace X : w.grownBy w2 (some gS) := by first | exact gb_trans X x1 | exact gb_new X x1 (by intro g hg; injection hg; omega)
  clear x1 q
  have xl := ext_le s 0 rk.toNat
  have xr := ext_le s rk.toNat s.size
  have xr1 := ext_le s (rk + 1).toNat s.size
  have sx := extr_sum s (a := rk.toNat) (by omega)
  have sx1 := extr_sum1 s (k := rk) (by omega)
  refine ops_cons rfl (ow_assign rfl ?_)
  refine ops_nil ?_
  refine c_seq ?_
  refine c_seqR ?_
  refine ops_cons rfl (ow_move rfl ?_)
  refine ops_cons rfl (ow_call ent70 rfl (ret_mono (l01Next_c _ _ _ _ _ _ _ _ _ b3 hs hB ok hbl (by omega)) ?_))
  rintro _ w8 ⟨r8, a10, sd11, rfl, hr12, ok, b9, x7⟩
  replace hs := hs.grown x7 (by intro g hg; injection hg; omega)
  replace X : w.grownBy w8 (some gS) := by first | exact gb_trans X x7 | exact gb_new X x7 (by intro g hg; injection hg; omega)
  clear x7 b3
  refine ops_nil ?_
  refine c_block ?_
  refine c_seqR ?_
  refine ops_cons rfl (ow_eql2 rfl rfl (fun h13 => ?_) (fun h13 => ?_))
  · skip
    refine ops_cons rfl (ow_assign rfl ?_)
    refine ops_nil ?_
    refine c_true rfl ?_
    refine c_seqR ?_
    refine ops_cons rfl (ow_move rfl ?_)
    refine ops_cons rfl (ow_move rfl ?_)
    refine ops_cons rfl (ow_sliceSH Try.underlying9 rfl rfl (by omega) (by omega) ?_)
    refine ops_cons rfl (ow_assign rfl ?_)
    refine ops_nil ?_
    refine c_ret ?_
    refine bq_r ?_
    refine tq_r ?_
    refine fin_ret1 rfl rfl ?_
    first
    | (exact ⟨_, _, _, rfl, by omega, ok, b9, X⟩)
    | (exact ⟨_, _, _, rfl, by rw [ByteArray.size_append, ByteArray.size_append]; omega, ok, b9, X⟩)
    | (exact ⟨_, _, _, rfl, by rw [ByteArray.size_append]; omega, ok, b9, X⟩)
  · skip
    refine ops_cons rfl (ow_assign rfl ?_)
    refine ops_nil ?_
    refine c_false rfl ?_
    refine c_seqR ?_
    refine ops_cons rfl (ow_eql2 rfl rfl (fun h14 => ?_) (fun h14 => ?_))
    · skip
      refine ops_cons rfl (ow_assign rfl ?_)
      refine ops_nil ?_
      refine c_true rfl ?_
      refine c_seqI (fun _ => True) mixed ?_
      obtain ⟨w15, ew15⟩ : ∃ wy, wy = World.drew w8 := ⟨_, rfl⟩
      rw [← ew15]
      have xd : Ext w8 w15 := ew15 ▸ Ext.drew w8
      replace hs := hs.ext xd
      replace b9 := b9.ext xd
      replace X := gb_ext X xd; clear xd ew15
      refine wi_take 0 rfl (by kernel_rfl) rfl (by kernel_rfl) (listed' := #[true, false, false, false, false, false, false, false, false, false, false, false, false, false]) rfl (fun wq sq => ow_move rfl ⟨rfl, rfl⟩) ?_
      refine wi_take 1 rfl (by kernel_rfl) rfl (by kernel_rfl) (listed' := #[true, true, false, false, false, false, false, false, false, false, false, false, false, false]) rfl (fun wq sq => ow_move rfl ⟨rfl, rfl⟩) ?_
      refine wi_take 2 rfl (by kernel_rfl) rfl (by kernel_rfl) (listed' := #[true, true, true, false, false, false, false, false, false, false, false, false, false, false]) rfl (fun wq sq => ow_sliceSH Try.underlying9 rfl rfl (by omega) (by omega) ⟨rfl, rfl⟩) ?_
      refine wi_take 4 rfl (by kernel_rfl) rfl (by kernel_rfl) (listed' := #[true, true, true, false, true, false, false, false, false, false, false, false, false, false]) rfl (fun wq sq => ow_move rfl ⟨rfl, rfl⟩) ?_
      refine wi_take 9 rfl (by kernel_rfl) rfl (by kernel_rfl) (listed' := #[true, true, true, false, true, false, false, false, false, true, false, false, false, false]) rfl (fun wq sq => ow_move rfl ⟨rfl, rfl⟩) ?_
      refine wi_take 10 rfl (by kernel_rfl) rfl (by kernel_rfl) (listed' := #[true, true, true, false, true, false, false, false, false, true, true, false, false, false]) rfl (fun wq sq => ow_move rfl ⟨rfl, rfl⟩) ?_
      refine wi_take 11 rfl (by kernel_rfl) rfl (by kernel_rfl) (listed' := #[true, true, true, false, true, false, false, false, false, true, true, true, false, false]) rfl (fun wq sq => ow_sliceSL Try.underlying9 rfl rfl (by omega) (by omega) ⟨rfl, rfl⟩) ?_
      refine wi_two 3 5 rfl rfl rfl rfl (by kernel_rfl) (listed' := #[true, true, true, true, true, false, false, false, false, true, true, true, false, false]) (listed'' := #[true, true, true, false, true, true, false, false, false, true, true, true, false, false]) rfl rfl trivial ?_ ?_
      · skip
        refine (ow_buildSlice el123 ti9 rfl rfl rfl rfl rfl ?_)
        intro g16 w18 eg16 oL bbg16 x17 zg16
        replace oL := Own.low oL X.size
        replace hs := hs.ext x17
        replace b9 := b9.ext x17
        replace X := gb_ext X x17; clear x17
        replace oL := oL.to (cs' := ST8.flatMap eS) rfl
        refine wi_one 5 rfl rfl (by kernel_rfl) (listed' := #[true, true, true, true, true, true, false, false, false, true, true, true, false, false]) rfl trivial (ow_call ent70 rfl (ret_mono (l01Next_c _ _ _ _ _ _ _ _ _ b9 hs hB ok hbl (by omega)) ?_))
        rintro _ w20 ⟨rr, a22, sd23, rfl, hr24, ok, b21, x19⟩
        replace hs := hs.grown x19 (by intro g hg; injection hg; omega)
        replace oL := oL.grownBlk x19 (Own.neT oL b9 (by decide))
        replace X : w.grownBy w20 (some gS) := by first | exact gb_trans X x19 | exact gb_new X x19 (by intro g hg; injection hg; omega)
        clear x19 b9
        obtain ⟨y, hy⟩ : ∃ y, ST8[rr.toNat]? = some y := ⟨_, List.getElem?_eq_getElem (by show rr.toNat < 8; omega)⟩
        have hy1 := st8_le y (List.mem_of_getElem? hy)
        refine wi_one 6 rfl rfl (by kernel_rfl) (listed' := #[true, true, true, true, true, true, true, false, false, true, true, true, false, false]) rfl trivial (ow_indexT (oL).sl eS_len rfl el123 rfl (show 8 = ST8.length from rfl) rfl hy (by omega) ?_)
        refine wi_one 7 rfl rfl (by kernel_rfl) (listed' := #[true, true, true, true, true, true, true, true, false, true, true, true, false, false]) rfl trivial (ow_loadT (oL).sl eS_len hy ti9 rfl rfl rfl ?_)
        refine wi_one 8 rfl rfl (by kernel_rfl) (listed' := #[true, true, true, true, true, true, true, true, true, true, true, true, false, false]) rfl trivial (ow_addS rfl rfl (by omega) ?_)
        refine wi_one 12 rfl rfl (by kernel_rfl) (listed' := #[true, true, true, true, true, true, true, true, true, true, true, true, true, false]) rfl trivial (ow_addS rfl rfl (by rw [ByteArray.size_append]; omega) ?_)
        refine wi_take 13 rfl (by kernel_rfl) rfl (by kernel_rfl) (listed' := #[true, true, true, true, true, true, true, true, true, true, true, true, true, true]) rfl (fun wq sq => ow_assign rfl ⟨rfl, rfl⟩) ?_
        refine wi_done rfl trivial (fun aj fj => ⟨_, fj, ?_⟩)
        refine c_ret ?_
        refine bq_r ?_
        refine tq_r ?_
        refine fin_ret1 rfl rfl ?_
        first
        | (exact ⟨_, _, _, rfl, by omega, ok, b21, X⟩)
        | (exact ⟨_, _, _, rfl, by rw [ByteArray.size_append, ByteArray.size_append]; omega, ok, b21, X⟩)
        | (exact ⟨_, _, _, rfl, by rw [ByteArray.size_append]; omega, ok, b21, X⟩)
      · skip
        refine (ow_call ent70 rfl (ret_mono (l01Next_c _ _ _ _ _ _ _ _ _ b9 hs hB ok hbl (by omega)) ?_))
        rintro _ w26 ⟨rr, a28, sd29, rfl, hr30, ok, b27, x25⟩
        replace hs := hs.grown x25 (by intro g hg; injection hg; omega)
        replace X : w.grownBy w26 (some gS) := by first | exact gb_trans X x25 | exact gb_new X x25 (by intro g hg; injection hg; omega)
        clear x25 b9
        refine wi_one 3 rfl rfl (by kernel_rfl) (listed' := #[true, true, true, true, true, true, false, false, false, true, true, true, false, false]) rfl trivial (ow_buildSlice el123 ti9 rfl rfl rfl rfl rfl ?_)
        intro g31 w33 eg31 oL bbg31 x32 zg31
        replace oL := Own.low oL X.size
        replace hs := hs.ext x32
        replace b27 := b27.ext x32
        replace X := gb_ext X x32; clear x32
        replace oL := oL.to (cs' := ST8.flatMap eS) rfl
        obtain ⟨y, hy⟩ : ∃ y, ST8[rr.toNat]? = some y := ⟨_, List.getElem?_eq_getElem (by show rr.toNat < 8; omega)⟩
        have hy1 := st8_le y (List.mem_of_getElem? hy)
        refine wi_one 6 rfl rfl (by kernel_rfl) (listed' := #[true, true, true, true, true, true, true, false, false, true, true, true, false, false]) rfl trivial (ow_indexT (oL).sl eS_len rfl el123 rfl (show 8 = ST8.length from rfl) rfl hy (by omega) ?_)
        refine wi_one 7 rfl rfl (by kernel_rfl) (listed' := #[true, true, true, true, true, true, true, true, false, true, true, true, false, false]) rfl trivial (ow_loadT (oL).sl eS_len hy ti9 rfl rfl rfl ?_)
        refine wi_one 8 rfl rfl (by kernel_rfl) (listed' := #[true, true, true, true, true, true, true, true, true, true, true, true, false, false]) rfl trivial (ow_addS rfl rfl (by omega) ?_)
        refine wi_one 12 rfl rfl (by kernel_rfl) (listed' := #[true, true, true, true, true, true, true, true, true, true, true, true, true, false]) rfl trivial (ow_addS rfl rfl (by rw [ByteArray.size_append]; omega) ?_)
        refine wi_take 13 rfl (by kernel_rfl) rfl (by kernel_rfl) (listed' := #[true, true, true, true, true, true, true, true, true, true, true, true, true, true]) rfl (fun wq sq => ow_assign rfl ⟨rfl, rfl⟩) ?_
        refine wi_done rfl trivial (fun aj fj => ⟨_, fj, ?_⟩)
        refine c_ret ?_
        refine bq_r ?_
        refine tq_r ?_
        refine fin_ret1 rfl rfl ?_
        first
        | (exact ⟨_, _, _, rfl, by omega, ok, b27, X⟩)
        | (exact ⟨_, _, _, rfl, by rw [ByteArray.size_append, ByteArray.size_append]; omega, ok, b27, X⟩)
        | (exact ⟨_, _, _, rfl, by rw [ByteArray.size_append]; omega, ok, b27, X⟩)
    · skip
      refine ops_cons rfl (ow_assign rfl ?_)
      refine ops_nil ?_
      refine c_false rfl ?_
      refine c_seqR ?_
      refine ops_cons rfl (ow_eql2 rfl rfl (fun h34 => ?_) (fun h34 => ?_))
      · skip
        refine ops_cons rfl (ow_assign rfl ?_)
        refine ops_nil ?_
        refine c_true rfl ?_
        refine c_seqR ?_
        refine ops_cons rfl (ow_move rfl ?_)
        refine ops_cons rfl (ow_move rfl ?_)
        refine ops_cons rfl (ow_lenS Try.underlying9 rfl ?_)
        refine ops_cons rfl (ow_lss2 rfl rfl (fun hlt => ?_) (fun hlt => ?_))
        · skip
          refine ops_nil ?_
          refine c_true rfl ?_
          refine c_seqD [false, false, false, false, false, false, false, false, false] mixed (by kernel_rfl) ?_
          refine f_q rfl (fun wq sq => ow_move rfl ⟨rfl, Ext.refl _⟩) ?_
          refine f_q rfl (fun wq sq => ow_move rfl ⟨rfl, Ext.refl _⟩) ?_
          refine f_q rfl (fun wq sq => ow_sliceSH Try.underlying9 rfl rfl (by omega) (by omega) ⟨rfl, Ext.refl _⟩) ?_
          refine f_q rfl (fun wq sq => ow_move rfl ⟨rfl, Ext.refl _⟩) ?_
          refine f_q rfl (fun wq sq => ow_move rfl ⟨rfl, Ext.refl _⟩) ?_
          refine f_q rfl (fun wq sq => ow_add rfl rfl (w64 (by omega)) ⟨rfl, Ext.refl _⟩) ?_
          refine f_q rfl (fun wq sq => ow_sliceSL Try.underlying9 rfl rfl (by omega) (by omega) ⟨rfl, Ext.refl _⟩) ?_
          refine f_q rfl (fun wq sq => ow_addS rfl rfl (by omega) ⟨rfl, Ext.refl _⟩) ?_
          refine f_q rfl (fun wq sq => ow_assign rfl ⟨rfl, Ext.refl _⟩) ?_
          refine f_nil (fun w35 sq => ?_)
          have xq := sq
          replace hs := hs.ext xq
          replace b9 := b9.ext xq
          replace X := gb_ext X xq; clear xq sq
          refine ops_nil ?_
          refine c_ret ?_
          refine bq_r ?_
          refine tq_r ?_
          refine fin_ret1 rfl rfl ?_
          first
          | (exact ⟨_, _, _, rfl, by omega, ok, b9, X⟩)
          | (exact ⟨_, _, _, rfl, by rw [ByteArray.size_append, ByteArray.size_append]; omega, ok, b9, X⟩)
          | (exact ⟨_, _, _, rfl, by rw [ByteArray.size_append]; omega, ok, b9, X⟩)
        · skip
          refine ops_nil ?_
          refine c_false rfl ?_
          refine c_skip ?_
          refine bq_n ?_
          refine tq_n ?_
          refine c_seqR ?_
          refine ops_cons rfl (ow_move rfl ?_)
          refine ops_cons rfl (ow_assign rfl ?_)
          refine ops_nil ?_
          refine c_ret ?_
          refine fin_ret1 rfl rfl ?_
          first
          | (exact ⟨_, _, _, rfl, by omega, ok, b9, X⟩)
          | (exact ⟨_, _, _, rfl, by rw [ByteArray.size_append, ByteArray.size_append]; omega, ok, b9, X⟩)
          | (exact ⟨_, _, _, rfl, by rw [ByteArray.size_append]; omega, ok, b9, X⟩)
      · skip
        refine ops_cons rfl (ow_assign rfl ?_)
        refine ops_nil ?_
        refine c_false rfl ?_
        refine c_skip ?_
        refine bq_n ?_
        refine tq_n ?_
        refine c_seqR ?_
        refine ops_cons rfl (ow_move rfl ?_)
        refine ops_cons rfl (ow_assign rfl ?_)
        refine ops_nil ?_
        refine c_ret ?_
        refine fin_ret1 rfl rfl ?_
        first
        | (exact ⟨_, _, _, rfl, by omega, ok, b9, X⟩)
        | (exact ⟨_, _, _, rfl, by rw [ByteArray.size_append, ByteArray.size_append]; omega, ok, b9, X⟩)
        | (exact ⟨_, _, _, rfl, by rw [ByteArray.size_append]; omega, ok, b9, X⟩)

theorem drawIT_c (A : Option Addr) (B c : Nat) (bs : List UInt8) (w : World) (hs : Sl B w A (bs.flatMap eB)) (hbl : bs.length ≤ 1048576) :
    Calls Try.prog 15 #[.slice A bs.length c] w (Ret fun v w' => ∃ A' c' xs, v = .slice A' (List.length xs) c' ∧ xs.length ≤ 1100 ∧ Own w' w.heap.size 2 1 A' xs.length c' (xs.flatMap eI) ∧ Ext w w') := by
  have Bhs := hs.1
  have X := Ext.refl w
  refine calls_of (args := [.slice A bs.length c]) Try.func15 Try.ntmps15 rfl rfl ?_
  refine c_seqR ?_
  refine ops_cons rfl (ow_assign rfl ?_)
  refine ops_nil ?_
  refine c_seqR ?_
  refine ops_cons rfl (ow_move rfl ?_)
  refine ops_cons rfl (ow_call ent67 rfl (ret_mono (l01From_c _ _ _ _ _ hs hbl) ?_))
  rintro _ w2 ⟨gS, a6, sd7, rfl, lgS0, ok, o3, x1⟩
  have lgS : w.heap.size ≤ gS := Nat.le_trans X.size lgS0
  replace hs := hs.ext x1
  replace X := Ext.trans X x1; clear x1
  have hB : B ≤ gS := by omega
  have LoT := X.size
  refine ops_cons rfl (ow_call ent66 rfl (ret_mono (l01DrawBytes_c _ _ _ _ _ _ _ _ _ o3 hs hB ok hbl (by omega)) ?_))
  rintro _ w9 ⟨A_11, c_12, ys, a13, sd14, rfl, hyl, oT, ok, b10, x8⟩
  replace hs := hs.grown x8 (by intro g hg; injection hg; omega)
  replace X := X.grown x8 X.size (by intro g hg; injection hg; omega)
  clear x8 o3
  replace oT := Own.low oT LoT
  refine ops_cons rfl (ow_assign rfl ?_)
  refine ops_nil ?_
  refine c_ret ?_
  refine fin_ret1 rfl rfl ?_
  exact ⟨_, _, ys, rfl, hyl, oT, X⟩

theorem drawRIT_c (A : Option Addr) (B c : Nat) (bs : List UInt8) (w : World) (hs : Sl B w A (bs.flatMap eB)) (hbl : bs.length ≤ 1048576) :
    Calls Try.prog 18 #[.slice A bs.length c] w (Ret fun v w' => ∃ u, v = .string u ∧ u.size ≤ 2049 ∧ Ext w w') := by
  have Bhs := hs.1
  have X := Ext.refl w
  refine calls_of (args := [.slice A bs.length c]) Try.func18 Try.ntmps18 rfl rfl ?_
  refine c_seqR ?_
  refine ops_cons rfl (ow_assign rfl ?_)
  refine ops_nil ?_
  refine c_seqR ?_
  refine ops_cons rfl (ow_move rfl ?_)
  refine ops_cons rfl (ow_call ent67 rfl (ret_mono (l01From_c _ _ _ _ _ hs hbl) ?_))
  rintro _ w2 ⟨gS, a6, sd7, rfl, lgS0, ok, o3, x1⟩
  have lgS : w.heap.size ≤ gS := Nat.le_trans X.size lgS0
  replace hs := hs.ext x1
  replace X := Ext.trans X x1; clear x1
  refine ops_cons rfl (ow_assign rfl ?_)
  refine ops_nil ?_
  refine c_seqR ?_
  have hB : B ≤ gS := by omega
  refine ops_cons rfl (ow_move rfl ?_)
  have LoD := X.size
  refine ops_cons rfl (ow_call ent66 rfl (ret_mono (l01DrawBytes_c _ _ _ _ _ _ _ _ _ o3 hs hB ok hbl (by omega)) ?_))
  rintro _ w9 ⟨A_11, c_12, ds, a13, sd14, rfl, hdl, oD, ok, b10, x8⟩
  replace hs := hs.grown x8 (by intro g hg; injection hg; omega)
  replace X := X.grown x8 X.size (by intro g hg; injection hg; omega)
  clear x8 o3
  replace oD := Own.low oD LoD
  have hdl2 : ds.length ≤ 1048576 := by omega
  refine ops_cons rfl (ow_call ent20 rfl (ret_mono (sImageT_c _ _ _ ds _ oD.sl hdl2) ?_))
  rintro _ w17 ⟨rfl, x16⟩
  replace hs := hs.ext x16
  replace b10 := b10.ext x16
  replace oD := oD.ext x16
  replace X := Ext.trans X x16; clear x16
  have hus := img_size ds
  unfold img at hus
  generalize (if isB ds = true then strOf (hexB ds) else ByteArray.empty) = u0 at *
  refine ops_cons rfl (ow_assign rfl ?_)
  refine ops_nil ?_
  refine c_seq ?_
  refine c_seqR ?_
  refine ops_cons rfl (ow_move rfl ?_)
  refine ops_cons rfl (ow_call ent70 rfl (ret_mono (l01Next_c _ _ _ _ _ _ _ _ _ b10 hs hB ok hbl (by omega)) ?_))
  rintro _ w19 ⟨r3, a21, sd22, rfl, hr23, ok, b20, x18⟩
  replace hs := hs.grown x18 (by intro g hg; injection hg; omega)
  replace X := X.grown x18 X.size (by intro g hg; injection hg; omega)
  clear x18 b10
  refine ops_cons rfl (ow_eql2 rfl rfl (fun h24 => ?_) (fun h24 => ?_))
  · skip
    refine ops_nil ?_
    refine c_true rfl ?_
    refine c_seqR ?_
    refine ops_cons rfl (ow_move rfl ?_)
    refine ops_cons rfl (ow_move rfl ?_)
    refine ops_cons rfl (ow_call ent71 rfl (ret_mono (damage_c _ _ _ _ _ _ _ _ _ b20 hs hB ok hbl (by omega)) ?_))
    rintro _ w26 ⟨u1, a28, sd29, rfl, hu1, ok, b27, x25⟩
    replace hs := hs.grown x25 (by intro g hg; injection hg; omega)
    replace X := X.grown x25 X.size (by intro g hg; injection hg; omega)
    clear x25 b20
    refine ops_cons rfl (ow_assign rfl ?_)
    refine ops_nil ?_
    refine c_ret ?_
    refine tq_r ?_
    refine fin_ret1 rfl rfl ?_
    first
    | exact ⟨u1, rfl, by omega, X⟩
    | exact ⟨u0, rfl, by omega, X⟩
  · skip
    refine ops_nil ?_
    refine c_false rfl ?_
    refine c_skip ?_
    refine tq_n ?_
    refine c_seqR ?_
    refine ops_cons rfl (ow_move rfl ?_)
    refine ops_cons rfl (ow_assign rfl ?_)
    refine ops_nil ?_
    refine c_ret ?_
    refine fin_ret1 rfl rfl ?_
    first
    | exact ⟨u1, rfl, by omega, X⟩
    | exact ⟨u0, rfl, by omega, X⟩
end Go.Proofs.Ytimabffnoanciaa
