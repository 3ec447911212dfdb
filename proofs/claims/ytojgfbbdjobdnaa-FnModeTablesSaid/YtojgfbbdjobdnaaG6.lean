/- Bytes of mode tables that are drawn. No condition. -/
import Derived.Test.YtojgfbbdjobdnaaG4
import Derived.Test.YtojgfbbdjobdnaaG5
import Derived.Test.YtojgfbbdjobdnaaB3
namespace Go.Proofs.Ytojgfbbdjobdnaa
open Go.RowKit
set_option linter.unusedVariables false
set_option linter.unusedSimpArgs false
set_option maxRecDepth 20000
theorem mtP_small {ys : List ModeI} (hl : ys.length ≤ 4) (h : ∀ x ∈ ys, x.m.next.length ≤ 4) : 1 ≤ (mtP (ys.map (·.m)) ys.length).length ∧ (mtP (ys.map (·.m)) ys.length).length ≤ 100 := by
  have h1 := flat_le (f := modeB) (b := 7) (ys.map (·.m)) (fun x hx => by
    obtain ⟨y, hy, rfl⟩ := List.mem_map.1 hx
    have := h y hy
    simp [modeB]; omega)
  unfold mtP
  rw [List.take_of_length_le (by rw [List.length_map]; omega), List.length_cons]
  rw [List.length_map] at h1
  omega
theorem drawRMT_c (A : Option Addr) (B c : Nat) (bs : List UInt8) (w : World) (hs : Sl B w A (bs.flatMap eB)) (hbl : bs.length ≤ 1048576) :
    Calls Try.prog 11 #[.slice A bs.length c] w (Ret fun v w' => ∃ A' c' xs, v = .slice A' (List.length xs) c' ∧ xs.length ≤ 2000 ∧ Own w' w.heap.size 2 1 A' xs.length c' (xs.flatMap eI) ∧ Ext w w') := by
  have Bhs := hs.1
  have X := Ext.refl w
  refine calls_of (args := [.slice A bs.length c]) Try.func11 Try.ntmps11 rfl rfl ?_
  refine c_seqR ?_
  refine ops_cons rfl (ow_assign rfl ?_)
  refine ops_nil ?_
  refine c_seqR ?_
  refine ops_cons rfl (ow_move rfl ?_)
  refine ops_cons rfl (ow_call ent40 rfl (ret_mono (l01From_c _ _ _ _ _ hs hbl) ?_))
  rintro _ w2 ⟨gS, a6, sd7, rfl, lgS0, ok, o3, x1⟩
  have lgS : w.heap.size ≤ gS := Nat.le_trans X.size lgS0
  replace hs := hs.ext x1
  replace X := Ext.trans X x1; clear x1
  refine ops_cons rfl (ow_assign rfl ?_)
  refine ops_nil ?_
  refine c_seqR ?_
  have hB : B ≤ gS := by omega
  refine ops_cons rfl (ow_move rfl ?_)
  have LoT := X.size
  refine ops_cons rfl (ow_call ent43 rfl (ret_mono (l11Draw_c _ _ _ _ _ _ _ _ o3 hs hB ok hbl) ?_))
  rintro _ w9 ⟨A_11, c_12, ys, a13, sd14, rfl, hyl, hd, oT, oTn, ok, b10, x8⟩
  replace hs := hs.grown x8 (by intro g hg; injection hg; omega)
  replace X := X.grown x8 X.size (by intro g hg; injection hg; omega)
  clear x8 o3
  replace oT := Own.low oT LoT
  replace oTn := NOwn.low oTn LoT
  have hyl0 := hyl.1
  refine ops_cons rfl (ow_call ent42 rfl (ret_mono (l11Bytes_c _ _ _ _ ys _ oT.sl oTn.nexts (by omega) (fun x hx => by have := (hyl.2 x hx).2.2.1; omega)) ?_))
  rintro _ w16 ⟨A17, c18, rfl, oB, x15⟩
  replace oB := Own.low oB X.size
  replace hs := hs.ext x15
  replace b10 := b10.ext x15
  replace oT := oT.ext x15
  replace oTn := oTn.ext x15
  replace X := Ext.trans X x15; clear x15
  have hul := mtP_small hyl.1.2 (fun x hx => (hyl.2 x hx).2.2.1)
  generalize mtP (ys.map (·.m)) ys.length = us at *
  refine ops_cons rfl (ow_move rfl ?_)
  have LoD := X.size
  refine ops_cons rfl (ow_call ent44 rfl (ret_mono (l01DrawBytes_c _ _ _ _ _ _ _ _ _ b10 hs hB ok hbl (by omega)) ?_))
  rintro _ w20 ⟨A_22, c_23, ds, a24, sd25, rfl, hdl, oD, ok, b21, x19⟩
  replace hs := hs.grown x19 (by intro g hg; injection hg; omega)
  replace oB := oB.grownBlk x19 (Own.neT oB b10 (by decide))
  replace X := X.grown x19 X.size (by intro g hg; injection hg; omega)
  clear x19 b10
  replace oD := Own.low oD LoD
  refine ops_cons rfl (ow_append (ts := #[]) oB X.size oD.sl (by rw [flat_len eI_len ds]) (one_ints ds) el26 ti2 rfl rfl rfl rfl (by omega) (by omega) ?_)
  intro AoE coE w28 oE hg27
  replace hs := hs.grown hg27 (fun g hg => Nat.le_trans Bhs (Own.lt oB hg).1)
  replace b21 := b21.grown hg27 (fun h => Own.neT oB b21 (by decide) h.symm)
  replace X := X.grown hg27 X.size (fun g hg => (Own.lt oB hg).1)
  clear hg27
  obtain ⟨zs, hzl, oE⟩ : ∃ zs : List Int, zs.length = us.length + ds.length ∧ Own _ _ _ _ _ _ _ (zs.flatMap eI) := ⟨us ++ ds, by rw [List.length_append], oE.to (by rw [List.flatMap_append])⟩
  refine ops_cons rfl (ow_assign rfl ?_)
  refine ops_nil ?_
  refine c_seq ?_
  refine c_seqR ?_
  refine ops_cons rfl (ow_move rfl ?_)
  refine ops_cons rfl (ow_call ent45 rfl (ret_mono (l01Next_c _ _ _ _ _ _ _ _ _ b21 hs hB ok hbl (by omega)) ?_))
  rintro _ w30 ⟨r8, a32, sd33, rfl, hr34, ok, b31, x29⟩
  replace hs := hs.grown x29 (by intro g hg; injection hg; omega)
  replace oE := oE.grownBlk x29 (Own.neT oE b21 (by decide))
  replace X := X.grown x29 X.size (by intro g hg; injection hg; omega)
  clear x29 b21
  refine ops_nil ?_
  refine c_block ?_
  refine c_seqR ?_
  refine ops_cons rfl (ow_eql2 rfl rfl (fun h35 => ?_) (fun h35 => ?_))
  · skip
    refine ops_cons rfl (ow_assign rfl ?_)
    refine ops_nil ?_
    refine c_true rfl ?_
    refine c_region ?_
    refine ops_cons rfl (ow_move rfl ?_)
    refine ops_cons rfl (ow_move rfl ?_)
    refine ops_cons rfl (ow_move rfl ?_)
    refine ops_cons rfl (ow_len Try.underlying26 rfl ?_)
    refine ops_cons rfl (ow_call ent45 rfl (ret_mono (l01Next_c _ _ _ _ _ _ _ _ _ b31 hs hB ok hbl (by omega)) ?_))
    rintro _ w37 ⟨rk, a39, sd40, rfl, hr41, ok, b38, x36⟩
    replace hs := hs.grown x36 (by intro g hg; injection hg; omega)
    replace oE := oE.grownBlk x36 (Own.neT oE b31 (by decide))
    replace X := X.grown x36 X.size (by intro g hg; injection hg; omega)
    clear x36 b31
    refine ops_cons rfl (ow_move rfl ?_)
    refine ops_cons rfl (ow_call ent45 rfl (ret_mono (l01Next_c _ _ _ _ _ _ _ _ _ b38 hs hB ok hbl (by omega)) ?_))
    rintro _ w43 ⟨rv, a45, sd46, rfl, hr47, ok, b44, x42⟩
    replace hs := hs.grown x42 (by intro g hg; injection hg; omega)
    replace oE := oE.grownBlk x42 (Own.neT oE b38 (by decide))
    replace X := X.grown x42 X.size (by intro g hg; injection hg; omega)
    clear x42 b38
    obtain ⟨x, hx⟩ : ∃ x, zs[rk.toNat]? = some x := ⟨_, List.getElem?_eq_getElem (by omega)⟩
    refine ops_cons rfl (ow_indexT (oE).sl eI_len rfl el26 rfl hzl.symm rfl hx (by omega) ?_)
    refine ops_cons rfl (ow_storeR oE ti2 rfl rfl rfl rfl (by omega) (by omega) rfl ?_)
    intro w49 oF hg48 z50
    replace hs := hs.grown hg48 (fun g hg => Nat.le_trans Bhs (Own.lt oE hg).1)
    replace b44 := b44.grown hg48 (fun h => Own.neT oE b44 (by decide) h.symm)
    replace X := X.grown hg48 X.size (fun g hg => (Own.lt oE hg).1)
    clear hg48 z50
    replace oF := oF.to (cs' := (zs.set rk.toNat rv).flatMap eI) (set_field (x := x) (x' := rv) (vs := [.int .i64 rv]) eI_len (s' := 1) (f := 0) rfl (by omega) zs rk.toNat hx)
    refine ops_nil ?_
    refine bq_n ?_
    refine tq_n ?_
    refine c_seqR ?_
    refine ops_cons rfl (ow_move rfl ?_)
    refine ops_cons rfl (ow_assign rfl ?_)
    refine ops_nil ?_
    refine c_ret ?_
    refine fin_ret1 rfl rfl ?_
    first
    | (have e : (zs.take rk.toNat).length = rk.toNat := by rw [List.length_take]; omega
       refine ⟨_, _, zs.take rk.toNat, by rw [e], by omega, by rw [e]; exact oG.to (by rw [flat_take eI_len]), X⟩)
    | (have e : (zs.set rk.toNat rv).length = us.length + ds.length := by rw [List.length_set, hzl]
       exact ⟨_, _, zs.set rk.toNat rv, by rw [e], by omega, by rw [e]; exact oF, X⟩)
    | (exact ⟨_, _, zs, by rw [hzl], by omega, by rw [hzl]; exact oE, X⟩)
  · skip
    refine ops_cons rfl (ow_assign rfl ?_)
    refine ops_nil ?_
    refine c_false rfl ?_
    refine c_seqR ?_
    refine ops_cons rfl (ow_eql2 rfl rfl (fun h51 => ?_) (fun h51 => ?_))
    · skip
      refine ops_cons rfl (ow_assign rfl ?_)
      refine ops_nil ?_
      refine c_true rfl ?_
      refine c_seqR ?_
      refine ops_cons rfl (ow_move rfl ?_)
      refine ops_cons rfl (ow_move rfl ?_)
      refine ops_cons rfl (ow_move rfl ?_)
      refine ops_cons rfl (ow_len Try.underlying26 rfl ?_)
      refine ops_cons rfl (ow_call ent45 rfl (ret_mono (l01Next_c _ _ _ _ _ _ _ _ _ b31 hs hB ok hbl (by omega)) ?_))
      rintro _ w53 ⟨rk, a55, sd56, rfl, hr57, ok, b54, x52⟩
      replace hs := hs.grown x52 (by intro g hg; injection hg; omega)
      replace oE := oE.grownBlk x52 (Own.neT oE b31 (by decide))
      replace X := X.grown x52 X.size (by intro g hg; injection hg; omega)
      clear x52 b31
      refine ops_cons rfl (ow_sliceHO el26 rfl rfl (show _ = ((rk.toNat : Nat) : Int) by omega) (Nat.le_trans (by omega) (Own.cap oE)) ?_)
      have oG := Own.pre oE (show rk.toNat ≤ us.length + ds.length by omega)
      refine ops_cons rfl (ow_assign rfl ?_)
      refine ops_nil ?_
      refine c_ret ?_
      refine bq_r ?_
      refine tq_r ?_
      refine fin_ret1 rfl rfl ?_
      first
      | (have e : (zs.take rk.toNat).length = rk.toNat := by rw [List.length_take]; omega
         refine ⟨_, _, zs.take rk.toNat, by rw [e], by omega, by rw [e]; exact oG.to (by rw [flat_take eI_len]), X⟩)
      | (have e : (zs.set rk.toNat rv).length = us.length + ds.length := by rw [List.length_set, hzl]
         exact ⟨_, _, zs.set rk.toNat rv, by rw [e], by omega, by rw [e]; exact oF, X⟩)
      | (exact ⟨_, _, zs, by rw [hzl], by omega, by rw [hzl]; exact oE, X⟩)
    · skip
      refine ops_cons rfl (ow_assign rfl ?_)
      refine ops_nil ?_
      refine c_false rfl ?_
      refine c_skip ?_
      refine bq_n ?_
      refine tq_n ?_
      refine c_seqR ?_
      refine ops_cons rfl (ow_move rfl ?_)
      refine ops_cons rfl (ow_assign rfl ?_)
      refine ops_nil ?_
      refine c_ret ?_
      refine fin_ret1 rfl rfl ?_
      first
      | (have e : (zs.take rk.toNat).length = rk.toNat := by rw [List.length_take]; omega
         refine ⟨_, _, zs.take rk.toNat, by rw [e], by omega, by rw [e]; exact oG.to (by rw [flat_take eI_len]), X⟩)
      | (have e : (zs.set rk.toNat rv).length = us.length + ds.length := by rw [List.length_set, hzl]
         exact ⟨_, _, zs.set rk.toNat rv, by rw [e], by omega, by rw [e]; exact oF, X⟩)
      | (exact ⟨_, _, zs, by rw [hzl], by omega, by rw [hzl]; exact oE, X⟩)
end Go.Proofs.Ytojgfbbdjobdnaa
