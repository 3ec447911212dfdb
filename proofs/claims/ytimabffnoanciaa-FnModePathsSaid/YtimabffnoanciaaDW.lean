/- Distances between modes. No condition. -/
import Derived.Test.YtimabffnoanciaaDF
import Derived.Test.YtimabffnoanciaaRP
namespace Go.Proofs.Ytimabffnoanciaa
open Go.RowKit
set_option linter.unusedVariables false
set_option linter.unusedSimpArgs false
set_option maxRecDepth 20000
theorem l11Dist_c (A : Option Addr) (B B2 c : Nat) (xs : List ModeI) (to : Int) (w : World) (hs : Sl B w A (xs.flatMap ModeI.cells)) (hn : Nexts B2 w xs) (hl : xs.length ≤ 1048576) (hz : ∀ x ∈ xs, x.m.next.length ≤ 1048576) (hT : isMT (xs.map (·.m)) = true) (ht : 0 ≤ to ∧ to < xs.length) :
    Calls Try.prog 91 #[.slice A xs.length c, .int .i64 to] w (Ret fun v w' => ∃ A' c', v = .slice A' (dst (xs.map (·.m)) to.toNat).length c' ∧ Own w' w.heap.size 2 1 A' (dst (xs.map (·.m)) to.toNat).length c' ((dst (xs.map (·.m)) to.toNat).flatMap eI) ∧ Ext w w') := by
  have htm : to.toNat < (xs.map (·.m)).length := by rw [List.length_map]; omega
  have elm : (xs.map (·.m)).length = xs.length := List.length_map ..
  have hl6 := isMT_len hT
  rw [elm] at hl6
  have e0 : dst (xs.map (·.m)) to.toNat = itS (xs.map (·.m)) xs.length 0 (dst0 xs.length to.toNat) := by rw [← elm]; rfl
  have h00 : (dst0 xs.length to.toNat).length = xs.length := by simp [dst0]
  have Bhs := hs.1
  have Bhn := hn.1
  have X := Ext.refl w
  refine calls_of (args := [.slice A xs.length c, .int .i64 to]) Try.func91 Try.ntmps91 rfl rfl ?_
  refine c_seqR ?_
  refine ops_cons rfl (ow_assign rfl ?_)
  refine ops_nil ?_
  refine c_seqR ?_
  refine ops_cons rfl (ow_buildSlice el24 ti2 rfl rfl rfl rfl rfl ?_)
  intro gO w2 egO oO bbgO x1 zgO
  replace oO := Own.low oO X.size
  replace hs := hs.ext x1
  replace hn := hn.ext x1
  replace X := Ext.trans X x1; clear x1
  refine ops_cons rfl (ow_assign rfl ?_)
  refine ops_nil ?_
  refine c_seq ?_
  refine c_seqR ?_
  refine ops_cons rfl (ow_assign rfl ?_)
  refine ops_nil ?_
  refine c_block ?_
  refine c_loop (G := Nat × Nat × Option Addr × Nat) (fun ⟨k, n1, A1, c1⟩ => [(0, .slice A xs.length c), (1, .int .i64 to), (4, .slice none 0 0), (5, .slice A1 n1 c1), (6, .int .i64 (k : Nat))]) (fun ⟨k, n1, A1, c1⟩ wr => k ≤ xs.length ∧ n1 = k ∧ Own wr w.heap.size 2 1 A1 n1 c1 ((List.replicate k (-1 : Int)).flatMap eI) ∧ Sl B wr A (xs.flatMap ModeI.cells) ∧ Nexts B2 wr xs ∧ Ext w wr) (fun ⟨k, n1, A1, c1⟩ => xs.length - k) (0, 0, some ⟨gO, 0, none⟩, 0) (.cons rfl (.cons rfl (.cons rfl (.cons rfl (.cons rfl (.nil _)))))) ?_ ?_
  · exact ⟨by omega, rfl, oO, hs, hn, X⟩
  clear hs hn oO
  clear X
  rintro ⟨k, n1, A1, c1⟩ wr ⟨hk0, hn1, oO, hs, hn, X⟩
  refine c_seq ?_
  refine c_seqR ?_
  refine ops_cons rfl (ow_move rfl ?_)
  refine ops_cons rfl (ow_move rfl ?_)
  refine ops_cons rfl (ow_len Try.underlying60 rfl ?_)
  refine ops_cons rfl (ow_lss2 rfl rfl (fun hk => ?_) (fun hk => ?_))
  · skip
    refine ops_nil ?_
    refine c_true rfl ?_
    refine c_skip ?_
    refine tq_n ?_
    refine c_seq ?_
    refine c_block ?_
    refine c_region ?_
    refine ops_cons rfl (ow_move rfl ?_)
    refine ops_cons rfl (ow_buildSlice el24 ti2 rfl rfl rfl rfl rfl ?_)
    intro g3 w5 eg3 oV bbg3 x4 zg3
    replace oV := Own.low oV X.size
    replace oO := oO.ext x4
    replace hs := hs.ext x4
    replace hn := hn.ext x4
    replace X := Ext.trans X x4; clear x4
    replace oV := oV.to (cs' := ([-1] : List Int).flatMap eI) rfl
    refine ops_cons rfl (ow_append (ts := #[]) oO X.size oV.sl (by first | rfl | simp) (by first | exact List.all_eq_true.1 rfl | simp [Value.oneCell']) el24 ti2 rfl rfl rfl rfl (by omega) (by omega) ?_)
    intro AoN coN w7 oN hg6
    replace hs := hs.grown hg6 (fun g hg => Nat.le_trans Bhs (Own.lt oO hg).1)
    replace hn := hn.grown hg6 (fun g hg => Nat.le_trans Bhn (Own.lt oO hg).1)
    replace X := X.grown hg6 X.size (fun g hg => (Own.lt oO hg).1)
    clear hg6
    refine ops_cons rfl (ow_assign rfl ?_)
    refine ops_nil ?_
    refine bq_n ?_
    refine tq_n ?_
    refine c_region ?_
    refine ops_cons rfl (ow_move rfl ?_)
    refine ops_cons rfl (ow_add rfl rfl (w64 (by omega)) ?_)
    refine ops_cons rfl (ow_assign rfl ?_)
    refine ops_nil ?_
    refine tq_n ⟨(k + 1, n1 + 1, AoN, coN), (.cons rfl (.cons rfl (.cons rfl (.cons rfl (.cons rfl (.nil _)))))), ?_, ?_⟩
    · exact ⟨by omega, (by omega), oN.to (rep_snoc2 k _).symm, hs, hn, X⟩
    · first | omega | (dsimp only; omega)
  · skip
    obtain rfl : k = xs.length := by omega
    subst hn1
    refine ops_nil ?_
    refine c_false rfl ?_
    refine c_exit ?_
    refine tq_e ?_
    refine tq_e ?_
    refine bq_e ?_
    refine tq_n ?_
    refine c_seqR ?_
    refine ops_cons rfl (ow_move rfl ?_)
    refine ops_cons rfl (ow_move rfl ?_)
    obtain ⟨v, hv⟩ : ∃ v, (List.replicate xs.length (-1 : Int))[to.toNat]? = some v := ⟨_, List.getElem?_eq_getElem (by rw [List.length_replicate]; omega)⟩
    refine ops_cons rfl (ow_indexT (oO).sl eI_len rfl el24 rfl (by rw [List.length_replicate]) rfl hv (by omega) ?_)
    refine ops_cons rfl (ow_storeR oO ti2 rfl rfl rfl rfl (by omega) (by omega) rfl ?_)
    intro w9 oP hg8 z10
    replace hs := hs.grown hg8 (fun g hg => Nat.le_trans Bhs (Own.lt oO hg).1)
    replace hn := hn.grown hg8 (fun g hg => Nat.le_trans Bhn (Own.lt oO hg).1)
    replace X := X.grown hg8 X.size (fun g hg => (Own.lt oO hg).1)
    clear hg8 z10
    replace oP := oP.to (cs' := ((List.replicate xs.length (-1 : Int)).set to.toNat ((0 : Int))).flatMap eI) (set_field (x := v) (x' := (0 : Int)) (vs := [.int .i64 ((0 : Int))]) eI_len (s' := 1) (f := 0) rfl (by omega) (List.replicate xs.length (-1 : Int)) to.toNat hv)
    replace oP := oP.to (cs' := (dst0 xs.length to.toNat).flatMap eI) rfl
    refine ops_nil ?_
    refine c_seq ?_
    refine c_seqR ?_
    refine ops_cons rfl (ow_assign rfl ?_)
    refine ops_nil ?_
    refine c_block ?_
    refine c_loop (G := Nat × List Int) (fun ⟨d, out⟩ => [(0, .slice A xs.length c), (4, .slice none 0 0), (5, .slice A1 xs.length c1), (7, .int .i64 (d : Nat))]) (fun ⟨d, out⟩ wr => d ≤ xs.length ∧ dst (xs.map (·.m)) to.toNat = itS (xs.map (·.m)) (xs.length - d) d out ∧ out.length = xs.length ∧ Own wr w.heap.size 2 1 A1 xs.length c1 (out.flatMap eI) ∧ Sl B wr A (xs.flatMap ModeI.cells) ∧ Nexts B2 wr xs ∧ Ext w wr) (fun ⟨d, out⟩ => xs.length - d) (0, dst0 xs.length to.toNat) (.cons rfl (.cons rfl (.cons rfl (.cons rfl (.nil _))))) ?_ ?_
    · exact ⟨by omega, e0, h00, oP, hs, hn, X⟩
    clear hs hn oP
    clear X
    rintro ⟨d, out⟩ wr ⟨hd0, hdst, hlo, oO, hs, hn, X⟩
    refine c_seq ?_
    refine c_seqR ?_
    refine ops_cons rfl (ow_move rfl ?_)
    refine ops_cons rfl (ow_move rfl ?_)
    refine ops_cons rfl (ow_len Try.underlying60 rfl ?_)
    refine ops_cons rfl (ow_lss2 rfl rfl (fun hd => ?_) (fun hd => ?_))
    · skip
      refine ops_nil ?_
      refine c_true rfl ?_
      refine c_skip ?_
      refine tq_n ?_
      refine c_seq ?_
      refine c_block ?_
      refine c_seqR ?_
      refine ops_cons rfl (ow_assign rfl ?_)
      refine ops_nil ?_
      refine c_block ?_
      refine c_loop (G := Nat × List Int) (fun ⟨i, out2⟩ => [(0, .slice A xs.length c), (4, .slice none 0 0), (5, .slice A1 xs.length c1), (7, .int .i64 (d : Nat)), (23, .int .i64 (d : Nat)), (24, .slice A xs.length c), (25, .int .i64 (xs.length : Nat)), (8, .int .i64 (i : Nat))]) (fun ⟨i, out2⟩ wr => i ≤ xs.length ∧ swp (xs.map (·.m)) d (xs.length - i) i out2 = swp (xs.map (·.m)) d xs.length 0 out ∧ out2.length = xs.length ∧ Own wr w.heap.size 2 1 A1 xs.length c1 (out2.flatMap eI) ∧ Sl B wr A (xs.flatMap ModeI.cells) ∧ Nexts B2 wr xs ∧ Ext w wr) (fun ⟨i, out2⟩ => xs.length - i) (0, out) (.cons rfl (.cons rfl (.cons rfl (.cons rfl (.cons rfl (.cons rfl (.cons rfl (.cons rfl (.nil _))))))))) ?_ ?_
      · exact ⟨by omega, rfl, hlo, oO, hs, hn, X⟩
      clear oO hs hn
      clear X
      rintro ⟨i, out2⟩ wr ⟨hi0, hsw, hl2, oO, hs, hn, X⟩
      refine c_seq ?_
      refine c_seqR ?_
      refine ops_cons rfl (ow_move rfl ?_)
      refine ops_cons rfl (ow_move rfl ?_)
      refine ops_cons rfl (ow_len Try.underlying60 rfl ?_)
      refine ops_cons rfl (ow_lss2 rfl rfl (fun hi => ?_) (fun hi => ?_))
      · skip
        obtain ⟨x, hx⟩ : ∃ x, xs[i]? = some x := ⟨_, List.getElem?_eq_getElem (by omega)⟩
        have hmx := map_at (f := (·.m)) hx
        have hnx := hn.at_ hx
        have hlx := hz x (List.mem_of_getElem? hx)
        have hnI := nextAt_in hT hmx
        rw [elm] at hnI
        refine ops_nil ?_
        refine c_true rfl ?_
        refine c_skip ?_
        refine tq_n ?_
        refine c_seq ?_
        refine c_block ?_
        refine c_seqR ?_
        refine ops_cons rfl (ow_assign rfl ?_)
        refine ops_nil ?_
        refine c_block ?_
        refine c_loop (G := Nat × List Int) (fun ⟨k, out3⟩ => [(0, .slice A xs.length c), (4, .slice none 0 0), (5, .slice A1 xs.length c1), (7, .int .i64 (d : Nat)), (8, .int .i64 (i : Nat)), (23, .int .i64 (d : Nat)), (24, .slice A xs.length c), (25, .int .i64 (xs.length : Nat)), (29, .int .i64 (i : Nat)), (30, .slice A xs.length c), (31, .int .i64 (xs.length : Nat)), (9, .int .i64 (k : Nat))]) (fun ⟨k, out3⟩ wr => k ≤ x.m.next.length ∧ stpL (x.m.next.drop k) d i out3 = stpL x.m.next d i out2 ∧ out3.length = xs.length ∧ Own wr w.heap.size 2 1 A1 xs.length c1 (out3.flatMap eI) ∧ Sl B wr A (xs.flatMap ModeI.cells) ∧ Nexts B2 wr xs ∧ Sl B2 wr x.A (x.m.next.flatMap eI) ∧ Ext w wr) (fun ⟨k, out3⟩ => x.m.next.length - k) (0, out2) (.cons rfl (.cons rfl (.cons rfl (.cons rfl (.cons rfl (.cons rfl (.cons rfl (.cons rfl (.cons rfl (.cons rfl (.cons rfl (.cons rfl (.nil _))))))))))))) ?_ ?_
        · exact ⟨by omega, rfl, hl2, oO, hs, hn, hnx, X⟩
        clear oO hs hn hnx
        clear X
        rintro ⟨k, out3⟩ wr ⟨hk0, hst, hl3, oO, hs, hn, hnx, X⟩
        refine c_seq ?_
        refine c_seqR ?_
        refine ops_cons rfl (ow_move rfl ?_)
        refine ops_cons rfl (ow_move rfl ?_)
        refine ops_cons rfl (ow_move rfl ?_)
        refine ops_cons rfl (ow_indexT hs ModeI.len rfl el60 rfl rfl rfl hx rfl ?_)
        refine ops_cons rfl (ow_fieldAddr off114_2 rfl ?_)
        refine ops_cons rfl (ow_loadTF hs ModeI.len hx ti24 rfl rfl rfl ?_)
        refine ops_cons rfl (ow_len Try.underlying24 rfl ?_)
        refine ops_cons rfl (ow_lss2 rfl rfl (fun hk => ?_) (fun hk => ?_))
        · skip
          obtain ⟨z, hzk, dz⟩ := drop_at' hk
          have hzI := hnI z (List.mem_of_getElem? hzk)
          obtain ⟨v, hv⟩ : ∃ v, (out3)[i]? = some v := ⟨_, List.getElem?_eq_getElem (by omega)⟩
          refine ops_cons rfl (ow_move rfl ?_)
          refine ops_want rfl rfl rfl (ow_move rfl ?_)
          refine ops_want rfl rfl rfl (ow_move rfl ?_)
          refine ops_want rfl rfl rfl (ow_indexT (oO).sl eI_len rfl el24 rfl hl3.symm rfl hv rfl ?_)
          refine ops_want rfl rfl rfl (ow_loadT (oO).sl eI_len hv ti2 rfl rfl rfl ?_)
          refine ops_want rfl rfl rfl (ow_lss2 rfl rfl (fun hv0 => ?_) (fun hv0 => ?_))
          · skip
            obtain ⟨u, hu⟩ : ∃ u, out3[z.toNat]? = some u := ⟨_, List.getElem?_eq_getElem (by omega)⟩
            refine ops_cons rfl (ow_pick rfl rfl ?_)
            refine ops_nil ?_
            refine c_true rfl ?_
            refine c_skip ?_
            refine tq_n ?_
            refine c_seq ?_
            refine c_block ?_
            refine c_seqR ?_
            refine ops_cons rfl (ow_move rfl ?_)
            refine ops_cons rfl (ow_move rfl ?_)
            refine ops_cons rfl (ow_move rfl ?_)
            refine ops_cons rfl (ow_indexT hs ModeI.len rfl el60 rfl rfl rfl hx rfl ?_)
            refine ops_cons rfl (ow_fieldAddr off114_2 rfl ?_)
            refine ops_cons rfl (ow_loadTF hs ModeI.len hx ti24 rfl rfl rfl ?_)
            refine ops_cons rfl (ow_move rfl ?_)
            refine ops_cons rfl (ow_indexT hnx eI_len rfl el24 rfl rfl rfl hzk rfl ?_)
            refine ops_cons rfl (ow_loadT hnx eI_len hzk ti2 rfl rfl rfl ?_)
            refine ops_cons rfl (ow_indexT (oO).sl eI_len rfl el24 rfl hl3.symm rfl hu (by omega) ?_)
            refine ops_cons rfl (ow_loadT (oO).sl eI_len hu ti2 rfl rfl rfl ?_)
            refine ops_cons rfl (ow_move rfl ?_)
            refine ops_cons rfl (ow_eql2 rfl rfl (fun he => ?_) (fun he => ?_))
            · skip
              refine ops_nil ?_
              refine c_true rfl ?_
              refine c_region ?_
              refine ops_cons rfl (ow_move rfl ?_)
              refine ops_cons rfl (ow_move rfl ?_)
              refine ops_cons rfl (ow_move rfl ?_)
              refine ops_cons rfl (ow_add rfl rfl (w64 (by omega)) ?_)
              refine ops_cons rfl (ow_indexT (oO).sl eI_len rfl el24 rfl hl3.symm rfl hv rfl ?_)
              refine ops_cons rfl (ow_storeR oO ti2 rfl rfl rfl rfl (by omega) (by omega) rfl ?_)
              intro w12 oN hg11 z13
              replace hs := hs.grown hg11 (fun g hg => Nat.le_trans Bhs (Own.lt oO hg).1)
              replace hn := hn.grown hg11 (fun g hg => Nat.le_trans Bhn (Own.lt oO hg).1)
              replace hnx := hnx.grown hg11 (fun g hg => Nat.le_trans Bhn (Own.lt oO hg).1)
              replace X := X.grown hg11 X.size (fun g hg => (Own.lt oO hg).1)
              clear hg11 z13
              replace oN := oN.to (cs' := ((out3).set i ((d : Int) + 1)).flatMap eI) (set_field (x := v) (x' := (d : Int) + 1) (vs := [.int .i64 ((d : Int) + 1)]) eI_len (s' := 1) (f := 0) rfl (by omega) (out3) i hv)
              refine ops_nil ?_
              refine bq_n ?_
              refine tq_n ?_
              refine c_region ?_
              refine ops_cons rfl (ow_move rfl ?_)
              refine ops_cons rfl (ow_add rfl rfl (w64 (by omega)) ?_)
              refine ops_cons rfl (ow_assign rfl ?_)
              refine ops_nil ?_
              refine tq_n ⟨(k + 1, out3.set i ((d : Int) + 1)), (.cons rfl (.cons rfl (.cons rfl (.cons rfl (.cons rfl (.cons rfl (.cons rfl (.cons rfl (.cons rfl (.cons rfl (.cons rfl (.cons rfl (.nil _))))))))))))), ?_, ?_⟩
              · exact ⟨by omega, (by rw [← hst, dz, stpL_hit (by rw [getD_at hv]; exact hv0) (by omega) (by rw [hu, he])]), (by rw [List.length_set]; exact hl3), oN, hs, hn, hnx, X⟩
              · first | omega | (dsimp only; omega)
            · skip
              refine ops_nil ?_
              refine c_false rfl ?_
              refine c_skip ?_
              refine bq_n ?_
              refine tq_n ?_
              refine c_region ?_
              refine ops_cons rfl (ow_move rfl ?_)
              refine ops_cons rfl (ow_add rfl rfl (w64 (by omega)) ?_)
              refine ops_cons rfl (ow_assign rfl ?_)
              refine ops_nil ?_
              refine tq_n ⟨(k + 1, out3), (.cons rfl (.cons rfl (.cons rfl (.cons rfl (.cons rfl (.cons rfl (.cons rfl (.cons rfl (.cons rfl (.cons rfl (.cons rfl (.cons rfl (.nil _))))))))))))), ?_, ?_⟩
              · exact ⟨by omega, (by rw [← hst, dz, stpL_miss (by rw [hu]; intro h; injection h with h; exact he h)]), hl3, oO, hs, hn, hnx, X⟩
              · first | omega | (dsimp only; omega)
          · skip
            refine ops_cons rfl (ow_pick rfl rfl ?_)
            refine ops_nil ?_
            refine c_false rfl ?_
            refine c_exit ?_
            refine tq_e ?_
            refine tq_e ?_
            refine bq_e ?_
            refine bq_n ?_
            refine tq_n ?_
            refine c_region ?_
            refine ops_cons rfl (ow_move rfl ?_)
            refine ops_cons rfl (ow_add rfl rfl (w64 (by omega)) ?_)
            refine ops_cons rfl (ow_assign rfl ?_)
            refine ops_nil ?_
            refine tq_n ⟨(i + 1, out3), (.cons rfl (.cons rfl (.cons rfl (.cons rfl (.cons rfl (.cons rfl (.cons rfl (.cons rfl (.nil _))))))))), ?_, ?_⟩
            · skip
              have e3 : out3 = stpL x.m.next d i out2 := by
                rw [← hst]
                first | rw [drop_end hk, stpL_nil] | rw [stpL_pos (by rw [getD_at hv]; omega)]
              exact ⟨by omega, (by rw [e3]; exact swp_step2 elm hsw hmx), hl3, oO, hs, hn, X⟩
            · first | omega | (dsimp only; omega)
        · skip
          refine ops_cons rfl (ow_move rfl ?_)
          refine ops_skip rfl rfl rfl rfl ?_
          refine ops_skip rfl rfl rfl rfl ?_
          refine ops_skip rfl rfl rfl rfl ?_
          refine ops_skip rfl rfl rfl rfl ?_
          refine ops_skip rfl rfl rfl rfl ?_
          refine ops_cons rfl (ow_pick rfl rfl ?_)
          refine ops_nil ?_
          refine c_false rfl ?_
          refine c_exit ?_
          refine tq_e ?_
          refine tq_e ?_
          refine bq_e ?_
          refine bq_n ?_
          refine tq_n ?_
          refine c_region ?_
          refine ops_cons rfl (ow_move rfl ?_)
          refine ops_cons rfl (ow_add rfl rfl (w64 (by omega)) ?_)
          refine ops_cons rfl (ow_assign rfl ?_)
          refine ops_nil ?_
          refine tq_n ⟨(i + 1, out3), (.cons rfl (.cons rfl (.cons rfl (.cons rfl (.cons rfl (.cons rfl (.cons rfl (.cons rfl (.nil _))))))))), ?_, ?_⟩
          · skip
            have e3 : out3 = stpL x.m.next d i out2 := by
              rw [← hst]
              first | rw [drop_end hk, stpL_nil] | rw [stpL_pos (by rw [getD_at hv]; omega)]
            exact ⟨by omega, (by rw [e3]; exact swp_step2 elm hsw hmx), hl3, oO, hs, hn, X⟩
          · first | omega | (dsimp only; omega)
      · skip
        obtain rfl : i = xs.length := by omega
        refine ops_nil ?_
        refine c_false rfl ?_
        refine c_exit ?_
        refine tq_e ?_
        refine tq_e ?_
        refine bq_e ?_
        refine bq_n ?_
        refine tq_n ?_
        refine c_region ?_
        refine ops_cons rfl (ow_move rfl ?_)
        refine ops_cons rfl (ow_add rfl rfl (w64 (by omega)) ?_)
        refine ops_cons rfl (ow_assign rfl ?_)
        refine ops_nil ?_
        refine tq_n ⟨(d + 1, out2), (.cons rfl (.cons rfl (.cons rfl (.cons rfl (.nil _))))), ?_, ?_⟩
        · exact ⟨by omega, (by rw [hdst, show xs.length - d = (xs.length - (d + 1)) + 1 by omega, itS, elm, ← hsw, Nat.sub_self, swp]), hl2, oO, hs, hn, X⟩
        · first | omega | (dsimp only; omega)
    · skip
      obtain rfl : d = xs.length := by omega
      refine ops_nil ?_
      refine c_false rfl ?_
      refine c_exit ?_
      refine tq_e ?_
      refine tq_e ?_
      refine bq_e ?_
      refine tq_n ?_
      refine c_seqR ?_
      refine ops_cons rfl (ow_move rfl ?_)
      refine ops_cons rfl (ow_assign rfl ?_)
      refine ops_nil ?_
      refine c_ret ?_
      refine fin_ret1 rfl rfl ?_
      have e : dst (xs.map (·.m)) to.toNat = out := by rw [hdst, Nat.sub_self]; rfl
      rw [e, hlo]
      exact ⟨_, _, rfl, oO, X⟩

set_option maxHeartbeats 1000000 in
theorem stepsTo_c (A : Option Addr) (B B2 c : Nat) (xs : List ModeI) (to : Int) (w : World) (hs : Sl B w A (xs.flatMap ModeI.cells)) (hn : Nexts B2 w xs) (hl : xs.length ≤ 1048576) (hz : ∀ x ∈ xs, x.m.next.length ≤ 1048576) (hT : isMT (xs.map (·.m)) = true) (ht : 0 ≤ to ∧ to < xs.length) :
    Calls Try.prog 119 #[.slice A xs.length c, .int .i64 to] w (Ret fun v w' => ∃ A' c', v = .slice A' (dst (xs.map (·.m)) to.toNat).length c' ∧ Own w' w.heap.size 2 1 A' (dst (xs.map (·.m)) to.toNat).length c' ((dst (xs.map (·.m)) to.toNat).flatMap eI) ∧ Ext w w') := by
  have htm : to.toNat < (xs.map (·.m)).length := by rw [List.length_map]; omega
  have elm : (xs.map (·.m)).length = xs.length := List.length_map ..
  have hl6 := isMT_len hT
  rw [elm] at hl6
  have e0 : dst (xs.map (·.m)) to.toNat = itS (xs.map (·.m)) xs.length 0 (dst0 xs.length to.toNat) := by rw [← elm]; rfl
  have h00 : (dst0 xs.length to.toNat).length = xs.length := by simp [dst0]
  have Bhs := hs.1
  have Bhn := hn.1
  have X := Ext.refl w
  refine calls_of (args := [.slice A xs.length c, .int .i64 to]) Try.func119 Try.ntmps119 rfl rfl ?_
  refine c_seqR ?_
  refine ops_cons rfl (ow_assign rfl ?_)
  refine ops_nil ?_
  refine c_seqR ?_
  refine ops_cons rfl (ow_buildSlice el24 ti2 rfl rfl rfl rfl rfl ?_)
  intro gV w2 egV oV bbgV x1 zgV
  replace oV := Own.low oV X.size
  replace hs := hs.ext x1
  replace hn := hn.ext x1
  replace X := Ext.trans X x1; clear x1
  replace oV := oV.to (cs' := ([-1] : List Int).flatMap eI) rfl
  refine ops_cons rfl (ow_move rfl ?_)
  refine ops_cons rfl (ow_len Try.underlying60 rfl ?_)
  refine ops_cons rfl (ow_call ent127 rfl (ret_mono (repeat_c ⟨gV, 0, none⟩ _ 1 (-1) xs.length _ oV.sl (by omega)) ?_))
  rintro _ w4 ⟨A1, c1, rfl, oO, x3⟩
  replace oO := Own.low oO X.size
  replace hs := hs.ext x3
  replace hn := hn.ext x3
  replace oV := oV.ext x3
  replace X := Ext.trans X x3; clear x3
  clear oV
  rw [List.length_replicate] at oO ⊢
  refine ops_cons rfl (ow_alloc ti24 ?_)
  intro gS w6 egS b0 x5 zgS
  have lgS : w.heap.size ≤ gS := Nat.le_trans X.size (Nat.le_of_eq egS.symm)
  have pgShs := Nat.le_trans hs.1 (Nat.le_of_eq egS.symm)
  have pgShn := Nat.le_trans hn.1 (Nat.le_of_eq egS.symm)
  replace hs := hs.ext x5
  replace hn := hn.ext x5
  replace oO := oO.ext x5
  replace X := Ext.trans X x5; clear x5
  refine ops_cons rfl (ow_storeB b0 ti24 rfl rfl rfl rfl rfl rfl ?_)
  intro w8 bS hg7 z9
  replace hs := hs.grown hg7 (by intro g hg; injection hg; omega)
  replace hn := hn.grown hg7 (by intro g hg; injection hg; omega)
  replace oO := oO.grownBlk hg7 (Own.neT oO b0 (by decide))
  replace X := X.grown hg7 X.size (by intro g hg; injection hg; omega)
  clear hg7 b0
  refine ops_nil ?_
  refine c_seqR ?_
  refine ops_cons rfl (ow_loadB bS ti24 rfl rfl ?_)
  refine ops_cons rfl (ow_move rfl ?_)
  obtain ⟨v, hv⟩ : ∃ v, (List.replicate xs.length (-1 : Int))[to.toNat]? = some v := ⟨_, List.getElem?_eq_getElem (by rw [List.length_replicate]; omega)⟩
  refine ops_cons rfl (ow_indexT (oO).sl eI_len rfl el24 rfl (by rw [List.length_replicate]) rfl hv (by omega) ?_)
  have hgS := fun g hg => (Own.lt oO (g := g) hg).2
  refine ops_cons rfl (ow_storeR oO ti2 rfl rfl rfl rfl (by omega) (by omega) rfl ?_)
  intro w11 oP hg10 z12
  replace hs := hs.grown hg10 (fun g hg => Nat.le_trans Bhs (Own.lt oO hg).1)
  replace hn := hn.grown hg10 (fun g hg => Nat.le_trans Bhn (Own.lt oO hg).1)
  replace bS := bS.grown hg10 (fun h => Own.neT oO bS (by decide) h.symm)
  replace X := X.grown hg10 X.size (fun g hg => (Own.lt oO hg).1)
  clear hg10 z12
  replace oP := oP.to (cs' := ((List.replicate xs.length (-1 : Int)).set to.toNat ((0 : Int))).flatMap eI) (set_field (x := v) (x' := (0 : Int)) (vs := [.int .i64 ((0 : Int))]) eI_len (s' := 1) (f := 0) rfl (by omega) (List.replicate xs.length (-1 : Int)) to.toNat hv)
  replace oP := oP.to (cs' := (dst0 xs.length to.toNat).flatMap eI) rfl
  refine ops_nil ?_
  refine c_seq ?_
  refine c_seqR ?_
  have hgP := fun g hg => (Own.lt oP (g := g) hg).2
  refine ops_cons rfl (ow_alloc ti2 ?_)
  intro gR w14 egR b1 x13 zgR
  have lgR : w.heap.size ≤ gR := Nat.le_trans X.size (Nat.le_of_eq egR.symm)
  have pgRhs := Nat.le_trans hs.1 (Nat.le_of_eq egR.symm)
  have pgRhn := Nat.le_trans hn.1 (Nat.le_of_eq egR.symm)
  have ngRbS := Nat.lt_of_lt_of_eq bS.lt egR.symm
  replace hs := hs.ext x13
  replace hn := hn.ext x13
  replace bS := bS.ext x13
  replace oP := oP.ext x13
  replace X := Ext.trans X x13; clear x13
  have hgR := fun g hg => Nat.lt_of_lt_of_eq (hgP g hg) egR.symm
  refine ops_cons rfl (ow_storeB b1 ti2 rfl rfl rfl rfl rfl rfl ?_)
  intro w16 bR hg15 z17
  replace hs := hs.grown hg15 (by intro g hg; injection hg; omega)
  replace hn := hn.grown hg15 (by intro g hg; injection hg; omega)
  replace bS := bS.grown hg15 (by intro h; injection h; omega)
  replace oP := oP.grownBlk hg15 (fun h => Nat.lt_irrefl _ (hgR gR h))
  replace X := X.grown hg15 X.size (by intro g hg; injection hg; omega)
  clear hg15 b1
  refine ops_nil ?_
  refine c_block ?_
  refine c_loop (G := Nat × List Int × Nat) (fun ⟨r, out, gR⟩ => [(0, .slice A xs.length c), (4, .slice none 0 0), (5, .pointer (some ⟨gS, 0, none⟩)), (6, .pointer (some ⟨gR, 0, none⟩))]) (fun ⟨r, out, gR⟩ wr => Mid (xs.map (·.m)) to.toNat r out ∧ out.length = xs.length ∧ w.heap.size ≤ gR ∧ gS < gR ∧ (∀ g, (Value.slice A1 xs.length c1).ownBlock = some g → g < gR) ∧ Own wr w.heap.size 2 1 A1 xs.length c1 (out.flatMap eI) ∧ Blk wr gR 2 [.int .i64 (r : Nat)] ∧ Sl B wr A (xs.flatMap ModeI.cells) ∧ Nexts B2 wr xs ∧ Blk wr gS 24 [.slice A1 xs.length c1] ∧ Ext w wr) (fun ⟨r, out, gR⟩ => xs.length - r) (0, dst0 xs.length to.toNat, gR) (.cons rfl (.cons rfl (.cons rfl (.cons rfl (.nil _))))) ?_ ?_
  · exact ⟨(by have := Mid.start (ms := (xs.map (·.m))) htm; rw [elm] at this; exact this), h00, by omega, by omega, hgR, oP, bR, hs, hn, bS, X⟩
  clear hs hn bS oP bR
  clear X
  rintro ⟨r, out, gR⟩ wr ⟨hM, hlo, hlR, hSR, hgR, oO, bR, hs, hn, bS, X⟩
  refine c_seq ?_
  refine c_seqR ?_
  have sO := oO.sl
  refine ops_cons rfl (ow_loadB bS ti24 rfl rfl ?_)
  refine ops_cons rfl (ow_loadB bR ti2 rfl rfl ?_)
  refine ops_cons rfl (ow_callB ent97 rfl (contains_n _ _ _ _ out r _ sO (by omega) hlo) (fun w19 hB x18 => ?_) (fun w19 hB x18 => ?_))
  · skip
    replace oO := oO.ext x18
    replace bR := bR.ext x18
    replace hs := hs.ext x18
    replace hn := hn.ext x18
    replace bS := bS.ext x18
    replace sO := sO.ext x18
    replace X := Ext.trans X x18; clear x18
    have hrn := hM.more hB
    rw [elm] at hrn
    refine ops_nil ?_
    refine c_true rfl ?_
    refine c_skip ?_
    refine tq_n ?_
    refine c_seq ?_
    refine c_block ?_
    refine c_seqR ?_
    refine ops_cons rfl (ow_move rfl ?_)
    refine ops_cons rfl (ow_len Try.underlying60 rfl ?_)
    refine ops_cons rfl (ow_move rfl ?_)
    refine ops_nil ?_
    refine c_block ?_
    refine c_loop (G := Nat × List Int) (fun ⟨i, out2⟩ => [(0, .slice A xs.length c), (4, .slice none 0 0), (5, .pointer (some ⟨gS, 0, none⟩)), (6, .pointer (some ⟨gR, 0, none⟩)), (21, .slice A xs.length c), (22, .int .i64 (xs.length : Nat)), (23, .int .i64 (i : Nat))]) (fun ⟨i, out2⟩ wr => i ≤ xs.length ∧ swp (xs.map (·.m)) r (xs.length - i) i out2 = swp (xs.map (·.m)) r xs.length 0 out ∧ out2.length = xs.length ∧ Own wr w.heap.size 2 1 A1 xs.length c1 (out2.flatMap eI) ∧ Blk wr gR 2 [.int .i64 (r : Nat)] ∧ Sl B wr A (xs.flatMap ModeI.cells) ∧ Nexts B2 wr xs ∧ Blk wr gS 24 [.slice A1 xs.length c1] ∧ Ext w wr) (fun ⟨i, out2⟩ => xs.length - i) (0, out) (.cons rfl (.cons rfl (.cons rfl (.cons rfl (.cons rfl (.cons rfl (.cons rfl (.nil _)))))))) ?_ ?_
    · exact ⟨by omega, rfl, hlo, oO, bR, hs, hn, bS, X⟩
    clear oO bR hs hn bS
    clear X
    rintro ⟨i, out2⟩ wr ⟨hi0, hsw, hl2, oO, bR, hs, hn, bS, X⟩
    refine c_seqR ?_
    refine ops_cons rfl (ow_lss2 rfl rfl (fun hi => ?_) (fun hi => ?_))
    · skip
      obtain ⟨x, hx⟩ : ∃ x, xs[i]? = some x := ⟨_, List.getElem?_eq_getElem (by omega)⟩
      have hmx := map_at (f := (·.m)) hx
      have hnx := hn.at_ hx
      have hlx := hz x (List.mem_of_getElem? hx)
      have hnI := nextAt_in hT hmx
      rw [elm] at hnI
      refine ops_nil ?_
      refine c_seq ?_
      refine c_true rfl ?_
      refine c_skip ?_
      refine tq_n ?_
      refine c_seq ?_
      refine c_block ?_
      refine c_seqR ?_
      refine ops_cons rfl (ow_move rfl ?_)
      refine ops_cons rfl (ow_indexT hs ModeI.len rfl el60 rfl rfl rfl hx rfl ?_)
      refine ops_cons rfl (ow_loadTA hs ModeI.len hx ti114 rfl ?_)
      refine ops_cons rfl (ow_alloc ti114 ?_)
      intro gX w21 egX b8 x20 zgX
      have lgX : w.heap.size ≤ gX := Nat.le_trans X.size (Nat.le_of_eq egX.symm)
      have ngXbR := Nat.lt_of_lt_of_eq bR.lt egX.symm
      have pgXhs := Nat.le_trans hs.1 (Nat.le_of_eq egX.symm)
      have pgXhn := Nat.le_trans hn.1 (Nat.le_of_eq egX.symm)
      have ngXbS := Nat.lt_of_lt_of_eq bS.lt egX.symm
      have pgXhnx := Nat.le_trans hnx.1 (Nat.le_of_eq egX.symm)
      replace oO := oO.ext x20
      replace bR := bR.ext x20
      replace hs := hs.ext x20
      replace hn := hn.ext x20
      replace bS := bS.ext x20
      replace hnx := hnx.ext x20
      replace X := Ext.trans X x20; clear x20
      refine ops_cons rfl (ow_assign rfl ?_)
      refine ops_cons rfl (ow_storeB b8 ti114 rfl rfl rfl rfl rfl rfl ?_)
      intro w23 bX hg22 z24
      replace oO := oO.grownBlk hg22 (Own.neT oO b8 (by decide))
      replace bR := bR.grown hg22 (fun h => absurd h (by intro h; injection h; omega))
      replace hs := hs.grown hg22 (by intro g hg; injection hg; omega)
      replace hn := hn.grown hg22 (by intro g hg; injection hg; omega)
      replace bS := bS.grown hg22 (by intro h; injection h; omega)
      replace hnx := hnx.grown hg22 (by intro g hg; injection hg; omega)
      replace X := X.grown hg22 X.size (by intro g hg; injection hg; omega)
      clear hg22 b8
      refine ops_nil ?_
      refine c_seqR ?_
      obtain ⟨v, hv⟩ : ∃ v, (out2)[i]? = some v := ⟨_, List.getElem?_eq_getElem (by omega)⟩
      refine ops_cons rfl (ow_loadB bS ti24 rfl rfl ?_)
      refine ops_cons rfl (ow_move rfl ?_)
      refine ops_cons rfl (ow_indexT (oO).sl eI_len rfl el24 rfl hl2.symm rfl hv rfl ?_)
      refine ops_cons rfl (ow_loadT (oO).sl eI_len hv ti2 rfl rfl rfl ?_)
      refine ops_cons rfl (ow_lss2 rfl rfl (fun hv0 => ?_) (fun hv0 => ?_))
      · skip
        refine ops_cons rfl (ow_move rfl ?_)
        refine ops_want rfl rfl rfl (ow_fieldAddrB off114_2 rfl rfl ?_)
        refine ops_want rfl rfl rfl (ow_loadB bX ti24 rfl rfl ?_)
        refine ops_want rfl rfl rfl (ow_makeFunc rfl ?_)
        obtain ⟨BO, hSO⟩ : ∃ BO, Sl BO _ A1 (out2.flatMap eI) := ⟨_, oO.sl⟩
        refine ops_want rfl rfl rfl (ow_callB ent131 rfl (ctGI_c x.A _ x.c x.m.next 132 [.pointer (some ⟨gS, 0, none⟩), .pointer (some ⟨gR, 0, none⟩)] (hitD out2 r) (fun w => Blk w gS 24 [.slice A1 xs.length c1] ∧ Blk w gR 2 [.int .i64 (r : Nat)] ∧ Sl BO w A1 (out2.flatMap eI)) _ hnx hlx ent132 ⟨(fun _ _ h k => ⟨h.1.ext k, h.2.1.ext k, h.2.2.ext k⟩), bS, bR, hSO⟩ (fun z w1 h1 hz => steps1_c A1 BO c1 gS gR out2 z r w1 (by rw [hl2]; exact h1.1) h1.2.1 h1.2.2 (by have := hnI z hz; omega))) (fun w26 hA x25 => ?_) (fun w26 hA x25 => ?_))
        · skip
          replace oO := oO.ext x25
          replace bR := bR.ext x25
          replace hs := hs.ext x25
          replace hn := hn.ext x25
          replace bS := bS.ext x25
          replace hnx := hnx.ext x25
          replace bX := bX.ext x25
          replace X := Ext.trans X x25; clear x25
          refine ops_cons rfl (ow_pick rfl rfl ?_)
          refine ops_nil ?_
          refine c_true rfl ?_
          refine c_region ?_
          refine ops_cons rfl (ow_loadB bS ti24 rfl rfl ?_)
          refine ops_cons rfl (ow_move rfl ?_)
          refine ops_cons rfl (ow_loadB bR ti2 rfl rfl ?_)
          refine ops_cons rfl (ow_add rfl rfl (w64 (by omega)) ?_)
          refine ops_cons rfl (ow_indexT (oO).sl eI_len rfl el24 rfl hl2.symm rfl hv rfl ?_)
          refine ops_cons rfl (ow_storeR oO ti2 rfl rfl rfl rfl (by omega) (by omega) rfl ?_)
          intro w28 oN hg27 z29
          replace bR := bR.grown hg27 (fun h => Nat.lt_irrefl _ (hgR gR h.symm))
          replace hs := hs.grown hg27 (fun g hg => Nat.le_trans Bhs (Own.lt oO hg).1)
          replace hn := hn.grown hg27 (fun g hg => Nat.le_trans Bhn (Own.lt oO hg).1)
          replace bS := bS.grown hg27 (fun h => Own.neT oO bS (by decide) h.symm)
          replace hnx := hnx.grown hg27 (fun g hg => Nat.le_trans Bhn (Own.lt oO hg).1)
          replace bX := bX.grown hg27 (fun h => Own.neT oO bX (by decide) h.symm)
          replace X := X.grown hg27 X.size (fun g hg => (Own.lt oO hg).1)
          clear hg27 z29
          replace oN := oN.to (cs' := ((out2).set i ((r : Int) + 1)).flatMap eI) (set_field (x := v) (x' := (r : Int) + 1) (vs := [.int .i64 ((r : Int) + 1)]) eI_len (s' := 1) (f := 0) rfl (by omega) (out2) i hv)
          refine ops_nil ?_
          refine bq_n ?_
          refine tq_n ?_
          refine c_region ?_
          refine ops_cons rfl (ow_add rfl rfl (w64 (by omega)) ?_)
          refine ops_cons rfl (ow_move rfl ?_)
          refine ops_nil ?_
          refine tq_n ⟨(i + 1, out2.set i ((r : Int) + 1)), (.cons rfl (.cons rfl (.cons rfl (.cons rfl (.cons rfl (.cons rfl (.cons rfl (.nil _)))))))), ?_, ?_⟩
          · skip
            exact ⟨by omega, (by
              have := swp_step2 elm hsw hmx
              rw [stp_yes (by rw [getD_at hv]; exact hv0) hA] at this; exact this), (by rw [List.length_set]; exact hl2), oN, bR, hs, hn, bS, X⟩
          · first | omega | (dsimp only; omega)
        · skip
          replace oO := oO.ext x25
          replace bR := bR.ext x25
          replace hs := hs.ext x25
          replace hn := hn.ext x25
          replace bS := bS.ext x25
          replace hnx := hnx.ext x25
          replace bX := bX.ext x25
          replace X := Ext.trans X x25; clear x25
          refine ops_cons rfl (ow_pick rfl rfl ?_)
          refine ops_nil ?_
          refine c_false rfl ?_
          refine c_skip ?_
          refine bq_n ?_
          refine tq_n ?_
          refine c_region ?_
          refine ops_cons rfl (ow_add rfl rfl (w64 (by omega)) ?_)
          refine ops_cons rfl (ow_move rfl ?_)
          refine ops_nil ?_
          refine tq_n ⟨(i + 1, out2), (.cons rfl (.cons rfl (.cons rfl (.cons rfl (.cons rfl (.cons rfl (.cons rfl (.nil _)))))))), ?_, ?_⟩
          · skip
            exact ⟨by omega, (by
              have := swp_step2 elm hsw hmx
              rw [show stpL x.m.next r i out2 = out2 by first | exact stp_no (by first | exact hA | simpa using hA) | exact stpL_pos (by rw [getD_at hv]; omega)] at this; exact this), hl2, oO, bR, hs, hn, bS, X⟩
          · first | omega | (dsimp only; omega)
      · skip
        refine ops_cons rfl (ow_move rfl ?_)
        refine ops_skip rfl rfl rfl rfl ?_
        refine ops_skip rfl rfl rfl rfl ?_
        refine ops_skip rfl rfl rfl rfl ?_
        refine ops_skip rfl rfl rfl rfl ?_
        refine ops_cons rfl (ow_pick rfl rfl ?_)
        refine ops_nil ?_
        refine c_false rfl ?_
        refine c_skip ?_
        refine bq_n ?_
        refine tq_n ?_
        refine c_region ?_
        refine ops_cons rfl (ow_add rfl rfl (w64 (by omega)) ?_)
        refine ops_cons rfl (ow_move rfl ?_)
        refine ops_nil ?_
        refine tq_n ⟨(i + 1, out2), (.cons rfl (.cons rfl (.cons rfl (.cons rfl (.cons rfl (.cons rfl (.cons rfl (.nil _)))))))), ?_, ?_⟩
        · skip
          exact ⟨by omega, (by
            have := swp_step2 elm hsw hmx
            rw [show stpL x.m.next r i out2 = out2 by first | exact stp_no (by first | exact hA | simpa using hA) | exact stpL_pos (by rw [getD_at hv]; omega)] at this; exact this), hl2, oO, bR, hs, hn, bS, X⟩
        · first | omega | (dsimp only; omega)
    · skip
      obtain rfl : i = xs.length := by omega
      refine ops_nil ?_
      refine c_seq ?_
      refine c_false rfl ?_
      refine c_exit ?_
      refine tq_e ?_
      refine tq_e ?_
      refine bq_e ?_
      refine bq_n ?_
      refine tq_n ?_
      refine c_seq ?_
      refine c_seqR ?_
      refine ops_cons rfl (ow_loadB bR ti2 rfl rfl ?_)
      refine ops_nil ?_
      refine c_region ?_
      refine ops_cons rfl (ow_alloc ti2 ?_)
      intro gQ w31 egQ b2 x30 zgQ
      have lgQ : w.heap.size ≤ gQ := Nat.le_trans X.size (Nat.le_of_eq egQ.symm)
      have ngQbR := Nat.lt_of_lt_of_eq bR.lt egQ.symm
      have pgQhs := Nat.le_trans hs.1 (Nat.le_of_eq egQ.symm)
      have pgQhn := Nat.le_trans hn.1 (Nat.le_of_eq egQ.symm)
      have ngQbS := Nat.lt_of_lt_of_eq bS.lt egQ.symm
      replace oO := oO.ext x30
      replace bR := bR.ext x30
      replace hs := hs.ext x30
      replace hn := hn.ext x30
      replace bS := bS.ext x30
      replace X := Ext.trans X x30; clear x30
      have hgQ := fun g hg => Nat.lt_trans (hgR g hg) ngQbR
      refine ops_cons rfl (ow_storeB b2 ti2 rfl rfl rfl rfl rfl rfl ?_)
      intro w33 bQ hg32 z34
      replace oO := oO.grownBlk hg32 (fun h => Nat.lt_irrefl _ (hgQ gQ h))
      replace bR := bR.grown hg32 (by intro h; injection h; omega)
      replace hs := hs.grown hg32 (by intro g hg; injection hg; omega)
      replace hn := hn.grown hg32 (by intro g hg; injection hg; omega)
      replace bS := bS.grown hg32 (by intro h; injection h; omega)
      replace X := X.grown hg32 X.size (by intro g hg; injection hg; omega)
      clear hg32 b2
      refine ops_nil ?_
      refine tq_n ?_
      refine c_region ?_
      refine ops_cons rfl (ow_loadB bQ ti2 rfl rfl ?_)
      refine ops_cons rfl (ow_add rfl rfl (w64 (by omega)) ?_)
      refine ops_cons rfl (ow_storeB bQ ti2 rfl rfl rfl rfl rfl rfl ?_)
      intro w36 bU hg35 z37
      replace oO := oO.grownBlk hg35 (fun h => Nat.lt_irrefl _ (hgQ gQ h))
      replace bR := bR.grown hg35 (by intro h; injection h; omega)
      replace hs := hs.grown hg35 (by intro g hg; injection hg; omega)
      replace hn := hn.grown hg35 (by intro g hg; injection hg; omega)
      replace bS := bS.grown hg35 (by intro h; injection h; omega)
      replace X := X.grown hg35 X.size (by intro g hg; injection hg; omega)
      clear hg35 bQ
      refine ops_nil ?_
      refine tq_n ⟨(r + 1, out2, gQ), (.cons rfl (.cons rfl (.cons rfl (.cons rfl (.nil _))))), ?_, ?_⟩
      · exact ⟨(by have := hM.step (by omega); rw [elm, ← hsw, Nat.sub_self, swp] at this; exact this), hl2, by omega, by omega, hgQ, oO, bU, hs, hn, bS, X⟩
      · first | omega | (dsimp only; omega)
  · skip
    replace oO := oO.ext x18
    replace bR := bR.ext x18
    replace hs := hs.ext x18
    replace hn := hn.ext x18
    replace bS := bS.ext x18
    replace sO := sO.ext x18
    replace X := Ext.trans X x18; clear x18
    have eD := hM.stop hB
    refine ops_nil ?_
    refine c_false rfl ?_
    refine c_exit ?_
    refine tq_e ?_
    refine tq_e ?_
    refine bq_e ?_
    refine tq_n ?_
    refine c_seqR ?_
    refine ops_cons rfl (ow_loadB bS ti24 rfl rfl ?_)
    refine ops_cons rfl (ow_assign rfl ?_)
    refine ops_nil ?_
    refine c_ret ?_
    refine fin_ret1 rfl rfl ?_
    have e : dst (xs.map (·.m)) to.toNat = out := eD
    rw [e, hlo]
    exact ⟨_, _, rfl, oO, X⟩
end Go.Proofs.Ytimabffnoanciaa
