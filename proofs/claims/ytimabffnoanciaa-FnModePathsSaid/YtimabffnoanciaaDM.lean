/- Which changes are allowed. No condition. -/
import Derived.Test.YtimabffnoanciaaDQ
import Derived.Test.YtimabffnoanciaaE4
namespace Go.Proofs.Ytimabffnoanciaa
open Go.RowKit
set_option linter.unusedVariables false
set_option linter.unusedSimpArgs false
set_option maxRecDepth 20000
theorem hasInt_c (A : Option Addr) (B c : Nat) (xs : List Int) (n : Int) (w : World) (hs : Sl B w A (xs.flatMap eI)) (hl : xs.length ≤ 1048576) :
    Calls Try.prog 56 #[.slice A xs.length c, .int .i64 n] w (Ret fun v w' => v = .bool (hasB xs n) ∧ Ext w w') := by
  have Bhs := hs.1
  have X := Ext.refl w
  refine calls_of (args := [.slice A xs.length c, .int .i64 n]) Try.func56 Try.ntmps56 rfl rfl ?_
  refine c_seqR ?_
  refine ops_cons rfl (ow_assign rfl ?_)
  refine ops_nil ?_
  refine c_seq ?_
  refine c_seqR ?_
  refine ops_cons rfl (ow_assign rfl ?_)
  refine ops_nil ?_
  refine c_block ?_
  refine c_loop (G := Nat) (fun k => [(0, .slice A xs.length c), (1, .int .i64 n), (5, .int .i64 (k : Nat))]) (fun k wr => k ≤ xs.length ∧ hasB xs n = hasB (xs.drop k) n ∧ Sl B wr A (xs.flatMap eI) ∧ Ext w wr) (fun k => xs.length - k) 0 (.cons rfl (.cons rfl (.cons rfl (.nil _)))) ?_ ?_
  · exact ⟨by omega, rfl, hs, X⟩
  clear hs
  clear X
  rintro k wr ⟨hk0, hi, hs, X⟩
  refine c_seq ?_
  refine c_seqR ?_
  refine ops_cons rfl (ow_move rfl ?_)
  refine ops_cons rfl (ow_move rfl ?_)
  refine ops_cons rfl (ow_len Try.underlying24 rfl ?_)
  refine ops_cons rfl (ow_lss2 rfl rfl (fun hk => ?_) (fun hk => ?_))
  · skip
    obtain ⟨x, hx, dx⟩ := drop_at' hk
    refine ops_nil ?_
    refine c_true rfl ?_
    refine c_skip ?_
    refine tq_n ?_
    refine c_seq ?_
    refine c_block ?_
    refine c_seqR ?_
    refine ops_cons rfl (ow_move rfl ?_)
    refine ops_cons rfl (ow_move rfl ?_)
    refine ops_cons rfl (ow_indexT hs eI_len rfl el24 rfl rfl rfl hx rfl ?_)
    refine ops_cons rfl (ow_loadT hs eI_len hx ti2 rfl rfl rfl ?_)
    refine ops_cons rfl (ow_move rfl ?_)
    refine ops_cons rfl (ow_eql2 rfl rfl (fun h1 => ?_) (fun h1 => ?_))
    · skip
      refine ops_nil ?_
      refine c_true rfl ?_
      refine c_seqR ?_
      refine ops_cons rfl (ow_assign rfl ?_)
      refine ops_nil ?_
      refine c_ret ?_
      refine bq_r ?_
      refine tq_r ?_
      refine tq_r ?_
      refine bq_r ?_
      refine tq_r ?_
      refine fin_ret1 rfl rfl ?_
      refine ⟨congrArg Value.bool ?_, X⟩
      first | (rw [hi, drop_end hk]; rfl) | (rw [hi, dx]; simp [hasB, *])
    · skip
      refine ops_nil ?_
      refine c_false rfl ?_
      refine c_skip ?_
      refine bq_n ?_
      refine tq_n ?_
      refine c_region ?_
      refine ops_cons rfl (ow_move rfl ?_)
      refine ops_cons rfl (ow_add rfl rfl (w64 (by omega)) ?_)
      refine ops_cons rfl (ow_assign rfl ?_)
      refine ops_nil ?_
      refine tq_n ⟨k + 1, (.cons rfl (.cons rfl (.cons rfl (.nil _)))), ?_, ?_⟩
      · exact ⟨by omega, (by rw [hi, dx]; simp [hasB, *]), hs, X⟩
      · first | omega | (dsimp only; omega)
  · skip
    refine ops_nil ?_
    refine c_false rfl ?_
    refine c_exit ?_
    refine tq_e ?_
    refine tq_e ?_
    refine bq_e ?_
    refine tq_n ?_
    refine c_seqR ?_
    refine ops_cons rfl (ow_assign rfl ?_)
    refine ops_nil ?_
    refine c_ret ?_
    refine fin_ret1 rfl rfl ?_
    refine ⟨congrArg Value.bool ?_, X⟩
    first | (rw [hi, drop_end hk]; rfl) | (rw [hi, dx]; simp [hasB, *])

theorem sMay_c (A : Option Addr) (B B2 c : Nat) (xs : List ModeI) (fr to : Int) (w : World) (hs : Sl B w A (xs.flatMap ModeI.cells)) (hn : Nexts B2 w xs) (hl : xs.length ≤ 1048576) (hz : ∀ x ∈ xs, x.m.next.length ≤ 1048576) :
    Calls Try.prog 55 #[.slice A xs.length c, .int .i64 fr, .int .i64 to] w (Ret fun v w' => v = .bool (mayF (xs.map (·.m)) fr to) ∧ Ext w w') := by
  have elm : (xs.map (·.m)).length = xs.length := List.length_map ..
  have Bhs := hs.1
  have Bhn := hn.1
  have X := Ext.refl w
  refine calls_of (args := [.slice A xs.length c, .int .i64 fr, .int .i64 to]) Try.func55 Try.ntmps55 rfl rfl ?_
  refine c_seqR ?_
  refine ops_cons rfl (ow_assign rfl ?_)
  refine ops_nil ?_
  refine c_seqR ?_
  refine ops_cons rfl (ow_move rfl ?_)
  refine ops_cons rfl (ow_callB ent89 rfl (sIsMT_c _ _ _ _ _ _ hs hn hl hz) (fun w2 hT x1 => ?_) (fun w2 hT x1 => ?_))
  · skip
    replace hs := hs.ext x1
    replace hn := hn.ext x1
    replace X := Ext.trans X x1; clear x1
    refine ops_cons rfl (ow_move rfl ?_)
    refine ops_want rfl rfl rfl (ow_move rfl ?_)
    refine ops_want rfl rfl rfl (ow_move rfl ?_)
    refine ops_want rfl rfl rfl (ow_callB ent90 rfl (l11Mode_c _ _ _ _ _ hl) (fun w4 hF x3 => ?_) (fun w4 hF x3 => ?_))
    · skip
      replace hs := hs.ext x3
      replace hn := hn.ext x3
      replace X := Ext.trans X x3; clear x3
      have hfI := inB_iff.1 hF
      obtain ⟨x, hx⟩ : ∃ x, xs[fr.toNat]? = some x := ⟨_, List.getElem?_eq_getElem (by omega)⟩
      have hnx := hn.at_ hx
      have hlx := hz x (List.mem_of_getElem? hx)
      have hnA : nextAt (xs.map (·.m)) fr.toNat = x.m.next := by unfold nextAt; rw [map_at (f := (·.m)) hx]
      refine ops_cons rfl (ow_pick rfl rfl ?_)
      refine ops_cons rfl (ow_move rfl ?_)
      refine ops_want rfl rfl rfl (ow_move rfl ?_)
      refine ops_want rfl rfl rfl (ow_move rfl ?_)
      refine ops_want rfl rfl rfl (ow_indexT hs ModeI.len rfl el60 rfl rfl rfl hx (by omega) ?_)
      refine ops_want rfl rfl rfl (ow_fieldAddr off114_2 rfl ?_)
      refine ops_want rfl rfl rfl (ow_loadTF hs ModeI.len hx ti24 rfl rfl rfl ?_)
      refine ops_want rfl rfl rfl (ow_move rfl ?_)
      refine ops_want rfl rfl rfl (ow_call ent98 rfl (ret_mono (l01Has_c _ _ _ _ _ _ hnx hlx) ?_))
      rintro _ w6 ⟨rfl, x5⟩
      replace hs := hs.ext x5
      replace hn := hn.ext x5
      replace hnx := hnx.ext x5
      replace X := Ext.trans X x5; clear x5
      refine ops_cons rfl (ow_pick rfl rfl ?_)
      refine ops_cons rfl (ow_assign rfl ?_)
      refine ops_nil ?_
      refine c_ret ?_
      refine fin_ret1 rfl rfl ?_
      refine ⟨congrArg Value.bool ?_, X⟩
      unfold mayF
      first
      | (rw [hT, elm, hF, hnA]; rfl)
      | (rw [hT, elm, hF]; rfl)
      | (rw [hT]; rfl)
    · skip
      replace hs := hs.ext x3
      replace hn := hn.ext x3
      replace X := Ext.trans X x3; clear x3
      refine ops_cons rfl (ow_pick rfl rfl ?_)
      refine ops_cons rfl (ow_move rfl ?_)
      refine ops_skip rfl rfl rfl rfl ?_
      refine ops_skip rfl rfl rfl rfl ?_
      refine ops_skip rfl rfl rfl rfl ?_
      refine ops_skip rfl rfl rfl rfl ?_
      refine ops_skip rfl rfl rfl rfl ?_
      refine ops_skip rfl rfl rfl rfl ?_
      refine ops_skip rfl rfl rfl rfl ?_
      refine ops_cons rfl (ow_pick rfl rfl ?_)
      refine ops_cons rfl (ow_assign rfl ?_)
      refine ops_nil ?_
      refine c_ret ?_
      refine fin_ret1 rfl rfl ?_
      refine ⟨congrArg Value.bool ?_, X⟩
      unfold mayF
      first
      | (rw [hT, elm, hF, hnA]; rfl)
      | (rw [hT, elm, hF]; rfl)
      | (rw [hT]; rfl)
  · skip
    replace hs := hs.ext x1
    replace hn := hn.ext x1
    replace X := Ext.trans X x1; clear x1
    refine ops_cons rfl (ow_move rfl ?_)
    refine ops_skip rfl rfl rfl rfl ?_
    refine ops_skip rfl rfl rfl rfl ?_
    refine ops_skip rfl rfl rfl rfl ?_
    refine ops_cons rfl (ow_pick rfl rfl ?_)
    refine ops_cons rfl (ow_move rfl ?_)
    refine ops_skip rfl rfl rfl rfl ?_
    refine ops_skip rfl rfl rfl rfl ?_
    refine ops_skip rfl rfl rfl rfl ?_
    refine ops_skip rfl rfl rfl rfl ?_
    refine ops_skip rfl rfl rfl rfl ?_
    refine ops_skip rfl rfl rfl rfl ?_
    refine ops_skip rfl rfl rfl rfl ?_
    refine ops_cons rfl (ow_pick rfl rfl ?_)
    refine ops_cons rfl (ow_assign rfl ?_)
    refine ops_nil ?_
    refine c_ret ?_
    refine fin_ret1 rfl rfl ?_
    refine ⟨congrArg Value.bool ?_, X⟩
    unfold mayF
    first
    | (rw [hT, elm, hF, hnA]; rfl)
    | (rw [hT, elm, hF]; rfl)
    | (rw [hT]; rfl)

theorem iMay_c (A : Option Addr) (B B2 c : Nat) (xs : List ModeI) (fr to : Int) (w : World) (hs : Sl B w A (xs.flatMap ModeI.cells)) (hn : Nexts B2 w xs) (hl : xs.length ≤ 1048576) (hz : ∀ x ∈ xs, x.m.next.length ≤ 1048576) :
    Calls Try.prog 54 #[.slice A xs.length c, .int .i64 fr, .int .i64 to] w (Ret fun v w' => v = .bool (mayF (xs.map (·.m)) fr to) ∧ Ext w w') := by
  have elm : (xs.map (·.m)).length = xs.length := List.length_map ..
  have Bhs := hs.1
  have Bhn := hn.1
  have X := Ext.refl w
  refine calls_of (args := [.slice A xs.length c, .int .i64 fr, .int .i64 to]) Try.func54 Try.ntmps54 rfl rfl ?_
  refine c_seqR ?_
  refine ops_cons rfl (ow_assign rfl ?_)
  refine ops_nil ?_
  refine c_seqR ?_
  refine ops_cons rfl (ow_move rfl ?_)
  refine ops_cons rfl (ow_move rfl ?_)
  refine ops_cons rfl (ow_buildSlice el24 ti2 rfl rfl rfl rfl rfl ?_)
  intro g1 w3 eg1 oB bbg1 x2 zg1
  replace oB := Own.low oB X.size
  replace hs := hs.ext x2
  replace hn := hn.ext x2
  replace X := Ext.trans X x2; clear x2
  replace oB := oB.to (cs' := ([fr] : List Int).flatMap eI) rfl
  refine ops_cons rfl (ow_call ent93 rfl (ret_mono (modesCode_c _ _ _ _ _ _ _ xs [fr] _ hs hn hl hz oB.sl (by simp)) ?_))
  rintro _ w5 ⟨rfl, x4⟩
  replace hs := hs.ext x4
  replace hn := hn.ext x4
  replace oB := oB.ext x4
  replace X := Ext.trans X x4; clear x4
  refine ops_cons rfl (ow_eql2 rfl rfl (fun hC => ?_) (fun hC => ?_))
  · skip
    obtain ⟨hT, hF⟩ : isMT (xs.map (·.m)) = true ∧ inB fr 0 ((xs.length : Int) - 1) = true := by
      unfold mcode at hC
      split at hC
      · rename_i hT
        split at hC
        · rename_i hA
          rw [elm] at hA
          exact ⟨hT, by simpa using hA⟩
        · exact absurd hC (by decide)
      · exact absurd hC (by decide)
    have hfI := inB_iff.1 hF
    obtain ⟨x, hx⟩ : ∃ x, xs[fr.toNat]? = some x := ⟨_, List.getElem?_eq_getElem (by omega)⟩
    have hnx := hn.at_ hx
    have hlx := hz x (List.mem_of_getElem? hx)
    have hnA : nextAt (xs.map (·.m)) fr.toNat = x.m.next := by unfold nextAt; rw [map_at (f := (·.m)) hx]
    refine ops_cons rfl (ow_move rfl ?_)
    refine ops_want rfl rfl rfl (ow_move rfl ?_)
    refine ops_want rfl rfl rfl (ow_move rfl ?_)
    refine ops_want rfl rfl rfl (ow_indexT hs ModeI.len rfl el60 rfl rfl rfl hx (by omega) ?_)
    refine ops_want rfl rfl rfl (ow_fieldAddr off114_2 rfl ?_)
    refine ops_want rfl rfl rfl (ow_loadTF hs ModeI.len hx ti24 rfl rfl rfl ?_)
    refine ops_want rfl rfl rfl (ow_move rfl ?_)
    refine ops_want rfl rfl rfl (ow_call ent97 rfl (ret_mono (contains_c _ _ _ _ _ _ hnx hlx) ?_))
    rintro _ w7 ⟨rfl, x6⟩
    replace hs := hs.ext x6
    replace hn := hn.ext x6
    replace hnx := hnx.ext x6
    replace X := Ext.trans X x6; clear x6
    refine ops_cons rfl (ow_pick rfl rfl ?_)
    refine ops_cons rfl (ow_assign rfl ?_)
    refine ops_nil ?_
    refine c_ret ?_
    refine fin_ret1 rfl rfl ?_
    refine ⟨congrArg Value.bool ?_, X⟩
    first
    | exact hmf.symm
    | (unfold mayF; rw [hT, elm, hF, hnA]; rfl)
  · skip
    have hmf : mayF (xs.map (·.m)) fr to = false := by
      unfold mcode at hC
      split at hC
      · rename_i hT
        split at hC
        · exact absurd rfl hC
        · rename_i hA
          have hA2 : inB fr 0 (((xs.map (·.m)).length : Int) - 1) = false := by simpa using hA
          unfold mayF; rw [hT, hA2]; rfl
      · rename_i hT
        have hT2 : isMT (xs.map (·.m)) = false := by simpa using hT
        unfold mayF; rw [hT2]; rfl
    refine ops_cons rfl (ow_move rfl ?_)
    refine ops_skip rfl rfl rfl rfl ?_
    refine ops_skip rfl rfl rfl rfl ?_
    refine ops_skip rfl rfl rfl rfl ?_
    refine ops_skip rfl rfl rfl rfl ?_
    refine ops_skip rfl rfl rfl rfl ?_
    refine ops_skip rfl rfl rfl rfl ?_
    refine ops_skip rfl rfl rfl rfl ?_
    refine ops_cons rfl (ow_pick rfl rfl ?_)
    refine ops_cons rfl (ow_assign rfl ?_)
    refine ops_nil ?_
    refine c_ret ?_
    refine fin_ret1 rfl rfl ?_
    refine ⟨congrArg Value.bool ?_, X⟩
    first
    | exact hmf.symm
    | (unfold mayF; rw [hT, elm, hF, hnA]; rfl)
end Go.Proofs.Ytimabffnoanciaa
