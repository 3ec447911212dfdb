/- How many slots a cycle of a mode has. No condition. -/
import Derived.Test.YtfdiihhbfblfaaaE2
namespace Go.Proofs.Ytfdiihhbfblfaaa
open Go.RowKit
set_option linter.unusedVariables false
set_option linter.unusedSimpArgs false
set_option maxRecDepth 20000
theorem mode_at {xs : List ModeI} {mode : Int} (h : inB mode 0 ((xs.length : Int) - 1) = true) : ∃ (j : Nat) (x : ModeI), mode = (j : Int) ∧ xs[j]? = some x := by
  have h1 := inB_iff.1 h
  exact ⟨mode.toNat, xs[mode.toNat]'(by omega), by omega, List.getElem?_eq_getElem _⟩
theorem mul_in {a b : Int} (h1 : 1 ≤ a ∧ a ≤ 8) (h2 : 1 ≤ b ∧ b ≤ 16) : 1 ≤ a * b ∧ a * b ≤ 128 := by
  have h3 : 1 * 1 ≤ a * b := Int.mul_le_mul h1.1 h2.1 (by omega) (by omega)
  have h4 : a * b ≤ 8 * 16 := Int.mul_le_mul h1.2 h2.2 (by omega) (by omega)
  omega
def mcode (ms : List Mode) (ys : List Int) : Int := if isMT ms = true then (if (ys.all fun x => inB x 0 ((ms.length : Int) - 1)) = true then 0 else 2) else 1
theorem hz_of {xs ys : List ModeI} (em : ys.map (·.m) = xs.map (·.m)) (hz : ∀ x ∈ xs, x.m.next.length ≤ 1048576) : ∀ y ∈ ys, y.m.next.length ≤ 1048576 := fun y hy => by
  have h1 : y.m ∈ ys.map (·.m) := List.mem_map.2 ⟨y, hy, rfl⟩
  rw [em] at h1
  obtain ⟨x, hx, e⟩ := List.mem_map.1 h1
  rw [← e]; exact hz x hx
theorem hl_of {xs ys : List ModeI} (em : ys.map (·.m) = xs.map (·.m)) (hl : xs.length ≤ 1048576) : ys.length ≤ 1048576 := by
  have := congrArg List.length em
  simp at this; omega
theorem l11Mode_c (A : Option Addr) (c : Nat) (xs : List ModeI) (mode : Int) (w : World) (hl : xs.length ≤ 1048576) :
    Calls Try.prog 41 #[.slice A xs.length c, .int .i64 mode] w (Ret fun v w' => v = .bool (inB mode 0 ((xs.length : Int) - 1)) ∧ Ext w w') := by
  have X := Ext.refl w
  refine calls_of (args := [.slice A xs.length c, .int .i64 mode]) Try.func41 Try.ntmps41 rfl rfl ?_
  refine c_seqR ?_
  refine ops_cons rfl (ow_assign rfl ?_)
  refine ops_nil ?_
  refine c_seqR ?_
  refine ops_cons rfl (ow_move rfl ?_)
  refine ops_cons rfl (ow_move rfl ?_)
  refine ops_cons rfl (ow_len Try.underlying26 rfl ?_)
  refine ops_cons rfl (ow_sub rfl rfl (w64 (by omega)) ?_)
  refine ops_cons rfl (ow_call ent61 rfl (ret_mono (l01In_c _ _ _ _) ?_))
  rintro _ w2 ⟨rfl, x1⟩
  replace X := Ext.trans X x1; clear x1
  refine ops_cons rfl (ow_assign rfl ?_)
  refine ops_nil ?_
  refine c_ret ?_
  refine fin_ret1 rfl rfl ?_
  exact ⟨by rfl, X⟩

theorem sCyc_c (A : Option Addr) (B B2 c : Nat) (xs : List ModeI) (mode : Int) (w : World) (hs : Sl B w A (xs.flatMap ModeI.cells)) (hn : Nexts B2 w xs) (hl : xs.length ≤ 1048576) (hz : ∀ x ∈ xs, x.m.next.length ≤ 1048576) :
    Calls Try.prog 11 #[.slice A xs.length c, .int .i64 mode] w (Ret fun v w' => v = .tuple #[.int .i64 (cycM (xs.map (·.m)) mode).1, .int .i64 (cycM (xs.map (·.m)) mode).2] ∧ Ext w w') := by
  have Bhs := hs.1
  have Bhn := hn.1
  have X := Ext.refl w
  refine calls_of (args := [.slice A xs.length c, .int .i64 mode]) Try.func11 Try.ntmps11 rfl rfl ?_
  refine c_seqR ?_
  refine ops_cons rfl (ow_assign rfl ?_)
  refine ops_cons rfl (ow_assign rfl ?_)
  refine ops_nil ?_
  refine c_seq ?_
  refine c_seqR ?_
  refine ops_cons rfl (ow_move rfl ?_)
  refine ops_cons rfl (ow_callB ent35 rfl (sIsMT_c _ _ _ _ _ _ hs hn hl hz) (fun w2 hT x1 => ?_) (fun w2 hT x1 => ?_))
  · skip
    replace hs := hs.ext x1
    replace hn := hn.ext x1
    replace X := Ext.trans X x1; clear x1
    refine ops_cons rfl (ow_not rfl ?_)
    refine ops_nil ?_
    refine c_false rfl ?_
    refine c_skip ?_
    refine tq_n ?_
    refine c_seq ?_
    refine c_seqR ?_
    refine ops_cons rfl (ow_move rfl ?_)
    refine ops_cons rfl (ow_move rfl ?_)
    refine ops_cons rfl (ow_callB ent41 rfl (l11Mode_c _ _ _ _ _ hl) (fun w4 hM x3 => ?_) (fun w4 hM x3 => ?_))
    · skip
      replace hs := hs.ext x3
      replace hn := hn.ext x3
      replace X := Ext.trans X x3; clear x3
      obtain ⟨j, x, hj, hx⟩ := mode_at hM
      have hr := modeOk_in (isMT_at hT (map_at (f := (·.m)) hx))
      have hmul := mul_in hr.1 hr.2.1
      refine ops_cons rfl (ow_not rfl ?_)
      refine ops_nil ?_
      refine c_false rfl ?_
      refine c_skip ?_
      refine tq_n ?_
      refine c_seqD [false, false, false, false, false, false, false, false, false, false, false, false, false] mixed (by kernel_rfl) ?_
      refine f_q rfl (fun wq sq => ow_move rfl ⟨rfl, Ext.refl _⟩) ?_
      refine f_q rfl (fun wq sq => ow_move rfl ⟨rfl, Ext.refl _⟩) ?_
      refine f_q rfl (fun wq sq => ow_indexT (hs.ext sq) ModeI.len rfl el26 rfl rfl rfl hx hj ⟨rfl, Ext.refl _⟩) ?_
      refine f_q rfl (fun wq sq => ow_fieldAddr off56_0 rfl ⟨rfl, Ext.refl _⟩) ?_
      refine f_q rfl (fun wq sq => ow_loadTF (hs.ext sq) ModeI.len hx ti2 rfl rfl rfl ⟨rfl, Ext.refl _⟩) ?_
      refine f_q rfl (fun wq sq => ow_move rfl ⟨rfl, Ext.refl _⟩) ?_
      refine f_q rfl (fun wq sq => ow_move rfl ⟨rfl, Ext.refl _⟩) ?_
      refine f_q rfl (fun wq sq => ow_indexT (hs.ext sq) ModeI.len rfl el26 rfl rfl rfl hx hj ⟨rfl, Ext.refl _⟩) ?_
      refine f_q rfl (fun wq sq => ow_fieldAddr off56_1 rfl ⟨rfl, Ext.refl _⟩) ?_
      refine f_q rfl (fun wq sq => ow_loadTF (hs.ext sq) ModeI.len hx ti2 rfl rfl rfl ⟨rfl, Ext.refl _⟩) ?_
      refine f_q rfl (fun wq sq => ow_mul rfl rfl (w64 (by omega)) ⟨rfl, Ext.refl _⟩) ?_
      refine f_q rfl (fun wq sq => ow_assign rfl ⟨rfl, Ext.refl _⟩) ?_
      refine f_q rfl (fun wq sq => ow_assign rfl ⟨rfl, Ext.refl _⟩) ?_
      refine f_nil (fun w5 sq => ?_)
      have xq := sq
      replace hs := hs.ext xq
      replace hn := hn.ext xq
      replace X := Ext.trans X xq; clear xq sq
      refine ops_nil ?_
      refine c_ret ?_
      refine fin_ret2 rfl rfl rfl ?_
      first
      | (have e : cycM (xs.map (·.m)) mode = (x.m.rounds * x.m.slots, 0) := by rw [cycM, if_pos hT, List.length_map, if_pos hM, hj, Int.toNat_natCast, map_at (f := (·.m)) hx]
         rw [e]; exact ⟨rfl, X⟩)
      | (have e : cycM (xs.map (·.m)) mode = (0, 2) := by rw [cycM, if_pos hT, List.length_map, if_neg (by simp [hM])]
         rw [e]; exact ⟨rfl, X⟩)
      | (have e : cycM (xs.map (·.m)) mode = (0, 1) := by rw [cycM, if_neg (by simp [hT])]
         rw [e]; exact ⟨rfl, X⟩)
    · skip
      replace hs := hs.ext x3
      replace hn := hn.ext x3
      replace X := Ext.trans X x3; clear x3
      refine ops_cons rfl (ow_not rfl ?_)
      refine ops_nil ?_
      refine c_true rfl ?_
      refine c_seqR ?_
      refine ops_cons rfl (ow_assign rfl ?_)
      refine ops_cons rfl (ow_assign rfl ?_)
      refine ops_nil ?_
      refine c_ret ?_
      refine tq_r ?_
      refine fin_ret2 rfl rfl rfl ?_
      first
      | (have e : cycM (xs.map (·.m)) mode = (x.m.rounds * x.m.slots, 0) := by rw [cycM, if_pos hT, List.length_map, if_pos hM, hj, Int.toNat_natCast, map_at (f := (·.m)) hx]
         rw [e]; exact ⟨rfl, X⟩)
      | (have e : cycM (xs.map (·.m)) mode = (0, 2) := by rw [cycM, if_pos hT, List.length_map, if_neg (by simp [hM])]
         rw [e]; exact ⟨rfl, X⟩)
      | (have e : cycM (xs.map (·.m)) mode = (0, 1) := by rw [cycM, if_neg (by simp [hT])]
         rw [e]; exact ⟨rfl, X⟩)
  · skip
    replace hs := hs.ext x1
    replace hn := hn.ext x1
    replace X := Ext.trans X x1; clear x1
    refine ops_cons rfl (ow_not rfl ?_)
    refine ops_nil ?_
    refine c_true rfl ?_
    refine c_seqR ?_
    refine ops_cons rfl (ow_assign rfl ?_)
    refine ops_cons rfl (ow_assign rfl ?_)
    refine ops_nil ?_
    refine c_ret ?_
    refine tq_r ?_
    refine fin_ret2 rfl rfl rfl ?_
    first
    | (have e : cycM (xs.map (·.m)) mode = (x.m.rounds * x.m.slots, 0) := by rw [cycM, if_pos hT, List.length_map, if_pos hM, hj, Int.toNat_natCast, map_at (f := (·.m)) hx]
       rw [e]; exact ⟨rfl, X⟩)
    | (have e : cycM (xs.map (·.m)) mode = (0, 2) := by rw [cycM, if_pos hT, List.length_map, if_neg (by simp [hM])]
       rw [e]; exact ⟨rfl, X⟩)
    | (have e : cycM (xs.map (·.m)) mode = (0, 1) := by rw [cycM, if_neg (by simp [hT])]
       rw [e]; exact ⟨rfl, X⟩)

theorem modesCode_c (A A' : Option Addr) (B B' B2 c c' : Nat) (xs : List ModeI) (ys : List Int) (w : World) (hs : Sl B w A (xs.flatMap ModeI.cells)) (hn : Nexts B2 w xs) (hl : xs.length ≤ 1048576) (hz : ∀ x ∈ xs, x.m.next.length ≤ 1048576) (ht : Sl B' w A' (ys.flatMap eI)) (hy : ys.length ≤ 1048576) :
    Calls Try.prog 43 #[.slice A xs.length c, .slice A' ys.length c'] w (Ret fun v w' => v = .int .i64 (mcode (xs.map (·.m)) ys) ∧ Ext w w') := by
  have Bhs := hs.1
  have Bhn := hn.1
  have Bht := ht.1
  have X := Ext.refl w
  refine calls_of (args := [.slice A xs.length c, .slice A' ys.length c']) Try.func43 Try.ntmps43 rfl rfl ?_
  refine c_seqR ?_
  refine ops_cons rfl (ow_assign rfl ?_)
  refine ops_nil ?_
  refine c_seq ?_
  refine c_seqR ?_
  refine ops_cons rfl (ow_move rfl ?_)
  refine ops_cons rfl (ow_callB ent34 rfl (iIsMT_c _ _ _ _ _ _ hs hn hl hz) (fun w2 hT x1 => ?_) (fun w2 hT x1 => ?_))
  · skip
    replace hs := hs.ext x1
    replace hn := hn.ext x1
    replace ht := ht.ext x1
    replace X := Ext.trans X x1; clear x1
    refine ops_cons rfl (ow_not rfl ?_)
    refine ops_nil ?_
    refine c_false rfl ?_
    refine c_skip ?_
    refine tq_n ?_
    refine c_seq ?_
    refine c_seqR ?_
    refine ops_cons rfl (ow_move rfl ?_)
    refine ops_cons rfl (ow_move rfl ?_)
    refine ops_cons rfl (ow_len Try.underlying26 rfl ?_)
    refine ops_cons rfl (ow_sub rfl rfl (w64 (by omega)) ?_)
    refine ops_cons rfl (ow_callB ent66 rfl (allWithin_c _ _ _ _ _ _ _ ht hy) (fun w4 hA x3 => ?_) (fun w4 hA x3 => ?_))
    · skip
      replace hs := hs.ext x3
      replace hn := hn.ext x3
      replace ht := ht.ext x3
      replace X := Ext.trans X x3; clear x3
      refine ops_cons rfl (ow_not rfl ?_)
      refine ops_nil ?_
      refine c_false rfl ?_
      refine c_skip ?_
      refine tq_n ?_
      refine c_seqR ?_
      refine ops_cons rfl (ow_assign rfl ?_)
      refine ops_nil ?_
      refine c_ret ?_
      refine fin_ret1 rfl rfl ?_
      refine ⟨congrArg (Value.int .i64) ?_, X⟩
      first
      | (rw [mcode, if_neg (by simp [hT])]; done)
      | (rw [mcode, if_pos hT, List.length_map, if_pos hA]; done)
      | (rw [mcode, if_pos hT, List.length_map, if_neg (by simp only [hA]; simp)])
    · skip
      replace hs := hs.ext x3
      replace hn := hn.ext x3
      replace ht := ht.ext x3
      replace X := Ext.trans X x3; clear x3
      refine ops_cons rfl (ow_not rfl ?_)
      refine ops_nil ?_
      refine c_true rfl ?_
      refine c_seqR ?_
      refine ops_cons rfl (ow_assign rfl ?_)
      refine ops_nil ?_
      refine c_ret ?_
      refine tq_r ?_
      refine fin_ret1 rfl rfl ?_
      refine ⟨congrArg (Value.int .i64) ?_, X⟩
      first
      | (rw [mcode, if_neg (by simp [hT])]; done)
      | (rw [mcode, if_pos hT, List.length_map, if_pos hA]; done)
      | (rw [mcode, if_pos hT, List.length_map, if_neg (by simp only [hA]; simp)])
  · skip
    replace hs := hs.ext x1
    replace hn := hn.ext x1
    replace ht := ht.ext x1
    replace X := Ext.trans X x1; clear x1
    refine ops_cons rfl (ow_not rfl ?_)
    refine ops_nil ?_
    refine c_true rfl ?_
    refine c_seqR ?_
    refine ops_cons rfl (ow_assign rfl ?_)
    refine ops_nil ?_
    refine c_ret ?_
    refine tq_r ?_
    refine fin_ret1 rfl rfl ?_
    refine ⟨congrArg (Value.int .i64) ?_, X⟩
    first
    | (rw [mcode, if_neg (by simp [hT])]; done)
    | (rw [mcode, if_pos hT, List.length_map, if_pos hA]; done)
    | (rw [mcode, if_pos hT, List.length_map, if_neg (by simp only [hA]; simp)])

theorem iCyc_c (A : Option Addr) (B B2 c : Nat) (xs : List ModeI) (mode : Int) (w : World) (hs : Sl B w A (xs.flatMap ModeI.cells)) (hn : Nexts B2 w xs) (hl : xs.length ≤ 1048576) (hz : ∀ x ∈ xs, x.m.next.length ≤ 1048576) :
    Calls Try.prog 13 #[.slice A xs.length c, .int .i64 mode] w (Ret fun v w' => v = .tuple #[.int .i64 (cycM (xs.map (·.m)) mode).1, .int .i64 (cycM (xs.map (·.m)) mode).2] ∧ Ext w w') := by
  have Bhs := hs.1
  have Bhn := hn.1
  have X := Ext.refl w
  refine calls_of (args := [.slice A xs.length c, .int .i64 mode]) Try.func13 Try.ntmps13 rfl rfl ?_
  refine c_seqR ?_
  refine ops_cons rfl (ow_assign rfl ?_)
  refine ops_cons rfl (ow_assign rfl ?_)
  refine ops_nil ?_
  refine c_seq ?_
  refine c_seqR ?_
  refine ops_cons rfl (ow_move rfl ?_)
  refine ops_cons rfl (ow_move rfl ?_)
  refine ops_cons rfl (ow_buildSlice el30 ti2 rfl rfl rfl rfl rfl ?_)
  intro g1 w3 eg1 oB bbg1 x2 zg1
  replace oB := Own.low oB X.size
  replace hs := hs.ext x2
  replace hn := hn.ext x2
  replace X := Ext.trans X x2; clear x2
  replace oB := oB.to (cs' := ([mode] : List Int).flatMap eI) rfl
  refine ops_cons rfl (ow_call ent43 rfl (ret_mono (modesCode_c _ _ _ _ _ _ _ xs [mode] _ hs hn hl hz oB.sl (by simp)) ?_))
  rintro _ w5 ⟨rfl, x4⟩
  replace hs := hs.ext x4
  replace hn := hn.ext x4
  replace oB := oB.ext x4
  replace X := Ext.trans X x4; clear x4
  refine ops_cons rfl (ow_assign rfl ?_)
  refine ops_nil ?_
  refine c_seqR ?_
  refine ops_cons rfl (ow_move rfl ?_)
  refine ops_cons rfl (ow_neq2 rfl rfl (fun hC => ?_) (fun hC => ?_))
  · skip
    refine ops_nil ?_
    refine c_true rfl ?_
    refine c_seqR ?_
    refine ops_cons rfl (ow_move rfl ?_)
    refine ops_cons rfl (ow_assign rfl ?_)
    refine ops_cons rfl (ow_assign rfl ?_)
    refine ops_nil ?_
    refine c_ret ?_
    refine tq_r ?_
    refine fin_ret2 rfl rfl rfl ?_
    first
    | (have e : cycM (xs.map (·.m)) mode = (x.m.rounds * x.m.slots, 0) := by rw [cycM, if_pos hT, List.length_map, if_pos hM, hj, Int.toNat_natCast, map_at (f := (·.m)) hx]
       rw [e]; exact ⟨rfl, X⟩)
    | (have e : cycM (xs.map (·.m)) mode = (0, mcode (xs.map (·.m)) [mode]) := by
         cases hT : isMT (xs.map (·.m))
         · rw [cycM, mcode, if_neg (by simp [hT]), if_neg (by simp [hT])]
         · cases hM : inB mode 0 ((xs.length : Int) - 1)
           · rw [cycM, mcode, if_pos hT, if_pos hT, List.length_map, if_neg (by simp [hM]), if_neg (by simp [hM])]
           · exfalso; rw [mcode, if_pos hT, List.length_map, if_pos (by simp [hM])] at hC; omega
       rw [e]; exact ⟨rfl, X⟩)
  · skip
    have hT : isMT (xs.map (·.m)) = true := by
      cases h : isMT (xs.map (·.m))
      · rw [mcode, if_neg (by simp [h])] at hC; omega
      · rfl
    have hM : inB mode 0 ((xs.length : Int) - 1) = true := by
      cases h : inB mode 0 ((xs.length : Int) - 1)
      · rw [mcode, if_pos hT, List.length_map, if_neg (by simp [h])] at hC; omega
      · rfl
    obtain ⟨j, x, hj, hx⟩ := mode_at hM
    have hr := modeOk_in (isMT_at hT (map_at (f := (·.m)) hx))
    have hmul := mul_in hr.1 hr.2.1
    refine ops_nil ?_
    refine c_false rfl ?_
    refine c_skip ?_
    refine tq_n ?_
    refine c_seqD [false, false, false, false, false, false, false, false, false, false, false, false, false] mixed (by kernel_rfl) ?_
    refine f_q rfl (fun wq sq => ow_move rfl ⟨rfl, Ext.refl _⟩) ?_
    refine f_q rfl (fun wq sq => ow_move rfl ⟨rfl, Ext.refl _⟩) ?_
    refine f_q rfl (fun wq sq => ow_indexT (hs.ext sq) ModeI.len rfl el26 rfl rfl rfl hx hj ⟨rfl, Ext.refl _⟩) ?_
    refine f_q rfl (fun wq sq => ow_fieldAddr off56_0 rfl ⟨rfl, Ext.refl _⟩) ?_
    refine f_q rfl (fun wq sq => ow_loadTF (hs.ext sq) ModeI.len hx ti2 rfl rfl rfl ⟨rfl, Ext.refl _⟩) ?_
    refine f_q rfl (fun wq sq => ow_move rfl ⟨rfl, Ext.refl _⟩) ?_
    refine f_q rfl (fun wq sq => ow_move rfl ⟨rfl, Ext.refl _⟩) ?_
    refine f_q rfl (fun wq sq => ow_indexT (hs.ext sq) ModeI.len rfl el26 rfl rfl rfl hx hj ⟨rfl, Ext.refl _⟩) ?_
    refine f_q rfl (fun wq sq => ow_fieldAddr off56_1 rfl ⟨rfl, Ext.refl _⟩) ?_
    refine f_q rfl (fun wq sq => ow_loadTF (hs.ext sq) ModeI.len hx ti2 rfl rfl rfl ⟨rfl, Ext.refl _⟩) ?_
    refine f_q rfl (fun wq sq => ow_mul rfl rfl (w64 (by omega)) ⟨rfl, Ext.refl _⟩) ?_
    refine f_q rfl (fun wq sq => ow_assign rfl ⟨rfl, Ext.refl _⟩) ?_
    refine f_q rfl (fun wq sq => ow_assign rfl ⟨rfl, Ext.refl _⟩) ?_
    refine f_nil (fun w6 sq => ?_)
    have xq := sq
    replace hs := hs.ext xq
    replace hn := hn.ext xq
    replace oB := oB.ext xq
    replace X := Ext.trans X xq; clear xq sq
    refine ops_nil ?_
    refine c_ret ?_
    refine fin_ret2 rfl rfl rfl ?_
    first
    | (have e : cycM (xs.map (·.m)) mode = (x.m.rounds * x.m.slots, 0) := by rw [cycM, if_pos hT, List.length_map, if_pos hM, hj, Int.toNat_natCast, map_at (f := (·.m)) hx]
       rw [e]; exact ⟨rfl, X⟩)
    | (have e : cycM (xs.map (·.m)) mode = (0, mcode (xs.map (·.m)) [mode]) := by
         cases hT : isMT (xs.map (·.m))
         · rw [cycM, mcode, if_neg (by simp [hT]), if_neg (by simp [hT])]
         · cases hM : inB mode 0 ((xs.length : Int) - 1)
           · rw [cycM, mcode, if_pos hT, if_pos hT, List.length_map, if_neg (by simp [hM]), if_neg (by simp [hM])]
           · exfalso; rw [mcode, if_pos hT, List.length_map, if_pos (by simp [hM])] at hC; omega
       rw [e]; exact ⟨rfl, X⟩)
end Go.Proofs.Ytfdiihhbfblfaaa
