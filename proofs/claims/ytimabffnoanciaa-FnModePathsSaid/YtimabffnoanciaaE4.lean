/- Modes and their tables: what is admitted. No condition. -/
import Derived.Test.YtimabffnoanciaaE2
namespace Go.Proofs.Ytimabffnoanciaa
open Go.RowKit
set_option linter.unusedVariables false
set_option linter.unusedSimpArgs false
set_option maxRecDepth 20000
theorem mode_at {xs : List ModeI} {mode : Int} (h : inB mode 0 ((xs.length : Int) - 1) = true) : ∃ (j : Nat) (x : ModeI), mode = (j : Int) ∧ xs[j]? = some x := by
  have h1 := inB_iff.1 h
  exact ⟨mode.toNat, xs[mode.toNat]'(by omega), by omega, List.getElem?_eq_getElem _⟩
theorem mul_in {a b : Int} (h1 : 1 ≤ a ∧ a ≤ 8) (h2 : 1 ≤ b ∧ b ≤ 16) : 1 ≤ a * b ∧ a * b ≤ 128 := by
  have h3 : 1 * 1 ≤ a * b := Int.mul_le_mul h1.1 h2.1 (by omega) (by omega)
  have h4 : a * b ≤ 8 * 16 := Int.mul_le_mul h1.2 h2.2 (by omega) (by omega)
  omega
def mcode (ms : List Mode) (ys : List Int) : Int := if isMT ms = true then (if (ys.all fun x => inB x 0 ((ms.length : Int) - 1)) = true then 0 else 2) else 1
theorem hz_of {xs ys : List ModeI} (em : ys.map (·.m) = xs.map (·.m)) (hz : ∀ x ∈ xs, x.m.next.length ≤ 1048576) : ∀ y ∈ ys, y.m.next.length ≤ 1048576 := fun y hy => by
  have h1 : y.m ∈ ys.map (·.m) := List.mem_map.2 ⟨y, hy, rfl⟩
  rw [em] at h1
  obtain ⟨x, hx, e⟩ := List.mem_map.1 h1
  rw [← e]; exact hz x hx
theorem hl_of {xs ys : List ModeI} (em : ys.map (·.m) = xs.map (·.m)) (hl : xs.length ≤ 1048576) : ys.length ≤ 1048576 := by
  have := congrArg List.length em
  simp at this; omega
theorem l11Mode_c (A : Option Addr) (c : Nat) (xs : List ModeI) (mode : Int) (w : World) (hl : xs.length ≤ 1048576) :
    Calls Try.prog 90 #[.slice A xs.length c, .int .i64 mode] w (Ret fun v w' => v = .bool (inB mode 0 ((xs.length : Int) - 1)) ∧ Ext w w') := by
  have X := Ext.refl w
  refine calls_of (args := [.slice A xs.length c, .int .i64 mode]) Try.func90 Try.ntmps90 rfl rfl ?_
  refine c_seqR ?_
  refine ops_cons rfl (ow_assign rfl ?_)
  refine ops_nil ?_
  refine c_seqR ?_
  refine ops_cons rfl (ow_move rfl ?_)
  refine ops_cons rfl (ow_move rfl ?_)
  refine ops_cons rfl (ow_len Try.underlying60 rfl ?_)
  refine ops_cons rfl (ow_sub rfl rfl (w64 (by omega)) ?_)
  refine ops_cons rfl (ow_call ent106 rfl (ret_mono (l01In_c _ _ _ _) ?_))
  rintro _ w2 ⟨rfl, x1⟩
  replace X := Ext.trans X x1; clear x1
  refine ops_cons rfl (ow_assign rfl ?_)
  refine ops_nil ?_
  refine c_ret ?_
  refine fin_ret1 rfl rfl ?_
  exact ⟨by rfl, X⟩

theorem modesCode_c (A A' : Option Addr) (B B' B2 c c' : Nat) (xs : List ModeI) (ys : List Int) (w : World) (hs : Sl B w A (xs.flatMap ModeI.cells)) (hn : Nexts B2 w xs) (hl : xs.length ≤ 1048576) (hz : ∀ x ∈ xs, x.m.next.length ≤ 1048576) (ht : Sl B' w A' (ys.flatMap eI)) (hy : ys.length ≤ 1048576) :
    Calls Try.prog 93 #[.slice A xs.length c, .slice A' ys.length c'] w (Ret fun v w' => v = .int .i64 (mcode (xs.map (·.m)) ys) ∧ Ext w w') := by
  have Bhs := hs.1
  have Bhn := hn.1
  have Bht := ht.1
  have X := Ext.refl w
  refine calls_of (args := [.slice A xs.length c, .slice A' ys.length c']) Try.func93 Try.ntmps93 rfl rfl ?_
  refine c_seqR ?_
  refine ops_cons rfl (ow_assign rfl ?_)
  refine ops_nil ?_
  refine c_seq ?_
  refine c_seqR ?_
  refine ops_cons rfl (ow_move rfl ?_)
  refine ops_cons rfl (ow_callB ent118 rfl (iIsMT_c _ _ _ _ _ _ hs hn hl hz) (fun w2 hT x1 => ?_) (fun w2 hT x1 => ?_))
  · skip
    replace hs := hs.ext x1
    replace hn := hn.ext x1
    replace ht := ht.ext x1
    replace X := Ext.trans X x1; clear x1
    refine ops_cons rfl (ow_not rfl ?_)
    refine ops_nil ?_
    refine c_false rfl ?_
    refine c_skip ?_
    refine tq_n ?_
    refine c_seq ?_
    refine c_seqR ?_
    refine ops_cons rfl (ow_move rfl ?_)
    refine ops_cons rfl (ow_move rfl ?_)
    refine ops_cons rfl (ow_len Try.underlying60 rfl ?_)
    refine ops_cons rfl (ow_sub rfl rfl (w64 (by omega)) ?_)
    refine ops_cons rfl (ow_callB ent107 rfl (allWithin_c _ _ _ _ _ _ _ ht hy) (fun w4 hA x3 => ?_) (fun w4 hA x3 => ?_))
    · skip
      replace hs := hs.ext x3
      replace hn := hn.ext x3
      replace ht := ht.ext x3
      replace X := Ext.trans X x3; clear x3
      refine ops_cons rfl (ow_not rfl ?_)
      refine ops_nil ?_
      refine c_false rfl ?_
      refine c_skip ?_
      refine tq_n ?_
      refine c_seqR ?_
      refine ops_cons rfl (ow_assign rfl ?_)
      refine ops_nil ?_
      refine c_ret ?_
      refine fin_ret1 rfl rfl ?_
      refine ⟨congrArg (Value.int .i64) ?_, X⟩
      first
      | (rw [mcode, if_neg (by simp [hT])]; done)
      | (rw [mcode, if_pos hT, List.length_map, if_pos hA]; done)
      | (rw [mcode, if_pos hT, List.length_map, if_neg (by simp only [hA]; simp)])
    · skip
      replace hs := hs.ext x3
      replace hn := hn.ext x3
      replace ht := ht.ext x3
      replace X := Ext.trans X x3; clear x3
      refine ops_cons rfl (ow_not rfl ?_)
      refine ops_nil ?_
      refine c_true rfl ?_
      refine c_seqR ?_
      refine ops_cons rfl (ow_assign rfl ?_)
      refine ops_nil ?_
      refine c_ret ?_
      refine tq_r ?_
      refine fin_ret1 rfl rfl ?_
      refine ⟨congrArg (Value.int .i64) ?_, X⟩
      first
      | (rw [mcode, if_neg (by simp [hT])]; done)
      | (rw [mcode, if_pos hT, List.length_map, if_pos hA]; done)
      | (rw [mcode, if_pos hT, List.length_map, if_neg (by simp only [hA]; simp)])
  · skip
    replace hs := hs.ext x1
    replace hn := hn.ext x1
    replace ht := ht.ext x1
    replace X := Ext.trans X x1; clear x1
    refine ops_cons rfl (ow_not rfl ?_)
    refine ops_nil ?_
    refine c_true rfl ?_
    refine c_seqR ?_
    refine ops_cons rfl (ow_assign rfl ?_)
    refine ops_nil ?_
    refine c_ret ?_
    refine tq_r ?_
    refine fin_ret1 rfl rfl ?_
    refine ⟨congrArg (Value.int .i64) ?_, X⟩
    first
    | (rw [mcode, if_neg (by simp [hT])]; done)
    | (rw [mcode, if_pos hT, List.length_map, if_pos hA]; done)
    | (rw [mcode, if_pos hT, List.length_map, if_neg (by simp only [hA]; simp)])
end Go.Proofs.Ytimabffnoanciaa
