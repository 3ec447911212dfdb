/- What planning answers. No condition. -/
import Derived.Test.YtimabffnoanciaaPQ
import Derived.Test.YtimabffnoanciaaPB
namespace Go.Proofs.Ytimabffnoanciaa
open Go.RowKit
set_option linter.unusedVariables false
set_option linter.unusedSimpArgs false
set_option maxRecDepth 20000
def planF (xs : List Dem) (rounds slots : Int) : List Bk × Int := if codeP xs rounds slots ≠ 0 then ([], codeP xs rounds slots) else match planL slots.toNat xs 0 (tab0 rounds.toNat slots.toNat) with
  | none => ([], 4)
  | some bs => (bs, 0)
def tabF (xs : List Dem) (rounds slots : Int) (bks : List Bk) : Tbl × Int := if codeP xs rounds slots ≠ 0 then ([], codeP xs rounds slots) else match tabL xs bks 0 (tab0 rounds.toNat slots.toNat) with
  | none => ([], 5)
  | some T => (T, 0)
def needP (xs : List Dem) (R : Nat) (s : Nat) : Bool := (planL s xs 0 (tab0 R s)).isSome
def needF (xs : List Dem) (rounds : Int) : Int × Int := if codeP xs rounds 1 ≠ 0 then (0, codeP xs rounds 1) else match firstF (needP xs rounds.toNat) 16 1 with
  | none => (0, 4)
  | some s => ((s : Int), 0)
theorem planF_code {xs : List Dem} {rounds slots : Int} (h : codeP xs rounds slots ≠ 0) : planF xs rounds slots = ([], codeP xs rounds slots) := by rw [planF, if_pos h]
theorem planF_none {xs : List Dem} {R S : Nat} (h : ¬ codeP xs R S ≠ 0) (hn : (planL S xs 0 (tab0 R S)).isSome = false) : planF xs R S = ([], 4) := by
  rw [planF, if_neg h, Int.toNat_natCast, Int.toNat_natCast]
  cases h2 : planL S xs 0 (tab0 R S) with
  | none => rfl
  | some bs => rw [h2] at hn; cases hn
theorem planF_some {xs : List Dem} {R S : Nat} (h : ¬ codeP xs R S ≠ 0) (hn : (planL S xs 0 (tab0 R S)).isSome = true) : planF xs R S = ((planL S xs 0 (tab0 R S)).getD [], 0) := by
  rw [planF, if_neg h, Int.toNat_natCast, Int.toNat_natCast]
  cases h2 : planL S xs 0 (tab0 R S) with
  | none => rw [h2] at hn; cases hn
  | some bs => rfl
theorem tabF_code {xs : List Dem} {rounds slots : Int} {bks : List Bk} (h : codeP xs rounds slots ≠ 0) : tabF xs rounds slots bks = ([], codeP xs rounds slots) := by rw [tabF, if_pos h]
theorem tabF_none {xs : List Dem} {R S : Nat} {bks : List Bk} (h : ¬ codeP xs R S ≠ 0) (hn : (tabL xs bks 0 (tab0 R S)).isSome = false) : tabF xs R S bks = ([], 5) := by
  rw [tabF, if_neg h, Int.toNat_natCast, Int.toNat_natCast]
  cases h2 : tabL xs bks 0 (tab0 R S) with
  | none => rfl
  | some bs => rw [h2] at hn; cases hn
theorem tabF_some {xs : List Dem} {R S : Nat} {bks : List Bk} (h : ¬ codeP xs R S ≠ 0) (hn : (tabL xs bks 0 (tab0 R S)).isSome = true) : tabF xs R S bks = ((tabL xs bks 0 (tab0 R S)).getD [], 0) := by
  rw [tabF, if_neg h, Int.toNat_natCast, Int.toNat_natCast]
  cases h2 : tabL xs bks 0 (tab0 R S) with
  | none => rw [h2] at hn; cases hn
  | some bs => rfl
theorem planF_len (xs : List Dem) (rounds slots : Int) : (planF xs rounds slots).1.length ≤ 1048576 := by
  by_cases h : codeP xs rounds slots ≠ 0
  · rw [planF_code h]; exact Nat.zero_le _
  · have hD := (codeP_ok h).1
    rw [planF, if_neg h]
    split
    · exact Nat.zero_le _
    · rename_i bs hb
      have h1 := planL_len _ _ _ _ hb
      have h2 := areD_len hD
      show bs.length ≤ _
      omega
theorem needF_code {xs : List Dem} {rounds : Int} (h : codeP xs rounds 1 ≠ 0) : needF xs rounds = (0, codeP xs rounds 1) := by rw [needF, if_pos h]
theorem needF_some {xs : List Dem} {R s : Nat} (h : ¬ codeP xs R 1 ≠ 0) (hn : firstF (needP xs R) 16 1 = some s) : needF xs R = ((s : Int), 0) := by rw [needF, if_neg h, Int.toNat_natCast, hn]
theorem needF_none {xs : List Dem} {R : Nat} (h : ¬ codeP xs R 1 ≠ 0) (hn : firstF (needP xs R) 16 1 = none) : needF xs R = (0, 4) := by rw [needF, if_neg h, Int.toNat_natCast, hn]
theorem sPD_c (A : Option Addr) (B c : Nat) (xs : List Dem) (rounds slots : Int) (w : World) (hs : Sl B w A (xs.flatMap Dem.cells)) (hl : xs.length ≤ 1048576) :
    Calls Try.prog 39 #[.slice A xs.length c, .int .i64 rounds, .int .i64 slots] w (Ret fun v w' => ∃ A' c', v = .tuple #[.slice A' (planF xs rounds slots).1.length c', .int .i64 (planF xs rounds slots).2] ∧ Own w' w.heap.size 102 2 A' (planF xs rounds slots).1.length c' ((planF xs rounds slots).1.flatMap Bk.cells) ∧ Ext w w') := by
  have Bhs := hs.1
  have X := Ext.refl w
  refine calls_of (args := [.slice A xs.length c, .int .i64 rounds, .int .i64 slots]) Try.func39 Try.ntmps39 rfl rfl ?_
  refine c_seqR ?_
  refine ops_cons rfl (ow_assign rfl ?_)
  refine ops_cons rfl (ow_assign rfl ?_)
  refine ops_nil ?_
  refine c_seqR ?_
  refine ops_cons rfl (ow_move rfl ?_)
  refine ops_cons rfl (ow_move rfl ?_)
  refine ops_cons rfl (ow_move rfl ?_)
  refine ops_cons rfl (ow_call ent74 rfl (ret_mono (sCode_c _ _ _ _ _ _ _ hs hl) ?_))
  rintro _ w2 ⟨rfl, x1⟩
  replace hs := hs.ext x1
  replace X := Ext.trans X x1; clear x1
  refine ops_cons rfl (ow_assign rfl ?_)
  refine ops_nil ?_
  refine c_seq ?_
  refine c_seqR ?_
  refine ops_cons rfl (ow_move rfl ?_)
  refine ops_cons rfl (ow_neq2 rfl rfl (fun hc => ?_) (fun hc => ?_))
  · skip
    refine ops_nil ?_
    refine c_true rfl ?_
    refine c_seqR ?_
    refine ops_cons rfl (ow_move rfl ?_)
    refine ops_cons rfl (ow_assign rfl ?_)
    refine ops_cons rfl (ow_assign rfl ?_)
    refine ops_nil ?_
    refine c_ret ?_
    refine tq_r ?_
    refine fin_ret2 rfl rfl rfl ?_
    first
    | (rw [planF_code hc]; exact ⟨none, 0, rfl, Own.nil_ _ _ _ _, X⟩)
    | (rw [planF_none hc hF]; exact ⟨none, 0, rfl, Own.nil_ _ _ _ _, X⟩)
    | (rw [planF_some hc hF]; exact ⟨_, _, rfl, oR, X⟩)
  · skip
    obtain ⟨hD, hr, hsl⟩ := codeP_ok hc
    obtain ⟨R, rfl⟩ : ∃ R : Nat, rounds = R := ⟨rounds.toNat, by omega⟩
    obtain ⟨S, rfl⟩ : ∃ S : Nat, slots = S := ⟨slots.toNat, by omega⟩
    refine ops_nil ?_
    refine c_false rfl ?_
    refine c_skip ?_
    refine tq_n ?_
    refine c_seqR ?_
    refine ops_cons rfl (ow_move rfl ?_)
    refine ops_cons rfl (ow_move rfl ?_)
    refine ops_cons rfl (ow_move rfl ?_)
    refine ops_cons rfl (ow_call ent75 rfl (ret_mono (sPlan_c _ _ _ xs R S _ hs (areD_every hD) (areD_len hD) (by omega) (by omega)) ?_))
    rintro _ w4 ⟨A5, c6, rfl, oR, x3⟩
    replace oR := Own.low oR X.size
    replace hs := hs.ext x3
    replace X := Ext.trans X x3; clear x3
    refine ops_cons rfl (ow_move rfl ?_)
    refine ops_cons rfl (ow_extract rfl rfl ?_)
    refine ops_cons rfl (ow_extract rfl rfl ?_)
    refine ops_cons rfl (ow_assign rfl ?_)
    refine ops_cons rfl (ow_assign rfl ?_)
    refine ops_nil ?_
    refine c_seq ?_
    refine c_seqR ?_
    refine ops_cons rfl (ow_move rfl ?_)
    refine ops_cons rfl (ow_not rfl ?_)
    cases hF0 : (!(planL S xs 0 (tab0 R S)).isSome)
    · skip
      have hF : (planL S xs 0 (tab0 R S)).isSome = true := by simpa using hF0
      refine ops_nil ?_
      refine c_false rfl ?_
      refine c_skip ?_
      refine tq_n ?_
      refine c_seqR ?_
      refine ops_cons rfl (ow_move rfl ?_)
      refine ops_cons rfl (ow_assign rfl ?_)
      refine ops_cons rfl (ow_assign rfl ?_)
      refine ops_nil ?_
      refine c_ret ?_
      refine fin_ret2 rfl rfl rfl ?_
      first
      | (rw [planF_code hc]; exact ⟨none, 0, rfl, Own.nil_ _ _ _ _, X⟩)
      | (rw [planF_none hc hF]; exact ⟨none, 0, rfl, Own.nil_ _ _ _ _, X⟩)
      | (rw [planF_some hc hF]; exact ⟨_, _, rfl, oR, X⟩)
    · skip
      have hF : (planL S xs 0 (tab0 R S)).isSome = false := by simpa using hF0
      refine ops_nil ?_
      refine c_true rfl ?_
      refine c_seqR ?_
      refine ops_cons rfl (ow_assign rfl ?_)
      refine ops_cons rfl (ow_assign rfl ?_)
      refine ops_nil ?_
      refine c_ret ?_
      refine tq_r ?_
      refine fin_ret2 rfl rfl rfl ?_
      first
      | (rw [planF_code hc]; exact ⟨none, 0, rfl, Own.nil_ _ _ _ _, X⟩)
      | (rw [planF_none hc hF]; exact ⟨none, 0, rfl, Own.nil_ _ _ _ _, X⟩)
      | (rw [planF_some hc hF]; exact ⟨_, _, rfl, oR, X⟩)

theorem iPD_c (A : Option Addr) (B c : Nat) (xs : List Dem) (rounds slots : Int) (w : World) (hs : Sl B w A (xs.flatMap Dem.cells)) (hl : xs.length ≤ 1048576) :
    Calls Try.prog 33 #[.slice A xs.length c, .int .i64 rounds, .int .i64 slots] w (Ret fun v w' => ∃ A' c', v = .tuple #[.slice A' (planF xs rounds slots).1.length c', .int .i64 (planF xs rounds slots).2] ∧ Own w' w.heap.size 102 2 A' (planF xs rounds slots).1.length c' ((planF xs rounds slots).1.flatMap Bk.cells) ∧ Ext w w') := by
  have Bhs := hs.1
  have X := Ext.refl w
  refine calls_of (args := [.slice A xs.length c, .int .i64 rounds, .int .i64 slots]) Try.func33 Try.ntmps33 rfl rfl ?_
  refine c_seqR ?_
  refine ops_cons rfl (ow_assign rfl ?_)
  refine ops_cons rfl (ow_assign rfl ?_)
  refine ops_nil ?_
  refine c_seq ?_
  refine c_seqR ?_
  refine ops_cons rfl (ow_move rfl ?_)
  refine ops_cons rfl (ow_move rfl ?_)
  refine ops_cons rfl (ow_move rfl ?_)
  refine ops_cons rfl (ow_call ent77 rfl (ret_mono (iCode_c _ _ _ _ _ _ _ hs hl) ?_))
  rintro _ w2 ⟨rfl, x1⟩
  replace hs := hs.ext x1
  replace X := Ext.trans X x1; clear x1
  refine ops_cons rfl (ow_assign rfl ?_)
  refine ops_nil ?_
  refine c_seqR ?_
  refine ops_cons rfl (ow_move rfl ?_)
  refine ops_cons rfl (ow_neq2 rfl rfl (fun hc => ?_) (fun hc => ?_))
  · skip
    refine ops_nil ?_
    refine c_true rfl ?_
    refine c_seqR ?_
    refine ops_cons rfl (ow_move rfl ?_)
    refine ops_cons rfl (ow_assign rfl ?_)
    refine ops_cons rfl (ow_assign rfl ?_)
    refine ops_nil ?_
    refine c_ret ?_
    refine tq_r ?_
    refine fin_ret2 rfl rfl rfl ?_
    first
    | (rw [planF_code hc]; exact ⟨none, 0, rfl, Own.nil_ _ _ _ _, X⟩)
    | (rw [planF_none hc hF]; exact ⟨none, 0, rfl, Own.nil_ _ _ _ _, X⟩)
    | (rw [planF_some hc hF]; exact ⟨_, _, rfl, oR, X⟩)
  · skip
    obtain ⟨hD, hr, hsl⟩ := codeP_ok hc
    obtain ⟨R, rfl⟩ : ∃ R : Nat, rounds = R := ⟨rounds.toNat, by omega⟩
    obtain ⟨S, rfl⟩ : ∃ S : Nat, slots = S := ⟨slots.toNat, by omega⟩
    refine ops_nil ?_
    refine c_false rfl ?_
    refine c_skip ?_
    refine tq_n ?_
    refine c_seqR ?_
    refine ops_cons rfl (ow_move rfl ?_)
    refine ops_cons rfl (ow_move rfl ?_)
    refine ops_cons rfl (ow_move rfl ?_)
    refine ops_cons rfl (ow_call ent78 rfl (ret_mono (iPlan_c _ _ _ xs R S _ hs (areD_every hD) (areD_len hD) (by omega) (by omega)) ?_))
    rintro _ w4 ⟨A5, c6, rfl, oR, x3⟩
    replace oR := Own.low oR X.size
    replace hs := hs.ext x3
    replace X := Ext.trans X x3; clear x3
    refine ops_cons rfl (ow_move rfl ?_)
    refine ops_cons rfl (ow_extract rfl rfl ?_)
    refine ops_cons rfl (ow_extract rfl rfl ?_)
    refine ops_cons rfl (ow_assign rfl ?_)
    refine ops_cons rfl (ow_assign rfl ?_)
    refine ops_nil ?_
    refine c_seq ?_
    refine c_seqR ?_
    refine ops_cons rfl (ow_move rfl ?_)
    refine ops_cons rfl (ow_not rfl ?_)
    cases hF0 : (!(planL S xs 0 (tab0 R S)).isSome)
    · skip
      have hF : (planL S xs 0 (tab0 R S)).isSome = true := by simpa using hF0
      refine ops_nil ?_
      refine c_false rfl ?_
      refine c_skip ?_
      refine tq_n ?_
      refine c_seqR ?_
      refine ops_cons rfl (ow_move rfl ?_)
      refine ops_cons rfl (ow_assign rfl ?_)
      refine ops_cons rfl (ow_assign rfl ?_)
      refine ops_nil ?_
      refine c_ret ?_
      refine fin_ret2 rfl rfl rfl ?_
      first
      | (rw [planF_code hc]; exact ⟨none, 0, rfl, Own.nil_ _ _ _ _, X⟩)
      | (rw [planF_none hc hF]; exact ⟨none, 0, rfl, Own.nil_ _ _ _ _, X⟩)
      | (rw [planF_some hc hF]; exact ⟨_, _, rfl, oR, X⟩)
    · skip
      have hF : (planL S xs 0 (tab0 R S)).isSome = false := by simpa using hF0
      refine ops_nil ?_
      refine c_true rfl ?_
      refine c_seqR ?_
      refine ops_cons rfl (ow_assign rfl ?_)
      refine ops_cons rfl (ow_assign rfl ?_)
      refine ops_nil ?_
      refine c_ret ?_
      refine tq_r ?_
      refine fin_ret2 rfl rfl rfl ?_
      first
      | (rw [planF_code hc]; exact ⟨none, 0, rfl, Own.nil_ _ _ _ _, X⟩)
      | (rw [planF_none hc hF]; exact ⟨none, 0, rfl, Own.nil_ _ _ _ _, X⟩)
      | (rw [planF_some hc hF]; exact ⟨_, _, rfl, oR, X⟩)

theorem sSN_c (A : Option Addr) (B c : Nat) (xs : List Dem) (rounds : Int) (w : World) (hs : Sl B w A (xs.flatMap Dem.cells)) (hl : xs.length ≤ 1048576) :
    Calls Try.prog 24 #[.slice A xs.length c, .int .i64 rounds] w (Ret fun v w' => v = .tuple #[.int .i64 (needF xs rounds).1, .int .i64 (needF xs rounds).2] ∧ Ext w w') := by
  have Bhs := hs.1
  have X := Ext.refl w
  refine calls_of (args := [.slice A xs.length c, .int .i64 rounds]) Try.func24 Try.ntmps24 rfl rfl ?_
  refine c_seqR ?_
  refine ops_cons rfl (ow_assign rfl ?_)
  refine ops_cons rfl (ow_assign rfl ?_)
  refine ops_nil ?_
  refine c_seqR ?_
  refine ops_cons rfl (ow_move rfl ?_)
  refine ops_cons rfl (ow_move rfl ?_)
  refine ops_cons rfl (ow_call ent74 rfl (ret_mono (sCode_c _ _ _ _ _ _ _ hs hl) ?_))
  rintro _ w2 ⟨rfl, x1⟩
  replace hs := hs.ext x1
  replace X := Ext.trans X x1; clear x1
  refine ops_cons rfl (ow_assign rfl ?_)
  refine ops_nil ?_
  refine c_seq ?_
  refine c_seqR ?_
  refine ops_cons rfl (ow_move rfl ?_)
  refine ops_cons rfl (ow_neq2 rfl rfl (fun hc => ?_) (fun hc => ?_))
  · skip
    refine ops_nil ?_
    refine c_true rfl ?_
    refine c_seqR ?_
    refine ops_cons rfl (ow_move rfl ?_)
    refine ops_cons rfl (ow_assign rfl ?_)
    refine ops_cons rfl (ow_assign rfl ?_)
    refine ops_nil ?_
    refine c_ret ?_
    refine tq_r ?_
    refine fin_ret2 rfl rfl rfl ?_
    first
    | (rw [needF_code hc]; exact ⟨rfl, X⟩)
    | (rw [needF_some hc hY]; exact ⟨rfl, X⟩)
    | (rw [needF_none hc (by rw [hq, firstF_zero (by omega)])]; exact ⟨rfl, X⟩)
  · skip
    obtain ⟨hD, hr, hsl⟩ := codeP_ok hc
    obtain ⟨R, rfl⟩ : ∃ R : Nat, rounds = R := ⟨rounds.toNat, by omega⟩
    refine ops_nil ?_
    refine c_false rfl ?_
    refine c_skip ?_
    refine tq_n ?_
    refine c_seq ?_
    refine c_seqR ?_
    refine ops_cons rfl (ow_assign rfl ?_)
    refine ops_nil ?_
    refine c_block ?_
    refine c_loop (G := Nat) (fun k => [(0, .slice A xs.length c), (1, .int .i64 (R : Nat)), (7, .int .i64 (k : Nat))]) (fun k wr => (1 ≤ k ∧ k ≤ 17) ∧ firstF (needP xs R) 16 1 = firstF (needP xs R) (17 - k) k ∧ Sl B wr A (xs.flatMap Dem.cells) ∧ Ext w wr) (fun k => 17 - k) 1 (.cons rfl (.cons rfl (.cons rfl (.nil _)))) ?_ ?_
    · exact ⟨by omega, rfl, hs, X⟩
    clear hs
    clear X
    rintro k wr ⟨hk0, hq, hs, X⟩
    refine c_seq ?_
    refine c_seqR ?_
    refine ops_cons rfl (ow_move rfl ?_)
    refine ops_cons rfl (ow_leq2 rfl rfl (fun hk => ?_) (fun hk => ?_))
    · skip
      refine ops_nil ?_
      refine c_true rfl ?_
      refine c_skip ?_
      refine tq_n ?_
      refine c_seq ?_
      refine c_block ?_
      refine c_seqR ?_
      refine ops_cons rfl (ow_move rfl ?_)
      refine ops_cons rfl (ow_move rfl ?_)
      refine ops_cons rfl (ow_move rfl ?_)
      refine ops_cons rfl (ow_call ent75 rfl (ret_mono (sPlan_c _ _ _ xs R k _ hs (areD_every hD) (areD_len hD) (by omega) (by omega)) ?_))
      rintro _ w4 ⟨A5, c6, rfl, oR, x3⟩
      replace oR := Own.low oR X.size
      replace hs := hs.ext x3
      replace X := Ext.trans X x3; clear x3
      refine ops_cons rfl (ow_move rfl ?_)
      refine ops_cons rfl (ow_extract rfl rfl ?_)
      refine ops_cons rfl (ow_extract rfl rfl ?_)
      refine ops_cons rfl (ow_assign rfl ?_)
      refine ops_cons rfl (ow_assign rfl ?_)
      cases hP : (planL k xs 0 (tab0 R k)).isSome
      · skip
        refine ops_nil ?_
        refine c_seqR ?_
        refine ops_cons rfl (ow_move rfl ?_)
        refine ops_nil ?_
        refine c_false rfl ?_
        refine c_skip ?_
        refine bq_n ?_
        refine tq_n ?_
        refine c_region ?_
        refine ops_cons rfl (ow_move rfl ?_)
        refine ops_cons rfl (ow_add rfl rfl (w64 (by omega)) ?_)
        refine ops_cons rfl (ow_assign rfl ?_)
        refine ops_nil ?_
        refine tq_n ⟨k + 1, (.cons rfl (.cons rfl (.cons rfl (.nil _)))), ?_, ?_⟩
        · exact ⟨by omega, (by rw [hq, firstF_no (by omega) hP]; rfl), hs, X⟩
        · first | omega | (dsimp only; omega)
      · skip
        have hY : firstF (needP xs R) 16 1 = some k := by rw [hq, firstF_yes (by omega) hP]
        refine ops_nil ?_
        refine c_seqR ?_
        refine ops_cons rfl (ow_move rfl ?_)
        refine ops_nil ?_
        refine c_true rfl ?_
        refine c_seqR ?_
        refine ops_cons rfl (ow_move rfl ?_)
        refine ops_cons rfl (ow_assign rfl ?_)
        refine ops_cons rfl (ow_assign rfl ?_)
        refine ops_nil ?_
        refine c_ret ?_
        refine bq_r ?_
        refine tq_r ?_
        refine tq_r ?_
        refine bq_r ?_
        refine tq_r ?_
        refine fin_ret2 rfl rfl rfl ?_
        first
        | (rw [needF_code hc]; exact ⟨rfl, X⟩)
        | (rw [needF_some hc hY]; exact ⟨rfl, X⟩)
        | (rw [needF_none hc (by rw [hq, firstF_zero (by omega)])]; exact ⟨rfl, X⟩)
    · skip
      refine ops_nil ?_
      refine c_false rfl ?_
      refine c_exit ?_
      refine tq_e ?_
      refine tq_e ?_
      refine bq_e ?_
      refine tq_n ?_
      refine c_seqR ?_
      refine ops_cons rfl (ow_assign rfl ?_)
      refine ops_cons rfl (ow_assign rfl ?_)
      refine ops_nil ?_
      refine c_ret ?_
      refine fin_ret2 rfl rfl rfl ?_
      first
      | (rw [needF_code hc]; exact ⟨rfl, X⟩)
      | (rw [needF_some hc hY]; exact ⟨rfl, X⟩)
      | (rw [needF_none hc (by rw [hq, firstF_zero (by omega)])]; exact ⟨rfl, X⟩)

theorem iSN_c (A : Option Addr) (B c : Nat) (xs : List Dem) (rounds : Int) (w : World) (hs : Sl B w A (xs.flatMap Dem.cells)) (hl : xs.length ≤ 1048576) :
    Calls Try.prog 26 #[.slice A xs.length c, .int .i64 rounds] w (Ret fun v w' => v = .tuple #[.int .i64 (needF xs rounds).1, .int .i64 (needF xs rounds).2] ∧ Ext w w') := by
  have Bhs := hs.1
  have X := Ext.refl w
  refine calls_of (args := [.slice A xs.length c, .int .i64 rounds]) Try.func26 Try.ntmps26 rfl rfl ?_
  refine c_seqR ?_
  refine ops_cons rfl (ow_assign rfl ?_)
  refine ops_cons rfl (ow_assign rfl ?_)
  refine ops_nil ?_
  refine c_seq ?_
  refine c_seqR ?_
  refine ops_cons rfl (ow_move rfl ?_)
  refine ops_cons rfl (ow_move rfl ?_)
  refine ops_cons rfl (ow_call ent77 rfl (ret_mono (iCode_c _ _ _ _ _ _ _ hs hl) ?_))
  rintro _ w2 ⟨rfl, x1⟩
  replace hs := hs.ext x1
  replace X := Ext.trans X x1; clear x1
  refine ops_cons rfl (ow_assign rfl ?_)
  refine ops_nil ?_
  refine c_seqR ?_
  refine ops_cons rfl (ow_move rfl ?_)
  refine ops_cons rfl (ow_neq2 rfl rfl (fun hc => ?_) (fun hc => ?_))
  · skip
    refine ops_nil ?_
    refine c_true rfl ?_
    refine c_seqR ?_
    refine ops_cons rfl (ow_move rfl ?_)
    refine ops_cons rfl (ow_assign rfl ?_)
    refine ops_cons rfl (ow_assign rfl ?_)
    refine ops_nil ?_
    refine c_ret ?_
    refine tq_r ?_
    refine fin_ret2 rfl rfl rfl ?_
    first
    | (rw [needF_code hc]; exact ⟨rfl, X⟩)
    | (rw [needF_some hc hY]; exact ⟨rfl, X⟩)
    | (rw [needF_none hc (by rw [hq, firstF_zero (by omega)])]; exact ⟨rfl, X⟩)
  · skip
    obtain ⟨hD, hr, hsl⟩ := codeP_ok hc
    obtain ⟨R, rfl⟩ : ∃ R : Nat, rounds = R := ⟨rounds.toNat, by omega⟩
    refine ops_nil ?_
    refine c_false rfl ?_
    refine c_skip ?_
    refine tq_n ?_
    refine c_seq ?_
    refine c_seqR ?_
    refine ops_cons rfl (ow_assign rfl ?_)
    refine ops_nil ?_
    refine c_block ?_
    refine c_loop (G := Nat) (fun k => [(0, .slice A xs.length c), (1, .int .i64 (R : Nat)), (7, .int .i64 (k : Nat))]) (fun k wr => (1 ≤ k ∧ k ≤ 17) ∧ firstF (needP xs R) 16 1 = firstF (needP xs R) (17 - k) k ∧ Sl B wr A (xs.flatMap Dem.cells) ∧ Ext w wr) (fun k => 17 - k) 1 (.cons rfl (.cons rfl (.cons rfl (.nil _)))) ?_ ?_
    · exact ⟨by omega, rfl, hs, X⟩
    clear hs
    clear X
    rintro k wr ⟨hk0, hq, hs, X⟩
    refine c_seq ?_
    refine c_seqR ?_
    refine ops_cons rfl (ow_move rfl ?_)
    refine ops_cons rfl (ow_leq2 rfl rfl (fun hk => ?_) (fun hk => ?_))
    · skip
      refine ops_nil ?_
      refine c_true rfl ?_
      refine c_skip ?_
      refine tq_n ?_
      refine c_seq ?_
      refine c_block ?_
      refine c_seqR ?_
      refine ops_cons rfl (ow_move rfl ?_)
      refine ops_cons rfl (ow_move rfl ?_)
      refine ops_cons rfl (ow_move rfl ?_)
      refine ops_cons rfl (ow_call ent78 rfl (ret_mono (iPlan_c _ _ _ xs R k _ hs (areD_every hD) (areD_len hD) (by omega) (by omega)) ?_))
      rintro _ w4 ⟨A5, c6, rfl, oR, x3⟩
      replace oR := Own.low oR X.size
      replace hs := hs.ext x3
      replace X := Ext.trans X x3; clear x3
      refine ops_cons rfl (ow_move rfl ?_)
      refine ops_cons rfl (ow_extract rfl rfl ?_)
      refine ops_cons rfl (ow_extract rfl rfl ?_)
      refine ops_cons rfl (ow_assign rfl ?_)
      refine ops_cons rfl (ow_assign rfl ?_)
      cases hP : (planL k xs 0 (tab0 R k)).isSome
      · skip
        refine ops_nil ?_
        refine c_seqR ?_
        refine ops_cons rfl (ow_move rfl ?_)
        refine ops_nil ?_
        refine c_false rfl ?_
        refine c_skip ?_
        refine bq_n ?_
        refine tq_n ?_
        refine c_region ?_
        refine ops_cons rfl (ow_move rfl ?_)
        refine ops_cons rfl (ow_add rfl rfl (w64 (by omega)) ?_)
        refine ops_cons rfl (ow_assign rfl ?_)
        refine ops_nil ?_
        refine tq_n ⟨k + 1, (.cons rfl (.cons rfl (.cons rfl (.nil _)))), ?_, ?_⟩
        · exact ⟨by omega, (by rw [hq, firstF_no (by omega) hP]; rfl), hs, X⟩
        · first | omega | (dsimp only; omega)
      · skip
        have hY : firstF (needP xs R) 16 1 = some k := by rw [hq, firstF_yes (by omega) hP]
        refine ops_nil ?_
        refine c_seqR ?_
        refine ops_cons rfl (ow_move rfl ?_)
        refine ops_nil ?_
        refine c_true rfl ?_
        refine c_seqR ?_
        refine ops_cons rfl (ow_move rfl ?_)
        refine ops_cons rfl (ow_assign rfl ?_)
        refine ops_cons rfl (ow_assign rfl ?_)
        refine ops_nil ?_
        refine c_ret ?_
        refine bq_r ?_
        refine tq_r ?_
        refine tq_r ?_
        refine bq_r ?_
        refine tq_r ?_
        refine fin_ret2 rfl rfl rfl ?_
        first
        | (rw [needF_code hc]; exact ⟨rfl, X⟩)
        | (rw [needF_some hc hY]; exact ⟨rfl, X⟩)
        | (rw [needF_none hc (by rw [hq, firstF_zero (by omega)])]; exact ⟨rfl, X⟩)
    · skip
      refine ops_nil ?_
      refine c_false rfl ?_
      refine c_exit ?_
      refine tq_e ?_
      refine tq_e ?_
      refine bq_e ?_
      refine tq_n ?_
      refine c_seqR ?_
      refine ops_cons rfl (ow_assign rfl ?_)
      refine ops_cons rfl (ow_assign rfl ?_)
      refine ops_nil ?_
      refine c_ret ?_
      refine fin_ret2 rfl rfl rfl ?_
      first
      | (rw [needF_code hc]; exact ⟨rfl, X⟩)
      | (rw [needF_some hc hY]; exact ⟨rfl, X⟩)
      | (rw [needF_none hc (by rw [hq, firstF_zero (by omega)])]; exact ⟨rfl, X⟩)

theorem sPT_c (A : Option Addr) (B c : Nat) (xs : List Dem) (rounds slots : Int) (A2 : Option Addr) (B2 c2 : Nat) (bks : List Bk) (w : World) (hs : Sl B w A (xs.flatMap Dem.cells)) (hl : xs.length ≤ 1048576) (ht2 : Sl B2 w A2 (bks.flatMap Bk.cells)) (hl2 : bks.length ≤ 1048576) :
    Calls Try.prog 59 #[.slice A xs.length c, .int .i64 rounds, .int .i64 slots, .slice A2 bks.length c2] w (Ret fun v w' => ∃ A' c' ys, v = .tuple #[.slice A' (List.length ys) c', .int .i64 (tabF xs rounds slots bks).2] ∧ tblOf ys = (tabF xs rounds slots bks).1 ∧ Disj ys ∧ Own w' w.heap.size 24 1 A' ys.length c' (ys.flatMap rowC) ∧ NOwn w' w.heap.size 2 ys ∧ Ext w w') := by
  have Bhs := hs.1
  have Bht2 := ht2.1
  have X := Ext.refl w
  refine calls_of (args := [.slice A xs.length c, .int .i64 rounds, .int .i64 slots, .slice A2 bks.length c2]) Try.func59 Try.ntmps59 rfl rfl ?_
  refine c_seqR ?_
  refine ops_cons rfl (ow_assign rfl ?_)
  refine ops_cons rfl (ow_assign rfl ?_)
  refine ops_nil ?_
  refine c_seqR ?_
  refine ops_cons rfl (ow_move rfl ?_)
  refine ops_cons rfl (ow_move rfl ?_)
  refine ops_cons rfl (ow_move rfl ?_)
  refine ops_cons rfl (ow_call ent74 rfl (ret_mono (sCode_c _ _ _ _ _ _ _ hs hl) ?_))
  rintro _ w2 ⟨rfl, x1⟩
  replace hs := hs.ext x1
  replace ht2 := ht2.ext x1
  replace X := Ext.trans X x1; clear x1
  refine ops_cons rfl (ow_assign rfl ?_)
  refine ops_nil ?_
  refine c_seq ?_
  refine c_seqR ?_
  refine ops_cons rfl (ow_move rfl ?_)
  refine ops_cons rfl (ow_neq2 rfl rfl (fun hc => ?_) (fun hc => ?_))
  · skip
    refine ops_nil ?_
    refine c_true rfl ?_
    refine c_seqR ?_
    refine ops_cons rfl (ow_move rfl ?_)
    refine ops_cons rfl (ow_assign rfl ?_)
    refine ops_cons rfl (ow_assign rfl ?_)
    refine ops_nil ?_
    refine c_ret ?_
    refine tq_r ?_
    refine fin_ret2 rfl rfl rfl ?_
    first
    | (rw [tabF_code hc]; exact ⟨none, 0, [], rfl, rfl, Disj.nil_, Own.nil_ _ _ _ _, NOwn.nil_, X⟩)
    | (rw [tabF_none hc hF]; exact ⟨none, 0, [], rfl, rfl, Disj.nil_, Own.nil_ _ _ _ _, NOwn.nil_, X⟩)
    | (rw [tabF_some hc hF]; exact ⟨AR, cR, yR, rfl, em hF, hdj, oR, oRn, X⟩)
  · skip
    obtain ⟨hD, hr, hsl⟩ := codeP_ok hc
    obtain ⟨R, rfl⟩ : ∃ R : Nat, rounds = R := ⟨rounds.toNat, by omega⟩
    obtain ⟨S, rfl⟩ : ∃ S : Nat, slots = S := ⟨slots.toNat, by omega⟩
    refine ops_nil ?_
    refine c_false rfl ?_
    refine c_skip ?_
    refine tq_n ?_
    refine c_seqR ?_
    refine ops_cons rfl (ow_move rfl ?_)
    refine ops_cons rfl (ow_move rfl ?_)
    refine ops_cons rfl (ow_move rfl ?_)
    refine ops_cons rfl (ow_move rfl ?_)
    refine ops_cons rfl (ow_call ent100 rfl (ret_mono (sTable_c _ _ _ xs R S _ _ _ bks _ hs ht2 (areD_every hD) (areD_len hD) hl2 (by omega) (by omega)) ?_))
    rintro _ w4 ⟨AR, cR, yR, rfl, em, hdj, oR, oRn, x3⟩
    replace oR := Own.low oR X.size
    replace oRn := NOwn.low oRn X.size
    replace hs := hs.ext x3
    replace ht2 := ht2.ext x3
    replace X := Ext.trans X x3; clear x3
    refine ops_cons rfl (ow_move rfl ?_)
    refine ops_cons rfl (ow_extract rfl rfl ?_)
    refine ops_cons rfl (ow_extract rfl rfl ?_)
    refine ops_cons rfl (ow_assign rfl ?_)
    refine ops_cons rfl (ow_assign rfl ?_)
    refine ops_nil ?_
    refine c_seq ?_
    refine c_seqR ?_
    refine ops_cons rfl (ow_move rfl ?_)
    refine ops_cons rfl (ow_not rfl ?_)
    cases hF0 : (!(tabL xs bks 0 (tab0 R S)).isSome)
    · skip
      have hF : (tabL xs bks 0 (tab0 R S)).isSome = true := by simpa using hF0
      refine ops_nil ?_
      refine c_false rfl ?_
      refine c_skip ?_
      refine tq_n ?_
      refine c_seqR ?_
      refine ops_cons rfl (ow_move rfl ?_)
      refine ops_cons rfl (ow_assign rfl ?_)
      refine ops_cons rfl (ow_assign rfl ?_)
      refine ops_nil ?_
      refine c_ret ?_
      refine fin_ret2 rfl rfl rfl ?_
      first
      | (rw [tabF_code hc]; exact ⟨none, 0, [], rfl, rfl, Disj.nil_, Own.nil_ _ _ _ _, NOwn.nil_, X⟩)
      | (rw [tabF_none hc hF]; exact ⟨none, 0, [], rfl, rfl, Disj.nil_, Own.nil_ _ _ _ _, NOwn.nil_, X⟩)
      | (rw [tabF_some hc hF]; exact ⟨AR, cR, yR, rfl, em hF, hdj, oR, oRn, X⟩)
    · skip
      have hF : (tabL xs bks 0 (tab0 R S)).isSome = false := by simpa using hF0
      refine ops_nil ?_
      refine c_true rfl ?_
      refine c_seqR ?_
      refine ops_cons rfl (ow_assign rfl ?_)
      refine ops_cons rfl (ow_assign rfl ?_)
      refine ops_nil ?_
      refine c_ret ?_
      refine tq_r ?_
      refine fin_ret2 rfl rfl rfl ?_
      first
      | (rw [tabF_code hc]; exact ⟨none, 0, [], rfl, rfl, Disj.nil_, Own.nil_ _ _ _ _, NOwn.nil_, X⟩)
      | (rw [tabF_none hc hF]; exact ⟨none, 0, [], rfl, rfl, Disj.nil_, Own.nil_ _ _ _ _, NOwn.nil_, X⟩)
      | (rw [tabF_some hc hF]; exact ⟨AR, cR, yR, rfl, em hF, hdj, oR, oRn, X⟩)

theorem iPT_c (A : Option Addr) (B c : Nat) (xs : List Dem) (rounds slots : Int) (A2 : Option Addr) (B2 c2 : Nat) (bks : List Bk) (w : World) (hs : Sl B w A (xs.flatMap Dem.cells)) (hl : xs.length ≤ 1048576) (ht2 : Sl B2 w A2 (bks.flatMap Bk.cells)) (hl2 : bks.length ≤ 1048576) :
    Calls Try.prog 58 #[.slice A xs.length c, .int .i64 rounds, .int .i64 slots, .slice A2 bks.length c2] w (Ret fun v w' => ∃ A' c' ys, v = .tuple #[.slice A' (List.length ys) c', .int .i64 (tabF xs rounds slots bks).2] ∧ tblOf ys = (tabF xs rounds slots bks).1 ∧ Disj ys ∧ Own w' w.heap.size 24 1 A' ys.length c' (ys.flatMap rowC) ∧ NOwn w' w.heap.size 2 ys ∧ Ext w w') := by
  have Bhs := hs.1
  have Bht2 := ht2.1
  have X := Ext.refl w
  refine calls_of (args := [.slice A xs.length c, .int .i64 rounds, .int .i64 slots, .slice A2 bks.length c2]) Try.func58 Try.ntmps58 rfl rfl ?_
  refine c_seqR ?_
  refine ops_cons rfl (ow_assign rfl ?_)
  refine ops_cons rfl (ow_assign rfl ?_)
  refine ops_nil ?_
  refine c_seq ?_
  refine c_seqR ?_
  refine ops_cons rfl (ow_move rfl ?_)
  refine ops_cons rfl (ow_move rfl ?_)
  refine ops_cons rfl (ow_move rfl ?_)
  refine ops_cons rfl (ow_call ent77 rfl (ret_mono (iCode_c _ _ _ _ _ _ _ hs hl) ?_))
  rintro _ w2 ⟨rfl, x1⟩
  replace hs := hs.ext x1
  replace ht2 := ht2.ext x1
  replace X := Ext.trans X x1; clear x1
  refine ops_cons rfl (ow_assign rfl ?_)
  refine ops_nil ?_
  refine c_seqR ?_
  refine ops_cons rfl (ow_move rfl ?_)
  refine ops_cons rfl (ow_neq2 rfl rfl (fun hc => ?_) (fun hc => ?_))
  · skip
    refine ops_nil ?_
    refine c_true rfl ?_
    refine c_seqR ?_
    refine ops_cons rfl (ow_move rfl ?_)
    refine ops_cons rfl (ow_assign rfl ?_)
    refine ops_cons rfl (ow_assign rfl ?_)
    refine ops_nil ?_
    refine c_ret ?_
    refine tq_r ?_
    refine fin_ret2 rfl rfl rfl ?_
    first
    | (rw [tabF_code hc]; exact ⟨none, 0, [], rfl, rfl, Disj.nil_, Own.nil_ _ _ _ _, NOwn.nil_, X⟩)
    | (rw [tabF_none hc hF]; exact ⟨none, 0, [], rfl, rfl, Disj.nil_, Own.nil_ _ _ _ _, NOwn.nil_, X⟩)
    | (rw [tabF_some hc hF]; exact ⟨AR, cR, yR, rfl, em hF, hdj, oR, oRn, X⟩)
  · skip
    obtain ⟨hD, hr, hsl⟩ := codeP_ok hc
    obtain ⟨R, rfl⟩ : ∃ R : Nat, rounds = R := ⟨rounds.toNat, by omega⟩
    obtain ⟨S, rfl⟩ : ∃ S : Nat, slots = S := ⟨slots.toNat, by omega⟩
    refine ops_nil ?_
    refine c_false rfl ?_
    refine c_skip ?_
    refine tq_n ?_
    refine c_seqR ?_
    refine ops_cons rfl (ow_move rfl ?_)
    refine ops_cons rfl (ow_move rfl ?_)
    refine ops_cons rfl (ow_move rfl ?_)
    refine ops_cons rfl (ow_move rfl ?_)
    refine ops_cons rfl (ow_call ent86 rfl (ret_mono (bookAll_c _ _ _ xs R S _ _ _ bks _ hs ht2 (areD_every hD) (areD_len hD) hl2 (by omega) (by omega)) ?_))
    rintro _ w4 ⟨AR, cR, yR, rfl, em, hdj, oR, oRn, x3⟩
    replace oR := Own.low oR X.size
    replace oRn := NOwn.low oRn X.size
    replace hs := hs.ext x3
    replace ht2 := ht2.ext x3
    replace X := Ext.trans X x3; clear x3
    refine ops_cons rfl (ow_move rfl ?_)
    refine ops_cons rfl (ow_extract rfl rfl ?_)
    refine ops_cons rfl (ow_extract rfl rfl ?_)
    refine ops_cons rfl (ow_assign rfl ?_)
    refine ops_cons rfl (ow_assign rfl ?_)
    refine ops_nil ?_
    refine c_seq ?_
    refine c_seqR ?_
    refine ops_cons rfl (ow_move rfl ?_)
    refine ops_cons rfl (ow_not rfl ?_)
    cases hF0 : (!(tabL xs bks 0 (tab0 R S)).isSome)
    · skip
      have hF : (tabL xs bks 0 (tab0 R S)).isSome = true := by simpa using hF0
      refine ops_nil ?_
      refine c_false rfl ?_
      refine c_skip ?_
      refine tq_n ?_
      refine c_seqR ?_
      refine ops_cons rfl (ow_move rfl ?_)
      refine ops_cons rfl (ow_assign rfl ?_)
      refine ops_cons rfl (ow_assign rfl ?_)
      refine ops_nil ?_
      refine c_ret ?_
      refine fin_ret2 rfl rfl rfl ?_
      first
      | (rw [tabF_code hc]; exact ⟨none, 0, [], rfl, rfl, Disj.nil_, Own.nil_ _ _ _ _, NOwn.nil_, X⟩)
      | (rw [tabF_none hc hF]; exact ⟨none, 0, [], rfl, rfl, Disj.nil_, Own.nil_ _ _ _ _, NOwn.nil_, X⟩)
      | (rw [tabF_some hc hF]; exact ⟨AR, cR, yR, rfl, em hF, hdj, oR, oRn, X⟩)
    · skip
      have hF : (tabL xs bks 0 (tab0 R S)).isSome = false := by simpa using hF0
      refine ops_nil ?_
      refine c_true rfl ?_
      refine c_seqR ?_
      refine ops_cons rfl (ow_assign rfl ?_)
      refine ops_cons rfl (ow_assign rfl ?_)
      refine ops_nil ?_
      refine c_ret ?_
      refine tq_r ?_
      refine fin_ret2 rfl rfl rfl ?_
      first
      | (rw [tabF_code hc]; exact ⟨none, 0, [], rfl, rfl, Disj.nil_, Own.nil_ _ _ _ _, NOwn.nil_, X⟩)
      | (rw [tabF_none hc hF]; exact ⟨none, 0, [], rfl, rfl, Disj.nil_, Own.nil_ _ _ _ _, NOwn.nil_, X⟩)
      | (rw [tabF_some hc hF]; exact ⟨AR, cR, yR, rfl, em hF, hdj, oR, oRn, X⟩)

theorem iAP_c (A : Option Addr) (B c : Nat) (xs : List Dem) (rounds slots : Int) (A2 : Option Addr) (B2 c2 : Nat) (bks : List Bk) (w : World) (hs : Sl B w A (xs.flatMap Dem.cells)) (hl : xs.length ≤ 1048576) (ht2 : Sl B2 w A2 (bks.flatMap Bk.cells)) (hl2 : bks.length ≤ 1048576) :
    Calls Try.prog 37 #[.slice A xs.length c, .int .i64 rounds, .int .i64 slots, .slice A2 bks.length c2] w (Ret fun v w' => v = .bool (decide ((tabF xs rounds slots bks).2 = 0)) ∧ Ext w w') := by
  have Bhs := hs.1
  have Bht2 := ht2.1
  have X := Ext.refl w
  refine calls_of (args := [.slice A xs.length c, .int .i64 rounds, .int .i64 slots, .slice A2 bks.length c2]) Try.func37 Try.ntmps37 rfl rfl ?_
  refine c_seqR ?_
  refine ops_cons rfl (ow_assign rfl ?_)
  refine ops_nil ?_
  refine c_seq ?_
  refine c_seqR ?_
  refine ops_cons rfl (ow_move rfl ?_)
  refine ops_cons rfl (ow_move rfl ?_)
  refine ops_cons rfl (ow_move rfl ?_)
  refine ops_cons rfl (ow_call ent77 rfl (ret_mono (iCode_c _ _ _ _ _ _ _ hs hl) ?_))
  rintro _ w2 ⟨rfl, x1⟩
  replace hs := hs.ext x1
  replace ht2 := ht2.ext x1
  replace X := Ext.trans X x1; clear x1
  refine ops_cons rfl (ow_neq2 rfl rfl (fun hc => ?_) (fun hc => ?_))
  · skip
    refine ops_nil ?_
    refine c_true rfl ?_
    refine c_seqR ?_
    refine ops_cons rfl (ow_assign rfl ?_)
    refine ops_nil ?_
    refine c_ret ?_
    refine tq_r ?_
    refine fin_ret1 rfl rfl ?_
    first
    | (rw [tabF_code hc, decide_eq_false hc]; exact ⟨rfl, X⟩)
    | (cases hF : (tabL xs bks 0 (tab0 R S)).isSome
       · rw [tabF_none hc hF]; exact ⟨rfl, X⟩
       · rw [tabF_some hc hF]; exact ⟨rfl, X⟩)
  · skip
    obtain ⟨hD, hr, hsl⟩ := codeP_ok hc
    obtain ⟨R, rfl⟩ : ∃ R : Nat, rounds = R := ⟨rounds.toNat, by omega⟩
    obtain ⟨S, rfl⟩ : ∃ S : Nat, slots = S := ⟨slots.toNat, by omega⟩
    refine ops_nil ?_
    refine c_false rfl ?_
    refine c_skip ?_
    refine tq_n ?_
    refine c_seqR ?_
    refine ops_cons rfl (ow_move rfl ?_)
    refine ops_cons rfl (ow_move rfl ?_)
    refine ops_cons rfl (ow_move rfl ?_)
    refine ops_cons rfl (ow_move rfl ?_)
    refine ops_cons rfl (ow_call ent86 rfl (ret_mono (bookAll_c _ _ _ xs R S _ _ _ bks _ hs ht2 (areD_every hD) (areD_len hD) hl2 (by omega) (by omega)) ?_))
    rintro _ w4 ⟨A5, c6, ys7, rfl, em8, hdj, oR, oRn, x3⟩
    replace oR := Own.low oR X.size
    replace oRn := NOwn.low oRn X.size
    replace hs := hs.ext x3
    replace ht2 := ht2.ext x3
    replace X := Ext.trans X x3; clear x3
    refine ops_cons rfl (ow_move rfl ?_)
    refine ops_cons rfl (ow_extract rfl rfl ?_)
    refine ops_cons rfl (ow_extract rfl rfl ?_)
    refine ops_cons rfl (ow_assign rfl ?_)
    refine ops_cons rfl (ow_assign rfl ?_)
    refine ops_nil ?_
    refine c_seqR ?_
    refine ops_cons rfl (ow_move rfl ?_)
    refine ops_cons rfl (ow_assign rfl ?_)
    refine ops_nil ?_
    refine c_ret ?_
    refine fin_ret1 rfl rfl ?_
    first
    | (rw [tabF_code hc, decide_eq_false hc]; exact ⟨rfl, X⟩)
    | (cases hF : (tabL xs bks 0 (tab0 R S)).isSome
       · rw [tabF_none hc hF]; exact ⟨rfl, X⟩
       · rw [tabF_some hc hF]; exact ⟨rfl, X⟩)

theorem sAP_c (A : Option Addr) (B c : Nat) (xs : List Dem) (rounds slots : Int) (A2 : Option Addr) (B2 c2 : Nat) (bks : List Bk) (w : World) (hs : Sl B w A (xs.flatMap Dem.cells)) (hl : xs.length ≤ 1048576) (ht2 : Sl B2 w A2 (bks.flatMap Bk.cells)) (hl2 : bks.length ≤ 1048576) :
    Calls Try.prog 35 #[.slice A xs.length c, .int .i64 rounds, .int .i64 slots, .slice A2 bks.length c2] w (Ret fun v w' => v = .bool (decide ((tabF xs rounds slots bks).2 = 0)) ∧ Ext w w') := by
  have Bhs := hs.1
  have Bht2 := ht2.1
  have X := Ext.refl w
  refine calls_of (args := [.slice A xs.length c, .int .i64 rounds, .int .i64 slots, .slice A2 bks.length c2]) Try.func35 Try.ntmps35 rfl rfl ?_
  refine c_seqR ?_
  refine ops_cons rfl (ow_assign rfl ?_)
  refine ops_nil ?_
  refine c_seqR ?_
  refine ops_cons rfl (ow_move rfl ?_)
  refine ops_cons rfl (ow_move rfl ?_)
  refine ops_cons rfl (ow_move rfl ?_)
  refine ops_cons rfl (ow_move rfl ?_)
  refine ops_cons rfl (ow_call ent59 rfl (ret_mono (sPT_c _ _ _ _ _ _ _ _ _ _ _ hs hl ht2 hl2) ?_))
  rintro _ w2 ⟨A3, c4, ys5, rfl, em6, hdj, oR, oRn, x1⟩
  replace oR := Own.low oR X.size
  replace oRn := NOwn.low oRn X.size
  replace hs := hs.ext x1
  replace ht2 := ht2.ext x1
  replace X := Ext.trans X x1; clear x1
  refine ops_cons rfl (ow_move rfl ?_)
  refine ops_cons rfl (ow_extract rfl rfl ?_)
  refine ops_cons rfl (ow_extract rfl rfl ?_)
  refine ops_cons rfl (ow_assign rfl ?_)
  refine ops_cons rfl (ow_assign rfl ?_)
  refine ops_nil ?_
  refine c_seqR ?_
  refine ops_cons rfl (ow_move rfl ?_)
  refine ops_cons rfl (ow_eql rfl rfl ?_)
  refine ops_cons rfl (ow_assign rfl ?_)
  refine ops_nil ?_
  refine c_ret ?_
  refine fin_ret1 rfl rfl ?_
  exact ⟨rfl, X⟩
end Go.Proofs.Ytimabffnoanciaa
