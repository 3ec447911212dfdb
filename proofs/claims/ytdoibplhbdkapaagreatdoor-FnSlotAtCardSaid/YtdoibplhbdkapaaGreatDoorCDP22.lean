/- Texts of the seat that a law needs, put together. No condition. -/
import Derived.Test.YtdoibplhbdkapaaGreatDoorCDP15
import Derived.Test.YtdoibplhbdkapaaGreatDoorCDP19
import Derived.Test.YtdoibplhbdkapaaGreatDoorCDP3
import Derived.Test.YtdoibplhbdkapaaGreatDoorCDP5
import Derived.Test.YtdoibplhbdkapaaGreatDoorCDP20
import Derived.ProofKit
import Derived.OpenShut
import Derived.Test.YtdoibplhbdkapaaGreatDoorCDP4
import Derived.Test.YtdoibplhbdkapaaGreatDoorCards
namespace Go.Proofs.YtdoibplhbdkapaaGreatDoor
open Go.RowKit
set_option linter.unusedVariables false
set_option linter.unusedSimpArgs false
set_option maxRecDepth 20000
theorem mode_at {xs : List ModeI} {mode : Int} (h : inB mode 0 ((xs.length : Int) - 1) = true) : ∃ (j : Nat) (x : ModeI), mode = (j : Int) ∧ xs[j]? = some x := by
  have h1 := inB_iff.1 h
  exact ⟨mode.toNat, xs[mode.toNat]'(by omega), by omega, List.getElem?_eq_getElem _⟩
theorem mul_in {a b : Int} (h1 : 1 ≤ a ∧ a ≤ 8) (h2 : 1 ≤ b ∧ b ≤ 16) : 1 ≤ a * b ∧ a * b ≤ 128 := by
  have h3 : 1 * 1 ≤ a * b := Int.mul_le_mul h1.1 h2.1 (by omega) (by omega)
  have h4 : a * b ≤ 8 * 16 := Int.mul_le_mul h1.2 h2.2 (by omega) (by omega)
  omega
def mcode (ms : List Mode) (ys : List Int) : Int := if isMT ms = true then (if (ys.all fun x => inB x 0 ((ms.length : Int) - 1)) = true then 0 else 2) else 1
theorem modesCode_c (A A' : Option Addr) (B B' B2 c c' : Nat) (xs : List ModeI) (ys : List Int) (w : World) (hs : Sl B w A (xs.flatMap ModeI.cells)) (hn : Nexts B2 w xs) (hl : xs.length ≤ 1048576) (hz : ∀ x ∈ xs, x.m.next.length ≤ 1048576) (ht : Sl B' w A' (ys.flatMap eI)) (hy : ys.length ≤ 1048576) :
    Calls Tryz.prog 128 #[.slice A xs.length c, .slice A' ys.length c'] w (Ret fun v w' => v = .int .i64 (mcode (xs.map (·.m)) ys) ∧ Ext w w') := by
  have Bhs := hs.1
  have Bhn := hn.1
  have Bht := ht.1
  have X := Ext.refl w
  refine calls_of (args := [.slice A xs.length c, .slice A' ys.length c']) Tryz.func128 Tryz.ntmps128 rfl rfl ?_
  refine c_seqR ?_
  refine ops_cons rfl (ow_assign rfl ?_)
  refine ops_nil ?_
  refine c_seq ?_
  refine c_seqR ?_
  refine ops_cons rfl (ow_move rfl ?_)
  refine ops_cons rfl (ow_callB ent163 rfl (iIsMT_c _ _ _ _ _ _ hs hn hl hz) (fun w2 hT x1 => ?_) (fun w2 hT x1 => ?_))
  replace hs := hs.ext x1
  replace hn := hn.ext x1
  replace ht := ht.ext x1
  replace X := Ext.trans X x1; clear x1
  refine ops_cons rfl (ow_not rfl ?_)
  refine ops_nil ?_
  refine c_false rfl ?_
  refine c_skip ?_
  refine tq_n ?_
  refine c_seq ?_
  refine c_seqR ?_
  refine ops_cons rfl (ow_move rfl ?_)
  refine ops_cons rfl (ow_move rfl ?_)
  refine ops_cons rfl (ow_len Tryz.underlying25 rfl ?_)
  refine ops_cons rfl (ow_sub rfl rfl (w64 (by omega)) ?_)
  refine ops_cons rfl (ow_callB ent159 rfl (allWithin_c _ _ _ _ _ _ _ ht hy) (fun w4 hA x3 => ?_) (fun w4 hA x3 => ?_))
  replace hs := hs.ext x3
  replace hn := hn.ext x3
  replace ht := ht.ext x3
  replace X := Ext.trans X x3; clear x3
  refine ops_cons rfl (ow_not rfl ?_)
  refine ops_nil ?_
  refine c_false rfl ?_
  refine c_skip ?_
  refine tq_n ?_
  refine c_seqR ?_
  refine ops_cons rfl (ow_assign rfl ?_)
  refine ops_nil ?_
  refine c_ret ?_
  refine fin_ret1 rfl rfl ?_
  · skip
    refine ⟨congrArg (Value.int .i64) ?_, X⟩
    first
    | (rw [mcode, if_neg (by simp [hT])]; done)
    | (rw [mcode, if_pos hT, List.length_map, if_pos hA]; done)
    | (rw [mcode, if_pos hT, List.length_map, if_neg (by simp only [hA]; simp)])
  replace hs := hs.ext x3
  replace hn := hn.ext x3
  replace ht := ht.ext x3
  replace X := Ext.trans X x3; clear x3
  refine ops_cons rfl (ow_not rfl ?_)
  refine ops_nil ?_
  refine c_true rfl ?_
  refine c_seqR ?_
  refine ops_cons rfl (ow_assign rfl ?_)
  refine ops_nil ?_
  refine c_ret ?_
  refine tq_r ?_
  refine fin_ret1 rfl rfl ?_
  · skip
    refine ⟨congrArg (Value.int .i64) ?_, X⟩
    first
    | (rw [mcode, if_neg (by simp [hT])]; done)
    | (rw [mcode, if_pos hT, List.length_map, if_pos hA]; done)
    | (rw [mcode, if_pos hT, List.length_map, if_neg (by simp only [hA]; simp)])
  replace hs := hs.ext x1
  replace hn := hn.ext x1
  replace ht := ht.ext x1
  replace X := Ext.trans X x1; clear x1
  refine ops_cons rfl (ow_not rfl ?_)
  refine ops_nil ?_
  refine c_true rfl ?_
  refine c_seqR ?_
  refine ops_cons rfl (ow_assign rfl ?_)
  refine ops_nil ?_
  refine c_ret ?_
  refine tq_r ?_
  refine fin_ret1 rfl rfl ?_
  · skip
    refine ⟨congrArg (Value.int .i64) ?_, X⟩
    first
    | (rw [mcode, if_neg (by simp [hT])]; done)
    | (rw [mcode, if_pos hT, List.length_map, if_pos hA]; done)
    | (rw [mcode, if_pos hT, List.length_map, if_neg (by simp only [hA]; simp)])

theorem iCyc_c (A : Option Addr) (B B2 c : Nat) (xs : List ModeI) (mode : Int) (w : World) (hs : Sl B w A (xs.flatMap ModeI.cells)) (hn : Nexts B2 w xs) (hl : xs.length ≤ 1048576) (hz : ∀ x ∈ xs, x.m.next.length ≤ 1048576) :
    Calls Tryz.prog 50 #[.slice A xs.length c, .int .i64 mode] w (Ret fun v w' => v = .tuple #[.int .i64 (cycM (xs.map (·.m)) mode).1, .int .i64 (cycM (xs.map (·.m)) mode).2] ∧ Ext w w') := by
  have Bhs := hs.1
  have Bhn := hn.1
  have X := Ext.refl w
  refine calls_of (args := [.slice A xs.length c, .int .i64 mode]) Tryz.func50 Tryz.ntmps50 rfl rfl ?_
  refine c_seqR ?_
  refine ops_cons rfl (ow_assign rfl ?_)
  refine ops_cons rfl (ow_assign rfl ?_)
  refine ops_nil ?_
  refine c_seq ?_
  refine c_seqR ?_
  refine ops_cons rfl (ow_move rfl ?_)
  refine ops_cons rfl (ow_move rfl ?_)
  refine ops_cons rfl (ow_buildSlice el30 ti2 rfl rfl rfl rfl rfl ?_)
  intro g1 w3 eg1 oB bbg1 x2 zg1
  replace oB := Own.low oB X.size
  replace hs := hs.ext x2
  replace hn := hn.ext x2
  replace X := Ext.trans X x2; clear x2
  replace oB := oB.to (cs' := ([mode] : List Int).flatMap eI) rfl
  refine ops_cons rfl (ow_call ent128 rfl (ret_mono (modesCode_c _ _ _ _ _ _ _ xs [mode] _ hs hn hl hz oB.sl (by simp)) ?_))
  rintro _ w5 ⟨rfl, x4⟩
  replace hs := hs.ext x4
  replace hn := hn.ext x4
  replace oB := oB.ext x4
  replace X := Ext.trans X x4; clear x4
  refine ops_cons rfl (ow_assign rfl ?_)
  refine ops_nil ?_
  refine c_seqR ?_
  refine ops_cons rfl (ow_move rfl ?_)
  refine ops_cons rfl (ow_neq2 rfl rfl (fun hC => ?_) (fun hC => ?_))
  refine ops_nil ?_
  refine c_true rfl ?_
  refine c_seqR ?_
  refine ops_cons rfl (ow_move rfl ?_)
  refine ops_cons rfl (ow_assign rfl ?_)
  refine ops_cons rfl (ow_assign rfl ?_)
  refine ops_nil ?_
  refine c_ret ?_
  refine tq_r ?_
  refine fin_ret2 rfl rfl rfl ?_
  · skip
    first
    | (have e : cycM (xs.map (·.m)) mode = (x.m.rounds * x.m.slots, 0) := by rw [cycM, if_pos hT, List.length_map, if_pos hM, hj, Int.toNat_natCast, map_at (f := (·.m)) hx]
       rw [e]; exact ⟨rfl, X⟩)
    | (have e : cycM (xs.map (·.m)) mode = (0, mcode (xs.map (·.m)) [mode]) := by
         cases hT : isMT (xs.map (·.m))
         · rw [cycM, mcode, if_neg (by simp [hT]), if_neg (by simp [hT])]
         · cases hM : inB mode 0 ((xs.length : Int) - 1)
           · rw [cycM, mcode, if_pos hT, if_pos hT, List.length_map, if_neg (by simp [hM]), if_neg (by simp [hM])]
           · exfalso; rw [mcode, if_pos hT, List.length_map, if_pos (by simp [hM])] at hC; omega
       rw [e]; exact ⟨rfl, X⟩)
  have hT : isMT (xs.map (·.m)) = true := by
    cases h : isMT (xs.map (·.m))
    · rw [mcode, if_neg (by simp [h])] at hC; omega
    · rfl
  have hM : inB mode 0 ((xs.length : Int) - 1) = true := by
    cases h : inB mode 0 ((xs.length : Int) - 1)
    · rw [mcode, if_pos hT, List.length_map, if_neg (by simp [h])] at hC; omega
    · rfl
  obtain ⟨j, x, hj, hx⟩ := mode_at hM
  have hr := modeOk_in (isMT_at hT (map_at (f := (·.m)) hx))
  have hmul := mul_in hr.1 hr.2.1
  refine ops_nil ?_
  refine c_false rfl ?_
  refine c_skip ?_
  refine tq_n ?_
  refine c_seqD [false, false, false, false, false, false, false, false, false, false, false, false, false] mixed (by kernel_rfl) ?_
  refine f_q rfl (fun wq sq => ow_move rfl ⟨rfl, Ext.refl _⟩) ?_
  refine f_q rfl (fun wq sq => ow_move rfl ⟨rfl, Ext.refl _⟩) ?_
  refine f_q rfl (fun wq sq => ow_indexT (hs.ext sq) ModeI.len rfl el25 rfl rfl rfl hx hj ⟨rfl, Ext.refl _⟩) ?_
  refine f_q rfl (fun wq sq => ow_fieldAddr off92_0 rfl ⟨rfl, Ext.refl _⟩) ?_
  refine f_q rfl (fun wq sq => ow_loadTF (hs.ext sq) ModeI.len hx ti2 rfl rfl rfl ⟨rfl, Ext.refl _⟩) ?_
  refine f_q rfl (fun wq sq => ow_move rfl ⟨rfl, Ext.refl _⟩) ?_
  refine f_q rfl (fun wq sq => ow_move rfl ⟨rfl, Ext.refl _⟩) ?_
  refine f_q rfl (fun wq sq => ow_indexT (hs.ext sq) ModeI.len rfl el25 rfl rfl rfl hx hj ⟨rfl, Ext.refl _⟩) ?_
  refine f_q rfl (fun wq sq => ow_fieldAddr off92_1 rfl ⟨rfl, Ext.refl _⟩) ?_
  refine f_q rfl (fun wq sq => ow_loadTF (hs.ext sq) ModeI.len hx ti2 rfl rfl rfl ⟨rfl, Ext.refl _⟩) ?_
  refine f_q rfl (fun wq sq => ow_mul rfl rfl (w64 (by omega)) ⟨rfl, Ext.refl _⟩) ?_
  refine f_q rfl (fun wq sq => ow_assign rfl ⟨rfl, Ext.refl _⟩) ?_
  refine f_q rfl (fun wq sq => ow_assign rfl ⟨rfl, Ext.refl _⟩) ?_
  refine f_nil (fun w6 sq => ?_)
  have xq := sq
  replace hs := hs.ext xq
  replace hn := hn.ext xq
  replace oB := oB.ext xq
  replace X := Ext.trans X xq; clear xq sq
  refine ops_nil ?_
  refine c_ret ?_
  refine fin_ret2 rfl rfl rfl ?_
  · skip
    first
    | (have e : cycM (xs.map (·.m)) mode = (x.m.rounds * x.m.slots, 0) := by rw [cycM, if_pos hT, List.length_map, if_pos hM, hj, Int.toNat_natCast, map_at (f := (·.m)) hx]
       rw [e]; exact ⟨rfl, X⟩)
    | (have e : cycM (xs.map (·.m)) mode = (0, mcode (xs.map (·.m)) [mode]) := by
         cases hT : isMT (xs.map (·.m))
         · rw [cycM, mcode, if_neg (by simp [hT]), if_neg (by simp [hT])]
         · cases hM : inB mode 0 ((xs.length : Int) - 1)
           · rw [cycM, mcode, if_pos hT, if_pos hT, List.length_map, if_neg (by simp [hM]), if_neg (by simp [hM])]
           · exfalso; rw [mcode, if_pos hT, List.length_map, if_pos (by simp [hM])] at hC; omega
       rw [e]; exact ⟨rfl, X⟩)
end Go.Proofs.YtdoibplhbdkapaaGreatDoor
namespace Go.Proofs.YtdoibplhbdkapaaGreatDoor
open Go.RowKit
set_option linter.unusedVariables false
set_option linter.unusedSimpArgs false
set_option maxRecDepth 20000
theorem big_c (A : Option Addr) (c : Nat) (bs : List UInt8) (w : World)  :
    Calls Tryz.prog 11 #[.slice A bs.length c] w (Ret fun v w' => v = .bool (decide ((4096 : Int) < bs.length)) ∧ Ext w w') := by
  have X := Ext.refl w
  refine calls_of (args := [.slice A bs.length c]) Tryz.func11 Tryz.ntmps11 rfl rfl ?_
  refine c_seqR ?_
  refine ops_cons rfl (ow_assign rfl ?_)
  refine ops_nil ?_
  refine c_seqR ?_
  refine ops_cons rfl (ow_move rfl ?_)
  refine ops_cons rfl (ow_len Tryz.underlying22 rfl ?_)
  refine ops_cons rfl (ow_gtr rfl rfl ?_)
  refine ops_cons rfl (ow_assign rfl ?_)
  refine ops_nil ?_
  refine c_ret ?_
  refine fin_ret1 rfl rfl ?_
  exact ⟨by rfl, X⟩

theorem likeInts_c (A A' : Option Addr) (B B' c c' : Nat) (xs : List Int) (w : World) (hs : Sl B w A (xs.flatMap eI)) (ht : Sl B' w A' (xs.flatMap eI)) (hl : xs.length ≤ 1048576) :
    Calls Tryz.prog 17 #[.slice A xs.length c, .slice A' xs.length c'] w (Ret fun v w' => v = .bool true ∧ Ext w w') := by
  have Bhs := hs.1
  have Bht := ht.1
  have X := Ext.refl w
  refine calls_of (args := [.slice A xs.length c, .slice A' xs.length c']) Tryz.func17 Tryz.ntmps17 rfl rfl ?_
  refine c_seqR ?_
  refine ops_cons rfl (ow_assign rfl ?_)
  refine ops_nil ?_
  refine c_seq ?_
  refine c_seqR ?_
  refine ops_cons rfl (ow_move rfl ?_)
  refine ops_cons rfl (ow_len Tryz.underlying30 rfl ?_)
  refine ops_cons rfl (ow_move rfl ?_)
  refine ops_cons rfl (ow_len Tryz.underlying30 rfl ?_)
  refine ops_cons rfl (ow_neq2 rfl rfl (fun h1 => absurd h1 (by simp)) (fun h1 => ?_))
  refine ops_nil ?_
  refine c_false rfl ?_
  refine c_skip ?_
  refine tq_n ?_
  refine c_seq ?_
  refine c_seqR ?_
  refine ops_cons rfl (ow_assign rfl ?_)
  refine ops_nil ?_
  refine c_block ?_
  refine c_loop (G := Nat) (fun k => [(0, .slice A xs.length c), (1, .slice A' xs.length c'), (5, .int .i64 (k : Nat))]) (fun k wr => k ≤ xs.length ∧ Sl B wr A (xs.flatMap eI) ∧ Sl B' wr A' (xs.flatMap eI) ∧ Ext w wr) (fun k => xs.length - k) 0 (.cons rfl (.cons rfl (.cons rfl (.nil _)))) ?_ ?_
  · exact ⟨by omega, hs, ht, X⟩
  clear hs ht
  clear X
  rintro k wr ⟨hk0, hs, ht, X⟩
  refine c_seq ?_
  refine c_seqR ?_
  refine ops_cons rfl (ow_move rfl ?_)
  refine ops_cons rfl (ow_move rfl ?_)
  refine ops_cons rfl (ow_len Tryz.underlying30 rfl ?_)
  refine ops_cons rfl (ow_lss2 rfl rfl (fun hk => ?_) (fun hk => ?_))
  obtain ⟨x, hx, dx⟩ := drop_at' hk
  refine ops_nil ?_
  refine c_true rfl ?_
  refine c_skip ?_
  refine tq_n ?_
  refine c_seq ?_
  refine c_block ?_
  refine c_seqD [false, false, false, false, false, false, false, false, false] mixed (by kernel_rfl) ?_
  refine f_q rfl (fun wq sq => ow_move rfl ⟨rfl, Ext.refl _⟩) ?_
  refine f_q rfl (fun wq sq => ow_move rfl ⟨rfl, Ext.refl _⟩) ?_
  refine f_q rfl (fun wq sq => ow_indexT (hs.ext sq) eI_len rfl el30 rfl rfl rfl hx rfl ⟨rfl, Ext.refl _⟩) ?_
  refine f_q rfl (fun wq sq => ow_loadT (hs.ext sq) eI_len hx ti2 rfl rfl rfl ⟨rfl, Ext.refl _⟩) ?_
  refine f_q rfl (fun wq sq => ow_move rfl ⟨rfl, Ext.refl _⟩) ?_
  refine f_q rfl (fun wq sq => ow_move rfl ⟨rfl, Ext.refl _⟩) ?_
  refine f_q rfl (fun wq sq => ow_indexT (ht.ext sq) eI_len rfl el30 rfl rfl rfl hx rfl ⟨rfl, Ext.refl _⟩) ?_
  refine f_q rfl (fun wq sq => ow_loadT (ht.ext sq) eI_len hx ti2 rfl rfl rfl ⟨rfl, Ext.refl _⟩) ?_
  refine f_qb rfl (fun wq sq => ow_neq rfl rfl ⟨rfl, Ext.refl _⟩) (fun h2 => absurd h2 (by simp)) (fun h2 => ?_)
  refine f_nil (fun w3 sq => ?_)
  have xq := sq
  replace hs := hs.ext xq
  replace ht := ht.ext xq
  replace X := Ext.trans X xq; clear xq sq
  refine ops_nil ?_
  refine c_false rfl ?_
  refine c_skip ?_
  refine bq_n ?_
  refine tq_n ?_
  refine c_region ?_
  refine ops_cons rfl (ow_move rfl ?_)
  refine ops_cons rfl (ow_add rfl rfl (w64 (by omega)) ?_)
  refine ops_cons rfl (ow_assign rfl ?_)
  refine ops_nil ?_
  refine tq_n ⟨k + 1, (.cons rfl (.cons rfl (.cons rfl (.nil _)))), ?_, ?_⟩
  · exact ⟨by omega, hs, ht, X⟩
  · omega
  refine ops_nil ?_
  refine c_false rfl ?_
  refine c_exit ?_
  refine tq_e ?_
  refine tq_e ?_
  refine bq_e ?_
  refine tq_n ?_
  refine c_seqR ?_
  refine ops_cons rfl (ow_assign rfl ?_)
  refine ops_nil ?_
  refine c_ret ?_
  refine fin_ret1 rfl rfl ?_
  exact ⟨by rfl, X⟩
end Go.Proofs.YtdoibplhbdkapaaGreatDoor
namespace Go.Proofs.YtdoibplhbdkapaaGreatDoor
open Go.RowKit
set_option linter.unusedVariables false
set_option linter.unusedSimpArgs false
end Go.Proofs.YtdoibplhbdkapaaGreatDoor
namespace Go.Proofs.YtdoibplhbdkapaaGreatDoor
open Go.RowKit
set_option linter.unusedVariables false
set_option linter.unusedSimpArgs false
section
variable {d : MedlD} {k : Nat} {x : Mode}
theorem mode_in (hW : WellF d) (hx : d.ms[k]? = some x) : (1 ≤ x.rounds ∧ x.rounds ≤ 8) ∧ 1 ≤ x.slots ∧ x.slots ≤ 16 := isMT_in hW.mt x (List.mem_of_getElem? hx)
end
theorem act_id {ns : List NodeI} {z : Int} (hN : isNT ns = true) (hz : 0 ≤ z ∧ z ≤ 31) (h : hasN (actV ns) z = true) : idIn ns z = true := by
  unfold hasN actV at h
  rw [vecF_bit] at h
  simp only [Nat.zero_testBit, Bool.false_or, List.any_eq_true, Bool.and_eq_true, decide_eq_true_eq] at h
  obtain ⟨x, hx, _, e⟩ := h
  exact List.any_eq_true.2 ⟨x, hx, by have := isNT_ids hN x hx; unfold hitN; exact decide_eq_true (by omega)⟩
def sumL {α : Type} (f : α → Nat) : List α → Nat
  | [] => 0
  | x :: r => f x + sumL f r
theorem sumL_add {α : Type} (f g : α → Nat) : ∀ (l : List α), sumL (fun x => f x + g x) l = sumL f l + sumL g l
  | [] => rfl
  | x :: r => by rw [sumL, sumL, sumL, sumL_add f g r]; omega
theorem sumL_congr {α : Type} {f g : α → Nat} : ∀ (l : List α), (∀ x ∈ l, f x = g x) → sumL f l = sumL g l
  | [], _ => rfl
  | x :: r, h => by rw [sumL, sumL, h x (by simp), sumL_congr r fun y hy => h y (by simp [hy])]
theorem sumL_zero {α : Type} {f : α → Nat} : ∀ (l : List α), (∀ x ∈ l, f x = 0) → sumL f l = 0
  | [], _ => rfl
  | x :: r, h => by rw [sumL, h x (by simp), sumL_zero r fun y hy => h y (by simp [hy])]
theorem nt_rise : ∀ (l : List NodeI) (p : Option NodeI) (q : List NodeI), ntFrom p q l = true → l.Pairwise (fun a b => a.id < b.id) ∧ ∀ y, p = some y → ∀ x ∈ l, y.id < x.id
  | [], _, _, _ => ⟨List.Pairwise.nil, fun _ _ x hx => by simp at hx⟩
  | z :: r, p, q, h => by
    have h1 : ntFrom (some z) (q ++ [z]) r = true ∧ ∀ y, p = some y → y.id < z.id := by
      cases p <;> simp only [ntFrom, Bool.and_eq_true, decide_eq_true_eq] at h
      · exact ⟨h.2, fun y hy => by cases hy⟩
      · exact ⟨h.2, fun y hy => by injection hy with hy; subst hy; exact h.1.1.2⟩
    obtain ⟨h2, h3⟩ := nt_rise r _ _ h1.1
    refine ⟨List.pairwise_cons.2 ⟨h3 z rfl, h2⟩, fun y hy x hx => ?_⟩
    have h4 := h1.2 y hy
    rcases List.mem_cons.1 hx with rfl | hx
    · exact h4
    · have := h3 z rfl x hx; omega
theorem sumL_one {z : Int} : ∀ (ns : List NodeI), ns.Pairwise (fun a b => a.id < b.id) → idIn ns z = true → sumL (fun n => if z = n.id then 1 else 0) ns = 1
  | [], _, h => by simp [idIn] at h
  | x :: r, hp, h => by
    obtain ⟨h1, h2⟩ := List.pairwise_cons.1 hp
    rw [sumL]
    by_cases e : z = x.id
    · rw [if_pos e, sumL_zero r fun y hy => by have := h1 y hy; rw [if_neg (by omega)]]
    · rw [if_neg e, sumL_one r h2 (by
        simp only [idIn, List.any_cons, Bool.or_eq_true, hitN, decide_eq_true_eq] at h
        rcases h with h | h
        · exact absurd h.symm e
        · exact h)]
theorem sum_nodes {ns : List NodeI} (hp : ns.Pairwise (fun a b => a.id < b.id)) : ∀ (L : List SlotI), (∀ x ∈ L, idIn ns x.desc.node = true) → sumL (fun n => (L.filter fun x => decide (x.desc.node = n.id)).length) ns = L.length
  | [], _ => sumL_zero ns fun _ _ => rfl
  | x :: L, h => by
    have h1 : sumL (fun n => ((x :: L).filter fun x => decide (x.desc.node = n.id)).length) ns = sumL (fun n => (if x.desc.node = n.id then 1 else 0) + (L.filter fun x => decide (x.desc.node = n.id)).length) ns := sumL_congr ns fun n _ => by
      rw [List.filter_cons]
      by_cases e : x.desc.node = n.id
      · rw [if_pos (decide_eq_true e), if_pos e, List.length_cons]; omega
      · rw [if_neg (by simpa using e), if_neg e, Nat.zero_add]
    rw [h1, sumL_add, sumL_one ns hp (h x (by simp)), sum_nodes hp L fun y hy => h y (by simp [hy]), List.length_cons]; omega
theorem sends_all {m : MedlI} {mode : Int} (h : modeC m.d mode = 0) : (∀ x ∈ m.ns, (sendT m.d mode x.id).2 = 0) ∧ (sumL (fun x => (sendT m.d mode x.id).1.length) m.ns : Int) = roundsOf m.d mode * slotsOf m.d mode ∧ 1 ≤ roundsOf m.d mode * slotsOf m.d mode ∧ roundsOf m.d mode * slotsOf m.d mode ≤ 128 := by
  obtain ⟨h1, h2⟩ := modeC_zero.1 h
  have hW := isMedl_iff.1 h1
  obtain ⟨k, x, hk, hx⟩ := mode_get h2
  subst hk
  have hm := mode_in hW hx
  have hg := of_get hx
  have hid : ∀ x ∈ m.ns, idIn m.d.ns x.id = true := fun x hx => List.any_eq_true.2 ⟨x, hx, by simp [hitN]⟩
  refine ⟨fun x hx => by rw [sendT_0 h (hid x hx)], ?_, ?_⟩
  · have h3 : sumL (fun x => (sendT m.d k x.id).1.length) m.ns = sumL (fun n => ((ofMode (k : Int) m.d.ss).filter fun x => decide (x.desc.node = n.id)).length) m.ns := sumL_congr _ fun y hy => by
      rw [sendT_0 h (hid y hy)]
      show (sendS m.d.ss k y.id m.d.ss).length = _
      rw [sendS_map, List.length_map]
    have hnt := hW.nt
    simp only [isNT, Bool.and_eq_true] at hnt
    have h5 := sum_nodes (ns := m.ns) (nt_rise _ _ _ hnt.2).1 (ofMode (k : Int) m.d.ss) (fun y hy => by
      have h4 := (ofMode_sub _ _ y hy).1
      exact act_id hW.nt (slotI (isST_all hW.st y h4)).2.1 (List.all_eq_true.1 hW.se y h4))
    rw [h3, h5, ofMode_length hW.co hx, hg.1, hg.2.1, mulN hm.1.1 hm.2.1]
  · rw [hg.1, hg.2.1]; exact mulI hm.1 hm.2
end Go.Proofs.YtdoibplhbdkapaaGreatDoor
namespace Go.Proofs.YtdoibplhbdkapaaGreatDoor
open Go.ChangeShapes Go.WideShapes Go.ChangeAt Go.RowKit
set_option linter.unusedVariables false
set_option linter.unusedSimpArgs false

theorem trodAll_stays {H : Type} {enc : TypeId × Value → H} {P : Program} (hl : laidOutB P = true) {W W' : World} (hb : Ext W W') : ∀ (ts : List TypeId) (vs : List Value) (ds : List (DataW H)) (ps : List MemPlace),
    ts.all (fun t => P.readableRec t && decide (t < P.types.size)) = true → DataW.TrodAll enc P W 0 (fun _ => true) true ts vs ds ps → (∀ x ∈ ps, x.block < W.heap.size) →
    DataW.TrodAll enc P W' 0 (fun b => decide (b < W.heap.size)) true ts vs ds ps
  | [], vs, ds, ps, _, h, _ => by
    obtain ⟨rfl, rfl, rfl⟩ := trodAll_nil h
    exact trodAll_mk0
  | t :: ts, vs, ds, ps, ht, h, hlt => by
    obtain ⟨v, vs', d, ds', p, q, rfl, rfl, rfl, h1, h2⟩ := trodAll_cons h
    simp only [List.all_cons, Bool.and_eq_true, decide_eq_true_eq] at ht
    exact trodAll_cons_mk (Below.trod hl ht.1.1 ht.1.2 h1 hb (fun x hx => hlt x (by simp [hx]))) (trodAll_stays hl hb ts vs' ds' q ht.2 h2 (fun x hx => hlt x (by simp [hx])))

theorem law_post {H : Type} {enc : TypeId × Value → H} {P : Program} {f : Func} {s : ChangeSpec} {W W' : World} {args : Array Value} {ds gs : List (DataW H)} {before : List MemPlace} {tb : TypeId}
    (hl : laidOutB P = true) (hpar : f.params.toList.all (fun t => P.readableRec t && decide (t < P.types.size)) = true) (hvars : s.vars = []) (hres : f.resultTypes = #[tb]) (htb : P.underlying tb = some .bool)
    (hW : DataW.Whole enc P f.params.toList s.vars false W args.toList ds gs before) (hspec : s.fn H (ds ++ gs) = { results := [.lit (.bool true)], args := ds }) (hb : Ext W W') :
    s.post enc P f false true false false W args (.bool true) W' := by
  have hlt : ∀ x ∈ before, x.block < W.heap.size := fun x hx => hW.lt x hx
  have hW' := hW
  obtain ⟨p, q, hA, hV, rfl, hfz, hnd⟩ := hW
  refine ⟨ds, gs, p ++ q, [], p, [], hW', ?_, ?_, ?_, Below.frame hb _, fun h => by cases h⟩
  · rw [hspec, hres]
    exact trodAll_cons_mk (shut_bool htb true) trodAll_mk0
  · rw [hspec]
    exact trodAll_stays hl hb _ _ _ _ hpar hA (fun x hx => hlt x (by simp [hx]))
  · rw [hspec, hvars]
    rfl

section
variable {H : Type} {enc : TypeId × Value → H} {P : Program} {W : World} {sp : Nat → Bool}

theorem exists_list {α : Type} {Q : Nat → α → Prop} : ∀ n, (∀ i, i < n → ∃ y, Q i y) → ∃ xs : List α, xs.length = n ∧ ∀ (i : Nat) (y : α), xs[i]? = some y → Q i y
  | 0, _ => ⟨[], rfl, by simp⟩
  | n + 1, h => by
    obtain ⟨xs, hl, hq⟩ := exists_list n (fun i hi => h i (by omega))
    obtain ⟨y, hy⟩ := h n (by omega)
    refine ⟨xs ++ [y], by simp [hl], fun i z hz => ?_⟩
    by_cases hi : i < n
    · rw [List.getElem?_append_left (by omega)] at hz
      exact hq i z hz
    · have hin : i = n := by
        have := (List.getElem?_eq_some_iff.1 hz).1
        simp [hl] at this; omega
      subst hin
      rw [List.getElem?_append_right (by omega)] at hz
      simp [hl] at hz
      subst hz
      exact hy

theorem open_sl {t e : TypeId} {s : Nat} {α : Type} {en : α → List Value} {ok : α → Prop} {fuel : Nat} {v : Value} {x : DataW H × List MemPlace} (ht : P.underlying t = some (.slice e)) (hs : P.cellsOf e = s) (he : ∀ y, (en y).length = s) (h0 : 0 < s)
    (ho : ∀ n cs x, DataW.trod enc P W 0 sp true n e cs = some x → ∃ y, cs = en y ∧ ok y) (h : DataW.trod enc P W 0 sp true fuel t [v] = some x) :
    ∃ (A : Option Addr) (xs : List α) (c : Nat), v = .slice A xs.length c ∧ Sl W.heap.size W A (xs.flatMap en) ∧ (∀ y ∈ xs, ok y) ∧ xs.length ≤ 9223372036854775807 := by
  rcases DataW.trod_slice ht h with ⟨hv, _⟩ | ⟨a, len, cap, elems, rest, n, _, hv, _, _, hlc, hcm, hel, hg, _⟩
  · have hv : v = .slice none 0 0 := by simpa using hv
    exact ⟨none, [], 0, hv, Sl.nil_ (Nat.le_refl _) _, by simp, by simp⟩
  · have hv : v = .slice (some a) len cap := by simpa using hv
    obtain ⟨xs, hl, hq⟩ := exists_list (Q := fun i y => ok y ∧ ∀ (j : Nat) (u : Value), (en y)[j]? = some u → W.cell? (a.add (i * s + j)) = some u) len (fun i hi => by
      have h1 := hg i hi
      have hil : i < elems.length := by omega
      rw [List.getElem?_eq_getElem hil, Option.bind_eq_some_iff] at h1
      obtain ⟨cs, hc, htr⟩ := h1
      obtain ⟨y, rfl, hy⟩ := ho _ _ _ htr
      rw [hs] at hc
      obtain ⟨_, hcl, hat⟩ := World.cells?_some hc
      refine ⟨y, hy, fun j u hj => ?_⟩
      have hjl : j < s := by rw [← he y]; exact (List.getElem?_eq_some_iff.1 hj).1
      rw [← add_add', hat j hjl, hj])
    refine ⟨some a, xs, cap, by rw [hl]; exact hv, ⟨Nat.le_refl _, fun m u hm => ?_⟩, fun y hy => ?_, ?_⟩
    · obtain ⟨j, y, i, rfl, hi, hj, hu⟩ := flat_none he xs m u hm h0
      have hc := (hq j y hj).2 i u hu
      exact ⟨rfl, by have := World.block_lt_of_cell? W _ hc; rwa [block_of_add] at this, hc⟩
    · obtain ⟨i, hi, rfl⟩ := List.mem_iff_getElem.1 hy
      exact (hq i _ (List.getElem?_eq_getElem hi)).1
    · have : cap ≤ maxLen := hcm
      unfold maxLen at this
      omega

theorem open_u8 {t : TypeId} {fuel : Nat} {cs : List Value} {x : DataW H × List MemPlace} (ht : P.underlying t = some (.int .u8)) (h : DataW.trod enc P W 0 sp true fuel t cs = some x) : ∃ b : UInt8, cs = eB b ∧ True := by
  obtain ⟨z, hz, _, hw⟩ := DataW.trod_int ht h
  have : 0 ≤ z ∧ z ≤ 255 := by simpa [Lit.wf, IntKind.min, IntKind.max, IntKind.signed, IntKind.bits] using hw
  refine ⟨UInt8.ofNat z.toNat, ?_, trivial⟩
  rw [hz, eB]
  congr 2
  simp
  omega
theorem cell_of {t : TypeId} {v : Value} {d : DataW H} {p : List MemPlace} (hc : v.cells = #[v]) (h : DataW.Trod enc P W 0 sp true t v d p) : ∃ n x, DataW.trod enc P W 0 sp true n t [v] = some x := by
  obtain ⟨n, hn⟩ := h
  exact ⟨n, _, by simpa [hc] using hn⟩
end

end Go.Proofs.YtdoibplhbdkapaaGreatDoor
namespace Go.Proofs.YtdoibplhbdkapaaGreatDoor
open Go.ChangeShapes Go.WideShapes Go.ChangeAt Go.RowKit
set_option linter.unusedVariables false
set_option linter.unusedSimpArgs false
set_option maxRecDepth 100000

theorem law_own : ownKnob Tryz.prog.godebug = none := by kernel_rfl
theorem law_laid : laidOutB Tryz.prog = true := by kernel_rfl
theorem law_main : Tryz.pinned.checked.prog.mainIs = some (true, "9d3b8bcd3f057db7ce87d49064bbf274986517e6a2e4614acdb81aa3eaa2e189".toList) := by kernel_rfl
theorem law_looks : false = Tryz.prog.looks [] := by kernel_rfl
end Go.Proofs.YtdoibplhbdkapaaGreatDoor
