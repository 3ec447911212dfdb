/- Sums. No condition. -/
import Derived.Test.YtimabffnoanciaaCT
import Derived.Test.YtimabffnoanciaaFlowG
namespace Go.Proofs.Ytimabffnoanciaa
open Go.RowKit
set_option linter.unusedVariables false
set_option linter.unusedSimpArgs false
set_option maxRecDepth 20000
theorem sum_c (A : Option Addr) (B c : Nat) (xs : List Int) (w : World) (hs : Sl B w A (xs.flatMap eI)) (hl : xs.length ≤ 1000) (hb : ∀ x ∈ xs, 0 ≤ x ∧ x ≤ 1000) :
    Calls Try.prog 62 #[.slice A xs.length c] w (Ret fun v w' => v = .int .i64 (sumI xs) ∧ Ext w w') := by
  have Bhs := hs.1
  have X := Ext.refl w
  refine calls_of (args := [.slice A xs.length c]) Try.func62 Try.ntmps62 rfl rfl ?_
  refine c_seqR ?_
  refine ops_cons rfl (ow_assign rfl ?_)
  refine ops_nil ?_
  refine c_seqR ?_
  refine ops_cons rfl (ow_assign rfl ?_)
  refine ops_nil ?_
  refine c_seq ?_
  refine c_seqR ?_
  refine ops_cons rfl (ow_assign rfl ?_)
  refine ops_nil ?_
  refine c_block ?_
  refine c_loop (G := Nat × Int) (fun ⟨k, a⟩ => [(0, .slice A xs.length c), (2, .int .i64 0), (3, .int .i64 a), (4, .int .i64 (k : Nat))]) (fun ⟨k, a⟩ wr => k ≤ xs.length ∧ a + sumI (xs.drop k) = sumI xs ∧ (0 ≤ a ∧ a ≤ 1000 * k) ∧ Sl B wr A (xs.flatMap eI) ∧ Ext w wr) (fun ⟨k, a⟩ => xs.length - k) (0, 0) (.cons rfl (.cons rfl (.cons rfl (.cons rfl (.nil _))))) ?_ ?_
  · exact ⟨by omega, (Int.zero_add _), by omega, hs, X⟩
  clear hs
  clear X
  rintro ⟨k, a⟩ wr ⟨hk0, ha, hab, hs, X⟩
  refine c_seq ?_
  refine c_seqR ?_
  refine ops_cons rfl (ow_move rfl ?_)
  refine ops_cons rfl (ow_move rfl ?_)
  refine ops_cons rfl (ow_len Try.underlying24 rfl ?_)
  refine ops_cons rfl (ow_lss2 rfl rfl (fun hk => ?_) (fun hk => ?_))
  · skip
    obtain ⟨x, hx, dx⟩ := drop_at' hk
    have hxb := hb x (List.mem_of_getElem? hx)
    refine ops_nil ?_
    refine c_true rfl ?_
    refine c_skip ?_
    refine tq_n ?_
    refine c_seq ?_
    refine c_block ?_
    refine c_region ?_
    refine ops_cons rfl (ow_move rfl ?_)
    refine ops_cons rfl (ow_move rfl ?_)
    refine ops_cons rfl (ow_move rfl ?_)
    refine ops_cons rfl (ow_indexT hs eI_len rfl el24 rfl rfl rfl hx rfl ?_)
    refine ops_cons rfl (ow_loadT hs eI_len hx ti2 rfl rfl rfl ?_)
    refine ops_cons rfl (ow_add rfl rfl (w64 (by omega)) ?_)
    refine ops_cons rfl (ow_assign rfl ?_)
    refine ops_nil ?_
    refine bq_n ?_
    refine tq_n ?_
    refine c_region ?_
    refine ops_cons rfl (ow_move rfl ?_)
    refine ops_cons rfl (ow_add rfl rfl (w64 (by omega)) ?_)
    refine ops_cons rfl (ow_assign rfl ?_)
    refine ops_nil ?_
    refine tq_n ⟨(k + 1, a + x), (.cons rfl (.cons rfl (.cons rfl (.cons rfl (.nil _))))), ?_, ?_⟩
    · exact ⟨by omega, (by rw [← ha, dx, sumI]; omega), by omega, hs, X⟩
    · first | omega | (dsimp only; omega)
  · skip
    refine ops_nil ?_
    refine c_false rfl ?_
    refine c_exit ?_
    refine tq_e ?_
    refine tq_e ?_
    refine bq_e ?_
    refine tq_n ?_
    refine c_seqR ?_
    refine ops_cons rfl (ow_move rfl ?_)
    refine ops_cons rfl (ow_assign rfl ?_)
    refine ops_nil ?_
    refine c_ret ?_
    refine fin_ret1 rfl rfl ?_
    refine ⟨congrArg (Value.int .i64) ?_, X⟩
    rw [← ha, drop_end hk]; simp [sumI]
theorem sum_n (A : Option Addr) (B c n : Nat) (xs : List Int) (w : World) (hs : Sl B w A (xs.flatMap eI)) (hl : xs.length ≤ 1000) (hb : ∀ x ∈ xs, 0 ≤ x ∧ x ≤ 1000) (e : xs.length = n) :
    Calls Try.prog 62 #[.slice A n c] w (Ret fun v w' => v = .int .i64 (sumI xs) ∧ Ext w w') := by
  subst e; exact sum_c A B c xs w hs hl hb
theorem getD_atI {out : List Int} {i : Nat} {v : Int} (h : out[i]? = some v) : out.getD i 0 = v := by rw [List.getD_eq_getElem?_getD, h]; rfl
end Go.Proofs.Ytimabffnoanciaa
