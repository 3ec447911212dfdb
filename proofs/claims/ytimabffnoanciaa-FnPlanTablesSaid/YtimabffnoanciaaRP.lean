/- Rows of one number that is repeated. No condition. -/
import Derived.Test.YtimabffnoanciaaFlowT
import Derived.Test.YtimabffnoanciaaFlowO
import Derived.Test.YtimabffnoanciaaMod16
import Derived.Test.YtimabffnoanciaaMod4
import Derived.Test.YtimabffnoanciaaFlowF
import Derived.Test.YtimabffnoanciaaFlowG
import Derived.Test.YtimabffnoanciaaFlowH
namespace Go.Proofs.Ytimabffnoanciaa
open Go.RowKit
set_option linter.unusedVariables false
set_option linter.unusedSimpArgs false
set_option maxRecDepth 20000
theorem wu {n : Int} (h : 0 ≤ n ∧ n ≤ 9223372036854775807) : IntKind.u64.wrap n = n := by
  have h1 : n % 18446744073709551616 = n := by omega
  simp [IntKind.wrap, IntKind.bits, IntKind.signed, h1]
theorem uand {y : Nat} (h : y ≤ 1048576) : bitsV .and .u64 (y : Int) 4294967295 = (y : Int) := by
  show IntKind.u64.wrap ((BitVec.ofInt 64 (y : Int) &&& BitVec.ofInt 64 ((4294967295 : Nat) : Int)).toNat : Int) = _
  rw [ofInt_nat, ofInt_nat, BitVec.toNat_and, BitVec.toNat_ofNat, BitVec.toNat_ofNat, Nat.mod_eq_of_lt (by omega), Nat.mod_eq_of_lt (by omega), show y &&& 4294967295 = y % 4294967296 from Nat.and_two_pow_sub_one_eq_mod y 32, Nat.mod_eq_of_lt (by omega)]
  exact wu (by omega)
theorem ushr {y : Nat} (h : y ≤ 1048576) : Int.fdiv (y : Int) (2 ^ (min ((32 : Int).toNat) IntKind.u64.bits)) = 0 := by
  show Int.fdiv (y : Int) 4294967296 = 0
  rw [Int.fdiv_eq_ediv_of_nonneg _ (by omega)]; omega
theorem ushr0 : Int.fdiv 0 (2 ^ (min ((32 : Int).toNat) IntKind.u64.bits)) = 0 := by decide
theorem wu0 (y : Int) : IntKind.u64.wrap (0 * y) = 0 := by rw [Int.zero_mul]; decide
theorem mul64_c (y : Nat) (w : World) (h : y ≤ 1048576) :
    Calls Try.prog 138 #[.int .u64 1, .int .u64 (y : Nat)] w (Ret fun v w' => v = .tuple #[.int .u64 0, .int .u64 (y : Nat)] ∧ Ext w w') := by
  have X := Ext.refl w
  refine calls_of (args := [.int .u64 1, .int .u64 (y : Nat)]) Try.func138 Try.ntmps138 rfl rfl ?_
  refine c_seqR ?_
  refine ops_cons rfl (ow_assign rfl ?_)
  refine ops_cons rfl (ow_assign rfl ?_)
  refine ops_nil ?_
  refine c_seqR ?_
  refine ops_cons rfl (ow_move rfl ?_)
  refine ops_cons rfl (ow_and rfl rfl (show bitsV .and .u64 1 4294967295 = 1 by decide) ?_)
  refine ops_cons rfl (ow_assign rfl ?_)
  refine ops_nil ?_
  refine c_seqR ?_
  refine ops_cons rfl (ow_move rfl ?_)
  refine ops_cons rfl (ow_shr rfl rfl (by omega) (show Int.fdiv 1 (2 ^ (min ((32 : Int).toNat) IntKind.u64.bits)) = 0 by decide) ?_)
  refine ops_cons rfl (ow_assign rfl ?_)
  refine ops_nil ?_
  refine c_seqR ?_
  refine ops_cons rfl (ow_move rfl ?_)
  refine ops_cons rfl (ow_and rfl rfl (uand h) ?_)
  refine ops_cons rfl (ow_assign rfl ?_)
  refine ops_nil ?_
  refine c_seqR ?_
  refine ops_cons rfl (ow_move rfl ?_)
  refine ops_cons rfl (ow_shr rfl rfl (by omega) (ushr h) ?_)
  refine ops_cons rfl (ow_assign rfl ?_)
  refine ops_nil ?_
  refine c_seqR ?_
  refine ops_cons rfl (ow_move rfl ?_)
  refine ops_cons rfl (ow_move rfl ?_)
  refine ops_cons rfl (ow_mul rfl rfl (show IntKind.u64.wrap (1 * (y : Int)) = (y : Int) by rw [wu (by omega)]; omega) ?_)
  refine ops_cons rfl (ow_assign rfl ?_)
  refine ops_nil ?_
  refine c_seqR ?_
  refine ops_cons rfl (ow_move rfl ?_)
  refine ops_cons rfl (ow_move rfl ?_)
  refine ops_cons rfl (ow_mul rfl rfl (wu0 _) ?_)
  refine ops_cons rfl (ow_move rfl ?_)
  refine ops_cons rfl (ow_shr rfl rfl (by omega) (ushr h) ?_)
  refine ops_cons rfl (ow_add rfl rfl (show _ = (0 : Int) by decide) ?_)
  refine ops_cons rfl (ow_assign rfl ?_)
  refine ops_nil ?_
  refine c_seqR ?_
  refine ops_cons rfl (ow_move rfl ?_)
  refine ops_cons rfl (ow_and rfl rfl (show bitsV .and .u64 0 4294967295 = 0 by decide) ?_)
  refine ops_cons rfl (ow_assign rfl ?_)
  refine ops_nil ?_
  refine c_seqR ?_
  refine ops_cons rfl (ow_move rfl ?_)
  refine ops_cons rfl (ow_shr rfl rfl (by omega) ushr0 ?_)
  refine ops_cons rfl (ow_assign rfl ?_)
  refine ops_nil ?_
  refine c_seqR ?_
  refine ops_cons rfl (ow_move rfl ?_)
  refine ops_cons rfl (ow_move rfl ?_)
  refine ops_cons rfl (ow_move rfl ?_)
  refine ops_cons rfl (ow_mul rfl rfl (show _ = (0 : Int) by decide) ?_)
  refine ops_cons rfl (ow_add rfl rfl (show _ = (0 : Int) by decide) ?_)
  refine ops_cons rfl (ow_assign rfl ?_)
  refine ops_nil ?_
  refine c_seqR ?_
  refine ops_cons rfl (ow_move rfl ?_)
  refine ops_cons rfl (ow_move rfl ?_)
  refine ops_cons rfl (ow_mul rfl rfl (wu0 _) ?_)
  refine ops_cons rfl (ow_move rfl ?_)
  refine ops_cons rfl (ow_add rfl rfl (show _ = (0 : Int) by decide) ?_)
  refine ops_cons rfl (ow_move rfl ?_)
  refine ops_cons rfl (ow_shr rfl rfl (by omega) ushr0 ?_)
  refine ops_cons rfl (ow_add rfl rfl (show _ = (0 : Int) by decide) ?_)
  refine ops_cons rfl (ow_assign rfl ?_)
  refine ops_nil ?_
  refine c_seqR ?_
  refine ops_cons rfl (ow_move rfl ?_)
  refine ops_cons rfl (ow_move rfl ?_)
  refine ops_cons rfl (ow_mul rfl rfl (show IntKind.u64.wrap (1 * (y : Int)) = (y : Int) by rw [wu (by omega)]; omega) ?_)
  refine ops_cons rfl (ow_assign rfl ?_)
  refine ops_nil ?_
  refine c_ret ?_
  refine fin_ret2 rfl rfl rfl ?_
  exact ⟨by rfl, X⟩

theorem mul_c (y : Nat) (w : World) (hn : y ≤ 1048576) :
    Calls Try.prog 135 #[.int .u64 1, .int .u64 (y : Nat)] w (Ret fun v w' => v = .tuple #[.int .u64 0, .int .u64 (y : Nat)] ∧ Ext w w') := by
  have X := Ext.refl w
  refine calls_of (args := [.int .u64 1, .int .u64 (y : Nat)]) Try.func135 Try.ntmps135 rfl rfl ?_
  refine c_seqR ?_
  refine ops_cons rfl (ow_assign rfl ?_)
  refine ops_cons rfl (ow_assign rfl ?_)
  refine ops_nil ?_
  refine c_seq ?_
  refine c_false rfl ?_
  refine c_skip ?_
  refine tq_n ?_
  refine c_seqR ?_
  refine ops_cons rfl (ow_move rfl ?_)
  refine ops_cons rfl (ow_move rfl ?_)
  refine ops_cons rfl (ow_call ent138 rfl (ret_mono (mul64_c _ _ hn) ?_))
  rintro _ w2 ⟨rfl, x1⟩
  replace X := Ext.trans X x1; clear x1
  refine ops_cons rfl (ow_move rfl ?_)
  refine ops_cons rfl (ow_extract rfl rfl ?_)
  refine ops_cons rfl (ow_extract rfl rfl ?_)
  refine ops_cons rfl (ow_assign rfl ?_)
  refine ops_cons rfl (ow_assign rfl ?_)
  refine ops_nil ?_
  refine c_seqR ?_
  refine ops_cons rfl (ow_move rfl ?_)
  refine ops_cons rfl (ow_move rfl ?_)
  refine ops_cons rfl (ow_assign rfl ?_)
  refine ops_cons rfl (ow_assign rfl ?_)
  refine ops_nil ?_
  refine c_ret ?_
  refine fin_ret2 rfl rfl rfl ?_
  exact ⟨by rfl, X⟩

theorem repeat_c (aS : Addr) (B c0 : Nat) (z : Int) (n : Nat) (w : World) (hs : Sl B w (some aS) (([z] : List Int).flatMap eI)) (hn : 1 ≤ n ∧ n ≤ 1048576) :
    Calls Try.prog 127 #[.slice (some aS) 1 c0, .int .i64 (n : Nat)] w (Ret fun v w' => ∃ A' c', v = .slice A' (List.replicate n z).length c' ∧ Own w' w.heap.size 2 1 A' (List.replicate n z).length c' ((List.replicate n z).flatMap eI) ∧ Ext w w') := by
  have Bhs := hs.1
  have X := Ext.refl w
  refine calls_of (args := [.slice (some aS) 1 c0, .int .i64 (n : Nat)]) Try.func127 Try.ntmps127 rfl rfl ?_
  refine c_seqR ?_
  refine ops_cons rfl (ow_assign rfl ?_)
  refine ops_nil ?_
  refine c_seq ?_
  refine c_seqR ?_
  refine ops_cons rfl (ow_move rfl ?_)
  refine ops_cons rfl (ow_lss2 rfl rfl (fun h1 => absurd h1 (by omega)) (fun h1 => ?_))
  refine ops_nil ?_
  refine c_false rfl ?_
  refine c_skip ?_
  refine tq_n ?_
  refine c_seqR ?_
  refine ops_cons rfl (ow_move rfl ?_)
  refine ops_cons rfl (ow_len Try.underlying24 rfl ?_)
  refine ops_cons rfl (ow_conv Try.underlying3 Try.underlying143 rfl (show IntKind.u64.wrap _ = 1 from wu (by omega)) ?_)
  refine ops_cons rfl (ow_move rfl ?_)
  refine ops_cons rfl (ow_conv Try.underlying3 Try.underlying143 rfl (wu (by omega)) ?_)
  refine ops_cons rfl (ow_call ent135 rfl (ret_mono (mul_c _ _ hn.2) ?_))
  rintro _ w3 ⟨rfl, x2⟩
  replace hs := hs.ext x2
  replace X := Ext.trans X x2; clear x2
  refine ops_cons rfl (ow_move rfl ?_)
  refine ops_cons rfl (ow_extract rfl rfl ?_)
  refine ops_cons rfl (ow_extract rfl rfl ?_)
  refine ops_cons rfl (ow_assign rfl ?_)
  refine ops_cons rfl (ow_assign rfl ?_)
  refine ops_nil ?_
  refine c_seq ?_
  refine c_seqR ?_
  refine ops_cons rfl (ow_move rfl ?_)
  refine ops_cons rfl (ow_gtr2 rfl rfl (fun h4 => absurd h4 (by omega)) (fun h4 => ?_))
  refine ops_cons rfl (ow_move rfl ?_)
  refine ops_want rfl rfl rfl (ow_move rfl ?_)
  refine ops_want rfl rfl rfl (ow_gtr2 rfl rfl (fun h5 => absurd h5 (by omega)) (fun h5 => ?_))
  refine ops_cons rfl (ow_pick rfl rfl ?_)
  refine ops_nil ?_
  refine c_false rfl ?_
  refine c_skip ?_
  refine tq_n ?_
  refine c_seqR ?_
  refine ops_cons rfl (ow_move rfl ?_)
  refine ops_cons rfl (ow_conv Try.underlying143 Try.underlying3 rfl (w64 (by omega)) ?_)
  refine ops_cons rfl (ow_make el24 ti2 rfl rfl rfl rfl rfl rfl (by omega) (by omega) ?_)
  intro gM w7 egM oM x6
  replace oM := Own.low oM X.size
  replace hs := hs.ext x6
  replace X := Ext.trans X x6; clear x6
  replace oM := oM.to (cs' := (List.replicate n (0 : Int)).flatMap eI) (by rw [← repL_flat]; rfl)
  refine ops_cons rfl (ow_assign rfl ?_)
  refine ops_nil ?_
  refine c_seqR ?_
  refine ops_cons rfl (ow_move rfl ?_)
  refine ops_cons rfl (ow_move rfl ?_)
  refine ops_cons rfl (ow_copyG (k := 1) oM (hs) Try.underlying24 ti2 rfl rfl (show (1 : Nat) = min 1 n by omega) rfl (by omega) (by omega) (one_ints [z]) ?_)
  intro wC oN hgC
  replace hs := hs.grown hgC (fun g hg => Nat.le_trans Bhs (Own.lt oM hg).1)
  replace X := X.grown hgC X.size (fun g hg => (Own.lt oM hg).1)
  clear hgC oM
  replace oN := oN.to (cs' := (List.replicate 1 z ++ List.replicate (n - 1) (0 : Int)).flatMap eI) (by
    simp only [eI_map, List.map_append, List.map_replicate, List.drop_replicate, List.take_zero, List.nil_append, List.replicate_succ, List.replicate_zero, List.map_cons, List.map_nil])
  refine ops_cons rfl (ow_assign rfl ?_)
  refine ops_nil ?_
  refine c_seq ?_
  refine c_block ?_
  refine c_loop (G := Nat) (fun k => [(4, .slice none 0 0), (7, .slice (some ⟨gM, 0, none⟩) n n), (8, .int .i64 (k : Nat))]) (fun k wr => (1 ≤ k ∧ k ≤ n) ∧ Own wr w.heap.size 2 1 (some ⟨gM, 0, none⟩) n n ((List.replicate k z ++ List.replicate (n - k) (0 : Int)).flatMap eI) ∧ Sl B wr (some aS) (([z] : List Int).flatMap eI) ∧ Ext w wr) (fun k => n - k) 1 (.cons rfl (.cons rfl (.cons rfl (.nil _)))) ?_ ?_
  · exact ⟨by omega, oN, hs, X⟩
  clear hs oN
  clear X
  rintro k wr ⟨hk0, oN, hs, X⟩
  refine c_seq ?_
  refine c_seqR ?_
  refine ops_cons rfl (ow_move rfl ?_)
  refine ops_cons rfl (ow_move rfl ?_)
  refine ops_cons rfl (ow_len Try.underlying24 rfl ?_)
  refine ops_cons rfl (ow_lss2 rfl rfl (fun hk => ?_) (fun hk => ?_))
  · skip
    refine ops_nil ?_
    refine c_true rfl ?_
    refine c_skip ?_
    refine tq_n ?_
    refine c_block ?_
    refine c_regI (fun _ => True) mixed ?_
    obtain ⟨w8, ew8⟩ : ∃ wy, wy = World.drew wr := ⟨_, rfl⟩
    rw [← ew8]
    have xd : Ext wr w8 := ew8 ▸ Ext.drew wr
    replace oN := oN.ext xd
    replace hs := hs.ext xd
    replace X := Ext.trans X xd; clear xd ew8
    refine wi_take 0 rfl (by kernel_rfl) rfl (by kernel_rfl) (listed' := #[true, false, false, false, false, false, false, false, false, false]) rfl (fun wq sq => ow_move rfl ⟨rfl, rfl⟩) ?_
    refine wi_take 1 rfl (by kernel_rfl) rfl (by kernel_rfl) (listed' := #[true, true, false, false, false, false, false, false, false, false]) rfl (fun wq sq => ow_move rfl ⟨rfl, rfl⟩) ?_
    refine wi_take 2 rfl (by kernel_rfl) rfl (by kernel_rfl) (listed' := #[true, true, true, false, false, false, false, false, false, false]) rfl (fun wq sq => ow_move rfl ⟨rfl, rfl⟩) ?_
    refine wi_take 3 rfl (by kernel_rfl) rfl (by kernel_rfl) (listed' := #[true, true, true, true, false, false, false, false, false, false]) rfl (fun wq sq => ow_sliceLG (g := gM) (l := k) el24 rfl rfl rfl (by omega) (Nat.le_refl n) ⟨rfl, rfl⟩) ?_
    refine wi_take 4 rfl (by kernel_rfl) rfl (by kernel_rfl) (listed' := #[true, true, true, true, true, false, false, false, false, false]) rfl (fun wq sq => ow_move rfl ⟨rfl, rfl⟩) ?_
    refine wi_take 5 rfl (by kernel_rfl) rfl (by kernel_rfl) (listed' := #[true, true, true, true, true, true, false, false, false, false]) rfl (fun wq sq => ow_move rfl ⟨rfl, rfl⟩) ?_
    refine wi_take 6 rfl (by kernel_rfl) rfl (by kernel_rfl) (listed' := #[true, true, true, true, true, true, true, false, false, false]) rfl (fun wq sq => ow_sliceHO (h := k) el24 rfl rfl rfl (by omega) ⟨rfl, rfl⟩) ?_
    obtain ⟨m, hm⟩ : ∃ m, m = min k (n - k) := ⟨_, rfl⟩
    refine wi_one 7 rfl rfl (by kernel_rfl) (listed' := #[true, true, true, true, true, true, true, true, false, false]) rfl trivial (ow_copyG (k := m) oN ((Sl.head oN.sl m)) Try.underlying24 ti2 rfl rfl (by show m = min k (n - k); exact hm) (by rw [List.length_take, flat_len eI_len]; simp; omega) (by omega) (by omega) (fun u hu => one_ints _ u (List.mem_of_mem_take hu)) ?_)
    intro wC oP hgC
    replace hs := hs.grown hgC (fun g hg => Nat.le_trans Bhs (Own.lt oN hg).1)
    replace X := X.grown hgC X.size (fun g hg => (Own.lt oN hg).1)
    clear hgC oN
    replace oP := oP.to (cs' := (List.replicate (k + m) z ++ List.replicate (n - (k + m)) (0 : Int)).flatMap eI) (by rw [← fill_copy (by omega) (by omega), Nat.mul_one])
    refine wi_take 8 rfl (by kernel_rfl) rfl (by kernel_rfl) (listed' := #[true, true, true, true, true, true, true, true, true, false]) rfl (fun wq sq => ow_add rfl rfl (show IntKind.i64.wrap _ = ((k + m : Nat) : Int) by rw [w64 (by omega)]; omega) ⟨rfl, rfl⟩) ?_
    refine wi_take 9 rfl (by kernel_rfl) rfl (by kernel_rfl) (listed' := #[true, true, true, true, true, true, true, true, true, true]) rfl (fun wq sq => ow_assign rfl ⟨rfl, rfl⟩) ?_
    refine wi_done rfl trivial (fun aj fj => ⟨_, fj, ?_⟩)
    refine bq_n ?_
    refine tq_n ⟨k + m, (.cons rfl (.cons rfl (.cons rfl (.nil _)))), ?_, ?_⟩
    · exact ⟨by omega, oP, hs, X⟩
    · first | omega | (dsimp only; omega)
  · skip
    refine ops_nil ?_
    refine c_false rfl ?_
    refine c_exit ?_
    refine tq_e ?_
    refine tq_e ?_
    refine bq_e ?_
    refine tq_n ?_
    refine c_seqR ?_
    refine ops_cons rfl (ow_move rfl ?_)
    refine ops_cons rfl (ow_assign rfl ?_)
    refine ops_nil ?_
    refine c_ret ?_
    refine fin_ret1 rfl rfl ?_
    rw [show k = n by omega, Nat.sub_self, List.replicate_zero, List.append_nil] at oN
    exact ⟨some ⟨gM, 0, none⟩, n, by rw [List.length_replicate], by rw [List.length_replicate]; exact oN, X⟩
end Go.Proofs.Ytimabffnoanciaa
