/- Texts of the seat that a law needs, put together. No condition. -/
import Derived.Test.YtdoibplhbdkapaaGreatDoorCKP4
import Derived.Test.YtdoibplhbdkapaaGreatDoorCKP17
import Derived.Test.YtdoibplhbdkapaaGreatDoorCKP8
import Derived.Test.YtdoibplhbdkapaaGreatDoorCKP3
import Derived.Test.YtdoibplhbdkapaaGreatDoorCKP2
import Derived.ProofKit
import Derived.OpenShut
namespace Go.Proofs.YtdoibplhbdkapaaGreatDoor
open Go.RowKit
set_option linter.unusedVariables false
set_option linter.unusedSimpArgs false
set_option maxRecDepth 20000
theorem markText_c (k0 : Int) (w : World) (hk : k0 ≤ 1152921504606846976) :
    Calls Tryz.prog 176 #[.int .i64 k0] w (Ret fun v w' => v = .string (markT k0) ∧ Ext w w') := by
  have X := Ext.refl w
  refine calls_of (args := [.int .i64 k0]) Tryz.func176 Tryz.ntmps176 rfl rfl ?_
  refine c_seqR ?_
  refine ops_cons rfl (ow_assign rfl ?_)
  refine ops_nil ?_
  refine c_seq ?_
  refine c_seqR ?_
  refine ops_cons rfl (ow_move rfl ?_)
  refine ops_cons rfl (ow_leq2 rfl rfl (fun h0 => ?_) (fun h0 => ?_))
  refine ops_nil ?_
  refine c_true rfl ?_
  refine c_seqR ?_
  refine ops_cons rfl (ow_assign rfl ?_)
  refine ops_nil ?_
  refine c_ret ?_
  refine tq_r ?_
  refine fin_ret1 rfl rfl ?_
  · skip
    first
    | (rw [markT, if_pos (by omega)]; exact ⟨rfl, X⟩)
    | (rw [markT, if_neg (by omega), Int.toNat_natCast, hi]
       have e : digF f n out = out := by
         obtain rfl : n = 0 := by omega
         cases f <;> simp [digF]
       rw [e]; exact ⟨rfl, X⟩)
  obtain ⟨n0, rfl⟩ : ∃ n0 : Nat, k0 = (n0 : Int) := ⟨k0.toNat, by omega⟩
  refine ops_nil ?_
  refine c_false rfl ?_
  refine c_skip ?_
  refine tq_n ?_
  refine c_seqR ?_
  refine ops_cons rfl (ow_assign rfl ?_)
  refine ops_nil ?_
  refine c_seq ?_
  refine c_block ?_
  refine c_loop (G := Nat × Nat × ByteArray) (fun ⟨f, n, out⟩ => [(0, .int .i64 (n : Nat)), (3, .string out)]) (fun ⟨f, n, out⟩ wr => n ≤ f ∧ out.size + f ≤ 1152921504606846976 ∧ digF n0 n0 ⟨#[]⟩ = digF f n out ∧ Ext w wr) (fun ⟨f, n, out⟩ => f) (n0, n0, ⟨#[]⟩) (.cons rfl (.cons rfl (.nil _))) ?_ ?_
  · exact ⟨(Nat.le_refl _), (by show 0 + n0 ≤ _; omega), rfl, X⟩
  clear X
  rintro ⟨f, n, out⟩ wr ⟨hf, hz, hi, X⟩
  refine c_seq ?_
  refine c_seqR ?_
  refine ops_cons rfl (ow_move rfl ?_)
  refine ops_cons rfl (ow_gtr2 rfl rfl (fun h1 => ?_) (fun h1 => ?_))
  refine ops_nil ?_
  refine c_true rfl ?_
  refine c_skip ?_
  refine tq_n ?_
  refine c_block ?_
  refine c_seqR ?_
  refine ops_cons rfl (ow_move rfl ?_)
  refine ops_cons rfl (ow_rem rfl rfl (by omega) (m64 (by omega)) ?_)
  refine ops_cons rfl (ow_add rfl rfl (w64 (by omega)) ?_)
  refine ops_cons rfl (ow_conv Tryz.underlying3 Tryz.underlying5 rfl (wu8 (by omega)) ?_)
  refine ops_cons rfl (ow_buildSlice el22 ti5 rfl rfl rfl rfl rfl ?_)
  intro g1 w3 eg1 oB bbg1 x2 zg1
  replace oB := Own.low oB X.size
  replace X := Ext.trans X x2; clear x2
  replace oB := oB.to (cs' := ([UInt8.ofNat (48 + n % 10)] : List UInt8).flatMap eB) (by rw [← u8dig]; rfl)
  refine ops_cons rfl (ow_convBS Tryz.underlying22 Tryz.underlying5 Tryz.underlying9 (oB).sl rfl rfl ?_)
  refine ops_cons rfl (ow_move rfl ?_)
  refine ops_cons rfl (ow_addS rfl rfl (by rw [show (strOf [UInt8.ofNat (48 + n % 10)]).size = 1 from rfl]; omega) ?_)
  refine ops_cons rfl (ow_assign rfl ?_)
  refine ops_nil ?_
  refine c_region ?_
  refine ops_cons rfl (ow_move rfl ?_)
  refine ops_cons rfl (ow_quo rfl rfl (by omega) (q64 (by omega)) ?_)
  refine ops_cons rfl (ow_assign rfl ?_)
  refine ops_nil ?_
  refine bq_n ?_
  refine tq_n ⟨(f - 1, n / 10, strOf [UInt8.ofNat (48 + n % 10)] ++ out), (.cons rfl (.cons rfl (.nil _))), ?_, ?_⟩
  · skip
    exact ⟨(by omega), (by rw [dig_size]; omega), (by
      obtain ⟨f', rfl⟩ : ∃ f', f = f' + 1 := ⟨f - 1, by omega⟩
      rw [hi, digF, if_neg (by omega)]; rfl), X⟩
  · first | omega | (dsimp only; omega)
  refine ops_nil ?_
  refine c_false rfl ?_
  refine c_exit ?_
  refine tq_e ?_
  refine tq_e ?_
  refine bq_e ?_
  refine tq_n ?_
  refine c_seqR ?_
  refine ops_cons rfl (ow_move rfl ?_)
  refine ops_cons rfl (ow_addS rfl rfl (by show 1 + out.size ≤ _; omega) ?_)
  refine ops_cons rfl (ow_assign rfl ?_)
  refine ops_nil ?_
  refine c_ret ?_
  refine fin_ret1 rfl rfl ?_
  · skip
    first
    | (rw [markT, if_pos (by omega)]; exact ⟨rfl, X⟩)
    | (rw [markT, if_neg (by omega), Int.toNat_natCast, hi]
       have e : digF f n out = out := by
         obtain rfl : n = 0 := by omega
         cases f <;> simp [digF]
       rw [e]; exact ⟨rfl, X⟩)

def mkNodeI (a : Int) : NodeI := (⟨a, markT (a + 1), a + 1 + 1, (decide (Int.tmod (a + 1 + 1 + 1) 3 = 0))⟩ : NodeI)


theorem markNodeI_c (A : Option Addr) (c lo : Nat) (xs : List NodeI) (m : Int) (w : World) (oO : Own w lo 59 4 A xs.length c (xs.flatMap NodeI.cells)) (hl : xs.length ≤ 1048576) (hm : 0 ≤ m ∧ m ≤ 1125899906842624) :
    Calls Tryz.prog 91 #[.slice A xs.length c, .int .i64 m] w (Ret fun v w' => v = .int .i64 (m + 4 * xs.length) ∧ Own w' lo 59 4 A xs.length c ((seqG (fun i => mkNodeI (m + 4 * (i : Nat))) xs.length).flatMap NodeI.cells) ∧ w.grownBy w' (Value.slice A xs.length c).ownBlock) := by
  replace oO := oO.to (cs' := ((seqG (fun i => mkNodeI (m + 4 * (i : Nat))) 0 ++ xs.drop 0)).flatMap NodeI.cells) rfl
  have X := gb_refl w (Value.slice A xs.length c).ownBlock
  refine calls_of (args := [.slice A xs.length c, .int .i64 m]) Tryz.func91 Tryz.ntmps91 rfl rfl ?_
  refine c_seqR ?_
  refine ops_cons rfl (ow_assign rfl ?_)
  refine ops_nil ?_
  refine c_seq ?_
  refine c_seqR ?_
  refine ops_cons rfl (ow_assign rfl ?_)
  refine ops_nil ?_
  refine c_block ?_
  refine c_loop (G := Nat × Int) (fun ⟨k, a⟩ => [(0, .slice A xs.length c), (1, .int .i64 a), (5, .int .i64 (k : Nat))]) (fun ⟨k, a⟩ wr => a = m + 4 * k ∧ k ≤ xs.length ∧ Own wr lo 59 4 A xs.length c ((seqG (fun i => mkNodeI (m + 4 * (i : Nat))) k ++ xs.drop k).flatMap NodeI.cells) ∧ w.grownBy wr (Value.slice A xs.length c).ownBlock) (fun ⟨k, a⟩ => xs.length - k) (0, m) (.cons rfl (.cons rfl (.cons rfl (.nil _)))) ?_ ?_
  · exact ⟨by simp, by omega, oO, X⟩
  clear oO
  clear X
  rintro ⟨k, a⟩ wr ⟨ha, hk0, oO, X⟩
  subst ha
  refine c_seq ?_
  refine c_seqR ?_
  refine ops_cons rfl (ow_move rfl ?_)
  refine ops_cons rfl (ow_move rfl ?_)
  refine ops_cons rfl (ow_len Tryz.underlying24 rfl ?_)
  refine ops_cons rfl (ow_lss2 rfl rfl (fun hk => ?_) (fun hk => ?_))
  have hk1 : k < xs.length := by omega
  obtain ⟨x, hx, dx⟩ := drop_at' hk
  have hL := seqG_at' (g := fun i => mkNodeI (m + 4 * (i : Nat))) hx
  have hn := seqG_all (g := fun i => mkNodeI (m + 4 * (i : Nat))) hk0
  refine ops_nil ?_
  refine c_true rfl ?_
  refine c_skip ?_
  refine tq_n ?_
  refine c_seq ?_
  refine c_block ?_
  refine c_seqR ?_
  refine ops_cons rfl (ow_move rfl ?_)
  refine ops_cons rfl (ow_move rfl ?_)
  refine ops_cons rfl (ow_move rfl ?_)
  refine ops_cons rfl (ow_indexT (oO).sl NodeI.len rfl el24 rfl (by omega) rfl hL rfl ?_)
  refine ops_cons rfl (ow_fieldAddr off59_0 rfl ?_)
  refine ops_cons rfl (ow_storeRF oO ti2 rfl rfl rfl rfl (by omega) (by omega) rfl ?_)
  intro w2 oO hg1 z3
  replace X : w.grownBy w2 (Value.slice A xs.length c).ownBlock := by first | exact gb_trans X hg1 | exact gb_new X hg1 (fun g hg => (Own.lt oO hg).1)
  clear hg1 z3
  replace oO := oO.to (cs' := ((seqG (fun i => mkNodeI (m + 4 * (i : Nat))) k ++ xs.drop k).set k (⟨m + 4 * k, x.name, x.drift, x.passive⟩ : NodeI)).flatMap NodeI.cells) (by
    have e1 := set_field (x := x) (x' := (⟨m + 4 * k, x.name, x.drift, x.passive⟩ : NodeI)) (vs := [.int .i64 (m + 4 * k)]) NodeI.len (s' := 1) (f := 0) rfl (by omega) (seqG (fun i => mkNodeI (m + 4 * (i : Nat))) k ++ xs.drop k) k (hL)
    exact e1)
  refine ops_nil ?_
  refine c_seqR ?_
  refine ops_cons rfl (ow_move rfl ?_)
  refine ops_cons rfl (ow_add rfl rfl (w64 (by omega)) ?_)
  refine ops_cons rfl (ow_assign rfl ?_)
  refine ops_nil ?_
  refine c_seqR ?_
  refine ops_cons rfl (ow_move rfl ?_)
  refine ops_cons rfl (ow_move rfl ?_)
  refine ops_cons rfl (ow_move rfl ?_)
  refine ops_cons rfl (ow_call ent176 rfl (ret_mono (markText_c _ _ (by omega)) ?_))
  rintro _ w5 ⟨rfl, x4⟩
  replace oO := oO.ext x4
  replace X := gb_ext X x4; clear x4
  refine ops_cons rfl (ow_indexT (oO).sl NodeI.len rfl el24 rfl (by simp only [List.length_set]; omega) rfl (set_at (by omega)) rfl ?_)
  refine ops_cons rfl (ow_fieldAddr off59_1 rfl ?_)
  refine ops_cons rfl (ow_storeRF oO ti9 rfl rfl rfl rfl (by omega) (by omega) rfl ?_)
  intro w7 oO hg6 z8
  replace X : w.grownBy w7 (Value.slice A xs.length c).ownBlock := by first | exact gb_trans X hg6 | exact gb_new X hg6 (fun g hg => (Own.lt oO hg).1)
  clear hg6 z8
  replace oO := oO.to (cs' := ((seqG (fun i => mkNodeI (m + 4 * (i : Nat))) k ++ xs.drop k).set k (⟨m + 4 * k, markT (m + 4 * k + 1), x.drift, x.passive⟩ : NodeI)).flatMap NodeI.cells) (by
    have e1 := set_field (x := (⟨m + 4 * k, x.name, x.drift, x.passive⟩ : NodeI)) (x' := (⟨m + 4 * k, markT (m + 4 * k + 1), x.drift, x.passive⟩ : NodeI)) (vs := [.string (markT (m + 4 * k + 1))]) NodeI.len (s' := 1) (f := 1) rfl (by omega) ((seqG (fun i => mkNodeI (m + 4 * (i : Nat))) k ++ xs.drop k).set k (⟨m + 4 * k, x.name, x.drift, x.passive⟩ : NodeI)) k (set_at (x := (⟨m + 4 * k, x.name, x.drift, x.passive⟩ : NodeI)) (l := (seqG (fun i => mkNodeI (m + 4 * (i : Nat))) k ++ xs.drop k)) (by omega))
    rw [List.set_set] at e1; exact e1)
  refine ops_nil ?_
  refine c_seqR ?_
  refine ops_cons rfl (ow_move rfl ?_)
  refine ops_cons rfl (ow_add rfl rfl (w64 (by omega)) ?_)
  refine ops_cons rfl (ow_assign rfl ?_)
  refine ops_nil ?_
  refine c_seqR ?_
  refine ops_cons rfl (ow_move rfl ?_)
  refine ops_cons rfl (ow_move rfl ?_)
  refine ops_cons rfl (ow_move rfl ?_)
  refine ops_cons rfl (ow_indexT (oO).sl NodeI.len rfl el24 rfl (by simp only [List.length_set]; omega) rfl (set_at (by omega)) rfl ?_)
  refine ops_cons rfl (ow_fieldAddr off59_2 rfl ?_)
  refine ops_cons rfl (ow_storeRF oO ti2 rfl rfl rfl rfl (by omega) (by omega) rfl ?_)
  intro w10 oO hg9 z11
  replace X : w.grownBy w10 (Value.slice A xs.length c).ownBlock := by first | exact gb_trans X hg9 | exact gb_new X hg9 (fun g hg => (Own.lt oO hg).1)
  clear hg9 z11
  replace oO := oO.to (cs' := ((seqG (fun i => mkNodeI (m + 4 * (i : Nat))) k ++ xs.drop k).set k (⟨m + 4 * k, markT (m + 4 * k + 1), m + 4 * k + 1 + 1, x.passive⟩ : NodeI)).flatMap NodeI.cells) (by
    have e1 := set_field (x := (⟨m + 4 * k, markT (m + 4 * k + 1), x.drift, x.passive⟩ : NodeI)) (x' := (⟨m + 4 * k, markT (m + 4 * k + 1), m + 4 * k + 1 + 1, x.passive⟩ : NodeI)) (vs := [.int .i64 (m + 4 * k + 1 + 1)]) NodeI.len (s' := 1) (f := 2) rfl (by omega) ((seqG (fun i => mkNodeI (m + 4 * (i : Nat))) k ++ xs.drop k).set k (⟨m + 4 * k, markT (m + 4 * k + 1), x.drift, x.passive⟩ : NodeI)) k (set_at (x := (⟨m + 4 * k, markT (m + 4 * k + 1), x.drift, x.passive⟩ : NodeI)) (l := (seqG (fun i => mkNodeI (m + 4 * (i : Nat))) k ++ xs.drop k)) (by omega))
    rw [List.set_set] at e1; exact e1)
  refine ops_nil ?_
  refine c_seqR ?_
  refine ops_cons rfl (ow_move rfl ?_)
  refine ops_cons rfl (ow_add rfl rfl (w64 (by omega)) ?_)
  refine ops_cons rfl (ow_assign rfl ?_)
  refine ops_nil ?_
  refine c_seqR ?_
  refine ops_cons rfl (ow_move rfl ?_)
  refine ops_cons rfl (ow_move rfl ?_)
  refine ops_cons rfl (ow_move rfl ?_)
  refine ops_cons rfl (ow_rem rfl rfl (by omega) rfl ?_)
  refine ops_cons rfl (ow_eql rfl rfl ?_)
  refine ops_cons rfl (ow_indexT (oO).sl NodeI.len rfl el24 rfl (by simp only [List.length_set]; omega) rfl (set_at (by omega)) rfl ?_)
  refine ops_cons rfl (ow_fieldAddr off59_3 rfl ?_)
  refine ops_cons rfl (ow_storeRF oO ti4 rfl rfl rfl rfl (by omega) (by omega) rfl ?_)
  intro w13 oO hg12 z14
  replace X : w.grownBy w13 (Value.slice A xs.length c).ownBlock := by first | exact gb_trans X hg12 | exact gb_new X hg12 (fun g hg => (Own.lt oO hg).1)
  clear hg12 z14
  replace oO := oO.to (cs' := ((seqG (fun i => mkNodeI (m + 4 * (i : Nat))) k ++ xs.drop k).set k (⟨m + 4 * k, markT (m + 4 * k + 1), m + 4 * k + 1 + 1, (decide (Int.tmod (m + 4 * k + 1 + 1 + 1) 3 = 0))⟩ : NodeI)).flatMap NodeI.cells) (by
    have e1 := set_field (x := (⟨m + 4 * k, markT (m + 4 * k + 1), m + 4 * k + 1 + 1, x.passive⟩ : NodeI)) (x' := (⟨m + 4 * k, markT (m + 4 * k + 1), m + 4 * k + 1 + 1, (decide (Int.tmod (m + 4 * k + 1 + 1 + 1) 3 = 0))⟩ : NodeI)) (vs := [.bool (decide (Int.tmod (m + 4 * k + 1 + 1 + 1) 3 = 0))]) NodeI.len (s' := 1) (f := 3) rfl (by omega) ((seqG (fun i => mkNodeI (m + 4 * (i : Nat))) k ++ xs.drop k).set k (⟨m + 4 * k, markT (m + 4 * k + 1), m + 4 * k + 1 + 1, x.passive⟩ : NodeI)) k (set_at (x := (⟨m + 4 * k, markT (m + 4 * k + 1), m + 4 * k + 1 + 1, x.passive⟩ : NodeI)) (l := (seqG (fun i => mkNodeI (m + 4 * (i : Nat))) k ++ xs.drop k)) (by omega))
    rw [List.set_set] at e1; exact e1)
  replace oO := oO.to (cs' := ((seqG (fun i => mkNodeI (m + 4 * (i : Nat))) (k + 1)) ++ xs.drop (k + 1)).flatMap NodeI.cells) (by rw [← seqG_set hk1]; rfl)
  refine ops_nil ?_
  refine c_region ?_
  refine ops_cons rfl (ow_move rfl ?_)
  refine ops_cons rfl (ow_add rfl rfl (w64 (by omega)) ?_)
  refine ops_cons rfl (ow_assign rfl ?_)
  refine ops_nil ?_
  refine bq_n ?_
  refine tq_n ?_
  refine c_region ?_
  refine ops_cons rfl (ow_move rfl ?_)
  refine ops_cons rfl (ow_add rfl rfl (w64 (by omega)) ?_)
  refine ops_cons rfl (ow_assign rfl ?_)
  refine ops_nil ?_
  refine tq_n ⟨(k + 1, m + 4 * k + 1 + 1 + 1 + 1), (.cons rfl (.cons rfl (.cons rfl (.nil _)))), ?_, ?_⟩
  · exact ⟨by omega, by omega, oO, X⟩
  · dsimp only; omega
  rw [seqG_end hk0 hk] at oO
  refine ops_nil ?_
  refine c_false rfl ?_
  refine c_exit ?_
  refine tq_e ?_
  refine tq_e ?_
  refine bq_e ?_
  refine tq_n ?_
  refine c_seqR ?_
  refine ops_cons rfl (ow_move rfl ?_)
  refine ops_cons rfl (ow_assign rfl ?_)
  refine ops_nil ?_
  refine c_ret ?_
  refine fin_ret1 rfl rfl ?_
  exact ⟨by rw [show k = xs.length by omega], oO, X⟩

def mkSlotI (a : Int) : SlotI := (⟨a, a + 1, a + 1 + 1, ⟨a + 1 + 1 + 1, a + 1 + 1 + 1 + 1, a + 1 + 1 + 1 + 1 + 1, a + 1 + 1 + 1 + 1 + 1 + 1, (decide (Int.tmod (a + 1 + 1 + 1 + 1 + 1 + 1 + 1) 3 = 0))⟩⟩ : SlotI)


theorem markSlotI_c (A : Option Addr) (c lo : Nat) (xs : List SlotI) (m : Int) (w : World) (oO : Own w lo 89 8 A xs.length c (xs.flatMap SlotI.cells)) (hl : xs.length ≤ 1048576) (hm : 0 ≤ m ∧ m ≤ 1125899906842624) :
    Calls Tryz.prog 93 #[.slice A xs.length c, .int .i64 m] w (Ret fun v w' => v = .int .i64 (m + 8 * xs.length) ∧ Own w' lo 89 8 A xs.length c ((seqG (fun i => mkSlotI (m + 8 * (i : Nat))) xs.length).flatMap SlotI.cells) ∧ w.grownBy w' (Value.slice A xs.length c).ownBlock) := by
  replace oO := oO.to (cs' := ((seqG (fun i => mkSlotI (m + 8 * (i : Nat))) 0 ++ xs.drop 0)).flatMap SlotI.cells) rfl
  have X := gb_refl w (Value.slice A xs.length c).ownBlock
  refine calls_of (args := [.slice A xs.length c, .int .i64 m]) Tryz.func93 Tryz.ntmps93 rfl rfl ?_
  refine c_seqR ?_
  refine ops_cons rfl (ow_assign rfl ?_)
  refine ops_nil ?_
  refine c_seq ?_
  refine c_seqR ?_
  refine ops_cons rfl (ow_assign rfl ?_)
  refine ops_nil ?_
  refine c_block ?_
  refine c_loop (G := Nat × Int) (fun ⟨k, a⟩ => [(0, .slice A xs.length c), (1, .int .i64 a), (5, .int .i64 (k : Nat))]) (fun ⟨k, a⟩ wr => a = m + 8 * k ∧ k ≤ xs.length ∧ Own wr lo 89 8 A xs.length c ((seqG (fun i => mkSlotI (m + 8 * (i : Nat))) k ++ xs.drop k).flatMap SlotI.cells) ∧ w.grownBy wr (Value.slice A xs.length c).ownBlock) (fun ⟨k, a⟩ => xs.length - k) (0, m) (.cons rfl (.cons rfl (.cons rfl (.nil _)))) ?_ ?_
  · exact ⟨by simp, by omega, oO, X⟩
  clear oO
  clear X
  rintro ⟨k, a⟩ wr ⟨ha, hk0, oO, X⟩
  subst ha
  refine c_seq ?_
  refine c_seqR ?_
  refine ops_cons rfl (ow_move rfl ?_)
  refine ops_cons rfl (ow_move rfl ?_)
  refine ops_cons rfl (ow_len Tryz.underlying26 rfl ?_)
  refine ops_cons rfl (ow_lss2 rfl rfl (fun hk => ?_) (fun hk => ?_))
  have hk1 : k < xs.length := by omega
  obtain ⟨x, hx, dx⟩ := drop_at' hk
  have hL := seqG_at' (g := fun i => mkSlotI (m + 8 * (i : Nat))) hx
  have hn := seqG_all (g := fun i => mkSlotI (m + 8 * (i : Nat))) hk0
  refine ops_nil ?_
  refine c_true rfl ?_
  refine c_skip ?_
  refine tq_n ?_
  refine c_seq ?_
  refine c_block ?_
  refine c_seqR ?_
  refine ops_cons rfl (ow_move rfl ?_)
  refine ops_cons rfl (ow_move rfl ?_)
  refine ops_cons rfl (ow_move rfl ?_)
  refine ops_cons rfl (ow_indexT (oO).sl SlotI.len rfl el26 rfl (by omega) rfl hL rfl ?_)
  refine ops_cons rfl (ow_fieldAddr off89_0 rfl ?_)
  refine ops_cons rfl (ow_storeRF oO ti2 rfl rfl rfl rfl (by omega) (by omega) rfl ?_)
  intro w2 oO hg1 z3
  replace X : w.grownBy w2 (Value.slice A xs.length c).ownBlock := by first | exact gb_trans X hg1 | exact gb_new X hg1 (fun g hg => (Own.lt oO hg).1)
  clear hg1 z3
  replace oO := oO.to (cs' := ((seqG (fun i => mkSlotI (m + 8 * (i : Nat))) k ++ xs.drop k).set k (⟨m + 8 * k, x.round, x.slot, ⟨x.desc.node, x.desc.kind, x.desc.size, x.desc.duration, x.desc.change⟩⟩ : SlotI)).flatMap SlotI.cells) (by
    have e1 := set_field (x := x) (x' := (⟨m + 8 * k, x.round, x.slot, ⟨x.desc.node, x.desc.kind, x.desc.size, x.desc.duration, x.desc.change⟩⟩ : SlotI)) (vs := [.int .i64 (m + 8 * k)]) SlotI.len (s' := 1) (f := 0) rfl (by omega) (seqG (fun i => mkSlotI (m + 8 * (i : Nat))) k ++ xs.drop k) k (hL)
    exact e1)
  refine ops_nil ?_
  refine c_seqR ?_
  refine ops_cons rfl (ow_move rfl ?_)
  refine ops_cons rfl (ow_add rfl rfl (w64 (by omega)) ?_)
  refine ops_cons rfl (ow_assign rfl ?_)
  refine ops_nil ?_
  refine c_seqR ?_
  refine ops_cons rfl (ow_move rfl ?_)
  refine ops_cons rfl (ow_move rfl ?_)
  refine ops_cons rfl (ow_move rfl ?_)
  refine ops_cons rfl (ow_indexT (oO).sl SlotI.len rfl el26 rfl (by simp only [List.length_set]; omega) rfl (set_at (by omega)) rfl ?_)
  refine ops_cons rfl (ow_fieldAddr off89_1 rfl ?_)
  refine ops_cons rfl (ow_storeRF oO ti2 rfl rfl rfl rfl (by omega) (by omega) rfl ?_)
  intro w5 oO hg4 z6
  replace X : w.grownBy w5 (Value.slice A xs.length c).ownBlock := by first | exact gb_trans X hg4 | exact gb_new X hg4 (fun g hg => (Own.lt oO hg).1)
  clear hg4 z6
  replace oO := oO.to (cs' := ((seqG (fun i => mkSlotI (m + 8 * (i : Nat))) k ++ xs.drop k).set k (⟨m + 8 * k, m + 8 * k + 1, x.slot, ⟨x.desc.node, x.desc.kind, x.desc.size, x.desc.duration, x.desc.change⟩⟩ : SlotI)).flatMap SlotI.cells) (by
    have e1 := set_field (x := (⟨m + 8 * k, x.round, x.slot, ⟨x.desc.node, x.desc.kind, x.desc.size, x.desc.duration, x.desc.change⟩⟩ : SlotI)) (x' := (⟨m + 8 * k, m + 8 * k + 1, x.slot, ⟨x.desc.node, x.desc.kind, x.desc.size, x.desc.duration, x.desc.change⟩⟩ : SlotI)) (vs := [.int .i64 (m + 8 * k + 1)]) SlotI.len (s' := 1) (f := 1) rfl (by omega) ((seqG (fun i => mkSlotI (m + 8 * (i : Nat))) k ++ xs.drop k).set k (⟨m + 8 * k, x.round, x.slot, ⟨x.desc.node, x.desc.kind, x.desc.size, x.desc.duration, x.desc.change⟩⟩ : SlotI)) k (set_at (x := (⟨m + 8 * k, x.round, x.slot, ⟨x.desc.node, x.desc.kind, x.desc.size, x.desc.duration, x.desc.change⟩⟩ : SlotI)) (l := (seqG (fun i => mkSlotI (m + 8 * (i : Nat))) k ++ xs.drop k)) (by omega))
    rw [List.set_set] at e1; exact e1)
  refine ops_nil ?_
  refine c_seqR ?_
  refine ops_cons rfl (ow_move rfl ?_)
  refine ops_cons rfl (ow_add rfl rfl (w64 (by omega)) ?_)
  refine ops_cons rfl (ow_assign rfl ?_)
  refine ops_nil ?_
  refine c_seqR ?_
  refine ops_cons rfl (ow_move rfl ?_)
  refine ops_cons rfl (ow_move rfl ?_)
  refine ops_cons rfl (ow_move rfl ?_)
  refine ops_cons rfl (ow_indexT (oO).sl SlotI.len rfl el26 rfl (by simp only [List.length_set]; omega) rfl (set_at (by omega)) rfl ?_)
  refine ops_cons rfl (ow_fieldAddr off89_2 rfl ?_)
  refine ops_cons rfl (ow_storeRF oO ti2 rfl rfl rfl rfl (by omega) (by omega) rfl ?_)
  intro w9 oO hg7 z10
  replace X : w.grownBy w9 (Value.slice A xs.length c).ownBlock := by first | exact gb_trans X hg7 | exact gb_new X hg7 (fun g hg => (Own.lt oO hg).1)
  clear hg7 z10
  replace oO := oO.to (cs' := ((seqG (fun i => mkSlotI (m + 8 * (i : Nat))) k ++ xs.drop k).set k (⟨m + 8 * k, m + 8 * k + 1, m + 8 * k + 1 + 1, ⟨x.desc.node, x.desc.kind, x.desc.size, x.desc.duration, x.desc.change⟩⟩ : SlotI)).flatMap SlotI.cells) (by
    have e1 := set_field (x := (⟨m + 8 * k, m + 8 * k + 1, x.slot, ⟨x.desc.node, x.desc.kind, x.desc.size, x.desc.duration, x.desc.change⟩⟩ : SlotI)) (x' := (⟨m + 8 * k, m + 8 * k + 1, m + 8 * k + 1 + 1, ⟨x.desc.node, x.desc.kind, x.desc.size, x.desc.duration, x.desc.change⟩⟩ : SlotI)) (vs := [.int .i64 (m + 8 * k + 1 + 1)]) SlotI.len (s' := 1) (f := 2) rfl (by omega) ((seqG (fun i => mkSlotI (m + 8 * (i : Nat))) k ++ xs.drop k).set k (⟨m + 8 * k, m + 8 * k + 1, x.slot, ⟨x.desc.node, x.desc.kind, x.desc.size, x.desc.duration, x.desc.change⟩⟩ : SlotI)) k (set_at (x := (⟨m + 8 * k, m + 8 * k + 1, x.slot, ⟨x.desc.node, x.desc.kind, x.desc.size, x.desc.duration, x.desc.change⟩⟩ : SlotI)) (l := (seqG (fun i => mkSlotI (m + 8 * (i : Nat))) k ++ xs.drop k)) (by omega))
    rw [List.set_set] at e1; exact e1)
  refine ops_nil ?_
  refine c_seqR ?_
  refine ops_cons rfl (ow_move rfl ?_)
  refine ops_cons rfl (ow_add rfl rfl (w64 (by omega)) ?_)
  refine ops_cons rfl (ow_assign rfl ?_)
  refine ops_nil ?_
  refine c_seqR ?_
  refine ops_cons rfl (ow_move rfl ?_)
  refine ops_cons rfl (ow_move rfl ?_)
  refine ops_cons rfl (ow_move rfl ?_)
  refine ops_cons rfl (ow_indexT (oO).sl SlotI.len rfl el26 rfl (by simp only [List.length_set]; omega) rfl (set_at (by omega)) rfl ?_)
  refine ops_cons rfl (ow_fieldAddr off89_3 rfl ?_)
  refine ops_cons rfl (ow_fieldAddr off67_0 rfl ?_)
  refine ops_cons rfl (ow_storeRFF oO ti2 rfl rfl rfl rfl (by omega) (by omega) rfl ?_)
  intro w12 oO hg11 z13
  replace X : w.grownBy w12 (Value.slice A xs.length c).ownBlock := by first | exact gb_trans X hg11 | exact gb_new X hg11 (fun g hg => (Own.lt oO hg).1)
  clear hg11 z13
  replace oO := oO.to (cs' := ((seqG (fun i => mkSlotI (m + 8 * (i : Nat))) k ++ xs.drop k).set k (⟨m + 8 * k, m + 8 * k + 1, m + 8 * k + 1 + 1, ⟨m + 8 * k + 1 + 1 + 1, x.desc.kind, x.desc.size, x.desc.duration, x.desc.change⟩⟩ : SlotI)).flatMap SlotI.cells) (by
    have e1 := set_field (x := (⟨m + 8 * k, m + 8 * k + 1, m + 8 * k + 1 + 1, ⟨x.desc.node, x.desc.kind, x.desc.size, x.desc.duration, x.desc.change⟩⟩ : SlotI)) (x' := (⟨m + 8 * k, m + 8 * k + 1, m + 8 * k + 1 + 1, ⟨m + 8 * k + 1 + 1 + 1, x.desc.kind, x.desc.size, x.desc.duration, x.desc.change⟩⟩ : SlotI)) (vs := [.int .i64 (m + 8 * k + 1 + 1 + 1)]) SlotI.len (s' := 1) (f := 3) rfl (by omega) ((seqG (fun i => mkSlotI (m + 8 * (i : Nat))) k ++ xs.drop k).set k (⟨m + 8 * k, m + 8 * k + 1, m + 8 * k + 1 + 1, ⟨x.desc.node, x.desc.kind, x.desc.size, x.desc.duration, x.desc.change⟩⟩ : SlotI)) k (set_at (x := (⟨m + 8 * k, m + 8 * k + 1, m + 8 * k + 1 + 1, ⟨x.desc.node, x.desc.kind, x.desc.size, x.desc.duration, x.desc.change⟩⟩ : SlotI)) (l := (seqG (fun i => mkSlotI (m + 8 * (i : Nat))) k ++ xs.drop k)) (by omega))
    rw [List.set_set] at e1; exact e1)
  refine ops_nil ?_
  refine c_seqR ?_
  refine ops_cons rfl (ow_move rfl ?_)
  refine ops_cons rfl (ow_add rfl rfl (w64 (by omega)) ?_)
  refine ops_cons rfl (ow_assign rfl ?_)
  refine ops_nil ?_
  refine c_seqR ?_
  refine ops_cons rfl (ow_move rfl ?_)
  refine ops_cons rfl (ow_move rfl ?_)
  refine ops_cons rfl (ow_move rfl ?_)
  refine ops_cons rfl (ow_indexT (oO).sl SlotI.len rfl el26 rfl (by simp only [List.length_set]; omega) rfl (set_at (by omega)) rfl ?_)
  refine ops_cons rfl (ow_fieldAddr off89_3 rfl ?_)
  refine ops_cons rfl (ow_fieldAddr off67_1 rfl ?_)
  refine ops_cons rfl (ow_storeRFF oO ti2 rfl rfl rfl rfl (by omega) (by omega) rfl ?_)
  intro w15 oO hg14 z16
  replace X : w.grownBy w15 (Value.slice A xs.length c).ownBlock := by first | exact gb_trans X hg14 | exact gb_new X hg14 (fun g hg => (Own.lt oO hg).1)
  clear hg14 z16
  replace oO := oO.to (cs' := ((seqG (fun i => mkSlotI (m + 8 * (i : Nat))) k ++ xs.drop k).set k (⟨m + 8 * k, m + 8 * k + 1, m + 8 * k + 1 + 1, ⟨m + 8 * k + 1 + 1 + 1, m + 8 * k + 1 + 1 + 1 + 1, x.desc.size, x.desc.duration, x.desc.change⟩⟩ : SlotI)).flatMap SlotI.cells) (by
    have e1 := set_field (x := (⟨m + 8 * k, m + 8 * k + 1, m + 8 * k + 1 + 1, ⟨m + 8 * k + 1 + 1 + 1, x.desc.kind, x.desc.size, x.desc.duration, x.desc.change⟩⟩ : SlotI)) (x' := (⟨m + 8 * k, m + 8 * k + 1, m + 8 * k + 1 + 1, ⟨m + 8 * k + 1 + 1 + 1, m + 8 * k + 1 + 1 + 1 + 1, x.desc.size, x.desc.duration, x.desc.change⟩⟩ : SlotI)) (vs := [.int .i64 (m + 8 * k + 1 + 1 + 1 + 1)]) SlotI.len (s' := 1) (f := 4) rfl (by omega) ((seqG (fun i => mkSlotI (m + 8 * (i : Nat))) k ++ xs.drop k).set k (⟨m + 8 * k, m + 8 * k + 1, m + 8 * k + 1 + 1, ⟨m + 8 * k + 1 + 1 + 1, x.desc.kind, x.desc.size, x.desc.duration, x.desc.change⟩⟩ : SlotI)) k (set_at (x := (⟨m + 8 * k, m + 8 * k + 1, m + 8 * k + 1 + 1, ⟨m + 8 * k + 1 + 1 + 1, x.desc.kind, x.desc.size, x.desc.duration, x.desc.change⟩⟩ : SlotI)) (l := (seqG (fun i => mkSlotI (m + 8 * (i : Nat))) k ++ xs.drop k)) (by omega))
    rw [List.set_set] at e1; exact e1)
  refine ops_nil ?_
  refine c_seqR ?_
  refine ops_cons rfl (ow_move rfl ?_)
  refine ops_cons rfl (ow_add rfl rfl (w64 (by omega)) ?_)
  refine ops_cons rfl (ow_assign rfl ?_)
  refine ops_nil ?_
  refine c_seqR ?_
  refine ops_cons rfl (ow_move rfl ?_)
  refine ops_cons rfl (ow_move rfl ?_)
  refine ops_cons rfl (ow_move rfl ?_)
  refine ops_cons rfl (ow_indexT (oO).sl SlotI.len rfl el26 rfl (by simp only [List.length_set]; omega) rfl (set_at (by omega)) rfl ?_)
  refine ops_cons rfl (ow_fieldAddr off89_3 rfl ?_)
  refine ops_cons rfl (ow_fieldAddr off67_2 rfl ?_)
  refine ops_cons rfl (ow_storeRFF oO ti2 rfl rfl rfl rfl (by omega) (by omega) rfl ?_)
  intro w18 oO hg17 z19
  replace X : w.grownBy w18 (Value.slice A xs.length c).ownBlock := by first | exact gb_trans X hg17 | exact gb_new X hg17 (fun g hg => (Own.lt oO hg).1)
  clear hg17 z19
  replace oO := oO.to (cs' := ((seqG (fun i => mkSlotI (m + 8 * (i : Nat))) k ++ xs.drop k).set k (⟨m + 8 * k, m + 8 * k + 1, m + 8 * k + 1 + 1, ⟨m + 8 * k + 1 + 1 + 1, m + 8 * k + 1 + 1 + 1 + 1, m + 8 * k + 1 + 1 + 1 + 1 + 1, x.desc.duration, x.desc.change⟩⟩ : SlotI)).flatMap SlotI.cells) (by
    have e1 := set_field (x := (⟨m + 8 * k, m + 8 * k + 1, m + 8 * k + 1 + 1, ⟨m + 8 * k + 1 + 1 + 1, m + 8 * k + 1 + 1 + 1 + 1, x.desc.size, x.desc.duration, x.desc.change⟩⟩ : SlotI)) (x' := (⟨m + 8 * k, m + 8 * k + 1, m + 8 * k + 1 + 1, ⟨m + 8 * k + 1 + 1 + 1, m + 8 * k + 1 + 1 + 1 + 1, m + 8 * k + 1 + 1 + 1 + 1 + 1, x.desc.duration, x.desc.change⟩⟩ : SlotI)) (vs := [.int .i64 (m + 8 * k + 1 + 1 + 1 + 1 + 1)]) SlotI.len (s' := 1) (f := 5) rfl (by omega) ((seqG (fun i => mkSlotI (m + 8 * (i : Nat))) k ++ xs.drop k).set k (⟨m + 8 * k, m + 8 * k + 1, m + 8 * k + 1 + 1, ⟨m + 8 * k + 1 + 1 + 1, m + 8 * k + 1 + 1 + 1 + 1, x.desc.size, x.desc.duration, x.desc.change⟩⟩ : SlotI)) k (set_at (x := (⟨m + 8 * k, m + 8 * k + 1, m + 8 * k + 1 + 1, ⟨m + 8 * k + 1 + 1 + 1, m + 8 * k + 1 + 1 + 1 + 1, x.desc.size, x.desc.duration, x.desc.change⟩⟩ : SlotI)) (l := (seqG (fun i => mkSlotI (m + 8 * (i : Nat))) k ++ xs.drop k)) (by omega))
    rw [List.set_set] at e1; exact e1)
  refine ops_nil ?_
  refine c_seqR ?_
  refine ops_cons rfl (ow_move rfl ?_)
  refine ops_cons rfl (ow_add rfl rfl (w64 (by omega)) ?_)
  refine ops_cons rfl (ow_assign rfl ?_)
  refine ops_nil ?_
  refine c_seqR ?_
  refine ops_cons rfl (ow_move rfl ?_)
  refine ops_cons rfl (ow_move rfl ?_)
  refine ops_cons rfl (ow_move rfl ?_)
  refine ops_cons rfl (ow_indexT (oO).sl SlotI.len rfl el26 rfl (by simp only [List.length_set]; omega) rfl (set_at (by omega)) rfl ?_)
  refine ops_cons rfl (ow_fieldAddr off89_3 rfl ?_)
  refine ops_cons rfl (ow_fieldAddr off67_3 rfl ?_)
  refine ops_cons rfl (ow_storeRFF oO ti2 rfl rfl rfl rfl (by omega) (by omega) rfl ?_)
  intro w21 oO hg20 z22
  replace X : w.grownBy w21 (Value.slice A xs.length c).ownBlock := by first | exact gb_trans X hg20 | exact gb_new X hg20 (fun g hg => (Own.lt oO hg).1)
  clear hg20 z22
  replace oO := oO.to (cs' := ((seqG (fun i => mkSlotI (m + 8 * (i : Nat))) k ++ xs.drop k).set k (⟨m + 8 * k, m + 8 * k + 1, m + 8 * k + 1 + 1, ⟨m + 8 * k + 1 + 1 + 1, m + 8 * k + 1 + 1 + 1 + 1, m + 8 * k + 1 + 1 + 1 + 1 + 1, m + 8 * k + 1 + 1 + 1 + 1 + 1 + 1, x.desc.change⟩⟩ : SlotI)).flatMap SlotI.cells) (by
    have e1 := set_field (x := (⟨m + 8 * k, m + 8 * k + 1, m + 8 * k + 1 + 1, ⟨m + 8 * k + 1 + 1 + 1, m + 8 * k + 1 + 1 + 1 + 1, m + 8 * k + 1 + 1 + 1 + 1 + 1, x.desc.duration, x.desc.change⟩⟩ : SlotI)) (x' := (⟨m + 8 * k, m + 8 * k + 1, m + 8 * k + 1 + 1, ⟨m + 8 * k + 1 + 1 + 1, m + 8 * k + 1 + 1 + 1 + 1, m + 8 * k + 1 + 1 + 1 + 1 + 1, m + 8 * k + 1 + 1 + 1 + 1 + 1 + 1, x.desc.change⟩⟩ : SlotI)) (vs := [.int .i64 (m + 8 * k + 1 + 1 + 1 + 1 + 1 + 1)]) SlotI.len (s' := 1) (f := 6) rfl (by omega) ((seqG (fun i => mkSlotI (m + 8 * (i : Nat))) k ++ xs.drop k).set k (⟨m + 8 * k, m + 8 * k + 1, m + 8 * k + 1 + 1, ⟨m + 8 * k + 1 + 1 + 1, m + 8 * k + 1 + 1 + 1 + 1, m + 8 * k + 1 + 1 + 1 + 1 + 1, x.desc.duration, x.desc.change⟩⟩ : SlotI)) k (set_at (x := (⟨m + 8 * k, m + 8 * k + 1, m + 8 * k + 1 + 1, ⟨m + 8 * k + 1 + 1 + 1, m + 8 * k + 1 + 1 + 1 + 1, m + 8 * k + 1 + 1 + 1 + 1 + 1, x.desc.duration, x.desc.change⟩⟩ : SlotI)) (l := (seqG (fun i => mkSlotI (m + 8 * (i : Nat))) k ++ xs.drop k)) (by omega))
    rw [List.set_set] at e1; exact e1)
  refine ops_nil ?_
  refine c_seqR ?_
  refine ops_cons rfl (ow_move rfl ?_)
  refine ops_cons rfl (ow_add rfl rfl (w64 (by omega)) ?_)
  refine ops_cons rfl (ow_assign rfl ?_)
  refine ops_nil ?_
  refine c_seqR ?_
  refine ops_cons rfl (ow_move rfl ?_)
  refine ops_cons rfl (ow_move rfl ?_)
  refine ops_cons rfl (ow_move rfl ?_)
  refine ops_cons rfl (ow_rem rfl rfl (by omega) rfl ?_)
  refine ops_cons rfl (ow_eql rfl rfl ?_)
  refine ops_cons rfl (ow_indexT (oO).sl SlotI.len rfl el26 rfl (by simp only [List.length_set]; omega) rfl (set_at (by omega)) rfl ?_)
  refine ops_cons rfl (ow_fieldAddr off89_3 rfl ?_)
  refine ops_cons rfl (ow_fieldAddr off67_4 rfl ?_)
  refine ops_cons rfl (ow_storeRFF oO ti4 rfl rfl rfl rfl (by omega) (by omega) rfl ?_)
  intro w24 oO hg23 z25
  replace X : w.grownBy w24 (Value.slice A xs.length c).ownBlock := by first | exact gb_trans X hg23 | exact gb_new X hg23 (fun g hg => (Own.lt oO hg).1)
  clear hg23 z25
  replace oO := oO.to (cs' := ((seqG (fun i => mkSlotI (m + 8 * (i : Nat))) k ++ xs.drop k).set k (⟨m + 8 * k, m + 8 * k + 1, m + 8 * k + 1 + 1, ⟨m + 8 * k + 1 + 1 + 1, m + 8 * k + 1 + 1 + 1 + 1, m + 8 * k + 1 + 1 + 1 + 1 + 1, m + 8 * k + 1 + 1 + 1 + 1 + 1 + 1, (decide (Int.tmod (m + 8 * k + 1 + 1 + 1 + 1 + 1 + 1 + 1) 3 = 0))⟩⟩ : SlotI)).flatMap SlotI.cells) (by
    have e1 := set_field (x := (⟨m + 8 * k, m + 8 * k + 1, m + 8 * k + 1 + 1, ⟨m + 8 * k + 1 + 1 + 1, m + 8 * k + 1 + 1 + 1 + 1, m + 8 * k + 1 + 1 + 1 + 1 + 1, m + 8 * k + 1 + 1 + 1 + 1 + 1 + 1, x.desc.change⟩⟩ : SlotI)) (x' := (⟨m + 8 * k, m + 8 * k + 1, m + 8 * k + 1 + 1, ⟨m + 8 * k + 1 + 1 + 1, m + 8 * k + 1 + 1 + 1 + 1, m + 8 * k + 1 + 1 + 1 + 1 + 1, m + 8 * k + 1 + 1 + 1 + 1 + 1 + 1, (decide (Int.tmod (m + 8 * k + 1 + 1 + 1 + 1 + 1 + 1 + 1) 3 = 0))⟩⟩ : SlotI)) (vs := [.bool (decide (Int.tmod (m + 8 * k + 1 + 1 + 1 + 1 + 1 + 1 + 1) 3 = 0))]) SlotI.len (s' := 1) (f := 7) rfl (by omega) ((seqG (fun i => mkSlotI (m + 8 * (i : Nat))) k ++ xs.drop k).set k (⟨m + 8 * k, m + 8 * k + 1, m + 8 * k + 1 + 1, ⟨m + 8 * k + 1 + 1 + 1, m + 8 * k + 1 + 1 + 1 + 1, m + 8 * k + 1 + 1 + 1 + 1 + 1, m + 8 * k + 1 + 1 + 1 + 1 + 1 + 1, x.desc.change⟩⟩ : SlotI)) k (set_at (x := (⟨m + 8 * k, m + 8 * k + 1, m + 8 * k + 1 + 1, ⟨m + 8 * k + 1 + 1 + 1, m + 8 * k + 1 + 1 + 1 + 1, m + 8 * k + 1 + 1 + 1 + 1 + 1, m + 8 * k + 1 + 1 + 1 + 1 + 1 + 1, x.desc.change⟩⟩ : SlotI)) (l := (seqG (fun i => mkSlotI (m + 8 * (i : Nat))) k ++ xs.drop k)) (by omega))
    rw [List.set_set] at e1; exact e1)
  replace oO := oO.to (cs' := ((seqG (fun i => mkSlotI (m + 8 * (i : Nat))) (k + 1)) ++ xs.drop (k + 1)).flatMap SlotI.cells) (by rw [← seqG_set hk1]; rfl)
  refine ops_nil ?_
  refine c_region ?_
  refine ops_cons rfl (ow_move rfl ?_)
  refine ops_cons rfl (ow_add rfl rfl (w64 (by omega)) ?_)
  refine ops_cons rfl (ow_assign rfl ?_)
  refine ops_nil ?_
  refine bq_n ?_
  refine tq_n ?_
  refine c_region ?_
  refine ops_cons rfl (ow_move rfl ?_)
  refine ops_cons rfl (ow_add rfl rfl (w64 (by omega)) ?_)
  refine ops_cons rfl (ow_assign rfl ?_)
  refine ops_nil ?_
  refine tq_n ⟨(k + 1, m + 8 * k + 1 + 1 + 1 + 1 + 1 + 1 + 1 + 1), (.cons rfl (.cons rfl (.cons rfl (.nil _)))), ?_, ?_⟩
  · exact ⟨by omega, by omega, oO, X⟩
  · dsimp only; omega
  rw [seqG_end hk0 hk] at oO
  refine ops_nil ?_
  refine c_false rfl ?_
  refine c_exit ?_
  refine tq_e ?_
  refine tq_e ?_
  refine bq_e ?_
  refine tq_n ?_
  refine c_seqR ?_
  refine ops_cons rfl (ow_move rfl ?_)
  refine ops_cons rfl (ow_assign rfl ?_)
  refine ops_nil ?_
  refine c_ret ?_
  refine fin_ret1 rfl rfl ?_
  exact ⟨by rw [show k = xs.length by omega], oO, X⟩

theorem markI_c (A : Option Addr) (c lo : Nat) (xs : List Int) (m : Int) (w : World) (oO : Own w lo 2 1 A xs.length c (xs.flatMap eI)) (hl : xs.length ≤ 1048576) (hm : 0 ≤ m ∧ m ≤ 1125899906842624) :
    Calls Tryz.prog 26 #[.slice A xs.length c, .int .i64 m] w (Ret fun v w' => v = .int .i64 (m + xs.length) ∧ Own w' lo 2 1 A xs.length c ((seqI m xs.length).flatMap eI) ∧ w.grownBy w' (Value.slice A xs.length c).ownBlock) := by
  replace oO := oO.to (cs' := (seqI m 0 ++ xs.drop 0).flatMap eI) rfl
  have X := gb_refl w (Value.slice A xs.length c).ownBlock
  refine calls_of (args := [.slice A xs.length c, .int .i64 m]) Tryz.func26 Tryz.ntmps26 rfl rfl ?_
  refine c_seqR ?_
  refine ops_cons rfl (ow_assign rfl ?_)
  refine ops_nil ?_
  refine c_seq ?_
  refine c_seqR ?_
  refine ops_cons rfl (ow_assign rfl ?_)
  refine ops_nil ?_
  refine c_block ?_
  refine c_loop (G := Nat × Int) (fun ⟨k, a⟩ => [(0, .slice A xs.length c), (1, .int .i64 a), (5, .int .i64 (k : Nat))]) (fun ⟨k, a⟩ wr => a = m + k ∧ k ≤ xs.length ∧ Own wr lo 2 1 A xs.length c ((seqI m k ++ xs.drop k).flatMap eI) ∧ w.grownBy wr (Value.slice A xs.length c).ownBlock) (fun ⟨k, a⟩ => xs.length - k) (0, m) (.cons rfl (.cons rfl (.cons rfl (.nil _)))) ?_ ?_
  · exact ⟨by simp, by omega, oO, X⟩
  clear oO
  clear X
  rintro ⟨k, a⟩ wr ⟨ha, hk0, oO, X⟩
  subst ha
  refine c_seq ?_
  refine c_seqR ?_
  refine ops_cons rfl (ow_move rfl ?_)
  refine ops_cons rfl (ow_move rfl ?_)
  refine ops_cons rfl (ow_len Tryz.underlying30 rfl ?_)
  refine ops_cons rfl (ow_lss2 rfl rfl (fun hk => ?_) (fun hk => ?_))
  have hk1 : k < xs.length := by omega
  refine ops_nil ?_
  refine c_true rfl ?_
  refine c_skip ?_
  refine tq_n ?_
  refine c_seq ?_
  refine c_block ?_
  refine c_seqR ?_
  refine ops_cons rfl (ow_move rfl ?_)
  refine ops_cons rfl (ow_move rfl ?_)
  refine ops_cons rfl (ow_move rfl ?_)
  refine ops_cons rfl (ow_indexT (oO).sl eI_len rfl el30 rfl (by simp [seqI_len]; omega) rfl (seqI_at' hk1) rfl ?_)
  refine ops_cons rfl (ow_storeR oO ti2 rfl rfl rfl rfl (by omega) (by omega) rfl ?_)
  intro w2 oN hg1 z3
  replace X : w.grownBy w2 (Value.slice A xs.length c).ownBlock := by first | exact gb_trans X hg1 | exact gb_new X hg1 (fun g hg => (Own.lt oO hg).1)
  clear hg1 z3
  replace oN := oN.to (cs' := (seqI m (k + 1) ++ xs.drop (k + 1)).flatMap eI) (by rw [← seqI_set hk1, ← set_flat eI_len _ _ k (by simp [seqI_len]; omega)]; try rfl)
  refine ops_nil ?_
  refine c_region ?_
  refine ops_cons rfl (ow_move rfl ?_)
  refine ops_cons rfl (ow_add rfl rfl (w64 (by omega)) ?_)
  refine ops_cons rfl (ow_assign rfl ?_)
  refine ops_nil ?_
  refine bq_n ?_
  refine tq_n ?_
  refine c_region ?_
  refine ops_cons rfl (ow_move rfl ?_)
  refine ops_cons rfl (ow_add rfl rfl (w64 (by omega)) ?_)
  refine ops_cons rfl (ow_assign rfl ?_)
  refine ops_nil ?_
  refine tq_n ⟨(k + 1, m + k + 1), (.cons rfl (.cons rfl (.cons rfl (.nil _)))), ?_, ?_⟩
  · exact ⟨by omega, by omega, oN, X⟩
  · dsimp only; omega
  rw [seqI_end hk0 hk] at oO
  refine ops_nil ?_
  refine c_false rfl ?_
  refine c_exit ?_
  refine tq_e ?_
  refine tq_e ?_
  refine bq_e ?_
  refine tq_n ?_
  refine c_seqR ?_
  refine ops_cons rfl (ow_move rfl ?_)
  refine ops_cons rfl (ow_assign rfl ?_)
  refine ops_nil ?_
  refine c_ret ?_
  refine fin_ret1 rfl rfl ?_
  exact ⟨by rw [show k = xs.length by omega], oO, X⟩

theorem heldI_c (A : Option Addr) (B c n : Nat) (m : Int) (w : World) (hs : Sl B w A ((seqI m n).flatMap eI)) (hl : n ≤ 1048576) (hm : 0 ≤ m ∧ m ≤ 1125899906842624) :
    Calls Tryz.prog 63 #[.slice A n c, .int .i64 m] w (Ret fun v w' => v = .int .i64 (m + n) ∧ Ext w w') := by
  have Bhs := hs.1
  have X := Ext.refl w
  refine calls_of (args := [.slice A n c, .int .i64 m]) Tryz.func63 Tryz.ntmps63 rfl rfl ?_
  refine c_seqR ?_
  refine ops_cons rfl (ow_assign rfl ?_)
  refine ops_nil ?_
  refine c_seq ?_
  refine c_seqR ?_
  refine ops_cons rfl (ow_assign rfl ?_)
  refine ops_nil ?_
  refine c_block ?_
  refine c_loop (G := Nat × Int) (fun ⟨k, a⟩ => [(0, .slice A n c), (1, .int .i64 a), (5, .int .i64 (k : Nat))]) (fun ⟨k, a⟩ wr => a = m + k ∧ k ≤ n ∧ Sl B wr A ((seqI m n).flatMap eI) ∧ Ext w wr) (fun ⟨k, a⟩ => n - k) (0, m) (.cons rfl (.cons rfl (.cons rfl (.nil _)))) ?_ ?_
  · exact ⟨by simp, by omega, hs, X⟩
  clear hs
  clear X
  rintro ⟨k, a⟩ wr ⟨ha, hk0, hs, X⟩
  subst ha
  refine c_seq ?_
  refine c_seqR ?_
  refine ops_cons rfl (ow_move rfl ?_)
  refine ops_cons rfl (ow_move rfl ?_)
  refine ops_cons rfl (ow_len Tryz.underlying30 rfl ?_)
  refine ops_cons rfl (ow_lss2 rfl rfl (fun hk => ?_) (fun hk => ?_))
  have hk1 : k < n := by omega
  refine ops_nil ?_
  refine c_true rfl ?_
  refine c_skip ?_
  refine tq_n ?_
  refine c_seq ?_
  refine c_block ?_
  refine c_seq ?_
  refine c_seqR ?_
  refine ops_cons rfl (ow_move rfl ?_)
  refine ops_cons rfl (ow_move rfl ?_)
  refine ops_cons rfl (ow_indexT hs eI_len rfl el30 rfl (seqI_len _ _).symm rfl (seqI_at hk1) rfl ?_)
  refine ops_cons rfl (ow_loadT hs eI_len (seqI_at hk1) ti2 rfl rfl rfl ?_)
  refine ops_cons rfl (ow_move rfl ?_)
  refine ops_cons rfl (ow_neq2 rfl rfl (fun h1 => absurd h1 (by simp)) (fun h1 => ?_))
  refine ops_nil ?_
  refine c_false rfl ?_
  refine c_skip ?_
  refine tq_n ?_
  refine c_region ?_
  refine ops_cons rfl (ow_move rfl ?_)
  refine ops_cons rfl (ow_add rfl rfl (w64 (by omega)) ?_)
  refine ops_cons rfl (ow_assign rfl ?_)
  refine ops_nil ?_
  refine bq_n ?_
  refine tq_n ?_
  refine c_region ?_
  refine ops_cons rfl (ow_move rfl ?_)
  refine ops_cons rfl (ow_add rfl rfl (w64 (by omega)) ?_)
  refine ops_cons rfl (ow_assign rfl ?_)
  refine ops_nil ?_
  refine tq_n ⟨(k + 1, m + k + 1), (.cons rfl (.cons rfl (.cons rfl (.nil _)))), ?_, ?_⟩
  · exact ⟨by omega, by omega, hs, X⟩
  · dsimp only; omega
  refine ops_nil ?_
  refine c_false rfl ?_
  refine c_exit ?_
  refine tq_e ?_
  refine tq_e ?_
  refine bq_e ?_
  refine tq_n ?_
  refine c_seqR ?_
  refine ops_cons rfl (ow_move rfl ?_)
  refine ops_cons rfl (ow_assign rfl ?_)
  refine ops_nil ?_
  refine c_ret ?_
  refine fin_ret1 rfl rfl ?_
  exact ⟨by rw [show k = n by omega], X⟩
end Go.Proofs.YtdoibplhbdkapaaGreatDoor
namespace Go.Proofs.YtdoibplhbdkapaaGreatDoor
open Go.RowKit
set_option linter.unusedVariables false
set_option linter.unusedSimpArgs false
set_option maxRecDepth 20000
end Go.Proofs.YtdoibplhbdkapaaGreatDoor
namespace Go.Proofs.YtdoibplhbdkapaaGreatDoor
open Go.RowKit
set_option linter.unusedVariables false
set_option linter.unusedSimpArgs false
set_option maxRecDepth 20000
theorem app_at {α : Type} {ps ys : List α} {k : Nat} {x : α} (hp : ps.length = k) (hx : ys[k]? = some x) : (ps ++ ys.drop k)[k]? = some x := by
  rw [List.getElem?_append_right (by omega), hp, Nat.sub_self, List.getElem?_drop, Nat.add_zero, hx]
theorem app_len {α : Type} {ps ys : List α} {k : Nat} (hp : ps.length = k) (hk : k ≤ ys.length) : (ps ++ ys.drop k).length = ys.length := by simp [hp]; omega
theorem app_set {α : Type} {ps ys : List α} {k : Nat} {x y : α} (hp : ps.length = k) (hx : ys[k]? = some x) : (ps ++ ys.drop k).set k y = (ps ++ [y]) ++ ys.drop (k + 1) := by
  obtain ⟨hk, _⟩ := List.getElem?_eq_some_iff.1 hx
  rw [List.set_append, if_neg (by omega), hp, Nat.sub_self, List.drop_eq_getElem_cons hk, List.set_cons_zero]; simp
theorem app2_at {α : Type} {ps zs : List α} {k : Nat} {y : α} (hp : ps.length = k) : ((ps ++ [y]) ++ zs)[k]? = some y := by
  rw [List.append_assoc, List.getElem?_append_right (by omega), hp]; simp
theorem app2_len {α : Type} {ps ys : List α} {k : Nat} {x y : α} (hp : ps.length = k) (hx : ys[k]? = some x) : ys.length = ((ps ++ [y]) ++ ys.drop (k + 1)).length := by
  obtain ⟨hk, _⟩ := List.getElem?_eq_some_iff.1 hx
  simp [hp]; omega
theorem markModesX_c (A : Option Addr) (c lo hi : Nat) (ys : List ModeI) (m : Int) (w : World) (oO : Own w lo 92 3 A ys.length c (ys.flatMap ModeI.cells)) (oM : NFrom w lo 2 0 ys) (hdj : Disj ys) (hU : ∀ g, (Value.slice A ys.length c).ownBlock = some g → g < hi) (hUN : ∀ y ∈ ys, ∀ g, y.blk = some g → g < hi) (hl : ys.length ≤ 1048576) (hz : ∀ x ∈ ys, x.m.next.length ≤ 1048576) (hm : 0 ≤ m ∧ m ≤ 1099511627776) :
    Calls Tryz.prog 92 #[.slice A ys.length c, .int .i64 m] w (Ret fun v w' => v = .int .i64 (endModes m ys) ∧ (m ≤ endModes m ys ∧ endModes m ys ≤ m + 1099513724928) ∧ Own w' lo 92 3 A ys.length c ((mkModes m ys).flatMap ModeI.cells) ∧ NOwn w' lo 2 (mkModes m ys) ∧ WinK lo hi [92, 2] w w') := by
  replace oO := oO.to (cs' := (mkModes m (ys.take 0) ++ ys.drop 0).flatMap ModeI.cells) rfl
  have hLen : ∀ k, k ≤ ys.length → (mkModes m (ys.take k)).length = k := fun k hk => by rw [mkModes_len]; simp; omega
  have X := WinK.refl lo hi [92, 2] w
  refine calls_of (args := [.slice A ys.length c, .int .i64 m]) Tryz.func92 Tryz.ntmps92 rfl rfl ?_
  refine c_seqR ?_
  refine ops_cons rfl (ow_assign rfl ?_)
  refine ops_nil ?_
  refine c_seq ?_
  refine c_seqR ?_
  refine ops_cons rfl (ow_assign rfl ?_)
  refine ops_nil ?_
  refine c_block ?_
  refine c_loop (G := Nat × Int) (fun ⟨k, a⟩ => [(4, .int .i64 0), (0, .slice A ys.length c), (1, .int .i64 a), (5, .int .i64 (k : Nat))]) (fun ⟨k, a⟩ wr => (a = (endModes m (ys.take k)) ∧ m ≤ a ∧ a ≤ m + 1048578 * k) ∧ k ≤ ys.length ∧ Own wr lo 92 3 A ys.length c ((mkModes m (ys.take k) ++ ys.drop k).flatMap ModeI.cells) ∧ NFrom wr lo 2 k ys ∧ NOwn wr lo 2 (mkModes m (ys.take k)) ∧ WinK lo hi [92, 2] w wr) (fun ⟨k, a⟩ => ys.length - k) (0, m) (.cons rfl (.cons rfl (.cons rfl (.cons rfl (.nil _))))) ?_ ?_
  · exact ⟨⟨rfl, by omega⟩, by omega, oO, oM, NOwn.nil_, X⟩
  clear oO oM
  clear X
  rintro ⟨k, a⟩ wr ⟨ha, hk0, oO, oM, oD, X⟩
  refine c_seq ?_
  refine c_seqR ?_
  refine ops_cons rfl (ow_move rfl ?_)
  refine ops_cons rfl (ow_move rfl ?_)
  refine ops_cons rfl (ow_len Tryz.underlying25 rfl ?_)
  refine ops_cons rfl (ow_lss2 rfl rfl (fun hk => ?_) (fun hk => ?_))
  obtain ⟨x, hx, dx⟩ := drop_at' hk
  have hp := hLen k (by omega)
  have hLx := app_at hp hx
  have hLl := app_len hp (show k ≤ ys.length by omega)
  have ha1 := ha.1
  subst ha1
  have htk : ys.take (k + 1) = ys.take k ++ [x] := by rw [List.take_add_one, hx]; rfl
  refine ops_nil ?_
  refine c_true rfl ?_
  refine c_skip ?_
  refine tq_n ?_
  refine c_seq ?_
  refine c_block ?_
  refine c_seqR ?_
  refine ops_cons rfl (ow_move rfl ?_)
  refine ops_cons rfl (ow_move rfl ?_)
  refine ops_cons rfl (ow_move rfl ?_)
  refine ops_cons rfl (ow_indexT (oO).sl ModeI.len rfl el25 rfl (by omega) rfl hLx rfl ?_)
  refine ops_cons rfl (ow_fieldAddr off92_0 rfl ?_)
  refine ops_cons rfl (ow_storeRF oO ti2 rfl rfl rfl rfl (by omega) (by omega) rfl ?_)
  intro w2 oP hg1 z3
  replace oM := oM.grownO oO hg1 (by decide)
  replace oD := oD.grownO oO hg1 (by decide)
  replace X := X.grownK hg1 oO (by decide) (fun g hg => ⟨(Own.lt oO hg).1, hU g hg⟩)
  clear hg1 z3
  replace oP := oP.to (cs' := ((mkModes m (ys.take k) ++ ys.drop k).set k (⟨⟨(endModes m (ys.take k)), x.m.slots, x.m.next⟩, x.A, x.c⟩ : ModeI)).flatMap ModeI.cells) (by
    have e1 := set_field (x := x) (x' := (⟨⟨(endModes m (ys.take k)), x.m.slots, x.m.next⟩, x.A, x.c⟩ : ModeI)) (vs := [.int .i64 (endModes m (ys.take k))]) ModeI.len (s' := 1) (f := 0) rfl (by omega) (mkModes m (ys.take k) ++ ys.drop k) k hLx
    exact e1)
  refine ops_nil ?_
  refine c_seqR ?_
  refine ops_cons rfl (ow_move rfl ?_)
  refine ops_cons rfl (ow_add rfl rfl (w64 (by omega)) ?_)
  refine ops_cons rfl (ow_assign rfl ?_)
  refine ops_nil ?_
  refine c_seqR ?_
  refine ops_cons rfl (ow_move rfl ?_)
  refine ops_cons rfl (ow_move rfl ?_)
  refine ops_cons rfl (ow_move rfl ?_)
  refine ops_cons rfl (ow_indexT (oP).sl ModeI.len rfl el25 rfl (by simp only [List.length_set]; omega) rfl (set_at (by omega)) rfl ?_)
  refine ops_cons rfl (ow_fieldAddr off92_1 rfl ?_)
  refine ops_cons rfl (ow_storeRF oP ti2 rfl rfl rfl rfl (by omega) (by omega) rfl ?_)
  intro w5 oQ hg4 z6
  replace oM := oM.grownO oP hg4 (by decide)
  replace oD := oD.grownO oP hg4 (by decide)
  replace X := X.grownK hg4 oP (by decide) (fun g hg => ⟨(Own.lt oP hg).1, hU g hg⟩)
  clear hg4 z6
  replace oQ := oQ.to (cs' := ((mkModes m (ys.take k) ++ ys.drop k).set k (⟨⟨(endModes m (ys.take k)), (endModes m (ys.take k)) + 1, x.m.next⟩, x.A, x.c⟩ : ModeI)).flatMap ModeI.cells) (by
    have e1 := set_field (x := (⟨⟨(endModes m (ys.take k)), x.m.slots, x.m.next⟩, x.A, x.c⟩ : ModeI)) (x' := (⟨⟨(endModes m (ys.take k)), (endModes m (ys.take k)) + 1, x.m.next⟩, x.A, x.c⟩ : ModeI)) (vs := [.int .i64 ((endModes m (ys.take k)) + 1)]) ModeI.len (s' := 1) (f := 1) rfl (by omega) ((mkModes m (ys.take k) ++ ys.drop k).set k (⟨⟨(endModes m (ys.take k)), x.m.slots, x.m.next⟩, x.A, x.c⟩ : ModeI)) k (set_at (by omega))
    rw [List.set_set] at e1; exact e1)
  replace oQ := oQ.to (cs' := ((mkModes m (ys.take k) ++ [(⟨⟨(endModes m (ys.take k)), (endModes m (ys.take k)) + 1, x.m.next⟩, x.A, x.c⟩ : ModeI)]) ++ ys.drop (k + 1)).flatMap ModeI.cells) (by rw [← app_set hp hx])
  refine ops_nil ?_
  refine c_seqR ?_
  refine ops_cons rfl (ow_move rfl ?_)
  refine ops_cons rfl (ow_add rfl rfl (w64 (by omega)) ?_)
  refine ops_cons rfl (ow_assign rfl ?_)
  refine ops_nil ?_
  refine c_region ?_
  refine ops_cons rfl (ow_move rfl ?_)
  refine ops_cons rfl (ow_move rfl ?_)
  refine ops_cons rfl (ow_indexT (oQ).sl ModeI.len rfl el25 rfl (app2_len hp hx) rfl (app2_at hp) rfl ?_)
  refine ops_cons rfl (ow_fieldAddr off92_2 rfl ?_)
  refine ops_cons rfl (ow_loadTF (oQ).sl ModeI.len (app2_at hp) ti30 rfl rfl rfl ?_)
  refine ops_cons rfl (ow_move rfl ?_)
  have hz1 := hz x (List.mem_of_getElem? hx)
  have hown := oM k x (Nat.le_refl _) hx
  refine ops_cons rfl (ow_call ent26 rfl (ret_mono (markI_c x.A x.c lo x.m.next ((endModes m (ys.take k)) + 1 + 1) _ hown hz1 (by omega)) ?_))
  rintro _ wN ⟨rfl, oR, xR⟩
  replace oQ := oQ.grown xR (fun g hg e => Own.neO hown oQ (by decide) g e hg)
  replace oM := oM.next hdj hx xR
  replace oD := oD.grownX xR (fun y hy g hg e => by
    obtain ⟨i, z, h1, h2⟩ := mkModes_mem _ _ y hy
    obtain ⟨h3, h4⟩ := take_get h1
    rw [h2] at e
    exact hdj.not h4 hx (by omega) g hg e)
  replace oD : NOwn wN lo 2 (mkModes m (ys.take (k + 1))) := by
    rw [htk, mkModes_snoc]
    refine oD.snoc ?_ ?_
    · have e : (mkMode (endModes m (ys.take k)) x).m.next.length = x.m.next.length := seqI_len _ _
      rw [e]; exact oR
    · have e : (mkMode (endModes m (ys.take k)) x).m.next.length = x.m.next.length := seqI_len _ _
      rw [e]; omega
  replace X := X.grownK xR hown (by decide) (fun g hg => ⟨(Own.lt hown hg).1, hUN x (List.mem_of_getElem? hx) g hg⟩)
  refine ops_cons rfl (ow_assign rfl ?_)
  refine ops_nil ?_
  refine bq_n ?_
  refine tq_n ?_
  refine c_region ?_
  refine ops_cons rfl (ow_move rfl ?_)
  refine ops_cons rfl (ow_add rfl rfl (w64 (by omega)) ?_)
  refine ops_cons rfl (ow_assign rfl ?_)
  refine ops_nil ?_
  refine tq_n ⟨(k + 1, (endModes m (ys.take k)) + 1 + 1 + x.m.next.length), (.cons rfl (.cons rfl (.cons rfl (.cons rfl (.nil _))))), ?_, ?_⟩
  · skip
    replace oQ := oQ.to (cs' := (mkModes m (ys.take (k + 1)) ++ ys.drop (k + 1)).flatMap ModeI.cells) (by rw [htk, mkModes_snoc, List.flatMap_append, List.flatMap_append, List.flatMap_append, List.flatMap_append, List.flatMap_singleton, List.flatMap_singleton, mkMode_cells])
    exact ⟨⟨by rw [htk, endModes_snoc]; rfl, by omega, by omega⟩, by omega, oQ, oM, oD, X⟩
  · first | omega | (dsimp only; omega)
  refine ops_nil ?_
  refine c_false rfl ?_
  refine c_exit ?_
  refine tq_e ?_
  refine tq_e ?_
  refine bq_e ?_
  refine tq_n ?_
  refine c_seqR ?_
  refine ops_cons rfl (ow_move rfl ?_)
  refine ops_cons rfl (ow_assign rfl ?_)
  refine ops_nil ?_
  refine c_ret ?_
  refine fin_ret1 rfl rfl ?_
  · skip
    rw [show k = ys.length by omega, List.take_length, List.drop_length, List.append_nil] at oO
    rw [show k = ys.length by omega, List.take_length] at oD ha
    exact ⟨by rw [ha.1], by omega, oO, oD, X⟩

end Go.Proofs.YtdoibplhbdkapaaGreatDoor
namespace Go.Proofs.YtdoibplhbdkapaaGreatDoor
open Go.RowKit
set_option linter.unusedVariables false
set_option linter.unusedSimpArgs false
set_option maxRecDepth 20000
theorem kep_ext {ts : List TypeId} {w w' : World} (h : Ext w w') : Kep ts w w' := ⟨h.size, fun k cur t e hk _ => (h.block k (Array.getElem?_eq_some_iff.1 hk).1).trans hk⟩
theorem kep_more {ts us : List TypeId} {w w' : World} (h : Kep ts w w') (hs : ∀ t, t ∈ ts → t ∈ us) : Kep us w w' := ⟨h.1, fun k cur t e hk ht => h.2 k cur t e hk fun h1 => ht (hs t h1)⟩

theorem markMedl_c (m : MedlI) (lo hi : Nat) (a : Int) (w : World) (oX : MOwn w lo 59 92 2 89 m) (hU : ∀ g, ((Value.slice m.An m.ns.length m.cn).ownBlock = some g ∨ (Value.slice m.Am m.ms.length m.cm).ownBlock = some g ∨ (Value.slice m.As m.ss.length m.cs).ownBlock = some g) → g < hi) (hUN : ∀ y ∈ m.ms, ∀ g, y.blk = some g → g < hi) (hz : m.small) (ha : 0 ≤ a ∧ a ≤ 1048576) :
    Calls Tryz.prog 27 #[.agg m.cells.toArray, .int .i64 a] w (Ret fun v w' => v = .int .i64 (endMedl a m) ∧ MSeen w' lo 59 92 2 89 m a (nsM a m mkNodeI) (mkModes (a1M a m) m.ms) (ssM a m mkSlotI) ∧ WinK lo hi [59, 92, 2, 89] w w') := by
  have hls := hz.ls
  have hlm := hz.lm
  have hln := hz.ln
  have X := Ext.refl w
  refine calls_of (args := [.agg m.cells.toArray, .int .i64 a]) Tryz.func27 Tryz.ntmps27 rfl rfl ?_
  refine c_seqR ?_
  refine ops_cons rfl (ow_box rfl rfl ?_)
  intro gM w2 egM bM x1 zgM
  have lgM : w.heap.size ≤ gM := Nat.le_trans X.size (Nat.le_of_eq egM.symm)
  replace oX := oX.ext x1
  replace X := Ext.trans X x1; clear x1
  obtain ⟨oN, oM, oP, oD, oS⟩ := oX
  refine ops_cons rfl (ow_assign rfl ?_)
  refine ops_nil ?_
  refine c_seqR ?_
  refine ops_cons rfl (ow_fieldAddrB off28_1 rfl rfl ?_)
  refine ops_cons rfl (ow_loadB bM ti24 rfl rfl ?_)
  refine ops_cons rfl (ow_move rfl ?_)
  refine ops_cons rfl (ow_call ent91 rfl (ret_mono (markNodeI_c m.An m.cn lo m.ns a _ oN hln (by omega)) ?_))
  rintro _ v1 ⟨rfl, oN2, y1⟩
  replace bM := bM.grown y1 (fun h => Own.neT oN bM (by decide) h.symm)
  replace oM := oM.grown y1 (Own.neO oM oN (by decide))
  replace oP := oP.grownO oN y1 (by decide)
  replace oS := oS.grown y1 (Own.neO oS oN (by decide))
  have Y1 : WinK lo hi [59, 92, 2, 89] w v1 := ⟨(Win.ofExt X).grown y1 (fun g hg => ⟨(Own.lt oN hg).1, hU g (.inl hg)⟩), (kep_ext X).trans (Kep.ofGrown y1 oN (by decide))⟩
  clear oN
  refine ops_cons rfl (ow_assign rfl ?_)
  refine ops_nil ?_
  refine c_seqR ?_
  refine ops_cons rfl (ow_fieldAddrB off28_2 rfl rfl ?_)
  refine ops_cons rfl (ow_loadB bM ti25 rfl rfl ?_)
  refine ops_cons rfl (ow_move rfl ?_)
  refine ops_cons rfl (ow_call ent92 rfl (ret_mono (markModesX_c m.Am m.cm lo hi m.ms (a1M a m) _ oM (NFrom.of oP 0) oD (fun g hg => hU g (.inr (.inl hg))) hUN hlm hz.lx (by unfold a1M; omega)) ?_))
  rintro _ v2 ⟨rfl, hb2, oM2, oP2, y2⟩
  replace bM := bM.kep y2.kep (by decide)
  replace oN2 := oN2.kep y2.kep (by decide)
  replace oS := oS.kep y2.kep (by decide)
  have Y2 : WinK lo hi [59, 92, 2, 89] w v2 := ⟨Y1.win.trans y2.win, Y1.kep.trans (kep_more y2.kep (by decide))⟩
  clear oM oP
  refine ops_cons rfl (ow_assign rfl ?_)
  refine ops_nil ?_
  refine c_seqR ?_
  refine ops_cons rfl (ow_fieldAddrB off28_3 rfl rfl ?_)
  refine ops_cons rfl (ow_loadB bM ti26 rfl rfl ?_)
  refine ops_cons rfl (ow_move rfl ?_)
  refine ops_cons rfl (ow_call ent93 rfl (ret_mono (markSlotI_c m.As m.cs lo m.ss (a2M a m) _ oS hls (by unfold a2M; unfold a1M at *; omega)) ?_))
  rintro _ v3 ⟨rfl, oS2, y3⟩
  replace bM := bM.grown y3 (fun h => Own.neT oS bM (by decide) h.symm)
  replace oN2 := oN2.grown y3 (Own.neO oN2 oS (by decide))
  replace oM2 := oM2.grown y3 (Own.neO oM2 oS (by decide))
  replace oP2 := oP2.grownO oS y3 (by decide)
  have Y3 : WinK lo hi [59, 92, 2, 89] w v3 := ⟨Y2.win.grown y3 (fun g hg => ⟨(Own.lt oS hg).1, hU g (.inr (.inr hg))⟩), Y2.kep.trans (Kep.ofGrown y3 oS (by decide))⟩
  clear oS
  refine ops_cons rfl (ow_assign rfl ?_)
  refine ops_nil ?_
  refine c_seqR ?_
  refine ops_cons rfl (ow_move rfl ?_)
  refine ops_cons rfl (ow_assign rfl ?_)
  refine ops_nil ?_
  refine c_ret ?_
  refine fin_ret1 rfl rfl ?_
  exact ⟨rfl, ⟨oN2, oM2, oP2, oS2⟩, Y3⟩

end Go.Proofs.YtdoibplhbdkapaaGreatDoor
namespace Go.Proofs.YtdoibplhbdkapaaGreatDoor
open Go.ChangeShapes Go.WideShapes Go.ChangeAt Go.RowKit
set_option linter.unusedVariables false
set_option linter.unusedSimpArgs false

theorem trodAll_stays {H : Type} {enc : TypeId × Value → H} {P : Program} (hl : laidOutB P = true) {W W' : World} (hb : Ext W W') : ∀ (ts : List TypeId) (vs : List Value) (ds : List (DataW H)) (ps : List MemPlace),
    ts.all (fun t => P.readableRec t && decide (t < P.types.size)) = true → DataW.TrodAll enc P W 0 (fun _ => true) true ts vs ds ps → (∀ x ∈ ps, x.block < W.heap.size) →
    DataW.TrodAll enc P W' 0 (fun b => decide (b < W.heap.size)) true ts vs ds ps
  | [], vs, ds, ps, _, h, _ => by
    obtain ⟨rfl, rfl, rfl⟩ := trodAll_nil h
    exact trodAll_mk0
  | t :: ts, vs, ds, ps, ht, h, hlt => by
    obtain ⟨v, vs', d, ds', p, q, rfl, rfl, rfl, h1, h2⟩ := trodAll_cons h
    simp only [List.all_cons, Bool.and_eq_true, decide_eq_true_eq] at ht
    exact trodAll_cons_mk (Below.trod hl ht.1.1 ht.1.2 h1 hb (fun x hx => hlt x (by simp [hx]))) (trodAll_stays hl hb ts vs' ds' q ht.2 h2 (fun x hx => hlt x (by simp [hx])))

theorem law_post {H : Type} {enc : TypeId × Value → H} {P : Program} {f : Func} {s : ChangeSpec} {W W' : World} {args : Array Value} {ds gs : List (DataW H)} {before : List MemPlace} {tb : TypeId}
    (hl : laidOutB P = true) (hpar : f.params.toList.all (fun t => P.readableRec t && decide (t < P.types.size)) = true) (hvars : s.vars = []) (hres : f.resultTypes = #[tb]) (htb : P.underlying tb = some .bool)
    (hW : DataW.Whole enc P f.params.toList s.vars false W args.toList ds gs before) (hspec : s.fn H (ds ++ gs) = { results := [.lit (.bool true)], args := ds }) (hb : Ext W W') :
    s.post enc P f false true false false W args (.bool true) W' := by
  have hlt : ∀ x ∈ before, x.block < W.heap.size := fun x hx => hW.lt x hx
  have hW' := hW
  obtain ⟨p, q, hA, hV, rfl, hfz, hnd⟩ := hW
  refine ⟨ds, gs, p ++ q, [], p, [], hW', ?_, ?_, ?_, Below.frame hb _, fun h => by cases h⟩
  · rw [hspec, hres]
    exact trodAll_cons_mk (shut_bool htb true) trodAll_mk0
  · rw [hspec]
    exact trodAll_stays hl hb _ _ _ _ hpar hA (fun x hx => hlt x (by simp [hx]))
  · rw [hspec, hvars]
    rfl

section
variable {H : Type} {enc : TypeId × Value → H} {P : Program} {W : World} {sp : Nat → Bool}

theorem trod_field {t : TypeId} {fs : Array Field} {fuel : Nat} {cs : List Value} {x : DataW H × List MemPlace} (ht : P.underlying t = some (.struct fs)) (h : DataW.trod enc P W 0 sp true fuel t cs = some x) (i : Nat) {f : Field} (hf : fs[i]? = some f) :
    ∃ n y, DataW.trod enc P W 0 sp true n f.type ((cs.drop f.offset).take (P.cellsOf f.type)) = some y := by
  obtain ⟨xs, n, _, _, _, hxl, hg⟩ := DataW.trod_struct ht h
  have hi : i < xs.length := by rw [hxl]; exact (Array.getElem?_eq_some_iff.1 hf).1
  exact ⟨n, xs[i], by rw [hg i f hf, List.getElem?_eq_getElem hi]⟩

theorem exists_list {α : Type} {Q : Nat → α → Prop} : ∀ n, (∀ i, i < n → ∃ y, Q i y) → ∃ xs : List α, xs.length = n ∧ ∀ (i : Nat) (y : α), xs[i]? = some y → Q i y
  | 0, _ => ⟨[], rfl, by simp⟩
  | n + 1, h => by
    obtain ⟨xs, hl, hq⟩ := exists_list n (fun i hi => h i (by omega))
    obtain ⟨y, hy⟩ := h n (by omega)
    refine ⟨xs ++ [y], by simp [hl], fun i z hz => ?_⟩
    by_cases hi : i < n
    · rw [List.getElem?_append_left (by omega)] at hz
      exact hq i z hz
    · have hin : i = n := by
        have := (List.getElem?_eq_some_iff.1 hz).1
        simp [hl] at this; omega
      subst hin
      rw [List.getElem?_append_right (by omega)] at hz
      simp [hl] at hz
      subst hz
      exact hy

theorem open_sl {t e : TypeId} {s : Nat} {α : Type} {en : α → List Value} {ok : α → Prop} {fuel : Nat} {v : Value} {x : DataW H × List MemPlace} (ht : P.underlying t = some (.slice e)) (hs : P.cellsOf e = s) (he : ∀ y, (en y).length = s) (h0 : 0 < s)
    (ho : ∀ n cs x, DataW.trod enc P W 0 sp true n e cs = some x → ∃ y, cs = en y ∧ ok y) (h : DataW.trod enc P W 0 sp true fuel t [v] = some x) :
    ∃ (A : Option Addr) (xs : List α) (c : Nat), v = .slice A xs.length c ∧ Sl W.heap.size W A (xs.flatMap en) ∧ (∀ y ∈ xs, ok y) ∧ xs.length ≤ 9223372036854775807 := by
  rcases DataW.trod_slice ht h with ⟨hv, _⟩ | ⟨a, len, cap, elems, rest, n, _, hv, _, _, hlc, hcm, hel, hg, _⟩
  · have hv : v = .slice none 0 0 := by simpa using hv
    exact ⟨none, [], 0, hv, Sl.nil_ (Nat.le_refl _) _, by simp, by simp⟩
  · have hv : v = .slice (some a) len cap := by simpa using hv
    obtain ⟨xs, hl, hq⟩ := exists_list (Q := fun i y => ok y ∧ ∀ (j : Nat) (u : Value), (en y)[j]? = some u → W.cell? (a.add (i * s + j)) = some u) len (fun i hi => by
      have h1 := hg i hi
      have hil : i < elems.length := by omega
      rw [List.getElem?_eq_getElem hil, Option.bind_eq_some_iff] at h1
      obtain ⟨cs, hc, htr⟩ := h1
      obtain ⟨y, rfl, hy⟩ := ho _ _ _ htr
      rw [hs] at hc
      obtain ⟨_, hcl, hat⟩ := World.cells?_some hc
      refine ⟨y, hy, fun j u hj => ?_⟩
      have hjl : j < s := by rw [← he y]; exact (List.getElem?_eq_some_iff.1 hj).1
      rw [← add_add', hat j hjl, hj])
    refine ⟨some a, xs, cap, by rw [hl]; exact hv, ⟨Nat.le_refl _, fun m u hm => ?_⟩, fun y hy => ?_, ?_⟩
    · obtain ⟨j, y, i, rfl, hi, hj, hu⟩ := flat_none he xs m u hm h0
      have hc := (hq j y hj).2 i u hu
      exact ⟨rfl, by have := World.block_lt_of_cell? W _ hc; rwa [block_of_add] at this, hc⟩
    · obtain ⟨i, hi, rfl⟩ := List.mem_iff_getElem.1 hy
      exact (hq i _ (List.getElem?_eq_getElem hi)).1
    · have : cap ≤ maxLen := hcm
      unfold maxLen at this
      omega

theorem open_slc {t e : TypeId} {s : Nat} {α : Type} {en : α → List Value} {ok : α → Prop} {fuel : Nat} {v : Value} {x : DataW H × List MemPlace} (ht : P.underlying t = some (.slice e)) (hs : P.cellsOf e = s) (he : ∀ y, (en y).length = s) (h0 : 0 < s)
    (ho : ∀ n cs x, DataW.trod enc P W 0 sp true n e cs = some x → ∃ y, cs = en y ∧ ok y) (h : DataW.trod enc P W 0 sp true fuel t [v] = some x) :
    ∃ (A : Option Addr) (xs : List α) (c : Nat), v = .slice A xs.length c ∧ Sl W.heap.size W A (xs.flatMap en) ∧ (∀ y ∈ xs, ok y) ∧ (xs.length ≤ 9223372036854775807 ∧ xs.length ≤ c) := by
  rcases DataW.trod_slice ht h with ⟨hv, _⟩ | ⟨a, len, cap, elems, rest, n, _, hv, _, _, hlc, hcm, hel, hg, _⟩
  · have hv : v = .slice none 0 0 := by simpa using hv
    exact ⟨none, [], 0, hv, Sl.nil_ (Nat.le_refl _) _, by simp, by simp, by simp⟩
  · have hv : v = .slice (some a) len cap := by simpa using hv
    obtain ⟨xs, hl, hq⟩ := exists_list (Q := fun i y => ok y ∧ ∀ (j : Nat) (u : Value), (en y)[j]? = some u → W.cell? (a.add (i * s + j)) = some u) len (fun i hi => by
      have h1 := hg i hi
      have hil : i < elems.length := by omega
      rw [List.getElem?_eq_getElem hil, Option.bind_eq_some_iff] at h1
      obtain ⟨cs, hc, htr⟩ := h1
      obtain ⟨y, rfl, hy⟩ := ho _ _ _ htr
      rw [hs] at hc
      obtain ⟨_, hcl, hat⟩ := World.cells?_some hc
      refine ⟨y, hy, fun j u hj => ?_⟩
      have hjl : j < s := by rw [← he y]; exact (List.getElem?_eq_some_iff.1 hj).1
      rw [← add_add', hat j hjl, hj])
    refine ⟨some a, xs, cap, by rw [hl]; exact hv, ⟨Nat.le_refl _, fun m u hm => ?_⟩, fun y hy => ?_, ?_, by omega⟩
    · obtain ⟨j, y, i, rfl, hi, hj, hu⟩ := flat_none he xs m u hm h0
      have hc := (hq j y hj).2 i u hu
      exact ⟨rfl, by have := World.block_lt_of_cell? W _ hc; rwa [block_of_add] at this, hc⟩
    · obtain ⟨i, hi, rfl⟩ := List.mem_iff_getElem.1 hy
      exact (hq i _ (List.getElem?_eq_getElem hi)).1
    · have : cap ≤ maxLen := hcm
      unfold maxLen at this
      omega

def In64 (z : Int) : Prop := -9223372036854775808 ≤ z ∧ z ≤ 9223372036854775807
theorem open_i64 {t : TypeId} {fuel : Nat} {cs : List Value} {x : DataW H × List MemPlace} (ht : P.underlying t = some (.int .i64)) (h : DataW.trod enc P W 0 sp true fuel t cs = some x) : ∃ z, cs = [.int .i64 z] ∧ In64 z := by
  obtain ⟨z, hz, _, hw⟩ := DataW.trod_int ht h
  refine ⟨z, hz, ?_⟩
  simpa [In64, Lit.wf, IntKind.min, IntKind.max, IntKind.signed, IntKind.bits] using hw
theorem open_bl {t : TypeId} {fuel : Nat} {cs : List Value} {x : DataW H × List MemPlace} (ht : P.underlying t = some .bool) (h : DataW.trod enc P W 0 sp true fuel t cs = some x) : ∃ b, cs = [.bool b] := by
  cases fuel with
  | zero => simp [DataW.trod] at h
  | succ n =>
    unfold DataW.trod at h
    rw [ht] at h
    split at h <;> simp_all
theorem open_st {t : TypeId} {fuel : Nat} {cs : List Value} {x : DataW H × List MemPlace} (ht : P.underlying t = some .string) (h : DataW.trod enc P W 0 sp true fuel t cs = some x) : ∃ s : ByteArray, cs = [.string s] ∧ s.size ≤ 9223372036854775807 := by
  obtain ⟨s, hs, _, hm⟩ := DataW.trod_string ht h
  exact ⟨s, hs, by unfold maxLen at hm; omega⟩
theorem len_of {t : TypeId} {fs : Array Field} {fuel : Nat} {cs : List Value} {x : DataW H × List MemPlace} (ht : P.underlying t = some (.struct fs)) (h : DataW.trod enc P W 0 sp true fuel t cs = some x) : cs.length = P.cellsOf t := by
  obtain ⟨xs, n, _, _, hl, _, _⟩ := DataW.trod_struct ht h
  exact hl
/-- a struct that is an argument is an aggregate -/
theorem agg_of {t : TypeId} {fs : Array Field} {v : Value} {d : DataW H} {p : List MemPlace} {r : Go.Reach} {b0 : Nat} (ht : P.underlying t = some (.struct fs)) (hv : Value.okWide P W r b0 t v) (h : DataW.Trod enc P W 0 sp true t v d p) : ∃ cs : List Value, v = .agg cs.toArray ∧ ∃ n x, DataW.trod enc P W 0 sp true n t cs = some x := by
  obtain ⟨cs, rfl, hsz⟩ := okWide_struct ht hv
  obtain ⟨n, hn⟩ := h
  exact ⟨cs.toList, by simp, n, _, by simpa [Value.cells] using hn⟩
end

end Go.Proofs.YtdoibplhbdkapaaGreatDoor
