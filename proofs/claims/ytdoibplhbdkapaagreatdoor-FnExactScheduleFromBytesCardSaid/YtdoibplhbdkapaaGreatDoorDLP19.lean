/- Texts of the seat that a law needs, put together. No condition. -/
import Derived.Test.YtdoibplhbdkapaaGreatDoorDLP3
import Derived.Test.YtdoibplhbdkapaaGreatDoorDLP16
import Derived.Test.YtdoibplhbdkapaaGreatDoorDLP7
import Derived.Test.YtdoibplhbdkapaaGreatDoorDLP18
namespace Go.Proofs.YtdoibplhbdkapaaGreatDoor
open Go.RowKit
set_option linter.unusedVariables false
set_option linter.unusedSimpArgs false
set_option maxRecDepth 20000
theorem markText_c (k0 : Int) (w : World) (hk : k0 ≤ 1152921504606846976) :
    Calls Tryz.prog 176 #[.int .i64 k0] w (Ret fun v w' => v = .string (markT k0) ∧ Ext w w') := by
  have X := Ext.refl w
  refine calls_of (args := [.int .i64 k0]) Tryz.func176 Tryz.ntmps176 rfl rfl ?_
  refine c_seqR ?_
  refine ops_cons rfl (ow_assign rfl ?_)
  refine ops_nil ?_
  refine c_seq ?_
  refine c_seqR ?_
  refine ops_cons rfl (ow_move rfl ?_)
  refine ops_cons rfl (ow_leq2 rfl rfl (fun h0 => ?_) (fun h0 => ?_))
  refine ops_nil ?_
  refine c_true rfl ?_
  refine c_seqR ?_
  refine ops_cons rfl (ow_assign rfl ?_)
  refine ops_nil ?_
  refine c_ret ?_
  refine tq_r ?_
  refine fin_ret1 rfl rfl ?_
  · skip
    first
    | (rw [markT, if_pos (by omega)]; exact ⟨rfl, X⟩)
    | (rw [markT, if_neg (by omega), Int.toNat_natCast, hi]
       have e : digF f n out = out := by
         obtain rfl : n = 0 := by omega
         cases f <;> simp [digF]
       rw [e]; exact ⟨rfl, X⟩)
  obtain ⟨n0, rfl⟩ : ∃ n0 : Nat, k0 = (n0 : Int) := ⟨k0.toNat, by omega⟩
  refine ops_nil ?_
  refine c_false rfl ?_
  refine c_skip ?_
  refine tq_n ?_
  refine c_seqR ?_
  refine ops_cons rfl (ow_assign rfl ?_)
  refine ops_nil ?_
  refine c_seq ?_
  refine c_block ?_
  refine c_loop (G := Nat × Nat × ByteArray) (fun ⟨f, n, out⟩ => [(0, .int .i64 (n : Nat)), (3, .string out)]) (fun ⟨f, n, out⟩ wr => n ≤ f ∧ out.size + f ≤ 1152921504606846976 ∧ digF n0 n0 ⟨#[]⟩ = digF f n out ∧ Ext w wr) (fun ⟨f, n, out⟩ => f) (n0, n0, ⟨#[]⟩) (.cons rfl (.cons rfl (.nil _))) ?_ ?_
  · exact ⟨(Nat.le_refl _), (by show 0 + n0 ≤ _; omega), rfl, X⟩
  clear X
  rintro ⟨f, n, out⟩ wr ⟨hf, hz, hi, X⟩
  refine c_seq ?_
  refine c_seqR ?_
  refine ops_cons rfl (ow_move rfl ?_)
  refine ops_cons rfl (ow_gtr2 rfl rfl (fun h1 => ?_) (fun h1 => ?_))
  refine ops_nil ?_
  refine c_true rfl ?_
  refine c_skip ?_
  refine tq_n ?_
  refine c_block ?_
  refine c_seqR ?_
  refine ops_cons rfl (ow_move rfl ?_)
  refine ops_cons rfl (ow_rem rfl rfl (by omega) (m64 (by omega)) ?_)
  refine ops_cons rfl (ow_add rfl rfl (w64 (by omega)) ?_)
  refine ops_cons rfl (ow_conv Tryz.underlying3 Tryz.underlying5 rfl (wu8 (by omega)) ?_)
  refine ops_cons rfl (ow_buildSlice el22 ti5 rfl rfl rfl rfl rfl ?_)
  intro g1 w3 eg1 oB bbg1 x2 zg1
  replace oB := Own.low oB X.size
  replace X := Ext.trans X x2; clear x2
  replace oB := oB.to (cs' := ([UInt8.ofNat (48 + n % 10)] : List UInt8).flatMap eB) (by rw [← u8dig]; rfl)
  refine ops_cons rfl (ow_convBS Tryz.underlying22 Tryz.underlying5 Tryz.underlying9 (oB).sl rfl rfl ?_)
  refine ops_cons rfl (ow_move rfl ?_)
  refine ops_cons rfl (ow_addS rfl rfl (by rw [show (strOf [UInt8.ofNat (48 + n % 10)]).size = 1 from rfl]; omega) ?_)
  refine ops_cons rfl (ow_assign rfl ?_)
  refine ops_nil ?_
  refine c_region ?_
  refine ops_cons rfl (ow_move rfl ?_)
  refine ops_cons rfl (ow_quo rfl rfl (by omega) (q64 (by omega)) ?_)
  refine ops_cons rfl (ow_assign rfl ?_)
  refine ops_nil ?_
  refine bq_n ?_
  refine tq_n ⟨(f - 1, n / 10, strOf [UInt8.ofNat (48 + n % 10)] ++ out), (.cons rfl (.cons rfl (.nil _))), ?_, ?_⟩
  · skip
    exact ⟨(by omega), (by rw [dig_size]; omega), (by
      obtain ⟨f', rfl⟩ : ∃ f', f = f' + 1 := ⟨f - 1, by omega⟩
      rw [hi, digF, if_neg (by omega)]; rfl), X⟩
  · first | omega | (dsimp only; omega)
  refine ops_nil ?_
  refine c_false rfl ?_
  refine c_exit ?_
  refine tq_e ?_
  refine tq_e ?_
  refine bq_e ?_
  refine tq_n ?_
  refine c_seqR ?_
  refine ops_cons rfl (ow_move rfl ?_)
  refine ops_cons rfl (ow_addS rfl rfl (by show 1 + out.size ≤ _; omega) ?_)
  refine ops_cons rfl (ow_assign rfl ?_)
  refine ops_nil ?_
  refine c_ret ?_
  refine fin_ret1 rfl rfl ?_
  · skip
    first
    | (rw [markT, if_pos (by omega)]; exact ⟨rfl, X⟩)
    | (rw [markT, if_neg (by omega), Int.toNat_natCast, hi]
       have e : digF f n out = out := by
         obtain rfl : n = 0 := by omega
         cases f <;> simp [digF]
       rw [e]; exact ⟨rfl, X⟩)

def mkNodeI (a : Int) : NodeI := (⟨a, markT (a + 1), a + 1 + 1, (decide (Int.tmod (a + 1 + 1 + 1) 3 = 0))⟩ : NodeI)


theorem markNodeI_c (A : Option Addr) (c lo : Nat) (xs : List NodeI) (m : Int) (w : World) (oO : Own w lo 59 4 A xs.length c (xs.flatMap NodeI.cells)) (hl : xs.length ≤ 1048576) (hm : 0 ≤ m ∧ m ≤ 1125899906842624) :
    Calls Tryz.prog 91 #[.slice A xs.length c, .int .i64 m] w (Ret fun v w' => v = .int .i64 (m + 4 * xs.length) ∧ Own w' lo 59 4 A xs.length c ((seqG (fun i => mkNodeI (m + 4 * (i : Nat))) xs.length).flatMap NodeI.cells) ∧ w.grownBy w' (Value.slice A xs.length c).ownBlock) := by
  replace oO := oO.to (cs' := ((seqG (fun i => mkNodeI (m + 4 * (i : Nat))) 0 ++ xs.drop 0)).flatMap NodeI.cells) rfl
  have X := gb_refl w (Value.slice A xs.length c).ownBlock
  refine calls_of (args := [.slice A xs.length c, .int .i64 m]) Tryz.func91 Tryz.ntmps91 rfl rfl ?_
  refine c_seqR ?_
  refine ops_cons rfl (ow_assign rfl ?_)
  refine ops_nil ?_
  refine c_seq ?_
  refine c_seqR ?_
  refine ops_cons rfl (ow_assign rfl ?_)
  refine ops_nil ?_
  refine c_block ?_
  refine c_loop (G := Nat × Int) (fun ⟨k, a⟩ => [(0, .slice A xs.length c), (1, .int .i64 a), (5, .int .i64 (k : Nat))]) (fun ⟨k, a⟩ wr => a = m + 4 * k ∧ k ≤ xs.length ∧ Own wr lo 59 4 A xs.length c ((seqG (fun i => mkNodeI (m + 4 * (i : Nat))) k ++ xs.drop k).flatMap NodeI.cells) ∧ w.grownBy wr (Value.slice A xs.length c).ownBlock) (fun ⟨k, a⟩ => xs.length - k) (0, m) (.cons rfl (.cons rfl (.cons rfl (.nil _)))) ?_ ?_
  · exact ⟨by simp, by omega, oO, X⟩
  clear oO
  clear X
  rintro ⟨k, a⟩ wr ⟨ha, hk0, oO, X⟩
  subst ha
  refine c_seq ?_
  refine c_seqR ?_
  refine ops_cons rfl (ow_move rfl ?_)
  refine ops_cons rfl (ow_move rfl ?_)
  refine ops_cons rfl (ow_len Tryz.underlying24 rfl ?_)
  refine ops_cons rfl (ow_lss2 rfl rfl (fun hk => ?_) (fun hk => ?_))
  have hk1 : k < xs.length := by omega
  obtain ⟨x, hx, dx⟩ := drop_at' hk
  have hL := seqG_at' (g := fun i => mkNodeI (m + 4 * (i : Nat))) hx
  have hn := seqG_all (g := fun i => mkNodeI (m + 4 * (i : Nat))) hk0
  refine ops_nil ?_
  refine c_true rfl ?_
  refine c_skip ?_
  refine tq_n ?_
  refine c_seq ?_
  refine c_block ?_
  refine c_seqR ?_
  refine ops_cons rfl (ow_move rfl ?_)
  refine ops_cons rfl (ow_move rfl ?_)
  refine ops_cons rfl (ow_move rfl ?_)
  refine ops_cons rfl (ow_indexT (oO).sl NodeI.len rfl el24 rfl (by omega) rfl hL rfl ?_)
  refine ops_cons rfl (ow_fieldAddr off59_0 rfl ?_)
  refine ops_cons rfl (ow_storeRF oO ti2 rfl rfl rfl rfl (by omega) (by omega) rfl ?_)
  intro w2 oO hg1 z3
  replace X : w.grownBy w2 (Value.slice A xs.length c).ownBlock := by first | exact gb_trans X hg1 | exact gb_new X hg1 (fun g hg => (Own.lt oO hg).1)
  clear hg1 z3
  replace oO := oO.to (cs' := ((seqG (fun i => mkNodeI (m + 4 * (i : Nat))) k ++ xs.drop k).set k (⟨m + 4 * k, x.name, x.drift, x.passive⟩ : NodeI)).flatMap NodeI.cells) (by
    have e1 := set_field (x := x) (x' := (⟨m + 4 * k, x.name, x.drift, x.passive⟩ : NodeI)) (vs := [.int .i64 (m + 4 * k)]) NodeI.len (s' := 1) (f := 0) rfl (by omega) (seqG (fun i => mkNodeI (m + 4 * (i : Nat))) k ++ xs.drop k) k (hL)
    exact e1)
  refine ops_nil ?_
  refine c_seqR ?_
  refine ops_cons rfl (ow_move rfl ?_)
  refine ops_cons rfl (ow_add rfl rfl (w64 (by omega)) ?_)
  refine ops_cons rfl (ow_assign rfl ?_)
  refine ops_nil ?_
  refine c_seqR ?_
  refine ops_cons rfl (ow_move rfl ?_)
  refine ops_cons rfl (ow_move rfl ?_)
  refine ops_cons rfl (ow_move rfl ?_)
  refine ops_cons rfl (ow_call ent176 rfl (ret_mono (markText_c _ _ (by omega)) ?_))
  rintro _ w5 ⟨rfl, x4⟩
  replace oO := oO.ext x4
  replace X := gb_ext X x4; clear x4
  refine ops_cons rfl (ow_indexT (oO).sl NodeI.len rfl el24 rfl (by simp only [List.length_set]; omega) rfl (set_at (by omega)) rfl ?_)
  refine ops_cons rfl (ow_fieldAddr off59_1 rfl ?_)
  refine ops_cons rfl (ow_storeRF oO ti9 rfl rfl rfl rfl (by omega) (by omega) rfl ?_)
  intro w7 oO hg6 z8
  replace X : w.grownBy w7 (Value.slice A xs.length c).ownBlock := by first | exact gb_trans X hg6 | exact gb_new X hg6 (fun g hg => (Own.lt oO hg).1)
  clear hg6 z8
  replace oO := oO.to (cs' := ((seqG (fun i => mkNodeI (m + 4 * (i : Nat))) k ++ xs.drop k).set k (⟨m + 4 * k, markT (m + 4 * k + 1), x.drift, x.passive⟩ : NodeI)).flatMap NodeI.cells) (by
    have e1 := set_field (x := (⟨m + 4 * k, x.name, x.drift, x.passive⟩ : NodeI)) (x' := (⟨m + 4 * k, markT (m + 4 * k + 1), x.drift, x.passive⟩ : NodeI)) (vs := [.string (markT (m + 4 * k + 1))]) NodeI.len (s' := 1) (f := 1) rfl (by omega) ((seqG (fun i => mkNodeI (m + 4 * (i : Nat))) k ++ xs.drop k).set k (⟨m + 4 * k, x.name, x.drift, x.passive⟩ : NodeI)) k (set_at (x := (⟨m + 4 * k, x.name, x.drift, x.passive⟩ : NodeI)) (l := (seqG (fun i => mkNodeI (m + 4 * (i : Nat))) k ++ xs.drop k)) (by omega))
    rw [List.set_set] at e1; exact e1)
  refine ops_nil ?_
  refine c_seqR ?_
  refine ops_cons rfl (ow_move rfl ?_)
  refine ops_cons rfl (ow_add rfl rfl (w64 (by omega)) ?_)
  refine ops_cons rfl (ow_assign rfl ?_)
  refine ops_nil ?_
  refine c_seqR ?_
  refine ops_cons rfl (ow_move rfl ?_)
  refine ops_cons rfl (ow_move rfl ?_)
  refine ops_cons rfl (ow_move rfl ?_)
  refine ops_cons rfl (ow_indexT (oO).sl NodeI.len rfl el24 rfl (by simp only [List.length_set]; omega) rfl (set_at (by omega)) rfl ?_)
  refine ops_cons rfl (ow_fieldAddr off59_2 rfl ?_)
  refine ops_cons rfl (ow_storeRF oO ti2 rfl rfl rfl rfl (by omega) (by omega) rfl ?_)
  intro w10 oO hg9 z11
  replace X : w.grownBy w10 (Value.slice A xs.length c).ownBlock := by first | exact gb_trans X hg9 | exact gb_new X hg9 (fun g hg => (Own.lt oO hg).1)
  clear hg9 z11
  replace oO := oO.to (cs' := ((seqG (fun i => mkNodeI (m + 4 * (i : Nat))) k ++ xs.drop k).set k (⟨m + 4 * k, markT (m + 4 * k + 1), m + 4 * k + 1 + 1, x.passive⟩ : NodeI)).flatMap NodeI.cells) (by
    have e1 := set_field (x := (⟨m + 4 * k, markT (m + 4 * k + 1), x.drift, x.passive⟩ : NodeI)) (x' := (⟨m + 4 * k, markT (m + 4 * k + 1), m + 4 * k + 1 + 1, x.passive⟩ : NodeI)) (vs := [.int .i64 (m + 4 * k + 1 + 1)]) NodeI.len (s' := 1) (f := 2) rfl (by omega) ((seqG (fun i => mkNodeI (m + 4 * (i : Nat))) k ++ xs.drop k).set k (⟨m + 4 * k, markT (m + 4 * k + 1), x.drift, x.passive⟩ : NodeI)) k (set_at (x := (⟨m + 4 * k, markT (m + 4 * k + 1), x.drift, x.passive⟩ : NodeI)) (l := (seqG (fun i => mkNodeI (m + 4 * (i : Nat))) k ++ xs.drop k)) (by omega))
    rw [List.set_set] at e1; exact e1)
  refine ops_nil ?_
  refine c_seqR ?_
  refine ops_cons rfl (ow_move rfl ?_)
  refine ops_cons rfl (ow_add rfl rfl (w64 (by omega)) ?_)
  refine ops_cons rfl (ow_assign rfl ?_)
  refine ops_nil ?_
  refine c_seqR ?_
  refine ops_cons rfl (ow_move rfl ?_)
  refine ops_cons rfl (ow_move rfl ?_)
  refine ops_cons rfl (ow_move rfl ?_)
  refine ops_cons rfl (ow_rem rfl rfl (by omega) rfl ?_)
  refine ops_cons rfl (ow_eql rfl rfl ?_)
  refine ops_cons rfl (ow_indexT (oO).sl NodeI.len rfl el24 rfl (by simp only [List.length_set]; omega) rfl (set_at (by omega)) rfl ?_)
  refine ops_cons rfl (ow_fieldAddr off59_3 rfl ?_)
  refine ops_cons rfl (ow_storeRF oO ti4 rfl rfl rfl rfl (by omega) (by omega) rfl ?_)
  intro w13 oO hg12 z14
  replace X : w.grownBy w13 (Value.slice A xs.length c).ownBlock := by first | exact gb_trans X hg12 | exact gb_new X hg12 (fun g hg => (Own.lt oO hg).1)
  clear hg12 z14
  replace oO := oO.to (cs' := ((seqG (fun i => mkNodeI (m + 4 * (i : Nat))) k ++ xs.drop k).set k (⟨m + 4 * k, markT (m + 4 * k + 1), m + 4 * k + 1 + 1, (decide (Int.tmod (m + 4 * k + 1 + 1 + 1) 3 = 0))⟩ : NodeI)).flatMap NodeI.cells) (by
    have e1 := set_field (x := (⟨m + 4 * k, markT (m + 4 * k + 1), m + 4 * k + 1 + 1, x.passive⟩ : NodeI)) (x' := (⟨m + 4 * k, markT (m + 4 * k + 1), m + 4 * k + 1 + 1, (decide (Int.tmod (m + 4 * k + 1 + 1 + 1) 3 = 0))⟩ : NodeI)) (vs := [.bool (decide (Int.tmod (m + 4 * k + 1 + 1 + 1) 3 = 0))]) NodeI.len (s' := 1) (f := 3) rfl (by omega) ((seqG (fun i => mkNodeI (m + 4 * (i : Nat))) k ++ xs.drop k).set k (⟨m + 4 * k, markT (m + 4 * k + 1), m + 4 * k + 1 + 1, x.passive⟩ : NodeI)) k (set_at (x := (⟨m + 4 * k, markT (m + 4 * k + 1), m + 4 * k + 1 + 1, x.passive⟩ : NodeI)) (l := (seqG (fun i => mkNodeI (m + 4 * (i : Nat))) k ++ xs.drop k)) (by omega))
    rw [List.set_set] at e1; exact e1)
  replace oO := oO.to (cs' := ((seqG (fun i => mkNodeI (m + 4 * (i : Nat))) (k + 1)) ++ xs.drop (k + 1)).flatMap NodeI.cells) (by rw [← seqG_set hk1]; rfl)
  refine ops_nil ?_
  refine c_region ?_
  refine ops_cons rfl (ow_move rfl ?_)
  refine ops_cons rfl (ow_add rfl rfl (w64 (by omega)) ?_)
  refine ops_cons rfl (ow_assign rfl ?_)
  refine ops_nil ?_
  refine bq_n ?_
  refine tq_n ?_
  refine c_region ?_
  refine ops_cons rfl (ow_move rfl ?_)
  refine ops_cons rfl (ow_add rfl rfl (w64 (by omega)) ?_)
  refine ops_cons rfl (ow_assign rfl ?_)
  refine ops_nil ?_
  refine tq_n ⟨(k + 1, m + 4 * k + 1 + 1 + 1 + 1), (.cons rfl (.cons rfl (.cons rfl (.nil _)))), ?_, ?_⟩
  · exact ⟨by omega, by omega, oO, X⟩
  · dsimp only; omega
  rw [seqG_end hk0 hk] at oO
  refine ops_nil ?_
  refine c_false rfl ?_
  refine c_exit ?_
  refine tq_e ?_
  refine tq_e ?_
  refine bq_e ?_
  refine tq_n ?_
  refine c_seqR ?_
  refine ops_cons rfl (ow_move rfl ?_)
  refine ops_cons rfl (ow_assign rfl ?_)
  refine ops_nil ?_
  refine c_ret ?_
  refine fin_ret1 rfl rfl ?_
  exact ⟨by rw [show k = xs.length by omega], oO, X⟩

theorem heldNodeI_c (A : Option Addr) (B c n : Nat) (m : Int) (w : World) (hs : Sl B w A ((seqG (fun i => mkNodeI (m + 4 * (i : Nat))) n).flatMap NodeI.cells)) (hl : n ≤ 1048576) (hm : 0 ≤ m ∧ m ≤ 1125899906842624) :
    Calls Tryz.prog 94 #[.slice A n c, .int .i64 m] w (Ret fun v w' => v = .int .i64 (m + 4 * n) ∧ Ext w w') := by
  have Bhs := hs.1
  have X := Ext.refl w
  refine calls_of (args := [.slice A n c, .int .i64 m]) Tryz.func94 Tryz.ntmps94 rfl rfl ?_
  refine c_seqR ?_
  refine ops_cons rfl (ow_assign rfl ?_)
  refine ops_nil ?_
  refine c_seq ?_
  refine c_seqR ?_
  refine ops_cons rfl (ow_assign rfl ?_)
  refine ops_nil ?_
  refine c_block ?_
  refine c_loop (G := Nat × Int) (fun ⟨k, a⟩ => [(0, .slice A n c), (1, .int .i64 a), (5, .int .i64 (k : Nat))]) (fun ⟨k, a⟩ wr => a = m + 4 * k ∧ k ≤ n ∧ Sl B wr A ((seqG (fun i => mkNodeI (m + 4 * (i : Nat))) n).flatMap NodeI.cells) ∧ Ext w wr) (fun ⟨k, a⟩ => n - k) (0, m) (.cons rfl (.cons rfl (.cons rfl (.nil _)))) ?_ ?_
  · exact ⟨by simp, by omega, hs, X⟩
  clear hs
  clear X
  rintro ⟨k, a⟩ wr ⟨ha, hk0, hs, X⟩
  subst ha
  refine c_seq ?_
  refine c_seqR ?_
  refine ops_cons rfl (ow_move rfl ?_)
  refine ops_cons rfl (ow_move rfl ?_)
  refine ops_cons rfl (ow_len Tryz.underlying24 rfl ?_)
  refine ops_cons rfl (ow_lss2 rfl rfl (fun hk => ?_) (fun hk => ?_))
  have hk1 : k < n := by omega
  refine ops_nil ?_
  refine c_true rfl ?_
  refine c_skip ?_
  refine tq_n ?_
  refine c_seq ?_
  refine c_block ?_
  refine c_seq ?_
  refine c_seqR ?_
  refine ops_cons rfl (ow_move rfl ?_)
  refine ops_cons rfl (ow_move rfl ?_)
  refine ops_cons rfl (ow_indexT hs NodeI.len rfl el24 rfl (seqG_len _ _).symm rfl (seqG_at hk1) rfl ?_)
  refine ops_cons rfl (ow_fieldAddr off59_0 rfl ?_)
  refine ops_cons rfl (ow_loadTF hs NodeI.len (seqG_at hk1) ti2 rfl rfl rfl ?_)
  refine ops_cons rfl (ow_move rfl ?_)
  refine ops_cons rfl (ow_neq2 rfl rfl (fun h1 => absurd h1 (by exact fun h => h rfl)) (fun h1 => ?_))
  refine ops_nil ?_
  refine c_false rfl ?_
  refine c_skip ?_
  refine tq_n ?_
  refine c_seqR ?_
  refine ops_cons rfl (ow_move rfl ?_)
  refine ops_cons rfl (ow_add rfl rfl (w64 (by omega)) ?_)
  refine ops_cons rfl (ow_assign rfl ?_)
  refine ops_nil ?_
  refine c_seq ?_
  refine c_seqD [false, false, false, false, false, false, false, false] mixed (by kernel_rfl) ?_
  refine f_q rfl (fun wq sq => ow_move rfl ⟨rfl, Ext.refl _⟩) ?_
  refine f_q rfl (fun wq sq => ow_move rfl ⟨rfl, Ext.refl _⟩) ?_
  refine f_q rfl (fun wq sq => ow_indexT (hs.ext sq) NodeI.len rfl el24 rfl (seqG_len _ _).symm rfl (seqG_at hk1) rfl ⟨rfl, Ext.refl _⟩) ?_
  refine f_q rfl (fun wq sq => ow_fieldAddr off59_1 rfl ⟨rfl, Ext.refl _⟩) ?_
  refine f_q rfl (fun wq sq => ow_loadTF (hs.ext sq) NodeI.len (seqG_at hk1) ti9 rfl rfl rfl ⟨rfl, Ext.refl _⟩) ?_
  refine f_q rfl (fun wq sq => ow_move rfl ⟨rfl, Ext.refl _⟩) ?_
  refine f_q rfl (fun wq sq => ow_call ent176 rfl (markText_c _ _ (by omega))) ?_
  refine f_qb rfl (fun wq sq => ow_neqS rfl rfl ⟨rfl, Ext.refl _⟩) (fun h2 => absurd h2 (by exact fun h => h rfl)) (fun h2 => ?_)
  refine f_nil (fun w3 sq => ?_)
  have xq := sq
  replace hs := hs.ext xq
  replace X := Ext.trans X xq; clear xq sq
  refine ops_nil ?_
  refine c_false rfl ?_
  refine c_skip ?_
  refine tq_n ?_
  refine c_seqR ?_
  refine ops_cons rfl (ow_move rfl ?_)
  refine ops_cons rfl (ow_add rfl rfl (w64 (by omega)) ?_)
  refine ops_cons rfl (ow_assign rfl ?_)
  refine ops_nil ?_
  refine c_seq ?_
  refine c_seqR ?_
  refine ops_cons rfl (ow_move rfl ?_)
  refine ops_cons rfl (ow_move rfl ?_)
  refine ops_cons rfl (ow_indexT hs NodeI.len rfl el24 rfl (seqG_len _ _).symm rfl (seqG_at hk1) rfl ?_)
  refine ops_cons rfl (ow_fieldAddr off59_2 rfl ?_)
  refine ops_cons rfl (ow_loadTF hs NodeI.len (seqG_at hk1) ti2 rfl rfl rfl ?_)
  refine ops_cons rfl (ow_move rfl ?_)
  refine ops_cons rfl (ow_neq2 rfl rfl (fun h4 => absurd h4 (by exact fun h => h rfl)) (fun h4 => ?_))
  refine ops_nil ?_
  refine c_false rfl ?_
  refine c_skip ?_
  refine tq_n ?_
  refine c_seqR ?_
  refine ops_cons rfl (ow_move rfl ?_)
  refine ops_cons rfl (ow_add rfl rfl (w64 (by omega)) ?_)
  refine ops_cons rfl (ow_assign rfl ?_)
  refine ops_nil ?_
  refine c_seq ?_
  refine c_seqR ?_
  refine ops_cons rfl (ow_move rfl ?_)
  refine ops_cons rfl (ow_move rfl ?_)
  refine ops_cons rfl (ow_indexT hs NodeI.len rfl el24 rfl (seqG_len _ _).symm rfl (seqG_at hk1) rfl ?_)
  refine ops_cons rfl (ow_fieldAddr off59_3 rfl ?_)
  refine ops_cons rfl (ow_loadTF hs NodeI.len (seqG_at hk1) ti4 rfl rfl rfl ?_)
  refine ops_cons rfl (ow_move rfl ?_)
  refine ops_cons rfl (ow_rem rfl rfl (by omega) rfl ?_)
  refine ops_cons rfl (ow_eql rfl rfl ?_)
  refine ops_cons rfl (ow_neqBd2 Tryz.underlying4 rfl rfl (fun h5 => absurd h5 (by exact fun h => h rfl)) (fun h5 => ?_))
  refine ops_nil ?_
  refine c_false rfl ?_
  refine c_skip ?_
  refine tq_n ?_
  refine c_region ?_
  refine ops_cons rfl (ow_move rfl ?_)
  refine ops_cons rfl (ow_add rfl rfl (w64 (by omega)) ?_)
  refine ops_cons rfl (ow_assign rfl ?_)
  refine ops_nil ?_
  refine bq_n ?_
  refine tq_n ?_
  refine c_region ?_
  refine ops_cons rfl (ow_move rfl ?_)
  refine ops_cons rfl (ow_add rfl rfl (w64 (by omega)) ?_)
  refine ops_cons rfl (ow_assign rfl ?_)
  refine ops_nil ?_
  refine tq_n ⟨(k + 1, m + 4 * k + 1 + 1 + 1 + 1), (.cons rfl (.cons rfl (.cons rfl (.nil _)))), ?_, ?_⟩
  · exact ⟨by omega, by omega, hs, X⟩
  · dsimp only; omega
  refine ops_nil ?_
  refine c_false rfl ?_
  refine c_exit ?_
  refine tq_e ?_
  refine tq_e ?_
  refine bq_e ?_
  refine tq_n ?_
  refine c_seqR ?_
  refine ops_cons rfl (ow_move rfl ?_)
  refine ops_cons rfl (ow_assign rfl ?_)
  refine ops_nil ?_
  refine c_ret ?_
  refine fin_ret1 rfl rfl ?_
  exact ⟨by rw [show k = n by omega], X⟩

def mkSlotI (a : Int) : SlotI := (⟨a, a + 1, a + 1 + 1, ⟨a + 1 + 1 + 1, a + 1 + 1 + 1 + 1, a + 1 + 1 + 1 + 1 + 1, a + 1 + 1 + 1 + 1 + 1 + 1, (decide (Int.tmod (a + 1 + 1 + 1 + 1 + 1 + 1 + 1) 3 = 0))⟩⟩ : SlotI)


theorem markSlotI_c (A : Option Addr) (c lo : Nat) (xs : List SlotI) (m : Int) (w : World) (oO : Own w lo 89 8 A xs.length c (xs.flatMap SlotI.cells)) (hl : xs.length ≤ 1048576) (hm : 0 ≤ m ∧ m ≤ 1125899906842624) :
    Calls Tryz.prog 93 #[.slice A xs.length c, .int .i64 m] w (Ret fun v w' => v = .int .i64 (m + 8 * xs.length) ∧ Own w' lo 89 8 A xs.length c ((seqG (fun i => mkSlotI (m + 8 * (i : Nat))) xs.length).flatMap SlotI.cells) ∧ w.grownBy w' (Value.slice A xs.length c).ownBlock) := by
  replace oO := oO.to (cs' := ((seqG (fun i => mkSlotI (m + 8 * (i : Nat))) 0 ++ xs.drop 0)).flatMap SlotI.cells) rfl
  have X := gb_refl w (Value.slice A xs.length c).ownBlock
  refine calls_of (args := [.slice A xs.length c, .int .i64 m]) Tryz.func93 Tryz.ntmps93 rfl rfl ?_
  refine c_seqR ?_
  refine ops_cons rfl (ow_assign rfl ?_)
  refine ops_nil ?_
  refine c_seq ?_
  refine c_seqR ?_
  refine ops_cons rfl (ow_assign rfl ?_)
  refine ops_nil ?_
  refine c_block ?_
  refine c_loop (G := Nat × Int) (fun ⟨k, a⟩ => [(0, .slice A xs.length c), (1, .int .i64 a), (5, .int .i64 (k : Nat))]) (fun ⟨k, a⟩ wr => a = m + 8 * k ∧ k ≤ xs.length ∧ Own wr lo 89 8 A xs.length c ((seqG (fun i => mkSlotI (m + 8 * (i : Nat))) k ++ xs.drop k).flatMap SlotI.cells) ∧ w.grownBy wr (Value.slice A xs.length c).ownBlock) (fun ⟨k, a⟩ => xs.length - k) (0, m) (.cons rfl (.cons rfl (.cons rfl (.nil _)))) ?_ ?_
  · exact ⟨by simp, by omega, oO, X⟩
  clear oO
  clear X
  rintro ⟨k, a⟩ wr ⟨ha, hk0, oO, X⟩
  subst ha
  refine c_seq ?_
  refine c_seqR ?_
  refine ops_cons rfl (ow_move rfl ?_)
  refine ops_cons rfl (ow_move rfl ?_)
  refine ops_cons rfl (ow_len Tryz.underlying26 rfl ?_)
  refine ops_cons rfl (ow_lss2 rfl rfl (fun hk => ?_) (fun hk => ?_))
  have hk1 : k < xs.length := by omega
  obtain ⟨x, hx, dx⟩ := drop_at' hk
  have hL := seqG_at' (g := fun i => mkSlotI (m + 8 * (i : Nat))) hx
  have hn := seqG_all (g := fun i => mkSlotI (m + 8 * (i : Nat))) hk0
  refine ops_nil ?_
  refine c_true rfl ?_
  refine c_skip ?_
  refine tq_n ?_
  refine c_seq ?_
  refine c_block ?_
  refine c_seqR ?_
  refine ops_cons rfl (ow_move rfl ?_)
  refine ops_cons rfl (ow_move rfl ?_)
  refine ops_cons rfl (ow_move rfl ?_)
  refine ops_cons rfl (ow_indexT (oO).sl SlotI.len rfl el26 rfl (by omega) rfl hL rfl ?_)
  refine ops_cons rfl (ow_fieldAddr off89_0 rfl ?_)
  refine ops_cons rfl (ow_storeRF oO ti2 rfl rfl rfl rfl (by omega) (by omega) rfl ?_)
  intro w2 oO hg1 z3
  replace X : w.grownBy w2 (Value.slice A xs.length c).ownBlock := by first | exact gb_trans X hg1 | exact gb_new X hg1 (fun g hg => (Own.lt oO hg).1)
  clear hg1 z3
  replace oO := oO.to (cs' := ((seqG (fun i => mkSlotI (m + 8 * (i : Nat))) k ++ xs.drop k).set k (⟨m + 8 * k, x.round, x.slot, ⟨x.desc.node, x.desc.kind, x.desc.size, x.desc.duration, x.desc.change⟩⟩ : SlotI)).flatMap SlotI.cells) (by
    have e1 := set_field (x := x) (x' := (⟨m + 8 * k, x.round, x.slot, ⟨x.desc.node, x.desc.kind, x.desc.size, x.desc.duration, x.desc.change⟩⟩ : SlotI)) (vs := [.int .i64 (m + 8 * k)]) SlotI.len (s' := 1) (f := 0) rfl (by omega) (seqG (fun i => mkSlotI (m + 8 * (i : Nat))) k ++ xs.drop k) k (hL)
    exact e1)
  refine ops_nil ?_
  refine c_seqR ?_
  refine ops_cons rfl (ow_move rfl ?_)
  refine ops_cons rfl (ow_add rfl rfl (w64 (by omega)) ?_)
  refine ops_cons rfl (ow_assign rfl ?_)
  refine ops_nil ?_
  refine c_seqR ?_
  refine ops_cons rfl (ow_move rfl ?_)
  refine ops_cons rfl (ow_move rfl ?_)
  refine ops_cons rfl (ow_move rfl ?_)
  refine ops_cons rfl (ow_indexT (oO).sl SlotI.len rfl el26 rfl (by simp only [List.length_set]; omega) rfl (set_at (by omega)) rfl ?_)
  refine ops_cons rfl (ow_fieldAddr off89_1 rfl ?_)
  refine ops_cons rfl (ow_storeRF oO ti2 rfl rfl rfl rfl (by omega) (by omega) rfl ?_)
  intro w5 oO hg4 z6
  replace X : w.grownBy w5 (Value.slice A xs.length c).ownBlock := by first | exact gb_trans X hg4 | exact gb_new X hg4 (fun g hg => (Own.lt oO hg).1)
  clear hg4 z6
  replace oO := oO.to (cs' := ((seqG (fun i => mkSlotI (m + 8 * (i : Nat))) k ++ xs.drop k).set k (⟨m + 8 * k, m + 8 * k + 1, x.slot, ⟨x.desc.node, x.desc.kind, x.desc.size, x.desc.duration, x.desc.change⟩⟩ : SlotI)).flatMap SlotI.cells) (by
    have e1 := set_field (x := (⟨m + 8 * k, x.round, x.slot, ⟨x.desc.node, x.desc.kind, x.desc.size, x.desc.duration, x.desc.change⟩⟩ : SlotI)) (x' := (⟨m + 8 * k, m + 8 * k + 1, x.slot, ⟨x.desc.node, x.desc.kind, x.desc.size, x.desc.duration, x.desc.change⟩⟩ : SlotI)) (vs := [.int .i64 (m + 8 * k + 1)]) SlotI.len (s' := 1) (f := 1) rfl (by omega) ((seqG (fun i => mkSlotI (m + 8 * (i : Nat))) k ++ xs.drop k).set k (⟨m + 8 * k, x.round, x.slot, ⟨x.desc.node, x.desc.kind, x.desc.size, x.desc.duration, x.desc.change⟩⟩ : SlotI)) k (set_at (x := (⟨m + 8 * k, x.round, x.slot, ⟨x.desc.node, x.desc.kind, x.desc.size, x.desc.duration, x.desc.change⟩⟩ : SlotI)) (l := (seqG (fun i => mkSlotI (m + 8 * (i : Nat))) k ++ xs.drop k)) (by omega))
    rw [List.set_set] at e1; exact e1)
  refine ops_nil ?_
  refine c_seqR ?_
  refine ops_cons rfl (ow_move rfl ?_)
  refine ops_cons rfl (ow_add rfl rfl (w64 (by omega)) ?_)
  refine ops_cons rfl (ow_assign rfl ?_)
  refine ops_nil ?_
  refine c_seqR ?_
  refine ops_cons rfl (ow_move rfl ?_)
  refine ops_cons rfl (ow_move rfl ?_)
  refine ops_cons rfl (ow_move rfl ?_)
  refine ops_cons rfl (ow_indexT (oO).sl SlotI.len rfl el26 rfl (by simp only [List.length_set]; omega) rfl (set_at (by omega)) rfl ?_)
  refine ops_cons rfl (ow_fieldAddr off89_2 rfl ?_)
  refine ops_cons rfl (ow_storeRF oO ti2 rfl rfl rfl rfl (by omega) (by omega) rfl ?_)
  intro w9 oO hg7 z10
  replace X : w.grownBy w9 (Value.slice A xs.length c).ownBlock := by first | exact gb_trans X hg7 | exact gb_new X hg7 (fun g hg => (Own.lt oO hg).1)
  clear hg7 z10
  replace oO := oO.to (cs' := ((seqG (fun i => mkSlotI (m + 8 * (i : Nat))) k ++ xs.drop k).set k (⟨m + 8 * k, m + 8 * k + 1, m + 8 * k + 1 + 1, ⟨x.desc.node, x.desc.kind, x.desc.size, x.desc.duration, x.desc.change⟩⟩ : SlotI)).flatMap SlotI.cells) (by
    have e1 := set_field (x := (⟨m + 8 * k, m + 8 * k + 1, x.slot, ⟨x.desc.node, x.desc.kind, x.desc.size, x.desc.duration, x.desc.change⟩⟩ : SlotI)) (x' := (⟨m + 8 * k, m + 8 * k + 1, m + 8 * k + 1 + 1, ⟨x.desc.node, x.desc.kind, x.desc.size, x.desc.duration, x.desc.change⟩⟩ : SlotI)) (vs := [.int .i64 (m + 8 * k + 1 + 1)]) SlotI.len (s' := 1) (f := 2) rfl (by omega) ((seqG (fun i => mkSlotI (m + 8 * (i : Nat))) k ++ xs.drop k).set k (⟨m + 8 * k, m + 8 * k + 1, x.slot, ⟨x.desc.node, x.desc.kind, x.desc.size, x.desc.duration, x.desc.change⟩⟩ : SlotI)) k (set_at (x := (⟨m + 8 * k, m + 8 * k + 1, x.slot, ⟨x.desc.node, x.desc.kind, x.desc.size, x.desc.duration, x.desc.change⟩⟩ : SlotI)) (l := (seqG (fun i => mkSlotI (m + 8 * (i : Nat))) k ++ xs.drop k)) (by omega))
    rw [List.set_set] at e1; exact e1)
  refine ops_nil ?_
  refine c_seqR ?_
  refine ops_cons rfl (ow_move rfl ?_)
  refine ops_cons rfl (ow_add rfl rfl (w64 (by omega)) ?_)
  refine ops_cons rfl (ow_assign rfl ?_)
  refine ops_nil ?_
  refine c_seqR ?_
  refine ops_cons rfl (ow_move rfl ?_)
  refine ops_cons rfl (ow_move rfl ?_)
  refine ops_cons rfl (ow_move rfl ?_)
  refine ops_cons rfl (ow_indexT (oO).sl SlotI.len rfl el26 rfl (by simp only [List.length_set]; omega) rfl (set_at (by omega)) rfl ?_)
  refine ops_cons rfl (ow_fieldAddr off89_3 rfl ?_)
  refine ops_cons rfl (ow_fieldAddr off67_0 rfl ?_)
  refine ops_cons rfl (ow_storeRFF oO ti2 rfl rfl rfl rfl (by omega) (by omega) rfl ?_)
  intro w12 oO hg11 z13
  replace X : w.grownBy w12 (Value.slice A xs.length c).ownBlock := by first | exact gb_trans X hg11 | exact gb_new X hg11 (fun g hg => (Own.lt oO hg).1)
  clear hg11 z13
  replace oO := oO.to (cs' := ((seqG (fun i => mkSlotI (m + 8 * (i : Nat))) k ++ xs.drop k).set k (⟨m + 8 * k, m + 8 * k + 1, m + 8 * k + 1 + 1, ⟨m + 8 * k + 1 + 1 + 1, x.desc.kind, x.desc.size, x.desc.duration, x.desc.change⟩⟩ : SlotI)).flatMap SlotI.cells) (by
    have e1 := set_field (x := (⟨m + 8 * k, m + 8 * k + 1, m + 8 * k + 1 + 1, ⟨x.desc.node, x.desc.kind, x.desc.size, x.desc.duration, x.desc.change⟩⟩ : SlotI)) (x' := (⟨m + 8 * k, m + 8 * k + 1, m + 8 * k + 1 + 1, ⟨m + 8 * k + 1 + 1 + 1, x.desc.kind, x.desc.size, x.desc.duration, x.desc.change⟩⟩ : SlotI)) (vs := [.int .i64 (m + 8 * k + 1 + 1 + 1)]) SlotI.len (s' := 1) (f := 3) rfl (by omega) ((seqG (fun i => mkSlotI (m + 8 * (i : Nat))) k ++ xs.drop k).set k (⟨m + 8 * k, m + 8 * k + 1, m + 8 * k + 1 + 1, ⟨x.desc.node, x.desc.kind, x.desc.size, x.desc.duration, x.desc.change⟩⟩ : SlotI)) k (set_at (x := (⟨m + 8 * k, m + 8 * k + 1, m + 8 * k + 1 + 1, ⟨x.desc.node, x.desc.kind, x.desc.size, x.desc.duration, x.desc.change⟩⟩ : SlotI)) (l := (seqG (fun i => mkSlotI (m + 8 * (i : Nat))) k ++ xs.drop k)) (by omega))
    rw [List.set_set] at e1; exact e1)
  refine ops_nil ?_
  refine c_seqR ?_
  refine ops_cons rfl (ow_move rfl ?_)
  refine ops_cons rfl (ow_add rfl rfl (w64 (by omega)) ?_)
  refine ops_cons rfl (ow_assign rfl ?_)
  refine ops_nil ?_
  refine c_seqR ?_
  refine ops_cons rfl (ow_move rfl ?_)
  refine ops_cons rfl (ow_move rfl ?_)
  refine ops_cons rfl (ow_move rfl ?_)
  refine ops_cons rfl (ow_indexT (oO).sl SlotI.len rfl el26 rfl (by simp only [List.length_set]; omega) rfl (set_at (by omega)) rfl ?_)
  refine ops_cons rfl (ow_fieldAddr off89_3 rfl ?_)
  refine ops_cons rfl (ow_fieldAddr off67_1 rfl ?_)
  refine ops_cons rfl (ow_storeRFF oO ti2 rfl rfl rfl rfl (by omega) (by omega) rfl ?_)
  intro w15 oO hg14 z16
  replace X : w.grownBy w15 (Value.slice A xs.length c).ownBlock := by first | exact gb_trans X hg14 | exact gb_new X hg14 (fun g hg => (Own.lt oO hg).1)
  clear hg14 z16
  replace oO := oO.to (cs' := ((seqG (fun i => mkSlotI (m + 8 * (i : Nat))) k ++ xs.drop k).set k (⟨m + 8 * k, m + 8 * k + 1, m + 8 * k + 1 + 1, ⟨m + 8 * k + 1 + 1 + 1, m + 8 * k + 1 + 1 + 1 + 1, x.desc.size, x.desc.duration, x.desc.change⟩⟩ : SlotI)).flatMap SlotI.cells) (by
    have e1 := set_field (x := (⟨m + 8 * k, m + 8 * k + 1, m + 8 * k + 1 + 1, ⟨m + 8 * k + 1 + 1 + 1, x.desc.kind, x.desc.size, x.desc.duration, x.desc.change⟩⟩ : SlotI)) (x' := (⟨m + 8 * k, m + 8 * k + 1, m + 8 * k + 1 + 1, ⟨m + 8 * k + 1 + 1 + 1, m + 8 * k + 1 + 1 + 1 + 1, x.desc.size, x.desc.duration, x.desc.change⟩⟩ : SlotI)) (vs := [.int .i64 (m + 8 * k + 1 + 1 + 1 + 1)]) SlotI.len (s' := 1) (f := 4) rfl (by omega) ((seqG (fun i => mkSlotI (m + 8 * (i : Nat))) k ++ xs.drop k).set k (⟨m + 8 * k, m + 8 * k + 1, m + 8 * k + 1 + 1, ⟨m + 8 * k + 1 + 1 + 1, x.desc.kind, x.desc.size, x.desc.duration, x.desc.change⟩⟩ : SlotI)) k (set_at (x := (⟨m + 8 * k, m + 8 * k + 1, m + 8 * k + 1 + 1, ⟨m + 8 * k + 1 + 1 + 1, x.desc.kind, x.desc.size, x.desc.duration, x.desc.change⟩⟩ : SlotI)) (l := (seqG (fun i => mkSlotI (m + 8 * (i : Nat))) k ++ xs.drop k)) (by omega))
    rw [List.set_set] at e1; exact e1)
  refine ops_nil ?_
  refine c_seqR ?_
  refine ops_cons rfl (ow_move rfl ?_)
  refine ops_cons rfl (ow_add rfl rfl (w64 (by omega)) ?_)
  refine ops_cons rfl (ow_assign rfl ?_)
  refine ops_nil ?_
  refine c_seqR ?_
  refine ops_cons rfl (ow_move rfl ?_)
  refine ops_cons rfl (ow_move rfl ?_)
  refine ops_cons rfl (ow_move rfl ?_)
  refine ops_cons rfl (ow_indexT (oO).sl SlotI.len rfl el26 rfl (by simp only [List.length_set]; omega) rfl (set_at (by omega)) rfl ?_)
  refine ops_cons rfl (ow_fieldAddr off89_3 rfl ?_)
  refine ops_cons rfl (ow_fieldAddr off67_2 rfl ?_)
  refine ops_cons rfl (ow_storeRFF oO ti2 rfl rfl rfl rfl (by omega) (by omega) rfl ?_)
  intro w18 oO hg17 z19
  replace X : w.grownBy w18 (Value.slice A xs.length c).ownBlock := by first | exact gb_trans X hg17 | exact gb_new X hg17 (fun g hg => (Own.lt oO hg).1)
  clear hg17 z19
  replace oO := oO.to (cs' := ((seqG (fun i => mkSlotI (m + 8 * (i : Nat))) k ++ xs.drop k).set k (⟨m + 8 * k, m + 8 * k + 1, m + 8 * k + 1 + 1, ⟨m + 8 * k + 1 + 1 + 1, m + 8 * k + 1 + 1 + 1 + 1, m + 8 * k + 1 + 1 + 1 + 1 + 1, x.desc.duration, x.desc.change⟩⟩ : SlotI)).flatMap SlotI.cells) (by
    have e1 := set_field (x := (⟨m + 8 * k, m + 8 * k + 1, m + 8 * k + 1 + 1, ⟨m + 8 * k + 1 + 1 + 1, m + 8 * k + 1 + 1 + 1 + 1, x.desc.size, x.desc.duration, x.desc.change⟩⟩ : SlotI)) (x' := (⟨m + 8 * k, m + 8 * k + 1, m + 8 * k + 1 + 1, ⟨m + 8 * k + 1 + 1 + 1, m + 8 * k + 1 + 1 + 1 + 1, m + 8 * k + 1 + 1 + 1 + 1 + 1, x.desc.duration, x.desc.change⟩⟩ : SlotI)) (vs := [.int .i64 (m + 8 * k + 1 + 1 + 1 + 1 + 1)]) SlotI.len (s' := 1) (f := 5) rfl (by omega) ((seqG (fun i => mkSlotI (m + 8 * (i : Nat))) k ++ xs.drop k).set k (⟨m + 8 * k, m + 8 * k + 1, m + 8 * k + 1 + 1, ⟨m + 8 * k + 1 + 1 + 1, m + 8 * k + 1 + 1 + 1 + 1, x.desc.size, x.desc.duration, x.desc.change⟩⟩ : SlotI)) k (set_at (x := (⟨m + 8 * k, m + 8 * k + 1, m + 8 * k + 1 + 1, ⟨m + 8 * k + 1 + 1 + 1, m + 8 * k + 1 + 1 + 1 + 1, x.desc.size, x.desc.duration, x.desc.change⟩⟩ : SlotI)) (l := (seqG (fun i => mkSlotI (m + 8 * (i : Nat))) k ++ xs.drop k)) (by omega))
    rw [List.set_set] at e1; exact e1)
  refine ops_nil ?_
  refine c_seqR ?_
  refine ops_cons rfl (ow_move rfl ?_)
  refine ops_cons rfl (ow_add rfl rfl (w64 (by omega)) ?_)
  refine ops_cons rfl (ow_assign rfl ?_)
  refine ops_nil ?_
  refine c_seqR ?_
  refine ops_cons rfl (ow_move rfl ?_)
  refine ops_cons rfl (ow_move rfl ?_)
  refine ops_cons rfl (ow_move rfl ?_)
  refine ops_cons rfl (ow_indexT (oO).sl SlotI.len rfl el26 rfl (by simp only [List.length_set]; omega) rfl (set_at (by omega)) rfl ?_)
  refine ops_cons rfl (ow_fieldAddr off89_3 rfl ?_)
  refine ops_cons rfl (ow_fieldAddr off67_3 rfl ?_)
  refine ops_cons rfl (ow_storeRFF oO ti2 rfl rfl rfl rfl (by omega) (by omega) rfl ?_)
  intro w21 oO hg20 z22
  replace X : w.grownBy w21 (Value.slice A xs.length c).ownBlock := by first | exact gb_trans X hg20 | exact gb_new X hg20 (fun g hg => (Own.lt oO hg).1)
  clear hg20 z22
  replace oO := oO.to (cs' := ((seqG (fun i => mkSlotI (m + 8 * (i : Nat))) k ++ xs.drop k).set k (⟨m + 8 * k, m + 8 * k + 1, m + 8 * k + 1 + 1, ⟨m + 8 * k + 1 + 1 + 1, m + 8 * k + 1 + 1 + 1 + 1, m + 8 * k + 1 + 1 + 1 + 1 + 1, m + 8 * k + 1 + 1 + 1 + 1 + 1 + 1, x.desc.change⟩⟩ : SlotI)).flatMap SlotI.cells) (by
    have e1 := set_field (x := (⟨m + 8 * k, m + 8 * k + 1, m + 8 * k + 1 + 1, ⟨m + 8 * k + 1 + 1 + 1, m + 8 * k + 1 + 1 + 1 + 1, m + 8 * k + 1 + 1 + 1 + 1 + 1, x.desc.duration, x.desc.change⟩⟩ : SlotI)) (x' := (⟨m + 8 * k, m + 8 * k + 1, m + 8 * k + 1 + 1, ⟨m + 8 * k + 1 + 1 + 1, m + 8 * k + 1 + 1 + 1 + 1, m + 8 * k + 1 + 1 + 1 + 1 + 1, m + 8 * k + 1 + 1 + 1 + 1 + 1 + 1, x.desc.change⟩⟩ : SlotI)) (vs := [.int .i64 (m + 8 * k + 1 + 1 + 1 + 1 + 1 + 1)]) SlotI.len (s' := 1) (f := 6) rfl (by omega) ((seqG (fun i => mkSlotI (m + 8 * (i : Nat))) k ++ xs.drop k).set k (⟨m + 8 * k, m + 8 * k + 1, m + 8 * k + 1 + 1, ⟨m + 8 * k + 1 + 1 + 1, m + 8 * k + 1 + 1 + 1 + 1, m + 8 * k + 1 + 1 + 1 + 1 + 1, x.desc.duration, x.desc.change⟩⟩ : SlotI)) k (set_at (x := (⟨m + 8 * k, m + 8 * k + 1, m + 8 * k + 1 + 1, ⟨m + 8 * k + 1 + 1 + 1, m + 8 * k + 1 + 1 + 1 + 1, m + 8 * k + 1 + 1 + 1 + 1 + 1, x.desc.duration, x.desc.change⟩⟩ : SlotI)) (l := (seqG (fun i => mkSlotI (m + 8 * (i : Nat))) k ++ xs.drop k)) (by omega))
    rw [List.set_set] at e1; exact e1)
  refine ops_nil ?_
  refine c_seqR ?_
  refine ops_cons rfl (ow_move rfl ?_)
  refine ops_cons rfl (ow_add rfl rfl (w64 (by omega)) ?_)
  refine ops_cons rfl (ow_assign rfl ?_)
  refine ops_nil ?_
  refine c_seqR ?_
  refine ops_cons rfl (ow_move rfl ?_)
  refine ops_cons rfl (ow_move rfl ?_)
  refine ops_cons rfl (ow_move rfl ?_)
  refine ops_cons rfl (ow_rem rfl rfl (by omega) rfl ?_)
  refine ops_cons rfl (ow_eql rfl rfl ?_)
  refine ops_cons rfl (ow_indexT (oO).sl SlotI.len rfl el26 rfl (by simp only [List.length_set]; omega) rfl (set_at (by omega)) rfl ?_)
  refine ops_cons rfl (ow_fieldAddr off89_3 rfl ?_)
  refine ops_cons rfl (ow_fieldAddr off67_4 rfl ?_)
  refine ops_cons rfl (ow_storeRFF oO ti4 rfl rfl rfl rfl (by omega) (by omega) rfl ?_)
  intro w24 oO hg23 z25
  replace X : w.grownBy w24 (Value.slice A xs.length c).ownBlock := by first | exact gb_trans X hg23 | exact gb_new X hg23 (fun g hg => (Own.lt oO hg).1)
  clear hg23 z25
  replace oO := oO.to (cs' := ((seqG (fun i => mkSlotI (m + 8 * (i : Nat))) k ++ xs.drop k).set k (⟨m + 8 * k, m + 8 * k + 1, m + 8 * k + 1 + 1, ⟨m + 8 * k + 1 + 1 + 1, m + 8 * k + 1 + 1 + 1 + 1, m + 8 * k + 1 + 1 + 1 + 1 + 1, m + 8 * k + 1 + 1 + 1 + 1 + 1 + 1, (decide (Int.tmod (m + 8 * k + 1 + 1 + 1 + 1 + 1 + 1 + 1) 3 = 0))⟩⟩ : SlotI)).flatMap SlotI.cells) (by
    have e1 := set_field (x := (⟨m + 8 * k, m + 8 * k + 1, m + 8 * k + 1 + 1, ⟨m + 8 * k + 1 + 1 + 1, m + 8 * k + 1 + 1 + 1 + 1, m + 8 * k + 1 + 1 + 1 + 1 + 1, m + 8 * k + 1 + 1 + 1 + 1 + 1 + 1, x.desc.change⟩⟩ : SlotI)) (x' := (⟨m + 8 * k, m + 8 * k + 1, m + 8 * k + 1 + 1, ⟨m + 8 * k + 1 + 1 + 1, m + 8 * k + 1 + 1 + 1 + 1, m + 8 * k + 1 + 1 + 1 + 1 + 1, m + 8 * k + 1 + 1 + 1 + 1 + 1 + 1, (decide (Int.tmod (m + 8 * k + 1 + 1 + 1 + 1 + 1 + 1 + 1) 3 = 0))⟩⟩ : SlotI)) (vs := [.bool (decide (Int.tmod (m + 8 * k + 1 + 1 + 1 + 1 + 1 + 1 + 1) 3 = 0))]) SlotI.len (s' := 1) (f := 7) rfl (by omega) ((seqG (fun i => mkSlotI (m + 8 * (i : Nat))) k ++ xs.drop k).set k (⟨m + 8 * k, m + 8 * k + 1, m + 8 * k + 1 + 1, ⟨m + 8 * k + 1 + 1 + 1, m + 8 * k + 1 + 1 + 1 + 1, m + 8 * k + 1 + 1 + 1 + 1 + 1, m + 8 * k + 1 + 1 + 1 + 1 + 1 + 1, x.desc.change⟩⟩ : SlotI)) k (set_at (x := (⟨m + 8 * k, m + 8 * k + 1, m + 8 * k + 1 + 1, ⟨m + 8 * k + 1 + 1 + 1, m + 8 * k + 1 + 1 + 1 + 1, m + 8 * k + 1 + 1 + 1 + 1 + 1, m + 8 * k + 1 + 1 + 1 + 1 + 1 + 1, x.desc.change⟩⟩ : SlotI)) (l := (seqG (fun i => mkSlotI (m + 8 * (i : Nat))) k ++ xs.drop k)) (by omega))
    rw [List.set_set] at e1; exact e1)
  replace oO := oO.to (cs' := ((seqG (fun i => mkSlotI (m + 8 * (i : Nat))) (k + 1)) ++ xs.drop (k + 1)).flatMap SlotI.cells) (by rw [← seqG_set hk1]; rfl)
  refine ops_nil ?_
  refine c_region ?_
  refine ops_cons rfl (ow_move rfl ?_)
  refine ops_cons rfl (ow_add rfl rfl (w64 (by omega)) ?_)
  refine ops_cons rfl (ow_assign rfl ?_)
  refine ops_nil ?_
  refine bq_n ?_
  refine tq_n ?_
  refine c_region ?_
  refine ops_cons rfl (ow_move rfl ?_)
  refine ops_cons rfl (ow_add rfl rfl (w64 (by omega)) ?_)
  refine ops_cons rfl (ow_assign rfl ?_)
  refine ops_nil ?_
  refine tq_n ⟨(k + 1, m + 8 * k + 1 + 1 + 1 + 1 + 1 + 1 + 1 + 1), (.cons rfl (.cons rfl (.cons rfl (.nil _)))), ?_, ?_⟩
  · exact ⟨by omega, by omega, oO, X⟩
  · dsimp only; omega
  rw [seqG_end hk0 hk] at oO
  refine ops_nil ?_
  refine c_false rfl ?_
  refine c_exit ?_
  refine tq_e ?_
  refine tq_e ?_
  refine bq_e ?_
  refine tq_n ?_
  refine c_seqR ?_
  refine ops_cons rfl (ow_move rfl ?_)
  refine ops_cons rfl (ow_assign rfl ?_)
  refine ops_nil ?_
  refine c_ret ?_
  refine fin_ret1 rfl rfl ?_
  exact ⟨by rw [show k = xs.length by omega], oO, X⟩

theorem heldSlotI_c (A : Option Addr) (B c n : Nat) (m : Int) (w : World) (hs : Sl B w A ((seqG (fun i => mkSlotI (m + 8 * (i : Nat))) n).flatMap SlotI.cells)) (hl : n ≤ 1048576) (hm : 0 ≤ m ∧ m ≤ 1125899906842624) :
    Calls Tryz.prog 96 #[.slice A n c, .int .i64 m] w (Ret fun v w' => v = .int .i64 (m + 8 * n) ∧ Ext w w') := by
  have Bhs := hs.1
  have X := Ext.refl w
  refine calls_of (args := [.slice A n c, .int .i64 m]) Tryz.func96 Tryz.ntmps96 rfl rfl ?_
  refine c_seqR ?_
  refine ops_cons rfl (ow_assign rfl ?_)
  refine ops_nil ?_
  refine c_seq ?_
  refine c_seqR ?_
  refine ops_cons rfl (ow_assign rfl ?_)
  refine ops_nil ?_
  refine c_block ?_
  refine c_loop (G := Nat × Int) (fun ⟨k, a⟩ => [(0, .slice A n c), (1, .int .i64 a), (5, .int .i64 (k : Nat))]) (fun ⟨k, a⟩ wr => a = m + 8 * k ∧ k ≤ n ∧ Sl B wr A ((seqG (fun i => mkSlotI (m + 8 * (i : Nat))) n).flatMap SlotI.cells) ∧ Ext w wr) (fun ⟨k, a⟩ => n - k) (0, m) (.cons rfl (.cons rfl (.cons rfl (.nil _)))) ?_ ?_
  · exact ⟨by simp, by omega, hs, X⟩
  clear hs
  clear X
  rintro ⟨k, a⟩ wr ⟨ha, hk0, hs, X⟩
  subst ha
  refine c_seq ?_
  refine c_seqR ?_
  refine ops_cons rfl (ow_move rfl ?_)
  refine ops_cons rfl (ow_move rfl ?_)
  refine ops_cons rfl (ow_len Tryz.underlying26 rfl ?_)
  refine ops_cons rfl (ow_lss2 rfl rfl (fun hk => ?_) (fun hk => ?_))
  have hk1 : k < n := by omega
  refine ops_nil ?_
  refine c_true rfl ?_
  refine c_skip ?_
  refine tq_n ?_
  refine c_seq ?_
  refine c_block ?_
  refine c_seq ?_
  refine c_seqR ?_
  refine ops_cons rfl (ow_move rfl ?_)
  refine ops_cons rfl (ow_move rfl ?_)
  refine ops_cons rfl (ow_indexT hs SlotI.len rfl el26 rfl (seqG_len _ _).symm rfl (seqG_at hk1) rfl ?_)
  refine ops_cons rfl (ow_fieldAddr off89_0 rfl ?_)
  refine ops_cons rfl (ow_loadTF hs SlotI.len (seqG_at hk1) ti2 rfl rfl rfl ?_)
  refine ops_cons rfl (ow_move rfl ?_)
  refine ops_cons rfl (ow_neq2 rfl rfl (fun h1 => absurd h1 (by exact fun h => h rfl)) (fun h1 => ?_))
  refine ops_nil ?_
  refine c_false rfl ?_
  refine c_skip ?_
  refine tq_n ?_
  refine c_seqR ?_
  refine ops_cons rfl (ow_move rfl ?_)
  refine ops_cons rfl (ow_add rfl rfl (w64 (by omega)) ?_)
  refine ops_cons rfl (ow_assign rfl ?_)
  refine ops_nil ?_
  refine c_seq ?_
  refine c_seqR ?_
  refine ops_cons rfl (ow_move rfl ?_)
  refine ops_cons rfl (ow_move rfl ?_)
  refine ops_cons rfl (ow_indexT hs SlotI.len rfl el26 rfl (seqG_len _ _).symm rfl (seqG_at hk1) rfl ?_)
  refine ops_cons rfl (ow_fieldAddr off89_1 rfl ?_)
  refine ops_cons rfl (ow_loadTF hs SlotI.len (seqG_at hk1) ti2 rfl rfl rfl ?_)
  refine ops_cons rfl (ow_move rfl ?_)
  refine ops_cons rfl (ow_neq2 rfl rfl (fun h2 => absurd h2 (by exact fun h => h rfl)) (fun h2 => ?_))
  refine ops_nil ?_
  refine c_false rfl ?_
  refine c_skip ?_
  refine tq_n ?_
  refine c_seqR ?_
  refine ops_cons rfl (ow_move rfl ?_)
  refine ops_cons rfl (ow_add rfl rfl (w64 (by omega)) ?_)
  refine ops_cons rfl (ow_assign rfl ?_)
  refine ops_nil ?_
  refine c_seq ?_
  refine c_seqR ?_
  refine ops_cons rfl (ow_move rfl ?_)
  refine ops_cons rfl (ow_move rfl ?_)
  refine ops_cons rfl (ow_indexT hs SlotI.len rfl el26 rfl (seqG_len _ _).symm rfl (seqG_at hk1) rfl ?_)
  refine ops_cons rfl (ow_fieldAddr off89_2 rfl ?_)
  refine ops_cons rfl (ow_loadTF hs SlotI.len (seqG_at hk1) ti2 rfl rfl rfl ?_)
  refine ops_cons rfl (ow_move rfl ?_)
  refine ops_cons rfl (ow_neq2 rfl rfl (fun h3 => absurd h3 (by exact fun h => h rfl)) (fun h3 => ?_))
  refine ops_nil ?_
  refine c_false rfl ?_
  refine c_skip ?_
  refine tq_n ?_
  refine c_seqR ?_
  refine ops_cons rfl (ow_move rfl ?_)
  refine ops_cons rfl (ow_add rfl rfl (w64 (by omega)) ?_)
  refine ops_cons rfl (ow_assign rfl ?_)
  refine ops_nil ?_
  refine c_seq ?_
  refine c_seqR ?_
  refine ops_cons rfl (ow_move rfl ?_)
  refine ops_cons rfl (ow_move rfl ?_)
  refine ops_cons rfl (ow_indexT hs SlotI.len rfl el26 rfl (seqG_len _ _).symm rfl (seqG_at hk1) rfl ?_)
  refine ops_cons rfl (ow_fieldAddr off89_3 rfl ?_)
  refine ops_cons rfl (ow_fieldAddr off67_0 rfl ?_)
  refine ops_cons rfl (ow_loadTFF hs SlotI.len (seqG_at hk1) ti2 rfl rfl rfl ?_)
  refine ops_cons rfl (ow_move rfl ?_)
  refine ops_cons rfl (ow_neq2 rfl rfl (fun h4 => absurd h4 (by exact fun h => h rfl)) (fun h4 => ?_))
  refine ops_nil ?_
  refine c_false rfl ?_
  refine c_skip ?_
  refine tq_n ?_
  refine c_seqR ?_
  refine ops_cons rfl (ow_move rfl ?_)
  refine ops_cons rfl (ow_add rfl rfl (w64 (by omega)) ?_)
  refine ops_cons rfl (ow_assign rfl ?_)
  refine ops_nil ?_
  refine c_seq ?_
  refine c_seqR ?_
  refine ops_cons rfl (ow_move rfl ?_)
  refine ops_cons rfl (ow_move rfl ?_)
  refine ops_cons rfl (ow_indexT hs SlotI.len rfl el26 rfl (seqG_len _ _).symm rfl (seqG_at hk1) rfl ?_)
  refine ops_cons rfl (ow_fieldAddr off89_3 rfl ?_)
  refine ops_cons rfl (ow_fieldAddr off67_1 rfl ?_)
  refine ops_cons rfl (ow_loadTFF hs SlotI.len (seqG_at hk1) ti2 rfl rfl rfl ?_)
  refine ops_cons rfl (ow_move rfl ?_)
  refine ops_cons rfl (ow_neq2 rfl rfl (fun h5 => absurd h5 (by exact fun h => h rfl)) (fun h5 => ?_))
  refine ops_nil ?_
  refine c_false rfl ?_
  refine c_skip ?_
  refine tq_n ?_
  refine c_seqR ?_
  refine ops_cons rfl (ow_move rfl ?_)
  refine ops_cons rfl (ow_add rfl rfl (w64 (by omega)) ?_)
  refine ops_cons rfl (ow_assign rfl ?_)
  refine ops_nil ?_
  refine c_seq ?_
  refine c_seqR ?_
  refine ops_cons rfl (ow_move rfl ?_)
  refine ops_cons rfl (ow_move rfl ?_)
  refine ops_cons rfl (ow_indexT hs SlotI.len rfl el26 rfl (seqG_len _ _).symm rfl (seqG_at hk1) rfl ?_)
  refine ops_cons rfl (ow_fieldAddr off89_3 rfl ?_)
  refine ops_cons rfl (ow_fieldAddr off67_2 rfl ?_)
  refine ops_cons rfl (ow_loadTFF hs SlotI.len (seqG_at hk1) ti2 rfl rfl rfl ?_)
  refine ops_cons rfl (ow_move rfl ?_)
  refine ops_cons rfl (ow_neq2 rfl rfl (fun h6 => absurd h6 (by exact fun h => h rfl)) (fun h6 => ?_))
  refine ops_nil ?_
  refine c_false rfl ?_
  refine c_skip ?_
  refine tq_n ?_
  refine c_seqR ?_
  refine ops_cons rfl (ow_move rfl ?_)
  refine ops_cons rfl (ow_add rfl rfl (w64 (by omega)) ?_)
  refine ops_cons rfl (ow_assign rfl ?_)
  refine ops_nil ?_
  refine c_seq ?_
  refine c_seqR ?_
  refine ops_cons rfl (ow_move rfl ?_)
  refine ops_cons rfl (ow_move rfl ?_)
  refine ops_cons rfl (ow_indexT hs SlotI.len rfl el26 rfl (seqG_len _ _).symm rfl (seqG_at hk1) rfl ?_)
  refine ops_cons rfl (ow_fieldAddr off89_3 rfl ?_)
  refine ops_cons rfl (ow_fieldAddr off67_3 rfl ?_)
  refine ops_cons rfl (ow_loadTFF hs SlotI.len (seqG_at hk1) ti2 rfl rfl rfl ?_)
  refine ops_cons rfl (ow_move rfl ?_)
  refine ops_cons rfl (ow_neq2 rfl rfl (fun h7 => absurd h7 (by exact fun h => h rfl)) (fun h7 => ?_))
  refine ops_nil ?_
  refine c_false rfl ?_
  refine c_skip ?_
  refine tq_n ?_
  refine c_seqR ?_
  refine ops_cons rfl (ow_move rfl ?_)
  refine ops_cons rfl (ow_add rfl rfl (w64 (by omega)) ?_)
  refine ops_cons rfl (ow_assign rfl ?_)
  refine ops_nil ?_
  refine c_seq ?_
  refine c_seqR ?_
  refine ops_cons rfl (ow_move rfl ?_)
  refine ops_cons rfl (ow_move rfl ?_)
  refine ops_cons rfl (ow_indexT hs SlotI.len rfl el26 rfl (seqG_len _ _).symm rfl (seqG_at hk1) rfl ?_)
  refine ops_cons rfl (ow_fieldAddr off89_3 rfl ?_)
  refine ops_cons rfl (ow_fieldAddr off67_4 rfl ?_)
  refine ops_cons rfl (ow_loadTFF hs SlotI.len (seqG_at hk1) ti4 rfl rfl rfl ?_)
  refine ops_cons rfl (ow_move rfl ?_)
  refine ops_cons rfl (ow_rem rfl rfl (by omega) rfl ?_)
  refine ops_cons rfl (ow_eql rfl rfl ?_)
  refine ops_cons rfl (ow_neqBd2 Tryz.underlying4 rfl rfl (fun h8 => absurd h8 (by exact fun h => h rfl)) (fun h8 => ?_))
  refine ops_nil ?_
  refine c_false rfl ?_
  refine c_skip ?_
  refine tq_n ?_
  refine c_region ?_
  refine ops_cons rfl (ow_move rfl ?_)
  refine ops_cons rfl (ow_add rfl rfl (w64 (by omega)) ?_)
  refine ops_cons rfl (ow_assign rfl ?_)
  refine ops_nil ?_
  refine bq_n ?_
  refine tq_n ?_
  refine c_region ?_
  refine ops_cons rfl (ow_move rfl ?_)
  refine ops_cons rfl (ow_add rfl rfl (w64 (by omega)) ?_)
  refine ops_cons rfl (ow_assign rfl ?_)
  refine ops_nil ?_
  refine tq_n ⟨(k + 1, m + 8 * k + 1 + 1 + 1 + 1 + 1 + 1 + 1 + 1), (.cons rfl (.cons rfl (.cons rfl (.nil _)))), ?_, ?_⟩
  · exact ⟨by omega, by omega, hs, X⟩
  · dsimp only; omega
  refine ops_nil ?_
  refine c_false rfl ?_
  refine c_exit ?_
  refine tq_e ?_
  refine tq_e ?_
  refine bq_e ?_
  refine tq_n ?_
  refine c_seqR ?_
  refine ops_cons rfl (ow_move rfl ?_)
  refine ops_cons rfl (ow_assign rfl ?_)
  refine ops_nil ?_
  refine c_ret ?_
  refine fin_ret1 rfl rfl ?_
  exact ⟨by rw [show k = n by omega], X⟩

theorem markI_c (A : Option Addr) (c lo : Nat) (xs : List Int) (m : Int) (w : World) (oO : Own w lo 2 1 A xs.length c (xs.flatMap eI)) (hl : xs.length ≤ 1048576) (hm : 0 ≤ m ∧ m ≤ 1125899906842624) :
    Calls Tryz.prog 26 #[.slice A xs.length c, .int .i64 m] w (Ret fun v w' => v = .int .i64 (m + xs.length) ∧ Own w' lo 2 1 A xs.length c ((seqI m xs.length).flatMap eI) ∧ w.grownBy w' (Value.slice A xs.length c).ownBlock) := by
  replace oO := oO.to (cs' := (seqI m 0 ++ xs.drop 0).flatMap eI) rfl
  have X := gb_refl w (Value.slice A xs.length c).ownBlock
  refine calls_of (args := [.slice A xs.length c, .int .i64 m]) Tryz.func26 Tryz.ntmps26 rfl rfl ?_
  refine c_seqR ?_
  refine ops_cons rfl (ow_assign rfl ?_)
  refine ops_nil ?_
  refine c_seq ?_
  refine c_seqR ?_
  refine ops_cons rfl (ow_assign rfl ?_)
  refine ops_nil ?_
  refine c_block ?_
  refine c_loop (G := Nat × Int) (fun ⟨k, a⟩ => [(0, .slice A xs.length c), (1, .int .i64 a), (5, .int .i64 (k : Nat))]) (fun ⟨k, a⟩ wr => a = m + k ∧ k ≤ xs.length ∧ Own wr lo 2 1 A xs.length c ((seqI m k ++ xs.drop k).flatMap eI) ∧ w.grownBy wr (Value.slice A xs.length c).ownBlock) (fun ⟨k, a⟩ => xs.length - k) (0, m) (.cons rfl (.cons rfl (.cons rfl (.nil _)))) ?_ ?_
  · exact ⟨by simp, by omega, oO, X⟩
  clear oO
  clear X
  rintro ⟨k, a⟩ wr ⟨ha, hk0, oO, X⟩
  subst ha
  refine c_seq ?_
  refine c_seqR ?_
  refine ops_cons rfl (ow_move rfl ?_)
  refine ops_cons rfl (ow_move rfl ?_)
  refine ops_cons rfl (ow_len Tryz.underlying30 rfl ?_)
  refine ops_cons rfl (ow_lss2 rfl rfl (fun hk => ?_) (fun hk => ?_))
  have hk1 : k < xs.length := by omega
  refine ops_nil ?_
  refine c_true rfl ?_
  refine c_skip ?_
  refine tq_n ?_
  refine c_seq ?_
  refine c_block ?_
  refine c_seqR ?_
  refine ops_cons rfl (ow_move rfl ?_)
  refine ops_cons rfl (ow_move rfl ?_)
  refine ops_cons rfl (ow_move rfl ?_)
  refine ops_cons rfl (ow_indexT (oO).sl eI_len rfl el30 rfl (by simp [seqI_len]; omega) rfl (seqI_at' hk1) rfl ?_)
  refine ops_cons rfl (ow_storeR oO ti2 rfl rfl rfl rfl (by omega) (by omega) rfl ?_)
  intro w2 oN hg1 z3
  replace X : w.grownBy w2 (Value.slice A xs.length c).ownBlock := by first | exact gb_trans X hg1 | exact gb_new X hg1 (fun g hg => (Own.lt oO hg).1)
  clear hg1 z3
  replace oN := oN.to (cs' := (seqI m (k + 1) ++ xs.drop (k + 1)).flatMap eI) (by rw [← seqI_set hk1, ← set_flat eI_len _ _ k (by simp [seqI_len]; omega)]; try rfl)
  refine ops_nil ?_
  refine c_region ?_
  refine ops_cons rfl (ow_move rfl ?_)
  refine ops_cons rfl (ow_add rfl rfl (w64 (by omega)) ?_)
  refine ops_cons rfl (ow_assign rfl ?_)
  refine ops_nil ?_
  refine bq_n ?_
  refine tq_n ?_
  refine c_region ?_
  refine ops_cons rfl (ow_move rfl ?_)
  refine ops_cons rfl (ow_add rfl rfl (w64 (by omega)) ?_)
  refine ops_cons rfl (ow_assign rfl ?_)
  refine ops_nil ?_
  refine tq_n ⟨(k + 1, m + k + 1), (.cons rfl (.cons rfl (.cons rfl (.nil _)))), ?_, ?_⟩
  · exact ⟨by omega, by omega, oN, X⟩
  · dsimp only; omega
  rw [seqI_end hk0 hk] at oO
  refine ops_nil ?_
  refine c_false rfl ?_
  refine c_exit ?_
  refine tq_e ?_
  refine tq_e ?_
  refine bq_e ?_
  refine tq_n ?_
  refine c_seqR ?_
  refine ops_cons rfl (ow_move rfl ?_)
  refine ops_cons rfl (ow_assign rfl ?_)
  refine ops_nil ?_
  refine c_ret ?_
  refine fin_ret1 rfl rfl ?_
  exact ⟨by rw [show k = xs.length by omega], oO, X⟩

theorem heldI_c (A : Option Addr) (B c n : Nat) (m : Int) (w : World) (hs : Sl B w A ((seqI m n).flatMap eI)) (hl : n ≤ 1048576) (hm : 0 ≤ m ∧ m ≤ 1125899906842624) :
    Calls Tryz.prog 63 #[.slice A n c, .int .i64 m] w (Ret fun v w' => v = .int .i64 (m + n) ∧ Ext w w') := by
  have Bhs := hs.1
  have X := Ext.refl w
  refine calls_of (args := [.slice A n c, .int .i64 m]) Tryz.func63 Tryz.ntmps63 rfl rfl ?_
  refine c_seqR ?_
  refine ops_cons rfl (ow_assign rfl ?_)
  refine ops_nil ?_
  refine c_seq ?_
  refine c_seqR ?_
  refine ops_cons rfl (ow_assign rfl ?_)
  refine ops_nil ?_
  refine c_block ?_
  refine c_loop (G := Nat × Int) (fun ⟨k, a⟩ => [(0, .slice A n c), (1, .int .i64 a), (5, .int .i64 (k : Nat))]) (fun ⟨k, a⟩ wr => a = m + k ∧ k ≤ n ∧ Sl B wr A ((seqI m n).flatMap eI) ∧ Ext w wr) (fun ⟨k, a⟩ => n - k) (0, m) (.cons rfl (.cons rfl (.cons rfl (.nil _)))) ?_ ?_
  · exact ⟨by simp, by omega, hs, X⟩
  clear hs
  clear X
  rintro ⟨k, a⟩ wr ⟨ha, hk0, hs, X⟩
  subst ha
  refine c_seq ?_
  refine c_seqR ?_
  refine ops_cons rfl (ow_move rfl ?_)
  refine ops_cons rfl (ow_move rfl ?_)
  refine ops_cons rfl (ow_len Tryz.underlying30 rfl ?_)
  refine ops_cons rfl (ow_lss2 rfl rfl (fun hk => ?_) (fun hk => ?_))
  have hk1 : k < n := by omega
  refine ops_nil ?_
  refine c_true rfl ?_
  refine c_skip ?_
  refine tq_n ?_
  refine c_seq ?_
  refine c_block ?_
  refine c_seq ?_
  refine c_seqR ?_
  refine ops_cons rfl (ow_move rfl ?_)
  refine ops_cons rfl (ow_move rfl ?_)
  refine ops_cons rfl (ow_indexT hs eI_len rfl el30 rfl (seqI_len _ _).symm rfl (seqI_at hk1) rfl ?_)
  refine ops_cons rfl (ow_loadT hs eI_len (seqI_at hk1) ti2 rfl rfl rfl ?_)
  refine ops_cons rfl (ow_move rfl ?_)
  refine ops_cons rfl (ow_neq2 rfl rfl (fun h1 => absurd h1 (by simp)) (fun h1 => ?_))
  refine ops_nil ?_
  refine c_false rfl ?_
  refine c_skip ?_
  refine tq_n ?_
  refine c_region ?_
  refine ops_cons rfl (ow_move rfl ?_)
  refine ops_cons rfl (ow_add rfl rfl (w64 (by omega)) ?_)
  refine ops_cons rfl (ow_assign rfl ?_)
  refine ops_nil ?_
  refine bq_n ?_
  refine tq_n ?_
  refine c_region ?_
  refine ops_cons rfl (ow_move rfl ?_)
  refine ops_cons rfl (ow_add rfl rfl (w64 (by omega)) ?_)
  refine ops_cons rfl (ow_assign rfl ?_)
  refine ops_nil ?_
  refine tq_n ⟨(k + 1, m + k + 1), (.cons rfl (.cons rfl (.cons rfl (.nil _)))), ?_, ?_⟩
  · exact ⟨by omega, by omega, hs, X⟩
  · dsimp only; omega
  refine ops_nil ?_
  refine c_false rfl ?_
  refine c_exit ?_
  refine tq_e ?_
  refine tq_e ?_
  refine bq_e ?_
  refine tq_n ?_
  refine c_seqR ?_
  refine ops_cons rfl (ow_move rfl ?_)
  refine ops_cons rfl (ow_assign rfl ?_)
  refine ops_nil ?_
  refine c_ret ?_
  refine fin_ret1 rfl rfl ?_
  exact ⟨by rw [show k = n by omega], X⟩
end Go.Proofs.YtdoibplhbdkapaaGreatDoor
namespace Go.Proofs.YtdoibplhbdkapaaGreatDoor
open Go.RowKit
set_option linter.unusedVariables false
set_option linter.unusedSimpArgs false
set_option maxRecDepth 20000
end Go.Proofs.YtdoibplhbdkapaaGreatDoor
namespace Go.Proofs.YtdoibplhbdkapaaGreatDoor
open Go.RowKit
set_option linter.unusedVariables false
set_option linter.unusedSimpArgs false
set_option maxRecDepth 20000
theorem app2_at {α : Type} {ps zs : List α} {k : Nat} {y : α} (hp : ps.length = k) : ((ps ++ [y]) ++ zs)[k]? = some y := by
  rw [List.append_assoc, List.getElem?_append_right (by omega), hp]; simp
theorem app2_len {α : Type} {ps ys : List α} {k : Nat} {x y : α} (hp : ps.length = k) (hx : ys[k]? = some x) : ys.length = ((ps ++ [y]) ++ ys.drop (k + 1)).length := by
  obtain ⟨hk, _⟩ := List.getElem?_eq_some_iff.1 hx
  simp [hp]; omega
theorem markModesX_c (A : Option Addr) (c lo hi : Nat) (ys : List ModeI) (m : Int) (w : World) (oO : Own w lo 92 3 A ys.length c (ys.flatMap ModeI.cells)) (oM : NFrom w lo 2 0 ys) (hdj : Disj ys) (hU : ∀ g, (Value.slice A ys.length c).ownBlock = some g → g < hi) (hUN : ∀ y ∈ ys, ∀ g, y.blk = some g → g < hi) (hl : ys.length ≤ 1048576) (hz : ∀ x ∈ ys, x.m.next.length ≤ 1048576) (hm : 0 ≤ m ∧ m ≤ 1099511627776) :
    Calls Tryz.prog 92 #[.slice A ys.length c, .int .i64 m] w (Ret fun v w' => v = .int .i64 (endModes m ys) ∧ (m ≤ endModes m ys ∧ endModes m ys ≤ m + 1099513724928) ∧ Own w' lo 92 3 A ys.length c ((mkModes m ys).flatMap ModeI.cells) ∧ NOwn w' lo 2 (mkModes m ys) ∧ WinK lo hi [92, 2] w w') := by
  replace oO := oO.to (cs' := (mkModes m (ys.take 0) ++ ys.drop 0).flatMap ModeI.cells) rfl
  have hLen : ∀ k, k ≤ ys.length → (mkModes m (ys.take k)).length = k := fun k hk => by rw [mkModes_len]; simp; omega
  have X := WinK.refl lo hi [92, 2] w
  refine calls_of (args := [.slice A ys.length c, .int .i64 m]) Tryz.func92 Tryz.ntmps92 rfl rfl ?_
  refine c_seqR ?_
  refine ops_cons rfl (ow_assign rfl ?_)
  refine ops_nil ?_
  refine c_seq ?_
  refine c_seqR ?_
  refine ops_cons rfl (ow_assign rfl ?_)
  refine ops_nil ?_
  refine c_block ?_
  refine c_loop (G := Nat × Int) (fun ⟨k, a⟩ => [(4, .int .i64 0), (0, .slice A ys.length c), (1, .int .i64 a), (5, .int .i64 (k : Nat))]) (fun ⟨k, a⟩ wr => (a = (endModes m (ys.take k)) ∧ m ≤ a ∧ a ≤ m + 1048578 * k) ∧ k ≤ ys.length ∧ Own wr lo 92 3 A ys.length c ((mkModes m (ys.take k) ++ ys.drop k).flatMap ModeI.cells) ∧ NFrom wr lo 2 k ys ∧ NOwn wr lo 2 (mkModes m (ys.take k)) ∧ WinK lo hi [92, 2] w wr) (fun ⟨k, a⟩ => ys.length - k) (0, m) (.cons rfl (.cons rfl (.cons rfl (.cons rfl (.nil _))))) ?_ ?_
  · exact ⟨⟨rfl, by omega⟩, by omega, oO, oM, NOwn.nil_, X⟩
  clear oO oM
  clear X
  rintro ⟨k, a⟩ wr ⟨ha, hk0, oO, oM, oD, X⟩
  refine c_seq ?_
  refine c_seqR ?_
  refine ops_cons rfl (ow_move rfl ?_)
  refine ops_cons rfl (ow_move rfl ?_)
  refine ops_cons rfl (ow_len Tryz.underlying25 rfl ?_)
  refine ops_cons rfl (ow_lss2 rfl rfl (fun hk => ?_) (fun hk => ?_))
  obtain ⟨x, hx, dx⟩ := drop_at' hk
  have hp := hLen k (by omega)
  have hLx := app_at hp hx
  have hLl := app_len hp (show k ≤ ys.length by omega)
  have ha1 := ha.1
  subst ha1
  have htk : ys.take (k + 1) = ys.take k ++ [x] := by rw [List.take_add_one, hx]; rfl
  refine ops_nil ?_
  refine c_true rfl ?_
  refine c_skip ?_
  refine tq_n ?_
  refine c_seq ?_
  refine c_block ?_
  refine c_seqR ?_
  refine ops_cons rfl (ow_move rfl ?_)
  refine ops_cons rfl (ow_move rfl ?_)
  refine ops_cons rfl (ow_move rfl ?_)
  refine ops_cons rfl (ow_indexT (oO).sl ModeI.len rfl el25 rfl (by omega) rfl hLx rfl ?_)
  refine ops_cons rfl (ow_fieldAddr off92_0 rfl ?_)
  refine ops_cons rfl (ow_storeRF oO ti2 rfl rfl rfl rfl (by omega) (by omega) rfl ?_)
  intro w2 oP hg1 z3
  replace oM := oM.grownO oO hg1 (by decide)
  replace oD := oD.grownO oO hg1 (by decide)
  replace X := X.grownK hg1 oO (by decide) (fun g hg => ⟨(Own.lt oO hg).1, hU g hg⟩)
  clear hg1 z3
  replace oP := oP.to (cs' := ((mkModes m (ys.take k) ++ ys.drop k).set k (⟨⟨(endModes m (ys.take k)), x.m.slots, x.m.next⟩, x.A, x.c⟩ : ModeI)).flatMap ModeI.cells) (by
    have e1 := set_field (x := x) (x' := (⟨⟨(endModes m (ys.take k)), x.m.slots, x.m.next⟩, x.A, x.c⟩ : ModeI)) (vs := [.int .i64 (endModes m (ys.take k))]) ModeI.len (s' := 1) (f := 0) rfl (by omega) (mkModes m (ys.take k) ++ ys.drop k) k hLx
    exact e1)
  refine ops_nil ?_
  refine c_seqR ?_
  refine ops_cons rfl (ow_move rfl ?_)
  refine ops_cons rfl (ow_add rfl rfl (w64 (by omega)) ?_)
  refine ops_cons rfl (ow_assign rfl ?_)
  refine ops_nil ?_
  refine c_seqR ?_
  refine ops_cons rfl (ow_move rfl ?_)
  refine ops_cons rfl (ow_move rfl ?_)
  refine ops_cons rfl (ow_move rfl ?_)
  refine ops_cons rfl (ow_indexT (oP).sl ModeI.len rfl el25 rfl (by simp only [List.length_set]; omega) rfl (set_at (by omega)) rfl ?_)
  refine ops_cons rfl (ow_fieldAddr off92_1 rfl ?_)
  refine ops_cons rfl (ow_storeRF oP ti2 rfl rfl rfl rfl (by omega) (by omega) rfl ?_)
  intro w5 oQ hg4 z6
  replace oM := oM.grownO oP hg4 (by decide)
  replace oD := oD.grownO oP hg4 (by decide)
  replace X := X.grownK hg4 oP (by decide) (fun g hg => ⟨(Own.lt oP hg).1, hU g hg⟩)
  clear hg4 z6
  replace oQ := oQ.to (cs' := ((mkModes m (ys.take k) ++ ys.drop k).set k (⟨⟨(endModes m (ys.take k)), (endModes m (ys.take k)) + 1, x.m.next⟩, x.A, x.c⟩ : ModeI)).flatMap ModeI.cells) (by
    have e1 := set_field (x := (⟨⟨(endModes m (ys.take k)), x.m.slots, x.m.next⟩, x.A, x.c⟩ : ModeI)) (x' := (⟨⟨(endModes m (ys.take k)), (endModes m (ys.take k)) + 1, x.m.next⟩, x.A, x.c⟩ : ModeI)) (vs := [.int .i64 ((endModes m (ys.take k)) + 1)]) ModeI.len (s' := 1) (f := 1) rfl (by omega) ((mkModes m (ys.take k) ++ ys.drop k).set k (⟨⟨(endModes m (ys.take k)), x.m.slots, x.m.next⟩, x.A, x.c⟩ : ModeI)) k (set_at (by omega))
    rw [List.set_set] at e1; exact e1)
  replace oQ := oQ.to (cs' := ((mkModes m (ys.take k) ++ [(⟨⟨(endModes m (ys.take k)), (endModes m (ys.take k)) + 1, x.m.next⟩, x.A, x.c⟩ : ModeI)]) ++ ys.drop (k + 1)).flatMap ModeI.cells) (by rw [← app_set hp hx])
  refine ops_nil ?_
  refine c_seqR ?_
  refine ops_cons rfl (ow_move rfl ?_)
  refine ops_cons rfl (ow_add rfl rfl (w64 (by omega)) ?_)
  refine ops_cons rfl (ow_assign rfl ?_)
  refine ops_nil ?_
  refine c_region ?_
  refine ops_cons rfl (ow_move rfl ?_)
  refine ops_cons rfl (ow_move rfl ?_)
  refine ops_cons rfl (ow_indexT (oQ).sl ModeI.len rfl el25 rfl (app2_len hp hx) rfl (app2_at hp) rfl ?_)
  refine ops_cons rfl (ow_fieldAddr off92_2 rfl ?_)
  refine ops_cons rfl (ow_loadTF (oQ).sl ModeI.len (app2_at hp) ti30 rfl rfl rfl ?_)
  refine ops_cons rfl (ow_move rfl ?_)
  have hz1 := hz x (List.mem_of_getElem? hx)
  have hown := oM k x (Nat.le_refl _) hx
  refine ops_cons rfl (ow_call ent26 rfl (ret_mono (markI_c x.A x.c lo x.m.next ((endModes m (ys.take k)) + 1 + 1) _ hown hz1 (by omega)) ?_))
  rintro _ wN ⟨rfl, oR, xR⟩
  replace oQ := oQ.grown xR (fun g hg e => Own.neO hown oQ (by decide) g e hg)
  replace oM := oM.next hdj hx xR
  replace oD := oD.grownX xR (fun y hy g hg e => by
    obtain ⟨i, z, h1, h2⟩ := mkModes_mem _ _ y hy
    obtain ⟨h3, h4⟩ := take_get h1
    rw [h2] at e
    exact hdj.not h4 hx (by omega) g hg e)
  replace oD : NOwn wN lo 2 (mkModes m (ys.take (k + 1))) := by
    rw [htk, mkModes_snoc]
    refine oD.snoc ?_ ?_
    · have e : (mkMode (endModes m (ys.take k)) x).m.next.length = x.m.next.length := seqI_len _ _
      rw [e]; exact oR
    · have e : (mkMode (endModes m (ys.take k)) x).m.next.length = x.m.next.length := seqI_len _ _
      rw [e]; omega
  replace X := X.grownK xR hown (by decide) (fun g hg => ⟨(Own.lt hown hg).1, hUN x (List.mem_of_getElem? hx) g hg⟩)
  refine ops_cons rfl (ow_assign rfl ?_)
  refine ops_nil ?_
  refine bq_n ?_
  refine tq_n ?_
  refine c_region ?_
  refine ops_cons rfl (ow_move rfl ?_)
  refine ops_cons rfl (ow_add rfl rfl (w64 (by omega)) ?_)
  refine ops_cons rfl (ow_assign rfl ?_)
  refine ops_nil ?_
  refine tq_n ⟨(k + 1, (endModes m (ys.take k)) + 1 + 1 + x.m.next.length), (.cons rfl (.cons rfl (.cons rfl (.cons rfl (.nil _))))), ?_, ?_⟩
  · skip
    replace oQ := oQ.to (cs' := (mkModes m (ys.take (k + 1)) ++ ys.drop (k + 1)).flatMap ModeI.cells) (by rw [htk, mkModes_snoc, List.flatMap_append, List.flatMap_append, List.flatMap_append, List.flatMap_append, List.flatMap_singleton, List.flatMap_singleton, mkMode_cells])
    exact ⟨⟨by rw [htk, endModes_snoc]; rfl, by omega, by omega⟩, by omega, oQ, oM, oD, X⟩
  · first | omega | (dsimp only; omega)
  refine ops_nil ?_
  refine c_false rfl ?_
  refine c_exit ?_
  refine tq_e ?_
  refine tq_e ?_
  refine bq_e ?_
  refine tq_n ?_
  refine c_seqR ?_
  refine ops_cons rfl (ow_move rfl ?_)
  refine ops_cons rfl (ow_assign rfl ?_)
  refine ops_nil ?_
  refine c_ret ?_
  refine fin_ret1 rfl rfl ?_
  · skip
    rw [show k = ys.length by omega, List.take_length, List.drop_length, List.append_nil] at oO
    rw [show k = ys.length by omega, List.take_length] at oD ha
    exact ⟨by rw [ha.1], by omega, oO, oD, X⟩

theorem heldModesX_c (A : Option Addr) (B B2 c n : Nat) (ys : List ModeI) (m : Int) (w : World) (hs : Sl B w A ((mkModes m ys).flatMap ModeI.cells)) (hn : Nexts B2 w (mkModes m ys)) (en : n = ys.length) (hl : ys.length ≤ 1048576) (hz : ∀ x ∈ ys, x.m.next.length ≤ 1048576) (hm : 0 ≤ m ∧ m ≤ 1099511627776) :
    Calls Tryz.prog 95 #[.slice A n c, .int .i64 m] w (Ret fun v w' => v = .int .i64 (endModes m ys) ∧ Ext w w') := by
  have hle : (mkModes m ys).length = ys.length := mkModes_len ys m
  have Bhs := hs.1
  have Bhn := hn.1
  have X := Ext.refl w
  refine calls_of (args := [.slice A n c, .int .i64 m]) Tryz.func95 Tryz.ntmps95 rfl rfl ?_
  refine c_seqR ?_
  refine ops_cons rfl (ow_assign rfl ?_)
  refine ops_nil ?_
  refine c_seq ?_
  refine c_seqR ?_
  refine ops_cons rfl (ow_assign rfl ?_)
  refine ops_nil ?_
  refine c_block ?_
  refine c_loop (G := Nat × Int) (fun ⟨k, a⟩ => [(0, .slice A n c), (1, .int .i64 a), (5, .int .i64 (k : Nat))]) (fun ⟨k, a⟩ wr => k ≤ ys.length ∧ (a = endModes m (ys.take k) ∧ m ≤ a ∧ a ≤ m + 1048578 * k) ∧ Sl B wr A ((mkModes m ys).flatMap ModeI.cells) ∧ Nexts B2 wr (mkModes m ys) ∧ Ext w wr) (fun ⟨k, a⟩ => n - k) (0, m) (.cons rfl (.cons rfl (.cons rfl (.nil _)))) ?_ ?_
  · exact ⟨by omega, ⟨rfl, by omega⟩, hs, hn, X⟩
  clear hs hn
  clear X
  rintro ⟨k, a⟩ wr ⟨hk0, ha, hs, hn, X⟩
  refine c_seq ?_
  refine c_seqR ?_
  refine ops_cons rfl (ow_move rfl ?_)
  refine ops_cons rfl (ow_move rfl ?_)
  refine ops_cons rfl (ow_len Tryz.underlying25 rfl ?_)
  refine ops_cons rfl (ow_lss2 rfl rfl (fun hk => ?_) (fun hk => ?_))
  obtain ⟨x, hx, dx⟩ := drop_at' (xs := ys) (k := k) (by omega)
  have ha1 := ha.1
  subst ha1
  have htk : ys.take (k + 1) = ys.take k ++ [x] := by rw [List.take_add_one, hx]; rfl
  have hy : (mkModes m ys)[k]? = some (mkMode (endModes m (ys.take k)) x) := by
    have e := mkModes_drop ys m k
    rw [dx, mkModes] at e
    have e2 := congrArg (fun l => l[0]?) e
    simpa using e2
  have hz1 := hz x (List.mem_of_getElem? hx)
  have hyl : (mkMode (endModes m (ys.take k)) x).m.next.length = x.m.next.length := seqI_len _ _
  refine ops_nil ?_
  refine c_true rfl ?_
  refine c_skip ?_
  refine tq_n ?_
  refine c_seq ?_
  refine c_block ?_
  refine c_seq ?_
  refine c_seqR ?_
  refine ops_cons rfl (ow_move rfl ?_)
  refine ops_cons rfl (ow_move rfl ?_)
  refine ops_cons rfl (ow_indexT hs ModeI.len rfl el25 rfl (by omega) rfl hy rfl ?_)
  refine ops_cons rfl (ow_fieldAddr off92_0 rfl ?_)
  refine ops_cons rfl (ow_loadTF hs ModeI.len hy ti2 rfl rfl rfl ?_)
  refine ops_cons rfl (ow_move rfl ?_)
  refine ops_cons rfl (ow_neq2 rfl rfl (fun h1 => absurd h1 (by exact fun h => h rfl)) (fun h1 => ?_))
  refine ops_nil ?_
  refine c_false rfl ?_
  refine c_skip ?_
  refine tq_n ?_
  refine c_seqR ?_
  refine ops_cons rfl (ow_move rfl ?_)
  refine ops_cons rfl (ow_add rfl rfl (w64 (by omega)) ?_)
  refine ops_cons rfl (ow_assign rfl ?_)
  refine ops_nil ?_
  refine c_seq ?_
  refine c_seqR ?_
  refine ops_cons rfl (ow_move rfl ?_)
  refine ops_cons rfl (ow_move rfl ?_)
  refine ops_cons rfl (ow_indexT hs ModeI.len rfl el25 rfl (by omega) rfl hy rfl ?_)
  refine ops_cons rfl (ow_fieldAddr off92_1 rfl ?_)
  refine ops_cons rfl (ow_loadTF hs ModeI.len hy ti2 rfl rfl rfl ?_)
  refine ops_cons rfl (ow_move rfl ?_)
  refine ops_cons rfl (ow_neq2 rfl rfl (fun h2 => absurd h2 (by exact fun h => h rfl)) (fun h2 => ?_))
  refine ops_nil ?_
  refine c_false rfl ?_
  refine c_skip ?_
  refine tq_n ?_
  refine c_seqR ?_
  refine ops_cons rfl (ow_move rfl ?_)
  refine ops_cons rfl (ow_add rfl rfl (w64 (by omega)) ?_)
  refine ops_cons rfl (ow_assign rfl ?_)
  refine ops_nil ?_
  refine c_seqR ?_
  refine ops_cons rfl (ow_move rfl ?_)
  refine ops_cons rfl (ow_move rfl ?_)
  refine ops_cons rfl (ow_indexT hs ModeI.len rfl el25 rfl (by omega) rfl hy rfl ?_)
  have hnx := hn.at_ hy
  refine ops_cons rfl (ow_fieldAddr off92_2 rfl ?_)
  refine ops_cons rfl (ow_loadTF hs ModeI.len hy ti30 rfl rfl rfl ?_)
  refine ops_cons rfl (ow_move rfl ?_)
  refine ops_cons rfl (ow_call ent63 rfl (ret_mono (by have h := heldI_c x.A _ x.c x.m.next.length (endModes m (ys.take k) + 1 + 1) _ hnx hz1 (by omega); rw [show x.m.next.length = (mkMode (endModes m (ys.take k)) x).m.next.length from (seqI_len _ _).symm] at h; exact h) ?_))
  rintro _ w4 ⟨rfl, x3⟩
  replace hs := hs.ext x3
  replace hn := hn.ext x3
  replace hnx := hnx.ext x3
  replace X := Ext.trans X x3; clear x3
  refine ops_cons rfl (ow_assign rfl ?_)
  refine ops_nil ?_
  refine c_seqR ?_
  refine ops_cons rfl (ow_move rfl ?_)
  refine ops_cons rfl (ow_lss2 rfl rfl (fun h5 => absurd h5 (by omega)) (fun h5 => ?_))
  refine ops_nil ?_
  refine c_false rfl ?_
  refine c_skip ?_
  refine bq_n ?_
  refine tq_n ?_
  refine c_region ?_
  refine ops_cons rfl (ow_move rfl ?_)
  refine ops_cons rfl (ow_add rfl rfl (w64 (by omega)) ?_)
  refine ops_cons rfl (ow_assign rfl ?_)
  refine ops_nil ?_
  refine tq_n ⟨(k + 1, endModes m (ys.take k) + 1 + 1 + (mkMode (endModes m (ys.take k)) x).m.next.length), (.cons rfl (.cons rfl (.cons rfl (.nil _)))), ?_, ?_⟩
  · exact ⟨by omega, ⟨by rw [htk, endModes_snoc, hyl]; rfl, by omega, by omega⟩, hs, hn, X⟩
  · first | omega | (dsimp only; omega)
  refine ops_nil ?_
  refine c_false rfl ?_
  refine c_exit ?_
  refine tq_e ?_
  refine tq_e ?_
  refine bq_e ?_
  refine tq_n ?_
  refine c_seqR ?_
  refine ops_cons rfl (ow_move rfl ?_)
  refine ops_cons rfl (ow_assign rfl ?_)
  refine ops_nil ?_
  refine c_ret ?_
  refine fin_ret1 rfl rfl ?_
  · skip
    rw [show k = ys.length by omega, List.take_length] at ha
    exact ⟨by rw [ha.1], X⟩
end Go.Proofs.YtdoibplhbdkapaaGreatDoor
