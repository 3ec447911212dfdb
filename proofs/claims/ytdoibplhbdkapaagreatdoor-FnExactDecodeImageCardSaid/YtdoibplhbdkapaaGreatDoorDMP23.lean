/- Texts of the seat that a law needs, put together. No condition. -/
import Derived.Test.YtdoibplhbdkapaaGreatDoorDMP22
import Derived.Test.YtdoibplhbdkapaaGreatDoorDMP3
import Derived.Test.YtdoibplhbdkapaaGreatDoorDMP19
import Derived.Test.YtdoibplhbdkapaaGreatDoorDMP7
namespace Go.Proofs.YtdoibplhbdkapaaGreatDoor
open Go.RowKit
set_option linter.unusedVariables false
set_option linter.unusedSimpArgs false
set_option maxRecDepth 20000
theorem eqMedl0_c (m : MedlI) (B B2 : Nat) (A2 : Option Addr) (c2 : Nat) (A3 : Option Addr) (ms2 : List ModeI) (c3 : Nat) (A4 : Option Addr) (c4 : Nat) (w : World) (hm : Med B w m) (h2 : Med B2 w (⟨m.id, A2, m.ns, c2, A3, ms2, c3, A4, m.ss, c4⟩ : MedlI)) (em : ms2.map (·.m) = m.ms.map (·.m)) (hz : m.small) :
    Calls Tryz.prog 24 #[.agg m.cells.toArray, .agg (⟨m.id, A2, m.ns, c2, A3, ms2, c3, A4, m.ss, c4⟩ : MedlI).cells.toArray] w (Ret fun v w' => v = .bool true ∧ Ext w w') := by
  have hls := hz.ls
  have hlm := hz.lm
  have hln := hz.ln
  have Bhm := hm.1
  have Bh2 := h2.1
  have X := Ext.refl w
  refine calls_of (args := [.agg m.cells.toArray, .agg (⟨m.id, A2, m.ns, c2, A3, ms2, c3, A4, m.ss, c4⟩ : MedlI).cells.toArray]) Tryz.func24 Tryz.ntmps24 rfl rfl ?_
  refine c_seqR ?_
  refine ops_cons rfl (ow_box rfl rfl ?_)
  intro g4 w3 eg4 b1 x2 zg4
  have lg4 : w.heap.size ≤ g4 := Nat.le_trans X.size (Nat.le_of_eq eg4.symm)
  have pg4hm := Nat.le_trans hm.1 (Nat.le_of_eq eg4.symm)
  have pg4h2 := Nat.le_trans h2.1 (Nat.le_of_eq eg4.symm)
  replace hm := hm.ext x2
  replace h2 := h2.ext x2
  replace X := Ext.trans X x2; clear x2
  refine ops_cons rfl (ow_box rfl rfl ?_)
  intro g8 w7 eg8 b5 x6 zg8
  have lg8 : w.heap.size ≤ g8 := Nat.le_trans X.size (Nat.le_of_eq eg8.symm)
  have pg8hm := Nat.le_trans hm.1 (Nat.le_of_eq eg8.symm)
  have pg8h2 := Nat.le_trans h2.1 (Nat.le_of_eq eg8.symm)
  have ng8b1 := Nat.lt_of_lt_of_eq b1.lt eg8.symm
  replace hm := hm.ext x6
  replace h2 := h2.ext x6
  replace b1 := b1.ext x6
  replace X := Ext.trans X x6; clear x6
  refine ops_cons rfl (ow_assign rfl ?_)
  refine ops_nil ?_
  refine c_seq ?_
  refine c_seqR ?_
  refine ops_cons rfl (ow_fieldAddrB off28_0 rfl rfl ?_)
  refine ops_cons rfl (ow_loadB b1 ti2 rfl rfl ?_)
  refine ops_cons rfl (ow_fieldAddrB off28_0 rfl rfl ?_)
  refine ops_cons rfl (ow_loadB b5 ti2 rfl rfl ?_)
  refine ops_cons rfl (ow_neq2 rfl rfl (fun h9 => absurd h9 (by simp)) (fun h9 => ?_))
  refine ops_nil ?_
  refine c_false rfl ?_
  refine c_skip ?_
  refine tq_n ?_
  refine c_seq ?_
  refine c_seqR ?_
  refine ops_cons rfl (ow_fieldAddrB off28_1 rfl rfl ?_)
  refine ops_cons rfl (ow_loadB b1 ti24 rfl rfl ?_)
  refine ops_cons rfl (ow_fieldAddrB off28_1 rfl rfl ?_)
  refine ops_cons rfl (ow_loadB b5 ti24 rfl rfl ?_)
  refine ops_cons rfl (ow_call ent88 rfl (ret_mono (eqNodeS_c _ _ _ _ _ _ m.ns _ hm.sn h2.sn hln) ?_))
  rintro _ w11 ⟨rfl, x10⟩
  replace hm := hm.ext x10
  replace h2 := h2.ext x10
  replace b1 := b1.ext x10
  replace b5 := b5.ext x10
  replace X := Ext.trans X x10; clear x10
  refine ops_cons rfl (ow_not rfl ?_)
  refine ops_nil ?_
  refine c_false rfl ?_
  refine c_skip ?_
  refine tq_n ?_
  refine c_seq ?_
  refine c_seqR ?_
  refine ops_cons rfl (ow_fieldAddrB off28_2 rfl rfl ?_)
  refine ops_cons rfl (ow_loadB b1 ti25 rfl rfl ?_)
  refine ops_cons rfl (ow_fieldAddrB off28_2 rfl rfl ?_)
  refine ops_cons rfl (ow_loadB b5 ti25 rfl rfl ?_)
  refine ops_cons rfl (ow_call ent89 rfl (ret_mono (eqModes_c _ _ _ _ _ _ _ _ m.ms ms2 _ hm.sm hm.sx h2.sm h2.sx em.symm hlm hz.lx) ?_))
  rintro _ w13 ⟨rfl, x12⟩
  replace hm := hm.ext x12
  replace h2 := h2.ext x12
  replace b1 := b1.ext x12
  replace b5 := b5.ext x12
  replace X := Ext.trans X x12; clear x12
  refine ops_cons rfl (ow_not rfl ?_)
  refine ops_nil ?_
  refine c_false rfl ?_
  refine c_skip ?_
  refine tq_n ?_
  refine c_seq ?_
  refine c_seqR ?_
  refine ops_cons rfl (ow_fieldAddrB off28_3 rfl rfl ?_)
  refine ops_cons rfl (ow_loadB b1 ti26 rfl rfl ?_)
  refine ops_cons rfl (ow_fieldAddrB off28_3 rfl rfl ?_)
  refine ops_cons rfl (ow_loadB b5 ti26 rfl rfl ?_)
  refine ops_cons rfl (ow_call ent90 rfl (ret_mono (eqSlotIS_c _ _ _ _ _ _ m.ss _ hm.ss h2.ss hls) ?_))
  rintro _ w15 ⟨rfl, x14⟩
  replace hm := hm.ext x14
  replace h2 := h2.ext x14
  replace b1 := b1.ext x14
  replace b5 := b5.ext x14
  replace X := Ext.trans X x14; clear x14
  refine ops_cons rfl (ow_not rfl ?_)
  refine ops_nil ?_
  refine c_false rfl ?_
  refine c_skip ?_
  refine tq_n ?_
  refine c_seqR ?_
  refine ops_cons rfl (ow_assign rfl ?_)
  refine ops_nil ?_
  refine c_ret ?_
  refine fin_ret1 rfl rfl ?_
  exact ⟨by rfl, X⟩

theorem eqMedl_c (m m2 : MedlI) (B B2 : Nat) (w : World) (hm : Med B w m) (h2 : Med B2 w m2) (e : m2.d = m.d) (hz : m.small) :
    Calls Tryz.prog 24 #[.agg m.cells.toArray, .agg m2.cells.toArray] w (Ret fun v w' => v = .bool true ∧ Ext w w') := by
  obtain ⟨id2, An2, ns2, cn2, Am2, ms2, cm2, As2, ss2, cs2⟩ := m2
  simp only [MedlI.d, MedlD.mk.injEq] at e
  obtain ⟨rfl, rfl, e3, rfl⟩ := e
  exact eqMedl0_c m B B2 An2 cn2 Am2 ms2 cm2 As2 cs2 w hm h2 e3 hz

end Go.Proofs.YtdoibplhbdkapaaGreatDoor
namespace Go.Proofs.YtdoibplhbdkapaaGreatDoor
open Go.RowKit
set_option linter.unusedVariables false
set_option linter.unusedSimpArgs false
set_option maxRecDepth 20000
theorem markText_c (k0 : Int) (w : World) (hk : k0 ≤ 1152921504606846976) :
    Calls Tryz.prog 176 #[.int .i64 k0] w (Ret fun v w' => v = .string (markT k0) ∧ Ext w w') := by
  have X := Ext.refl w
  refine calls_of (args := [.int .i64 k0]) Tryz.func176 Tryz.ntmps176 rfl rfl ?_
  refine c_seqR ?_
  refine ops_cons rfl (ow_assign rfl ?_)
  refine ops_nil ?_
  refine c_seq ?_
  refine c_seqR ?_
  refine ops_cons rfl (ow_move rfl ?_)
  refine ops_cons rfl (ow_leq2 rfl rfl (fun h0 => ?_) (fun h0 => ?_))
  refine ops_nil ?_
  refine c_true rfl ?_
  refine c_seqR ?_
  refine ops_cons rfl (ow_assign rfl ?_)
  refine ops_nil ?_
  refine c_ret ?_
  refine tq_r ?_
  refine fin_ret1 rfl rfl ?_
  · skip
    first
    | (rw [markT, if_pos (by omega)]; exact ⟨rfl, X⟩)
    | (rw [markT, if_neg (by omega), Int.toNat_natCast, hi]
       have e : digF f n out = out := by
         obtain rfl : n = 0 := by omega
         cases f <;> simp [digF]
       rw [e]; exact ⟨rfl, X⟩)
  obtain ⟨n0, rfl⟩ : ∃ n0 : Nat, k0 = (n0 : Int) := ⟨k0.toNat, by omega⟩
  refine ops_nil ?_
  refine c_false rfl ?_
  refine c_skip ?_
  refine tq_n ?_
  refine c_seqR ?_
  refine ops_cons rfl (ow_assign rfl ?_)
  refine ops_nil ?_
  refine c_seq ?_
  refine c_block ?_
  refine c_loop (G := Nat × Nat × ByteArray) (fun ⟨f, n, out⟩ => [(0, .int .i64 (n : Nat)), (3, .string out)]) (fun ⟨f, n, out⟩ wr => n ≤ f ∧ out.size + f ≤ 1152921504606846976 ∧ digF n0 n0 ⟨#[]⟩ = digF f n out ∧ Ext w wr) (fun ⟨f, n, out⟩ => f) (n0, n0, ⟨#[]⟩) (.cons rfl (.cons rfl (.nil _))) ?_ ?_
  · exact ⟨(Nat.le_refl _), (by show 0 + n0 ≤ _; omega), rfl, X⟩
  clear X
  rintro ⟨f, n, out⟩ wr ⟨hf, hz, hi, X⟩
  refine c_seq ?_
  refine c_seqR ?_
  refine ops_cons rfl (ow_move rfl ?_)
  refine ops_cons rfl (ow_gtr2 rfl rfl (fun h1 => ?_) (fun h1 => ?_))
  refine ops_nil ?_
  refine c_true rfl ?_
  refine c_skip ?_
  refine tq_n ?_
  refine c_block ?_
  refine c_seqR ?_
  refine ops_cons rfl (ow_move rfl ?_)
  refine ops_cons rfl (ow_rem rfl rfl (by omega) (m64 (by omega)) ?_)
  refine ops_cons rfl (ow_add rfl rfl (w64 (by omega)) ?_)
  refine ops_cons rfl (ow_conv Tryz.underlying3 Tryz.underlying5 rfl (wu8 (by omega)) ?_)
  refine ops_cons rfl (ow_buildSlice el22 ti5 rfl rfl rfl rfl rfl ?_)
  intro g1 w3 eg1 oB bbg1 x2 zg1
  replace oB := Own.low oB X.size
  replace X := Ext.trans X x2; clear x2
  replace oB := oB.to (cs' := ([UInt8.ofNat (48 + n % 10)] : List UInt8).flatMap eB) (by rw [← u8dig]; rfl)
  refine ops_cons rfl (ow_convBS Tryz.underlying22 Tryz.underlying5 Tryz.underlying9 (oB).sl rfl rfl ?_)
  refine ops_cons rfl (ow_move rfl ?_)
  refine ops_cons rfl (ow_addS rfl rfl (by rw [show (strOf [UInt8.ofNat (48 + n % 10)]).size = 1 from rfl]; omega) ?_)
  refine ops_cons rfl (ow_assign rfl ?_)
  refine ops_nil ?_
  refine c_region ?_
  refine ops_cons rfl (ow_move rfl ?_)
  refine ops_cons rfl (ow_quo rfl rfl (by omega) (q64 (by omega)) ?_)
  refine ops_cons rfl (ow_assign rfl ?_)
  refine ops_nil ?_
  refine bq_n ?_
  refine tq_n ⟨(f - 1, n / 10, strOf [UInt8.ofNat (48 + n % 10)] ++ out), (.cons rfl (.cons rfl (.nil _))), ?_, ?_⟩
  · skip
    exact ⟨(by omega), (by rw [dig_size]; omega), (by
      obtain ⟨f', rfl⟩ : ∃ f', f = f' + 1 := ⟨f - 1, by omega⟩
      rw [hi, digF, if_neg (by omega)]; rfl), X⟩
  · first | omega | (dsimp only; omega)
  refine ops_nil ?_
  refine c_false rfl ?_
  refine c_exit ?_
  refine tq_e ?_
  refine tq_e ?_
  refine bq_e ?_
  refine tq_n ?_
  refine c_seqR ?_
  refine ops_cons rfl (ow_move rfl ?_)
  refine ops_cons rfl (ow_addS rfl rfl (by show 1 + out.size ≤ _; omega) ?_)
  refine ops_cons rfl (ow_assign rfl ?_)
  refine ops_nil ?_
  refine c_ret ?_
  refine fin_ret1 rfl rfl ?_
  · skip
    first
    | (rw [markT, if_pos (by omega)]; exact ⟨rfl, X⟩)
    | (rw [markT, if_neg (by omega), Int.toNat_natCast, hi]
       have e : digF f n out = out := by
         obtain rfl : n = 0 := by omega
         cases f <;> simp [digF]
       rw [e]; exact ⟨rfl, X⟩)

def mkNodeI (a : Int) : NodeI := (⟨a, markT (a + 1), a + 1 + 1, (decide (Int.tmod (a + 1 + 1 + 1) 3 = 0))⟩ : NodeI)


theorem markNodeI_c (A : Option Addr) (c lo : Nat) (xs : List NodeI) (m : Int) (w : World) (oO : Own w lo 59 4 A xs.length c (xs.flatMap NodeI.cells)) (hl : xs.length ≤ 1048576) (hm : 0 ≤ m ∧ m ≤ 1125899906842624) :
    Calls Tryz.prog 91 #[.slice A xs.length c, .int .i64 m] w (Ret fun v w' => v = .int .i64 (m + 4 * xs.length) ∧ Own w' lo 59 4 A xs.length c ((seqG (fun i => mkNodeI (m + 4 * (i : Nat))) xs.length).flatMap NodeI.cells) ∧ w.grownBy w' (Value.slice A xs.length c).ownBlock) := by
  replace oO := oO.to (cs' := ((seqG (fun i => mkNodeI (m + 4 * (i : Nat))) 0 ++ xs.drop 0)).flatMap NodeI.cells) rfl
  have X := gb_refl w (Value.slice A xs.length c).ownBlock
  refine calls_of (args := [.slice A xs.length c, .int .i64 m]) Tryz.func91 Tryz.ntmps91 rfl rfl ?_
  refine c_seqR ?_
  refine ops_cons rfl (ow_assign rfl ?_)
  refine ops_nil ?_
  refine c_seq ?_
  refine c_seqR ?_
  refine ops_cons rfl (ow_assign rfl ?_)
  refine ops_nil ?_
  refine c_block ?_
  refine c_loop (G := Nat × Int) (fun ⟨k, a⟩ => [(0, .slice A xs.length c), (1, .int .i64 a), (5, .int .i64 (k : Nat))]) (fun ⟨k, a⟩ wr => a = m + 4 * k ∧ k ≤ xs.length ∧ Own wr lo 59 4 A xs.length c ((seqG (fun i => mkNodeI (m + 4 * (i : Nat))) k ++ xs.drop k).flatMap NodeI.cells) ∧ w.grownBy wr (Value.slice A xs.length c).ownBlock) (fun ⟨k, a⟩ => xs.length - k) (0, m) (.cons rfl (.cons rfl (.cons rfl (.nil _)))) ?_ ?_
  · exact ⟨by simp, by omega, oO, X⟩
  clear oO
  clear X
  rintro ⟨k, a⟩ wr ⟨ha, hk0, oO, X⟩
  subst ha
  refine c_seq ?_
  refine c_seqR ?_
  refine ops_cons rfl (ow_move rfl ?_)
  refine ops_cons rfl (ow_move rfl ?_)
  refine ops_cons rfl (ow_len Tryz.underlying24 rfl ?_)
  refine ops_cons rfl (ow_lss2 rfl rfl (fun hk => ?_) (fun hk => ?_))
  have hk1 : k < xs.length := by omega
  obtain ⟨x, hx, dx⟩ := drop_at' hk
  have hL := seqG_at' (g := fun i => mkNodeI (m + 4 * (i : Nat))) hx
  have hn := seqG_all (g := fun i => mkNodeI (m + 4 * (i : Nat))) hk0
  refine ops_nil ?_
  refine c_true rfl ?_
  refine c_skip ?_
  refine tq_n ?_
  refine c_seq ?_
  refine c_block ?_
  refine c_seqR ?_
  refine ops_cons rfl (ow_move rfl ?_)
  refine ops_cons rfl (ow_move rfl ?_)
  refine ops_cons rfl (ow_move rfl ?_)
  refine ops_cons rfl (ow_indexT (oO).sl NodeI.len rfl el24 rfl (by omega) rfl hL rfl ?_)
  refine ops_cons rfl (ow_fieldAddr off59_0 rfl ?_)
  refine ops_cons rfl (ow_storeRF oO ti2 rfl rfl rfl rfl (by omega) (by omega) rfl ?_)
  intro w2 oO hg1 z3
  replace X : w.grownBy w2 (Value.slice A xs.length c).ownBlock := by first | exact gb_trans X hg1 | exact gb_new X hg1 (fun g hg => (Own.lt oO hg).1)
  clear hg1 z3
  replace oO := oO.to (cs' := ((seqG (fun i => mkNodeI (m + 4 * (i : Nat))) k ++ xs.drop k).set k (⟨m + 4 * k, x.name, x.drift, x.passive⟩ : NodeI)).flatMap NodeI.cells) (by
    have e1 := set_field (x := x) (x' := (⟨m + 4 * k, x.name, x.drift, x.passive⟩ : NodeI)) (vs := [.int .i64 (m + 4 * k)]) NodeI.len (s' := 1) (f := 0) rfl (by omega) (seqG (fun i => mkNodeI (m + 4 * (i : Nat))) k ++ xs.drop k) k (hL)
    exact e1)
  refine ops_nil ?_
  refine c_seqR ?_
  refine ops_cons rfl (ow_move rfl ?_)
  refine ops_cons rfl (ow_add rfl rfl (w64 (by omega)) ?_)
  refine ops_cons rfl (ow_assign rfl ?_)
  refine ops_nil ?_
  refine c_seqR ?_
  refine ops_cons rfl (ow_move rfl ?_)
  refine ops_cons rfl (ow_move rfl ?_)
  refine ops_cons rfl (ow_move rfl ?_)
  refine ops_cons rfl (ow_call ent176 rfl (ret_mono (markText_c _ _ (by omega)) ?_))
  rintro _ w5 ⟨rfl, x4⟩
  replace oO := oO.ext x4
  replace X := gb_ext X x4; clear x4
  refine ops_cons rfl (ow_indexT (oO).sl NodeI.len rfl el24 rfl (by simp only [List.length_set]; omega) rfl (set_at (by omega)) rfl ?_)
  refine ops_cons rfl (ow_fieldAddr off59_1 rfl ?_)
  refine ops_cons rfl (ow_storeRF oO ti9 rfl rfl rfl rfl (by omega) (by omega) rfl ?_)
  intro w7 oO hg6 z8
  replace X : w.grownBy w7 (Value.slice A xs.length c).ownBlock := by first | exact gb_trans X hg6 | exact gb_new X hg6 (fun g hg => (Own.lt oO hg).1)
  clear hg6 z8
  replace oO := oO.to (cs' := ((seqG (fun i => mkNodeI (m + 4 * (i : Nat))) k ++ xs.drop k).set k (⟨m + 4 * k, markT (m + 4 * k + 1), x.drift, x.passive⟩ : NodeI)).flatMap NodeI.cells) (by
    have e1 := set_field (x := (⟨m + 4 * k, x.name, x.drift, x.passive⟩ : NodeI)) (x' := (⟨m + 4 * k, markT (m + 4 * k + 1), x.drift, x.passive⟩ : NodeI)) (vs := [.string (markT (m + 4 * k + 1))]) NodeI.len (s' := 1) (f := 1) rfl (by omega) ((seqG (fun i => mkNodeI (m + 4 * (i : Nat))) k ++ xs.drop k).set k (⟨m + 4 * k, x.name, x.drift, x.passive⟩ : NodeI)) k (set_at (x := (⟨m + 4 * k, x.name, x.drift, x.passive⟩ : NodeI)) (l := (seqG (fun i => mkNodeI (m + 4 * (i : Nat))) k ++ xs.drop k)) (by omega))
    rw [List.set_set] at e1; exact e1)
  refine ops_nil ?_
  refine c_seqR ?_
  refine ops_cons rfl (ow_move rfl ?_)
  refine ops_cons rfl (ow_add rfl rfl (w64 (by omega)) ?_)
  refine ops_cons rfl (ow_assign rfl ?_)
  refine ops_nil ?_
  refine c_seqR ?_
  refine ops_cons rfl (ow_move rfl ?_)
  refine ops_cons rfl (ow_move rfl ?_)
  refine ops_cons rfl (ow_move rfl ?_)
  refine ops_cons rfl (ow_indexT (oO).sl NodeI.len rfl el24 rfl (by simp only [List.length_set]; omega) rfl (set_at (by omega)) rfl ?_)
  refine ops_cons rfl (ow_fieldAddr off59_2 rfl ?_)
  refine ops_cons rfl (ow_storeRF oO ti2 rfl rfl rfl rfl (by omega) (by omega) rfl ?_)
  intro w10 oO hg9 z11
  replace X : w.grownBy w10 (Value.slice A xs.length c).ownBlock := by first | exact gb_trans X hg9 | exact gb_new X hg9 (fun g hg => (Own.lt oO hg).1)
  clear hg9 z11
  replace oO := oO.to (cs' := ((seqG (fun i => mkNodeI (m + 4 * (i : Nat))) k ++ xs.drop k).set k (⟨m + 4 * k, markT (m + 4 * k + 1), m + 4 * k + 1 + 1, x.passive⟩ : NodeI)).flatMap NodeI.cells) (by
    have e1 := set_field (x := (⟨m + 4 * k, markT (m + 4 * k + 1), x.drift, x.passive⟩ : NodeI)) (x' := (⟨m + 4 * k, markT (m + 4 * k + 1), m + 4 * k + 1 + 1, x.passive⟩ : NodeI)) (vs := [.int .i64 (m + 4 * k + 1 + 1)]) NodeI.len (s' := 1) (f := 2) rfl (by omega) ((seqG (fun i => mkNodeI (m + 4 * (i : Nat))) k ++ xs.drop k).set k (⟨m + 4 * k, markT (m + 4 * k + 1), x.drift, x.passive⟩ : NodeI)) k (set_at (x := (⟨m + 4 * k, markT (m + 4 * k + 1), x.drift, x.passive⟩ : NodeI)) (l := (seqG (fun i => mkNodeI (m + 4 * (i : Nat))) k ++ xs.drop k)) (by omega))
    rw [List.set_set] at e1; exact e1)
  refine ops_nil ?_
  refine c_seqR ?_
  refine ops_cons rfl (ow_move rfl ?_)
  refine ops_cons rfl (ow_add rfl rfl (w64 (by omega)) ?_)
  refine ops_cons rfl (ow_assign rfl ?_)
  refine ops_nil ?_
  refine c_seqR ?_
  refine ops_cons rfl (ow_move rfl ?_)
  refine ops_cons rfl (ow_move rfl ?_)
  refine ops_cons rfl (ow_move rfl ?_)
  refine ops_cons rfl (ow_rem rfl rfl (by omega) rfl ?_)
  refine ops_cons rfl (ow_eql rfl rfl ?_)
  refine ops_cons rfl (ow_indexT (oO).sl NodeI.len rfl el24 rfl (by simp only [List.length_set]; omega) rfl (set_at (by omega)) rfl ?_)
  refine ops_cons rfl (ow_fieldAddr off59_3 rfl ?_)
  refine ops_cons rfl (ow_storeRF oO ti4 rfl rfl rfl rfl (by omega) (by omega) rfl ?_)
  intro w13 oO hg12 z14
  replace X : w.grownBy w13 (Value.slice A xs.length c).ownBlock := by first | exact gb_trans X hg12 | exact gb_new X hg12 (fun g hg => (Own.lt oO hg).1)
  clear hg12 z14
  replace oO := oO.to (cs' := ((seqG (fun i => mkNodeI (m + 4 * (i : Nat))) k ++ xs.drop k).set k (⟨m + 4 * k, markT (m + 4 * k + 1), m + 4 * k + 1 + 1, (decide (Int.tmod (m + 4 * k + 1 + 1 + 1) 3 = 0))⟩ : NodeI)).flatMap NodeI.cells) (by
    have e1 := set_field (x := (⟨m + 4 * k, markT (m + 4 * k + 1), m + 4 * k + 1 + 1, x.passive⟩ : NodeI)) (x' := (⟨m + 4 * k, markT (m + 4 * k + 1), m + 4 * k + 1 + 1, (decide (Int.tmod (m + 4 * k + 1 + 1 + 1) 3 = 0))⟩ : NodeI)) (vs := [.bool (decide (Int.tmod (m + 4 * k + 1 + 1 + 1) 3 = 0))]) NodeI.len (s' := 1) (f := 3) rfl (by omega) ((seqG (fun i => mkNodeI (m + 4 * (i : Nat))) k ++ xs.drop k).set k (⟨m + 4 * k, markT (m + 4 * k + 1), m + 4 * k + 1 + 1, x.passive⟩ : NodeI)) k (set_at (x := (⟨m + 4 * k, markT (m + 4 * k + 1), m + 4 * k + 1 + 1, x.passive⟩ : NodeI)) (l := (seqG (fun i => mkNodeI (m + 4 * (i : Nat))) k ++ xs.drop k)) (by omega))
    rw [List.set_set] at e1; exact e1)
  replace oO := oO.to (cs' := ((seqG (fun i => mkNodeI (m + 4 * (i : Nat))) (k + 1)) ++ xs.drop (k + 1)).flatMap NodeI.cells) (by rw [← seqG_set hk1]; rfl)
  refine ops_nil ?_
  refine c_region ?_
  refine ops_cons rfl (ow_move rfl ?_)
  refine ops_cons rfl (ow_add rfl rfl (w64 (by omega)) ?_)
  refine ops_cons rfl (ow_assign rfl ?_)
  refine ops_nil ?_
  refine bq_n ?_
  refine tq_n ?_
  refine c_region ?_
  refine ops_cons rfl (ow_move rfl ?_)
  refine ops_cons rfl (ow_add rfl rfl (w64 (by omega)) ?_)
  refine ops_cons rfl (ow_assign rfl ?_)
  refine ops_nil ?_
  refine tq_n ⟨(k + 1, m + 4 * k + 1 + 1 + 1 + 1), (.cons rfl (.cons rfl (.cons rfl (.nil _)))), ?_, ?_⟩
  · exact ⟨by omega, by omega, oO, X⟩
  · dsimp only; omega
  rw [seqG_end hk0 hk] at oO
  refine ops_nil ?_
  refine c_false rfl ?_
  refine c_exit ?_
  refine tq_e ?_
  refine tq_e ?_
  refine bq_e ?_
  refine tq_n ?_
  refine c_seqR ?_
  refine ops_cons rfl (ow_move rfl ?_)
  refine ops_cons rfl (ow_assign rfl ?_)
  refine ops_nil ?_
  refine c_ret ?_
  refine fin_ret1 rfl rfl ?_
  exact ⟨by rw [show k = xs.length by omega], oO, X⟩

theorem heldNodeI_c (A : Option Addr) (B c n : Nat) (m : Int) (w : World) (hs : Sl B w A ((seqG (fun i => mkNodeI (m + 4 * (i : Nat))) n).flatMap NodeI.cells)) (hl : n ≤ 1048576) (hm : 0 ≤ m ∧ m ≤ 1125899906842624) :
    Calls Tryz.prog 94 #[.slice A n c, .int .i64 m] w (Ret fun v w' => v = .int .i64 (m + 4 * n) ∧ Ext w w') := by
  have Bhs := hs.1
  have X := Ext.refl w
  refine calls_of (args := [.slice A n c, .int .i64 m]) Tryz.func94 Tryz.ntmps94 rfl rfl ?_
  refine c_seqR ?_
  refine ops_cons rfl (ow_assign rfl ?_)
  refine ops_nil ?_
  refine c_seq ?_
  refine c_seqR ?_
  refine ops_cons rfl (ow_assign rfl ?_)
  refine ops_nil ?_
  refine c_block ?_
  refine c_loop (G := Nat × Int) (fun ⟨k, a⟩ => [(0, .slice A n c), (1, .int .i64 a), (5, .int .i64 (k : Nat))]) (fun ⟨k, a⟩ wr => a = m + 4 * k ∧ k ≤ n ∧ Sl B wr A ((seqG (fun i => mkNodeI (m + 4 * (i : Nat))) n).flatMap NodeI.cells) ∧ Ext w wr) (fun ⟨k, a⟩ => n - k) (0, m) (.cons rfl (.cons rfl (.cons rfl (.nil _)))) ?_ ?_
  · exact ⟨by simp, by omega, hs, X⟩
  clear hs
  clear X
  rintro ⟨k, a⟩ wr ⟨ha, hk0, hs, X⟩
  subst ha
  refine c_seq ?_
  refine c_seqR ?_
  refine ops_cons rfl (ow_move rfl ?_)
  refine ops_cons rfl (ow_move rfl ?_)
  refine ops_cons rfl (ow_len Tryz.underlying24 rfl ?_)
  refine ops_cons rfl (ow_lss2 rfl rfl (fun hk => ?_) (fun hk => ?_))
  have hk1 : k < n := by omega
  refine ops_nil ?_
  refine c_true rfl ?_
  refine c_skip ?_
  refine tq_n ?_
  refine c_seq ?_
  refine c_block ?_
  refine c_seq ?_
  refine c_seqR ?_
  refine ops_cons rfl (ow_move rfl ?_)
  refine ops_cons rfl (ow_move rfl ?_)
  refine ops_cons rfl (ow_indexT hs NodeI.len rfl el24 rfl (seqG_len _ _).symm rfl (seqG_at hk1) rfl ?_)
  refine ops_cons rfl (ow_fieldAddr off59_0 rfl ?_)
  refine ops_cons rfl (ow_loadTF hs NodeI.len (seqG_at hk1) ti2 rfl rfl rfl ?_)
  refine ops_cons rfl (ow_move rfl ?_)
  refine ops_cons rfl (ow_neq2 rfl rfl (fun h1 => absurd h1 (by exact fun h => h rfl)) (fun h1 => ?_))
  refine ops_nil ?_
  refine c_false rfl ?_
  refine c_skip ?_
  refine tq_n ?_
  refine c_seqR ?_
  refine ops_cons rfl (ow_move rfl ?_)
  refine ops_cons rfl (ow_add rfl rfl (w64 (by omega)) ?_)
  refine ops_cons rfl (ow_assign rfl ?_)
  refine ops_nil ?_
  refine c_seq ?_
  refine c_seqD [false, false, false, false, false, false, false, false] mixed (by kernel_rfl) ?_
  refine f_q rfl (fun wq sq => ow_move rfl ⟨rfl, Ext.refl _⟩) ?_
  refine f_q rfl (fun wq sq => ow_move rfl ⟨rfl, Ext.refl _⟩) ?_
  refine f_q rfl (fun wq sq => ow_indexT (hs.ext sq) NodeI.len rfl el24 rfl (seqG_len _ _).symm rfl (seqG_at hk1) rfl ⟨rfl, Ext.refl _⟩) ?_
  refine f_q rfl (fun wq sq => ow_fieldAddr off59_1 rfl ⟨rfl, Ext.refl _⟩) ?_
  refine f_q rfl (fun wq sq => ow_loadTF (hs.ext sq) NodeI.len (seqG_at hk1) ti9 rfl rfl rfl ⟨rfl, Ext.refl _⟩) ?_
  refine f_q rfl (fun wq sq => ow_move rfl ⟨rfl, Ext.refl _⟩) ?_
  refine f_q rfl (fun wq sq => ow_call ent176 rfl (markText_c _ _ (by omega))) ?_
  refine f_qb rfl (fun wq sq => ow_neqS rfl rfl ⟨rfl, Ext.refl _⟩) (fun h2 => absurd h2 (by exact fun h => h rfl)) (fun h2 => ?_)
  refine f_nil (fun w3 sq => ?_)
  have xq := sq
  replace hs := hs.ext xq
  replace X := Ext.trans X xq; clear xq sq
  refine ops_nil ?_
  refine c_false rfl ?_
  refine c_skip ?_
  refine tq_n ?_
  refine c_seqR ?_
  refine ops_cons rfl (ow_move rfl ?_)
  refine ops_cons rfl (ow_add rfl rfl (w64 (by omega)) ?_)
  refine ops_cons rfl (ow_assign rfl ?_)
  refine ops_nil ?_
  refine c_seq ?_
  refine c_seqR ?_
  refine ops_cons rfl (ow_move rfl ?_)
  refine ops_cons rfl (ow_move rfl ?_)
  refine ops_cons rfl (ow_indexT hs NodeI.len rfl el24 rfl (seqG_len _ _).symm rfl (seqG_at hk1) rfl ?_)
  refine ops_cons rfl (ow_fieldAddr off59_2 rfl ?_)
  refine ops_cons rfl (ow_loadTF hs NodeI.len (seqG_at hk1) ti2 rfl rfl rfl ?_)
  refine ops_cons rfl (ow_move rfl ?_)
  refine ops_cons rfl (ow_neq2 rfl rfl (fun h4 => absurd h4 (by exact fun h => h rfl)) (fun h4 => ?_))
  refine ops_nil ?_
  refine c_false rfl ?_
  refine c_skip ?_
  refine tq_n ?_
  refine c_seqR ?_
  refine ops_cons rfl (ow_move rfl ?_)
  refine ops_cons rfl (ow_add rfl rfl (w64 (by omega)) ?_)
  refine ops_cons rfl (ow_assign rfl ?_)
  refine ops_nil ?_
  refine c_seq ?_
  refine c_seqR ?_
  refine ops_cons rfl (ow_move rfl ?_)
  refine ops_cons rfl (ow_move rfl ?_)
  refine ops_cons rfl (ow_indexT hs NodeI.len rfl el24 rfl (seqG_len _ _).symm rfl (seqG_at hk1) rfl ?_)
  refine ops_cons rfl (ow_fieldAddr off59_3 rfl ?_)
  refine ops_cons rfl (ow_loadTF hs NodeI.len (seqG_at hk1) ti4 rfl rfl rfl ?_)
  refine ops_cons rfl (ow_move rfl ?_)
  refine ops_cons rfl (ow_rem rfl rfl (by omega) rfl ?_)
  refine ops_cons rfl (ow_eql rfl rfl ?_)
  refine ops_cons rfl (ow_neqBd2 Tryz.underlying4 rfl rfl (fun h5 => absurd h5 (by exact fun h => h rfl)) (fun h5 => ?_))
  refine ops_nil ?_
  refine c_false rfl ?_
  refine c_skip ?_
  refine tq_n ?_
  refine c_region ?_
  refine ops_cons rfl (ow_move rfl ?_)
  refine ops_cons rfl (ow_add rfl rfl (w64 (by omega)) ?_)
  refine ops_cons rfl (ow_assign rfl ?_)
  refine ops_nil ?_
  refine bq_n ?_
  refine tq_n ?_
  refine c_region ?_
  refine ops_cons rfl (ow_move rfl ?_)
  refine ops_cons rfl (ow_add rfl rfl (w64 (by omega)) ?_)
  refine ops_cons rfl (ow_assign rfl ?_)
  refine ops_nil ?_
  refine tq_n ⟨(k + 1, m + 4 * k + 1 + 1 + 1 + 1), (.cons rfl (.cons rfl (.cons rfl (.nil _)))), ?_, ?_⟩
  · exact ⟨by omega, by omega, hs, X⟩
  · dsimp only; omega
  refine ops_nil ?_
  refine c_false rfl ?_
  refine c_exit ?_
  refine tq_e ?_
  refine tq_e ?_
  refine bq_e ?_
  refine tq_n ?_
  refine c_seqR ?_
  refine ops_cons rfl (ow_move rfl ?_)
  refine ops_cons rfl (ow_assign rfl ?_)
  refine ops_nil ?_
  refine c_ret ?_
  refine fin_ret1 rfl rfl ?_
  exact ⟨by rw [show k = n by omega], X⟩

def mkSlotI (a : Int) : SlotI := (⟨a, a + 1, a + 1 + 1, ⟨a + 1 + 1 + 1, a + 1 + 1 + 1 + 1, a + 1 + 1 + 1 + 1 + 1, a + 1 + 1 + 1 + 1 + 1 + 1, (decide (Int.tmod (a + 1 + 1 + 1 + 1 + 1 + 1 + 1) 3 = 0))⟩⟩ : SlotI)


theorem markSlotI_c (A : Option Addr) (c lo : Nat) (xs : List SlotI) (m : Int) (w : World) (oO : Own w lo 89 8 A xs.length c (xs.flatMap SlotI.cells)) (hl : xs.length ≤ 1048576) (hm : 0 ≤ m ∧ m ≤ 1125899906842624) :
    Calls Tryz.prog 93 #[.slice A xs.length c, .int .i64 m] w (Ret fun v w' => v = .int .i64 (m + 8 * xs.length) ∧ Own w' lo 89 8 A xs.length c ((seqG (fun i => mkSlotI (m + 8 * (i : Nat))) xs.length).flatMap SlotI.cells) ∧ w.grownBy w' (Value.slice A xs.length c).ownBlock) := by
  replace oO := oO.to (cs' := ((seqG (fun i => mkSlotI (m + 8 * (i : Nat))) 0 ++ xs.drop 0)).flatMap SlotI.cells) rfl
  have X := gb_refl w (Value.slice A xs.length c).ownBlock
  refine calls_of (args := [.slice A xs.length c, .int .i64 m]) Tryz.func93 Tryz.ntmps93 rfl rfl ?_
  refine c_seqR ?_
  refine ops_cons rfl (ow_assign rfl ?_)
  refine ops_nil ?_
  refine c_seq ?_
  refine c_seqR ?_
  refine ops_cons rfl (ow_assign rfl ?_)
  refine ops_nil ?_
  refine c_block ?_
  refine c_loop (G := Nat × Int) (fun ⟨k, a⟩ => [(0, .slice A xs.length c), (1, .int .i64 a), (5, .int .i64 (k : Nat))]) (fun ⟨k, a⟩ wr => a = m + 8 * k ∧ k ≤ xs.length ∧ Own wr lo 89 8 A xs.length c ((seqG (fun i => mkSlotI (m + 8 * (i : Nat))) k ++ xs.drop k).flatMap SlotI.cells) ∧ w.grownBy wr (Value.slice A xs.length c).ownBlock) (fun ⟨k, a⟩ => xs.length - k) (0, m) (.cons rfl (.cons rfl (.cons rfl (.nil _)))) ?_ ?_
  · exact ⟨by simp, by omega, oO, X⟩
  clear oO
  clear X
  rintro ⟨k, a⟩ wr ⟨ha, hk0, oO, X⟩
  subst ha
  refine c_seq ?_
  refine c_seqR ?_
  refine ops_cons rfl (ow_move rfl ?_)
  refine ops_cons rfl (ow_move rfl ?_)
  refine ops_cons rfl (ow_len Tryz.underlying26 rfl ?_)
  refine ops_cons rfl (ow_lss2 rfl rfl (fun hk => ?_) (fun hk => ?_))
  have hk1 : k < xs.length := by omega
  obtain ⟨x, hx, dx⟩ := drop_at' hk
  have hL := seqG_at' (g := fun i => mkSlotI (m + 8 * (i : Nat))) hx
  have hn := seqG_all (g := fun i => mkSlotI (m + 8 * (i : Nat))) hk0
  refine ops_nil ?_
  refine c_true rfl ?_
  refine c_skip ?_
  refine tq_n ?_
  refine c_seq ?_
  refine c_block ?_
  refine c_seqR ?_
  refine ops_cons rfl (ow_move rfl ?_)
  refine ops_cons rfl (ow_move rfl ?_)
  refine ops_cons rfl (ow_move rfl ?_)
  refine ops_cons rfl (ow_indexT (oO).sl SlotI.len rfl el26 rfl (by omega) rfl hL rfl ?_)
  refine ops_cons rfl (ow_fieldAddr off89_0 rfl ?_)
  refine ops_cons rfl (ow_storeRF oO ti2 rfl rfl rfl rfl (by omega) (by omega) rfl ?_)
  intro w2 oO hg1 z3
  replace X : w.grownBy w2 (Value.slice A xs.length c).ownBlock := by first | exact gb_trans X hg1 | exact gb_new X hg1 (fun g hg => (Own.lt oO hg).1)
  clear hg1 z3
  replace oO := oO.to (cs' := ((seqG (fun i => mkSlotI (m + 8 * (i : Nat))) k ++ xs.drop k).set k (⟨m + 8 * k, x.round, x.slot, ⟨x.desc.node, x.desc.kind, x.desc.size, x.desc.duration, x.desc.change⟩⟩ : SlotI)).flatMap SlotI.cells) (by
    have e1 := set_field (x := x) (x' := (⟨m + 8 * k, x.round, x.slot, ⟨x.desc.node, x.desc.kind, x.desc.size, x.desc.duration, x.desc.change⟩⟩ : SlotI)) (vs := [.int .i64 (m + 8 * k)]) SlotI.len (s' := 1) (f := 0) rfl (by omega) (seqG (fun i => mkSlotI (m + 8 * (i : Nat))) k ++ xs.drop k) k (hL)
    exact e1)
  refine ops_nil ?_
  refine c_seqR ?_
  refine ops_cons rfl (ow_move rfl ?_)
  refine ops_cons rfl (ow_add rfl rfl (w64 (by omega)) ?_)
  refine ops_cons rfl (ow_assign rfl ?_)
  refine ops_nil ?_
  refine c_seqR ?_
  refine ops_cons rfl (ow_move rfl ?_)
  refine ops_cons rfl (ow_move rfl ?_)
  refine ops_cons rfl (ow_move rfl ?_)
  refine ops_cons rfl (ow_indexT (oO).sl SlotI.len rfl el26 rfl (by simp only [List.length_set]; omega) rfl (set_at (by omega)) rfl ?_)
  refine ops_cons rfl (ow_fieldAddr off89_1 rfl ?_)
  refine ops_cons rfl (ow_storeRF oO ti2 rfl rfl rfl rfl (by omega) (by omega) rfl ?_)
  intro w5 oO hg4 z6
  replace X : w.grownBy w5 (Value.slice A xs.length c).ownBlock := by first | exact gb_trans X hg4 | exact gb_new X hg4 (fun g hg => (Own.lt oO hg).1)
  clear hg4 z6
  replace oO := oO.to (cs' := ((seqG (fun i => mkSlotI (m + 8 * (i : Nat))) k ++ xs.drop k).set k (⟨m + 8 * k, m + 8 * k + 1, x.slot, ⟨x.desc.node, x.desc.kind, x.desc.size, x.desc.duration, x.desc.change⟩⟩ : SlotI)).flatMap SlotI.cells) (by
    have e1 := set_field (x := (⟨m + 8 * k, x.round, x.slot, ⟨x.desc.node, x.desc.kind, x.desc.size, x.desc.duration, x.desc.change⟩⟩ : SlotI)) (x' := (⟨m + 8 * k, m + 8 * k + 1, x.slot, ⟨x.desc.node, x.desc.kind, x.desc.size, x.desc.duration, x.desc.change⟩⟩ : SlotI)) (vs := [.int .i64 (m + 8 * k + 1)]) SlotI.len (s' := 1) (f := 1) rfl (by omega) ((seqG (fun i => mkSlotI (m + 8 * (i : Nat))) k ++ xs.drop k).set k (⟨m + 8 * k, x.round, x.slot, ⟨x.desc.node, x.desc.kind, x.desc.size, x.desc.duration, x.desc.change⟩⟩ : SlotI)) k (set_at (x := (⟨m + 8 * k, x.round, x.slot, ⟨x.desc.node, x.desc.kind, x.desc.size, x.desc.duration, x.desc.change⟩⟩ : SlotI)) (l := (seqG (fun i => mkSlotI (m + 8 * (i : Nat))) k ++ xs.drop k)) (by omega))
    rw [List.set_set] at e1; exact e1)
  refine ops_nil ?_
  refine c_seqR ?_
  refine ops_cons rfl (ow_move rfl ?_)
  refine ops_cons rfl (ow_add rfl rfl (w64 (by omega)) ?_)
  refine ops_cons rfl (ow_assign rfl ?_)
  refine ops_nil ?_
  refine c_seqR ?_
  refine ops_cons rfl (ow_move rfl ?_)
  refine ops_cons rfl (ow_move rfl ?_)
  refine ops_cons rfl (ow_move rfl ?_)
  refine ops_cons rfl (ow_indexT (oO).sl SlotI.len rfl el26 rfl (by simp only [List.length_set]; omega) rfl (set_at (by omega)) rfl ?_)
  refine ops_cons rfl (ow_fieldAddr off89_2 rfl ?_)
  refine ops_cons rfl (ow_storeRF oO ti2 rfl rfl rfl rfl (by omega) (by omega) rfl ?_)
  intro w9 oO hg7 z10
  replace X : w.grownBy w9 (Value.slice A xs.length c).ownBlock := by first | exact gb_trans X hg7 | exact gb_new X hg7 (fun g hg => (Own.lt oO hg).1)
  clear hg7 z10
  replace oO := oO.to (cs' := ((seqG (fun i => mkSlotI (m + 8 * (i : Nat))) k ++ xs.drop k).set k (⟨m + 8 * k, m + 8 * k + 1, m + 8 * k + 1 + 1, ⟨x.desc.node, x.desc.kind, x.desc.size, x.desc.duration, x.desc.change⟩⟩ : SlotI)).flatMap SlotI.cells) (by
    have e1 := set_field (x := (⟨m + 8 * k, m + 8 * k + 1, x.slot, ⟨x.desc.node, x.desc.kind, x.desc.size, x.desc.duration, x.desc.change⟩⟩ : SlotI)) (x' := (⟨m + 8 * k, m + 8 * k + 1, m + 8 * k + 1 + 1, ⟨x.desc.node, x.desc.kind, x.desc.size, x.desc.duration, x.desc.change⟩⟩ : SlotI)) (vs := [.int .i64 (m + 8 * k + 1 + 1)]) SlotI.len (s' := 1) (f := 2) rfl (by omega) ((seqG (fun i => mkSlotI (m + 8 * (i : Nat))) k ++ xs.drop k).set k (⟨m + 8 * k, m + 8 * k + 1, x.slot, ⟨x.desc.node, x.desc.kind, x.desc.size, x.desc.duration, x.desc.change⟩⟩ : SlotI)) k (set_at (x := (⟨m + 8 * k, m + 8 * k + 1, x.slot, ⟨x.desc.node, x.desc.kind, x.desc.size, x.desc.duration, x.desc.change⟩⟩ : SlotI)) (l := (seqG (fun i => mkSlotI (m + 8 * (i : Nat))) k ++ xs.drop k)) (by omega))
    rw [List.set_set] at e1; exact e1)
  refine ops_nil ?_
  refine c_seqR ?_
  refine ops_cons rfl (ow_move rfl ?_)
  refine ops_cons rfl (ow_add rfl rfl (w64 (by omega)) ?_)
  refine ops_cons rfl (ow_assign rfl ?_)
  refine ops_nil ?_
  refine c_seqR ?_
  refine ops_cons rfl (ow_move rfl ?_)
  refine ops_cons rfl (ow_move rfl ?_)
  refine ops_cons rfl (ow_move rfl ?_)
  refine ops_cons rfl (ow_indexT (oO).sl SlotI.len rfl el26 rfl (by simp only [List.length_set]; omega) rfl (set_at (by omega)) rfl ?_)
  refine ops_cons rfl (ow_fieldAddr off89_3 rfl ?_)
  refine ops_cons rfl (ow_fieldAddr off67_0 rfl ?_)
  refine ops_cons rfl (ow_storeRFF oO ti2 rfl rfl rfl rfl (by omega) (by omega) rfl ?_)
  intro w12 oO hg11 z13
  replace X : w.grownBy w12 (Value.slice A xs.length c).ownBlock := by first | exact gb_trans X hg11 | exact gb_new X hg11 (fun g hg => (Own.lt oO hg).1)
  clear hg11 z13
  replace oO := oO.to (cs' := ((seqG (fun i => mkSlotI (m + 8 * (i : Nat))) k ++ xs.drop k).set k (⟨m + 8 * k, m + 8 * k + 1, m + 8 * k + 1 + 1, ⟨m + 8 * k + 1 + 1 + 1, x.desc.kind, x.desc.size, x.desc.duration, x.desc.change⟩⟩ : SlotI)).flatMap SlotI.cells) (by
    have e1 := set_field (x := (⟨m + 8 * k, m + 8 * k + 1, m + 8 * k + 1 + 1, ⟨x.desc.node, x.desc.kind, x.desc.size, x.desc.duration, x.desc.change⟩⟩ : SlotI)) (x' := (⟨m + 8 * k, m + 8 * k + 1, m + 8 * k + 1 + 1, ⟨m + 8 * k + 1 + 1 + 1, x.desc.kind, x.desc.size, x.desc.duration, x.desc.change⟩⟩ : SlotI)) (vs := [.int .i64 (m + 8 * k + 1 + 1 + 1)]) SlotI.len (s' := 1) (f := 3) rfl (by omega) ((seqG (fun i => mkSlotI (m + 8 * (i : Nat))) k ++ xs.drop k).set k (⟨m + 8 * k, m + 8 * k + 1, m + 8 * k + 1 + 1, ⟨x.desc.node, x.desc.kind, x.desc.size, x.desc.duration, x.desc.change⟩⟩ : SlotI)) k (set_at (x := (⟨m + 8 * k, m + 8 * k + 1, m + 8 * k + 1 + 1, ⟨x.desc.node, x.desc.kind, x.desc.size, x.desc.duration, x.desc.change⟩⟩ : SlotI)) (l := (seqG (fun i => mkSlotI (m + 8 * (i : Nat))) k ++ xs.drop k)) (by omega))
    rw [List.set_set] at e1; exact e1)
  refine ops_nil ?_
  refine c_seqR ?_
  refine ops_cons rfl (ow_move rfl ?_)
  refine ops_cons rfl (ow_add rfl rfl (w64 (by omega)) ?_)
  refine ops_cons rfl (ow_assign rfl ?_)
  refine ops_nil ?_
  refine c_seqR ?_
  refine ops_cons rfl (ow_move rfl ?_)
  refine ops_cons rfl (ow_move rfl ?_)
  refine ops_cons rfl (ow_move rfl ?_)
  refine ops_cons rfl (ow_indexT (oO).sl SlotI.len rfl el26 rfl (by simp only [List.length_set]; omega) rfl (set_at (by omega)) rfl ?_)
  refine ops_cons rfl (ow_fieldAddr off89_3 rfl ?_)
  refine ops_cons rfl (ow_fieldAddr off67_1 rfl ?_)
  refine ops_cons rfl (ow_storeRFF oO ti2 rfl rfl rfl rfl (by omega) (by omega) rfl ?_)
  intro w15 oO hg14 z16
  replace X : w.grownBy w15 (Value.slice A xs.length c).ownBlock := by first | exact gb_trans X hg14 | exact gb_new X hg14 (fun g hg => (Own.lt oO hg).1)
  clear hg14 z16
  replace oO := oO.to (cs' := ((seqG (fun i => mkSlotI (m + 8 * (i : Nat))) k ++ xs.drop k).set k (⟨m + 8 * k, m + 8 * k + 1, m + 8 * k + 1 + 1, ⟨m + 8 * k + 1 + 1 + 1, m + 8 * k + 1 + 1 + 1 + 1, x.desc.size, x.desc.duration, x.desc.change⟩⟩ : SlotI)).flatMap SlotI.cells) (by
    have e1 := set_field (x := (⟨m + 8 * k, m + 8 * k + 1, m + 8 * k + 1 + 1, ⟨m + 8 * k + 1 + 1 + 1, x.desc.kind, x.desc.size, x.desc.duration, x.desc.change⟩⟩ : SlotI)) (x' := (⟨m + 8 * k, m + 8 * k + 1, m + 8 * k + 1 + 1, ⟨m + 8 * k + 1 + 1 + 1, m + 8 * k + 1 + 1 + 1 + 1, x.desc.size, x.desc.duration, x.desc.change⟩⟩ : SlotI)) (vs := [.int .i64 (m + 8 * k + 1 + 1 + 1 + 1)]) SlotI.len (s' := 1) (f := 4) rfl (by omega) ((seqG (fun i => mkSlotI (m + 8 * (i : Nat))) k ++ xs.drop k).set k (⟨m + 8 * k, m + 8 * k + 1, m + 8 * k + 1 + 1, ⟨m + 8 * k + 1 + 1 + 1, x.desc.kind, x.desc.size, x.desc.duration, x.desc.change⟩⟩ : SlotI)) k (set_at (x := (⟨m + 8 * k, m + 8 * k + 1, m + 8 * k + 1 + 1, ⟨m + 8 * k + 1 + 1 + 1, x.desc.kind, x.desc.size, x.desc.duration, x.desc.change⟩⟩ : SlotI)) (l := (seqG (fun i => mkSlotI (m + 8 * (i : Nat))) k ++ xs.drop k)) (by omega))
    rw [List.set_set] at e1; exact e1)
  refine ops_nil ?_
  refine c_seqR ?_
  refine ops_cons rfl (ow_move rfl ?_)
  refine ops_cons rfl (ow_add rfl rfl (w64 (by omega)) ?_)
  refine ops_cons rfl (ow_assign rfl ?_)
  refine ops_nil ?_
  refine c_seqR ?_
  refine ops_cons rfl (ow_move rfl ?_)
  refine ops_cons rfl (ow_move rfl ?_)
  refine ops_cons rfl (ow_move rfl ?_)
  refine ops_cons rfl (ow_indexT (oO).sl SlotI.len rfl el26 rfl (by simp only [List.length_set]; omega) rfl (set_at (by omega)) rfl ?_)
  refine ops_cons rfl (ow_fieldAddr off89_3 rfl ?_)
  refine ops_cons rfl (ow_fieldAddr off67_2 rfl ?_)
  refine ops_cons rfl (ow_storeRFF oO ti2 rfl rfl rfl rfl (by omega) (by omega) rfl ?_)
  intro w18 oO hg17 z19
  replace X : w.grownBy w18 (Value.slice A xs.length c).ownBlock := by first | exact gb_trans X hg17 | exact gb_new X hg17 (fun g hg => (Own.lt oO hg).1)
  clear hg17 z19
  replace oO := oO.to (cs' := ((seqG (fun i => mkSlotI (m + 8 * (i : Nat))) k ++ xs.drop k).set k (⟨m + 8 * k, m + 8 * k + 1, m + 8 * k + 1 + 1, ⟨m + 8 * k + 1 + 1 + 1, m + 8 * k + 1 + 1 + 1 + 1, m + 8 * k + 1 + 1 + 1 + 1 + 1, x.desc.duration, x.desc.change⟩⟩ : SlotI)).flatMap SlotI.cells) (by
    have e1 := set_field (x := (⟨m + 8 * k, m + 8 * k + 1, m + 8 * k + 1 + 1, ⟨m + 8 * k + 1 + 1 + 1, m + 8 * k + 1 + 1 + 1 + 1, x.desc.size, x.desc.duration, x.desc.change⟩⟩ : SlotI)) (x' := (⟨m + 8 * k, m + 8 * k + 1, m + 8 * k + 1 + 1, ⟨m + 8 * k + 1 + 1 + 1, m + 8 * k + 1 + 1 + 1 + 1, m + 8 * k + 1 + 1 + 1 + 1 + 1, x.desc.duration, x.desc.change⟩⟩ : SlotI)) (vs := [.int .i64 (m + 8 * k + 1 + 1 + 1 + 1 + 1)]) SlotI.len (s' := 1) (f := 5) rfl (by omega) ((seqG (fun i => mkSlotI (m + 8 * (i : Nat))) k ++ xs.drop k).set k (⟨m + 8 * k, m + 8 * k + 1, m + 8 * k + 1 + 1, ⟨m + 8 * k + 1 + 1 + 1, m + 8 * k + 1 + 1 + 1 + 1, x.desc.size, x.desc.duration, x.desc.change⟩⟩ : SlotI)) k (set_at (x := (⟨m + 8 * k, m + 8 * k + 1, m + 8 * k + 1 + 1, ⟨m + 8 * k + 1 + 1 + 1, m + 8 * k + 1 + 1 + 1 + 1, x.desc.size, x.desc.duration, x.desc.change⟩⟩ : SlotI)) (l := (seqG (fun i => mkSlotI (m + 8 * (i : Nat))) k ++ xs.drop k)) (by omega))
    rw [List.set_set] at e1; exact e1)
  refine ops_nil ?_
  refine c_seqR ?_
  refine ops_cons rfl (ow_move rfl ?_)
  refine ops_cons rfl (ow_add rfl rfl (w64 (by omega)) ?_)
  refine ops_cons rfl (ow_assign rfl ?_)
  refine ops_nil ?_
  refine c_seqR ?_
  refine ops_cons rfl (ow_move rfl ?_)
  refine ops_cons rfl (ow_move rfl ?_)
  refine ops_cons rfl (ow_move rfl ?_)
  refine ops_cons rfl (ow_indexT (oO).sl SlotI.len rfl el26 rfl (by simp only [List.length_set]; omega) rfl (set_at (by omega)) rfl ?_)
  refine ops_cons rfl (ow_fieldAddr off89_3 rfl ?_)
  refine ops_cons rfl (ow_fieldAddr off67_3 rfl ?_)
  refine ops_cons rfl (ow_storeRFF oO ti2 rfl rfl rfl rfl (by omega) (by omega) rfl ?_)
  intro w21 oO hg20 z22
  replace X : w.grownBy w21 (Value.slice A xs.length c).ownBlock := by first | exact gb_trans X hg20 | exact gb_new X hg20 (fun g hg => (Own.lt oO hg).1)
  clear hg20 z22
  replace oO := oO.to (cs' := ((seqG (fun i => mkSlotI (m + 8 * (i : Nat))) k ++ xs.drop k).set k (⟨m + 8 * k, m + 8 * k + 1, m + 8 * k + 1 + 1, ⟨m + 8 * k + 1 + 1 + 1, m + 8 * k + 1 + 1 + 1 + 1, m + 8 * k + 1 + 1 + 1 + 1 + 1, m + 8 * k + 1 + 1 + 1 + 1 + 1 + 1, x.desc.change⟩⟩ : SlotI)).flatMap SlotI.cells) (by
    have e1 := set_field (x := (⟨m + 8 * k, m + 8 * k + 1, m + 8 * k + 1 + 1, ⟨m + 8 * k + 1 + 1 + 1, m + 8 * k + 1 + 1 + 1 + 1, m + 8 * k + 1 + 1 + 1 + 1 + 1, x.desc.duration, x.desc.change⟩⟩ : SlotI)) (x' := (⟨m + 8 * k, m + 8 * k + 1, m + 8 * k + 1 + 1, ⟨m + 8 * k + 1 + 1 + 1, m + 8 * k + 1 + 1 + 1 + 1, m + 8 * k + 1 + 1 + 1 + 1 + 1, m + 8 * k + 1 + 1 + 1 + 1 + 1 + 1, x.desc.change⟩⟩ : SlotI)) (vs := [.int .i64 (m + 8 * k + 1 + 1 + 1 + 1 + 1 + 1)]) SlotI.len (s' := 1) (f := 6) rfl (by omega) ((seqG (fun i => mkSlotI (m + 8 * (i : Nat))) k ++ xs.drop k).set k (⟨m + 8 * k, m + 8 * k + 1, m + 8 * k + 1 + 1, ⟨m + 8 * k + 1 + 1 + 1, m + 8 * k + 1 + 1 + 1 + 1, m + 8 * k + 1 + 1 + 1 + 1 + 1, x.desc.duration, x.desc.change⟩⟩ : SlotI)) k (set_at (x := (⟨m + 8 * k, m + 8 * k + 1, m + 8 * k + 1 + 1, ⟨m + 8 * k + 1 + 1 + 1, m + 8 * k + 1 + 1 + 1 + 1, m + 8 * k + 1 + 1 + 1 + 1 + 1, x.desc.duration, x.desc.change⟩⟩ : SlotI)) (l := (seqG (fun i => mkSlotI (m + 8 * (i : Nat))) k ++ xs.drop k)) (by omega))
    rw [List.set_set] at e1; exact e1)
  refine ops_nil ?_
  refine c_seqR ?_
  refine ops_cons rfl (ow_move rfl ?_)
  refine ops_cons rfl (ow_add rfl rfl (w64 (by omega)) ?_)
  refine ops_cons rfl (ow_assign rfl ?_)
  refine ops_nil ?_
  refine c_seqR ?_
  refine ops_cons rfl (ow_move rfl ?_)
  refine ops_cons rfl (ow_move rfl ?_)
  refine ops_cons rfl (ow_move rfl ?_)
  refine ops_cons rfl (ow_rem rfl rfl (by omega) rfl ?_)
  refine ops_cons rfl (ow_eql rfl rfl ?_)
  refine ops_cons rfl (ow_indexT (oO).sl SlotI.len rfl el26 rfl (by simp only [List.length_set]; omega) rfl (set_at (by omega)) rfl ?_)
  refine ops_cons rfl (ow_fieldAddr off89_3 rfl ?_)
  refine ops_cons rfl (ow_fieldAddr off67_4 rfl ?_)
  refine ops_cons rfl (ow_storeRFF oO ti4 rfl rfl rfl rfl (by omega) (by omega) rfl ?_)
  intro w24 oO hg23 z25
  replace X : w.grownBy w24 (Value.slice A xs.length c).ownBlock := by first | exact gb_trans X hg23 | exact gb_new X hg23 (fun g hg => (Own.lt oO hg).1)
  clear hg23 z25
  replace oO := oO.to (cs' := ((seqG (fun i => mkSlotI (m + 8 * (i : Nat))) k ++ xs.drop k).set k (⟨m + 8 * k, m + 8 * k + 1, m + 8 * k + 1 + 1, ⟨m + 8 * k + 1 + 1 + 1, m + 8 * k + 1 + 1 + 1 + 1, m + 8 * k + 1 + 1 + 1 + 1 + 1, m + 8 * k + 1 + 1 + 1 + 1 + 1 + 1, (decide (Int.tmod (m + 8 * k + 1 + 1 + 1 + 1 + 1 + 1 + 1) 3 = 0))⟩⟩ : SlotI)).flatMap SlotI.cells) (by
    have e1 := set_field (x := (⟨m + 8 * k, m + 8 * k + 1, m + 8 * k + 1 + 1, ⟨m + 8 * k + 1 + 1 + 1, m + 8 * k + 1 + 1 + 1 + 1, m + 8 * k + 1 + 1 + 1 + 1 + 1, m + 8 * k + 1 + 1 + 1 + 1 + 1 + 1, x.desc.change⟩⟩ : SlotI)) (x' := (⟨m + 8 * k, m + 8 * k + 1, m + 8 * k + 1 + 1, ⟨m + 8 * k + 1 + 1 + 1, m + 8 * k + 1 + 1 + 1 + 1, m + 8 * k + 1 + 1 + 1 + 1 + 1, m + 8 * k + 1 + 1 + 1 + 1 + 1 + 1, (decide (Int.tmod (m + 8 * k + 1 + 1 + 1 + 1 + 1 + 1 + 1) 3 = 0))⟩⟩ : SlotI)) (vs := [.bool (decide (Int.tmod (m + 8 * k + 1 + 1 + 1 + 1 + 1 + 1 + 1) 3 = 0))]) SlotI.len (s' := 1) (f := 7) rfl (by omega) ((seqG (fun i => mkSlotI (m + 8 * (i : Nat))) k ++ xs.drop k).set k (⟨m + 8 * k, m + 8 * k + 1, m + 8 * k + 1 + 1, ⟨m + 8 * k + 1 + 1 + 1, m + 8 * k + 1 + 1 + 1 + 1, m + 8 * k + 1 + 1 + 1 + 1 + 1, m + 8 * k + 1 + 1 + 1 + 1 + 1 + 1, x.desc.change⟩⟩ : SlotI)) k (set_at (x := (⟨m + 8 * k, m + 8 * k + 1, m + 8 * k + 1 + 1, ⟨m + 8 * k + 1 + 1 + 1, m + 8 * k + 1 + 1 + 1 + 1, m + 8 * k + 1 + 1 + 1 + 1 + 1, m + 8 * k + 1 + 1 + 1 + 1 + 1 + 1, x.desc.change⟩⟩ : SlotI)) (l := (seqG (fun i => mkSlotI (m + 8 * (i : Nat))) k ++ xs.drop k)) (by omega))
    rw [List.set_set] at e1; exact e1)
  replace oO := oO.to (cs' := ((seqG (fun i => mkSlotI (m + 8 * (i : Nat))) (k + 1)) ++ xs.drop (k + 1)).flatMap SlotI.cells) (by rw [← seqG_set hk1]; rfl)
  refine ops_nil ?_
  refine c_region ?_
  refine ops_cons rfl (ow_move rfl ?_)
  refine ops_cons rfl (ow_add rfl rfl (w64 (by omega)) ?_)
  refine ops_cons rfl (ow_assign rfl ?_)
  refine ops_nil ?_
  refine bq_n ?_
  refine tq_n ?_
  refine c_region ?_
  refine ops_cons rfl (ow_move rfl ?_)
  refine ops_cons rfl (ow_add rfl rfl (w64 (by omega)) ?_)
  refine ops_cons rfl (ow_assign rfl ?_)
  refine ops_nil ?_
  refine tq_n ⟨(k + 1, m + 8 * k + 1 + 1 + 1 + 1 + 1 + 1 + 1 + 1), (.cons rfl (.cons rfl (.cons rfl (.nil _)))), ?_, ?_⟩
  · exact ⟨by omega, by omega, oO, X⟩
  · dsimp only; omega
  rw [seqG_end hk0 hk] at oO
  refine ops_nil ?_
  refine c_false rfl ?_
  refine c_exit ?_
  refine tq_e ?_
  refine tq_e ?_
  refine bq_e ?_
  refine tq_n ?_
  refine c_seqR ?_
  refine ops_cons rfl (ow_move rfl ?_)
  refine ops_cons rfl (ow_assign rfl ?_)
  refine ops_nil ?_
  refine c_ret ?_
  refine fin_ret1 rfl rfl ?_
  exact ⟨by rw [show k = xs.length by omega], oO, X⟩

theorem heldSlotI_c (A : Option Addr) (B c n : Nat) (m : Int) (w : World) (hs : Sl B w A ((seqG (fun i => mkSlotI (m + 8 * (i : Nat))) n).flatMap SlotI.cells)) (hl : n ≤ 1048576) (hm : 0 ≤ m ∧ m ≤ 1125899906842624) :
    Calls Tryz.prog 96 #[.slice A n c, .int .i64 m] w (Ret fun v w' => v = .int .i64 (m + 8 * n) ∧ Ext w w') := by
  have Bhs := hs.1
  have X := Ext.refl w
  refine calls_of (args := [.slice A n c, .int .i64 m]) Tryz.func96 Tryz.ntmps96 rfl rfl ?_
  refine c_seqR ?_
  refine ops_cons rfl (ow_assign rfl ?_)
  refine ops_nil ?_
  refine c_seq ?_
  refine c_seqR ?_
  refine ops_cons rfl (ow_assign rfl ?_)
  refine ops_nil ?_
  refine c_block ?_
  refine c_loop (G := Nat × Int) (fun ⟨k, a⟩ => [(0, .slice A n c), (1, .int .i64 a), (5, .int .i64 (k : Nat))]) (fun ⟨k, a⟩ wr => a = m + 8 * k ∧ k ≤ n ∧ Sl B wr A ((seqG (fun i => mkSlotI (m + 8 * (i : Nat))) n).flatMap SlotI.cells) ∧ Ext w wr) (fun ⟨k, a⟩ => n - k) (0, m) (.cons rfl (.cons rfl (.cons rfl (.nil _)))) ?_ ?_
  · exact ⟨by simp, by omega, hs, X⟩
  clear hs
  clear X
  rintro ⟨k, a⟩ wr ⟨ha, hk0, hs, X⟩
  subst ha
  refine c_seq ?_
  refine c_seqR ?_
  refine ops_cons rfl (ow_move rfl ?_)
  refine ops_cons rfl (ow_move rfl ?_)
  refine ops_cons rfl (ow_len Tryz.underlying26 rfl ?_)
  refine ops_cons rfl (ow_lss2 rfl rfl (fun hk => ?_) (fun hk => ?_))
  have hk1 : k < n := by omega
  refine ops_nil ?_
  refine c_true rfl ?_
  refine c_skip ?_
  refine tq_n ?_
  refine c_seq ?_
  refine c_block ?_
  refine c_seq ?_
  refine c_seqR ?_
  refine ops_cons rfl (ow_move rfl ?_)
  refine ops_cons rfl (ow_move rfl ?_)
  refine ops_cons rfl (ow_indexT hs SlotI.len rfl el26 rfl (seqG_len _ _).symm rfl (seqG_at hk1) rfl ?_)
  refine ops_cons rfl (ow_fieldAddr off89_0 rfl ?_)
  refine ops_cons rfl (ow_loadTF hs SlotI.len (seqG_at hk1) ti2 rfl rfl rfl ?_)
  refine ops_cons rfl (ow_move rfl ?_)
  refine ops_cons rfl (ow_neq2 rfl rfl (fun h1 => absurd h1 (by exact fun h => h rfl)) (fun h1 => ?_))
  refine ops_nil ?_
  refine c_false rfl ?_
  refine c_skip ?_
  refine tq_n ?_
  refine c_seqR ?_
  refine ops_cons rfl (ow_move rfl ?_)
  refine ops_cons rfl (ow_add rfl rfl (w64 (by omega)) ?_)
  refine ops_cons rfl (ow_assign rfl ?_)
  refine ops_nil ?_
  refine c_seq ?_
  refine c_seqR ?_
  refine ops_cons rfl (ow_move rfl ?_)
  refine ops_cons rfl (ow_move rfl ?_)
  refine ops_cons rfl (ow_indexT hs SlotI.len rfl el26 rfl (seqG_len _ _).symm rfl (seqG_at hk1) rfl ?_)
  refine ops_cons rfl (ow_fieldAddr off89_1 rfl ?_)
  refine ops_cons rfl (ow_loadTF hs SlotI.len (seqG_at hk1) ti2 rfl rfl rfl ?_)
  refine ops_cons rfl (ow_move rfl ?_)
  refine ops_cons rfl (ow_neq2 rfl rfl (fun h2 => absurd h2 (by exact fun h => h rfl)) (fun h2 => ?_))
  refine ops_nil ?_
  refine c_false rfl ?_
  refine c_skip ?_
  refine tq_n ?_
  refine c_seqR ?_
  refine ops_cons rfl (ow_move rfl ?_)
  refine ops_cons rfl (ow_add rfl rfl (w64 (by omega)) ?_)
  refine ops_cons rfl (ow_assign rfl ?_)
  refine ops_nil ?_
  refine c_seq ?_
  refine c_seqR ?_
  refine ops_cons rfl (ow_move rfl ?_)
  refine ops_cons rfl (ow_move rfl ?_)
  refine ops_cons rfl (ow_indexT hs SlotI.len rfl el26 rfl (seqG_len _ _).symm rfl (seqG_at hk1) rfl ?_)
  refine ops_cons rfl (ow_fieldAddr off89_2 rfl ?_)
  refine ops_cons rfl (ow_loadTF hs SlotI.len (seqG_at hk1) ti2 rfl rfl rfl ?_)
  refine ops_cons rfl (ow_move rfl ?_)
  refine ops_cons rfl (ow_neq2 rfl rfl (fun h3 => absurd h3 (by exact fun h => h rfl)) (fun h3 => ?_))
  refine ops_nil ?_
  refine c_false rfl ?_
  refine c_skip ?_
  refine tq_n ?_
  refine c_seqR ?_
  refine ops_cons rfl (ow_move rfl ?_)
  refine ops_cons rfl (ow_add rfl rfl (w64 (by omega)) ?_)
  refine ops_cons rfl (ow_assign rfl ?_)
  refine ops_nil ?_
  refine c_seq ?_
  refine c_seqR ?_
  refine ops_cons rfl (ow_move rfl ?_)
  refine ops_cons rfl (ow_move rfl ?_)
  refine ops_cons rfl (ow_indexT hs SlotI.len rfl el26 rfl (seqG_len _ _).symm rfl (seqG_at hk1) rfl ?_)
  refine ops_cons rfl (ow_fieldAddr off89_3 rfl ?_)
  refine ops_cons rfl (ow_fieldAddr off67_0 rfl ?_)
  refine ops_cons rfl (ow_loadTFF hs SlotI.len (seqG_at hk1) ti2 rfl rfl rfl ?_)
  refine ops_cons rfl (ow_move rfl ?_)
  refine ops_cons rfl (ow_neq2 rfl rfl (fun h4 => absurd h4 (by exact fun h => h rfl)) (fun h4 => ?_))
  refine ops_nil ?_
  refine c_false rfl ?_
  refine c_skip ?_
  refine tq_n ?_
  refine c_seqR ?_
  refine ops_cons rfl (ow_move rfl ?_)
  refine ops_cons rfl (ow_add rfl rfl (w64 (by omega)) ?_)
  refine ops_cons rfl (ow_assign rfl ?_)
  refine ops_nil ?_
  refine c_seq ?_
  refine c_seqR ?_
  refine ops_cons rfl (ow_move rfl ?_)
  refine ops_cons rfl (ow_move rfl ?_)
  refine ops_cons rfl (ow_indexT hs SlotI.len rfl el26 rfl (seqG_len _ _).symm rfl (seqG_at hk1) rfl ?_)
  refine ops_cons rfl (ow_fieldAddr off89_3 rfl ?_)
  refine ops_cons rfl (ow_fieldAddr off67_1 rfl ?_)
  refine ops_cons rfl (ow_loadTFF hs SlotI.len (seqG_at hk1) ti2 rfl rfl rfl ?_)
  refine ops_cons rfl (ow_move rfl ?_)
  refine ops_cons rfl (ow_neq2 rfl rfl (fun h5 => absurd h5 (by exact fun h => h rfl)) (fun h5 => ?_))
  refine ops_nil ?_
  refine c_false rfl ?_
  refine c_skip ?_
  refine tq_n ?_
  refine c_seqR ?_
  refine ops_cons rfl (ow_move rfl ?_)
  refine ops_cons rfl (ow_add rfl rfl (w64 (by omega)) ?_)
  refine ops_cons rfl (ow_assign rfl ?_)
  refine ops_nil ?_
  refine c_seq ?_
  refine c_seqR ?_
  refine ops_cons rfl (ow_move rfl ?_)
  refine ops_cons rfl (ow_move rfl ?_)
  refine ops_cons rfl (ow_indexT hs SlotI.len rfl el26 rfl (seqG_len _ _).symm rfl (seqG_at hk1) rfl ?_)
  refine ops_cons rfl (ow_fieldAddr off89_3 rfl ?_)
  refine ops_cons rfl (ow_fieldAddr off67_2 rfl ?_)
  refine ops_cons rfl (ow_loadTFF hs SlotI.len (seqG_at hk1) ti2 rfl rfl rfl ?_)
  refine ops_cons rfl (ow_move rfl ?_)
  refine ops_cons rfl (ow_neq2 rfl rfl (fun h6 => absurd h6 (by exact fun h => h rfl)) (fun h6 => ?_))
  refine ops_nil ?_
  refine c_false rfl ?_
  refine c_skip ?_
  refine tq_n ?_
  refine c_seqR ?_
  refine ops_cons rfl (ow_move rfl ?_)
  refine ops_cons rfl (ow_add rfl rfl (w64 (by omega)) ?_)
  refine ops_cons rfl (ow_assign rfl ?_)
  refine ops_nil ?_
  refine c_seq ?_
  refine c_seqR ?_
  refine ops_cons rfl (ow_move rfl ?_)
  refine ops_cons rfl (ow_move rfl ?_)
  refine ops_cons rfl (ow_indexT hs SlotI.len rfl el26 rfl (seqG_len _ _).symm rfl (seqG_at hk1) rfl ?_)
  refine ops_cons rfl (ow_fieldAddr off89_3 rfl ?_)
  refine ops_cons rfl (ow_fieldAddr off67_3 rfl ?_)
  refine ops_cons rfl (ow_loadTFF hs SlotI.len (seqG_at hk1) ti2 rfl rfl rfl ?_)
  refine ops_cons rfl (ow_move rfl ?_)
  refine ops_cons rfl (ow_neq2 rfl rfl (fun h7 => absurd h7 (by exact fun h => h rfl)) (fun h7 => ?_))
  refine ops_nil ?_
  refine c_false rfl ?_
  refine c_skip ?_
  refine tq_n ?_
  refine c_seqR ?_
  refine ops_cons rfl (ow_move rfl ?_)
  refine ops_cons rfl (ow_add rfl rfl (w64 (by omega)) ?_)
  refine ops_cons rfl (ow_assign rfl ?_)
  refine ops_nil ?_
  refine c_seq ?_
  refine c_seqR ?_
  refine ops_cons rfl (ow_move rfl ?_)
  refine ops_cons rfl (ow_move rfl ?_)
  refine ops_cons rfl (ow_indexT hs SlotI.len rfl el26 rfl (seqG_len _ _).symm rfl (seqG_at hk1) rfl ?_)
  refine ops_cons rfl (ow_fieldAddr off89_3 rfl ?_)
  refine ops_cons rfl (ow_fieldAddr off67_4 rfl ?_)
  refine ops_cons rfl (ow_loadTFF hs SlotI.len (seqG_at hk1) ti4 rfl rfl rfl ?_)
  refine ops_cons rfl (ow_move rfl ?_)
  refine ops_cons rfl (ow_rem rfl rfl (by omega) rfl ?_)
  refine ops_cons rfl (ow_eql rfl rfl ?_)
  refine ops_cons rfl (ow_neqBd2 Tryz.underlying4 rfl rfl (fun h8 => absurd h8 (by exact fun h => h rfl)) (fun h8 => ?_))
  refine ops_nil ?_
  refine c_false rfl ?_
  refine c_skip ?_
  refine tq_n ?_
  refine c_region ?_
  refine ops_cons rfl (ow_move rfl ?_)
  refine ops_cons rfl (ow_add rfl rfl (w64 (by omega)) ?_)
  refine ops_cons rfl (ow_assign rfl ?_)
  refine ops_nil ?_
  refine bq_n ?_
  refine tq_n ?_
  refine c_region ?_
  refine ops_cons rfl (ow_move rfl ?_)
  refine ops_cons rfl (ow_add rfl rfl (w64 (by omega)) ?_)
  refine ops_cons rfl (ow_assign rfl ?_)
  refine ops_nil ?_
  refine tq_n ⟨(k + 1, m + 8 * k + 1 + 1 + 1 + 1 + 1 + 1 + 1 + 1), (.cons rfl (.cons rfl (.cons rfl (.nil _)))), ?_, ?_⟩
  · exact ⟨by omega, by omega, hs, X⟩
  · dsimp only; omega
  refine ops_nil ?_
  refine c_false rfl ?_
  refine c_exit ?_
  refine tq_e ?_
  refine tq_e ?_
  refine bq_e ?_
  refine tq_n ?_
  refine c_seqR ?_
  refine ops_cons rfl (ow_move rfl ?_)
  refine ops_cons rfl (ow_assign rfl ?_)
  refine ops_nil ?_
  refine c_ret ?_
  refine fin_ret1 rfl rfl ?_
  exact ⟨by rw [show k = n by omega], X⟩

theorem markI_c (A : Option Addr) (c lo : Nat) (xs : List Int) (m : Int) (w : World) (oO : Own w lo 2 1 A xs.length c (xs.flatMap eI)) (hl : xs.length ≤ 1048576) (hm : 0 ≤ m ∧ m ≤ 1125899906842624) :
    Calls Tryz.prog 26 #[.slice A xs.length c, .int .i64 m] w (Ret fun v w' => v = .int .i64 (m + xs.length) ∧ Own w' lo 2 1 A xs.length c ((seqI m xs.length).flatMap eI) ∧ w.grownBy w' (Value.slice A xs.length c).ownBlock) := by
  replace oO := oO.to (cs' := (seqI m 0 ++ xs.drop 0).flatMap eI) rfl
  have X := gb_refl w (Value.slice A xs.length c).ownBlock
  refine calls_of (args := [.slice A xs.length c, .int .i64 m]) Tryz.func26 Tryz.ntmps26 rfl rfl ?_
  refine c_seqR ?_
  refine ops_cons rfl (ow_assign rfl ?_)
  refine ops_nil ?_
  refine c_seq ?_
  refine c_seqR ?_
  refine ops_cons rfl (ow_assign rfl ?_)
  refine ops_nil ?_
  refine c_block ?_
  refine c_loop (G := Nat × Int) (fun ⟨k, a⟩ => [(0, .slice A xs.length c), (1, .int .i64 a), (5, .int .i64 (k : Nat))]) (fun ⟨k, a⟩ wr => a = m + k ∧ k ≤ xs.length ∧ Own wr lo 2 1 A xs.length c ((seqI m k ++ xs.drop k).flatMap eI) ∧ w.grownBy wr (Value.slice A xs.length c).ownBlock) (fun ⟨k, a⟩ => xs.length - k) (0, m) (.cons rfl (.cons rfl (.cons rfl (.nil _)))) ?_ ?_
  · exact ⟨by simp, by omega, oO, X⟩
  clear oO
  clear X
  rintro ⟨k, a⟩ wr ⟨ha, hk0, oO, X⟩
  subst ha
  refine c_seq ?_
  refine c_seqR ?_
  refine ops_cons rfl (ow_move rfl ?_)
  refine ops_cons rfl (ow_move rfl ?_)
  refine ops_cons rfl (ow_len Tryz.underlying30 rfl ?_)
  refine ops_cons rfl (ow_lss2 rfl rfl (fun hk => ?_) (fun hk => ?_))
  have hk1 : k < xs.length := by omega
  refine ops_nil ?_
  refine c_true rfl ?_
  refine c_skip ?_
  refine tq_n ?_
  refine c_seq ?_
  refine c_block ?_
  refine c_seqR ?_
  refine ops_cons rfl (ow_move rfl ?_)
  refine ops_cons rfl (ow_move rfl ?_)
  refine ops_cons rfl (ow_move rfl ?_)
  refine ops_cons rfl (ow_indexT (oO).sl eI_len rfl el30 rfl (by simp [seqI_len]; omega) rfl (seqI_at' hk1) rfl ?_)
  refine ops_cons rfl (ow_storeR oO ti2 rfl rfl rfl rfl (by omega) (by omega) rfl ?_)
  intro w2 oN hg1 z3
  replace X : w.grownBy w2 (Value.slice A xs.length c).ownBlock := by first | exact gb_trans X hg1 | exact gb_new X hg1 (fun g hg => (Own.lt oO hg).1)
  clear hg1 z3
  replace oN := oN.to (cs' := (seqI m (k + 1) ++ xs.drop (k + 1)).flatMap eI) (by rw [← seqI_set hk1, ← set_flat eI_len _ _ k (by simp [seqI_len]; omega)]; try rfl)
  refine ops_nil ?_
  refine c_region ?_
  refine ops_cons rfl (ow_move rfl ?_)
  refine ops_cons rfl (ow_add rfl rfl (w64 (by omega)) ?_)
  refine ops_cons rfl (ow_assign rfl ?_)
  refine ops_nil ?_
  refine bq_n ?_
  refine tq_n ?_
  refine c_region ?_
  refine ops_cons rfl (ow_move rfl ?_)
  refine ops_cons rfl (ow_add rfl rfl (w64 (by omega)) ?_)
  refine ops_cons rfl (ow_assign rfl ?_)
  refine ops_nil ?_
  refine tq_n ⟨(k + 1, m + k + 1), (.cons rfl (.cons rfl (.cons rfl (.nil _)))), ?_, ?_⟩
  · exact ⟨by omega, by omega, oN, X⟩
  · dsimp only; omega
  rw [seqI_end hk0 hk] at oO
  refine ops_nil ?_
  refine c_false rfl ?_
  refine c_exit ?_
  refine tq_e ?_
  refine tq_e ?_
  refine bq_e ?_
  refine tq_n ?_
  refine c_seqR ?_
  refine ops_cons rfl (ow_move rfl ?_)
  refine ops_cons rfl (ow_assign rfl ?_)
  refine ops_nil ?_
  refine c_ret ?_
  refine fin_ret1 rfl rfl ?_
  exact ⟨by rw [show k = xs.length by omega], oO, X⟩

theorem heldI_c (A : Option Addr) (B c n : Nat) (m : Int) (w : World) (hs : Sl B w A ((seqI m n).flatMap eI)) (hl : n ≤ 1048576) (hm : 0 ≤ m ∧ m ≤ 1125899906842624) :
    Calls Tryz.prog 63 #[.slice A n c, .int .i64 m] w (Ret fun v w' => v = .int .i64 (m + n) ∧ Ext w w') := by
  have Bhs := hs.1
  have X := Ext.refl w
  refine calls_of (args := [.slice A n c, .int .i64 m]) Tryz.func63 Tryz.ntmps63 rfl rfl ?_
  refine c_seqR ?_
  refine ops_cons rfl (ow_assign rfl ?_)
  refine ops_nil ?_
  refine c_seq ?_
  refine c_seqR ?_
  refine ops_cons rfl (ow_assign rfl ?_)
  refine ops_nil ?_
  refine c_block ?_
  refine c_loop (G := Nat × Int) (fun ⟨k, a⟩ => [(0, .slice A n c), (1, .int .i64 a), (5, .int .i64 (k : Nat))]) (fun ⟨k, a⟩ wr => a = m + k ∧ k ≤ n ∧ Sl B wr A ((seqI m n).flatMap eI) ∧ Ext w wr) (fun ⟨k, a⟩ => n - k) (0, m) (.cons rfl (.cons rfl (.cons rfl (.nil _)))) ?_ ?_
  · exact ⟨by simp, by omega, hs, X⟩
  clear hs
  clear X
  rintro ⟨k, a⟩ wr ⟨ha, hk0, hs, X⟩
  subst ha
  refine c_seq ?_
  refine c_seqR ?_
  refine ops_cons rfl (ow_move rfl ?_)
  refine ops_cons rfl (ow_move rfl ?_)
  refine ops_cons rfl (ow_len Tryz.underlying30 rfl ?_)
  refine ops_cons rfl (ow_lss2 rfl rfl (fun hk => ?_) (fun hk => ?_))
  have hk1 : k < n := by omega
  refine ops_nil ?_
  refine c_true rfl ?_
  refine c_skip ?_
  refine tq_n ?_
  refine c_seq ?_
  refine c_block ?_
  refine c_seq ?_
  refine c_seqR ?_
  refine ops_cons rfl (ow_move rfl ?_)
  refine ops_cons rfl (ow_move rfl ?_)
  refine ops_cons rfl (ow_indexT hs eI_len rfl el30 rfl (seqI_len _ _).symm rfl (seqI_at hk1) rfl ?_)
  refine ops_cons rfl (ow_loadT hs eI_len (seqI_at hk1) ti2 rfl rfl rfl ?_)
  refine ops_cons rfl (ow_move rfl ?_)
  refine ops_cons rfl (ow_neq2 rfl rfl (fun h1 => absurd h1 (by simp)) (fun h1 => ?_))
  refine ops_nil ?_
  refine c_false rfl ?_
  refine c_skip ?_
  refine tq_n ?_
  refine c_region ?_
  refine ops_cons rfl (ow_move rfl ?_)
  refine ops_cons rfl (ow_add rfl rfl (w64 (by omega)) ?_)
  refine ops_cons rfl (ow_assign rfl ?_)
  refine ops_nil ?_
  refine bq_n ?_
  refine tq_n ?_
  refine c_region ?_
  refine ops_cons rfl (ow_move rfl ?_)
  refine ops_cons rfl (ow_add rfl rfl (w64 (by omega)) ?_)
  refine ops_cons rfl (ow_assign rfl ?_)
  refine ops_nil ?_
  refine tq_n ⟨(k + 1, m + k + 1), (.cons rfl (.cons rfl (.cons rfl (.nil _)))), ?_, ?_⟩
  · exact ⟨by omega, by omega, hs, X⟩
  · dsimp only; omega
  refine ops_nil ?_
  refine c_false rfl ?_
  refine c_exit ?_
  refine tq_e ?_
  refine tq_e ?_
  refine bq_e ?_
  refine tq_n ?_
  refine c_seqR ?_
  refine ops_cons rfl (ow_move rfl ?_)
  refine ops_cons rfl (ow_assign rfl ?_)
  refine ops_nil ?_
  refine c_ret ?_
  refine fin_ret1 rfl rfl ?_
  exact ⟨by rw [show k = n by omega], X⟩
end Go.Proofs.YtdoibplhbdkapaaGreatDoor
namespace Go.Proofs.YtdoibplhbdkapaaGreatDoor
open Go.RowKit
set_option linter.unusedVariables false
set_option linter.unusedSimpArgs false
set_option maxRecDepth 20000
end Go.Proofs.YtdoibplhbdkapaaGreatDoor
