/- Texts of the seat that a law needs, put together. No condition. -/
import Derived.Test.YtdoibplhbdkapaaGreatDoorCDP3
import Derived.Test.YtdoibplhbdkapaaGreatDoorCDP12
namespace Go.Proofs.YtdoibplhbdkapaaGreatDoor
open Go.RowKit
set_option linter.unusedVariables false
set_option linter.unusedSimpArgs false
section
variable {P : Program} {n : Nat} {fn : Func} {e : List (Nat × Value)} {w : World} {R : Value → World → Prop} {s b s' b' : Nat} {z z' cs vs cs' vs' : List Value} {g i g' i' : Nat} {T T' S S' : TypeId} {t u t' x y : Tmp} {v v1 v2 : Value}
theorem load_cell (hb : Blk w g T' cs) (ht : tiO P T = some (true, s, b, z)) (hs : subL cs i s = some vs) : (loadVar T ⟨g, i, none⟩).run P w = .ok (.agg vs.toArray) w := run_loadVarA ht (subL_spec hs).1 (fun j v hj => by rw [add_blk, hb.cell]; exact (subL_spec hs).2 j v hj)
theorem fin_c3 (hr : fn.results = #[.cell t T, .tmp u, .tmp x]) (hv : lk e t = some (.pointer (some ⟨g, i, none⟩))) (hb : Blk w g T' cs) (ht : tiO P T = some (true, s, b, z)) (hs : subL cs i s = some vs) (hu : lk e u = some v) (hx : lk e x = some v1) (h : R (.tuple #[.agg vs.toArray, v, v1]) w) : fin P n fn R .ret e w := fun a ha => by
  have h1 := ha.2.2 t _ hv
  have h3 := ha.2.2 u _ hu
  have h4 := ha.2.2 x _ hx
  have h2 := load_cell (P := P) hb ht hs
  simp only [Array.getD_eq_getD_getElem?] at h1 h3 h4
  refine ⟨_, ?_, h⟩
  simp only [results, hr]
  simp [Sem.run_bind, Result.andThen, asAddr, h1, h2, h3, h4]
end
end Go.Proofs.YtdoibplhbdkapaaGreatDoor
namespace Go.Proofs.YtdoibplhbdkapaaGreatDoor
open Go.RowKit
set_option linter.unusedVariables false
set_option linter.unusedSimpArgs false
set_option maxRecDepth 20000
theorem l11DrawMode_c (A : Option Addr) (B c : Nat) (bs : List UInt8) (gS a : Nat) (sd : Int) (A3 : Option Addr) (n c3 : Nat) (w : World) (q : Blk w gS 148 (srcC A c bs a sd)) (hs : Sl B w A (bs.flatMap eB)) (hB : B ≤ gS) (ok : a ≤ bs.length ∧ 0 ≤ sd ∧ sd < 2147483647) (hbl : bs.length ≤ 1048576) (hn17 : n ≤ 17) :
    Calls Tryz.prog 118 #[.pointer (some ⟨gS, 0, none⟩), .slice A3 n c3] w (Ret fun v w' => ∃ r a' sd', v = .int .i64 r ∧ True ∧ (a' ≤ bs.length ∧ 0 ≤ sd' ∧ sd' < 2147483647) ∧ Blk w' gS 148 (srcC A c bs a' sd') ∧ w.grownBy w' (some gS)) := by
  have Bhs := hs.1
  have X := gb_refl w (some gS)
  refine calls_of (args := [.pointer (some ⟨gS, 0, none⟩), .slice A3 n c3]) Tryz.func118 Tryz.ntmps118 rfl rfl ?_
  refine c_seqR ?_
  refine ops_cons rfl (ow_assign rfl ?_)
  refine ops_nil ?_
  refine c_seqR ?_
  refine ops_cons rfl (ow_move rfl ?_)
  refine ops_cons rfl (ow_move rfl ?_)
  refine ops_cons rfl (ow_len Tryz.underlying25 rfl ?_)
  refine ops_cons rfl (ow_call ent65 rfl (ret_mono (l01Next_c _ _ _ _ _ _ _ _ _ q hs hB ok hbl (by omega)) ?_))
  rintro _ w2 ⟨r1, a4, sd5, rfl, hr6, ok, b3, x1⟩
  replace hs := hs.grown x1 (by intro g hg; injection hg; omega)
  replace X := gb_trans X x1
  clear x1 q
  refine ops_cons rfl (ow_move rfl ?_)
  refine ops_cons rfl (ow_call ent65 rfl (ret_mono (l01Next_c _ _ _ _ _ _ _ _ _ b3 hs hB ok hbl (by omega)) ?_))
  rintro _ w9 ⟨r2, a11, sd12, rfl, hr13, ok, b10, x7⟩
  replace hs := hs.grown x7 (by intro g hg; injection hg; omega)
  replace X := gb_trans X x7
  clear x7 b3
  refine ops_cons rfl (ow_quo rfl rfl (by omega) (q64 (by omega)) ?_)
  refine ops_cons rfl (ow_move rfl ?_)
  refine ops_cons rfl (ow_len Tryz.underlying25 rfl ?_)
  have hq : r2 / 15 = 0 ∨ r2 / 15 = 1 := by omega
  have hqm : r2 / 15 * (n : Int) = 0 ∨ r2 / 15 * (n : Int) = n := by rcases hq with h | h <;> rw [h] <;> simp
  refine ops_cons rfl (ow_mul rfl rfl (w64 (by omega)) ?_)
  refine ops_cons rfl (ow_add rfl rfl (w64 (by omega)) ?_)
  refine ops_cons rfl (ow_move rfl ?_)
  refine ops_cons rfl (ow_call ent65 rfl (ret_mono (l01Next_c _ _ _ _ _ _ _ _ _ b10 hs hB ok hbl (by omega)) ?_))
  rintro _ w15 ⟨r3, a17, sd18, rfl, hr19, ok, b16, x14⟩
  replace hs := hs.grown x14 (by intro g hg; injection hg; omega)
  replace X := gb_trans X x14
  clear x14 b10
  refine ops_cons rfl (ow_quo rfl rfl (by omega) (q64 (by omega)) ?_)
  refine ops_cons rfl (ow_sub rfl rfl (w64 (by omega)) ?_)
  refine ops_cons rfl (ow_assign rfl ?_)
  refine ops_nil ?_
  refine c_ret ?_
  refine fin_ret1 rfl rfl ?_
  exact ⟨_, _, _, rfl, trivial, ok, b16, X⟩

theorem drawNode_c (A : Option Addr) (B c : Nat) (bs : List UInt8) (gS a : Nat) (sd : Int) (w : World) (q : Blk w gS 148 (srcC A c bs a sd)) (hs : Sl B w A (bs.flatMap eB)) (hB : B ≤ gS) (ok : a ≤ bs.length ∧ 0 ≤ sd ∧ sd < 2147483647) (hbl : bs.length ≤ 1048576) :
    Calls Tryz.prog 123 #[.pointer (some ⟨gS, 0, none⟩)] w (Ret fun v w' => ∃ y a' sd', v = .int .i64 y ∧ True ∧ (a' ≤ bs.length ∧ 0 ≤ sd' ∧ sd' < 2147483647) ∧ Blk w' gS 148 (srcC A c bs a' sd') ∧ w.grownBy w' (some gS)) := by
  have Bhs := hs.1
  have X := gb_refl w (some gS)
  refine calls_of (args := [.pointer (some ⟨gS, 0, none⟩)]) Tryz.func123 Tryz.ntmps123 rfl rfl ?_
  refine c_seqR ?_
  refine ops_cons rfl (ow_assign rfl ?_)
  refine ops_nil ?_
  refine c_seq ?_
  refine c_seqR ?_
  refine ops_cons rfl (ow_move rfl ?_)
  refine ops_cons rfl (ow_call ent65 rfl (ret_mono (l01Next_c _ _ _ _ _ _ _ _ _ q hs hB ok hbl (by omega)) ?_))
  rintro _ w2 ⟨r0, a4, sd5, rfl, hr6, ok, b3, x1⟩
  replace hs := hs.grown x1 (by intro g hg; injection hg; omega)
  replace X := gb_trans X x1
  clear x1 q
  refine ops_cons rfl (ow_eql2 rfl rfl (fun h7 => ?_) (fun h7 => ?_))
  refine ops_nil ?_
  refine c_true rfl ?_
  refine c_seqR ?_
  refine ops_cons rfl (ow_buildSlice el30 ti2 rfl rfl rfl rfl rfl ?_)
  intro g8 w10 eg8 oL bbg8 x9 zg8
  replace oL := Own.low oL X.size
  replace hs := hs.ext x9
  replace b3 := b3.ext x9
  replace X := gb_ext X x9; clear x9
  replace oL := oL.to (cs' := ([-1, 31, 32] : List Int).flatMap eI) rfl
  refine ops_cons rfl (ow_move rfl ?_)
  refine ops_cons rfl (ow_call ent65 rfl (ret_mono (l01Next_c _ _ _ _ _ _ _ _ _ b3 hs hB ok hbl (by omega)) ?_))
  rintro _ w12 ⟨rr, a14, sd15, rfl, hr16, ok, b13, x11⟩
  replace hs := hs.grown x11 (by intro g hg; injection hg; omega)
  replace oL := oL.grownBlk x11 (Own.neT oL b3 (by decide))
  replace X := gb_trans X x11
  clear x11 b3
  obtain ⟨y, hy⟩ : ∃ y, ([-1, 31, 32] : List Int)[rr.toNat]? = some y := ⟨_, List.getElem?_eq_getElem (by simp; omega)⟩
  refine ops_cons rfl (ow_indexT (oL).sl eI_len rfl el30 rfl rfl rfl hy (by omega) ?_)
  refine ops_cons rfl (ow_loadT (oL).sl eI_len hy ti2 rfl rfl rfl ?_)
  refine ops_cons rfl (ow_assign rfl ?_)
  refine ops_nil ?_
  refine c_ret ?_
  refine tq_r ?_
  refine fin_ret1 rfl rfl ?_
  · skip
    first
    | exact ⟨y, _, _, rfl, trivial, ok, b13, X⟩
    | exact ⟨r9, _, _, rfl, trivial, ok, b13, X⟩
  refine ops_nil ?_
  refine c_false rfl ?_
  refine c_skip ?_
  refine tq_n ?_
  refine c_seqR ?_
  refine ops_cons rfl (ow_move rfl ?_)
  refine ops_cons rfl (ow_call ent65 rfl (ret_mono (l01Next_c _ _ _ _ _ _ _ _ _ b3 hs hB ok hbl (by omega)) ?_))
  rintro _ w18 ⟨r9, a20, sd21, rfl, hr22, ok, b19, x17⟩
  replace hs := hs.grown x17 (by intro g hg; injection hg; omega)
  replace X := gb_trans X x17
  clear x17 b3
  refine ops_cons rfl (ow_assign rfl ?_)
  refine ops_nil ?_
  refine c_ret ?_
  refine fin_ret1 rfl rfl ?_
  · skip
    first
    | exact ⟨y, _, _, rfl, trivial, ok, b19, X⟩
    | exact ⟨r9, _, _, rfl, trivial, ok, b19, X⟩

theorem drawSA_c (A : Option Addr) (B c : Nat) (bs : List UInt8) (w : World) (hs : Sl B w A (bs.flatMap eB)) (hbl : bs.length ≤ 1048576) :
    Calls Tryz.prog 44 #[.slice A bs.length c] w (Ret fun v w' => ∃ (m : MedlI) (mode time : Int), v = .tuple #[.agg (MedlI.cells m).toArray, .int .i64 mode, .int .i64 time] ∧ (drwA m ∧ -1 ≤ time ∧ time ≤ 1800) ∧ MedF w.heap.size w'.heap.size w' m ∧ Ext w w') := by
  have Bhs := hs.1
  have X := Ext.refl w
  refine calls_of (args := [.slice A bs.length c]) Tryz.func44 Tryz.ntmps44 rfl rfl ?_
  refine c_seqR ?_
  refine ops_cons rfl (ow_alloc ti28 ?_)
  intro g2 w2 eg2 bR x1 zg2
  have lg2 : w.heap.size ≤ g2 := Nat.le_trans X.size (Nat.le_of_eq eg2.symm)
  have pg2hs := Nat.le_trans hs.1 (Nat.le_of_eq eg2.symm)
  replace hs := hs.ext x1
  replace X := Ext.trans X x1; clear x1
  refine ops_cons rfl (ow_assign rfl ?_)
  refine ops_cons rfl (ow_assign rfl ?_)
  refine ops_nil ?_
  refine c_seqR ?_
  refine ops_cons rfl (ow_move rfl ?_)
  refine ops_cons rfl (ow_call ent64 rfl (ret_mono (l01From_c _ _ _ _ _ hs hbl) ?_))
  rintro _ w4 ⟨gS, a7, sd8, rfl, lgS0, ok, q, x3⟩
  have lgS : w.heap.size ≤ gS := Nat.le_trans X.size lgS0
  replace hs := hs.ext x3
  replace bR := bR.ext x3
  replace X := Ext.trans X x3; clear x3
  have hB : B ≤ gS := by omega
  refine ops_cons rfl (ow_assign rfl ?_)
  refine ops_nil ?_
  refine c_seqR ?_
  refine ops_cons rfl (ow_move rfl ?_)
  have pS := q.lt
  have pbR := bR.lt
  have Lhm := X.size
  refine ops_cons rfl (ow_call ent67 rfl (ret_mono (l13DrawAny_c _ _ _ _ _ _ _ _ q hs hB ok hbl) ?_))
  rintro _ w10 ⟨m, a12, sd13, rfl, hdw, hm, ok, b11, x9⟩
  replace hs := hs.grown x9 (by intro g hg; injection hg; omega)
  replace bR := bR.grown x9 (by intro h; injection h; omega)
  replace X := X.grown x9 X.size (by intro g hg; injection hg; omega)
  clear x9 q
  refine ops_cons rfl (ow_alloc ti28 ?_)
  intro gM w15 egM b0 x14 zgM
  have lgM : w.heap.size ≤ gM := Nat.le_trans X.size (Nat.le_of_eq egM.symm)
  have pgMhs := Nat.le_trans hs.1 (Nat.le_of_eq egM.symm)
  have ngMbR := Nat.lt_of_lt_of_eq bR.lt egM.symm
  have ngMb11 := Nat.lt_of_lt_of_eq b11.lt egM.symm
  have pgMhm := Nat.le_trans hm.hB (Nat.le_of_eq egM.symm)
  replace hs := hs.ext x14
  replace bR := bR.ext x14
  replace b11 := b11.ext x14
  replace hm := hm.ext x14
  replace X := Ext.trans X x14; clear x14
  refine ops_cons rfl (ow_storeB b0 ti28 rfl rfl rfl rfl rfl rfl ?_)
  intro w17 bM hg16 z18
  replace hs := hs.grown hg16 (by intro g hg; injection hg; omega)
  replace bR := bR.grown hg16 (by intro h; injection h; omega)
  replace b11 := b11.grown hg16 (by intro h; injection h; omega)
  replace hm := hm.grown hg16 (by omega)
  replace X := X.grown hg16 X.size (by intro g hg; injection hg; omega)
  clear hg16 b0
  replace bM : Blk _ gM 28 m.cells := bM
  refine ops_nil ?_
  refine c_seqR ?_
  refine ops_cons rfl (ow_move rfl ?_)
  refine ops_cons rfl (ow_fieldAddrB off28_2 rfl rfl ?_)
  refine ops_cons rfl (ow_loadB bM ti25 rfl rfl ?_)
  refine ops_cons rfl (ow_call ent118 rfl (ret_mono (l11DrawMode_c _ _ _ _ _ _ _ _ _ _ _ b11 hs hB ok hbl hdw.2) ?_))
  rintro _ w20 ⟨rm, a22, sd23, rfl, h_, ok, b21, x19⟩
  replace hs := hs.grown x19 (by intro g hg; injection hg; omega)
  replace bR := bR.grown x19 (by intro h; injection h; omega)
  replace hm := hm.grown x19 (by omega)
  replace bM := bM.grown x19 (by intro h; injection h; omega)
  replace X := X.grown x19 X.size (by intro g hg; injection hg; omega)
  clear x19 b11
  refine ops_cons rfl (ow_assign rfl ?_)
  refine ops_nil ?_
  refine c_seqI (fun wz => Blk wz gM 28 m.cells) mixed ?_
  obtain ⟨w24, ew24⟩ : ∃ wy, wy = World.drew w20 := ⟨_, rfl⟩
  rw [← ew24]
  have xd : Ext w20 w24 := ew24 ▸ Ext.drew w20
  replace hs := hs.ext xd
  replace bR := bR.ext xd
  replace hm := hm.ext xd
  replace bM := bM.ext xd
  replace b21 := b21.ext xd
  replace X := Ext.trans X xd; clear xd ew24
  refine wi_take 0 rfl (by kernel_rfl) rfl (by kernel_rfl) (listed' := #[true, false, false, false, false, false, false, false, false, false, false]) rfl (fun wq sq => ow_loadAB sq ti28 rfl rfl ⟨rfl, rfl⟩) ?_
  refine wi_take 1 rfl (by kernel_rfl) rfl (by kernel_rfl) (listed' := #[true, true, false, false, false, false, false, false, false, false, false]) rfl (fun wq sq => ow_move rfl ⟨rfl, rfl⟩) ?_
  refine wi_take 2 rfl (by kernel_rfl) rfl (by kernel_rfl) (listed' := #[true, true, true, false, false, false, false, false, false, false, false]) rfl (fun wq sq => ow_move rfl ⟨rfl, rfl⟩) ?_
  refine wi_take 4 rfl (by kernel_rfl) rfl (by kernel_rfl) (listed' := #[true, true, true, false, true, false, false, false, false, false, false]) rfl (fun wq sq => ow_move rfl ⟨rfl, rfl⟩) ?_
  refine wi_one 3 rfl rfl (by kernel_rfl) (listed' := #[true, true, true, true, true, false, false, false, false, false, false]) rfl bM (ow_call ent65 rfl (ret_mono (l01Next_c _ _ _ _ _ _ _ _ _ b21 hs hB ok hbl (by omega)) ?_))
  rintro _ w26 ⟨r1, a28, sd29, rfl, hr30, ok, b27, x25⟩
  replace hs := hs.grown x25 (by intro g hg; injection hg; omega)
  replace bR := bR.grown x25 (by intro h; injection h; omega)
  replace hm := hm.grown x25 (by omega)
  replace bM := bM.grown x25 (by intro h; injection h; omega)
  replace X := X.grown x25 X.size (by intro g hg; injection hg; omega)
  clear x25 b21
  refine wi_one 5 rfl rfl (by kernel_rfl) (listed' := #[true, true, true, true, true, true, false, false, false, false, false]) rfl bM (ow_call ent65 rfl (ret_mono (l01Next_c _ _ _ _ _ _ _ _ _ b27 hs hB ok hbl (by omega)) ?_))
  rintro _ w32 ⟨r2, a34, sd35, rfl, hr36, ok, b33, x31⟩
  replace hs := hs.grown x31 (by intro g hg; injection hg; omega)
  replace bR := bR.grown x31 (by intro h; injection h; omega)
  replace hm := hm.grown x31 (by omega)
  replace bM := bM.grown x31 (by intro h; injection h; omega)
  replace X := X.grown x31 X.size (by intro g hg; injection hg; omega)
  clear x31 b27
  refine wi_take 6 rfl (by kernel_rfl) rfl (by kernel_rfl) (listed' := #[true, true, true, true, true, true, true, false, false, false, false]) rfl (fun wq sq => ow_quo rfl rfl (by omega) (q64 (by omega)) ⟨rfl, rfl⟩) ?_
  refine wi_take 7 rfl (by kernel_rfl) rfl (by kernel_rfl) (listed' := #[true, true, true, true, true, true, true, true, false, false, false]) rfl (fun wq sq => ow_sub rfl rfl (w64 (by omega)) ⟨rfl, rfl⟩) ?_
  refine wi_one 8 rfl rfl (by kernel_rfl) (listed' := #[true, true, true, true, true, true, true, true, true, false, false]) rfl bM (ow_storeB bR ti28 rfl rfl rfl rfl rfl rfl ?_)
  intro w38 bZ hg37 z39
  replace hs := hs.grown hg37 (by intro g hg; injection hg; omega)
  replace hm := hm.grown hg37 (by omega)
  replace bM := bM.grown hg37 (by intro h; injection h; omega)
  replace b33 := b33.grown hg37 (by intro h; injection h; omega)
  replace X := X.grown hg37 X.size (by intro g hg; injection hg; omega)
  clear hg37 bR
  refine wi_take 9 rfl (by kernel_rfl) rfl (by kernel_rfl) (listed' := #[true, true, true, true, true, true, true, true, true, true, false]) rfl (fun wq sq => ow_assign rfl ⟨rfl, rfl⟩) ?_
  refine wi_take 10 rfl (by kernel_rfl) rfl (by kernel_rfl) (listed' := #[true, true, true, true, true, true, true, true, true, true, true]) rfl (fun wq sq => ow_assign rfl ⟨rfl, rfl⟩) ?_
  refine wi_done rfl bM (fun aj fj => ⟨_, fj, ?_⟩)
  refine c_ret ?_
  refine fin_c3 rfl rfl bZ ti28 rfl rfl rfl ?_
  exact ⟨m, rm, _, rfl, ⟨hdw, by omega, by omega⟩, hm.up (by omega) hm.hB (Nat.le_refl _), X⟩

theorem drawST_c (A : Option Addr) (B c : Nat) (bs : List UInt8) (w : World) (hs : Sl B w A (bs.flatMap eB)) (hbl : bs.length ≤ 1048576) :
    Calls Tryz.prog 47 #[.slice A bs.length c] w (Ret fun v w' => ∃ (m : MedlI) (mode node : Int), v = .tuple #[.agg (MedlI.cells m).toArray, .int .i64 mode, .int .i64 node] ∧ drwA m ∧ MedF w.heap.size w'.heap.size w' m ∧ Ext w w') := by
  have Bhs := hs.1
  have X := Ext.refl w
  refine calls_of (args := [.slice A bs.length c]) Tryz.func47 Tryz.ntmps47 rfl rfl ?_
  refine c_seqR ?_
  refine ops_cons rfl (ow_alloc ti28 ?_)
  intro g2 w2 eg2 bR x1 zg2
  have lg2 : w.heap.size ≤ g2 := Nat.le_trans X.size (Nat.le_of_eq eg2.symm)
  have pg2hs := Nat.le_trans hs.1 (Nat.le_of_eq eg2.symm)
  replace hs := hs.ext x1
  replace X := Ext.trans X x1; clear x1
  refine ops_cons rfl (ow_assign rfl ?_)
  refine ops_cons rfl (ow_assign rfl ?_)
  refine ops_nil ?_
  refine c_seqR ?_
  refine ops_cons rfl (ow_move rfl ?_)
  refine ops_cons rfl (ow_call ent64 rfl (ret_mono (l01From_c _ _ _ _ _ hs hbl) ?_))
  rintro _ w4 ⟨gS, a7, sd8, rfl, lgS0, ok, q, x3⟩
  have lgS : w.heap.size ≤ gS := Nat.le_trans X.size lgS0
  replace hs := hs.ext x3
  replace bR := bR.ext x3
  replace X := Ext.trans X x3; clear x3
  have hB : B ≤ gS := by omega
  refine ops_cons rfl (ow_assign rfl ?_)
  refine ops_nil ?_
  refine c_seqR ?_
  refine ops_cons rfl (ow_move rfl ?_)
  have pS := q.lt
  have pbR := bR.lt
  have Lhm := X.size
  refine ops_cons rfl (ow_call ent67 rfl (ret_mono (l13DrawAny_c _ _ _ _ _ _ _ _ q hs hB ok hbl) ?_))
  rintro _ w10 ⟨m, a12, sd13, rfl, hdw, hm, ok, b11, x9⟩
  replace hs := hs.grown x9 (by intro g hg; injection hg; omega)
  replace bR := bR.grown x9 (by intro h; injection h; omega)
  replace X := X.grown x9 X.size (by intro g hg; injection hg; omega)
  clear x9 q
  obtain ⟨loM, hiM, pSl, pRl, hm⟩ : ∃ loM hiM, gS < loM ∧ g2 < loM ∧ MedF loM hiM _ m := ⟨_, _, pS, pbR, hm⟩
  refine ops_cons rfl (ow_alloc ti28 ?_)
  intro gM w15 egM b0 x14 zgM
  have lgM : w.heap.size ≤ gM := Nat.le_trans X.size (Nat.le_of_eq egM.symm)
  have pgMhs := Nat.le_trans hs.1 (Nat.le_of_eq egM.symm)
  have ngMbR := Nat.lt_of_lt_of_eq bR.lt egM.symm
  have ngMb11 := Nat.lt_of_lt_of_eq b11.lt egM.symm
  have pgMhm := Nat.le_trans hm.hB (Nat.le_of_eq egM.symm)
  replace hs := hs.ext x14
  replace bR := bR.ext x14
  replace b11 := b11.ext x14
  replace hm := hm.ext x14
  replace X := Ext.trans X x14; clear x14
  refine ops_cons rfl (ow_storeB b0 ti28 rfl rfl rfl rfl rfl rfl ?_)
  intro w17 bM hg16 z18
  replace hs := hs.grown hg16 (by intro g hg; injection hg; omega)
  replace bR := bR.grown hg16 (by intro h; injection h; omega)
  replace b11 := b11.grown hg16 (by intro h; injection h; omega)
  replace hm := hm.grown hg16 (by omega)
  replace X := X.grown hg16 X.size (by intro g hg; injection hg; omega)
  clear hg16 b0
  replace bM : Blk _ gM 28 m.cells := bM
  refine ops_nil ?_
  refine c_seqR ?_
  refine ops_cons rfl (ow_move rfl ?_)
  refine ops_cons rfl (ow_fieldAddrB off28_2 rfl rfl ?_)
  refine ops_cons rfl (ow_loadB bM ti25 rfl rfl ?_)
  refine ops_cons rfl (ow_call ent118 rfl (ret_mono (l11DrawMode_c _ _ _ _ _ _ _ _ _ _ _ b11 hs hB ok hbl hdw.2) ?_))
  rintro _ w20 ⟨rm, a22, sd23, rfl, h_, ok, b21, x19⟩
  replace hs := hs.grown x19 (by intro g hg; injection hg; omega)
  replace bR := bR.grown x19 (by intro h; injection h; omega)
  replace hm := hm.grown x19 (by omega)
  replace bM := bM.grown x19 (by intro h; injection h; omega)
  replace X := X.grown x19 X.size (by intro g hg; injection hg; omega)
  clear x19 b11
  refine ops_cons rfl (ow_assign rfl ?_)
  refine ops_nil ?_
  refine c_seq ?_
  refine c_seqR ?_
  refine ops_cons rfl (ow_fieldAddrB off28_1 rfl rfl ?_)
  have hln := hdw.1.ln
  refine ops_cons rfl (ow_loadB bM ti24 rfl rfl ?_)
  refine ops_cons rfl (ow_len Tryz.underlying24 rfl ?_)
  refine ops_cons rfl (ow_gtr2 rfl rfl (fun h4 => ?_) (fun h4 => ?_))
  refine ops_cons rfl (ow_move rfl ?_)
  refine ops_want rfl rfl rfl (ow_move rfl ?_)
  refine ops_want rfl rfl rfl (ow_call ent65 rfl (ret_mono (l01Next_c _ _ _ _ _ _ _ _ _ b21 hs hB ok hbl (by omega)) ?_))
  rintro _ w25 ⟨r6, a27, sd28, rfl, hr29, ok, b26, x24⟩
  replace hs := hs.grown x24 (by intro g hg; injection hg; omega)
  replace bR := bR.grown x24 (by intro h; injection h; omega)
  replace hm := hm.grown x24 (by omega)
  replace bM := bM.grown x24 (by intro h; injection h; omega)
  replace X := X.grown x24 X.size (by intro g hg; injection hg; omega)
  clear x24 b21
  refine ops_want rfl rfl rfl (ow_gtr2 rfl rfl (fun h47 => ?_) (fun h47 => ?_))
  refine ops_cons rfl (ow_pick rfl rfl ?_)
  refine ops_nil ?_
  refine c_true rfl ?_
  refine c_seqI (fun wz => Blk wz gM 28 m.cells ∧ MedF loM hiM wz m) mixed ?_
  obtain ⟨w30, ew30⟩ : ∃ wy, wy = World.drew w25 := ⟨_, rfl⟩
  rw [← ew30]
  have xd : Ext w25 w30 := ew30 ▸ Ext.drew w25
  replace hs := hs.ext xd
  replace bR := bR.ext xd
  replace hm := hm.ext xd
  replace bM := bM.ext xd
  replace b26 := b26.ext xd
  replace X := Ext.trans X xd; clear xd ew30
  refine wi_take 0 rfl (by kernel_rfl) rfl (by kernel_rfl) (listed' := #[true, false, false, false, false, false, false, false, false, false, false, false, false, false, false]) rfl (fun wq sq => ow_loadAB sq.1 ti28 rfl rfl ⟨rfl, rfl⟩) ?_
  refine wi_take 1 rfl (by kernel_rfl) rfl (by kernel_rfl) (listed' := #[true, true, false, false, false, false, false, false, false, false, false, false, false, false, false]) rfl (fun wq sq => ow_move rfl ⟨rfl, rfl⟩) ?_
  refine wi_take 2 rfl (by kernel_rfl) rfl (by kernel_rfl) (listed' := #[true, true, true, false, false, false, false, false, false, false, false, false, false, false, false]) rfl (fun wq sq => ow_fieldAddrB off28_1 rfl rfl ⟨rfl, rfl⟩) ?_
  refine wi_take 3 rfl (by kernel_rfl) rfl (by kernel_rfl) (listed' := #[true, true, true, true, false, false, false, false, false, false, false, false, false, false, false]) rfl (fun wq sq => ow_loadB sq.1 ti24 rfl rfl ⟨rfl, rfl⟩) ?_
  refine wi_take 4 rfl (by kernel_rfl) rfl (by kernel_rfl) (listed' := #[true, true, true, true, true, false, false, false, false, false, false, false, false, false, false]) rfl (fun wq sq => ow_move rfl ⟨rfl, rfl⟩) ?_
  refine wi_take 5 rfl (by kernel_rfl) rfl (by kernel_rfl) (listed' := #[true, true, true, true, true, true, false, false, false, false, false, false, false, false, false]) rfl (fun wq sq => ow_fieldAddrB off28_1 rfl rfl ⟨rfl, rfl⟩) ?_
  refine wi_take 6 rfl (by kernel_rfl) rfl (by kernel_rfl) (listed' := #[true, true, true, true, true, true, true, false, false, false, false, false, false, false, false]) rfl (fun wq sq => ow_loadB sq.1 ti24 rfl rfl ⟨rfl, rfl⟩) ?_
  refine wi_take 7 rfl (by kernel_rfl) rfl (by kernel_rfl) (listed' := #[true, true, true, true, true, true, true, true, false, false, false, false, false, false, false]) rfl (fun wq sq => ow_len Tryz.underlying24 rfl ⟨rfl, rfl⟩) ?_
  refine wi_one 8 rfl rfl (by kernel_rfl) (listed' := #[true, true, true, true, true, true, true, true, true, false, false, false, false, false, false]) rfl ⟨bM, hm⟩ (ow_call ent65 rfl (ret_mono (l01Next_c _ _ _ _ _ _ _ _ _ b26 hs hB ok hbl (by omega)) ?_))
  rintro _ w32 ⟨rk, a34, sd35, rfl, hr36, ok, b33, x31⟩
  replace hs := hs.grown x31 (by intro g hg; injection hg; omega)
  replace bR := bR.grown x31 (by intro h; injection h; omega)
  replace hm := hm.grown x31 (by omega)
  replace bM := bM.grown x31 (by intro h; injection h; omega)
  replace X := X.grown x31 X.size (by intro g hg; injection hg; omega)
  clear x31 b26
  obtain ⟨x, hx⟩ : ∃ x, m.ns[rk.toNat]? = some x := ⟨_, List.getElem?_eq_getElem (by omega)⟩
  refine wi_take 9 rfl (by kernel_rfl) rfl (by kernel_rfl) (listed' := #[true, true, true, true, true, true, true, true, true, true, false, false, false, false, false]) rfl (fun wq sq => ow_indexT (sq.2).med.sn NodeI.len rfl el24 rfl rfl rfl hx (by omega) ⟨rfl, rfl⟩) ?_
  refine wi_take 10 rfl (by kernel_rfl) rfl (by kernel_rfl) (listed' := #[true, true, true, true, true, true, true, true, true, true, true, false, false, false, false]) rfl (fun wq sq => ow_fieldAddr off59_0 rfl ⟨rfl, rfl⟩) ?_
  refine wi_take 11 rfl (by kernel_rfl) rfl (by kernel_rfl) (listed' := #[true, true, true, true, true, true, true, true, true, true, true, true, false, false, false]) rfl (fun wq sq => ow_loadTF (sq.2).med.sn NodeI.len hx ti2 rfl rfl rfl ⟨rfl, rfl⟩) ?_
  refine wi_one 12 rfl rfl (by kernel_rfl) (listed' := #[true, true, true, true, true, true, true, true, true, true, true, true, true, false, false]) rfl ⟨bM, hm⟩ (ow_storeB bR ti28 rfl rfl rfl rfl rfl rfl ?_)
  intro w38 bZ hg37 z39
  replace hs := hs.grown hg37 (by intro g hg; injection hg; omega)
  replace hm := hm.grown hg37 (by omega)
  replace bM := bM.grown hg37 (by intro h; injection h; omega)
  replace b33 := b33.grown hg37 (by intro h; injection h; omega)
  replace X := X.grown hg37 X.size (by intro g hg; injection hg; omega)
  clear hg37 bR
  refine wi_take 13 rfl (by kernel_rfl) rfl (by kernel_rfl) (listed' := #[true, true, true, true, true, true, true, true, true, true, true, true, true, true, false]) rfl (fun wq sq => ow_assign rfl ⟨rfl, rfl⟩) ?_
  refine wi_take 14 rfl (by kernel_rfl) rfl (by kernel_rfl) (listed' := #[true, true, true, true, true, true, true, true, true, true, true, true, true, true, true]) rfl (fun wq sq => ow_assign rfl ⟨rfl, rfl⟩) ?_
  refine wi_done rfl ⟨bM, hm⟩ (fun aj fj => ⟨_, fj, ?_⟩)
  refine c_ret ?_
  refine tq_r ?_
  refine fin_c3 rfl rfl bZ ti28 rfl rfl rfl ?_
  · skip
    first
    | exact ⟨m, rm, x.id, rfl, hdw, hm.up (by omega) hm.hB (Nat.le_refl _), X⟩
    | exact ⟨m, rm, rn, rfl, hdw, hm.up (by omega) hm.hB (Nat.le_refl _), X⟩
  refine ops_cons rfl (ow_pick rfl rfl ?_)
  refine ops_nil ?_
  refine c_false rfl ?_
  refine c_skip ?_
  refine tq_n ?_
  refine c_seqI (fun wz => Blk wz gM 28 m.cells) mixed ?_
  obtain ⟨w40, ew40⟩ : ∃ wy, wy = World.drew w25 := ⟨_, rfl⟩
  rw [← ew40]
  have xd : Ext w25 w40 := ew40 ▸ Ext.drew w25
  replace hs := hs.ext xd
  replace bR := bR.ext xd
  replace hm := hm.ext xd
  replace bM := bM.ext xd
  replace b26 := b26.ext xd
  replace X := Ext.trans X xd; clear xd ew40
  refine wi_take 0 rfl (by kernel_rfl) rfl (by kernel_rfl) (listed' := #[true, false, false, false, false, false, false]) rfl (fun wq sq => ow_loadAB sq ti28 rfl rfl ⟨rfl, rfl⟩) ?_
  refine wi_take 1 rfl (by kernel_rfl) rfl (by kernel_rfl) (listed' := #[true, true, false, false, false, false, false]) rfl (fun wq sq => ow_move rfl ⟨rfl, rfl⟩) ?_
  refine wi_take 2 rfl (by kernel_rfl) rfl (by kernel_rfl) (listed' := #[true, true, true, false, false, false, false]) rfl (fun wq sq => ow_move rfl ⟨rfl, rfl⟩) ?_
  refine wi_one 3 rfl rfl (by kernel_rfl) (listed' := #[true, true, true, true, false, false, false]) rfl bM (ow_call ent123 rfl (ret_mono (drawNode_c _ _ _ _ _ _ _ _ b26 hs hB ok hbl) ?_))
  rintro _ w42 ⟨rn, a44, sd45, rfl, h_, ok, b43, x41⟩
  replace hs := hs.grown x41 (by intro g hg; injection hg; omega)
  replace bR := bR.grown x41 (by intro h; injection h; omega)
  replace hm := hm.grown x41 (by omega)
  replace bM := bM.grown x41 (by intro h; injection h; omega)
  replace X := X.grown x41 X.size (by intro g hg; injection hg; omega)
  clear x41 b26
  refine wi_one 4 rfl rfl (by kernel_rfl) (listed' := #[true, true, true, true, true, false, false]) rfl bM (ow_storeB bR ti28 rfl rfl rfl rfl rfl rfl ?_)
  intro w47 bZ hg46 z48
  replace hs := hs.grown hg46 (by intro g hg; injection hg; omega)
  replace hm := hm.grown hg46 (by omega)
  replace bM := bM.grown hg46 (by intro h; injection h; omega)
  replace b43 := b43.grown hg46 (by intro h; injection h; omega)
  replace X := X.grown hg46 X.size (by intro g hg; injection hg; omega)
  clear hg46 bR
  refine wi_take 5 rfl (by kernel_rfl) rfl (by kernel_rfl) (listed' := #[true, true, true, true, true, true, false]) rfl (fun wq sq => ow_assign rfl ⟨rfl, rfl⟩) ?_
  refine wi_take 6 rfl (by kernel_rfl) rfl (by kernel_rfl) (listed' := #[true, true, true, true, true, true, true]) rfl (fun wq sq => ow_assign rfl ⟨rfl, rfl⟩) ?_
  refine wi_done rfl bM (fun aj fj => ⟨_, fj, ?_⟩)
  refine c_ret ?_
  refine fin_c3 rfl rfl bZ ti28 rfl rfl rfl ?_
  · skip
    first
    | exact ⟨m, rm, x.id, rfl, hdw, hm.up (by omega) hm.hB (Nat.le_refl _), X⟩
    | exact ⟨m, rm, rn, rfl, hdw, hm.up (by omega) hm.hB (Nat.le_refl _), X⟩
  refine ops_cons rfl (ow_move rfl ?_)
  refine ops_skip rfl rfl rfl rfl ?_
  refine ops_skip rfl rfl rfl rfl ?_
  refine ops_skip rfl rfl rfl rfl ?_
  refine ops_cons rfl (ow_pick rfl rfl ?_)
  refine ops_nil ?_
  refine c_false rfl ?_
  refine c_skip ?_
  refine tq_n ?_
  refine c_seqI (fun wz => Blk wz gM 28 m.cells) mixed ?_
  obtain ⟨w49, ew49⟩ : ∃ wy, wy = World.drew w20 := ⟨_, rfl⟩
  rw [← ew49]
  have xd : Ext w20 w49 := ew49 ▸ Ext.drew w20
  replace hs := hs.ext xd
  replace bR := bR.ext xd
  replace hm := hm.ext xd
  replace bM := bM.ext xd
  replace b21 := b21.ext xd
  replace X := Ext.trans X xd; clear xd ew49
  refine wi_take 0 rfl (by kernel_rfl) rfl (by kernel_rfl) (listed' := #[true, false, false, false, false, false, false]) rfl (fun wq sq => ow_loadAB sq ti28 rfl rfl ⟨rfl, rfl⟩) ?_
  refine wi_take 1 rfl (by kernel_rfl) rfl (by kernel_rfl) (listed' := #[true, true, false, false, false, false, false]) rfl (fun wq sq => ow_move rfl ⟨rfl, rfl⟩) ?_
  refine wi_take 2 rfl (by kernel_rfl) rfl (by kernel_rfl) (listed' := #[true, true, true, false, false, false, false]) rfl (fun wq sq => ow_move rfl ⟨rfl, rfl⟩) ?_
  refine wi_one 3 rfl rfl (by kernel_rfl) (listed' := #[true, true, true, true, false, false, false]) rfl bM (ow_call ent123 rfl (ret_mono (drawNode_c _ _ _ _ _ _ _ _ b21 hs hB ok hbl) ?_))
  rintro _ w51 ⟨rn, a53, sd54, rfl, h_, ok, b52, x50⟩
  replace hs := hs.grown x50 (by intro g hg; injection hg; omega)
  replace bR := bR.grown x50 (by intro h; injection h; omega)
  replace hm := hm.grown x50 (by omega)
  replace bM := bM.grown x50 (by intro h; injection h; omega)
  replace X := X.grown x50 X.size (by intro g hg; injection hg; omega)
  clear x50 b21
  refine wi_one 4 rfl rfl (by kernel_rfl) (listed' := #[true, true, true, true, true, false, false]) rfl bM (ow_storeB bR ti28 rfl rfl rfl rfl rfl rfl ?_)
  intro w56 bZ hg55 z57
  replace hs := hs.grown hg55 (by intro g hg; injection hg; omega)
  replace hm := hm.grown hg55 (by omega)
  replace bM := bM.grown hg55 (by intro h; injection h; omega)
  replace b52 := b52.grown hg55 (by intro h; injection h; omega)
  replace X := X.grown hg55 X.size (by intro g hg; injection hg; omega)
  clear hg55 bR
  refine wi_take 5 rfl (by kernel_rfl) rfl (by kernel_rfl) (listed' := #[true, true, true, true, true, true, false]) rfl (fun wq sq => ow_assign rfl ⟨rfl, rfl⟩) ?_
  refine wi_take 6 rfl (by kernel_rfl) rfl (by kernel_rfl) (listed' := #[true, true, true, true, true, true, true]) rfl (fun wq sq => ow_assign rfl ⟨rfl, rfl⟩) ?_
  refine wi_done rfl bM (fun aj fj => ⟨_, fj, ?_⟩)
  refine c_ret ?_
  refine fin_c3 rfl rfl bZ ti28 rfl rfl rfl ?_
  · skip
    first
    | exact ⟨m, rm, x.id, rfl, hdw, hm.up (by omega) hm.hB (Nat.le_refl _), X⟩
    | exact ⟨m, rm, rn, rfl, hdw, hm.up (by omega) hm.hB (Nat.le_refl _), X⟩
end Go.Proofs.YtdoibplhbdkapaaGreatDoor
