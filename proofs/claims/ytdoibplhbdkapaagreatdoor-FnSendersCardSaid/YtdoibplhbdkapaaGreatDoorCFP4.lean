/- Texts of the seat that a law needs, put together. No condition. -/
import Derived.Test.YtdoibplhbdkapaaGreatDoorCFP3
import Derived.Lib.SlTrimSet
namespace Go.Proofs.YtdoibplhbdkapaaGreatDoor
open Go.RowKit
set_option linter.unusedVariables false
set_option linter.unusedSimpArgs false
set_option maxRecDepth 20000
theorem l01From_c (A : Option Addr) (B c : Nat) (bs : List UInt8) (w : World) (hs : Sl B w A (bs.flatMap eB)) (hbl : bs.length ≤ 1048576) :
    Calls Tryz.prog 64 #[.slice A bs.length c] w (Ret fun v w' => ∃ gS a sd, v = .pointer (some ⟨gS, 0, none⟩) ∧ w.heap.size ≤ gS ∧ (a ≤ bs.length ∧ 0 ≤ sd ∧ sd < 2147483647) ∧ Blk w' gS 148 (srcC A c bs a sd) ∧ Ext w w') := by
  have Bhs := hs.1
  have X := Ext.refl w
  refine calls_of (args := [.slice A bs.length c]) Tryz.func64 Tryz.ntmps64 rfl rfl ?_
  refine c_seqR ?_
  refine ops_cons rfl (ow_assign rfl ?_)
  refine ops_nil ?_
  refine c_seqR ?_
  refine ops_cons rfl (ow_move rfl ?_)
  refine ops_cons rfl (ow_buildP pl148 ti148 rfl rfl ?_)
  refine ops_cons rfl (ow_box rfl rfl ?_)
  intro gS w2 egS q x1 zgS
  have lgS : w.heap.size ≤ gS := Nat.le_trans X.size (Nat.le_of_eq egS.symm)
  have pgShs := Nat.le_trans hs.1 (Nat.le_of_eq egS.symm)
  replace hs := hs.ext x1
  replace X := Ext.trans X x1; clear x1
  have q : Blk _ gS 148 (srcC A c bs 0 40009) := q
  refine ops_cons rfl (ow_assign rfl ?_)
  refine ops_nil ?_
  refine c_seq ?_
  refine c_seqR ?_
  refine ops_cons rfl (ow_assign rfl ?_)
  refine ops_nil ?_
  refine c_block ?_
  refine c_loop (G := Nat × Int) (fun ⟨k, s⟩ => [(0, .slice A bs.length c), (3, .pointer (some ⟨gS, 0, none⟩)), (4, .int .i64 (k : Nat))]) (fun ⟨k, s⟩ wr => k ≤ bs.length ∧ (0 ≤ s ∧ s < 2147483647) ∧ Blk wr gS 148 (srcC A c bs 0 s) ∧ Sl B wr A (bs.flatMap eB) ∧ Ext w wr) (fun ⟨k, s⟩ => bs.length - k) (0, 40009) (.cons rfl (.cons rfl (.cons rfl (.nil _)))) ?_ ?_
  · exact ⟨by omega, (by omega), q, hs, X⟩
  clear hs q
  clear X
  rintro ⟨k, s⟩ wr ⟨hk0, hs0, q, hs, X⟩
  refine c_seq ?_
  refine c_seqR ?_
  refine ops_cons rfl (ow_move rfl ?_)
  refine ops_cons rfl (ow_move rfl ?_)
  refine ops_cons rfl (ow_len Tryz.underlying22 rfl ?_)
  refine ops_cons rfl (ow_lss2 rfl rfl (fun hk => ?_) (fun hk => ?_))
  obtain ⟨x, hx, dx⟩ := drop_at' hk
  have hxb := u8_in x
  refine ops_cons rfl (ow_move rfl ?_)
  refine ops_want rfl rfl rfl (ow_move rfl ?_)
  refine ops_want rfl rfl rfl (ow_lss2 rfl rfl (fun hk2 => ?_) (fun hk2 => ?_))
  refine ops_cons rfl (ow_pick rfl rfl ?_)
  refine ops_nil ?_
  refine c_true rfl ?_
  refine c_skip ?_
  refine tq_n ?_
  refine c_seq ?_
  refine c_block ?_
  refine c_draw [false, false, false, false, false, false, false, false, false, false, false, false, false, false, false] mixed (by kernel_rfl) ?_
  refine f_q rfl (fun wq sq => ow_move rfl ⟨rfl, Ext.refl _⟩) ?_
  refine f_q rfl (fun wq sq => ow_move rfl ⟨rfl, Ext.refl _⟩) ?_
  refine f_q rfl (fun wq sq => ow_nilCheck rfl ⟨rfl, Ext.refl _⟩) ?_
  refine f_q rfl (fun wq sq => ow_fieldAddrB off148_2 rfl rfl ⟨rfl, Ext.refl _⟩) ?_
  refine f_q rfl (fun wq sq => ow_loadB (q.ext sq) ti2 rfl rfl ⟨rfl, Ext.refl _⟩) ?_
  refine f_q rfl (fun wq sq => ow_mul rfl rfl (w64 (by omega)) ⟨rfl, Ext.refl _⟩) ?_
  refine f_q rfl (fun wq sq => ow_move rfl ⟨rfl, Ext.refl _⟩) ?_
  refine f_q rfl (fun wq sq => ow_move rfl ⟨rfl, Ext.refl _⟩) ?_
  refine f_q rfl (fun wq sq => ow_indexT (hs.ext sq) eB_len rfl el22 rfl rfl rfl hx rfl ⟨rfl, Ext.refl _⟩) ?_
  refine f_q rfl (fun wq sq => ow_loadT (hs.ext sq) eB_len hx ti5 rfl rfl rfl ⟨rfl, Ext.refl _⟩) ?_
  refine f_q rfl (fun wq sq => ow_conv Tryz.underlying5 Tryz.underlying2 rfl (w64 (by omega)) ⟨rfl, Ext.refl _⟩) ?_
  refine f_q rfl (fun wq sq => ow_add rfl rfl (w64 (by omega)) ⟨rfl, Ext.refl _⟩) ?_
  refine f_q rfl (fun wq sq => ow_rem rfl rfl (by omega) (m64 (by omega)) ⟨rfl, Ext.refl _⟩) ?_
  refine f_q rfl (fun wq sq => ow_nilCheck rfl ⟨rfl, Ext.refl _⟩) ?_
  refine f_q rfl (fun wq sq => ow_fieldAddrB off148_2 rfl rfl ⟨rfl, Ext.refl _⟩) ?_
  refine f_nil (fun w3 sq => ?_)
  have xq := sq
  replace q := q.ext xq
  replace hs := hs.ext xq
  replace X := Ext.trans X xq; clear xq sq
  refine ops_cons rfl (ow_storeB q ti2 rfl rfl rfl rfl rfl rfl ?_)
  intro w5 q2 hg4 z6
  replace hs := hs.grown hg4 (by intro g hg; injection hg; omega)
  replace X := X.grown hg4 X.size (by intro g hg; injection hg; omega)
  clear hg4 q
  refine ops_nil ?_
  refine bq_n ?_
  refine tq_n ?_
  refine c_region ?_
  refine ops_cons rfl (ow_move rfl ?_)
  refine ops_cons rfl (ow_add rfl rfl (w64 (by omega)) ?_)
  refine ops_cons rfl (ow_assign rfl ?_)
  refine ops_nil ?_
  refine tq_n ⟨(k + 1, (s * 53 + (x.toNat : Int)) % 2147483647), (.cons rfl (.cons rfl (.cons rfl (.nil _)))), ?_, ?_⟩
  · exact ⟨by omega, (by omega), q2, hs, X⟩
  · first | omega | (dsimp only; omega)
  refine ops_cons rfl (ow_pick rfl rfl ?_)
  refine ops_nil ?_
  refine c_false rfl ?_
  refine c_exit ?_
  refine tq_e ?_
  refine tq_e ?_
  refine bq_e ?_
  refine tq_n ?_
  refine c_seqR ?_
  refine ops_cons rfl (ow_move rfl ?_)
  refine ops_cons rfl (ow_assign rfl ?_)
  refine ops_nil ?_
  refine c_ret ?_
  refine fin_ret1 rfl rfl ?_
  exact ⟨gS, 0, s, rfl, lgS, by omega, q, X⟩
  refine ops_cons rfl (ow_move rfl ?_)
  refine ops_skip rfl rfl rfl rfl ?_
  refine ops_skip rfl rfl rfl rfl ?_
  refine ops_cons rfl (ow_pick rfl rfl ?_)
  refine ops_nil ?_
  refine c_false rfl ?_
  refine c_exit ?_
  refine tq_e ?_
  refine tq_e ?_
  refine bq_e ?_
  refine tq_n ?_
  refine c_seqR ?_
  refine ops_cons rfl (ow_move rfl ?_)
  refine ops_cons rfl (ow_assign rfl ?_)
  refine ops_nil ?_
  refine c_ret ?_
  refine fin_ret1 rfl rfl ?_
  exact ⟨gS, 0, s, rfl, lgS, by omega, q, X⟩

theorem l01Next_c (A : Option Addr) (B c : Nat) (bs : List UInt8) (gS a : Nat) (sd : Int) (n : Int) (w : World) (q : Blk w gS 148 (srcC A c bs a sd)) (hs : Sl B w A (bs.flatMap eB)) (hB : B ≤ gS) (ok : a ≤ bs.length ∧ 0 ≤ sd ∧ sd < 2147483647) (hbl : bs.length ≤ 1048576) (hn : n ≤ 9223372036854775807) :
    Calls Tryz.prog 65 #[.pointer (some ⟨gS, 0, none⟩), .int .i64 n] w (Ret fun v w' => ∃ r a' sd', v = .int .i64 r ∧ (0 ≤ r ∧ (1 < n → r < n) ∧ (n ≤ 1 → r = 0)) ∧ (a' ≤ bs.length ∧ 0 ≤ sd' ∧ sd' < 2147483647) ∧ Blk w' gS 148 (srcC A c bs a' sd') ∧ w.grownBy w' (some gS)) := by
  obtain ⟨ok1, ok2, ok3⟩ := ok
  have hs1 : 0 ≤ (sd * 48271 + 17) % 2147483647 ∧ (sd * 48271 + 17) % 2147483647 < 2147483647 := by omega
  have Bhs := hs.1
  have X := gb_refl w (some gS)
  refine calls_of (args := [.pointer (some ⟨gS, 0, none⟩), .int .i64 n]) Tryz.func65 Tryz.ntmps65 rfl rfl ?_
  refine c_seqR ?_
  refine ops_cons rfl (ow_assign rfl ?_)
  refine ops_nil ?_
  refine c_seq ?_
  refine c_seqR ?_
  refine ops_cons rfl (ow_move rfl ?_)
  refine ops_cons rfl (ow_leq2 rfl rfl (fun hn1 => ?_) (fun hn1 => ?_))
  refine ops_nil ?_
  refine c_true rfl ?_
  refine c_seqR ?_
  refine ops_cons rfl (ow_assign rfl ?_)
  refine ops_nil ?_
  refine c_ret ?_
  refine tq_r ?_
  refine fin_ret1 rfl rfl ?_
  · skip
    first
    | (exact ⟨0, a, sd, rfl, by omega, by omega, q, X⟩)
    | (have hr := fun y (hy : 0 ≤ y) => And.intro (Int.emod_nonneg y (show n ≠ 0 by omega)) (Int.emod_lt_of_pos y (show 0 < n by omega))
       first
       | (exact ⟨_, a, s1, rfl, by have := hr y1 (by omega); omega, by omega, q2, X⟩)
       | (exact ⟨_, a + 1, s1, rfl, by have := hr (y1 + (x.toNat : Int)) (by omega); omega, by omega, q3, X⟩)
       | (exact ⟨_, a + 1, s1, rfl, by have := hr (x.toNat : Int) (by omega); omega, by omega, q3, X⟩))
  refine ops_nil ?_
  refine c_false rfl ?_
  refine c_skip ?_
  refine tq_n ?_
  refine c_seqR ?_
  refine ops_cons rfl (ow_move rfl ?_)
  refine ops_cons rfl (ow_move rfl ?_)
  refine ops_cons rfl (ow_nilCheck rfl ?_)
  refine ops_cons rfl (ow_fieldAddrB off148_2 rfl rfl ?_)
  refine ops_cons rfl (ow_loadB q ti2 rfl rfl ?_)
  refine ops_cons rfl (ow_mul rfl rfl (w64 (by omega)) ?_)
  refine ops_cons rfl (ow_add rfl rfl (w64 (by omega)) ?_)
  refine ops_cons rfl (ow_rem rfl rfl (by omega) (m64 (by omega)) ?_)
  refine ops_cons rfl (ow_nilCheck rfl ?_)
  refine ops_cons rfl (ow_fieldAddrB off148_2 rfl rfl ?_)
  refine ops_cons rfl (ow_storeB q ti2 rfl rfl rfl rfl rfl rfl ?_)
  intro w2 q2 hg1 z3
  replace hs := hs.grown hg1 (by intro g hg; injection hg; omega)
  replace X := gb_trans X hg1
  clear hg1 q
  refine ops_nil ?_
  refine c_seqR ?_
  refine ops_cons rfl (ow_move rfl ?_)
  refine ops_cons rfl (ow_nilCheck rfl ?_)
  refine ops_cons rfl (ow_fieldAddrB off148_2 rfl rfl ?_)
  refine ops_cons rfl (ow_loadB q2 ti2 rfl rfl ?_)
  refine ops_cons rfl (ow_quo rfl rfl (by omega) (q64 (by omega)) ?_)
  generalize (sd * 48271 + 17) % 2147483647 = s1 at *
  have hs2 : 0 ≤ s1 / 23 ∧ s1 / 23 ≤ 93368854 := by omega
  generalize s1 / 23 = y1 at *
  refine ops_cons rfl (ow_assign rfl ?_)
  refine ops_nil ?_
  refine c_seq ?_
  refine c_seqD [false, false, false, false, false, false, false, false, false, false] mixed (by kernel_rfl) ?_
  refine f_q rfl (fun wq sq => ow_move rfl ⟨rfl, Ext.refl _⟩) ?_
  refine f_q rfl (fun wq sq => ow_nilCheck rfl ⟨rfl, Ext.refl _⟩) ?_
  refine f_q rfl (fun wq sq => ow_fieldAddrB off148_1 rfl rfl ⟨rfl, Ext.refl _⟩) ?_
  refine f_q rfl (fun wq sq => ow_loadB (q2.ext sq) ti3 rfl rfl ⟨rfl, Ext.refl _⟩) ?_
  refine f_q rfl (fun wq sq => ow_move rfl ⟨rfl, Ext.refl _⟩) ?_
  refine f_q rfl (fun wq sq => ow_nilCheck rfl ⟨rfl, Ext.refl _⟩) ?_
  refine f_q rfl (fun wq sq => ow_fieldAddrB off148_0 rfl rfl ⟨rfl, Ext.refl _⟩) ?_
  refine f_q rfl (fun wq sq => ow_loadB (q2.ext sq) ti22 rfl rfl ⟨rfl, Ext.refl _⟩) ?_
  refine f_q rfl (fun wq sq => ow_len Tryz.underlying22 rfl ⟨rfl, Ext.refl _⟩) ?_
  refine f_qb rfl (fun wq sq => ow_lss rfl rfl ⟨rfl, Ext.refl _⟩) (fun hlt => ?_) (fun hlt => ?_)
  obtain ⟨x, hx, dx⟩ := drop_at (xs := bs) (k := a) (by omega)
  have hxb := u8_in x
  refine f_nil (fun w4 sq => ?_)
  have xq := sq
  replace hs := hs.ext xq
  replace q2 := q2.ext xq
  replace X := gb_ext X xq; clear xq sq
  refine ops_nil ?_
  refine c_true rfl ?_
  refine c_seqD [false, false, false, false, false, false, false, false, false, false, false, false, false, false] mixed (by kernel_rfl) ?_
  refine f_q rfl (fun wq sq => ow_move rfl ⟨rfl, Ext.refl _⟩) ?_
  refine f_q rfl (fun wq sq => ow_move rfl ⟨rfl, Ext.refl _⟩) ?_
  refine f_q rfl (fun wq sq => ow_nilCheck rfl ⟨rfl, Ext.refl _⟩) ?_
  refine f_q rfl (fun wq sq => ow_fieldAddrB off148_0 rfl rfl ⟨rfl, Ext.refl _⟩) ?_
  refine f_q rfl (fun wq sq => ow_loadB (q2.ext sq) ti22 rfl rfl ⟨rfl, Ext.refl _⟩) ?_
  refine f_q rfl (fun wq sq => ow_move rfl ⟨rfl, Ext.refl _⟩) ?_
  refine f_q rfl (fun wq sq => ow_nilCheck rfl ⟨rfl, Ext.refl _⟩) ?_
  refine f_q rfl (fun wq sq => ow_fieldAddrB off148_1 rfl rfl ⟨rfl, Ext.refl _⟩) ?_
  refine f_q rfl (fun wq sq => ow_loadB (q2.ext sq) ti3 rfl rfl ⟨rfl, Ext.refl _⟩) ?_
  refine f_q rfl (fun wq sq => ow_indexT (hs.ext sq) eB_len rfl el22 rfl rfl rfl hx rfl ⟨rfl, Ext.refl _⟩) ?_
  refine f_q rfl (fun wq sq => ow_loadT (hs.ext sq) eB_len hx ti5 rfl rfl rfl ⟨rfl, Ext.refl _⟩) ?_
  refine f_q rfl (fun wq sq => ow_conv Tryz.underlying5 Tryz.underlying2 rfl (w64 (by omega)) ⟨rfl, Ext.refl _⟩) ?_
  refine f_q rfl (fun wq sq => ow_add rfl rfl (w64 (by omega)) ⟨rfl, Ext.refl _⟩) ?_
  refine f_q rfl (fun wq sq => ow_assign rfl ⟨rfl, Ext.refl _⟩) ?_
  refine f_nil (fun w5 sq => ?_)
  have xq := sq
  replace hs := hs.ext xq
  replace q2 := q2.ext xq
  replace X := gb_ext X xq; clear xq sq
  refine ops_nil ?_
  refine c_seqR ?_
  refine ops_cons rfl (ow_move rfl ?_)
  refine ops_cons rfl (ow_nilCheck rfl ?_)
  refine ops_cons rfl (ow_fieldAddrB off148_1 rfl rfl ?_)
  refine ops_cons rfl (ow_loadB q2 ti3 rfl rfl ?_)
  refine ops_cons rfl (ow_add rfl rfl (w64 (by omega)) ?_)
  refine ops_cons rfl (ow_nilCheck rfl ?_)
  refine ops_cons rfl (ow_fieldAddrB off148_1 rfl rfl ?_)
  refine ops_cons rfl (ow_storeB q2 ti3 rfl rfl rfl rfl rfl rfl ?_)
  intro w7 q3 hg6 z8
  replace hs := hs.grown hg6 (by intro g hg; injection hg; omega)
  replace X : w.grownBy w7 (some gS) := by first | exact gb_trans X hg6 | exact gb_new X hg6 (by intro g hg; injection hg; omega)
  clear hg6 q2
  refine ops_nil ?_
  refine c_seqR ?_
  refine ops_cons rfl (ow_move rfl ?_)
  refine ops_cons rfl (ow_leq2 rfl rfl (fun h9 => ?_) (fun h9 => ?_))
  refine ops_cons rfl (ow_move rfl ?_)
  refine ops_want rfl rfl rfl (ow_move rfl ?_)
  refine ops_want rfl rfl rfl (ow_nilCheck rfl ?_)
  refine ops_want rfl rfl rfl (ow_fieldAddrB off148_1 rfl rfl ?_)
  refine ops_want rfl rfl rfl (ow_loadB q3 ti3 rfl rfl ?_)
  refine ops_want rfl rfl rfl (ow_rem rfl rfl (by omega) (m64 (by omega)) ?_)
  refine ops_want rfl rfl rfl (ow_eql2 rfl rfl (fun h10 => ?_) (fun h10 => ?_))
  refine ops_cons rfl (ow_pick rfl rfl ?_)
  refine ops_nil ?_
  refine c_true rfl ?_
  refine c_draw [false, false, false, false, false, false, false, false, false, false, false, false, false] mixed (by kernel_rfl) ?_
  refine f_q rfl (fun wq sq => ow_move rfl ⟨rfl, Ext.refl _⟩) ?_
  refine f_q rfl (fun wq sq => ow_nilCheck rfl ⟨rfl, Ext.refl _⟩) ?_
  refine f_q rfl (fun wq sq => ow_fieldAddrB off148_0 rfl rfl ⟨rfl, Ext.refl _⟩) ?_
  refine f_q rfl (fun wq sq => ow_loadB (q3.ext sq) ti22 rfl rfl ⟨rfl, Ext.refl _⟩) ?_
  refine f_q rfl (fun wq sq => ow_move rfl ⟨rfl, Ext.refl _⟩) ?_
  refine f_q rfl (fun wq sq => ow_nilCheck rfl ⟨rfl, Ext.refl _⟩) ?_
  refine f_q rfl (fun wq sq => ow_fieldAddrB off148_1 rfl rfl ⟨rfl, Ext.refl _⟩) ?_
  refine f_q rfl (fun wq sq => ow_loadB (q3.ext sq) ti3 rfl rfl ⟨rfl, Ext.refl _⟩) ?_
  refine f_q rfl (fun wq sq => ow_sub rfl rfl (w64 (by omega)) ⟨rfl, Ext.refl _⟩) ?_
  refine f_q rfl (fun wq sq => ow_indexT (hs.ext sq) eB_len rfl el22 rfl rfl rfl hx (by omega) ⟨rfl, Ext.refl _⟩) ?_
  refine f_q rfl (fun wq sq => ow_loadT (hs.ext sq) eB_len hx ti5 rfl rfl rfl ⟨rfl, Ext.refl _⟩) ?_
  refine f_q rfl (fun wq sq => ow_conv Tryz.underlying5 Tryz.underlying2 rfl (w64 (by omega)) ⟨rfl, Ext.refl _⟩) ?_
  refine f_q rfl (fun wq sq => ow_assign rfl ⟨rfl, Ext.refl _⟩) ?_
  refine f_nil (fun w11 sq => ?_)
  have xq := sq
  replace hs := hs.ext xq
  replace q3 := q3.ext xq
  replace X := gb_ext X xq; clear xq sq
  refine ops_nil ?_
  refine tq_n ?_
  refine c_seqR ?_
  refine ops_cons rfl (ow_move rfl ?_)
  refine ops_cons rfl (ow_move rfl ?_)
  refine ops_cons rfl (ow_rem rfl rfl (by omega) (m64 (by omega)) ?_)
  refine ops_cons rfl (ow_assign rfl ?_)
  refine ops_nil ?_
  refine c_ret ?_
  refine fin_ret1 rfl rfl ?_
  · skip
    first
    | (exact ⟨0, a, sd, rfl, by omega, by omega, q, X⟩)
    | (have hr := fun y (hy : 0 ≤ y) => And.intro (Int.emod_nonneg y (show n ≠ 0 by omega)) (Int.emod_lt_of_pos y (show 0 < n by omega))
       first
       | (exact ⟨_, a, s1, rfl, by have := hr y1 (by omega); omega, by omega, q2, X⟩)
       | (exact ⟨_, a + 1, s1, rfl, by have := hr (y1 + (x.toNat : Int)) (by omega); omega, by omega, q3, X⟩)
       | (exact ⟨_, a + 1, s1, rfl, by have := hr (x.toNat : Int) (by omega); omega, by omega, q3, X⟩))
  refine ops_cons rfl (ow_pick rfl rfl ?_)
  refine ops_nil ?_
  refine c_false rfl ?_
  refine c_skip ?_
  refine tq_n ?_
  refine c_seqR ?_
  refine ops_cons rfl (ow_move rfl ?_)
  refine ops_cons rfl (ow_move rfl ?_)
  refine ops_cons rfl (ow_rem rfl rfl (by omega) (m64 (by omega)) ?_)
  refine ops_cons rfl (ow_assign rfl ?_)
  refine ops_nil ?_
  refine c_ret ?_
  refine fin_ret1 rfl rfl ?_
  · skip
    first
    | (exact ⟨0, a, sd, rfl, by omega, by omega, q, X⟩)
    | (have hr := fun y (hy : 0 ≤ y) => And.intro (Int.emod_nonneg y (show n ≠ 0 by omega)) (Int.emod_lt_of_pos y (show 0 < n by omega))
       first
       | (exact ⟨_, a, s1, rfl, by have := hr y1 (by omega); omega, by omega, q2, X⟩)
       | (exact ⟨_, a + 1, s1, rfl, by have := hr (y1 + (x.toNat : Int)) (by omega); omega, by omega, q3, X⟩)
       | (exact ⟨_, a + 1, s1, rfl, by have := hr (x.toNat : Int) (by omega); omega, by omega, q3, X⟩))
  refine ops_cons rfl (ow_move rfl ?_)
  refine ops_skip rfl rfl rfl rfl ?_
  refine ops_skip rfl rfl rfl rfl ?_
  refine ops_skip rfl rfl rfl rfl ?_
  refine ops_skip rfl rfl rfl rfl ?_
  refine ops_skip rfl rfl rfl rfl ?_
  refine ops_skip rfl rfl rfl rfl ?_
  refine ops_cons rfl (ow_pick rfl rfl ?_)
  refine ops_nil ?_
  refine c_false rfl ?_
  refine c_skip ?_
  refine tq_n ?_
  refine c_seqR ?_
  refine ops_cons rfl (ow_move rfl ?_)
  refine ops_cons rfl (ow_move rfl ?_)
  refine ops_cons rfl (ow_rem rfl rfl (by omega) (m64 (by omega)) ?_)
  refine ops_cons rfl (ow_assign rfl ?_)
  refine ops_nil ?_
  refine c_ret ?_
  refine fin_ret1 rfl rfl ?_
  · skip
    first
    | (exact ⟨0, a, sd, rfl, by omega, by omega, q, X⟩)
    | (have hr := fun y (hy : 0 ≤ y) => And.intro (Int.emod_nonneg y (show n ≠ 0 by omega)) (Int.emod_lt_of_pos y (show 0 < n by omega))
       first
       | (exact ⟨_, a, s1, rfl, by have := hr y1 (by omega); omega, by omega, q2, X⟩)
       | (exact ⟨_, a + 1, s1, rfl, by have := hr (y1 + (x.toNat : Int)) (by omega); omega, by omega, q3, X⟩)
       | (exact ⟨_, a + 1, s1, rfl, by have := hr (x.toNat : Int) (by omega); omega, by omega, q3, X⟩))
  refine f_nil (fun w12 sq => ?_)
  have xq := sq
  replace hs := hs.ext xq
  replace q2 := q2.ext xq
  replace X := gb_ext X xq; clear xq sq
  refine ops_nil ?_
  refine c_false rfl ?_
  refine c_skip ?_
  refine tq_n ?_
  refine c_seqR ?_
  refine ops_cons rfl (ow_move rfl ?_)
  refine ops_cons rfl (ow_move rfl ?_)
  refine ops_cons rfl (ow_rem rfl rfl (by omega) (m64 (by omega)) ?_)
  refine ops_cons rfl (ow_assign rfl ?_)
  refine ops_nil ?_
  refine c_ret ?_
  refine fin_ret1 rfl rfl ?_
  · skip
    first
    | (exact ⟨0, a, sd, rfl, by omega, by omega, q, X⟩)
    | (have hr := fun y (hy : 0 ≤ y) => And.intro (Int.emod_nonneg y (show n ≠ 0 by omega)) (Int.emod_lt_of_pos y (show 0 < n by omega))
       first
       | (exact ⟨_, a, s1, rfl, by have := hr y1 (by omega); omega, by omega, q2, X⟩)
       | (exact ⟨_, a + 1, s1, rfl, by have := hr (y1 + (x.toNat : Int)) (by omega); omega, by omega, q3, X⟩)
       | (exact ⟨_, a + 1, s1, rfl, by have := hr (x.toNat : Int) (by omega); omega, by omega, q3, X⟩))
end Go.Proofs.YtdoibplhbdkapaaGreatDoor
namespace Go.Proofs.YtdoibplhbdkapaaGreatDoor
open Go.RowKit
set_option linter.unusedVariables false
set_option linter.unusedSimpArgs false

structure Win (lo hi : Nat) (w w' : World) : Prop where
  os : w'.os = w.os
  tape : w'.tape = w.tape
  output : w'.output = w.output
  size : w.heap.size ≤ w'.heap.size
  block : ∀ k, k < w.heap.size → (k < lo ∨ hi ≤ k) → w'.heap[k]? = w.heap[k]?
section
variable {lo hi lo' n c s : Nat} {w w' w'' : World} {t : TypeId} {A : Option Addr} {cs : List Value} {xs : List ModeI}
theorem Win.refl (lo hi : Nat) (w : World) : Win lo hi w w := ⟨rfl, rfl, rfl, Nat.le_refl _, fun _ _ _ => rfl⟩
theorem Win.grown {row : Option Nat} (h : Win lo hi w w') (hg : w'.grownBy w'' row) (hr : ∀ g, row = some g → lo ≤ g ∧ g < hi) : Win lo hi w w'' :=
  ⟨hg.os.trans h.os, hg.tape.trans h.tape, hg.output.trans h.output, Nat.le_trans h.size hg.size, fun k hk ho => (hg.block k (Nat.lt_of_lt_of_le hk h.size) (fun e => by have := hr k e.symm; omega)).trans (h.block k hk ho)⟩
theorem Win.below (h : Win lo hi w w') (hlo : lo ≤ w.heap.size) : Below lo w w' := ⟨h.os, h.tape, h.output, h.size, fun k hk => h.block k (Nat.lt_of_lt_of_le hk hlo) (.inl hk)⟩
theorem Own.win (h : Own w lo' t s A n c cs) (x : Win lo hi w w') (hl : hi ≤ lo') : Own w' lo' t s A n c cs := by
  refine ⟨h.1, ?_⟩
  rcases h.2 with h2 | ⟨g, cap, cur, hv, hlo, hh, r⟩
  · exact .inl h2
  · exact .inr ⟨g, cap, cur, hv, hlo, (x.block g (Array.getElem?_eq_some_iff.1 hh).1 (.inr (by omega))).trans hh, r⟩

/-- the block of an entry's list -/
def ModeI.blk (x : ModeI) : Option Nat := (Value.slice x.A x.m.next.length x.c).ownBlock
/-- the lists of the entries lie in different blocks -/
def Disj (xs : List ModeI) : Prop := ∀ (i j : Nat) (x y : ModeI), xs[i]? = some x → xs[j]? = some y → i ≠ j → ∀ g, x.blk = some g → y.blk ≠ some g
theorem Disj.nil_ : Disj [] := fun i j x y h => by simp at h
theorem Disj.snoc {x : ModeI} (h : Disj xs) (hb : ∀ y ∈ xs, ∀ g, y.blk = some g → x.blk ≠ some g) : Disj (xs ++ [x]) := fun i j a b hi hj hij g ha hb' => by
  rw [List.getElem?_append] at hi hj
  split at hi <;> split at hj
  · exact h i j a b hi hj hij g ha hb'
  · rename_i h1 h2
    have h3 : j - xs.length = 0 := by
      rcases Nat.eq_zero_or_pos (j - xs.length) with h | h
      · exact h
      · rw [List.getElem?_eq_none (by simp only [List.length_cons, List.length_nil]; omega)] at hj; cases hj
    rw [h3] at hj; simp at hj; subst hj
    exact hb a (List.mem_of_getElem? hi) g ha hb'
  · rename_i h1 h2
    have h3 : i - xs.length = 0 := by
      rcases Nat.eq_zero_or_pos (i - xs.length) with h | h
      · exact h
      · rw [List.getElem?_eq_none (by simp only [List.length_cons, List.length_nil]; omega)] at hi; cases hi
    rw [h3] at hi; simp at hi; subst hi
    exact hb b (List.mem_of_getElem? hj) g hb' ha
  · rename_i h1 h2
    have h3 : i - xs.length = 0 := by
      rcases Nat.eq_zero_or_pos (i - xs.length) with h | h
      · exact h
      · rw [List.getElem?_eq_none (by simp only [List.length_cons, List.length_nil]; omega)] at hi; cases hi
    have h4 : j - xs.length = 0 := by
      rcases Nat.eq_zero_or_pos (j - xs.length) with h | h
      · exact h
      · rw [List.getElem?_eq_none (by simp only [List.length_cons, List.length_nil]; omega)] at hj; cases hj
    omega

/-- the lists from place k on are rows of the call's own, those before have been given away -/
def NFrom (w : World) (lo : Nat) (t : TypeId) (k : Nat) (xs : List ModeI) : Prop := ∀ i x, k ≤ i → xs[i]? = some x → Own w lo t 1 x.A x.m.next.length x.c (x.m.next.flatMap eI)
theorem NFrom.grownO {t' : TypeId} {k : Nat} (h : NFrom w lo t k xs) (o : Own w lo' t' s A n c cs) (hg : w.grownBy w' (Value.slice A n c).ownBlock) (ht : t ≠ t') : NFrom w' lo t k xs := fun i x hi hx => (h i x hi hx).grown hg (Own.neO (h i x hi hx) o ht)
theorem NFrom.next {k : Nat} {x : ModeI} (h : NFrom w lo t k xs) (hd : Disj xs) (hx : xs[k]? = some x) (hg : w.grownBy w' x.blk) : NFrom w' lo t (k + 1) xs := fun i y hi hy =>
  (h i y (by omega) hy).grown hg fun g hgx hgy => hd k i x y hx hy (by omega) g hgx hgy
end
end Go.Proofs.YtdoibplhbdkapaaGreatDoor
namespace Go.Proofs.YtdoibplhbdkapaaGreatDoor
open Go.RowKit
set_option linter.unusedVariables false
set_option linter.unusedSimpArgs false

structure NodeI where
  id : Int
  name : ByteArray
  drift : Int
  passive : Bool
def NodeI.cells (n : NodeI) : List Value := [.int .i64 n.id, .string n.name, .int .i64 n.drift, .bool n.passive]
theorem NodeI.len (n : NodeI) : n.cells.length = 4 := rfl
structure StateI where
  time : Int
  mode : Int
  round : Int
  slot : Int
  members : Int
def StateI.cells (s : StateI) : List Value := [.int .i64 s.time, .int .i64 s.mode, .int .i64 s.round, .int .i64 s.slot, .int .i64 s.members]
theorem StateI.len (s : StateI) : s.cells.length = 5 := rfl
structure MedlD where
  id : Int
  ns : List NodeI
  ms : List Mode
  ss : List SlotI
structure MedlI where
  id : Int
  An : Option Addr
  ns : List NodeI
  cn : Nat
  Am : Option Addr
  ms : List ModeI
  cm : Nat
  As : Option Addr
  ss : List SlotI
  cs : Nat
def MedlI.d (m : MedlI) : MedlD := ⟨m.id, m.ns, m.ms.map (·.m), m.ss⟩
def MedlI.cells (m : MedlI) : List Value := [.int .i64 m.id, .slice m.An m.ns.length m.cn, .slice m.Am m.ms.length m.cm, .slice m.As m.ss.length m.cs]
theorem MedlI.len (m : MedlI) : m.cells.length = 4 := rfl
/-- it can be read -/
structure Med (B : Nat) (w : World) (m : MedlI) : Prop where
  hB : B ≤ w.heap.size
  sn : Sl B w m.An (m.ns.flatMap NodeI.cells)
  sm : Sl B w m.Am (m.ms.flatMap ModeI.cells)
  sx : Nexts B w m.ms
  ss : Sl B w m.As (m.ss.flatMap SlotI.cells)
  kn : m.ns.length ≤ m.cn
section
variable {B B' : Nat} {w w' : World} {m : MedlI}
theorem Med.below (h : Med B w m) (hb : Below B w w') : Med B w' m := ⟨Nat.le_trans h.1 hb.size, h.sn.below hb, h.sm.below hb, h.sx.below hb, h.ss.below hb, h.kn⟩
theorem Med.ext (h : Med B w m) (hb : Ext w w') : Med B w' m := h.below (Below.mono hb h.1)
theorem Med.grown {row : Option Nat} (h : Med B w m) (hg : w.grownBy w' row) (hr : ∀ g, row = some g → B ≤ g) : Med B w' m := ⟨Nat.le_trans h.1 hg.size, h.sn.grown hg hr, h.sm.grown hg hr, h.sx.grown hg hr, h.ss.grown hg hr, h.kn⟩
theorem Med.more (h : Med B w m) (hB : B ≤ B') (hw : B' ≤ w.heap.size) : Med B' w m := ⟨hw, h.sn.more hB hw, h.sm.more hB hw, h.sx.more hB hw, h.ss.more hB hw, h.kn⟩
end
/-- its lists are not too long -/
structure MedlI.small (m : MedlI) : Prop where
  ln : m.ns.length ≤ 1048576
  lm : m.ms.length ≤ 1048576
  lx : ∀ x ∈ m.ms, x.m.next.length ≤ 1048576
  ls : m.ss.length ≤ 1048576
  lz : ∀ x ∈ m.ns, x.name.size ≤ 1048576
theorem MedlI.small_of {m m' : MedlI} (e : m'.d = m.d) (h : m.small) : m'.small := by
  obtain ⟨id, An, ns, cn, Am, ms, cm, As, ss, cs⟩ := m
  obtain ⟨id', An', ns', cn', Am', ms', cm', As', ss', cs'⟩ := m'
  simp only [MedlI.d, MedlD.mk.injEq] at e
  obtain ⟨e1, e2, e3, e4⟩ := e
  obtain ⟨h1, h2, h3, h4, h5⟩ := h
  simp only at h1 h2 h3 h4 h5
  refine ⟨by simp only; rw [e2]; exact h1, ?_, ?_, by simp only; rw [e4]; exact h4, by simp only; rw [e2]; exact h5⟩
  · have := congrArg List.length e3; simp at this; simp only; omega
  · intro x hx
    have : x.m ∈ ms'.map (·.m) := List.mem_map.2 ⟨x, hx, rfl⟩
    rw [e3] at this
    obtain ⟨y, hy, e5⟩ := List.mem_map.1 this
    have := h3 y hy
    rw [e5] at this; exact this

theorem ofInt_nat (n : Nat) : BitVec.ofInt 64 (n : Int) = BitVec.ofNat 64 n := by simp
theorem bits_or {a b : Nat} (ha : a < 9223372036854775808) (hb : b < 9223372036854775808) : bitsV .or .i64 (a : Int) (b : Int) = ((a ||| b : Nat) : Int) := by
  have h1 : a ||| b < 2 ^ 63 := Nat.or_lt_two_pow (by omega) (by omega)
  have h2 : a ||| b < 2 ^ 64 := Nat.or_lt_two_pow (by omega) (by omega)
  show IntKind.i64.wrap ((BitVec.ofInt 64 (a : Int) ||| BitVec.ofInt 64 (b : Int)).toNat : Int) = _
  rw [ofInt_nat, ofInt_nat, BitVec.toNat_or, BitVec.toNat_ofNat, BitVec.toNat_ofNat, Nat.mod_eq_of_lt (by omega), Nat.mod_eq_of_lt (by omega)]
  exact w64 (by omega)
theorem bits_and {a b : Nat} (ha : a < 9223372036854775808) (hb : b < 9223372036854775808) : bitsV .and .i64 (a : Int) (b : Int) = ((a &&& b : Nat) : Int) := by
  have h1 : a &&& b ≤ a := Nat.and_le_left
  show IntKind.i64.wrap ((BitVec.ofInt 64 (a : Int) &&& BitVec.ofInt 64 (b : Int)).toNat : Int) = _
  rw [ofInt_nat, ofInt_nat, BitVec.toNat_and, BitVec.toNat_ofNat, BitVec.toNat_ofNat, Nat.mod_eq_of_lt (by omega), Nat.mod_eq_of_lt (by omega)]
  exact w64 (by omega)
theorem bits_xor {a b : Nat} (ha : a < 9223372036854775808) (hb : b < 9223372036854775808) : bitsV .xor .i64 (a : Int) (b : Int) = ((a ^^^ b : Nat) : Int) := by
  have h1 : a ^^^ b < 2 ^ 63 := Nat.xor_lt_two_pow (by omega) (by omega)
  show IntKind.i64.wrap ((BitVec.ofInt 64 (a : Int) ^^^ BitVec.ofInt 64 (b : Int)).toNat : Int) = _
  rw [ofInt_nat, ofInt_nat, BitVec.toNat_xor, BitVec.toNat_ofNat, BitVec.toNat_ofNat, Nat.mod_eq_of_lt (by omega), Nat.mod_eq_of_lt (by omega)]
  exact w64 (by omega)
/-- the bits of a that b lacks -/
def lackN (a b : Nat) : Nat := a ^^^ (a &&& b)
theorem lack_bit (a b i : Nat) : (lackN a b).testBit i = (a.testBit i && !b.testBit i) := by
  unfold lackN
  rw [Nat.testBit_xor, Nat.testBit_and]
  cases a.testBit i <;> cases b.testBit i <;> rfl
theorem bits_andNot {a b : Nat} (ha : a < 9223372036854775808) (hb : b < 9223372036854775808) : bitsV .andNot .i64 (a : Int) (b : Int) = (lackN a b : Int) := by
  have h1 : lackN a b < 2 ^ 63 := Nat.xor_lt_two_pow (by omega) (Nat.lt_of_le_of_lt Nat.and_le_left (by omega))
  show IntKind.i64.wrap ((BitVec.ofInt 64 (a : Int) &&& ~~~BitVec.ofInt 64 (b : Int)).toNat : Int) = _
  have e : (BitVec.ofInt 64 (a : Int) &&& ~~~BitVec.ofInt 64 (b : Int)).toNat = lackN a b := by
    rw [ofInt_nat, ofInt_nat]
    apply Nat.eq_of_testBit_eq
    intro i
    rw [lack_bit, BitVec.testBit_toNat]
    by_cases hi : i < 64
    · rw [BitVec.getLsbD_and, BitVec.getLsbD_not, BitVec.getLsbD_ofNat, BitVec.getLsbD_ofNat]; simp [hi]
    · have : a.testBit i = false := Nat.testBit_lt_two_pow (Nat.lt_of_lt_of_le (by omega : a < 2 ^ 64) (Nat.pow_le_pow_right (by omega) (by omega)))
      rw [this]; simp [hi]
  rw [e]
  exact w64 (by omega)
/-- node n is a member of a -/
def hasN (a : Nat) (n : Int) : Bool := a.testBit n.toNat
theorem bit_get {a : Nat} {n : Int} (ha : a < 9223372036854775808) (hn : 0 ≤ n ∧ n ≤ 31) : bitsV .and .i64 ((a : Int).fdiv (2 ^ (min n.toNat 64))) 1 = if hasN a n = true then 1 else 0 := by
  have e1 : min n.toNat 64 = n.toNat := by omega
  have e2 : (a : Int).fdiv (2 ^ n.toNat) = ((a / 2 ^ n.toNat : Nat) : Int) := by
    rw [Int.fdiv_eq_ediv_of_nonneg _ (Int.pow_nonneg (by omega))]; simp
  have h3 : a / 2 ^ n.toNat ≤ a := Nat.div_le_self _ _
  rw [e1, e2, show (1 : Int) = ((1 : Nat) : Int) from rfl, bits_and (by omega) (by omega)]
  unfold hasN
  rw [Nat.testBit, Nat.shiftRight_eq_div_pow, Nat.one_and_eq_mod_two, Nat.and_one_is_mod]
  rcases Nat.mod_two_eq_zero_or_one (a / 2 ^ n.toNat) with h | h <;> rw [h] <;> rfl
theorem bit_has {a : Nat} {n : Int} (ha : a < 9223372036854775808) (hn : 0 ≤ n ∧ n ≤ 31) : decide (bitsV .and .i64 ((a : Int).fdiv (2 ^ (min n.toNat 64))) 1 = 1) = hasN a n := by
  rw [bit_get ha hn]
  cases hasN a n <;> rfl
theorem shl_bit {n : Int} (hn : 0 ≤ n ∧ n ≤ 31) : IntKind.i64.wrap ((1 : Int) * 2 ^ (min n.toNat 64)) = ((2 ^ n.toNat : Nat) : Int) := by
  have e1 : min n.toNat 64 = n.toNat := by omega
  have h2 : 2 ^ n.toNat ≤ 2 ^ 31 := Nat.pow_le_pow_right (by omega) (by omega)
  rw [e1, Int.one_mul, show (2 : Int) ^ n.toNat = ((2 ^ n.toNat : Nat) : Int) by simp]
  generalize 2 ^ n.toNat = z at h2
  exact w64 (by omega)
theorem pow_lt {n : Int} (hn : 0 ≤ n ∧ n ≤ 31) : 2 ^ n.toNat < 4294967296 := by
  have h2 : 2 ^ n.toNat ≤ 2 ^ 31 := Nat.pow_le_pow_right (by omega) (by omega)
  omega
/-- a with node n -/
def withN (a : Nat) (n : Int) : Nat := a ||| 2 ^ n.toNat
theorem withN_lt {a : Nat} {n : Int} (ha : a < 4294967296) (hn : 0 ≤ n ∧ n ≤ 31) : withN a n < 4294967296 :=
  Nat.or_lt_two_pow (n := 32) ha (pow_lt hn)
theorem withN_bit (a : Nat) (n : Int) (i : Nat) : (withN a n).testBit i = (a.testBit i || decide (i = n.toNat)) := by
  unfold withN
  rw [Nat.testBit_or, Nat.testBit_two_pow]
  congr 1
  by_cases h : i = n.toNat
  · subst h; simp
  · rw [decide_eq_false h, decide_eq_false (fun e => h e.symm)]
theorem bits_with {a : Nat} {n : Int} (ha : a < 4294967296) (hn : 0 ≤ n ∧ n ≤ 31) : bitsV .or .i64 (a : Int) (IntKind.i64.wrap ((1 : Int) * 2 ^ (min n.toNat 64))) = (withN a n : Int) := by
  have := pow_lt hn
  rw [shl_bit hn, bits_or (by omega) (by omega)]; rfl
theorem with_has {a : Nat} {n : Int} (h : hasN a n = true) : withN a n = a := by
  apply Nat.eq_of_testBit_eq
  intro i
  rw [withN_bit]
  by_cases e : i = n.toNat
  · subst e; unfold hasN at h; rw [h]; rfl
  · simp [e]
theorem with_xor {a : Nat} {n : Int} (h : hasN a n = false) : a ^^^ 2 ^ n.toNat = withN a n := by
  apply Nat.eq_of_testBit_eq
  intro i
  rw [withN_bit, Nat.testBit_xor, Nat.testBit_two_pow]
  by_cases e : i = n.toNat
  · subst e; unfold hasN at h; rw [h]; simp
  · rw [decide_eq_false e, decide_eq_false (fun e' => e e'.symm)]; simp
theorem lack_zero {a b : Nat} : lackN a b = 0 ↔ ∀ i, a.testBit i = true → b.testBit i = true := by
  constructor
  · intro h i hi
    have := lack_bit a b i
    rw [h, hi] at this
    cases hb : b.testBit i
    · rw [hb] at this; simp at this
    · rfl
  · intro h
    apply Nat.eq_of_testBit_eq
    intro i
    rw [lack_bit, Nat.zero_testBit]
    cases ha : a.testBit i
    · rfl
    · rw [h i ha]; rfl
/-- the vector of nodes that pass, joined to a -/
def vecF {α : Type} (p : α → Bool) (f : α → Int) : Nat → List α → Nat
  | a, [] => a
  | a, x :: r => if p x = true then vecF p f (withN a (f x)) r else vecF p f a r
theorem vecF_lt {α : Type} {p : α → Bool} {f : α → Int} : ∀ (l : List α) (a : Nat), a < 4294967296 → (∀ x ∈ l, 0 ≤ f x ∧ f x ≤ 31) → vecF p f a l < 4294967296
  | [], a, h, _ => h
  | x :: r, a, h, hf => by
    rw [vecF]
    split
    · exact vecF_lt r _ (withN_lt h (hf x (by simp))) (fun y hy => hf y (by simp [hy]))
    · exact vecF_lt r _ h (fun y hy => hf y (by simp [hy]))
theorem vecF_bit {α : Type} {p : α → Bool} {f : α → Int} (i : Nat) : ∀ (l : List α) (a : Nat), (vecF p f a l).testBit i = (a.testBit i || l.any fun x => p x && decide (i = (f x).toNat))
  | [], a => by simp [vecF]
  | x :: r, a => by
    rw [vecF]
    split
    · rename_i h
      rw [vecF_bit i r, withN_bit, List.any_cons, h]; simp [Bool.or_assoc]
    · rename_i h
      rw [vecF_bit i r, List.any_cons]; simp [h]

def nameB (b : UInt8) : Bool := (decide (97 ≤ b.toNat) && decide (b.toNat ≤ 122)) || (decide (48 ≤ b.toNat) && decide (b.toNat ≤ 57))
def nameOk (s : ByteArray) : Bool := (s.data.toList.all nameB) && decide (1 ≤ s.size) && decide (s.size ≤ 6)
def nodeOk (n : NodeI) : Bool := inB n.id 0 31 && nameOk n.name && inB n.drift 0 1000
def nameIn (s : ByteArray) (l : List NodeI) : Bool := l.any fun y => decide (y.name = s)
def ntFrom : Option NodeI → List NodeI → List NodeI → Bool
  | _, _, [] => true
  | none, q, x :: r => nodeOk x && !(nameIn x.name q) && ntFrom (some x) (q ++ [x]) r
  | some y, q, x :: r => nodeOk x && decide (y.id < x.id) && !(nameIn x.name q) && ntFrom (some x) (q ++ [x]) r
def isNT (l : List NodeI) : Bool := inB l.length 1 32 && ntFrom none [] l
theorem ntFrom_all : ∀ (l : List NodeI) (p : Option NodeI) (q : List NodeI), ntFrom p q l = true → ∀ x ∈ l, nodeOk x = true
  | [], _, _, _, x, hx => by simp at hx
  | y :: r, p, q, h, x, hx => by
    have h1 : nodeOk y = true ∧ ntFrom (some y) (q ++ [y]) r = true := by
      cases p <;> simp only [ntFrom, Bool.and_eq_true] at h
      · exact ⟨h.1.1, h.2⟩
      · exact ⟨h.1.1.1, h.2⟩
    rcases List.mem_cons.1 hx with rfl | hx
    · exact h1.1
    · exact ntFrom_all r _ _ h1.2 x hx
theorem isNT_all {l : List NodeI} (h : isNT l = true) : ∀ x ∈ l, nodeOk x = true := by
  simp only [isNT, Bool.and_eq_true] at h
  exact ntFrom_all l _ _ h.2
theorem nodeOk_in {x : NodeI} (h : nodeOk x = true) : (0 ≤ x.id ∧ x.id ≤ 31) ∧ (0 ≤ x.drift ∧ x.drift ≤ 1000) ∧ nameOk x.name = true := by
  simp only [nodeOk, Bool.and_eq_true] at h
  exact ⟨inB_iff.1 h.1.1, inB_iff.1 h.2, h.1.2⟩
def actV (l : List NodeI) : Nat := vecF (fun x => !x.passive) (·.id) 0 l
theorem actV_lt {l : List NodeI} (h : isNT l = true) : actV l < 4294967296 := vecF_lt l 0 (by omega) fun x hx => (nodeOk_in (isNT_all h x hx)).1
def setOf : List UInt8 := [97, 98, 99, 100, 101, 102, 103, 104, 105, 106, 107, 108, 109, 110, 111, 112, 113, 114, 115, 116, 117, 118, 119, 120, 121, 122, 48, 49, 50, 51, 52, 53, 54, 55, 56, 57]
theorem set_name : ∀ b : UInt8, setOf.contains b = nameB b := by
  intro b
  have h : ∀ k : Fin 256, setOf.contains (UInt8.ofNat k.val) = nameB (UInt8.ofNat k.val) := by decide +kernel
  have := h ⟨b.toNat, b.toNat_lt⟩
  simpa using this
theorem dropWhile_nil {α : Type} {p : α → Bool} : ∀ (l : List α), l.dropWhile p = [] ↔ l.all p = true
  | [] => by simp
  | x :: r => by
    rw [List.dropWhile_cons]
    split
    · rename_i h; rw [dropWhile_nil r]; simp [h]
    · rename_i h; simp [h]
theorem trim_nil (l : List UInt8) : Go.Lib.trimS l setOf = [] ↔ l.all nameB = true := by
  have e : (fun x => setOf.contains x) = nameB := funext set_name
  unfold Go.Lib.trimS Go.Lib.trimLeftS Go.Lib.trimRightS
  rw [dropWhile_nil]
  show ((l.reverse.dropWhile fun x => setOf.contains x).reverse.all fun x => setOf.contains x) = true ↔ _
  rw [e]
  constructor
  · intro h
    have h2 : (l.reverse.dropWhile nameB) = [] := by
      cases h3 : l.reverse.dropWhile nameB with
      | nil => rfl
      | cons x r =>
        have h4 : nameB x = false := by
          have := List.head?_dropWhile_not nameB l.reverse
          rw [h3] at this; simpa using this
        rw [h3] at h
        simp [h4] at h
    rw [dropWhile_nil] at h2
    simpa using h2
  · intro h
    have h2 : l.reverse.dropWhile nameB = [] := (dropWhile_nil _).2 (by simpa using h)
    rw [h2]; rfl
def trimV (s : ByteArray) : ByteArray := ⟨(Go.Lib.trimS s.data.toList setOf).toArray⟩
theorem trimV_nil (s : ByteArray) : trimV s = ⟨#[]⟩ ↔ s.data.toList.all nameB = true := by
  rw [← trim_nil]
  unfold trimV
  constructor
  · intro h
    have h1 := congrArg (fun b : ByteArray => b.data.toList) h
    simpa using h1
  · intro h; rw [h]
theorem wu64 {n : Int} (h : 0 ≤ n ∧ n ≤ 18446744073709551615) : IntKind.u64.wrap n = n := by
  simp only [IntKind.wrap, IntKind.bits, IntKind.signed]
  simp
  omega
theorem nameIn_take {l : List NodeI} {s : ByteArray} {j : Nat} {y : NodeI} (hy : l[j]? = some y) (h : y.name = s) : nameIn s l = true := by
  simp only [nameIn, List.any_eq_true, decide_eq_true_eq]
  exact ⟨y, List.mem_of_getElem? hy, h⟩
theorem nt_ok0 {q r : List NodeI} {x : NodeI} (h : nodeOk x = true) (hn : nameIn x.name q = false) : ntFrom none q (x :: r) = ntFrom (some x) (q ++ [x]) r := by simp [ntFrom, h, hn]
theorem nt_ok1 {q r : List NodeI} {x y : NodeI} (h : nodeOk x = true) (ho : y.id < x.id) (hn : nameIn x.name q = false) : ntFrom (some y) q (x :: r) = ntFrom (some x) (q ++ [x]) r := by simp [ntFrom, h, hn, ho]
theorem nt_badx {p : Option NodeI} {q r : List NodeI} {x : NodeI} (h : nodeOk x = false) : ntFrom p q (x :: r) = false := by cases p <;> simp [ntFrom, h]
theorem nt_badn {p : Option NodeI} {q r : List NodeI} {x : NodeI} (h : nameIn x.name q = true) : ntFrom p q (x :: r) = false := by cases p <;> simp [ntFrom, h]
theorem nt_bado {q r : List NodeI} {x y : NodeI} (h : ¬ y.id < x.id) : ntFrom (some y) q (x :: r) = false := by simp [ntFrom, h]
theorem nt_nil {p : Option NodeI} {q : List NodeI} : ntFrom p q [] = true := by cases p <;> rfl
end Go.Proofs.YtdoibplhbdkapaaGreatDoor
namespace Go.Proofs.YtdoibplhbdkapaaGreatDoor
open Go.RowKit
set_option linter.unusedVariables false
set_option linter.unusedSimpArgs false

/-- the lists of a schedule are rows of the call's own -/
structure MOwn (w : World) (lo : Nat) (tN tM tI tS : TypeId) (m : MedlI) : Prop where
  on : Own w lo tN 4 m.An m.ns.length m.cn (m.ns.flatMap NodeI.cells)
  om : Own w lo tM 3 m.Am m.ms.length m.cm (m.ms.flatMap ModeI.cells)
  ox : NOwn w lo tI m.ms
  od : Disj m.ms
  os : Own w lo tS 8 m.As m.ss.length m.cs (m.ss.flatMap SlotI.cells)
section
variable {w w' : World} {lo lo' n c s g : Nat} {tN tM tI tS t' : TypeId} {m : MedlI} {A : Option Addr} {cs : List Value}
theorem MOwn.ext (h : MOwn w lo tN tM tI tS m) (hb : Ext w w') : MOwn w' lo tN tM tI tS m := ⟨h.on.ext hb, h.om.ext hb, h.ox.ext hb, h.od, h.os.ext hb⟩
theorem MOwn.low (h : MOwn w lo tN tM tI tS m) (hl : lo' ≤ lo) : MOwn w lo' tN tM tI tS m := ⟨h.on.low hl, h.om.low hl, h.ox.low hl, h.od, h.os.low hl⟩
theorem MOwn.med (h : MOwn w lo tN tM tI tS m) : Med w.heap.size w m := ⟨Nat.le_refl _, h.on.sl, h.om.sl, h.ox.nexts, h.os.sl, h.on.cap⟩
theorem MOwn.sn (h : MOwn w lo tN tM tI tS m) : Sl w.heap.size w m.An (m.ns.flatMap NodeI.cells) := h.on.sl
theorem MOwn.sm (h : MOwn w lo tN tM tI tS m) : Sl w.heap.size w m.Am (m.ms.flatMap ModeI.cells) := h.om.sl
theorem MOwn.sx (h : MOwn w lo tN tM tI tS m) : Nexts w.heap.size w m.ms := h.ox.nexts
theorem MOwn.ss (h : MOwn w lo tN tM tI tS m) : Sl w.heap.size w m.As (m.ss.flatMap SlotI.cells) := h.os.sl
theorem MOwn.grownB {t' : TypeId} {ds : List Value} (h : MOwn w lo tN tM tI tS m) (k : Blk w g t' ds) (hg : w.grownBy w' (some g)) (ht : tN ≠ t' ∧ tM ≠ t' ∧ tI ≠ t' ∧ tS ≠ t') : MOwn w' lo tN tM tI tS m :=
  ⟨h.on.grownBlk hg (Own.neT h.on k ht.1), h.om.grownBlk hg (Own.neT h.om k ht.2.1), h.ox.grownB k hg ht.2.2.1, h.od, h.os.grownBlk hg (Own.neT h.os k ht.2.2.2)⟩
end
end Go.Proofs.YtdoibplhbdkapaaGreatDoor
namespace Go.Proofs.YtdoibplhbdkapaaGreatDoor
open Go.RowKit
set_option linter.unusedVariables false
set_option linter.unusedSimpArgs false

theorem u8dig {k : Nat} : ((UInt8.ofNat (48 + k % 10)).toNat : Int) = 48 + (k : Int) % 10 := by
  have : k % 10 < 10 := Nat.mod_lt _ (by omega)
  rw [UInt8.toNat_ofNat']
  omega
theorem wu8 {n : Int} (h : 0 ≤ n ∧ n ≤ 255) : IntKind.u8.wrap n = n := by
  simp only [IntKind.wrap, IntKind.bits, IntKind.signed]
  simp
  omega

theorem Win.trans {lo hi : Nat} {a b c : World} (h : Win lo hi a b) (k : Win lo hi b c) : Win lo hi a c :=
  ⟨k.os.trans h.os, k.tape.trans h.tape, k.output.trans h.output, Nat.le_trans h.size k.size, fun i hi' ho => (k.block i (Nat.lt_of_lt_of_le hi' h.size) ho).trans (h.block i hi' ho)⟩
theorem NOwn.grownX {w w' : World} {lo : Nat} {t : TypeId} {xs : List ModeI} {row : Option Nat} (h : NOwn w lo t xs) (hg : w.grownBy w' row) (hr : ∀ x ∈ xs, ∀ g, row = some g → x.blk ≠ some g) : NOwn w' lo t xs :=
  fun x hx => ⟨(h x hx).1.grown hg (hr x hx), (h x hx).2⟩
theorem Disj.not {xs : List ModeI} (h : Disj xs) {i k : Nat} {x y : ModeI} (hx : xs[i]? = some x) (hy : xs[k]? = some y) (hik : i ≠ k) (g : Nat) (hg : y.blk = some g) : x.blk ≠ some g := fun e => h k i y x hy hx (fun e => hik e.symm) g hg e
def Kep (ts : List TypeId) (w w' : World) : Prop := w.heap.size ≤ w'.heap.size ∧ ∀ (k : Nat) (cur : Array Value) (t : TypeId) (e : Nat × Nat), w.heap[k]? = some (Obj.cells cur t e) → t ∉ ts → w'.heap[k]? = some (Obj.cells cur t e)
section
variable {ts : List TypeId} {w w' w'' : World} {lo hi lo' n c s g : Nat} {t : TypeId} {A : Option Addr} {cs : List Value} {xs : List ModeI}
theorem Kep.refl : Kep ts w w := ⟨Nat.le_refl _, fun _ _ _ _ h _ => h⟩
theorem Kep.trans (h : Kep ts w w') (k : Kep ts w' w'') : Kep ts w w'' := ⟨Nat.le_trans h.1 k.1, fun i cur t e hi ht => k.2 i cur t e (h.2 i cur t e hi ht) ht⟩
theorem Own.kep (h : Own w lo t s A n c cs) (k : Kep ts w w') (ht : t ∉ ts) : Own w' lo t s A n c cs := by
  refine ⟨h.1, ?_⟩
  rcases h.2 with h2 | ⟨g, cap, cur, hv, hlo, hh, r⟩
  · exact .inl h2
  · exact .inr ⟨g, cap, cur, hv, hlo, k.2 _ _ _ _ hh ht, r⟩
theorem Blk.kep (h : Blk w g t cs) (k : Kep ts w w') (ht : t ∉ ts) : Blk w' g t cs := k.2 _ _ _ _ h ht
theorem NOwn.kep (h : NOwn w lo t xs) (k : Kep ts w w') (ht : t ∉ ts) : NOwn w' lo t xs := fun x hx => ⟨(h x hx).1.kep k ht, (h x hx).2⟩
structure WinK (lo hi : Nat) (ts : List TypeId) (w w' : World) : Prop where
  win : Win lo hi w w'
  kep : Kep ts w w'
theorem WinK.refl (lo hi : Nat) (ts : List TypeId) (w : World) : WinK lo hi ts w w := ⟨Win.refl lo hi w, Kep.refl⟩
end
end Go.Proofs.YtdoibplhbdkapaaGreatDoor
namespace Go.Proofs.YtdoibplhbdkapaaGreatDoor
open Go.RowKit
set_option linter.unusedVariables false
set_option linter.unusedSimpArgs false
section
variable {P : Program} {e : List (Nat × Value)} {ty : TypeId} {w : World} {K : Value → World → Prop} {x y lo hi : Operand} {t : TypeId} {s : ByteArray} {k : IntKind} {m : Int}
end
def eS (s : ByteArray) : List Value := [.string s]
theorem eS_len (s : ByteArray) : (eS s).length = 1 := rfl
end Go.Proofs.YtdoibplhbdkapaaGreatDoor
