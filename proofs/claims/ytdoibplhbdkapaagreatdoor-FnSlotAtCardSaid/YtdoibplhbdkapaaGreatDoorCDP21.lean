/- Texts of the seat that a law needs, put together. No condition. -/
import Derived.Test.YtdoibplhbdkapaaGreatDoorCDP20
import Derived.Test.YtdoibplhbdkapaaGreatDoorCDP3
namespace Go.Proofs.YtdoibplhbdkapaaGreatDoor
open Go.RowKit
set_option linter.unusedVariables false
set_option linter.unusedSimpArgs false
set_option maxRecDepth 20000
theorem findNode1_c (x : NodeI) (g1 : Nat) (z : Int) (w : World) (q : Blk w g1 2 [.int .i64 z]) :
    Calls Tryz.prog 250 #[.agg x.cells.toArray, .pointer (some ⟨g1, 0, none⟩)] w (Ret fun v w' => v = .bool (hitN z x) ∧ Ext w w') := by
  have X := Ext.refl w
  refine calls_of (args := [.agg x.cells.toArray, .pointer (some ⟨g1, 0, none⟩)]) Tryz.func250 Tryz.ntmps250 rfl rfl ?_
  refine c_seqR ?_
  refine ops_cons rfl (ow_box rfl rfl ?_)
  intro g4 w3 eg4 b1 x2 zg4
  have lg4 : w.heap.size ≤ g4 := Nat.le_trans X.size (Nat.le_of_eq eg4.symm)
  have ng4q := Nat.lt_of_lt_of_eq q.lt eg4.symm
  replace q := q.ext x2
  replace X := Ext.trans X x2; clear x2
  refine ops_cons rfl (ow_assign rfl ?_)
  refine ops_nil ?_
  refine c_seqR ?_
  refine ops_cons rfl (ow_fieldAddrB off59_0 rfl rfl ?_)
  refine ops_cons rfl (ow_loadB b1 ti2 rfl rfl ?_)
  refine ops_cons rfl (ow_loadB q ti2 rfl rfl ?_)
  refine ops_cons rfl (ow_eql rfl rfl ?_)
  refine ops_cons rfl (ow_assign rfl ?_)
  refine ops_nil ?_
  refine c_ret ?_
  refine fin_ret1 rfl rfl ?_
  exact ⟨by simp [hitN, *], X⟩

theorem idxId_c (A : Option Addr) (B c : Nat) (xs : List NodeI) (g1 : Nat) (z : Int) (w : World) (hs : Sl B w A (xs.flatMap NodeI.cells)) (hl : xs.length ≤ 1048576) (q : Blk w g1 2 [.int .i64 z]) :
    Calls Tryz.prog 249 #[.slice A xs.length c, .func (.func 250) #[] #[.pointer (some ⟨g1, 0, none⟩)]] w (Ret fun v w' => v = .int .i64 (findN z 0 xs) ∧ Ext w w') := by
  have Bhs := hs.1
  have X := Ext.refl w
  refine calls_of (args := [.slice A xs.length c, .func (.func 250) #[] #[.pointer (some ⟨g1, 0, none⟩)]]) Tryz.func249 Tryz.ntmps249 rfl rfl ?_
  refine c_seqR ?_
  refine ops_cons rfl (ow_assign rfl ?_)
  refine ops_nil ?_
  refine c_seq ?_
  refine c_seqR ?_
  refine ops_cons rfl (ow_move rfl ?_)
  refine ops_cons rfl (ow_len Tryz.underlying24 rfl ?_)
  refine ops_cons rfl (ow_move rfl ?_)
  refine ops_nil ?_
  refine c_block ?_
  refine c_loop (G := Nat) (fun k => [(0, .slice A xs.length c), (1, .func (.func 250) #[] #[.pointer (some ⟨g1, 0, none⟩)]), (7, .int .i64 (xs.length : Nat)), (8, .int .i64 (k : Nat))]) (fun k wr => k ≤ xs.length ∧ findN z 0 xs = findN z (k : Int) (xs.drop k) ∧ Sl B wr A (xs.flatMap NodeI.cells) ∧ Blk wr g1 2 [.int .i64 z] ∧ Ext w wr) (fun k => xs.length - k) 0 (.cons rfl (.cons rfl (.cons rfl (.cons rfl (.nil _))))) ?_ ?_
  · exact ⟨by omega, rfl, hs, q, X⟩
  clear hs q
  clear X
  rintro k wr ⟨hk0, hi, hs, q, X⟩
  refine c_seqR ?_
  refine ops_cons rfl (ow_lss2 rfl rfl (fun hk => ?_) (fun hk => ?_))
  obtain ⟨x, hx, dx⟩ := drop_at' hk
  refine ops_nil ?_
  refine c_seq ?_
  refine c_true rfl ?_
  refine c_skip ?_
  refine tq_n ?_
  refine c_seq ?_
  refine c_block ?_
  refine c_seqR ?_
  refine ops_cons rfl (ow_move rfl ?_)
  refine ops_cons rfl (ow_assign rfl ?_)
  refine ops_nil ?_
  refine c_seqR ?_
  refine ops_cons rfl (ow_move rfl ?_)
  refine ops_cons rfl (ow_move rfl ?_)
  refine ops_cons rfl (ow_move rfl ?_)
  refine ops_cons rfl (ow_indexT hs NodeI.len rfl el24 rfl rfl rfl hx rfl ?_)
  refine ops_cons rfl (ow_loadTA hs NodeI.len hx ti59 rfl ?_)
  refine ops_cons rfl (ow_callVLB ent250 rfl rfl (findNode1_c _ _ _ _ q) (fun w2 hF x1 => ?_) (fun w2 hF x1 => ?_))
  replace hs := hs.ext x1
  replace q := q.ext x1
  replace X := Ext.trans X x1; clear x1
  refine ops_nil ?_
  refine c_true rfl ?_
  refine c_seqR ?_
  refine ops_cons rfl (ow_move rfl ?_)
  refine ops_cons rfl (ow_assign rfl ?_)
  refine ops_nil ?_
  refine c_ret ?_
  refine bq_r ?_
  refine tq_r ?_
  refine tq_r ?_
  refine bq_r ?_
  refine tq_r ?_
  refine fin_ret1 rfl rfl ?_
  · skip
    refine ⟨congrArg (Value.int .i64) ?_, X⟩
    first | (rw [hi, drop_end hk]; rfl) | (rw [hi, dx, findN, if_pos hF])
  replace hs := hs.ext x1
  replace q := q.ext x1
  replace X := Ext.trans X x1; clear x1
  refine ops_nil ?_
  refine c_false rfl ?_
  refine c_skip ?_
  refine bq_n ?_
  refine tq_n ?_
  refine c_region ?_
  refine ops_cons rfl (ow_add rfl rfl (w64 (by omega)) ?_)
  refine ops_cons rfl (ow_move rfl ?_)
  refine ops_nil ?_
  refine tq_n ⟨k + 1, (.cons rfl (.cons rfl (.cons rfl (.cons rfl (.nil _))))), ?_, ?_⟩
  · exact ⟨by omega, (by rw [hi, dx, findN, if_neg (by simp [*])]; rfl), hs, q, X⟩
  · first | omega | (dsimp only; omega)
  refine ops_nil ?_
  refine c_seq ?_
  refine c_false rfl ?_
  refine c_exit ?_
  refine tq_e ?_
  refine tq_e ?_
  refine bq_e ?_
  refine tq_n ?_
  refine c_seqR ?_
  refine ops_cons rfl (ow_assign rfl ?_)
  refine ops_nil ?_
  refine c_ret ?_
  refine fin_ret1 rfl rfl ?_
  · skip
    refine ⟨congrArg (Value.int .i64) ?_, X⟩
    first | (rw [hi, drop_end hk]; rfl) | (rw [hi, dx, findN, if_pos hF])

theorem findNode_c (A : Option Addr) (B c : Nat) (xs : List NodeI) (z : Int) (w : World) (hs : Sl B w A (xs.flatMap NodeI.cells)) (hl : xs.length ≤ 1048576) :
    Calls Tryz.prog 201 #[.slice A xs.length c, .int .i64 z] w (Ret fun v w' => v = .int .i64 (findN z 0 xs) ∧ Ext w w') := by
  have Bhs := hs.1
  have X := Ext.refl w
  refine calls_of (args := [.slice A xs.length c, .int .i64 z]) Tryz.func201 Tryz.ntmps201 rfl rfl ?_
  refine c_seqR ?_
  refine ops_cons rfl (ow_box rfl rfl ?_)
  intro g4 w3 eg4 b1 x2 zg4
  have lg4 : w.heap.size ≤ g4 := Nat.le_trans X.size (Nat.le_of_eq eg4.symm)
  have pg4hs := Nat.le_trans hs.1 (Nat.le_of_eq eg4.symm)
  replace hs := hs.ext x2
  replace X := Ext.trans X x2; clear x2
  refine ops_cons rfl (ow_assign rfl ?_)
  refine ops_nil ?_
  refine c_seqR ?_
  refine ops_cons rfl (ow_move rfl ?_)
  refine ops_cons rfl (ow_makeFunc rfl ?_)
  refine ops_cons rfl (ow_call ent249 rfl (ret_mono (idxId_c _ _ _ _ _ _ _ hs hl b1) ?_))
  rintro _ w6 ⟨rfl, x5⟩
  replace hs := hs.ext x5
  replace b1 := b1.ext x5
  replace X := Ext.trans X x5; clear x5
  refine ops_cons rfl (ow_assign rfl ?_)
  refine ops_nil ?_
  refine c_ret ?_
  refine fin_ret1 rfl rfl ?_
  exact ⟨by rfl, X⟩

theorem sFindNode_c (A : Option Addr) (B c : Nat) (xs : List NodeI) (z : Int) (w : World) (hs : Sl B w A (xs.flatMap NodeI.cells)) (hl : xs.length ≤ 1048576) (hm : ∀ x ∈ xs, x.name.size ≤ 9223372036854775807) :
    Calls Tryz.prog 202 #[.slice A xs.length c, .int .i64 z] w (Ret fun v w' => v = .tuple #[.agg (fnodeF xs z).1.cells.toArray, .int .i64 (fnodeF xs z).2] ∧ Ext w w') := by
  have Bhs := hs.1
  have X := Ext.refl w
  refine calls_of (args := [.slice A xs.length c, .int .i64 z]) Tryz.func202 Tryz.ntmps202 rfl rfl ?_
  refine c_seqR ?_
  refine ops_cons rfl (ow_alloc ti59 ?_)
  intro g4 w2 eg4 b4 x1 zg4
  have lg4 : w.heap.size ≤ g4 := Nat.le_trans X.size (Nat.le_of_eq eg4.symm)
  have pg4hs := Nat.le_trans hs.1 (Nat.le_of_eq eg4.symm)
  replace hs := hs.ext x1
  replace X := Ext.trans X x1; clear x1
  refine ops_cons rfl (ow_assign rfl ?_)
  refine ops_nil ?_
  refine c_seq ?_
  refine c_seqR ?_
  refine ops_cons rfl (ow_move rfl ?_)
  refine ops_cons rfl (ow_callB ent224 rfl (sIsNT_c _ _ _ _ _ hs hl hm) (fun w4 hT x3 => ?_) (fun w4 hT x3 => ?_))
  replace hs := hs.ext x3
  replace b4 := b4.ext x3
  replace X := Ext.trans X x3; clear x3
  refine ops_cons rfl (ow_not rfl ?_)
  refine ops_nil ?_
  refine c_false rfl ?_
  refine c_skip ?_
  refine tq_n ?_
  refine c_seq ?_
  refine c_seqR ?_
  refine ops_cons rfl (ow_assign rfl ?_)
  refine ops_nil ?_
  refine c_block ?_
  refine c_loop (G := Nat) (fun k => [(0, .slice A xs.length c), (1, .int .i64 z), (4, .pointer (some ⟨g4, 0, none⟩)), (6, .int .i64 (k : Nat))]) (fun k wr => k ≤ xs.length ∧ xs.find? (hitN z) = (xs.drop k).find? (hitN z) ∧ Sl B wr A (xs.flatMap NodeI.cells) ∧ Blk wr g4 59 (⟨0, ByteArray.empty, 0, false⟩ : NodeI).cells ∧ Ext w wr) (fun k => xs.length - k) 0 (.cons rfl (.cons rfl (.cons rfl (.cons rfl (.nil _))))) ?_ ?_
  · exact ⟨by omega, rfl, hs, b4, X⟩
  clear hs b4
  clear X
  rintro k wr ⟨hk0, hi, hs, b4, X⟩
  refine c_seq ?_
  refine c_seqR ?_
  refine ops_cons rfl (ow_move rfl ?_)
  refine ops_cons rfl (ow_move rfl ?_)
  refine ops_cons rfl (ow_len Tryz.underlying24 rfl ?_)
  refine ops_cons rfl (ow_lss2 rfl rfl (fun hk => ?_) (fun hk => ?_))
  obtain ⟨x, hx, dx⟩ := drop_at' hk
  refine ops_nil ?_
  refine c_true rfl ?_
  refine c_skip ?_
  refine tq_n ?_
  refine c_seq ?_
  refine c_block ?_
  refine c_seqR ?_
  refine ops_cons rfl (ow_move rfl ?_)
  refine ops_cons rfl (ow_move rfl ?_)
  refine ops_cons rfl (ow_indexT hs NodeI.len rfl el24 rfl rfl rfl hx rfl ?_)
  refine ops_cons rfl (ow_fieldAddr off59_0 rfl ?_)
  refine ops_cons rfl (ow_loadTF hs NodeI.len hx ti2 rfl rfl rfl ?_)
  refine ops_cons rfl (ow_move rfl ?_)
  refine ops_cons rfl (ow_eql2 rfl rfl (fun hh => ?_) (fun hh => ?_))
  refine ops_nil ?_
  refine c_true rfl ?_
  refine c_seqR ?_
  refine ops_cons rfl (ow_move rfl ?_)
  refine ops_cons rfl (ow_move rfl ?_)
  refine ops_cons rfl (ow_indexT hs NodeI.len rfl el24 rfl rfl rfl hx rfl ?_)
  refine ops_cons rfl (ow_loadTA hs NodeI.len hx ti59 rfl ?_)
  refine ops_cons rfl (ow_storeB b4 ti59 rfl rfl rfl rfl rfl rfl ?_)
  intro w6 b5 hg5 z7
  replace hs := hs.grown hg5 (by intro g hg; injection hg; omega)
  replace X := X.grown hg5 X.size (by intro g hg; injection hg; omega)
  clear hg5 b4
  refine ops_cons rfl (ow_assign rfl ?_)
  refine ops_nil ?_
  refine c_ret ?_
  refine bq_r ?_
  refine tq_r ?_
  refine tq_r ?_
  refine bq_r ?_
  refine tq_r ?_
  refine fin_cell2 rfl rfl b5 ti59 rfl rfl ?_
  · skip
    first
    | (have e : fnodeF xs z = (zeroN, 1) := by rw [fnodeF, if_neg (by simp [hT])]
       rw [e]; exact ⟨rfl, X⟩)
    | (have e : fnodeF xs z = (x, 0) := by
         rw [fnodeF, if_pos hT, hi, dx, List.find?_cons, show hitN z x = true from decide_eq_true hh]
       rw [e]; exact ⟨rfl, X⟩)
    | (have e : fnodeF xs z = (zeroN, 4) := by rw [fnodeF, if_pos hT, hi, drop_end hk]; rfl
       rw [e]; exact ⟨rfl, X⟩)
  refine ops_nil ?_
  refine c_false rfl ?_
  refine c_skip ?_
  refine bq_n ?_
  refine tq_n ?_
  refine c_region ?_
  refine ops_cons rfl (ow_move rfl ?_)
  refine ops_cons rfl (ow_add rfl rfl (w64 (by omega)) ?_)
  refine ops_cons rfl (ow_assign rfl ?_)
  refine ops_nil ?_
  refine tq_n ⟨k + 1, (.cons rfl (.cons rfl (.cons rfl (.cons rfl (.nil _))))), ?_, ?_⟩
  · exact ⟨by omega, (by rw [hi, dx, List.find?_cons]; simp [hitN, *]), hs, b4, X⟩
  · first | omega | (dsimp only; omega)
  refine ops_nil ?_
  refine c_false rfl ?_
  refine c_exit ?_
  refine tq_e ?_
  refine tq_e ?_
  refine bq_e ?_
  refine tq_n ?_
  refine c_seqR ?_
  refine ops_cons rfl (ow_buildP pl59 ti59 rfl rfl ?_)
  refine ops_cons rfl (ow_storeB b4 ti59 rfl rfl rfl rfl rfl rfl ?_)
  intro w9 b5 hg8 z10
  replace hs := hs.grown hg8 (by intro g hg; injection hg; omega)
  replace X := X.grown hg8 X.size (by intro g hg; injection hg; omega)
  clear hg8 b4
  refine ops_cons rfl (ow_assign rfl ?_)
  refine ops_nil ?_
  refine c_ret ?_
  refine fin_cell2 rfl rfl b5 ti59 rfl rfl ?_
  · skip
    first
    | (have e : fnodeF xs z = (zeroN, 1) := by rw [fnodeF, if_neg (by simp [hT])]
       rw [e]; exact ⟨rfl, X⟩)
    | (have e : fnodeF xs z = (x, 0) := by
         rw [fnodeF, if_pos hT, hi, dx, List.find?_cons, show hitN z x = true from decide_eq_true hh]
       rw [e]; exact ⟨rfl, X⟩)
    | (have e : fnodeF xs z = (zeroN, 4) := by rw [fnodeF, if_pos hT, hi, drop_end hk]; rfl
       rw [e]; exact ⟨rfl, X⟩)
  replace hs := hs.ext x3
  replace b4 := b4.ext x3
  replace X := Ext.trans X x3; clear x3
  refine ops_cons rfl (ow_not rfl ?_)
  refine ops_nil ?_
  refine c_true rfl ?_
  refine c_seqR ?_
  refine ops_cons rfl (ow_buildP pl59 ti59 rfl rfl ?_)
  refine ops_cons rfl (ow_storeB b4 ti59 rfl rfl rfl rfl rfl rfl ?_)
  intro w12 b5 hg11 z13
  replace hs := hs.grown hg11 (by intro g hg; injection hg; omega)
  replace X := X.grown hg11 X.size (by intro g hg; injection hg; omega)
  clear hg11 b4
  refine ops_cons rfl (ow_assign rfl ?_)
  refine ops_nil ?_
  refine c_ret ?_
  refine tq_r ?_
  refine fin_cell2 rfl rfl b5 ti59 rfl rfl ?_
  · skip
    first
    | (have e : fnodeF xs z = (zeroN, 1) := by rw [fnodeF, if_neg (by simp [hT])]
       rw [e]; exact ⟨rfl, X⟩)
    | (have e : fnodeF xs z = (x, 0) := by
         rw [fnodeF, if_pos hT, hi, dx, List.find?_cons, show hitN z x = true from decide_eq_true hh]
       rw [e]; exact ⟨rfl, X⟩)
    | (have e : fnodeF xs z = (zeroN, 4) := by rw [fnodeF, if_pos hT, hi, drop_end hk]; rfl
       rw [e]; exact ⟨rfl, X⟩)

theorem l15Known_c (m : MedlI) (B : Nat) (node : Int) (w : World) (hm : Med B w m) (hz : m.small) :
    Calls Tryz.prog 126 #[.agg m.cells.toArray, .int .i64 node] w (Ret fun v w' => v = .bool (isNT m.ns && idIn m.ns node) ∧ Ext w w') := by
  have hls := hz.ls
  have hlm := hz.lm
  have hln := hz.ln
  have Bhm := hm.1
  have X := Ext.refl w
  refine calls_of (args := [.agg m.cells.toArray, .int .i64 node]) Tryz.func126 Tryz.ntmps126 rfl rfl ?_
  refine c_seqR ?_
  refine ops_cons rfl (ow_box rfl rfl ?_)
  intro g4 w3 eg4 b1 x2 zg4
  have lg4 : w.heap.size ≤ g4 := Nat.le_trans X.size (Nat.le_of_eq eg4.symm)
  have pg4hm := Nat.le_trans hm.1 (Nat.le_of_eq eg4.symm)
  replace hm := hm.ext x2
  replace X := Ext.trans X x2; clear x2
  refine ops_cons rfl (ow_assign rfl ?_)
  refine ops_nil ?_
  refine c_seqR ?_
  refine ops_cons rfl (ow_fieldAddrB off28_1 rfl rfl ?_)
  refine ops_cons rfl (ow_loadB b1 ti24 rfl rfl ?_)
  refine ops_cons rfl (ow_move rfl ?_)
  refine ops_cons rfl (ow_call ent202 rfl (ret_mono (sFindNode_c _ _ _ m.ns node _ hm.sn hln (fun x hx => by have := hz.lz x hx; omega)) ?_))
  rintro _ w6 ⟨rfl, x5⟩
  replace hm := hm.ext x5
  replace b1 := b1.ext x5
  replace X := Ext.trans X x5; clear x5
  refine ops_cons rfl (ow_move rfl ?_)
  refine ops_cons rfl (ow_extract rfl rfl ?_)
  refine ops_cons rfl (ow_extract rfl rfl ?_)
  refine ops_cons rfl (ow_alloc ti59 ?_)
  intro g10 w9 eg10 b7 x8 zg10
  have lg10 : w.heap.size ≤ g10 := Nat.le_trans X.size (Nat.le_of_eq eg10.symm)
  have pg10hm := Nat.le_trans hm.1 (Nat.le_of_eq eg10.symm)
  have ng10b1 := Nat.lt_of_lt_of_eq b1.lt eg10.symm
  replace hm := hm.ext x8
  replace b1 := b1.ext x8
  replace X := Ext.trans X x8; clear x8
  refine ops_cons rfl (ow_storeB b7 ti59 rfl rfl rfl rfl rfl rfl ?_)
  intro w12 b14 hg11 z13
  replace hm := hm.grown hg11 (by intro g hg; injection hg; omega)
  replace b1 := b1.grown hg11 (by intro h; injection h; omega)
  replace X := X.grown hg11 X.size (by intro g hg; injection hg; omega)
  clear hg11 b7
  refine ops_cons rfl (ow_assign rfl ?_)
  refine ops_nil ?_
  refine c_seqR ?_
  refine ops_cons rfl (ow_move rfl ?_)
  refine ops_cons rfl (ow_eql rfl rfl ?_)
  refine ops_cons rfl (ow_assign rfl ?_)
  refine ops_nil ?_
  refine c_ret ?_
  refine fin_ret1 rfl rfl ?_
  exact ⟨congrArg Value.bool (known_eq m.ns node), X⟩

theorem nodesCode_c (m : MedlI) (B : Nat) (mode : Int) (A : Option Addr) (B2 c : Nat) (zs : List Int) (w : World) (hm : Med B w m) (hz : m.small) (hs : Sl B2 w A (zs.flatMap eI)) (hzl : zs.length ≤ 1048576) :
    Calls Tryz.prog 124 #[.agg m.cells.toArray, .int .i64 mode, .slice A zs.length c] w (Ret fun v w' => v = .int .i64 (nodesC m.d mode zs) ∧ Ext w w') := by
  have hls := hz.ls
  have hlm := hz.lm
  have hln := hz.ln
  have Bhm := hm.1
  have Bhs := hs.1
  have X := Ext.refl w
  refine calls_of (args := [.agg m.cells.toArray, .int .i64 mode, .slice A zs.length c]) Tryz.func124 Tryz.ntmps124 rfl rfl ?_
  refine c_seqR ?_
  refine ops_cons rfl (ow_box rfl rfl ?_)
  intro g4 w3 eg4 b1 x2 zg4
  have lg4 : w.heap.size ≤ g4 := Nat.le_trans X.size (Nat.le_of_eq eg4.symm)
  have pg4hm := Nat.le_trans hm.1 (Nat.le_of_eq eg4.symm)
  have pg4hs := Nat.le_trans hs.1 (Nat.le_of_eq eg4.symm)
  replace hm := hm.ext x2
  replace hs := hs.ext x2
  replace X := Ext.trans X x2; clear x2
  refine ops_cons rfl (ow_assign rfl ?_)
  refine ops_nil ?_
  refine c_seq ?_
  refine c_seqR ?_
  refine ops_cons rfl (ow_loadAB b1 ti28 rfl rfl ?_)
  refine ops_cons rfl (ow_move rfl ?_)
  refine ops_cons rfl (ow_call ent119 rfl (ret_mono (modeCode_c m _ mode _ hm hz) ?_))
  rintro _ w6 ⟨rfl, x5⟩
  replace hm := hm.ext x5
  replace hs := hs.ext x5
  replace b1 := b1.ext x5
  replace X := Ext.trans X x5; clear x5
  refine ops_cons rfl (ow_assign rfl ?_)
  refine ops_nil ?_
  refine c_seqR ?_
  refine ops_cons rfl (ow_move rfl ?_)
  refine ops_cons rfl (ow_neq2 rfl rfl (fun hC => ?_) (fun hC => ?_))
  refine ops_nil ?_
  refine c_true rfl ?_
  refine c_seqR ?_
  refine ops_cons rfl (ow_move rfl ?_)
  refine ops_cons rfl (ow_assign rfl ?_)
  refine ops_nil ?_
  refine c_ret ?_
  refine tq_r ?_
  refine fin_ret1 rfl rfl ?_
  · skip
    refine ⟨congrArg (Value.int .i64) ?_, X⟩
    first
    | (rw [nodesC, if_neg hC]; done)
    | (rw [nodesC, if_pos hC0]
       show _ = if zs.all (idIn m.ns) = true then (0 : Int) else 2
       rw [if_neg (show ¬ zs.all (idIn m.ns) = true by rw [hi, dx, List.all_cons, hF2]; simp)])
    | (rw [nodesC, if_pos hC0]
       show _ = if zs.all (idIn m.ns) = true then (0 : Int) else 2
       rw [if_pos (show zs.all (idIn m.ns) = true by rw [hi, drop_end hk]; rfl)])
  have hC0 : modeC m.d mode = 0 := by omega
  refine ops_nil ?_
  refine c_false rfl ?_
  refine c_skip ?_
  refine tq_n ?_
  refine c_seq ?_
  refine c_seqR ?_
  refine ops_cons rfl (ow_move rfl ?_)
  refine ops_cons rfl (ow_len Tryz.underlying30 rfl ?_)
  refine ops_cons rfl (ow_move rfl ?_)
  refine ops_nil ?_
  refine c_block ?_
  refine c_loop (G := Nat) (fun k => [(3, .pointer (some ⟨g4, 0, none⟩)), (16, .slice A zs.length c), (17, .int .i64 (zs.length : Nat)), (18, .int .i64 (k : Nat))]) (fun k wr => k ≤ zs.length ∧ zs.all (idIn m.ns) = (zs.drop k).all (idIn m.ns) ∧ Med B wr m ∧ Sl B2 wr A (zs.flatMap eI) ∧ Blk wr g4 28 m.cells ∧ Ext w wr) (fun k => zs.length - k) 0 (.cons rfl (.cons rfl (.cons rfl (.cons rfl (.nil _))))) ?_ ?_
  · exact ⟨by omega, rfl, hm, hs, b1, X⟩
  clear hm hs b1
  clear X
  rintro k wr ⟨hk0, hi, hm, hs, b1, X⟩
  refine c_seqR ?_
  refine ops_cons rfl (ow_lss2 rfl rfl (fun hk => ?_) (fun hk => ?_))
  obtain ⟨x, hx, dx⟩ := drop_at' hk
  refine ops_nil ?_
  refine c_seq ?_
  refine c_true rfl ?_
  refine c_skip ?_
  refine tq_n ?_
  refine c_seq ?_
  refine c_block ?_
  refine c_seqR ?_
  refine ops_cons rfl (ow_indexT hs eI_len rfl el30 rfl rfl rfl hx rfl ?_)
  refine ops_cons rfl (ow_loadT hs eI_len hx ti2 rfl rfl rfl ?_)
  refine ops_cons rfl (ow_assign rfl ?_)
  refine ops_nil ?_
  refine c_seqR ?_
  refine ops_cons rfl (ow_fieldAddrB off28_1 rfl rfl ?_)
  refine ops_cons rfl (ow_loadB b1 ti24 rfl rfl ?_)
  refine ops_cons rfl (ow_move rfl ?_)
  refine ops_cons rfl (ow_call ent201 rfl (ret_mono (findNode_c _ _ _ m.ns x _ hm.sn hln) ?_))
  rintro _ w9 ⟨rfl, x7⟩
  replace hm := hm.ext x7
  replace hs := hs.ext x7
  replace b1 := b1.ext x7
  replace X := Ext.trans X x7; clear x7
  refine ops_cons rfl (ow_lss2 rfl rfl (fun hF => ?_) (fun hF => ?_))
  have hF2 := findN_lt.1 hF
  refine ops_nil ?_
  refine c_true rfl ?_
  refine c_seqR ?_
  refine ops_cons rfl (ow_assign rfl ?_)
  refine ops_nil ?_
  refine c_ret ?_
  refine bq_r ?_
  refine tq_r ?_
  refine tq_r ?_
  refine bq_r ?_
  refine tq_r ?_
  refine fin_ret1 rfl rfl ?_
  · skip
    refine ⟨congrArg (Value.int .i64) ?_, X⟩
    first
    | (rw [nodesC, if_neg hC]; done)
    | (rw [nodesC, if_pos hC0]
       show _ = if zs.all (idIn m.ns) = true then (0 : Int) else 2
       rw [if_neg (show ¬ zs.all (idIn m.ns) = true by rw [hi, dx, List.all_cons, hF2]; simp)])
    | (rw [nodesC, if_pos hC0]
       show _ = if zs.all (idIn m.ns) = true then (0 : Int) else 2
       rw [if_pos (show zs.all (idIn m.ns) = true by rw [hi, drop_end hk]; rfl)])
  have hF2 : idIn m.ns x = true := by
    cases e : idIn m.ns x
    · exact absurd (findN_lt.2 e) hF
    · rfl
  refine ops_nil ?_
  refine c_false rfl ?_
  refine c_skip ?_
  refine bq_n ?_
  refine tq_n ?_
  refine c_region ?_
  refine ops_cons rfl (ow_add rfl rfl (w64 (by omega)) ?_)
  refine ops_cons rfl (ow_move rfl ?_)
  refine ops_nil ?_
  refine tq_n ⟨k + 1, (.cons rfl (.cons rfl (.cons rfl (.cons rfl (.nil _))))), ?_, ?_⟩
  · exact ⟨by omega, (by rw [hi, dx, List.all_cons, hF2]; rfl), hm, hs, b1, X⟩
  · first | omega | (dsimp only; omega)
  refine ops_nil ?_
  refine c_seq ?_
  refine c_false rfl ?_
  refine c_exit ?_
  refine tq_e ?_
  refine tq_e ?_
  refine bq_e ?_
  refine tq_n ?_
  refine c_seqR ?_
  refine ops_cons rfl (ow_assign rfl ?_)
  refine ops_nil ?_
  refine c_ret ?_
  refine fin_ret1 rfl rfl ?_
  · skip
    refine ⟨congrArg (Value.int .i64) ?_, X⟩
    first
    | (rw [nodesC, if_neg hC]; done)
    | (rw [nodesC, if_pos hC0]
       show _ = if zs.all (idIn m.ns) = true then (0 : Int) else 2
       rw [if_neg (show ¬ zs.all (idIn m.ns) = true by rw [hi, dx, List.all_cons, hF2]; simp)])
    | (rw [nodesC, if_pos hC0]
       show _ = if zs.all (idIn m.ns) = true then (0 : Int) else 2
       rw [if_pos (show zs.all (idIn m.ns) = true by rw [hi, drop_end hk]; rfl)])

theorem l15Times_c (m : MedlI) (B : Nat) (mode node : Int) (w : World) (hm : Med B w m) (hz : m.small) (hok : ∀ x ∈ m.ss, slotOk x = true) :
    Calls Tryz.prog 127 #[.agg m.cells.toArray, .int .i64 mode, .int .i64 node] w (Ret fun v w' => ∃ A' c', v = .slice A' (sendS m.ss mode node m.ss).length c' ∧ Own w' w.heap.size 2 1 A' (sendS m.ss mode node m.ss).length c' ((sendS m.ss mode node m.ss).flatMap eI) ∧ Ext w w') := by
  have hls := hz.ls
  have hlm := hz.lm
  have hln := hz.ln
  have Bhm := hm.1
  have X := Ext.refl w
  refine calls_of (args := [.agg m.cells.toArray, .int .i64 mode, .int .i64 node]) Tryz.func127 Tryz.ntmps127 rfl rfl ?_
  refine c_seqR ?_
  refine ops_cons rfl (ow_box rfl rfl ?_)
  intro g4 w3 eg4 b1 x2 zg4
  have lg4 : w.heap.size ≤ g4 := Nat.le_trans X.size (Nat.le_of_eq eg4.symm)
  have pg4hm := Nat.le_trans hm.1 (Nat.le_of_eq eg4.symm)
  replace hm := hm.ext x2
  replace X := Ext.trans X x2; clear x2
  refine ops_cons rfl (ow_assign rfl ?_)
  refine ops_nil ?_
  refine c_seqR ?_
  refine ops_cons rfl (ow_buildSlice el30 ti2 rfl rfl rfl rfl rfl ?_)
  intro gO w6 egO oO bbgO x5 zgO
  replace oO := Own.low oO X.size
  replace hm := hm.ext x5
  replace b1 := b1.ext x5
  replace X := Ext.trans X x5; clear x5
  refine ops_cons rfl (ow_assign rfl ?_)
  refine ops_nil ?_
  refine c_seq ?_
  refine c_seqR ?_
  refine ops_cons rfl (ow_assign rfl ?_)
  refine ops_nil ?_
  refine c_block ?_
  refine c_loop (G := Nat × Nat × List Int × Option Addr × Nat) (fun ⟨k, n1, ys, A1, c1⟩ => [(1, .int .i64 mode), (2, .int .i64 node), (3, .pointer (some ⟨g4, 0, none⟩)), (6, .slice none 0 0), (7, .slice A1 n1 c1), (8, .int .i64 (k : Nat))]) (fun ⟨k, n1, ys, A1, c1⟩ wr => k ≤ m.ss.length ∧ n1 = ys.length ∧ n1 ≤ k ∧ sendS m.ss mode node m.ss = ys ++ sendS m.ss mode node (m.ss.drop k) ∧ Own wr w.heap.size 2 1 A1 n1 c1 (ys.flatMap eI) ∧ Med B wr m ∧ Blk wr g4 28 m.cells ∧ Ext w wr) (fun ⟨k, n1, ys, A1, c1⟩ => m.ss.length - k) (0, 0, [], some ⟨gO, 0, none⟩, 0) (.cons rfl (.cons rfl (.cons rfl (.cons rfl (.cons rfl (.cons rfl (.nil _))))))) ?_ ?_
  · exact ⟨by omega, rfl, by omega, rfl, oO, hm, b1, X⟩
  clear hm b1 oO
  clear X
  rintro ⟨k, n1, ys, A1, c1⟩ wr ⟨hk0, hn, hn1, hi, oO, hm, b1, X⟩
  refine c_seq ?_
  refine c_seqR ?_
  refine ops_cons rfl (ow_move rfl ?_)
  refine ops_cons rfl (ow_fieldAddrB off28_3 rfl rfl ?_)
  refine ops_cons rfl (ow_loadB b1 ti26 rfl rfl ?_)
  refine ops_cons rfl (ow_len Tryz.underlying26 rfl ?_)
  refine ops_cons rfl (ow_lss2 rfl rfl (fun hk => ?_) (fun hk => ?_))
  obtain ⟨x, hx, dx⟩ := drop_at' hk
  have hxs := slotI (hok x (List.mem_of_getElem? hx))
  refine ops_nil ?_
  refine c_true rfl ?_
  refine c_skip ?_
  refine tq_n ?_
  refine c_seq ?_
  refine c_block ?_
  refine c_seqR ?_
  refine ops_cons rfl (ow_fieldAddrB off28_3 rfl rfl ?_)
  refine ops_cons rfl (ow_loadB b1 ti26 rfl rfl ?_)
  refine ops_cons rfl (ow_move rfl ?_)
  refine ops_cons rfl (ow_indexT hm.ss SlotI.len rfl el26 rfl rfl rfl hx rfl ?_)
  refine ops_cons rfl (ow_loadTA hm.ss SlotI.len hx ti89 rfl ?_)
  refine ops_cons rfl (ow_alloc ti89 ?_)
  intro g10 w9 eg10 b7 x8 zg10
  have lg10 : w.heap.size ≤ g10 := Nat.le_trans X.size (Nat.le_of_eq eg10.symm)
  have pg10hm := Nat.le_trans hm.1 (Nat.le_of_eq eg10.symm)
  have ng10b1 := Nat.lt_of_lt_of_eq b1.lt eg10.symm
  replace oO := oO.ext x8
  replace hm := hm.ext x8
  replace b1 := b1.ext x8
  replace X := Ext.trans X x8; clear x8
  refine ops_cons rfl (ow_storeB b7 ti89 rfl rfl rfl rfl rfl rfl ?_)
  intro w12 b14 hg11 z13
  replace oO := oO.grownBlk hg11 (Own.neT oO b7 (by decide))
  replace hm := hm.grown hg11 (by intro g hg; injection hg; omega)
  replace b1 := b1.grown hg11 (by intro h; injection h; omega)
  replace X := X.grown hg11 X.size (by intro g hg; injection hg; omega)
  clear hg11 b7
  refine ops_nil ?_
  refine c_seqR ?_
  refine ops_cons rfl (ow_fieldAddrB off89_0 rfl rfl ?_)
  refine ops_cons rfl (ow_loadB b14 ti2 rfl rfl ?_)
  refine ops_cons rfl (ow_move rfl ?_)
  refine ops_cons rfl (ow_eql2 rfl rfl (fun e1 => ?_) (fun e1 => ?_))
  refine ops_cons rfl (ow_move rfl ?_)
  refine ops_want rfl rfl rfl (ow_fieldAddrB off89_3 rfl rfl ?_)
  refine ops_want rfl rfl rfl (ow_fieldAddrB off67_0 rfl rfl ?_)
  refine ops_want rfl rfl rfl (ow_loadB b14 ti2 rfl rfl ?_)
  refine ops_want rfl rfl rfl (ow_move rfl ?_)
  refine ops_want rfl rfl rfl (ow_eql2 rfl rfl (fun e2 => ?_) (fun e2 => ?_))
  refine ops_cons rfl (ow_pick rfl rfl ?_)
  refine ops_nil ?_
  refine c_true rfl ?_
  refine c_region ?_
  refine ops_cons rfl (ow_move rfl ?_)
  refine ops_cons rfl (ow_loadAB b1 ti28 rfl rfl ?_)
  refine ops_cons rfl (ow_move rfl ?_)
  refine ops_cons rfl (ow_fieldAddrB off89_1 rfl rfl ?_)
  refine ops_cons rfl (ow_loadB b14 ti2 rfl rfl ?_)
  refine ops_cons rfl (ow_fieldAddrB off89_2 rfl rfl ?_)
  refine ops_cons rfl (ow_loadB b14 ti2 rfl rfl ?_)
  refine ops_cons rfl (ow_call ent122 rfl (ret_mono (l15Start_c m _ mode x.round x.slot _ hm hz hok) ?_))
  rintro _ w16 ⟨rfl, x15⟩
  replace oO := oO.ext x15
  replace hm := hm.ext x15
  replace b1 := b1.ext x15
  replace b14 := b14.ext x15
  replace X := Ext.trans X x15; clear x15
  refine ops_cons rfl (ow_buildSlice el30 ti2 rfl rfl rfl rfl rfl ?_)
  intro g17 w19 eg17 oT bbg17 x18 zg17
  replace oT := Own.low oT X.size
  replace oO := oO.ext x18
  replace hm := hm.ext x18
  replace b1 := b1.ext x18
  replace b14 := b14.ext x18
  replace X := Ext.trans X x18; clear x18
  refine ops_cons rfl (ow_append (ts := #[]) oO X.size oT.sl (by first | rfl | simp) (by first | exact List.all_eq_true.1 rfl | simp [Value.oneCell']) el30 ti2 rfl rfl rfl rfl (by omega) (by omega) ?_)
  intro AoN coN w21 oN hg20
  replace hm := hm.grown hg20 (fun g hg => Nat.le_trans Bhm (Own.lt oO hg).1)
  replace b1 := b1.grown hg20 (fun h => Own.neT oO b1 (by decide) h.symm)
  replace b14 := b14.grown hg20 (fun h => Own.neT oO b14 (by decide) h.symm)
  replace X := X.grown hg20 X.size (fun g hg => (Own.lt oO hg).1)
  clear hg20
  refine ops_cons rfl (ow_assign rfl ?_)
  refine ops_nil ?_
  refine bq_n ?_
  refine tq_n ?_
  refine c_region ?_
  refine ops_cons rfl (ow_move rfl ?_)
  refine ops_cons rfl (ow_add rfl rfl (w64 (by omega)) ?_)
  refine ops_cons rfl (ow_assign rfl ?_)
  refine ops_nil ?_
  refine tq_n ⟨(k + 1, n1 + 1, ys ++ [startD m.ss mode x.round x.slot], AoN, coN), (.cons rfl (.cons rfl (.cons rfl (.cons rfl (.cons rfl (.cons rfl (.nil _))))))), ?_, ?_⟩
  · exact ⟨by omega, by simp [hn], by omega, (by rw [hi, dx, sendS, if_pos ⟨e1, e2⟩]; simp), oN.to (snoc eI ys _).symm, hm, b1, X⟩
  · first | omega | (dsimp only; omega)
  refine ops_cons rfl (ow_pick rfl rfl ?_)
  refine ops_nil ?_
  refine c_false rfl ?_
  refine c_skip ?_
  refine bq_n ?_
  refine tq_n ?_
  refine c_region ?_
  refine ops_cons rfl (ow_move rfl ?_)
  refine ops_cons rfl (ow_add rfl rfl (w64 (by omega)) ?_)
  refine ops_cons rfl (ow_assign rfl ?_)
  refine ops_nil ?_
  refine tq_n ⟨(k + 1, n1, ys, A1, c1), (.cons rfl (.cons rfl (.cons rfl (.cons rfl (.cons rfl (.cons rfl (.nil _))))))), ?_, ?_⟩
  · exact ⟨by omega, hn, by omega, (by rw [hi, dx, sendS, if_neg (by omega)]), oO, hm, b1, X⟩
  · first | omega | (dsimp only; omega)
  refine ops_cons rfl (ow_move rfl ?_)
  refine ops_skip rfl rfl rfl rfl ?_
  refine ops_skip rfl rfl rfl rfl ?_
  refine ops_skip rfl rfl rfl rfl ?_
  refine ops_skip rfl rfl rfl rfl ?_
  refine ops_skip rfl rfl rfl rfl ?_
  refine ops_cons rfl (ow_pick rfl rfl ?_)
  refine ops_nil ?_
  refine c_false rfl ?_
  refine c_skip ?_
  refine bq_n ?_
  refine tq_n ?_
  refine c_region ?_
  refine ops_cons rfl (ow_move rfl ?_)
  refine ops_cons rfl (ow_add rfl rfl (w64 (by omega)) ?_)
  refine ops_cons rfl (ow_assign rfl ?_)
  refine ops_nil ?_
  refine tq_n ⟨(k + 1, n1, ys, A1, c1), (.cons rfl (.cons rfl (.cons rfl (.cons rfl (.cons rfl (.cons rfl (.nil _))))))), ?_, ?_⟩
  · exact ⟨by omega, hn, by omega, (by rw [hi, dx, sendS, if_neg (by omega)]), oO, hm, b1, X⟩
  · first | omega | (dsimp only; omega)
  refine ops_nil ?_
  refine c_false rfl ?_
  refine c_exit ?_
  refine tq_e ?_
  refine tq_e ?_
  refine bq_e ?_
  refine tq_n ?_
  refine c_seqR ?_
  refine ops_cons rfl (ow_move rfl ?_)
  refine ops_cons rfl (ow_assign rfl ?_)
  refine ops_nil ?_
  refine c_ret ?_
  refine fin_ret1 rfl rfl ?_
  · skip
    have e : sendS m.ss mode node m.ss = ys := by rw [hi, drop_end hk]; simp [sendS]
    rw [e, ← hn]; exact ⟨A1, c1, rfl, oO, X⟩

theorem sSend_c (m : MedlI) (B : Nat) (mode node : Int) (w : World) (hm : Med B w m) (hz : m.small) :
    Calls Tryz.prog 49 #[.agg m.cells.toArray, .int .i64 mode, .int .i64 node] w (Ret fun v w' => ∃ A' c', v = .tuple #[.slice A' (sendT m.d mode node).1.length c', .int .i64 (sendT m.d mode node).2] ∧ Own w' w.heap.size 2 1 A' (sendT m.d mode node).1.length c' ((sendT m.d mode node).1.flatMap eI) ∧ Ext w w') := by
  have hls := hz.ls
  have hlm := hz.lm
  have hln := hz.ln
  have Bhm := hm.1
  have X := Ext.refl w
  refine calls_of (args := [.agg m.cells.toArray, .int .i64 mode, .int .i64 node]) Tryz.func49 Tryz.ntmps49 rfl rfl ?_
  refine c_seqR ?_
  refine ops_cons rfl (ow_box rfl rfl ?_)
  intro g4 w3 eg4 b1 x2 zg4
  have lg4 : w.heap.size ≤ g4 := Nat.le_trans X.size (Nat.le_of_eq eg4.symm)
  have pg4hm := Nat.le_trans hm.1 (Nat.le_of_eq eg4.symm)
  replace hm := hm.ext x2
  replace X := Ext.trans X x2; clear x2
  refine ops_cons rfl (ow_assign rfl ?_)
  refine ops_cons rfl (ow_assign rfl ?_)
  refine ops_nil ?_
  refine c_seqR ?_
  refine ops_cons rfl (ow_loadAB b1 ti28 rfl rfl ?_)
  refine ops_cons rfl (ow_move rfl ?_)
  refine ops_cons rfl (ow_call ent121 rfl (ret_mono (l13Mode_c m _ mode _ hm hz) ?_))
  rintro _ w6 ⟨rfl, x5⟩
  replace hm := hm.ext x5
  replace b1 := b1.ext x5
  replace X := Ext.trans X x5; clear x5
  refine ops_cons rfl (ow_assign rfl ?_)
  refine ops_nil ?_
  refine c_seq ?_
  refine c_seqR ?_
  refine ops_cons rfl (ow_move rfl ?_)
  refine ops_cons rfl (ow_eql2 rfl rfl (fun h1 => ?_) (fun h1 => ?_))
  have hC0 : modeC m.d mode = 0 := by omega
  have wf := isMedl_iff.1 (modeC_zero.1 hC0).1
  have hok : ∀ x ∈ m.ss, slotOk x = true := isST_all wf.st
  refine ops_cons rfl (ow_move rfl ?_)
  refine ops_want rfl rfl rfl (ow_loadAB b1 ti28 rfl rfl ?_)
  refine ops_want rfl rfl rfl (ow_move rfl ?_)
  refine ops_want rfl rfl rfl (ow_callB ent126 rfl (l15Known_c m _ node _ hm hz) (fun w9 hKn x7 => ?_) (fun w9 hKn x7 => ?_))
  replace hm := hm.ext x7
  replace b1 := b1.ext x7
  replace X := Ext.trans X x7; clear x7
  refine ops_want rfl rfl rfl (ow_not rfl ?_)
  refine ops_cons rfl (ow_pick rfl rfl ?_)
  refine ops_nil ?_
  refine c_false rfl ?_
  refine c_skip ?_
  refine tq_n ?_
  refine c_seq ?_
  refine c_seqR ?_
  refine ops_cons rfl (ow_move rfl ?_)
  refine ops_cons rfl (ow_neq2 rfl rfl (fun h4 => ?_) (fun h4 => ?_))
  exact absurd h1 h4
  refine ops_nil ?_
  refine c_false rfl ?_
  refine c_skip ?_
  refine tq_n ?_
  refine c_seqR ?_
  refine ops_cons rfl (ow_loadAB b1 ti28 rfl rfl ?_)
  refine ops_cons rfl (ow_move rfl ?_)
  refine ops_cons rfl (ow_move rfl ?_)
  refine ops_cons rfl (ow_call ent127 rfl (ret_mono (l15Times_c m _ mode node _ hm hz hok) ?_))
  rintro _ w11 ⟨A12, c13, rfl, oR, x10⟩
  replace oR := Own.low oR X.size
  replace hm := hm.ext x10
  replace b1 := b1.ext x10
  replace X := Ext.trans X x10; clear x10
  refine ops_cons rfl (ow_assign rfl ?_)
  refine ops_cons rfl (ow_assign rfl ?_)
  refine ops_nil ?_
  refine c_ret ?_
  refine fin_ret2 rfl rfl rfl ?_
  · skip
    first
    | (rw [sendT_c h1]; exact ⟨none, 0, rfl, Own.nil_ _ _ _ _, X⟩)
    | (rw [sendT_2 h1 (by rw [show isNT m.ns = true from wf.nt, Bool.true_and] at hKn; exact hKn)]; exact ⟨none, 0, rfl, Own.nil_ _ _ _ _, X⟩)
    | (rw [sendT_0 h1 (by rw [show isNT m.ns = true from wf.nt, Bool.true_and] at hKn; exact hKn)]; exact ⟨_, _, rfl, oR, X⟩)
  replace hm := hm.ext x7
  replace b1 := b1.ext x7
  replace X := Ext.trans X x7; clear x7
  refine ops_want rfl rfl rfl (ow_not rfl ?_)
  refine ops_cons rfl (ow_pick rfl rfl ?_)
  refine ops_nil ?_
  refine c_true rfl ?_
  refine c_region ?_
  refine ops_cons rfl (ow_assign rfl ?_)
  refine ops_nil ?_
  refine tq_n ?_
  refine c_seq ?_
  refine c_seqR ?_
  refine ops_cons rfl (ow_move rfl ?_)
  refine ops_cons rfl (ow_neq2 rfl rfl (fun h4 => ?_) (fun h4 => ?_))
  refine ops_nil ?_
  refine c_true rfl ?_
  refine c_seqR ?_
  refine ops_cons rfl (ow_move rfl ?_)
  refine ops_cons rfl (ow_assign rfl ?_)
  refine ops_cons rfl (ow_assign rfl ?_)
  refine ops_nil ?_
  refine c_ret ?_
  refine tq_r ?_
  refine fin_ret2 rfl rfl rfl ?_
  · skip
    first
    | (rw [sendT_c h1]; exact ⟨none, 0, rfl, Own.nil_ _ _ _ _, X⟩)
    | (rw [sendT_2 h1 (by rw [show isNT m.ns = true from wf.nt, Bool.true_and] at hKn; exact hKn)]; exact ⟨none, 0, rfl, Own.nil_ _ _ _ _, X⟩)
    | (rw [sendT_0 h1 (by rw [show isNT m.ns = true from wf.nt, Bool.true_and] at hKn; exact hKn)]; exact ⟨_, _, rfl, oR, X⟩)
  exact absurd (Classical.not_not.1 h4) (by decide)
  refine ops_cons rfl (ow_move rfl ?_)
  refine ops_skip rfl rfl rfl rfl ?_
  refine ops_skip rfl rfl rfl rfl ?_
  refine ops_skip rfl rfl rfl rfl ?_
  refine ops_skip rfl rfl rfl rfl ?_
  refine ops_cons rfl (ow_pick rfl rfl ?_)
  refine ops_nil ?_
  refine c_false rfl ?_
  refine c_skip ?_
  refine tq_n ?_
  refine c_seq ?_
  refine c_seqR ?_
  refine ops_cons rfl (ow_move rfl ?_)
  refine ops_cons rfl (ow_neq2 rfl rfl (fun h4 => ?_) (fun h4 => ?_))
  refine ops_nil ?_
  refine c_true rfl ?_
  refine c_seqR ?_
  refine ops_cons rfl (ow_move rfl ?_)
  refine ops_cons rfl (ow_assign rfl ?_)
  refine ops_cons rfl (ow_assign rfl ?_)
  refine ops_nil ?_
  refine c_ret ?_
  refine tq_r ?_
  refine fin_ret2 rfl rfl rfl ?_
  · skip
    first
    | (rw [sendT_c h1]; exact ⟨none, 0, rfl, Own.nil_ _ _ _ _, X⟩)
    | (rw [sendT_2 h1 (by rw [show isNT m.ns = true from wf.nt, Bool.true_and] at hKn; exact hKn)]; exact ⟨none, 0, rfl, Own.nil_ _ _ _ _, X⟩)
    | (rw [sendT_0 h1 (by rw [show isNT m.ns = true from wf.nt, Bool.true_and] at hKn; exact hKn)]; exact ⟨_, _, rfl, oR, X⟩)
  exact absurd (Classical.not_not.1 h4) h1

theorem sending_c (m : MedlI) (B : Nat) (mode node : Int) (w : World) (hm : Med B w m) (hz : m.small) (hok : ∀ x ∈ m.ss, slotOk x = true) :
    Calls Tryz.prog 125 #[.agg m.cells.toArray, .int .i64 mode, .int .i64 node] w (Ret fun v w' => ∃ A' c' vE, v = .tuple #[.slice A' (sendG node 0 (ofMode mode m.ss)).length c', vE] ∧ Own w' w.heap.size 2 1 A' (sendG node 0 (ofMode mode m.ss)).length c' ((sendG node 0 (ofMode mode m.ss)).flatMap eI) ∧ Ext w w') := by
  have hls := hz.ls
  have hlm := hz.lm
  have hln := hz.ln
  have Bhm := hm.1
  have X := Ext.refl w
  refine calls_of (args := [.agg m.cells.toArray, .int .i64 mode, .int .i64 node]) Tryz.func125 Tryz.ntmps125 rfl rfl ?_
  refine c_seqR ?_
  refine ops_cons rfl (ow_box rfl rfl ?_)
  intro g4 w3 eg4 b1 x2 zg4
  have lg4 : w.heap.size ≤ g4 := Nat.le_trans X.size (Nat.le_of_eq eg4.symm)
  have pg4hm := Nat.le_trans hm.1 (Nat.le_of_eq eg4.symm)
  replace hm := hm.ext x2
  replace X := Ext.trans X x2; clear x2
  refine ops_cons rfl (ow_assign rfl ?_)
  refine ops_cons rfl (ow_assign rfl ?_)
  refine ops_nil ?_
  refine c_seqR ?_
  refine ops_cons rfl (ow_buildSlice el30 ti2 rfl rfl rfl rfl rfl ?_)
  intro gS w6 egS oS bbgS x5 zgS
  replace oS := Own.low oS X.size
  replace hm := hm.ext x5
  replace b1 := b1.ext x5
  replace X := Ext.trans X x5; clear x5
  have UgS := fun g hg => (Own.lt oS (g := g) hg).2
  refine ops_cons rfl (ow_buildSlice el30 ti2 rfl rfl rfl rfl rfl ?_)
  intro gE w9 egE oE bbgE x7 zgE
  replace oE := Own.low oE X.size
  replace hm := hm.ext x7
  replace b1 := b1.ext x7
  replace oS := oS.ext x7
  replace X := Ext.trans X x7; clear x7
  have dj0 : Apart (Value.slice (some ⟨gS, 0, none⟩) 0 0).ownBlock (Value.slice (some ⟨gE, 0, none⟩) 0 0).ownBlock := fun g h1 h2 => by
    have h3 := UgS g h1
    have h4 : gE = g := by injection h2
    omega
  refine ops_cons rfl (ow_assign rfl ?_)
  refine ops_cons rfl (ow_assign rfl ?_)
  refine ops_cons rfl (ow_assign rfl ?_)
  refine ops_nil ?_
  refine c_seq ?_
  refine c_seqR ?_
  refine ops_cons rfl (ow_loadAB b1 ti28 rfl rfl ?_)
  refine ops_cons rfl (ow_move rfl ?_)
  have US := fun g hg => (Own.lt oS (g := g) hg).2
  have UE := fun g hg => (Own.lt oE (g := g) hg).2
  refine ops_cons rfl (ow_call ent120 rfl (ret_mono (modeSlots_c m B mode _ hm hz) ?_))
  rintro _ w11 ⟨AL, cL, rfl, oL, x10⟩
  have LoL := X.size
  replace hm := hm.ext x10
  replace b1 := b1.ext x10
  replace oS := oS.ext x10
  replace oE := oE.ext x10
  replace X := Ext.trans X x10; clear x10
  have dSL0 : Apart (Value.slice (some ⟨gS, 0, none⟩) 0 0).ownBlock (Value.slice AL (ofMode mode m.ss).length cL).ownBlock := fun g h1 h2 => by have h3 := US g h1; have h4 := (Own.lt oL h2).1; omega
  have dEL0 : Apart (Value.slice (some ⟨gE, 0, none⟩) 0 0).ownBlock (Value.slice AL (ofMode mode m.ss).length cL).ownBlock := fun g h1 h2 => by have h3 := UE g h1; have h4 := (Own.lt oL h2).1; omega
  obtain ⟨lL, oL⟩ : ∃ l, Own _ l _ _ _ _ _ _ := ⟨_, oL⟩
  have hll := ofMode_len mode m.ss
  refine ops_cons rfl (ow_len Tryz.underlying26 rfl ?_)
  refine ops_cons rfl (ow_move rfl ?_)
  refine ops_nil ?_
  refine c_block ?_
  refine c_loop (G := Nat × Int × List Int × List Int × Nat × Option Addr × Nat × Nat × Option Addr × Nat) (fun ⟨k, a, ys, es, n1, A1, c1, n2, A2, c2⟩ => [(2, .int .i64 node), (6, .slice none 0 0), (7, .slice none 0 0), (18, .int .i64 ((ofMode mode m.ss).length : Nat)), (8, .slice A1 n1 c1), (9, .slice A2 n2 c2), (10, .int .i64 a), (17, .slice AL (ofMode mode m.ss).length cL), (19, .int .i64 (k : Nat))]) (fun ⟨k, a, ys, es, n1, A1, c1, n2, A2, c2⟩ wr => k ≤ (ofMode mode m.ss).length ∧ (0 ≤ a ∧ a ≤ 1000 * k) ∧ (n1 = ys.length ∧ n2 = es.length) ∧ (n1 ≤ k ∧ n2 ≤ k) ∧ sendG node 0 (ofMode mode m.ss) = ys ++ sendG node a ((ofMode mode m.ss).drop k) ∧ Apart (Value.slice A1 n1 c1).ownBlock (Value.slice A2 n2 c2).ownBlock ∧ Apart (Value.slice A1 n1 c1).ownBlock (Value.slice AL (ofMode mode m.ss).length cL).ownBlock ∧ Apart (Value.slice A2 n2 c2).ownBlock (Value.slice AL (ofMode mode m.ss).length cL).ownBlock ∧ Own wr w.heap.size 2 1 A1 n1 c1 (ys.flatMap eI) ∧ Own wr w.heap.size 2 1 A2 n2 c2 (es.flatMap eI) ∧ Own wr lL 89 8 AL (ofMode mode m.ss).length cL ((ofMode mode m.ss).flatMap SlotI.cells) ∧ Med B wr m ∧ Blk wr g4 28 m.cells ∧ Ext w wr) (fun ⟨k, a, ys, es, n1, A1, c1, n2, A2, c2⟩ => (ofMode mode m.ss).length - k) (0, 0, [], [], 0, some ⟨gS, 0, none⟩, 0, 0, some ⟨gE, 0, none⟩, 0) (.cons rfl (.cons rfl (.cons rfl (.cons rfl (.cons rfl (.cons rfl (.cons rfl (.cons rfl (.cons rfl (.nil _)))))))))) ?_ ?_
  · exact ⟨by omega, by omega, ⟨rfl, rfl⟩, by omega, rfl, dj0, dSL0, dEL0, oS, oE, oL, hm, b1, X⟩
  clear hm b1 oS oE oL
  clear X
  rintro ⟨k, a, ys, es, n1, A1, c1, n2, A2, c2⟩ wr ⟨hk0, ha, hn, hn1, hi, dSE, dSL, dEL, oS, oE, oL, hm, b1, X⟩
  refine c_seqR ?_
  refine ops_cons rfl (ow_lss2 rfl rfl (fun hk => ?_) (fun hk => ?_))
  obtain ⟨x, hx, dx⟩ := drop_at' hk
  have hxs := slotI (hok x (ofMode_sub _ _ x (List.mem_of_getElem? hx)).1)
  refine ops_nil ?_
  refine c_seq ?_
  refine c_true rfl ?_
  refine c_skip ?_
  refine tq_n ?_
  refine c_seq ?_
  refine c_block ?_
  refine c_seqR ?_
  refine ops_cons rfl (ow_indexT (oL).sl SlotI.len rfl el26 rfl rfl rfl hx rfl ?_)
  refine ops_cons rfl (ow_loadTA (oL).sl SlotI.len hx ti89 rfl ?_)
  have UL0 := fun g hg => (Own.lt oL (g := g) hg).2
  refine ops_cons rfl (ow_alloc ti89 ?_)
  intro gX w13 egX bX x12 zgX
  have lgX : w.heap.size ≤ gX := Nat.le_trans X.size (Nat.le_of_eq egX.symm)
  have pgXhm := Nat.le_trans hm.1 (Nat.le_of_eq egX.symm)
  have ngXb1 := Nat.lt_of_lt_of_eq b1.lt egX.symm
  replace oS := oS.ext x12
  replace oE := oE.ext x12
  replace oL := oL.ext x12
  replace hm := hm.ext x12
  replace b1 := b1.ext x12
  replace X := Ext.trans X x12; clear x12
  refine ops_cons rfl (ow_storeB bX ti89 rfl rfl rfl rfl rfl rfl ?_)
  intro w15 bY hg14 z16
  replace oS := oS.grownBlk hg14 (Own.neT oS bX (by decide))
  replace oE := oE.grownBlk hg14 (Own.neT oE bX (by decide))
  replace oL := oL.grownBlk hg14 (fun h => absurd (UL0 _ h) (by omega))
  replace hm := hm.grown hg14 (by intro g hg; injection hg; omega)
  replace b1 := b1.grown hg14 (by intro h; injection h; omega)
  replace X := X.grown hg14 X.size (by intro g hg; injection hg; omega)
  clear hg14 bX
  refine ops_nil ?_
  refine c_seq ?_
  refine c_seqR ?_
  refine ops_cons rfl (ow_fieldAddrB off89_3 rfl rfl ?_)
  refine ops_cons rfl (ow_fieldAddrB off67_0 rfl rfl ?_)
  refine ops_cons rfl (ow_loadB bY ti2 rfl rfl ?_)
  refine ops_cons rfl (ow_move rfl ?_)
  refine ops_cons rfl (ow_eql2 rfl rfl (fun he => ?_) (fun he => ?_))
  refine ops_nil ?_
  refine c_true rfl ?_
  refine c_regI (fun wz => Blk wz gX 89 x.cells) mixed ?_
  obtain ⟨w17, ew17⟩ : ∃ wy, wy = World.drew w15 := ⟨_, rfl⟩
  rw [← ew17]
  have xd : Ext w15 w17 := ew17 ▸ Ext.drew w15
  replace oS := oS.ext xd
  replace oE := oE.ext xd
  replace oL := oL.ext xd
  replace hm := hm.ext xd
  replace b1 := b1.ext xd
  replace bY := bY.ext xd
  replace X := Ext.trans X xd; clear xd ew17
  refine wi_take 0 rfl (by kernel_rfl) rfl (by kernel_rfl) (listed' := #[true, false, false, false, false, false, false, false, false, false, false, false, false, false]) rfl (fun wq sq => ow_move rfl ⟨rfl, rfl⟩) ?_
  refine wi_take 1 rfl (by kernel_rfl) rfl (by kernel_rfl) (listed' := #[true, true, false, false, false, false, false, false, false, false, false, false, false, false]) rfl (fun wq sq => ow_move rfl ⟨rfl, rfl⟩) ?_
  refine wi_take 4 rfl (by kernel_rfl) rfl (by kernel_rfl) (listed' := #[true, true, false, false, true, false, false, false, false, false, false, false, false, false]) rfl (fun wq sq => ow_move rfl ⟨rfl, rfl⟩) ?_
  refine wi_take 5 rfl (by kernel_rfl) rfl (by kernel_rfl) (listed' := #[true, true, false, false, true, true, false, false, false, false, false, false, false, false]) rfl (fun wq sq => ow_move rfl ⟨rfl, rfl⟩) ?_
  refine wi_take 6 rfl (by kernel_rfl) rfl (by kernel_rfl) (listed' := #[true, true, false, false, true, true, true, false, false, false, false, false, false, false]) rfl (fun wq sq => ow_fieldAddrB off89_3 rfl rfl ⟨rfl, rfl⟩) ?_
  refine wi_take 7 rfl (by kernel_rfl) rfl (by kernel_rfl) (listed' := #[true, true, false, false, true, true, true, true, false, false, false, false, false, false]) rfl (fun wq sq => ow_fieldAddrB off67_3 rfl rfl ⟨rfl, rfl⟩) ?_
  refine wi_take 8 rfl (by kernel_rfl) rfl (by kernel_rfl) (listed' := #[true, true, false, false, true, true, true, true, true, false, false, false, false, false]) rfl (fun wq sq => ow_loadB sq ti2 rfl rfl ⟨rfl, rfl⟩) ?_
  refine wi_take 9 rfl (by kernel_rfl) rfl (by kernel_rfl) (listed' := #[true, true, false, false, true, true, true, true, true, true, false, false, false, false]) rfl (fun wq sq => ow_add rfl rfl (w64 (by omega)) ⟨rfl, rfl⟩) ?_
  refine wi_two 2 10 rfl rfl rfl rfl (by kernel_rfl) (listed' := #[true, true, true, false, true, true, true, true, true, true, false, false, false, false]) (listed'' := #[true, true, false, false, true, true, true, true, true, true, true, false, false, false]) rfl rfl bY ?_ ?_
  refine (ow_buildSlice el30 ti2 rfl rfl rfl rfl rfl ?_)
  intro g18 w20 eg18 oTS bbg18 x19 zg18
  replace oTS := Own.low oTS X.size
  replace oS := oS.ext x19
  replace oE := oE.ext x19
  replace oL := oL.ext x19
  replace hm := hm.ext x19
  replace b1 := b1.ext x19
  replace bY := bY.ext x19
  replace X := Ext.trans X x19; clear x19
  refine wi_two 3 10 rfl rfl rfl rfl (by kernel_rfl) (listed' := #[true, true, true, true, true, true, true, true, true, true, false, false, false, false]) (listed'' := #[true, true, true, false, true, true, true, true, true, true, true, false, false, false]) rfl rfl bY ?_ ?_
  have UE1 := fun g hg => (Own.lt oE (g := g) hg).2
  have UL1 := fun g hg => (Own.lt oL (g := g) hg).2
  refine (ow_appendW (ts := #[]) oS X.size oTS.sl (by first | rfl | simp) (by first | exact List.all_eq_true.1 rfl | simp [Value.oneCell']) el30 ti2 rfl rfl rfl rfl (by omega) (by omega) ?_)
  intro AoS2 coS2 w22 oS2 hg21 hW1
  replace oE := oE.grown hg21 dSE
  replace oL := oL.grown hg21 dSL
  replace hm := hm.grown hg21 (fun g hg => Nat.le_trans Bhm (Own.lt oS hg).1)
  replace b1 := b1.grown hg21 (fun h => Own.neT oS b1 (by decide) h.symm)
  replace bY := bY.grown hg21 (fun h => Own.neT oS bY (by decide) h.symm)
  replace X := X.grown hg21 X.size (fun g hg => (Own.lt oS hg).1)
  clear hg21
  replace dSE := apart_l dSE hW1 UE1
  replace dSL := apart_l dSL hW1 UL1
  have US0 := fun g hg => (Own.lt oS (g := g) hg).2
  refine wi_one 10 rfl rfl (by kernel_rfl) (listed' := #[true, true, true, true, true, true, true, true, true, true, true, false, false, false]) rfl bY (ow_buildSlice el30 ti2 rfl rfl rfl rfl rfl ?_)
  intro g23 w25 eg23 oTE bbg23 x24 zg23
  replace oTE := Own.low oTE (Nat.le_refl _)
  replace oE := oE.ext x24
  replace oL := oL.ext x24
  replace hm := hm.ext x24
  replace b1 := b1.ext x24
  replace bY := bY.ext x24
  replace oS2 := oS2.ext x24
  replace X := Ext.trans X x24; clear x24
  have US2 := fun g hg => (Own.lt oS2 (g := g) hg).2
  have UL2 := fun g hg => (Own.lt oL (g := g) hg).2
  refine wi_one 11 rfl rfl (by kernel_rfl) (listed' := #[true, true, true, true, true, true, true, true, true, true, true, true, false, false]) rfl bY (ow_appendW (ts := #[]) oE X.size oTE.sl (by first | rfl | simp) (by first | exact List.all_eq_true.1 rfl | simp [Value.oneCell']) el30 ti2 rfl rfl rfl rfl (by omega) (by omega) ?_)
  intro AoE2 coE2 w27 oE2 hg26 hW2
  replace oL := oL.grown hg26 dEL
  replace hm := hm.grown hg26 (fun g hg => Nat.le_trans Bhm (Own.lt oE hg).1)
  replace b1 := b1.grown hg26 (fun h => Own.neT oE b1 (by decide) h.symm)
  replace bY := bY.grown hg26 (fun h => Own.neT oE bY (by decide) h.symm)
  replace oS2 := oS2.grown hg26 (fun g h1 h2 => dSE g h2 h1)
  replace X := X.grown hg26 X.size (fun g hg => (Own.lt oE hg).1)
  clear hg26
  replace dSE := apart_r dSE hW2 US2
  replace dEL := apart_l dEL hW2 UL2
  refine wi_take 12 rfl (by kernel_rfl) rfl (by kernel_rfl) (listed' := #[true, true, true, true, true, true, true, true, true, true, true, true, true, false]) rfl (fun wq sq => ow_assign rfl ⟨rfl, rfl⟩) ?_
  refine wi_take 13 rfl (by kernel_rfl) rfl (by kernel_rfl) (listed' := #[true, true, true, true, true, true, true, true, true, true, true, true, true, true]) rfl (fun wq sq => ow_assign rfl ⟨rfl, rfl⟩) ?_
  refine wi_done rfl bY (fun aj fj => ⟨_, fj, ?_⟩)
  refine tq_n ?_
  refine c_region ?_
  refine ops_cons rfl (ow_move rfl ?_)
  refine ops_cons rfl (ow_fieldAddrB off89_3 rfl rfl ?_)
  refine ops_cons rfl (ow_fieldAddrB off67_3 rfl rfl ?_)
  refine ops_cons rfl (ow_loadB bY ti2 rfl rfl ?_)
  refine ops_cons rfl (ow_add rfl rfl (w64 (by omega)) ?_)
  refine ops_cons rfl (ow_assign rfl ?_)
  refine ops_nil ?_
  refine bq_n ?_
  refine tq_n ?_
  refine c_region ?_
  refine ops_cons rfl (ow_add rfl rfl (w64 (by omega)) ?_)
  refine ops_cons rfl (ow_move rfl ?_)
  refine ops_nil ?_
  refine tq_n ⟨(k + 1, a + x.desc.duration, ys ++ [a], es ++ [a + x.desc.duration], n1 + 1, AoS2, coS2, n2 + 1, AoE2, coE2), (.cons rfl (.cons rfl (.cons rfl (.cons rfl (.cons rfl (.cons rfl (.cons rfl (.cons rfl (.cons rfl (.nil _)))))))))), ?_, ?_⟩
  · exact ⟨by omega, by omega, ⟨by simp [hn.1], by simp [hn.2]⟩, by omega, (by rw [hi, dx, sendG, if_pos he]; simp), dSE, dSL, dEL, oS2.to (snoc eI ys _).symm, oE2.to (snoc eI es _).symm, oL, hm, b1, X⟩
  · first | omega | (dsimp only; omega)
  have US0 := fun g hg => (Own.lt oS (g := g) hg).2
  refine (ow_buildSlice el30 ti2 rfl rfl rfl rfl rfl ?_)
  intro g28 w30 eg28 oTE bbg28 x29 zg28
  replace oTE := Own.low oTE (Nat.le_refl _)
  replace oS := oS.ext x29
  replace oE := oE.ext x29
  replace oL := oL.ext x29
  replace hm := hm.ext x29
  replace b1 := b1.ext x29
  replace bY := bY.ext x29
  replace oTS := oTS.ext x29
  replace X := Ext.trans X x29; clear x29
  have UE1 := fun g hg => (Own.lt oE (g := g) hg).2
  have UL1 := fun g hg => (Own.lt oL (g := g) hg).2
  refine wi_one 3 rfl rfl (by kernel_rfl) (listed' := #[true, true, true, true, true, true, true, true, true, true, true, false, false, false]) rfl bY (ow_appendW (ts := #[]) oS X.size oTS.sl (by first | rfl | simp) (by first | exact List.all_eq_true.1 rfl | simp [Value.oneCell']) el30 ti2 rfl rfl rfl rfl (by omega) (by omega) ?_)
  intro AoS2 coS2 w32 oS2 hg31 hW1
  replace oE := oE.grown hg31 dSE
  replace oL := oL.grown hg31 dSL
  replace hm := hm.grown hg31 (fun g hg => Nat.le_trans Bhm (Own.lt oS hg).1)
  replace b1 := b1.grown hg31 (fun h => Own.neT oS b1 (by decide) h.symm)
  replace bY := bY.grown hg31 (fun h => Own.neT oS bY (by decide) h.symm)
  replace oTE := oTE.grown hg31 (fun g h1 h2 => absurd (Own.lt oTE h2).1 (by have := US0 g h1; omega))
  replace X := X.grown hg31 X.size (fun g hg => (Own.lt oS hg).1)
  clear hg31
  replace dSE := apart_l dSE hW1 UE1
  replace dSL := apart_l dSL hW1 UL1
  have US2 := fun g hg => (Own.lt oS2 (g := g) hg).2
  have UL2 := fun g hg => (Own.lt oL (g := g) hg).2
  refine wi_one 11 rfl rfl (by kernel_rfl) (listed' := #[true, true, true, true, true, true, true, true, true, true, true, true, false, false]) rfl bY (ow_appendW (ts := #[]) oE X.size oTE.sl (by first | rfl | simp) (by first | exact List.all_eq_true.1 rfl | simp [Value.oneCell']) el30 ti2 rfl rfl rfl rfl (by omega) (by omega) ?_)
  intro AoE2 coE2 w34 oE2 hg33 hW2
  replace oL := oL.grown hg33 dEL
  replace hm := hm.grown hg33 (fun g hg => Nat.le_trans Bhm (Own.lt oE hg).1)
  replace b1 := b1.grown hg33 (fun h => Own.neT oE b1 (by decide) h.symm)
  replace bY := bY.grown hg33 (fun h => Own.neT oE bY (by decide) h.symm)
  replace oS2 := oS2.grown hg33 (fun g h1 h2 => dSE g h2 h1)
  replace X := X.grown hg33 X.size (fun g hg => (Own.lt oE hg).1)
  clear hg33
  replace dSE := apart_r dSE hW2 US2
  replace dEL := apart_l dEL hW2 UL2
  refine wi_take 12 rfl (by kernel_rfl) rfl (by kernel_rfl) (listed' := #[true, true, true, true, true, true, true, true, true, true, true, true, true, false]) rfl (fun wq sq => ow_assign rfl ⟨rfl, rfl⟩) ?_
  refine wi_take 13 rfl (by kernel_rfl) rfl (by kernel_rfl) (listed' := #[true, true, true, true, true, true, true, true, true, true, true, true, true, true]) rfl (fun wq sq => ow_assign rfl ⟨rfl, rfl⟩) ?_
  refine wi_done rfl bY (fun aj fj => ⟨_, fj, ?_⟩)
  refine tq_n ?_
  refine c_region ?_
  refine ops_cons rfl (ow_move rfl ?_)
  refine ops_cons rfl (ow_fieldAddrB off89_3 rfl rfl ?_)
  refine ops_cons rfl (ow_fieldAddrB off67_3 rfl rfl ?_)
  refine ops_cons rfl (ow_loadB bY ti2 rfl rfl ?_)
  refine ops_cons rfl (ow_add rfl rfl (w64 (by omega)) ?_)
  refine ops_cons rfl (ow_assign rfl ?_)
  refine ops_nil ?_
  refine bq_n ?_
  refine tq_n ?_
  refine c_region ?_
  refine ops_cons rfl (ow_add rfl rfl (w64 (by omega)) ?_)
  refine ops_cons rfl (ow_move rfl ?_)
  refine ops_nil ?_
  refine tq_n ⟨(k + 1, a + x.desc.duration, ys ++ [a], es ++ [a + x.desc.duration], n1 + 1, AoS2, coS2, n2 + 1, AoE2, coE2), (.cons rfl (.cons rfl (.cons rfl (.cons rfl (.cons rfl (.cons rfl (.cons rfl (.cons rfl (.cons rfl (.nil _)))))))))), ?_, ?_⟩
  · exact ⟨by omega, by omega, ⟨by simp [hn.1], by simp [hn.2]⟩, by omega, (by rw [hi, dx, sendG, if_pos he]; simp), dSE, dSL, dEL, oS2.to (snoc eI ys _).symm, oE2.to (snoc eI es _).symm, oL, hm, b1, X⟩
  · first | omega | (dsimp only; omega)
  have US0 := fun g hg => (Own.lt oS (g := g) hg).2
  refine (ow_buildSlice el30 ti2 rfl rfl rfl rfl rfl ?_)
  intro g35 w37 eg35 oTE bbg35 x36 zg35
  replace oTE := Own.low oTE (Nat.le_refl _)
  replace oS := oS.ext x36
  replace oE := oE.ext x36
  replace oL := oL.ext x36
  replace hm := hm.ext x36
  replace b1 := b1.ext x36
  replace bY := bY.ext x36
  replace X := Ext.trans X x36; clear x36
  refine wi_one 2 rfl rfl (by kernel_rfl) (listed' := #[true, true, true, false, true, true, true, true, true, true, true, false, false, false]) rfl bY (ow_buildSlice el30 ti2 rfl rfl rfl rfl rfl ?_)
  intro g38 w40 eg38 oTS bbg38 x39 zg38
  replace oTS := Own.low oTS X.size
  replace oS := oS.ext x39
  replace oE := oE.ext x39
  replace oL := oL.ext x39
  replace hm := hm.ext x39
  replace b1 := b1.ext x39
  replace bY := bY.ext x39
  replace oTE := oTE.ext x39
  replace X := Ext.trans X x39; clear x39
  have UE1 := fun g hg => (Own.lt oE (g := g) hg).2
  have UL1 := fun g hg => (Own.lt oL (g := g) hg).2
  refine wi_one 3 rfl rfl (by kernel_rfl) (listed' := #[true, true, true, true, true, true, true, true, true, true, true, false, false, false]) rfl bY (ow_appendW (ts := #[]) oS X.size oTS.sl (by first | rfl | simp) (by first | exact List.all_eq_true.1 rfl | simp [Value.oneCell']) el30 ti2 rfl rfl rfl rfl (by omega) (by omega) ?_)
  intro AoS2 coS2 w42 oS2 hg41 hW1
  replace oE := oE.grown hg41 dSE
  replace oL := oL.grown hg41 dSL
  replace hm := hm.grown hg41 (fun g hg => Nat.le_trans Bhm (Own.lt oS hg).1)
  replace b1 := b1.grown hg41 (fun h => Own.neT oS b1 (by decide) h.symm)
  replace bY := bY.grown hg41 (fun h => Own.neT oS bY (by decide) h.symm)
  replace oTE := oTE.grown hg41 (fun g h1 h2 => absurd (Own.lt oTE h2).1 (by have := US0 g h1; omega))
  replace X := X.grown hg41 X.size (fun g hg => (Own.lt oS hg).1)
  clear hg41
  replace dSE := apart_l dSE hW1 UE1
  replace dSL := apart_l dSL hW1 UL1
  have US2 := fun g hg => (Own.lt oS2 (g := g) hg).2
  have UL2 := fun g hg => (Own.lt oL (g := g) hg).2
  refine wi_one 11 rfl rfl (by kernel_rfl) (listed' := #[true, true, true, true, true, true, true, true, true, true, true, true, false, false]) rfl bY (ow_appendW (ts := #[]) oE X.size oTE.sl (by first | rfl | simp) (by first | exact List.all_eq_true.1 rfl | simp [Value.oneCell']) el30 ti2 rfl rfl rfl rfl (by omega) (by omega) ?_)
  intro AoE2 coE2 w44 oE2 hg43 hW2
  replace oL := oL.grown hg43 dEL
  replace hm := hm.grown hg43 (fun g hg => Nat.le_trans Bhm (Own.lt oE hg).1)
  replace b1 := b1.grown hg43 (fun h => Own.neT oE b1 (by decide) h.symm)
  replace bY := bY.grown hg43 (fun h => Own.neT oE bY (by decide) h.symm)
  replace oS2 := oS2.grown hg43 (fun g h1 h2 => dSE g h2 h1)
  replace X := X.grown hg43 X.size (fun g hg => (Own.lt oE hg).1)
  clear hg43
  replace dSE := apart_r dSE hW2 US2
  replace dEL := apart_l dEL hW2 UL2
  refine wi_take 12 rfl (by kernel_rfl) rfl (by kernel_rfl) (listed' := #[true, true, true, true, true, true, true, true, true, true, true, true, true, false]) rfl (fun wq sq => ow_assign rfl ⟨rfl, rfl⟩) ?_
  refine wi_take 13 rfl (by kernel_rfl) rfl (by kernel_rfl) (listed' := #[true, true, true, true, true, true, true, true, true, true, true, true, true, true]) rfl (fun wq sq => ow_assign rfl ⟨rfl, rfl⟩) ?_
  refine wi_done rfl bY (fun aj fj => ⟨_, fj, ?_⟩)
  refine tq_n ?_
  refine c_region ?_
  refine ops_cons rfl (ow_move rfl ?_)
  refine ops_cons rfl (ow_fieldAddrB off89_3 rfl rfl ?_)
  refine ops_cons rfl (ow_fieldAddrB off67_3 rfl rfl ?_)
  refine ops_cons rfl (ow_loadB bY ti2 rfl rfl ?_)
  refine ops_cons rfl (ow_add rfl rfl (w64 (by omega)) ?_)
  refine ops_cons rfl (ow_assign rfl ?_)
  refine ops_nil ?_
  refine bq_n ?_
  refine tq_n ?_
  refine c_region ?_
  refine ops_cons rfl (ow_add rfl rfl (w64 (by omega)) ?_)
  refine ops_cons rfl (ow_move rfl ?_)
  refine ops_nil ?_
  refine tq_n ⟨(k + 1, a + x.desc.duration, ys ++ [a], es ++ [a + x.desc.duration], n1 + 1, AoS2, coS2, n2 + 1, AoE2, coE2), (.cons rfl (.cons rfl (.cons rfl (.cons rfl (.cons rfl (.cons rfl (.cons rfl (.cons rfl (.cons rfl (.nil _)))))))))), ?_, ?_⟩
  · exact ⟨by omega, by omega, ⟨by simp [hn.1], by simp [hn.2]⟩, by omega, (by rw [hi, dx, sendG, if_pos he]; simp), dSE, dSL, dEL, oS2.to (snoc eI ys _).symm, oE2.to (snoc eI es _).symm, oL, hm, b1, X⟩
  · first | omega | (dsimp only; omega)
  refine ops_nil ?_
  refine c_false rfl ?_
  refine c_skip ?_
  refine tq_n ?_
  refine c_region ?_
  refine ops_cons rfl (ow_move rfl ?_)
  refine ops_cons rfl (ow_fieldAddrB off89_3 rfl rfl ?_)
  refine ops_cons rfl (ow_fieldAddrB off67_3 rfl rfl ?_)
  refine ops_cons rfl (ow_loadB bY ti2 rfl rfl ?_)
  refine ops_cons rfl (ow_add rfl rfl (w64 (by omega)) ?_)
  refine ops_cons rfl (ow_assign rfl ?_)
  refine ops_nil ?_
  refine bq_n ?_
  refine tq_n ?_
  refine c_region ?_
  refine ops_cons rfl (ow_add rfl rfl (w64 (by omega)) ?_)
  refine ops_cons rfl (ow_move rfl ?_)
  refine ops_nil ?_
  refine tq_n ⟨(k + 1, a + x.desc.duration, ys, es, n1, A1, c1, n2, A2, c2), (.cons rfl (.cons rfl (.cons rfl (.cons rfl (.cons rfl (.cons rfl (.cons rfl (.cons rfl (.cons rfl (.nil _)))))))))), ?_, ?_⟩
  · exact ⟨by omega, by omega, hn, by omega, (by rw [hi, dx, sendG, if_neg he]), dSE, dSL, dEL, oS, oE, oL, hm, b1, X⟩
  · first | omega | (dsimp only; omega)
  refine ops_nil ?_
  refine c_seq ?_
  refine c_false rfl ?_
  refine c_exit ?_
  refine tq_e ?_
  refine tq_e ?_
  refine bq_e ?_
  refine tq_n ?_
  refine c_seqR ?_
  refine ops_cons rfl (ow_move rfl ?_)
  refine ops_cons rfl (ow_move rfl ?_)
  refine ops_cons rfl (ow_assign rfl ?_)
  refine ops_cons rfl (ow_assign rfl ?_)
  refine ops_nil ?_
  refine c_ret ?_
  refine fin_ret2 rfl rfl rfl ?_
  · skip
    have e : sendG node 0 (ofMode mode m.ss) = ys := by rw [hi, drop_end hk]; simp [sendG]
    rw [e, ← hn.1]; exact ⟨A1, c1, _, rfl, oS, X⟩

theorem iSend_c (m : MedlI) (B : Nat) (mode node : Int) (w : World) (hm : Med B w m) (hz : m.small) :
    Calls Tryz.prog 48 #[.agg m.cells.toArray, .int .i64 mode, .int .i64 node] w (Ret fun v w' => ∃ A' c', v = .tuple #[.slice A' (sendT m.d mode node).1.length c', .int .i64 (sendT m.d mode node).2] ∧ Own w' w.heap.size 2 1 A' (sendT m.d mode node).1.length c' ((sendT m.d mode node).1.flatMap eI) ∧ Ext w w') := by
  have hls := hz.ls
  have hlm := hz.lm
  have hln := hz.ln
  have Bhm := hm.1
  have X := Ext.refl w
  refine calls_of (args := [.agg m.cells.toArray, .int .i64 mode, .int .i64 node]) Tryz.func48 Tryz.ntmps48 rfl rfl ?_
  refine c_seqR ?_
  refine ops_cons rfl (ow_box rfl rfl ?_)
  intro g4 w3 eg4 b1 x2 zg4
  have lg4 : w.heap.size ≤ g4 := Nat.le_trans X.size (Nat.le_of_eq eg4.symm)
  have pg4hm := Nat.le_trans hm.1 (Nat.le_of_eq eg4.symm)
  replace hm := hm.ext x2
  replace X := Ext.trans X x2; clear x2
  refine ops_cons rfl (ow_assign rfl ?_)
  refine ops_cons rfl (ow_assign rfl ?_)
  refine ops_nil ?_
  refine c_seq ?_
  refine c_seqR ?_
  refine ops_cons rfl (ow_loadAB b1 ti28 rfl rfl ?_)
  refine ops_cons rfl (ow_move rfl ?_)
  refine ops_cons rfl (ow_move rfl ?_)
  refine ops_cons rfl (ow_buildSlice el30 ti2 rfl rfl rfl rfl rfl ?_)
  intro g5 w7 eg5 oZ bbg5 x6 zg5
  replace oZ := Own.low oZ X.size
  replace hm := hm.ext x6
  replace b1 := b1.ext x6
  replace X := Ext.trans X x6; clear x6
  replace oZ := oZ.to (cs' := ([node] : List Int).flatMap eI) rfl
  refine ops_cons rfl (ow_call ent124 rfl (ret_mono (nodesCode_c m _ mode _ _ _ [node] _ hm hz oZ.sl (by simp)) ?_))
  rintro _ w9 ⟨rfl, x8⟩
  replace hm := hm.ext x8
  replace b1 := b1.ext x8
  replace oZ := oZ.ext x8
  replace X := Ext.trans X x8; clear x8
  refine ops_cons rfl (ow_assign rfl ?_)
  refine ops_nil ?_
  refine c_seqR ?_
  refine ops_cons rfl (ow_move rfl ?_)
  refine ops_cons rfl (ow_neq2 rfl rfl (fun h1 => ?_) (fun h1 => ?_))
  refine ops_nil ?_
  refine c_true rfl ?_
  refine c_seqR ?_
  refine ops_cons rfl (ow_move rfl ?_)
  refine ops_cons rfl (ow_assign rfl ?_)
  refine ops_cons rfl (ow_assign rfl ?_)
  refine ops_nil ?_
  refine c_ret ?_
  refine tq_r ?_
  refine fin_ret2 rfl rfl rfl ?_
  · skip
    first
    | (rw [sendT_n h1]; exact ⟨none, 0, rfl, Own.nil_ _ _ _ _, X⟩)
    | (rw [sendT_0 hs2.1 hs2.2, show (sendS m.d.ss mode node m.d.ss, (0 : Int)) = (sendG node 0 (ofMode mode m.ss), 0) from congrArg (fun z => (z, (0 : Int))) hse]; exact ⟨_, _, rfl, oR, X⟩)
  have hS0 : sendC m.d mode node = 0 := by rw [← nodesC_one]; omega
  have hs2 := sendC_zero.1 hS0
  have hm0 := modeC_zero.1 hs2.1
  have wf := isMedl_iff.1 hm0.1
  have hok : ∀ x ∈ m.ss, slotOk x = true := isST_all wf.st
  obtain ⟨k0, x0, hkm, hx0⟩ := mode_get hm0.2
  have hxi := isMT_in wf.mt x0 (List.mem_of_getElem? hx0)
  have hse : sendS m.ss mode node m.ss = sendG node 0 (ofMode mode m.ss) := by rw [hkm]; exact send_eq wf.co hx0 hxi.2.1 node
  clear hkm
  refine ops_nil ?_
  refine c_false rfl ?_
  refine c_skip ?_
  refine tq_n ?_
  refine c_seqR ?_
  refine ops_cons rfl (ow_loadAB b1 ti28 rfl rfl ?_)
  refine ops_cons rfl (ow_move rfl ?_)
  refine ops_cons rfl (ow_move rfl ?_)
  refine ops_cons rfl (ow_call ent125 rfl (ret_mono (sending_c m _ mode node _ hm hz hok) ?_))
  rintro _ w11 ⟨A12, c13, vE, rfl, oR, x10⟩
  replace oR := Own.low oR X.size
  replace hm := hm.ext x10
  replace b1 := b1.ext x10
  replace oZ := oZ.ext x10
  replace X := Ext.trans X x10; clear x10
  refine ops_cons rfl (ow_move rfl ?_)
  refine ops_cons rfl (ow_extract rfl rfl ?_)
  refine ops_cons rfl (ow_extract rfl rfl ?_)
  refine ops_cons rfl (ow_assign rfl ?_)
  refine ops_cons rfl (ow_assign rfl ?_)
  refine ops_nil ?_
  refine c_seqR ?_
  refine ops_cons rfl (ow_move rfl ?_)
  refine ops_cons rfl (ow_assign rfl ?_)
  refine ops_cons rfl (ow_assign rfl ?_)
  refine ops_nil ?_
  refine c_ret ?_
  refine fin_ret2 rfl rfl rfl ?_
  · skip
    first
    | (rw [sendT_n h1]; exact ⟨none, 0, rfl, Own.nil_ _ _ _ _, X⟩)
    | (rw [sendT_0 hs2.1 hs2.2, show (sendS m.d.ss mode node m.d.ss, (0 : Int)) = (sendG node 0 (ofMode mode m.ss), 0) from congrArg (fun z => (z, (0 : Int))) hse]; exact ⟨_, _, rfl, oR, X⟩)
end Go.Proofs.YtdoibplhbdkapaaGreatDoor
