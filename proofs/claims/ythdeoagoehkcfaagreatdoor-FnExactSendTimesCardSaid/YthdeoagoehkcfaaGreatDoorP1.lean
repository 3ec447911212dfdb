/- Starts of the slots in which a node sends. No condition. -/
import Derived.Test.YthdeoagoehkcfaaGreatDoorL2
import Derived.Test.YthdeoagoehkcfaaGreatDoorMod11
import Derived.Test.YthdeoagoehkcfaaGreatDoorFlowK
namespace Go.Proofs.YthdeoagoehkcfaaGreatDoor
open Go.RowKit
set_option linter.unusedVariables false
set_option linter.unusedSimpArgs false
set_option maxRecDepth 20000
theorem findNode1_c (x : NodeI) (g1 : Nat) (z : Int) (w : World) (q : Blk w g1 2 [.int .i64 z]) :
    Calls Tryz.prog 150 #[.agg x.cells.toArray, .pointer (some ⟨g1, 0, none⟩)] w (Ret fun v w' => v = .bool (hitN z x) ∧ Ext w w') := by
  have X := Ext.refl w
  refine calls_of (args := [.agg x.cells.toArray, .pointer (some ⟨g1, 0, none⟩)]) Tryz.func150 Tryz.ntmps150 rfl rfl ?_
  refine c_seqR ?_
  refine ops_cons rfl (ow_box rfl rfl ?_)
  intro g4 w3 eg4 b1 x2 zg4
  have lg4 : w.heap.size ≤ g4 := Nat.le_trans X.size (Nat.le_of_eq eg4.symm)
  have ng4q := Nat.lt_of_lt_of_eq q.lt eg4.symm
  replace q := q.ext x2
  replace X := Ext.trans X x2; clear x2
  refine ops_cons rfl (ow_assign rfl ?_)
  refine ops_nil ?_
  refine c_seqR ?_
  refine ops_cons rfl (ow_fieldAddrB off104_0 rfl rfl ?_)
  refine ops_cons rfl (ow_loadB b1 ti2 rfl rfl ?_)
  refine ops_cons rfl (ow_loadB q ti2 rfl rfl ?_)
  refine ops_cons rfl (ow_eql rfl rfl ?_)
  refine ops_cons rfl (ow_assign rfl ?_)
  refine ops_nil ?_
  refine c_ret ?_
  refine fin_ret1 rfl rfl ?_
  exact ⟨by simp [hitN, *], X⟩

theorem idxId_c (A : Option Addr) (B c : Nat) (xs : List NodeI) (g1 : Nat) (z : Int) (w : World) (hs : Sl B w A (xs.flatMap NodeI.cells)) (hl : xs.length ≤ 1048576) (q : Blk w g1 2 [.int .i64 z]) :
    Calls Tryz.prog 149 #[.slice A xs.length c, .func (.func 150) #[] #[.pointer (some ⟨g1, 0, none⟩)]] w (Ret fun v w' => v = .int .i64 (findN z 0 xs) ∧ Ext w w') := by
  have Bhs := hs.1
  have X := Ext.refl w
  refine calls_of (args := [.slice A xs.length c, .func (.func 150) #[] #[.pointer (some ⟨g1, 0, none⟩)]]) Tryz.func149 Tryz.ntmps149 rfl rfl ?_
  refine c_seqR ?_
  refine ops_cons rfl (ow_assign rfl ?_)
  refine ops_nil ?_
  refine c_seq ?_
  refine c_seqR ?_
  refine ops_cons rfl (ow_move rfl ?_)
  refine ops_cons rfl (ow_len Tryz.underlying23 rfl ?_)
  refine ops_cons rfl (ow_move rfl ?_)
  refine ops_nil ?_
  refine c_block ?_
  refine c_loop (G := Nat) (fun k => [(0, .slice A xs.length c), (1, .func (.func 150) #[] #[.pointer (some ⟨g1, 0, none⟩)]), (7, .int .i64 (xs.length : Nat)), (8, .int .i64 (k : Nat))]) (fun k wr => k ≤ xs.length ∧ findN z 0 xs = findN z (k : Int) (xs.drop k) ∧ Sl B wr A (xs.flatMap NodeI.cells) ∧ Blk wr g1 2 [.int .i64 z] ∧ Ext w wr) (fun k => xs.length - k) 0 (.cons rfl (.cons rfl (.cons rfl (.cons rfl (.nil _))))) ?_ ?_
  · exact ⟨by omega, rfl, hs, q, X⟩
  clear hs q
  clear X
  rintro k wr ⟨hk0, hi, hs, q, X⟩
  refine c_seqR ?_
  refine ops_cons rfl (ow_lss2 rfl rfl (fun hk => ?_) (fun hk => ?_))
  · skip
    obtain ⟨x, hx, dx⟩ := drop_at' hk
    refine ops_nil ?_
    refine c_seq ?_
    refine c_true rfl ?_
    refine c_skip ?_
    refine tq_n ?_
    refine c_seq ?_
    refine c_block ?_
    refine c_seqR ?_
    refine ops_cons rfl (ow_move rfl ?_)
    refine ops_cons rfl (ow_assign rfl ?_)
    refine ops_nil ?_
    refine c_seqR ?_
    refine ops_cons rfl (ow_move rfl ?_)
    refine ops_cons rfl (ow_move rfl ?_)
    refine ops_cons rfl (ow_move rfl ?_)
    refine ops_cons rfl (ow_indexT hs NodeI.len rfl el23 rfl rfl rfl hx rfl ?_)
    refine ops_cons rfl (ow_loadTA hs NodeI.len hx ti104 rfl ?_)
    refine ops_cons rfl (ow_callVLB ent150 rfl rfl (findNode1_c _ _ _ _ q) (fun w2 hF x1 => ?_) (fun w2 hF x1 => ?_))
    · skip
      replace hs := hs.ext x1
      replace q := q.ext x1
      replace X := Ext.trans X x1; clear x1
      refine ops_nil ?_
      refine c_true rfl ?_
      refine c_seqR ?_
      refine ops_cons rfl (ow_move rfl ?_)
      refine ops_cons rfl (ow_assign rfl ?_)
      refine ops_nil ?_
      refine c_ret ?_
      refine bq_r ?_
      refine tq_r ?_
      refine tq_r ?_
      refine bq_r ?_
      refine tq_r ?_
      refine fin_ret1 rfl rfl ?_
      refine ⟨congrArg (Value.int .i64) ?_, X⟩
      first | (rw [hi, drop_end hk]; rfl) | (rw [hi, dx, findN, if_pos hF])
    · skip
      replace hs := hs.ext x1
      replace q := q.ext x1
      replace X := Ext.trans X x1; clear x1
      refine ops_nil ?_
      refine c_false rfl ?_
      refine c_skip ?_
      refine bq_n ?_
      refine tq_n ?_
      refine c_region ?_
      refine ops_cons rfl (ow_add rfl rfl (w64 (by omega)) ?_)
      refine ops_cons rfl (ow_move rfl ?_)
      refine ops_nil ?_
      refine tq_n ⟨k + 1, (.cons rfl (.cons rfl (.cons rfl (.cons rfl (.nil _))))), ?_, ?_⟩
      · exact ⟨by omega, (by rw [hi, dx, findN, if_neg (by simp [*])]; rfl), hs, q, X⟩
      · first | omega | (dsimp only; omega)
  · skip
    refine ops_nil ?_
    refine c_seq ?_
    refine c_false rfl ?_
    refine c_exit ?_
    refine tq_e ?_
    refine tq_e ?_
    refine bq_e ?_
    refine tq_n ?_
    refine c_seqR ?_
    refine ops_cons rfl (ow_assign rfl ?_)
    refine ops_nil ?_
    refine c_ret ?_
    refine fin_ret1 rfl rfl ?_
    refine ⟨congrArg (Value.int .i64) ?_, X⟩
    first | (rw [hi, drop_end hk]; rfl) | (rw [hi, dx, findN, if_pos hF])

theorem findNode_c (A : Option Addr) (B c : Nat) (xs : List NodeI) (z : Int) (w : World) (hs : Sl B w A (xs.flatMap NodeI.cells)) (hl : xs.length ≤ 1048576) :
    Calls Tryz.prog 100 #[.slice A xs.length c, .int .i64 z] w (Ret fun v w' => v = .int .i64 (findN z 0 xs) ∧ Ext w w') := by
  have Bhs := hs.1
  have X := Ext.refl w
  refine calls_of (args := [.slice A xs.length c, .int .i64 z]) Tryz.func100 Tryz.ntmps100 rfl rfl ?_
  refine c_seqR ?_
  refine ops_cons rfl (ow_box rfl rfl ?_)
  intro g4 w3 eg4 b1 x2 zg4
  have lg4 : w.heap.size ≤ g4 := Nat.le_trans X.size (Nat.le_of_eq eg4.symm)
  have pg4hs := Nat.le_trans hs.1 (Nat.le_of_eq eg4.symm)
  replace hs := hs.ext x2
  replace X := Ext.trans X x2; clear x2
  refine ops_cons rfl (ow_assign rfl ?_)
  refine ops_nil ?_
  refine c_seqR ?_
  refine ops_cons rfl (ow_move rfl ?_)
  refine ops_cons rfl (ow_makeFunc rfl ?_)
  refine ops_cons rfl (ow_call ent149 rfl (ret_mono (idxId_c _ _ _ _ _ _ _ hs hl b1) ?_))
  rintro _ w6 ⟨rfl, x5⟩
  replace hs := hs.ext x5
  replace b1 := b1.ext x5
  replace X := Ext.trans X x5; clear x5
  refine ops_cons rfl (ow_assign rfl ?_)
  refine ops_nil ?_
  refine c_ret ?_
  refine fin_ret1 rfl rfl ?_
  exact ⟨by rfl, X⟩

theorem sFindNode_c (A : Option Addr) (B c : Nat) (xs : List NodeI) (z : Int) (w : World) (hs : Sl B w A (xs.flatMap NodeI.cells)) (hl : xs.length ≤ 1048576) (hm : ∀ x ∈ xs, x.name.size ≤ 9223372036854775807) :
    Calls Tryz.prog 94 #[.slice A xs.length c, .int .i64 z] w (Ret fun v w' => v = .tuple #[.agg (fnodeF xs z).1.cells.toArray, .int .i64 (fnodeF xs z).2] ∧ Ext w w') := by
  have Bhs := hs.1
  have X := Ext.refl w
  refine calls_of (args := [.slice A xs.length c, .int .i64 z]) Tryz.func94 Tryz.ntmps94 rfl rfl ?_
  refine c_seqR ?_
  refine ops_cons rfl (ow_alloc ti104 ?_)
  intro g4 w2 eg4 b4 x1 zg4
  have lg4 : w.heap.size ≤ g4 := Nat.le_trans X.size (Nat.le_of_eq eg4.symm)
  have pg4hs := Nat.le_trans hs.1 (Nat.le_of_eq eg4.symm)
  replace hs := hs.ext x1
  replace X := Ext.trans X x1; clear x1
  refine ops_cons rfl (ow_assign rfl ?_)
  refine ops_nil ?_
  refine c_seq ?_
  refine c_seqR ?_
  refine ops_cons rfl (ow_move rfl ?_)
  refine ops_cons rfl (ow_callB ent139 rfl (sIsNT_c _ _ _ _ _ hs hl hm) (fun w4 hT x3 => ?_) (fun w4 hT x3 => ?_))
  · skip
    replace hs := hs.ext x3
    replace b4 := b4.ext x3
    replace X := Ext.trans X x3; clear x3
    refine ops_cons rfl (ow_not rfl ?_)
    refine ops_nil ?_
    refine c_false rfl ?_
    refine c_skip ?_
    refine tq_n ?_
    refine c_seq ?_
    refine c_seqR ?_
    refine ops_cons rfl (ow_assign rfl ?_)
    refine ops_nil ?_
    refine c_block ?_
    refine c_loop (G := Nat) (fun k => [(0, .slice A xs.length c), (1, .int .i64 z), (4, .pointer (some ⟨g4, 0, none⟩)), (6, .int .i64 (k : Nat))]) (fun k wr => k ≤ xs.length ∧ xs.find? (hitN z) = (xs.drop k).find? (hitN z) ∧ Sl B wr A (xs.flatMap NodeI.cells) ∧ Blk wr g4 104 (⟨0, ByteArray.empty, 0, false⟩ : NodeI).cells ∧ Ext w wr) (fun k => xs.length - k) 0 (.cons rfl (.cons rfl (.cons rfl (.cons rfl (.nil _))))) ?_ ?_
    · exact ⟨by omega, rfl, hs, b4, X⟩
    clear hs b4
    clear X
    rintro k wr ⟨hk0, hi, hs, b4, X⟩
    refine c_seq ?_
    refine c_seqR ?_
    refine ops_cons rfl (ow_move rfl ?_)
    refine ops_cons rfl (ow_move rfl ?_)
    refine ops_cons rfl (ow_len Tryz.underlying23 rfl ?_)
    refine ops_cons rfl (ow_lss2 rfl rfl (fun hk => ?_) (fun hk => ?_))
    · skip
      obtain ⟨x, hx, dx⟩ := drop_at' hk
      refine ops_nil ?_
      refine c_true rfl ?_
      refine c_skip ?_
      refine tq_n ?_
      refine c_seq ?_
      refine c_block ?_
      refine c_seqR ?_
      refine ops_cons rfl (ow_move rfl ?_)
      refine ops_cons rfl (ow_move rfl ?_)
      refine ops_cons rfl (ow_indexT hs NodeI.len rfl el23 rfl rfl rfl hx rfl ?_)
      refine ops_cons rfl (ow_fieldAddr off104_0 rfl ?_)
      refine ops_cons rfl (ow_loadTF hs NodeI.len hx ti2 rfl rfl rfl ?_)
      refine ops_cons rfl (ow_move rfl ?_)
      refine ops_cons rfl (ow_eql2 rfl rfl (fun hh => ?_) (fun hh => ?_))
      · skip
        refine ops_nil ?_
        refine c_true rfl ?_
        refine c_seqR ?_
        refine ops_cons rfl (ow_move rfl ?_)
        refine ops_cons rfl (ow_move rfl ?_)
        refine ops_cons rfl (ow_indexT hs NodeI.len rfl el23 rfl rfl rfl hx rfl ?_)
        refine ops_cons rfl (ow_loadTA hs NodeI.len hx ti104 rfl ?_)
        refine ops_cons rfl (ow_storeB b4 ti104 rfl rfl rfl rfl rfl rfl ?_)
        intro w6 b5 hg5 z7
        replace hs := hs.grown hg5 (by intro g hg; injection hg; omega)
        replace X := X.grown hg5 X.size (by intro g hg; injection hg; omega)
        clear hg5 b4
        refine ops_cons rfl (ow_assign rfl ?_)
        refine ops_nil ?_
        refine c_ret ?_
        refine bq_r ?_
        refine tq_r ?_
        refine tq_r ?_
        refine bq_r ?_
        refine tq_r ?_
        refine fin_cell2 rfl rfl b5 ti104 rfl rfl ?_
        first
        | (have e : fnodeF xs z = (zeroN, 1) := by rw [fnodeF, if_neg (by simp [hT])]
           rw [e]; exact ⟨rfl, X⟩)
        | (have e : fnodeF xs z = (x, 0) := by
             rw [fnodeF, if_pos hT, hi, dx, List.find?_cons, show hitN z x = true from decide_eq_true hh]
           rw [e]; exact ⟨rfl, X⟩)
        | (have e : fnodeF xs z = (zeroN, 4) := by rw [fnodeF, if_pos hT, hi, drop_end hk]; rfl
           rw [e]; exact ⟨rfl, X⟩)
      · skip
        refine ops_nil ?_
        refine c_false rfl ?_
        refine c_skip ?_
        refine bq_n ?_
        refine tq_n ?_
        refine c_region ?_
        refine ops_cons rfl (ow_move rfl ?_)
        refine ops_cons rfl (ow_add rfl rfl (w64 (by omega)) ?_)
        refine ops_cons rfl (ow_assign rfl ?_)
        refine ops_nil ?_
        refine tq_n ⟨k + 1, (.cons rfl (.cons rfl (.cons rfl (.cons rfl (.nil _))))), ?_, ?_⟩
        · exact ⟨by omega, (by rw [hi, dx, List.find?_cons]; simp [hitN, *]), hs, b4, X⟩
        · first | omega | (dsimp only; omega)
    · skip
      refine ops_nil ?_
      refine c_false rfl ?_
      refine c_exit ?_
      refine tq_e ?_
      refine tq_e ?_
      refine bq_e ?_
      refine tq_n ?_
      refine c_seqR ?_
      refine ops_cons rfl (ow_buildP pl104 ti104 rfl rfl ?_)
      refine ops_cons rfl (ow_storeB b4 ti104 rfl rfl rfl rfl rfl rfl ?_)
      intro w9 b5 hg8 z10
      replace hs := hs.grown hg8 (by intro g hg; injection hg; omega)
      replace X := X.grown hg8 X.size (by intro g hg; injection hg; omega)
      clear hg8 b4
      refine ops_cons rfl (ow_assign rfl ?_)
      refine ops_nil ?_
      refine c_ret ?_
      refine fin_cell2 rfl rfl b5 ti104 rfl rfl ?_
      first
      | (have e : fnodeF xs z = (zeroN, 1) := by rw [fnodeF, if_neg (by simp [hT])]
         rw [e]; exact ⟨rfl, X⟩)
      | (have e : fnodeF xs z = (x, 0) := by
           rw [fnodeF, if_pos hT, hi, dx, List.find?_cons, show hitN z x = true from decide_eq_true hh]
         rw [e]; exact ⟨rfl, X⟩)
      | (have e : fnodeF xs z = (zeroN, 4) := by rw [fnodeF, if_pos hT, hi, drop_end hk]; rfl
         rw [e]; exact ⟨rfl, X⟩)
  · skip
    replace hs := hs.ext x3
    replace b4 := b4.ext x3
    replace X := Ext.trans X x3; clear x3
    refine ops_cons rfl (ow_not rfl ?_)
    refine ops_nil ?_
    refine c_true rfl ?_
    refine c_seqR ?_
    refine ops_cons rfl (ow_buildP pl104 ti104 rfl rfl ?_)
    refine ops_cons rfl (ow_storeB b4 ti104 rfl rfl rfl rfl rfl rfl ?_)
    intro w12 b5 hg11 z13
    replace hs := hs.grown hg11 (by intro g hg; injection hg; omega)
    replace X := X.grown hg11 X.size (by intro g hg; injection hg; omega)
    clear hg11 b4
    refine ops_cons rfl (ow_assign rfl ?_)
    refine ops_nil ?_
    refine c_ret ?_
    refine tq_r ?_
    refine fin_cell2 rfl rfl b5 ti104 rfl rfl ?_
    first
    | (have e : fnodeF xs z = (zeroN, 1) := by rw [fnodeF, if_neg (by simp [hT])]
       rw [e]; exact ⟨rfl, X⟩)
    | (have e : fnodeF xs z = (x, 0) := by
         rw [fnodeF, if_pos hT, hi, dx, List.find?_cons, show hitN z x = true from decide_eq_true hh]
       rw [e]; exact ⟨rfl, X⟩)
    | (have e : fnodeF xs z = (zeroN, 4) := by rw [fnodeF, if_pos hT, hi, drop_end hk]; rfl
       rw [e]; exact ⟨rfl, X⟩)

theorem l15Known_c (m : MedlI) (B : Nat) (node : Int) (w : World) (hm : Med B w m) (hz : m.small) :
    Calls Tryz.prog 53 #[.agg m.cells.toArray, .int .i64 node] w (Ret fun v w' => v = .bool (isNT m.ns && idIn m.ns node) ∧ Ext w w') := by
  have hls := hz.ls
  have hlm := hz.lm
  have hln := hz.ln
  have Bhm := hm.1
  have X := Ext.refl w
  refine calls_of (args := [.agg m.cells.toArray, .int .i64 node]) Tryz.func53 Tryz.ntmps53 rfl rfl ?_
  refine c_seqR ?_
  refine ops_cons rfl (ow_box rfl rfl ?_)
  intro g4 w3 eg4 b1 x2 zg4
  have lg4 : w.heap.size ≤ g4 := Nat.le_trans X.size (Nat.le_of_eq eg4.symm)
  have pg4hm := Nat.le_trans hm.1 (Nat.le_of_eq eg4.symm)
  replace hm := hm.ext x2
  replace X := Ext.trans X x2; clear x2
  refine ops_cons rfl (ow_assign rfl ?_)
  refine ops_nil ?_
  refine c_seqR ?_
  refine ops_cons rfl (ow_fieldAddrB off27_1 rfl rfl ?_)
  refine ops_cons rfl (ow_loadB b1 ti23 rfl rfl ?_)
  refine ops_cons rfl (ow_move rfl ?_)
  refine ops_cons rfl (ow_call ent94 rfl (ret_mono (sFindNode_c _ _ _ m.ns node _ hm.sn hln (fun x hx => by have := hz.lz x hx; omega)) ?_))
  rintro _ w6 ⟨rfl, x5⟩
  replace hm := hm.ext x5
  replace b1 := b1.ext x5
  replace X := Ext.trans X x5; clear x5
  refine ops_cons rfl (ow_move rfl ?_)
  refine ops_cons rfl (ow_extract rfl rfl ?_)
  refine ops_cons rfl (ow_extract rfl rfl ?_)
  refine ops_cons rfl (ow_alloc ti104 ?_)
  intro g10 w9 eg10 b7 x8 zg10
  have lg10 : w.heap.size ≤ g10 := Nat.le_trans X.size (Nat.le_of_eq eg10.symm)
  have pg10hm := Nat.le_trans hm.1 (Nat.le_of_eq eg10.symm)
  have ng10b1 := Nat.lt_of_lt_of_eq b1.lt eg10.symm
  replace hm := hm.ext x8
  replace b1 := b1.ext x8
  replace X := Ext.trans X x8; clear x8
  refine ops_cons rfl (ow_storeB b7 ti104 rfl rfl rfl rfl rfl rfl ?_)
  intro w12 b14 hg11 z13
  replace hm := hm.grown hg11 (by intro g hg; injection hg; omega)
  replace b1 := b1.grown hg11 (by intro h; injection h; omega)
  replace X := X.grown hg11 X.size (by intro g hg; injection hg; omega)
  clear hg11 b7
  refine ops_cons rfl (ow_assign rfl ?_)
  refine ops_nil ?_
  refine c_seqR ?_
  refine ops_cons rfl (ow_move rfl ?_)
  refine ops_cons rfl (ow_eql rfl rfl ?_)
  refine ops_cons rfl (ow_assign rfl ?_)
  refine ops_nil ?_
  refine c_ret ?_
  refine fin_ret1 rfl rfl ?_
  exact ⟨congrArg Value.bool (known_eq m.ns node), X⟩

theorem nodesCode_c (m : MedlI) (B : Nat) (mode : Int) (A : Option Addr) (B2 c : Nat) (zs : List Int) (w : World) (hm : Med B w m) (hz : m.small) (hs : Sl B2 w A (zs.flatMap eI)) (hzl : zs.length ≤ 1048576) :
    Calls Tryz.prog 58 #[.agg m.cells.toArray, .int .i64 mode, .slice A zs.length c] w (Ret fun v w' => v = .int .i64 (nodesC m.d mode zs) ∧ Ext w w') := by
  have hls := hz.ls
  have hlm := hz.lm
  have hln := hz.ln
  have Bhm := hm.1
  have Bhs := hs.1
  have X := Ext.refl w
  refine calls_of (args := [.agg m.cells.toArray, .int .i64 mode, .slice A zs.length c]) Tryz.func58 Tryz.ntmps58 rfl rfl ?_
  refine c_seqR ?_
  refine ops_cons rfl (ow_box rfl rfl ?_)
  intro g4 w3 eg4 b1 x2 zg4
  have lg4 : w.heap.size ≤ g4 := Nat.le_trans X.size (Nat.le_of_eq eg4.symm)
  have pg4hm := Nat.le_trans hm.1 (Nat.le_of_eq eg4.symm)
  have pg4hs := Nat.le_trans hs.1 (Nat.le_of_eq eg4.symm)
  replace hm := hm.ext x2
  replace hs := hs.ext x2
  replace X := Ext.trans X x2; clear x2
  refine ops_cons rfl (ow_assign rfl ?_)
  refine ops_nil ?_
  refine c_seq ?_
  refine c_seqR ?_
  refine ops_cons rfl (ow_loadAB b1 ti27 rfl rfl ?_)
  refine ops_cons rfl (ow_move rfl ?_)
  refine ops_cons rfl (ow_call ent99 rfl (ret_mono (modeCode_c m _ mode _ hm hz) ?_))
  rintro _ w6 ⟨rfl, x5⟩
  replace hm := hm.ext x5
  replace hs := hs.ext x5
  replace b1 := b1.ext x5
  replace X := Ext.trans X x5; clear x5
  refine ops_cons rfl (ow_assign rfl ?_)
  refine ops_nil ?_
  refine c_seqR ?_
  refine ops_cons rfl (ow_move rfl ?_)
  refine ops_cons rfl (ow_neq2 rfl rfl (fun hC => ?_) (fun hC => ?_))
  · skip
    refine ops_nil ?_
    refine c_true rfl ?_
    refine c_seqR ?_
    refine ops_cons rfl (ow_move rfl ?_)
    refine ops_cons rfl (ow_assign rfl ?_)
    refine ops_nil ?_
    refine c_ret ?_
    refine tq_r ?_
    refine fin_ret1 rfl rfl ?_
    refine ⟨congrArg (Value.int .i64) ?_, X⟩
    first
    | (rw [nodesC, if_neg hC]; done)
    | (rw [nodesC, if_pos hC0]
       show _ = if zs.all (idIn m.ns) = true then (0 : Int) else 2
       rw [if_neg (show ¬ zs.all (idIn m.ns) = true by rw [hi, dx, List.all_cons, hF2]; simp)])
    | (rw [nodesC, if_pos hC0]
       show _ = if zs.all (idIn m.ns) = true then (0 : Int) else 2
       rw [if_pos (show zs.all (idIn m.ns) = true by rw [hi, drop_end hk]; rfl)])
  · skip
    have hC0 : modeC m.d mode = 0 := by omega
    refine ops_nil ?_
    refine c_false rfl ?_
    refine c_skip ?_
    refine tq_n ?_
    refine c_seq ?_
    refine c_seqR ?_
    refine ops_cons rfl (ow_move rfl ?_)
    refine ops_cons rfl (ow_len Tryz.underlying22 rfl ?_)
    refine ops_cons rfl (ow_move rfl ?_)
    refine ops_nil ?_
    refine c_block ?_
    refine c_loop (G := Nat) (fun k => [(3, .pointer (some ⟨g4, 0, none⟩)), (16, .slice A zs.length c), (17, .int .i64 (zs.length : Nat)), (18, .int .i64 (k : Nat))]) (fun k wr => k ≤ zs.length ∧ zs.all (idIn m.ns) = (zs.drop k).all (idIn m.ns) ∧ Med B wr m ∧ Sl B2 wr A (zs.flatMap eI) ∧ Blk wr g4 27 m.cells ∧ Ext w wr) (fun k => zs.length - k) 0 (.cons rfl (.cons rfl (.cons rfl (.cons rfl (.nil _))))) ?_ ?_
    · exact ⟨by omega, rfl, hm, hs, b1, X⟩
    clear hm hs b1
    clear X
    rintro k wr ⟨hk0, hi, hm, hs, b1, X⟩
    refine c_seqR ?_
    refine ops_cons rfl (ow_lss2 rfl rfl (fun hk => ?_) (fun hk => ?_))
    · skip
      obtain ⟨x, hx, dx⟩ := drop_at' hk
      refine ops_nil ?_
      refine c_seq ?_
      refine c_true rfl ?_
      refine c_skip ?_
      refine tq_n ?_
      refine c_seq ?_
      refine c_block ?_
      refine c_seqR ?_
      refine ops_cons rfl (ow_indexT hs eI_len rfl el22 rfl rfl rfl hx rfl ?_)
      refine ops_cons rfl (ow_loadT hs eI_len hx ti2 rfl rfl rfl ?_)
      refine ops_cons rfl (ow_assign rfl ?_)
      refine ops_nil ?_
      refine c_seqR ?_
      refine ops_cons rfl (ow_fieldAddrB off27_1 rfl rfl ?_)
      refine ops_cons rfl (ow_loadB b1 ti23 rfl rfl ?_)
      refine ops_cons rfl (ow_move rfl ?_)
      refine ops_cons rfl (ow_call ent100 rfl (ret_mono (findNode_c _ _ _ m.ns x _ hm.sn hln) ?_))
      rintro _ w8 ⟨rfl, x7⟩
      replace hm := hm.ext x7
      replace hs := hs.ext x7
      replace b1 := b1.ext x7
      replace X := Ext.trans X x7; clear x7
      refine ops_cons rfl (ow_lss2 rfl rfl (fun hF => ?_) (fun hF => ?_))
      · skip
        have hF2 := findN_lt.1 hF
        refine ops_nil ?_
        refine c_true rfl ?_
        refine c_seqR ?_
        refine ops_cons rfl (ow_assign rfl ?_)
        refine ops_nil ?_
        refine c_ret ?_
        refine bq_r ?_
        refine tq_r ?_
        refine tq_r ?_
        refine bq_r ?_
        refine tq_r ?_
        refine fin_ret1 rfl rfl ?_
        refine ⟨congrArg (Value.int .i64) ?_, X⟩
        first
        | (rw [nodesC, if_neg hC]; done)
        | (rw [nodesC, if_pos hC0]
           show _ = if zs.all (idIn m.ns) = true then (0 : Int) else 2
           rw [if_neg (show ¬ zs.all (idIn m.ns) = true by rw [hi, dx, List.all_cons, hF2]; simp)])
        | (rw [nodesC, if_pos hC0]
           show _ = if zs.all (idIn m.ns) = true then (0 : Int) else 2
           rw [if_pos (show zs.all (idIn m.ns) = true by rw [hi, drop_end hk]; rfl)])
      · skip
        have hF2 : idIn m.ns x = true := by
          cases e : idIn m.ns x
          · exact absurd (findN_lt.2 e) hF
          · rfl
        refine ops_nil ?_
        refine c_false rfl ?_
        refine c_skip ?_
        refine bq_n ?_
        refine tq_n ?_
        refine c_region ?_
        refine ops_cons rfl (ow_add rfl rfl (w64 (by omega)) ?_)
        refine ops_cons rfl (ow_move rfl ?_)
        refine ops_nil ?_
        refine tq_n ⟨k + 1, (.cons rfl (.cons rfl (.cons rfl (.cons rfl (.nil _))))), ?_, ?_⟩
        · exact ⟨by omega, (by rw [hi, dx, List.all_cons, hF2]; rfl), hm, hs, b1, X⟩
        · first | omega | (dsimp only; omega)
    · skip
      refine ops_nil ?_
      refine c_seq ?_
      refine c_false rfl ?_
      refine c_exit ?_
      refine tq_e ?_
      refine tq_e ?_
      refine bq_e ?_
      refine tq_n ?_
      refine c_seqR ?_
      refine ops_cons rfl (ow_assign rfl ?_)
      refine ops_nil ?_
      refine c_ret ?_
      refine fin_ret1 rfl rfl ?_
      refine ⟨congrArg (Value.int .i64) ?_, X⟩
      first
      | (rw [nodesC, if_neg hC]; done)
      | (rw [nodesC, if_pos hC0]
         show _ = if zs.all (idIn m.ns) = true then (0 : Int) else 2
         rw [if_neg (show ¬ zs.all (idIn m.ns) = true by rw [hi, dx, List.all_cons, hF2]; simp)])
      | (rw [nodesC, if_pos hC0]
         show _ = if zs.all (idIn m.ns) = true then (0 : Int) else 2
         rw [if_pos (show zs.all (idIn m.ns) = true by rw [hi, drop_end hk]; rfl)])

theorem l15Times_c (m : MedlI) (B : Nat) (mode node : Int) (w : World) (hm : Med B w m) (hz : m.small) (hok : ∀ x ∈ m.ss, slotOk x = true) :
    Calls Tryz.prog 54 #[.agg m.cells.toArray, .int .i64 mode, .int .i64 node] w (Ret fun v w' => ∃ A' c', v = .slice A' (sendS m.ss mode node m.ss).length c' ∧ Own w' w.heap.size 2 1 A' (sendS m.ss mode node m.ss).length c' ((sendS m.ss mode node m.ss).flatMap eI) ∧ Ext w w') := by
  have hls := hz.ls
  have hlm := hz.lm
  have hln := hz.ln
  have Bhm := hm.1
  have X := Ext.refl w
  refine calls_of (args := [.agg m.cells.toArray, .int .i64 mode, .int .i64 node]) Tryz.func54 Tryz.ntmps54 rfl rfl ?_
  refine c_seqR ?_
  refine ops_cons rfl (ow_box rfl rfl ?_)
  intro g4 w3 eg4 b1 x2 zg4
  have lg4 : w.heap.size ≤ g4 := Nat.le_trans X.size (Nat.le_of_eq eg4.symm)
  have pg4hm := Nat.le_trans hm.1 (Nat.le_of_eq eg4.symm)
  replace hm := hm.ext x2
  replace X := Ext.trans X x2; clear x2
  refine ops_cons rfl (ow_assign rfl ?_)
  refine ops_nil ?_
  refine c_seqR ?_
  refine ops_cons rfl (ow_buildSlice el22 ti2 rfl rfl rfl rfl rfl ?_)
  intro gO w6 egO oO bbgO x5 zgO
  replace oO := Own.low oO X.size
  replace hm := hm.ext x5
  replace b1 := b1.ext x5
  replace X := Ext.trans X x5; clear x5
  refine ops_cons rfl (ow_assign rfl ?_)
  refine ops_nil ?_
  refine c_seq ?_
  refine c_seqR ?_
  refine ops_cons rfl (ow_assign rfl ?_)
  refine ops_nil ?_
  refine c_block ?_
  refine c_loop (G := Nat × Nat × List Int × Option Addr × Nat) (fun ⟨k, n1, ys, A1, c1⟩ => [(1, .int .i64 mode), (2, .int .i64 node), (3, .pointer (some ⟨g4, 0, none⟩)), (6, .slice none 0 0), (7, .slice A1 n1 c1), (8, .int .i64 (k : Nat))]) (fun ⟨k, n1, ys, A1, c1⟩ wr => k ≤ m.ss.length ∧ n1 = ys.length ∧ n1 ≤ k ∧ sendS m.ss mode node m.ss = ys ++ sendS m.ss mode node (m.ss.drop k) ∧ Own wr w.heap.size 2 1 A1 n1 c1 (ys.flatMap eI) ∧ Med B wr m ∧ Blk wr g4 27 m.cells ∧ Ext w wr) (fun ⟨k, n1, ys, A1, c1⟩ => m.ss.length - k) (0, 0, [], some ⟨gO, 0, none⟩, 0) (.cons rfl (.cons rfl (.cons rfl (.cons rfl (.cons rfl (.cons rfl (.nil _))))))) ?_ ?_
  · exact ⟨by omega, rfl, by omega, rfl, oO, hm, b1, X⟩
  clear hm b1 oO
  clear X
  rintro ⟨k, n1, ys, A1, c1⟩ wr ⟨hk0, hn, hn1, hi, oO, hm, b1, X⟩
  refine c_seq ?_
  refine c_seqR ?_
  refine ops_cons rfl (ow_move rfl ?_)
  refine ops_cons rfl (ow_fieldAddrB off27_3 rfl rfl ?_)
  refine ops_cons rfl (ow_loadB b1 ti25 rfl rfl ?_)
  refine ops_cons rfl (ow_len Tryz.underlying25 rfl ?_)
  refine ops_cons rfl (ow_lss2 rfl rfl (fun hk => ?_) (fun hk => ?_))
  · skip
    obtain ⟨x, hx, dx⟩ := drop_at' hk
    have hxs := slotI (hok x (List.mem_of_getElem? hx))
    refine ops_nil ?_
    refine c_true rfl ?_
    refine c_skip ?_
    refine tq_n ?_
    refine c_seq ?_
    refine c_block ?_
    refine c_seqR ?_
    refine ops_cons rfl (ow_fieldAddrB off27_3 rfl rfl ?_)
    refine ops_cons rfl (ow_loadB b1 ti25 rfl rfl ?_)
    refine ops_cons rfl (ow_move rfl ?_)
    refine ops_cons rfl (ow_indexT hm.ss SlotI.len rfl el25 rfl rfl rfl hx rfl ?_)
    refine ops_cons rfl (ow_loadTA hm.ss SlotI.len hx ti110 rfl ?_)
    refine ops_cons rfl (ow_alloc ti110 ?_)
    intro g10 w9 eg10 b7 x8 zg10
    have lg10 : w.heap.size ≤ g10 := Nat.le_trans X.size (Nat.le_of_eq eg10.symm)
    have pg10hm := Nat.le_trans hm.1 (Nat.le_of_eq eg10.symm)
    have ng10b1 := Nat.lt_of_lt_of_eq b1.lt eg10.symm
    replace oO := oO.ext x8
    replace hm := hm.ext x8
    replace b1 := b1.ext x8
    replace X := Ext.trans X x8; clear x8
    refine ops_cons rfl (ow_storeB b7 ti110 rfl rfl rfl rfl rfl rfl ?_)
    intro w12 b14 hg11 z13
    replace oO := oO.grownBlk hg11 (Own.neT oO b7 (by decide))
    replace hm := hm.grown hg11 (by intro g hg; injection hg; omega)
    replace b1 := b1.grown hg11 (by intro h; injection h; omega)
    replace X := X.grown hg11 X.size (by intro g hg; injection hg; omega)
    clear hg11 b7
    refine ops_nil ?_
    refine c_seqR ?_
    refine ops_cons rfl (ow_fieldAddrB off110_0 rfl rfl ?_)
    refine ops_cons rfl (ow_loadB b14 ti2 rfl rfl ?_)
    refine ops_cons rfl (ow_move rfl ?_)
    refine ops_cons rfl (ow_eql2 rfl rfl (fun e1 => ?_) (fun e1 => ?_))
    · skip
      refine ops_cons rfl (ow_move rfl ?_)
      refine ops_want rfl rfl rfl (ow_fieldAddrB off110_3 rfl rfl ?_)
      refine ops_want rfl rfl rfl (ow_fieldAddrB off108_0 rfl rfl ?_)
      refine ops_want rfl rfl rfl (ow_loadB b14 ti2 rfl rfl ?_)
      refine ops_want rfl rfl rfl (ow_move rfl ?_)
      refine ops_want rfl rfl rfl (ow_eql2 rfl rfl (fun e2 => ?_) (fun e2 => ?_))
      · skip
        refine ops_cons rfl (ow_pick rfl rfl ?_)
        refine ops_nil ?_
        refine c_true rfl ?_
        refine c_region ?_
        refine ops_cons rfl (ow_move rfl ?_)
        refine ops_cons rfl (ow_loadAB b1 ti27 rfl rfl ?_)
        refine ops_cons rfl (ow_move rfl ?_)
        refine ops_cons rfl (ow_fieldAddrB off110_1 rfl rfl ?_)
        refine ops_cons rfl (ow_loadB b14 ti2 rfl rfl ?_)
        refine ops_cons rfl (ow_fieldAddrB off110_2 rfl rfl ?_)
        refine ops_cons rfl (ow_loadB b14 ti2 rfl rfl ?_)
        refine ops_cons rfl (ow_call ent95 rfl (ret_mono (l15Start_c m _ mode x.round x.slot _ hm hz hok) ?_))
        rintro _ w16 ⟨rfl, x15⟩
        replace oO := oO.ext x15
        replace hm := hm.ext x15
        replace b1 := b1.ext x15
        replace b14 := b14.ext x15
        replace X := Ext.trans X x15; clear x15
        refine ops_cons rfl (ow_buildSlice el22 ti2 rfl rfl rfl rfl rfl ?_)
        intro g17 w19 eg17 oT bbg17 x18 zg17
        replace oT := Own.low oT X.size
        replace oO := oO.ext x18
        replace hm := hm.ext x18
        replace b1 := b1.ext x18
        replace b14 := b14.ext x18
        replace X := Ext.trans X x18; clear x18
        refine ops_cons rfl (ow_append (ts := #[]) oO X.size oT.sl (by first | rfl | simp) (by first | exact List.all_eq_true.1 rfl | simp [Value.oneCell']) el22 ti2 rfl rfl rfl rfl (by omega) (by omega) ?_)
        intro AoN coN w21 oN hg20
        replace hm := hm.grown hg20 (fun g hg => Nat.le_trans Bhm (Own.lt oO hg).1)
        replace b1 := b1.grown hg20 (fun h => Own.neT oO b1 (by decide) h.symm)
        replace b14 := b14.grown hg20 (fun h => Own.neT oO b14 (by decide) h.symm)
        replace X := X.grown hg20 X.size (fun g hg => (Own.lt oO hg).1)
        clear hg20
        refine ops_cons rfl (ow_assign rfl ?_)
        refine ops_nil ?_
        refine bq_n ?_
        refine tq_n ?_
        refine c_region ?_
        refine ops_cons rfl (ow_move rfl ?_)
        refine ops_cons rfl (ow_add rfl rfl (w64 (by omega)) ?_)
        refine ops_cons rfl (ow_assign rfl ?_)
        refine ops_nil ?_
        refine tq_n ⟨(k + 1, n1 + 1, ys ++ [startD m.ss mode x.round x.slot], AoN, coN), (.cons rfl (.cons rfl (.cons rfl (.cons rfl (.cons rfl (.cons rfl (.nil _))))))), ?_, ?_⟩
        · exact ⟨by omega, by simp [hn], by omega, (by rw [hi, dx, sendS, if_pos ⟨e1, e2⟩]; simp), oN.to (snoc eI ys _).symm, hm, b1, X⟩
        · first | omega | (dsimp only; omega)
      · skip
        refine ops_cons rfl (ow_pick rfl rfl ?_)
        refine ops_nil ?_
        refine c_false rfl ?_
        refine c_skip ?_
        refine bq_n ?_
        refine tq_n ?_
        refine c_region ?_
        refine ops_cons rfl (ow_move rfl ?_)
        refine ops_cons rfl (ow_add rfl rfl (w64 (by omega)) ?_)
        refine ops_cons rfl (ow_assign rfl ?_)
        refine ops_nil ?_
        refine tq_n ⟨(k + 1, n1, ys, A1, c1), (.cons rfl (.cons rfl (.cons rfl (.cons rfl (.cons rfl (.cons rfl (.nil _))))))), ?_, ?_⟩
        · exact ⟨by omega, hn, by omega, (by rw [hi, dx, sendS, if_neg (by omega)]), oO, hm, b1, X⟩
        · first | omega | (dsimp only; omega)
    · skip
      refine ops_cons rfl (ow_move rfl ?_)
      refine ops_skip rfl rfl rfl rfl ?_
      refine ops_skip rfl rfl rfl rfl ?_
      refine ops_skip rfl rfl rfl rfl ?_
      refine ops_skip rfl rfl rfl rfl ?_
      refine ops_skip rfl rfl rfl rfl ?_
      refine ops_cons rfl (ow_pick rfl rfl ?_)
      refine ops_nil ?_
      refine c_false rfl ?_
      refine c_skip ?_
      refine bq_n ?_
      refine tq_n ?_
      refine c_region ?_
      refine ops_cons rfl (ow_move rfl ?_)
      refine ops_cons rfl (ow_add rfl rfl (w64 (by omega)) ?_)
      refine ops_cons rfl (ow_assign rfl ?_)
      refine ops_nil ?_
      refine tq_n ⟨(k + 1, n1, ys, A1, c1), (.cons rfl (.cons rfl (.cons rfl (.cons rfl (.cons rfl (.cons rfl (.nil _))))))), ?_, ?_⟩
      · exact ⟨by omega, hn, by omega, (by rw [hi, dx, sendS, if_neg (by omega)]), oO, hm, b1, X⟩
      · first | omega | (dsimp only; omega)
  · skip
    refine ops_nil ?_
    refine c_false rfl ?_
    refine c_exit ?_
    refine tq_e ?_
    refine tq_e ?_
    refine bq_e ?_
    refine tq_n ?_
    refine c_seqR ?_
    refine ops_cons rfl (ow_move rfl ?_)
    refine ops_cons rfl (ow_assign rfl ?_)
    refine ops_nil ?_
    refine c_ret ?_
    refine fin_ret1 rfl rfl ?_
    have e : sendS m.ss mode node m.ss = ys := by rw [hi, drop_end hk]; simp [sendS]
    rw [e, ← hn]; exact ⟨A1, c1, rfl, oO, X⟩

theorem sSend_c (m : MedlI) (B : Nat) (mode node : Int) (w : World) (hm : Med B w m) (hz : m.small) :
    Calls Tryz.prog 19 #[.agg m.cells.toArray, .int .i64 mode, .int .i64 node] w (Ret fun v w' => ∃ A' c', v = .tuple #[.slice A' (sendT m.d mode node).1.length c', .int .i64 (sendT m.d mode node).2] ∧ Own w' w.heap.size 2 1 A' (sendT m.d mode node).1.length c' ((sendT m.d mode node).1.flatMap eI) ∧ Ext w w') := by
  have hls := hz.ls
  have hlm := hz.lm
  have hln := hz.ln
  have Bhm := hm.1
  have X := Ext.refl w
  refine calls_of (args := [.agg m.cells.toArray, .int .i64 mode, .int .i64 node]) Tryz.func19 Tryz.ntmps19 rfl rfl ?_
  refine c_seqR ?_
  refine ops_cons rfl (ow_box rfl rfl ?_)
  intro g4 w3 eg4 b1 x2 zg4
  have lg4 : w.heap.size ≤ g4 := Nat.le_trans X.size (Nat.le_of_eq eg4.symm)
  have pg4hm := Nat.le_trans hm.1 (Nat.le_of_eq eg4.symm)
  replace hm := hm.ext x2
  replace X := Ext.trans X x2; clear x2
  refine ops_cons rfl (ow_assign rfl ?_)
  refine ops_cons rfl (ow_assign rfl ?_)
  refine ops_nil ?_
  refine c_seqR ?_
  refine ops_cons rfl (ow_loadAB b1 ti27 rfl rfl ?_)
  refine ops_cons rfl (ow_move rfl ?_)
  refine ops_cons rfl (ow_call ent52 rfl (ret_mono (l13Mode_c m _ mode _ hm hz) ?_))
  rintro _ w6 ⟨rfl, x5⟩
  replace hm := hm.ext x5
  replace b1 := b1.ext x5
  replace X := Ext.trans X x5; clear x5
  refine ops_cons rfl (ow_assign rfl ?_)
  refine ops_nil ?_
  refine c_seq ?_
  refine c_seqR ?_
  refine ops_cons rfl (ow_move rfl ?_)
  refine ops_cons rfl (ow_eql2 rfl rfl (fun h1 => ?_) (fun h1 => ?_))
  · skip
    have hC0 : modeC m.d mode = 0 := by omega
    have wf := isMedl_iff.1 (modeC_zero.1 hC0).1
    have hok : ∀ x ∈ m.ss, slotOk x = true := isST_all wf.st
    refine ops_cons rfl (ow_move rfl ?_)
    refine ops_want rfl rfl rfl (ow_loadAB b1 ti27 rfl rfl ?_)
    refine ops_want rfl rfl rfl (ow_move rfl ?_)
    refine ops_want rfl rfl rfl (ow_callB ent53 rfl (l15Known_c m _ node _ hm hz) (fun w8 hKn x7 => ?_) (fun w8 hKn x7 => ?_))
    · skip
      replace hm := hm.ext x7
      replace b1 := b1.ext x7
      replace X := Ext.trans X x7; clear x7
      refine ops_want rfl rfl rfl (ow_not rfl ?_)
      refine ops_cons rfl (ow_pick rfl rfl ?_)
      refine ops_nil ?_
      refine c_false rfl ?_
      refine c_skip ?_
      refine tq_n ?_
      refine c_seq ?_
      refine c_seqR ?_
      refine ops_cons rfl (ow_move rfl ?_)
      refine ops_cons rfl (ow_neq2 rfl rfl (fun h4 => ?_) (fun h4 => ?_))
      · skip
        exact absurd h1 h4
      · skip
        refine ops_nil ?_
        refine c_false rfl ?_
        refine c_skip ?_
        refine tq_n ?_
        refine c_seqR ?_
        refine ops_cons rfl (ow_loadAB b1 ti27 rfl rfl ?_)
        refine ops_cons rfl (ow_move rfl ?_)
        refine ops_cons rfl (ow_move rfl ?_)
        refine ops_cons rfl (ow_call ent54 rfl (ret_mono (l15Times_c m _ mode node _ hm hz hok) ?_))
        rintro _ w10 ⟨A11, c12, rfl, oR, x9⟩
        replace oR := Own.low oR X.size
        replace hm := hm.ext x9
        replace b1 := b1.ext x9
        replace X := Ext.trans X x9; clear x9
        refine ops_cons rfl (ow_assign rfl ?_)
        refine ops_cons rfl (ow_assign rfl ?_)
        refine ops_nil ?_
        refine c_ret ?_
        refine fin_ret2 rfl rfl rfl ?_
        first
        | (rw [sendT_c h1]; exact ⟨none, 0, rfl, Own.nil_ _ _ _ _, X⟩)
        | (rw [sendT_2 h1 (by rw [show isNT m.ns = true from wf.nt, Bool.true_and] at hKn; exact hKn)]; exact ⟨none, 0, rfl, Own.nil_ _ _ _ _, X⟩)
        | (rw [sendT_0 h1 (by rw [show isNT m.ns = true from wf.nt, Bool.true_and] at hKn; exact hKn)]; exact ⟨_, _, rfl, oR, X⟩)
    · skip
      replace hm := hm.ext x7
      replace b1 := b1.ext x7
      replace X := Ext.trans X x7; clear x7
      refine ops_want rfl rfl rfl (ow_not rfl ?_)
      refine ops_cons rfl (ow_pick rfl rfl ?_)
      refine ops_nil ?_
      refine c_true rfl ?_
      refine c_region ?_
      refine ops_cons rfl (ow_assign rfl ?_)
      refine ops_nil ?_
      refine tq_n ?_
      refine c_seq ?_
      refine c_seqR ?_
      refine ops_cons rfl (ow_move rfl ?_)
      refine ops_cons rfl (ow_neq2 rfl rfl (fun h4 => ?_) (fun h4 => ?_))
      · skip
        refine ops_nil ?_
        refine c_true rfl ?_
        refine c_seqR ?_
        refine ops_cons rfl (ow_move rfl ?_)
        refine ops_cons rfl (ow_assign rfl ?_)
        refine ops_cons rfl (ow_assign rfl ?_)
        refine ops_nil ?_
        refine c_ret ?_
        refine tq_r ?_
        refine fin_ret2 rfl rfl rfl ?_
        first
        | (rw [sendT_c h1]; exact ⟨none, 0, rfl, Own.nil_ _ _ _ _, X⟩)
        | (rw [sendT_2 h1 (by rw [show isNT m.ns = true from wf.nt, Bool.true_and] at hKn; exact hKn)]; exact ⟨none, 0, rfl, Own.nil_ _ _ _ _, X⟩)
        | (rw [sendT_0 h1 (by rw [show isNT m.ns = true from wf.nt, Bool.true_and] at hKn; exact hKn)]; exact ⟨_, _, rfl, oR, X⟩)
      · skip
        exact absurd (Classical.not_not.1 h4) (by decide)
  · skip
    refine ops_cons rfl (ow_move rfl ?_)
    refine ops_skip rfl rfl rfl rfl ?_
    refine ops_skip rfl rfl rfl rfl ?_
    refine ops_skip rfl rfl rfl rfl ?_
    refine ops_skip rfl rfl rfl rfl ?_
    refine ops_cons rfl (ow_pick rfl rfl ?_)
    refine ops_nil ?_
    refine c_false rfl ?_
    refine c_skip ?_
    refine tq_n ?_
    refine c_seq ?_
    refine c_seqR ?_
    refine ops_cons rfl (ow_move rfl ?_)
    refine ops_cons rfl (ow_neq2 rfl rfl (fun h4 => ?_) (fun h4 => ?_))
    · skip
      refine ops_nil ?_
      refine c_true rfl ?_
      refine c_seqR ?_
      refine ops_cons rfl (ow_move rfl ?_)
      refine ops_cons rfl (ow_assign rfl ?_)
      refine ops_cons rfl (ow_assign rfl ?_)
      refine ops_nil ?_
      refine c_ret ?_
      refine tq_r ?_
      refine fin_ret2 rfl rfl rfl ?_
      first
      | (rw [sendT_c h1]; exact ⟨none, 0, rfl, Own.nil_ _ _ _ _, X⟩)
      | (rw [sendT_2 h1 (by rw [show isNT m.ns = true from wf.nt, Bool.true_and] at hKn; exact hKn)]; exact ⟨none, 0, rfl, Own.nil_ _ _ _ _, X⟩)
      | (rw [sendT_0 h1 (by rw [show isNT m.ns = true from wf.nt, Bool.true_and] at hKn; exact hKn)]; exact ⟨_, _, rfl, oR, X⟩)
    · skip
      exact absurd (Classical.not_not.1 h4) h1

theorem sending_c (m : MedlI) (B : Nat) (mode node : Int) (w : World) (hm : Med B w m) (hz : m.small) (hok : ∀ x ∈ m.ss, slotOk x = true) :
    Calls Tryz.prog 59 #[.agg m.cells.toArray, .int .i64 mode, .int .i64 node] w (Ret fun v w' => ∃ A' c' vE, v = .tuple #[.slice A' (sendG node 0 (ofMode mode m.ss)).length c', vE] ∧ Own w' w.heap.size 2 1 A' (sendG node 0 (ofMode mode m.ss)).length c' ((sendG node 0 (ofMode mode m.ss)).flatMap eI) ∧ Ext w w') := by
  have hls := hz.ls
  have hlm := hz.lm
  have hln := hz.ln
  have Bhm := hm.1
  have X := Ext.refl w
  refine calls_of (args := [.agg m.cells.toArray, .int .i64 mode, .int .i64 node]) Tryz.func59 Tryz.ntmps59 rfl rfl ?_
  refine c_seqR ?_
  refine ops_cons rfl (ow_box rfl rfl ?_)
  intro g4 w3 eg4 b1 x2 zg4
  have lg4 : w.heap.size ≤ g4 := Nat.le_trans X.size (Nat.le_of_eq eg4.symm)
  have pg4hm := Nat.le_trans hm.1 (Nat.le_of_eq eg4.symm)
  replace hm := hm.ext x2
  replace X := Ext.trans X x2; clear x2
  refine ops_cons rfl (ow_assign rfl ?_)
  refine ops_cons rfl (ow_assign rfl ?_)
  refine ops_nil ?_
  refine c_seqR ?_
  refine ops_cons rfl (ow_buildSlice el22 ti2 rfl rfl rfl rfl rfl ?_)
  intro gS w6 egS oS bbgS x5 zgS
  replace oS := Own.low oS X.size
  replace hm := hm.ext x5
  replace b1 := b1.ext x5
  replace X := Ext.trans X x5; clear x5
  have UgS := fun g hg => (Own.lt oS (g := g) hg).2
  refine ops_cons rfl (ow_buildSlice el22 ti2 rfl rfl rfl rfl rfl ?_)
  intro gE w8 egE oE bbgE x7 zgE
  replace oE := Own.low oE X.size
  replace hm := hm.ext x7
  replace b1 := b1.ext x7
  replace oS := oS.ext x7
  replace X := Ext.trans X x7; clear x7
  have dj0 : Apart (Value.slice (some ⟨gS, 0, none⟩) 0 0).ownBlock (Value.slice (some ⟨gE, 0, none⟩) 0 0).ownBlock := fun g h1 h2 => by
    have h3 := UgS g h1
    have h4 : gE = g := by injection h2
    omega
  refine ops_cons rfl (ow_assign rfl ?_)
  refine ops_cons rfl (ow_assign rfl ?_)
  refine ops_cons rfl (ow_assign rfl ?_)
  refine ops_nil ?_
  refine c_seq ?_
  refine c_seqR ?_
  refine ops_cons rfl (ow_loadAB b1 ti27 rfl rfl ?_)
  refine ops_cons rfl (ow_move rfl ?_)
  have US := fun g hg => (Own.lt oS (g := g) hg).2
  have UE := fun g hg => (Own.lt oE (g := g) hg).2
  refine ops_cons rfl (ow_call ent101 rfl (ret_mono (modeSlots_c m B mode _ hm hz) ?_))
  rintro _ w10 ⟨AL, cL, rfl, oL, x9⟩
  have LoL := X.size
  replace hm := hm.ext x9
  replace b1 := b1.ext x9
  replace oS := oS.ext x9
  replace oE := oE.ext x9
  replace X := Ext.trans X x9; clear x9
  have dSL0 : Apart (Value.slice (some ⟨gS, 0, none⟩) 0 0).ownBlock (Value.slice AL (ofMode mode m.ss).length cL).ownBlock := fun g h1 h2 => by have h3 := US g h1; have h4 := (Own.lt oL h2).1; omega
  have dEL0 : Apart (Value.slice (some ⟨gE, 0, none⟩) 0 0).ownBlock (Value.slice AL (ofMode mode m.ss).length cL).ownBlock := fun g h1 h2 => by have h3 := UE g h1; have h4 := (Own.lt oL h2).1; omega
  obtain ⟨lL, oL⟩ : ∃ l, Own _ l _ _ _ _ _ _ := ⟨_, oL⟩
  have hll := ofMode_len mode m.ss
  refine ops_cons rfl (ow_len Tryz.underlying25 rfl ?_)
  refine ops_cons rfl (ow_move rfl ?_)
  refine ops_nil ?_
  refine c_block ?_
  refine c_loop (G := Nat × Int × List Int × List Int × Nat × Option Addr × Nat × Nat × Option Addr × Nat) (fun ⟨k, a, ys, es, n1, A1, c1, n2, A2, c2⟩ => [(2, .int .i64 node), (6, .slice none 0 0), (7, .slice none 0 0), (18, .int .i64 ((ofMode mode m.ss).length : Nat)), (8, .slice A1 n1 c1), (9, .slice A2 n2 c2), (10, .int .i64 a), (17, .slice AL (ofMode mode m.ss).length cL), (19, .int .i64 (k : Nat))]) (fun ⟨k, a, ys, es, n1, A1, c1, n2, A2, c2⟩ wr => k ≤ (ofMode mode m.ss).length ∧ (0 ≤ a ∧ a ≤ 1000 * k) ∧ (n1 = ys.length ∧ n2 = es.length) ∧ (n1 ≤ k ∧ n2 ≤ k) ∧ sendG node 0 (ofMode mode m.ss) = ys ++ sendG node a ((ofMode mode m.ss).drop k) ∧ Apart (Value.slice A1 n1 c1).ownBlock (Value.slice A2 n2 c2).ownBlock ∧ Apart (Value.slice A1 n1 c1).ownBlock (Value.slice AL (ofMode mode m.ss).length cL).ownBlock ∧ Apart (Value.slice A2 n2 c2).ownBlock (Value.slice AL (ofMode mode m.ss).length cL).ownBlock ∧ Own wr w.heap.size 2 1 A1 n1 c1 (ys.flatMap eI) ∧ Own wr w.heap.size 2 1 A2 n2 c2 (es.flatMap eI) ∧ Own wr lL 110 8 AL (ofMode mode m.ss).length cL ((ofMode mode m.ss).flatMap SlotI.cells) ∧ Med B wr m ∧ Blk wr g4 27 m.cells ∧ Ext w wr) (fun ⟨k, a, ys, es, n1, A1, c1, n2, A2, c2⟩ => (ofMode mode m.ss).length - k) (0, 0, [], [], 0, some ⟨gS, 0, none⟩, 0, 0, some ⟨gE, 0, none⟩, 0) (.cons rfl (.cons rfl (.cons rfl (.cons rfl (.cons rfl (.cons rfl (.cons rfl (.cons rfl (.cons rfl (.nil _)))))))))) ?_ ?_
  · exact ⟨by omega, by omega, ⟨rfl, rfl⟩, by omega, rfl, dj0, dSL0, dEL0, oS, oE, oL, hm, b1, X⟩
  clear hm b1 oS oE oL
  clear X
  rintro ⟨k, a, ys, es, n1, A1, c1, n2, A2, c2⟩ wr ⟨hk0, ha, hn, hn1, hi, dSE, dSL, dEL, oS, oE, oL, hm, b1, X⟩
  refine c_seqR ?_
  refine ops_cons rfl (ow_lss2 rfl rfl (fun hk => ?_) (fun hk => ?_))
  · skip
    obtain ⟨x, hx, dx⟩ := drop_at' hk
    have hxs := slotI (hok x (ofMode_sub _ _ x (List.mem_of_getElem? hx)).1)
    refine ops_nil ?_
    refine c_seq ?_
    refine c_true rfl ?_
    refine c_skip ?_
    refine tq_n ?_
    refine c_seq ?_
    refine c_block ?_
    refine c_seqR ?_
    refine ops_cons rfl (ow_indexT (oL).sl SlotI.len rfl el25 rfl rfl rfl hx rfl ?_)
    refine ops_cons rfl (ow_loadTA (oL).sl SlotI.len hx ti110 rfl ?_)
    have UL0 := fun g hg => (Own.lt oL (g := g) hg).2
    refine ops_cons rfl (ow_alloc ti110 ?_)
    intro gX w12 egX bX x11 zgX
    have lgX : w.heap.size ≤ gX := Nat.le_trans X.size (Nat.le_of_eq egX.symm)
    have pgXhm := Nat.le_trans hm.1 (Nat.le_of_eq egX.symm)
    have ngXb1 := Nat.lt_of_lt_of_eq b1.lt egX.symm
    replace oS := oS.ext x11
    replace oE := oE.ext x11
    replace oL := oL.ext x11
    replace hm := hm.ext x11
    replace b1 := b1.ext x11
    replace X := Ext.trans X x11; clear x11
    refine ops_cons rfl (ow_storeB bX ti110 rfl rfl rfl rfl rfl rfl ?_)
    intro w14 bY hg13 z15
    replace oS := oS.grownBlk hg13 (Own.neT oS bX (by decide))
    replace oE := oE.grownBlk hg13 (Own.neT oE bX (by decide))
    replace oL := oL.grownBlk hg13 (fun h => absurd (UL0 _ h) (by omega))
    replace hm := hm.grown hg13 (by intro g hg; injection hg; omega)
    replace b1 := b1.grown hg13 (by intro h; injection h; omega)
    replace X := X.grown hg13 X.size (by intro g hg; injection hg; omega)
    clear hg13 bX
    refine ops_nil ?_
    refine c_seq ?_
    refine c_seqR ?_
    refine ops_cons rfl (ow_fieldAddrB off110_3 rfl rfl ?_)
    refine ops_cons rfl (ow_fieldAddrB off108_0 rfl rfl ?_)
    refine ops_cons rfl (ow_loadB bY ti2 rfl rfl ?_)
    refine ops_cons rfl (ow_move rfl ?_)
    refine ops_cons rfl (ow_eql2 rfl rfl (fun he => ?_) (fun he => ?_))
    · skip
      refine ops_nil ?_
      refine c_true rfl ?_
      refine c_regI (fun wz => Blk wz gX 110 x.cells) mixed ?_
      obtain ⟨w16, ew16⟩ : ∃ w2, w2 = World.drew w14 := ⟨_, rfl⟩
      rw [← ew16]
      have xd : Ext w14 w16 := ew16 ▸ Ext.drew w14
      replace oS := oS.ext xd
      replace oE := oE.ext xd
      replace oL := oL.ext xd
      replace hm := hm.ext xd
      replace b1 := b1.ext xd
      replace bY := bY.ext xd
      replace X := Ext.trans X xd; clear xd ew16
      refine wi_take 0 rfl (by kernel_rfl) rfl (by kernel_rfl) (listed' := #[true, false, false, false, false, false, false, false, false, false, false, false, false, false]) rfl (fun wq sq => ow_move rfl ⟨rfl, rfl⟩) ?_
      refine wi_take 1 rfl (by kernel_rfl) rfl (by kernel_rfl) (listed' := #[true, true, false, false, false, false, false, false, false, false, false, false, false, false]) rfl (fun wq sq => ow_move rfl ⟨rfl, rfl⟩) ?_
      refine wi_take 4 rfl (by kernel_rfl) rfl (by kernel_rfl) (listed' := #[true, true, false, false, true, false, false, false, false, false, false, false, false, false]) rfl (fun wq sq => ow_move rfl ⟨rfl, rfl⟩) ?_
      refine wi_take 5 rfl (by kernel_rfl) rfl (by kernel_rfl) (listed' := #[true, true, false, false, true, true, false, false, false, false, false, false, false, false]) rfl (fun wq sq => ow_move rfl ⟨rfl, rfl⟩) ?_
      refine wi_take 6 rfl (by kernel_rfl) rfl (by kernel_rfl) (listed' := #[true, true, false, false, true, true, true, false, false, false, false, false, false, false]) rfl (fun wq sq => ow_fieldAddrB off110_3 rfl rfl ⟨rfl, rfl⟩) ?_
      refine wi_take 7 rfl (by kernel_rfl) rfl (by kernel_rfl) (listed' := #[true, true, false, false, true, true, true, true, false, false, false, false, false, false]) rfl (fun wq sq => ow_fieldAddrB off108_3 rfl rfl ⟨rfl, rfl⟩) ?_
      refine wi_take 8 rfl (by kernel_rfl) rfl (by kernel_rfl) (listed' := #[true, true, false, false, true, true, true, true, true, false, false, false, false, false]) rfl (fun wq sq => ow_loadB sq ti2 rfl rfl ⟨rfl, rfl⟩) ?_
      refine wi_take 9 rfl (by kernel_rfl) rfl (by kernel_rfl) (listed' := #[true, true, false, false, true, true, true, true, true, true, false, false, false, false]) rfl (fun wq sq => ow_add rfl rfl (w64 (by omega)) ⟨rfl, rfl⟩) ?_
      refine wi_two 2 10 rfl rfl rfl rfl (by kernel_rfl) (listed' := #[true, true, true, false, true, true, true, true, true, true, false, false, false, false]) (listed'' := #[true, true, false, false, true, true, true, true, true, true, true, false, false, false]) rfl rfl bY ?_ ?_
      · skip
        refine (ow_buildSlice el22 ti2 rfl rfl rfl rfl rfl ?_)
        intro g17 w19 eg17 oTS bbg17 x18 zg17
        replace oTS := Own.low oTS X.size
        replace oS := oS.ext x18
        replace oE := oE.ext x18
        replace oL := oL.ext x18
        replace hm := hm.ext x18
        replace b1 := b1.ext x18
        replace bY := bY.ext x18
        replace X := Ext.trans X x18; clear x18
        refine wi_two 3 10 rfl rfl rfl rfl (by kernel_rfl) (listed' := #[true, true, true, true, true, true, true, true, true, true, false, false, false, false]) (listed'' := #[true, true, true, false, true, true, true, true, true, true, true, false, false, false]) rfl rfl bY ?_ ?_
        · skip
          have UE1 := fun g hg => (Own.lt oE (g := g) hg).2
          have UL1 := fun g hg => (Own.lt oL (g := g) hg).2
          refine (ow_appendW (ts := #[]) oS X.size oTS.sl (by first | rfl | simp) (by first | exact List.all_eq_true.1 rfl | simp [Value.oneCell']) el22 ti2 rfl rfl rfl rfl (by omega) (by omega) ?_)
          intro AoS2 coS2 w21 oS2 hg20 hW1
          replace oE := oE.grown hg20 dSE
          replace oL := oL.grown hg20 dSL
          replace hm := hm.grown hg20 (fun g hg => Nat.le_trans Bhm (Own.lt oS hg).1)
          replace b1 := b1.grown hg20 (fun h => Own.neT oS b1 (by decide) h.symm)
          replace bY := bY.grown hg20 (fun h => Own.neT oS bY (by decide) h.symm)
          replace X := X.grown hg20 X.size (fun g hg => (Own.lt oS hg).1)
          clear hg20
          replace dSE := apart_l dSE hW1 UE1
          replace dSL := apart_l dSL hW1 UL1
          have US0 := fun g hg => (Own.lt oS (g := g) hg).2
          refine wi_one 10 rfl rfl (by kernel_rfl) (listed' := #[true, true, true, true, true, true, true, true, true, true, true, false, false, false]) rfl bY (ow_buildSlice el22 ti2 rfl rfl rfl rfl rfl ?_)
          intro g22 w24 eg22 oTE bbg22 x23 zg22
          replace oTE := Own.low oTE (Nat.le_refl _)
          replace oE := oE.ext x23
          replace oL := oL.ext x23
          replace hm := hm.ext x23
          replace b1 := b1.ext x23
          replace bY := bY.ext x23
          replace oS2 := oS2.ext x23
          replace X := Ext.trans X x23; clear x23
          have US2 := fun g hg => (Own.lt oS2 (g := g) hg).2
          have UL2 := fun g hg => (Own.lt oL (g := g) hg).2
          refine wi_one 11 rfl rfl (by kernel_rfl) (listed' := #[true, true, true, true, true, true, true, true, true, true, true, true, false, false]) rfl bY (ow_appendW (ts := #[]) oE X.size oTE.sl (by first | rfl | simp) (by first | exact List.all_eq_true.1 rfl | simp [Value.oneCell']) el22 ti2 rfl rfl rfl rfl (by omega) (by omega) ?_)
          intro AoE2 coE2 w26 oE2 hg25 hW2
          replace oL := oL.grown hg25 dEL
          replace hm := hm.grown hg25 (fun g hg => Nat.le_trans Bhm (Own.lt oE hg).1)
          replace b1 := b1.grown hg25 (fun h => Own.neT oE b1 (by decide) h.symm)
          replace bY := bY.grown hg25 (fun h => Own.neT oE bY (by decide) h.symm)
          replace oS2 := oS2.grown hg25 (fun g h1 h2 => dSE g h2 h1)
          replace X := X.grown hg25 X.size (fun g hg => (Own.lt oE hg).1)
          clear hg25
          replace dSE := apart_r dSE hW2 US2
          replace dEL := apart_l dEL hW2 UL2
          refine wi_take 12 rfl (by kernel_rfl) rfl (by kernel_rfl) (listed' := #[true, true, true, true, true, true, true, true, true, true, true, true, true, false]) rfl (fun wq sq => ow_assign rfl ⟨rfl, rfl⟩) ?_
          refine wi_take 13 rfl (by kernel_rfl) rfl (by kernel_rfl) (listed' := #[true, true, true, true, true, true, true, true, true, true, true, true, true, true]) rfl (fun wq sq => ow_assign rfl ⟨rfl, rfl⟩) ?_
          refine wi_done rfl bY (fun aj fj => ⟨_, fj, ?_⟩)
          refine tq_n ?_
          refine c_region ?_
          refine ops_cons rfl (ow_move rfl ?_)
          refine ops_cons rfl (ow_fieldAddrB off110_3 rfl rfl ?_)
          refine ops_cons rfl (ow_fieldAddrB off108_3 rfl rfl ?_)
          refine ops_cons rfl (ow_loadB bY ti2 rfl rfl ?_)
          refine ops_cons rfl (ow_add rfl rfl (w64 (by omega)) ?_)
          refine ops_cons rfl (ow_assign rfl ?_)
          refine ops_nil ?_
          refine bq_n ?_
          refine tq_n ?_
          refine c_region ?_
          refine ops_cons rfl (ow_add rfl rfl (w64 (by omega)) ?_)
          refine ops_cons rfl (ow_move rfl ?_)
          refine ops_nil ?_
          refine tq_n ⟨(k + 1, a + x.desc.duration, ys ++ [a], es ++ [a + x.desc.duration], n1 + 1, AoS2, coS2, n2 + 1, AoE2, coE2), (.cons rfl (.cons rfl (.cons rfl (.cons rfl (.cons rfl (.cons rfl (.cons rfl (.cons rfl (.cons rfl (.nil _)))))))))), ?_, ?_⟩
          · exact ⟨by omega, by omega, ⟨by simp [hn.1], by simp [hn.2]⟩, by omega, (by rw [hi, dx, sendG, if_pos he]; simp), dSE, dSL, dEL, oS2.to (snoc eI ys _).symm, oE2.to (snoc eI es _).symm, oL, hm, b1, X⟩
          · first | omega | (dsimp only; omega)
        · skip
          have US0 := fun g hg => (Own.lt oS (g := g) hg).2
          refine (ow_buildSlice el22 ti2 rfl rfl rfl rfl rfl ?_)
          intro g27 w29 eg27 oTE bbg27 x28 zg27
          replace oTE := Own.low oTE (Nat.le_refl _)
          replace oS := oS.ext x28
          replace oE := oE.ext x28
          replace oL := oL.ext x28
          replace hm := hm.ext x28
          replace b1 := b1.ext x28
          replace bY := bY.ext x28
          replace oTS := oTS.ext x28
          replace X := Ext.trans X x28; clear x28
          have UE1 := fun g hg => (Own.lt oE (g := g) hg).2
          have UL1 := fun g hg => (Own.lt oL (g := g) hg).2
          refine wi_one 3 rfl rfl (by kernel_rfl) (listed' := #[true, true, true, true, true, true, true, true, true, true, true, false, false, false]) rfl bY (ow_appendW (ts := #[]) oS X.size oTS.sl (by first | rfl | simp) (by first | exact List.all_eq_true.1 rfl | simp [Value.oneCell']) el22 ti2 rfl rfl rfl rfl (by omega) (by omega) ?_)
          intro AoS2 coS2 w31 oS2 hg30 hW1
          replace oE := oE.grown hg30 dSE
          replace oL := oL.grown hg30 dSL
          replace hm := hm.grown hg30 (fun g hg => Nat.le_trans Bhm (Own.lt oS hg).1)
          replace b1 := b1.grown hg30 (fun h => Own.neT oS b1 (by decide) h.symm)
          replace bY := bY.grown hg30 (fun h => Own.neT oS bY (by decide) h.symm)
          replace oTE := oTE.grown hg30 (fun g h1 h2 => absurd (Own.lt oTE h2).1 (by have := US0 g h1; omega))
          replace X := X.grown hg30 X.size (fun g hg => (Own.lt oS hg).1)
          clear hg30
          replace dSE := apart_l dSE hW1 UE1
          replace dSL := apart_l dSL hW1 UL1
          have US2 := fun g hg => (Own.lt oS2 (g := g) hg).2
          have UL2 := fun g hg => (Own.lt oL (g := g) hg).2
          refine wi_one 11 rfl rfl (by kernel_rfl) (listed' := #[true, true, true, true, true, true, true, true, true, true, true, true, false, false]) rfl bY (ow_appendW (ts := #[]) oE X.size oTE.sl (by first | rfl | simp) (by first | exact List.all_eq_true.1 rfl | simp [Value.oneCell']) el22 ti2 rfl rfl rfl rfl (by omega) (by omega) ?_)
          intro AoE2 coE2 w33 oE2 hg32 hW2
          replace oL := oL.grown hg32 dEL
          replace hm := hm.grown hg32 (fun g hg => Nat.le_trans Bhm (Own.lt oE hg).1)
          replace b1 := b1.grown hg32 (fun h => Own.neT oE b1 (by decide) h.symm)
          replace bY := bY.grown hg32 (fun h => Own.neT oE bY (by decide) h.symm)
          replace oS2 := oS2.grown hg32 (fun g h1 h2 => dSE g h2 h1)
          replace X := X.grown hg32 X.size (fun g hg => (Own.lt oE hg).1)
          clear hg32
          replace dSE := apart_r dSE hW2 US2
          replace dEL := apart_l dEL hW2 UL2
          refine wi_take 12 rfl (by kernel_rfl) rfl (by kernel_rfl) (listed' := #[true, true, true, true, true, true, true, true, true, true, true, true, true, false]) rfl (fun wq sq => ow_assign rfl ⟨rfl, rfl⟩) ?_
          refine wi_take 13 rfl (by kernel_rfl) rfl (by kernel_rfl) (listed' := #[true, true, true, true, true, true, true, true, true, true, true, true, true, true]) rfl (fun wq sq => ow_assign rfl ⟨rfl, rfl⟩) ?_
          refine wi_done rfl bY (fun aj fj => ⟨_, fj, ?_⟩)
          refine tq_n ?_
          refine c_region ?_
          refine ops_cons rfl (ow_move rfl ?_)
          refine ops_cons rfl (ow_fieldAddrB off110_3 rfl rfl ?_)
          refine ops_cons rfl (ow_fieldAddrB off108_3 rfl rfl ?_)
          refine ops_cons rfl (ow_loadB bY ti2 rfl rfl ?_)
          refine ops_cons rfl (ow_add rfl rfl (w64 (by omega)) ?_)
          refine ops_cons rfl (ow_assign rfl ?_)
          refine ops_nil ?_
          refine bq_n ?_
          refine tq_n ?_
          refine c_region ?_
          refine ops_cons rfl (ow_add rfl rfl (w64 (by omega)) ?_)
          refine ops_cons rfl (ow_move rfl ?_)
          refine ops_nil ?_
          refine tq_n ⟨(k + 1, a + x.desc.duration, ys ++ [a], es ++ [a + x.desc.duration], n1 + 1, AoS2, coS2, n2 + 1, AoE2, coE2), (.cons rfl (.cons rfl (.cons rfl (.cons rfl (.cons rfl (.cons rfl (.cons rfl (.cons rfl (.cons rfl (.nil _)))))))))), ?_, ?_⟩
          · exact ⟨by omega, by omega, ⟨by simp [hn.1], by simp [hn.2]⟩, by omega, (by rw [hi, dx, sendG, if_pos he]; simp), dSE, dSL, dEL, oS2.to (snoc eI ys _).symm, oE2.to (snoc eI es _).symm, oL, hm, b1, X⟩
          · first | omega | (dsimp only; omega)
      · skip
        have US0 := fun g hg => (Own.lt oS (g := g) hg).2
        refine (ow_buildSlice el22 ti2 rfl rfl rfl rfl rfl ?_)
        intro g34 w36 eg34 oTE bbg34 x35 zg34
        replace oTE := Own.low oTE (Nat.le_refl _)
        replace oS := oS.ext x35
        replace oE := oE.ext x35
        replace oL := oL.ext x35
        replace hm := hm.ext x35
        replace b1 := b1.ext x35
        replace bY := bY.ext x35
        replace X := Ext.trans X x35; clear x35
        refine wi_one 2 rfl rfl (by kernel_rfl) (listed' := #[true, true, true, false, true, true, true, true, true, true, true, false, false, false]) rfl bY (ow_buildSlice el22 ti2 rfl rfl rfl rfl rfl ?_)
        intro g37 w39 eg37 oTS bbg37 x38 zg37
        replace oTS := Own.low oTS X.size
        replace oS := oS.ext x38
        replace oE := oE.ext x38
        replace oL := oL.ext x38
        replace hm := hm.ext x38
        replace b1 := b1.ext x38
        replace bY := bY.ext x38
        replace oTE := oTE.ext x38
        replace X := Ext.trans X x38; clear x38
        have UE1 := fun g hg => (Own.lt oE (g := g) hg).2
        have UL1 := fun g hg => (Own.lt oL (g := g) hg).2
        refine wi_one 3 rfl rfl (by kernel_rfl) (listed' := #[true, true, true, true, true, true, true, true, true, true, true, false, false, false]) rfl bY (ow_appendW (ts := #[]) oS X.size oTS.sl (by first | rfl | simp) (by first | exact List.all_eq_true.1 rfl | simp [Value.oneCell']) el22 ti2 rfl rfl rfl rfl (by omega) (by omega) ?_)
        intro AoS2 coS2 w41 oS2 hg40 hW1
        replace oE := oE.grown hg40 dSE
        replace oL := oL.grown hg40 dSL
        replace hm := hm.grown hg40 (fun g hg => Nat.le_trans Bhm (Own.lt oS hg).1)
        replace b1 := b1.grown hg40 (fun h => Own.neT oS b1 (by decide) h.symm)
        replace bY := bY.grown hg40 (fun h => Own.neT oS bY (by decide) h.symm)
        replace oTE := oTE.grown hg40 (fun g h1 h2 => absurd (Own.lt oTE h2).1 (by have := US0 g h1; omega))
        replace X := X.grown hg40 X.size (fun g hg => (Own.lt oS hg).1)
        clear hg40
        replace dSE := apart_l dSE hW1 UE1
        replace dSL := apart_l dSL hW1 UL1
        have US2 := fun g hg => (Own.lt oS2 (g := g) hg).2
        have UL2 := fun g hg => (Own.lt oL (g := g) hg).2
        refine wi_one 11 rfl rfl (by kernel_rfl) (listed' := #[true, true, true, true, true, true, true, true, true, true, true, true, false, false]) rfl bY (ow_appendW (ts := #[]) oE X.size oTE.sl (by first | rfl | simp) (by first | exact List.all_eq_true.1 rfl | simp [Value.oneCell']) el22 ti2 rfl rfl rfl rfl (by omega) (by omega) ?_)
        intro AoE2 coE2 w43 oE2 hg42 hW2
        replace oL := oL.grown hg42 dEL
        replace hm := hm.grown hg42 (fun g hg => Nat.le_trans Bhm (Own.lt oE hg).1)
        replace b1 := b1.grown hg42 (fun h => Own.neT oE b1 (by decide) h.symm)
        replace bY := bY.grown hg42 (fun h => Own.neT oE bY (by decide) h.symm)
        replace oS2 := oS2.grown hg42 (fun g h1 h2 => dSE g h2 h1)
        replace X := X.grown hg42 X.size (fun g hg => (Own.lt oE hg).1)
        clear hg42
        replace dSE := apart_r dSE hW2 US2
        replace dEL := apart_l dEL hW2 UL2
        refine wi_take 12 rfl (by kernel_rfl) rfl (by kernel_rfl) (listed' := #[true, true, true, true, true, true, true, true, true, true, true, true, true, false]) rfl (fun wq sq => ow_assign rfl ⟨rfl, rfl⟩) ?_
        refine wi_take 13 rfl (by kernel_rfl) rfl (by kernel_rfl) (listed' := #[true, true, true, true, true, true, true, true, true, true, true, true, true, true]) rfl (fun wq sq => ow_assign rfl ⟨rfl, rfl⟩) ?_
        refine wi_done rfl bY (fun aj fj => ⟨_, fj, ?_⟩)
        refine tq_n ?_
        refine c_region ?_
        refine ops_cons rfl (ow_move rfl ?_)
        refine ops_cons rfl (ow_fieldAddrB off110_3 rfl rfl ?_)
        refine ops_cons rfl (ow_fieldAddrB off108_3 rfl rfl ?_)
        refine ops_cons rfl (ow_loadB bY ti2 rfl rfl ?_)
        refine ops_cons rfl (ow_add rfl rfl (w64 (by omega)) ?_)
        refine ops_cons rfl (ow_assign rfl ?_)
        refine ops_nil ?_
        refine bq_n ?_
        refine tq_n ?_
        refine c_region ?_
        refine ops_cons rfl (ow_add rfl rfl (w64 (by omega)) ?_)
        refine ops_cons rfl (ow_move rfl ?_)
        refine ops_nil ?_
        refine tq_n ⟨(k + 1, a + x.desc.duration, ys ++ [a], es ++ [a + x.desc.duration], n1 + 1, AoS2, coS2, n2 + 1, AoE2, coE2), (.cons rfl (.cons rfl (.cons rfl (.cons rfl (.cons rfl (.cons rfl (.cons rfl (.cons rfl (.cons rfl (.nil _)))))))))), ?_, ?_⟩
        · exact ⟨by omega, by omega, ⟨by simp [hn.1], by simp [hn.2]⟩, by omega, (by rw [hi, dx, sendG, if_pos he]; simp), dSE, dSL, dEL, oS2.to (snoc eI ys _).symm, oE2.to (snoc eI es _).symm, oL, hm, b1, X⟩
        · first | omega | (dsimp only; omega)
    · skip
      refine ops_nil ?_
      refine c_false rfl ?_
      refine c_skip ?_
      refine tq_n ?_
      refine c_region ?_
      refine ops_cons rfl (ow_move rfl ?_)
      refine ops_cons rfl (ow_fieldAddrB off110_3 rfl rfl ?_)
      refine ops_cons rfl (ow_fieldAddrB off108_3 rfl rfl ?_)
      refine ops_cons rfl (ow_loadB bY ti2 rfl rfl ?_)
      refine ops_cons rfl (ow_add rfl rfl (w64 (by omega)) ?_)
      refine ops_cons rfl (ow_assign rfl ?_)
      refine ops_nil ?_
      refine bq_n ?_
      refine tq_n ?_
      refine c_region ?_
      refine ops_cons rfl (ow_add rfl rfl (w64 (by omega)) ?_)
      refine ops_cons rfl (ow_move rfl ?_)
      refine ops_nil ?_
      refine tq_n ⟨(k + 1, a + x.desc.duration, ys, es, n1, A1, c1, n2, A2, c2), (.cons rfl (.cons rfl (.cons rfl (.cons rfl (.cons rfl (.cons rfl (.cons rfl (.cons rfl (.cons rfl (.nil _)))))))))), ?_, ?_⟩
      · exact ⟨by omega, by omega, hn, by omega, (by rw [hi, dx, sendG, if_neg he]), dSE, dSL, dEL, oS, oE, oL, hm, b1, X⟩
      · first | omega | (dsimp only; omega)
  · skip
    refine ops_nil ?_
    refine c_seq ?_
    refine c_false rfl ?_
    refine c_exit ?_
    refine tq_e ?_
    refine tq_e ?_
    refine bq_e ?_
    refine tq_n ?_
    refine c_seqR ?_
    refine ops_cons rfl (ow_move rfl ?_)
    refine ops_cons rfl (ow_move rfl ?_)
    refine ops_cons rfl (ow_assign rfl ?_)
    refine ops_cons rfl (ow_assign rfl ?_)
    refine ops_nil ?_
    refine c_ret ?_
    refine fin_ret2 rfl rfl rfl ?_
    have e : sendG node 0 (ofMode mode m.ss) = ys := by rw [hi, drop_end hk]; simp [sendG]
    rw [e, ← hn.1]; exact ⟨A1, c1, _, rfl, oS, X⟩

theorem iSend_c (m : MedlI) (B : Nat) (mode node : Int) (w : World) (hm : Med B w m) (hz : m.small) :
    Calls Tryz.prog 21 #[.agg m.cells.toArray, .int .i64 mode, .int .i64 node] w (Ret fun v w' => ∃ A' c', v = .tuple #[.slice A' (sendT m.d mode node).1.length c', .int .i64 (sendT m.d mode node).2] ∧ Own w' w.heap.size 2 1 A' (sendT m.d mode node).1.length c' ((sendT m.d mode node).1.flatMap eI) ∧ Ext w w') := by
  have hls := hz.ls
  have hlm := hz.lm
  have hln := hz.ln
  have Bhm := hm.1
  have X := Ext.refl w
  refine calls_of (args := [.agg m.cells.toArray, .int .i64 mode, .int .i64 node]) Tryz.func21 Tryz.ntmps21 rfl rfl ?_
  refine c_seqR ?_
  refine ops_cons rfl (ow_box rfl rfl ?_)
  intro g4 w3 eg4 b1 x2 zg4
  have lg4 : w.heap.size ≤ g4 := Nat.le_trans X.size (Nat.le_of_eq eg4.symm)
  have pg4hm := Nat.le_trans hm.1 (Nat.le_of_eq eg4.symm)
  replace hm := hm.ext x2
  replace X := Ext.trans X x2; clear x2
  refine ops_cons rfl (ow_assign rfl ?_)
  refine ops_cons rfl (ow_assign rfl ?_)
  refine ops_nil ?_
  refine c_seq ?_
  refine c_seqR ?_
  refine ops_cons rfl (ow_loadAB b1 ti27 rfl rfl ?_)
  refine ops_cons rfl (ow_move rfl ?_)
  refine ops_cons rfl (ow_move rfl ?_)
  refine ops_cons rfl (ow_buildSlice el22 ti2 rfl rfl rfl rfl rfl ?_)
  intro g5 w7 eg5 oZ bbg5 x6 zg5
  replace oZ := Own.low oZ X.size
  replace hm := hm.ext x6
  replace b1 := b1.ext x6
  replace X := Ext.trans X x6; clear x6
  replace oZ := oZ.to (cs' := ([node] : List Int).flatMap eI) rfl
  refine ops_cons rfl (ow_call ent58 rfl (ret_mono (nodesCode_c m _ mode _ _ _ [node] _ hm hz oZ.sl (by simp)) ?_))
  rintro _ w9 ⟨rfl, x8⟩
  replace hm := hm.ext x8
  replace b1 := b1.ext x8
  replace oZ := oZ.ext x8
  replace X := Ext.trans X x8; clear x8
  refine ops_cons rfl (ow_assign rfl ?_)
  refine ops_nil ?_
  refine c_seqR ?_
  refine ops_cons rfl (ow_move rfl ?_)
  refine ops_cons rfl (ow_neq2 rfl rfl (fun h1 => ?_) (fun h1 => ?_))
  · skip
    refine ops_nil ?_
    refine c_true rfl ?_
    refine c_seqR ?_
    refine ops_cons rfl (ow_move rfl ?_)
    refine ops_cons rfl (ow_assign rfl ?_)
    refine ops_cons rfl (ow_assign rfl ?_)
    refine ops_nil ?_
    refine c_ret ?_
    refine tq_r ?_
    refine fin_ret2 rfl rfl rfl ?_
    first
    | (rw [sendT_n h1]; exact ⟨none, 0, rfl, Own.nil_ _ _ _ _, X⟩)
    | (rw [sendT_0 hs2.1 hs2.2, show (sendS m.d.ss mode node m.d.ss, (0 : Int)) = (sendG node 0 (ofMode mode m.ss), 0) from congrArg (fun z => (z, (0 : Int))) hse]; exact ⟨_, _, rfl, oR, X⟩)
  · skip
    have hS0 : sendC m.d mode node = 0 := by rw [← nodesC_one]; omega
    have hs2 := sendC_zero.1 hS0
    have hm0 := modeC_zero.1 hs2.1
    have wf := isMedl_iff.1 hm0.1
    have hok : ∀ x ∈ m.ss, slotOk x = true := isST_all wf.st
    obtain ⟨k0, x0, hkm, hx0⟩ := mode_get hm0.2
    have hxi := isMT_in wf.mt x0 (List.mem_of_getElem? hx0)
    have hse : sendS m.ss mode node m.ss = sendG node 0 (ofMode mode m.ss) := by rw [hkm]; exact send_eq wf.co hx0 hxi.2.1 node
    clear hkm
    refine ops_nil ?_
    refine c_false rfl ?_
    refine c_skip ?_
    refine tq_n ?_
    refine c_seqR ?_
    refine ops_cons rfl (ow_loadAB b1 ti27 rfl rfl ?_)
    refine ops_cons rfl (ow_move rfl ?_)
    refine ops_cons rfl (ow_move rfl ?_)
    refine ops_cons rfl (ow_call ent59 rfl (ret_mono (sending_c m _ mode node _ hm hz hok) ?_))
    rintro _ w11 ⟨A12, c13, vE, rfl, oR, x10⟩
    replace oR := Own.low oR X.size
    replace hm := hm.ext x10
    replace b1 := b1.ext x10
    replace oZ := oZ.ext x10
    replace X := Ext.trans X x10; clear x10
    refine ops_cons rfl (ow_move rfl ?_)
    refine ops_cons rfl (ow_extract rfl rfl ?_)
    refine ops_cons rfl (ow_extract rfl rfl ?_)
    refine ops_cons rfl (ow_assign rfl ?_)
    refine ops_cons rfl (ow_assign rfl ?_)
    refine ops_nil ?_
    refine c_seqR ?_
    refine ops_cons rfl (ow_move rfl ?_)
    refine ops_cons rfl (ow_assign rfl ?_)
    refine ops_cons rfl (ow_assign rfl ?_)
    refine ops_nil ?_
    refine c_ret ?_
    refine fin_ret2 rfl rfl rfl ?_
    first
    | (rw [sendT_n h1]; exact ⟨none, 0, rfl, Own.nil_ _ _ _ _, X⟩)
    | (rw [sendT_0 hs2.1 hs2.2, show (sendS m.d.ss mode node m.d.ss, (0 : Int)) = (sendG node 0 (ofMode mode m.ss), 0) from congrArg (fun z => (z, (0 : Int))) hse]; exact ⟨_, _, rfl, oR, X⟩)
end Go.Proofs.YthdeoagoehkcfaaGreatDoor
