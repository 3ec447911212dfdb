/- Texts of the seat that a law needs, put together. No condition. -/
import Derived.Test.YtdoibplhbdkapaaGreatDoorCEP21
import Derived.Test.YtdoibplhbdkapaaGreatDoorCEP3
import Derived.Test.YtdoibplhbdkapaaGreatDoorCEP5
import Derived.Test.YtdoibplhbdkapaaGreatDoorCEP4
namespace Go.Proofs.YtdoibplhbdkapaaGreatDoor
open Go.RowKit
set_option linter.unusedVariables false
set_option linter.unusedSimpArgs false
set_option maxRecDepth 20000
theorem findNode1_c (x : NodeI) (g1 : Nat) (z : Int) (w : World) (q : Blk w g1 2 [.int .i64 z]) :
    Calls Tryz.prog 250 #[.agg x.cells.toArray, .pointer (some ⟨g1, 0, none⟩)] w (Ret fun v w' => v = .bool (hitN z x) ∧ Ext w w') := by
  have X := Ext.refl w
  refine calls_of (args := [.agg x.cells.toArray, .pointer (some ⟨g1, 0, none⟩)]) Tryz.func250 Tryz.ntmps250 rfl rfl ?_
  refine c_seqR ?_
  refine ops_cons rfl (ow_box rfl rfl ?_)
  intro g4 w3 eg4 b1 x2 zg4
  have lg4 : w.heap.size ≤ g4 := Nat.le_trans X.size (Nat.le_of_eq eg4.symm)
  have ng4q := Nat.lt_of_lt_of_eq q.lt eg4.symm
  replace q := q.ext x2
  replace X := Ext.trans X x2; clear x2
  refine ops_cons rfl (ow_assign rfl ?_)
  refine ops_nil ?_
  refine c_seqR ?_
  refine ops_cons rfl (ow_fieldAddrB off59_0 rfl rfl ?_)
  refine ops_cons rfl (ow_loadB b1 ti2 rfl rfl ?_)
  refine ops_cons rfl (ow_loadB q ti2 rfl rfl ?_)
  refine ops_cons rfl (ow_eql rfl rfl ?_)
  refine ops_cons rfl (ow_assign rfl ?_)
  refine ops_nil ?_
  refine c_ret ?_
  refine fin_ret1 rfl rfl ?_
  exact ⟨by simp [hitN, *], X⟩

theorem idxId_c (A : Option Addr) (B c : Nat) (xs : List NodeI) (g1 : Nat) (z : Int) (w : World) (hs : Sl B w A (xs.flatMap NodeI.cells)) (hl : xs.length ≤ 1048576) (q : Blk w g1 2 [.int .i64 z]) :
    Calls Tryz.prog 249 #[.slice A xs.length c, .func (.func 250) #[] #[.pointer (some ⟨g1, 0, none⟩)]] w (Ret fun v w' => v = .int .i64 (findN z 0 xs) ∧ Ext w w') := by
  have Bhs := hs.1
  have X := Ext.refl w
  refine calls_of (args := [.slice A xs.length c, .func (.func 250) #[] #[.pointer (some ⟨g1, 0, none⟩)]]) Tryz.func249 Tryz.ntmps249 rfl rfl ?_
  refine c_seqR ?_
  refine ops_cons rfl (ow_assign rfl ?_)
  refine ops_nil ?_
  refine c_seq ?_
  refine c_seqR ?_
  refine ops_cons rfl (ow_move rfl ?_)
  refine ops_cons rfl (ow_len Tryz.underlying24 rfl ?_)
  refine ops_cons rfl (ow_move rfl ?_)
  refine ops_nil ?_
  refine c_block ?_
  refine c_loop (G := Nat) (fun k => [(0, .slice A xs.length c), (1, .func (.func 250) #[] #[.pointer (some ⟨g1, 0, none⟩)]), (7, .int .i64 (xs.length : Nat)), (8, .int .i64 (k : Nat))]) (fun k wr => k ≤ xs.length ∧ findN z 0 xs = findN z (k : Int) (xs.drop k) ∧ Sl B wr A (xs.flatMap NodeI.cells) ∧ Blk wr g1 2 [.int .i64 z] ∧ Ext w wr) (fun k => xs.length - k) 0 (.cons rfl (.cons rfl (.cons rfl (.cons rfl (.nil _))))) ?_ ?_
  · exact ⟨by omega, rfl, hs, q, X⟩
  clear hs q
  clear X
  rintro k wr ⟨hk0, hi, hs, q, X⟩
  refine c_seqR ?_
  refine ops_cons rfl (ow_lss2 rfl rfl (fun hk => ?_) (fun hk => ?_))
  obtain ⟨x, hx, dx⟩ := drop_at' hk
  refine ops_nil ?_
  refine c_seq ?_
  refine c_true rfl ?_
  refine c_skip ?_
  refine tq_n ?_
  refine c_seq ?_
  refine c_block ?_
  refine c_seqR ?_
  refine ops_cons rfl (ow_move rfl ?_)
  refine ops_cons rfl (ow_assign rfl ?_)
  refine ops_nil ?_
  refine c_seqR ?_
  refine ops_cons rfl (ow_move rfl ?_)
  refine ops_cons rfl (ow_move rfl ?_)
  refine ops_cons rfl (ow_move rfl ?_)
  refine ops_cons rfl (ow_indexT hs NodeI.len rfl el24 rfl rfl rfl hx rfl ?_)
  refine ops_cons rfl (ow_loadTA hs NodeI.len hx ti59 rfl ?_)
  refine ops_cons rfl (ow_callVLB ent250 rfl rfl (findNode1_c _ _ _ _ q) (fun w2 hF x1 => ?_) (fun w2 hF x1 => ?_))
  replace hs := hs.ext x1
  replace q := q.ext x1
  replace X := Ext.trans X x1; clear x1
  refine ops_nil ?_
  refine c_true rfl ?_
  refine c_seqR ?_
  refine ops_cons rfl (ow_move rfl ?_)
  refine ops_cons rfl (ow_assign rfl ?_)
  refine ops_nil ?_
  refine c_ret ?_
  refine bq_r ?_
  refine tq_r ?_
  refine tq_r ?_
  refine bq_r ?_
  refine tq_r ?_
  refine fin_ret1 rfl rfl ?_
  · skip
    refine ⟨congrArg (Value.int .i64) ?_, X⟩
    first | (rw [hi, drop_end hk]; rfl) | (rw [hi, dx, findN, if_pos hF])
  replace hs := hs.ext x1
  replace q := q.ext x1
  replace X := Ext.trans X x1; clear x1
  refine ops_nil ?_
  refine c_false rfl ?_
  refine c_skip ?_
  refine bq_n ?_
  refine tq_n ?_
  refine c_region ?_
  refine ops_cons rfl (ow_add rfl rfl (w64 (by omega)) ?_)
  refine ops_cons rfl (ow_move rfl ?_)
  refine ops_nil ?_
  refine tq_n ⟨k + 1, (.cons rfl (.cons rfl (.cons rfl (.cons rfl (.nil _))))), ?_, ?_⟩
  · exact ⟨by omega, (by rw [hi, dx, findN, if_neg (by simp [*])]; rfl), hs, q, X⟩
  · first | omega | (dsimp only; omega)
  refine ops_nil ?_
  refine c_seq ?_
  refine c_false rfl ?_
  refine c_exit ?_
  refine tq_e ?_
  refine tq_e ?_
  refine bq_e ?_
  refine tq_n ?_
  refine c_seqR ?_
  refine ops_cons rfl (ow_assign rfl ?_)
  refine ops_nil ?_
  refine c_ret ?_
  refine fin_ret1 rfl rfl ?_
  · skip
    refine ⟨congrArg (Value.int .i64) ?_, X⟩
    first | (rw [hi, drop_end hk]; rfl) | (rw [hi, dx, findN, if_pos hF])

theorem findNode_c (A : Option Addr) (B c : Nat) (xs : List NodeI) (z : Int) (w : World) (hs : Sl B w A (xs.flatMap NodeI.cells)) (hl : xs.length ≤ 1048576) :
    Calls Tryz.prog 201 #[.slice A xs.length c, .int .i64 z] w (Ret fun v w' => v = .int .i64 (findN z 0 xs) ∧ Ext w w') := by
  have Bhs := hs.1
  have X := Ext.refl w
  refine calls_of (args := [.slice A xs.length c, .int .i64 z]) Tryz.func201 Tryz.ntmps201 rfl rfl ?_
  refine c_seqR ?_
  refine ops_cons rfl (ow_box rfl rfl ?_)
  intro g4 w3 eg4 b1 x2 zg4
  have lg4 : w.heap.size ≤ g4 := Nat.le_trans X.size (Nat.le_of_eq eg4.symm)
  have pg4hs := Nat.le_trans hs.1 (Nat.le_of_eq eg4.symm)
  replace hs := hs.ext x2
  replace X := Ext.trans X x2; clear x2
  refine ops_cons rfl (ow_assign rfl ?_)
  refine ops_nil ?_
  refine c_seqR ?_
  refine ops_cons rfl (ow_move rfl ?_)
  refine ops_cons rfl (ow_makeFunc rfl ?_)
  refine ops_cons rfl (ow_call ent249 rfl (ret_mono (idxId_c _ _ _ _ _ _ _ hs hl b1) ?_))
  rintro _ w6 ⟨rfl, x5⟩
  replace hs := hs.ext x5
  replace b1 := b1.ext x5
  replace X := Ext.trans X x5; clear x5
  refine ops_cons rfl (ow_assign rfl ?_)
  refine ops_nil ?_
  refine c_ret ?_
  refine fin_ret1 rfl rfl ?_
  exact ⟨by rfl, X⟩

theorem nodesCode_c (m : MedlI) (B : Nat) (mode : Int) (A : Option Addr) (B2 c : Nat) (zs : List Int) (w : World) (hm : Med B w m) (hz : m.small) (hs : Sl B2 w A (zs.flatMap eI)) (hzl : zs.length ≤ 1048576) :
    Calls Tryz.prog 124 #[.agg m.cells.toArray, .int .i64 mode, .slice A zs.length c] w (Ret fun v w' => v = .int .i64 (nodesC m.d mode zs) ∧ Ext w w') := by
  have hls := hz.ls
  have hlm := hz.lm
  have hln := hz.ln
  have Bhm := hm.1
  have Bhs := hs.1
  have X := Ext.refl w
  refine calls_of (args := [.agg m.cells.toArray, .int .i64 mode, .slice A zs.length c]) Tryz.func124 Tryz.ntmps124 rfl rfl ?_
  refine c_seqR ?_
  refine ops_cons rfl (ow_box rfl rfl ?_)
  intro g4 w3 eg4 b1 x2 zg4
  have lg4 : w.heap.size ≤ g4 := Nat.le_trans X.size (Nat.le_of_eq eg4.symm)
  have pg4hm := Nat.le_trans hm.1 (Nat.le_of_eq eg4.symm)
  have pg4hs := Nat.le_trans hs.1 (Nat.le_of_eq eg4.symm)
  replace hm := hm.ext x2
  replace hs := hs.ext x2
  replace X := Ext.trans X x2; clear x2
  refine ops_cons rfl (ow_assign rfl ?_)
  refine ops_nil ?_
  refine c_seq ?_
  refine c_seqR ?_
  refine ops_cons rfl (ow_loadAB b1 ti28 rfl rfl ?_)
  refine ops_cons rfl (ow_move rfl ?_)
  refine ops_cons rfl (ow_call ent119 rfl (ret_mono (modeCode_c m _ mode _ hm hz) ?_))
  rintro _ w6 ⟨rfl, x5⟩
  replace hm := hm.ext x5
  replace hs := hs.ext x5
  replace b1 := b1.ext x5
  replace X := Ext.trans X x5; clear x5
  refine ops_cons rfl (ow_assign rfl ?_)
  refine ops_nil ?_
  refine c_seqR ?_
  refine ops_cons rfl (ow_move rfl ?_)
  refine ops_cons rfl (ow_neq2 rfl rfl (fun hC => ?_) (fun hC => ?_))
  refine ops_nil ?_
  refine c_true rfl ?_
  refine c_seqR ?_
  refine ops_cons rfl (ow_move rfl ?_)
  refine ops_cons rfl (ow_assign rfl ?_)
  refine ops_nil ?_
  refine c_ret ?_
  refine tq_r ?_
  refine fin_ret1 rfl rfl ?_
  · skip
    refine ⟨congrArg (Value.int .i64) ?_, X⟩
    first
    | (rw [nodesC, if_neg hC]; done)
    | (rw [nodesC, if_pos hC0]
       show _ = if zs.all (idIn m.ns) = true then (0 : Int) else 2
       rw [if_neg (show ¬ zs.all (idIn m.ns) = true by rw [hi, dx, List.all_cons, hF2]; simp)])
    | (rw [nodesC, if_pos hC0]
       show _ = if zs.all (idIn m.ns) = true then (0 : Int) else 2
       rw [if_pos (show zs.all (idIn m.ns) = true by rw [hi, drop_end hk]; rfl)])
  have hC0 : modeC m.d mode = 0 := by omega
  refine ops_nil ?_
  refine c_false rfl ?_
  refine c_skip ?_
  refine tq_n ?_
  refine c_seq ?_
  refine c_seqR ?_
  refine ops_cons rfl (ow_move rfl ?_)
  refine ops_cons rfl (ow_len Tryz.underlying30 rfl ?_)
  refine ops_cons rfl (ow_move rfl ?_)
  refine ops_nil ?_
  refine c_block ?_
  refine c_loop (G := Nat) (fun k => [(3, .pointer (some ⟨g4, 0, none⟩)), (16, .slice A zs.length c), (17, .int .i64 (zs.length : Nat)), (18, .int .i64 (k : Nat))]) (fun k wr => k ≤ zs.length ∧ zs.all (idIn m.ns) = (zs.drop k).all (idIn m.ns) ∧ Med B wr m ∧ Sl B2 wr A (zs.flatMap eI) ∧ Blk wr g4 28 m.cells ∧ Ext w wr) (fun k => zs.length - k) 0 (.cons rfl (.cons rfl (.cons rfl (.cons rfl (.nil _))))) ?_ ?_
  · exact ⟨by omega, rfl, hm, hs, b1, X⟩
  clear hm hs b1
  clear X
  rintro k wr ⟨hk0, hi, hm, hs, b1, X⟩
  refine c_seqR ?_
  refine ops_cons rfl (ow_lss2 rfl rfl (fun hk => ?_) (fun hk => ?_))
  obtain ⟨x, hx, dx⟩ := drop_at' hk
  refine ops_nil ?_
  refine c_seq ?_
  refine c_true rfl ?_
  refine c_skip ?_
  refine tq_n ?_
  refine c_seq ?_
  refine c_block ?_
  refine c_seqR ?_
  refine ops_cons rfl (ow_indexT hs eI_len rfl el30 rfl rfl rfl hx rfl ?_)
  refine ops_cons rfl (ow_loadT hs eI_len hx ti2 rfl rfl rfl ?_)
  refine ops_cons rfl (ow_assign rfl ?_)
  refine ops_nil ?_
  refine c_seqR ?_
  refine ops_cons rfl (ow_fieldAddrB off28_1 rfl rfl ?_)
  refine ops_cons rfl (ow_loadB b1 ti24 rfl rfl ?_)
  refine ops_cons rfl (ow_move rfl ?_)
  refine ops_cons rfl (ow_call ent201 rfl (ret_mono (findNode_c _ _ _ m.ns x _ hm.sn hln) ?_))
  rintro _ w9 ⟨rfl, x7⟩
  replace hm := hm.ext x7
  replace hs := hs.ext x7
  replace b1 := b1.ext x7
  replace X := Ext.trans X x7; clear x7
  refine ops_cons rfl (ow_lss2 rfl rfl (fun hF => ?_) (fun hF => ?_))
  have hF2 := findN_lt.1 hF
  refine ops_nil ?_
  refine c_true rfl ?_
  refine c_seqR ?_
  refine ops_cons rfl (ow_assign rfl ?_)
  refine ops_nil ?_
  refine c_ret ?_
  refine bq_r ?_
  refine tq_r ?_
  refine tq_r ?_
  refine bq_r ?_
  refine tq_r ?_
  refine fin_ret1 rfl rfl ?_
  · skip
    refine ⟨congrArg (Value.int .i64) ?_, X⟩
    first
    | (rw [nodesC, if_neg hC]; done)
    | (rw [nodesC, if_pos hC0]
       show _ = if zs.all (idIn m.ns) = true then (0 : Int) else 2
       rw [if_neg (show ¬ zs.all (idIn m.ns) = true by rw [hi, dx, List.all_cons, hF2]; simp)])
    | (rw [nodesC, if_pos hC0]
       show _ = if zs.all (idIn m.ns) = true then (0 : Int) else 2
       rw [if_pos (show zs.all (idIn m.ns) = true by rw [hi, drop_end hk]; rfl)])
  have hF2 : idIn m.ns x = true := by
    cases e : idIn m.ns x
    · exact absurd (findN_lt.2 e) hF
    · rfl
  refine ops_nil ?_
  refine c_false rfl ?_
  refine c_skip ?_
  refine bq_n ?_
  refine tq_n ?_
  refine c_region ?_
  refine ops_cons rfl (ow_add rfl rfl (w64 (by omega)) ?_)
  refine ops_cons rfl (ow_move rfl ?_)
  refine ops_nil ?_
  refine tq_n ⟨k + 1, (.cons rfl (.cons rfl (.cons rfl (.cons rfl (.nil _))))), ?_, ?_⟩
  · exact ⟨by omega, (by rw [hi, dx, List.all_cons, hF2]; rfl), hm, hs, b1, X⟩
  · first | omega | (dsimp only; omega)
  refine ops_nil ?_
  refine c_seq ?_
  refine c_false rfl ?_
  refine c_exit ?_
  refine tq_e ?_
  refine tq_e ?_
  refine bq_e ?_
  refine tq_n ?_
  refine c_seqR ?_
  refine ops_cons rfl (ow_assign rfl ?_)
  refine ops_nil ?_
  refine c_ret ?_
  refine fin_ret1 rfl rfl ?_
  · skip
    refine ⟨congrArg (Value.int .i64) ?_, X⟩
    first
    | (rw [nodesC, if_neg hC]; done)
    | (rw [nodesC, if_pos hC0]
       show _ = if zs.all (idIn m.ns) = true then (0 : Int) else 2
       rw [if_neg (show ¬ zs.all (idIn m.ns) = true by rw [hi, dx, List.all_cons, hF2]; simp)])
    | (rw [nodesC, if_pos hC0]
       show _ = if zs.all (idIn m.ns) = true then (0 : Int) else 2
       rw [if_pos (show zs.all (idIn m.ns) = true by rw [hi, drop_end hk]; rfl)])

theorem sending_c (m : MedlI) (B : Nat) (mode node : Int) (w : World) (hm : Med B w m) (hz : m.small) (hok : ∀ x ∈ m.ss, slotOk x = true) :
    Calls Tryz.prog 125 #[.agg m.cells.toArray, .int .i64 mode, .int .i64 node] w (Ret fun v w' => ∃ A' c' vE, v = .tuple #[.slice A' (sendG node 0 (ofMode mode m.ss)).length c', vE] ∧ Own w' w.heap.size 2 1 A' (sendG node 0 (ofMode mode m.ss)).length c' ((sendG node 0 (ofMode mode m.ss)).flatMap eI) ∧ Ext w w') := by
  have hls := hz.ls
  have hlm := hz.lm
  have hln := hz.ln
  have Bhm := hm.1
  have X := Ext.refl w
  refine calls_of (args := [.agg m.cells.toArray, .int .i64 mode, .int .i64 node]) Tryz.func125 Tryz.ntmps125 rfl rfl ?_
  refine c_seqR ?_
  refine ops_cons rfl (ow_box rfl rfl ?_)
  intro g4 w3 eg4 b1 x2 zg4
  have lg4 : w.heap.size ≤ g4 := Nat.le_trans X.size (Nat.le_of_eq eg4.symm)
  have pg4hm := Nat.le_trans hm.1 (Nat.le_of_eq eg4.symm)
  replace hm := hm.ext x2
  replace X := Ext.trans X x2; clear x2
  refine ops_cons rfl (ow_assign rfl ?_)
  refine ops_cons rfl (ow_assign rfl ?_)
  refine ops_nil ?_
  refine c_seqR ?_
  refine ops_cons rfl (ow_buildSlice el30 ti2 rfl rfl rfl rfl rfl ?_)
  intro gS w6 egS oS bbgS x5 zgS
  replace oS := Own.low oS X.size
  replace hm := hm.ext x5
  replace b1 := b1.ext x5
  replace X := Ext.trans X x5; clear x5
  have UgS := fun g hg => (Own.lt oS (g := g) hg).2
  refine ops_cons rfl (ow_buildSlice el30 ti2 rfl rfl rfl rfl rfl ?_)
  intro gE w9 egE oE bbgE x7 zgE
  replace oE := Own.low oE X.size
  replace hm := hm.ext x7
  replace b1 := b1.ext x7
  replace oS := oS.ext x7
  replace X := Ext.trans X x7; clear x7
  have dj0 : Apart (Value.slice (some ⟨gS, 0, none⟩) 0 0).ownBlock (Value.slice (some ⟨gE, 0, none⟩) 0 0).ownBlock := fun g h1 h2 => by
    have h3 := UgS g h1
    have h4 : gE = g := by injection h2
    omega
  refine ops_cons rfl (ow_assign rfl ?_)
  refine ops_cons rfl (ow_assign rfl ?_)
  refine ops_cons rfl (ow_assign rfl ?_)
  refine ops_nil ?_
  refine c_seq ?_
  refine c_seqR ?_
  refine ops_cons rfl (ow_loadAB b1 ti28 rfl rfl ?_)
  refine ops_cons rfl (ow_move rfl ?_)
  have US := fun g hg => (Own.lt oS (g := g) hg).2
  have UE := fun g hg => (Own.lt oE (g := g) hg).2
  refine ops_cons rfl (ow_call ent120 rfl (ret_mono (modeSlots_c m B mode _ hm hz) ?_))
  rintro _ w11 ⟨AL, cL, rfl, oL, x10⟩
  have LoL := X.size
  replace hm := hm.ext x10
  replace b1 := b1.ext x10
  replace oS := oS.ext x10
  replace oE := oE.ext x10
  replace X := Ext.trans X x10; clear x10
  have dSL0 : Apart (Value.slice (some ⟨gS, 0, none⟩) 0 0).ownBlock (Value.slice AL (ofMode mode m.ss).length cL).ownBlock := fun g h1 h2 => by have h3 := US g h1; have h4 := (Own.lt oL h2).1; omega
  have dEL0 : Apart (Value.slice (some ⟨gE, 0, none⟩) 0 0).ownBlock (Value.slice AL (ofMode mode m.ss).length cL).ownBlock := fun g h1 h2 => by have h3 := UE g h1; have h4 := (Own.lt oL h2).1; omega
  obtain ⟨lL, oL⟩ : ∃ l, Own _ l _ _ _ _ _ _ := ⟨_, oL⟩
  have hll := ofMode_len mode m.ss
  refine ops_cons rfl (ow_len Tryz.underlying26 rfl ?_)
  refine ops_cons rfl (ow_move rfl ?_)
  refine ops_nil ?_
  refine c_block ?_
  refine c_loop (G := Nat × Int × List Int × List Int × Nat × Option Addr × Nat × Nat × Option Addr × Nat) (fun ⟨k, a, ys, es, n1, A1, c1, n2, A2, c2⟩ => [(2, .int .i64 node), (6, .slice none 0 0), (7, .slice none 0 0), (18, .int .i64 ((ofMode mode m.ss).length : Nat)), (8, .slice A1 n1 c1), (9, .slice A2 n2 c2), (10, .int .i64 a), (17, .slice AL (ofMode mode m.ss).length cL), (19, .int .i64 (k : Nat))]) (fun ⟨k, a, ys, es, n1, A1, c1, n2, A2, c2⟩ wr => k ≤ (ofMode mode m.ss).length ∧ (0 ≤ a ∧ a ≤ 1000 * k) ∧ (n1 = ys.length ∧ n2 = es.length) ∧ (n1 ≤ k ∧ n2 ≤ k) ∧ sendG node 0 (ofMode mode m.ss) = ys ++ sendG node a ((ofMode mode m.ss).drop k) ∧ Apart (Value.slice A1 n1 c1).ownBlock (Value.slice A2 n2 c2).ownBlock ∧ Apart (Value.slice A1 n1 c1).ownBlock (Value.slice AL (ofMode mode m.ss).length cL).ownBlock ∧ Apart (Value.slice A2 n2 c2).ownBlock (Value.slice AL (ofMode mode m.ss).length cL).ownBlock ∧ Own wr w.heap.size 2 1 A1 n1 c1 (ys.flatMap eI) ∧ Own wr w.heap.size 2 1 A2 n2 c2 (es.flatMap eI) ∧ Own wr lL 89 8 AL (ofMode mode m.ss).length cL ((ofMode mode m.ss).flatMap SlotI.cells) ∧ Med B wr m ∧ Blk wr g4 28 m.cells ∧ Ext w wr) (fun ⟨k, a, ys, es, n1, A1, c1, n2, A2, c2⟩ => (ofMode mode m.ss).length - k) (0, 0, [], [], 0, some ⟨gS, 0, none⟩, 0, 0, some ⟨gE, 0, none⟩, 0) (.cons rfl (.cons rfl (.cons rfl (.cons rfl (.cons rfl (.cons rfl (.cons rfl (.cons rfl (.cons rfl (.nil _)))))))))) ?_ ?_
  · exact ⟨by omega, by omega, ⟨rfl, rfl⟩, by omega, rfl, dj0, dSL0, dEL0, oS, oE, oL, hm, b1, X⟩
  clear hm b1 oS oE oL
  clear X
  rintro ⟨k, a, ys, es, n1, A1, c1, n2, A2, c2⟩ wr ⟨hk0, ha, hn, hn1, hi, dSE, dSL, dEL, oS, oE, oL, hm, b1, X⟩
  refine c_seqR ?_
  refine ops_cons rfl (ow_lss2 rfl rfl (fun hk => ?_) (fun hk => ?_))
  obtain ⟨x, hx, dx⟩ := drop_at' hk
  have hxs := slotI (hok x (ofMode_sub _ _ x (List.mem_of_getElem? hx)).1)
  refine ops_nil ?_
  refine c_seq ?_
  refine c_true rfl ?_
  refine c_skip ?_
  refine tq_n ?_
  refine c_seq ?_
  refine c_block ?_
  refine c_seqR ?_
  refine ops_cons rfl (ow_indexT (oL).sl SlotI.len rfl el26 rfl rfl rfl hx rfl ?_)
  refine ops_cons rfl (ow_loadTA (oL).sl SlotI.len hx ti89 rfl ?_)
  have UL0 := fun g hg => (Own.lt oL (g := g) hg).2
  refine ops_cons rfl (ow_alloc ti89 ?_)
  intro gX w13 egX bX x12 zgX
  have lgX : w.heap.size ≤ gX := Nat.le_trans X.size (Nat.le_of_eq egX.symm)
  have pgXhm := Nat.le_trans hm.1 (Nat.le_of_eq egX.symm)
  have ngXb1 := Nat.lt_of_lt_of_eq b1.lt egX.symm
  replace oS := oS.ext x12
  replace oE := oE.ext x12
  replace oL := oL.ext x12
  replace hm := hm.ext x12
  replace b1 := b1.ext x12
  replace X := Ext.trans X x12; clear x12
  refine ops_cons rfl (ow_storeB bX ti89 rfl rfl rfl rfl rfl rfl ?_)
  intro w15 bY hg14 z16
  replace oS := oS.grownBlk hg14 (Own.neT oS bX (by decide))
  replace oE := oE.grownBlk hg14 (Own.neT oE bX (by decide))
  replace oL := oL.grownBlk hg14 (fun h => absurd (UL0 _ h) (by omega))
  replace hm := hm.grown hg14 (by intro g hg; injection hg; omega)
  replace b1 := b1.grown hg14 (by intro h; injection h; omega)
  replace X := X.grown hg14 X.size (by intro g hg; injection hg; omega)
  clear hg14 bX
  refine ops_nil ?_
  refine c_seq ?_
  refine c_seqR ?_
  refine ops_cons rfl (ow_fieldAddrB off89_3 rfl rfl ?_)
  refine ops_cons rfl (ow_fieldAddrB off67_0 rfl rfl ?_)
  refine ops_cons rfl (ow_loadB bY ti2 rfl rfl ?_)
  refine ops_cons rfl (ow_move rfl ?_)
  refine ops_cons rfl (ow_eql2 rfl rfl (fun he => ?_) (fun he => ?_))
  refine ops_nil ?_
  refine c_true rfl ?_
  refine c_regI (fun wz => Blk wz gX 89 x.cells) mixed ?_
  obtain ⟨w17, ew17⟩ : ∃ wy, wy = World.drew w15 := ⟨_, rfl⟩
  rw [← ew17]
  have xd : Ext w15 w17 := ew17 ▸ Ext.drew w15
  replace oS := oS.ext xd
  replace oE := oE.ext xd
  replace oL := oL.ext xd
  replace hm := hm.ext xd
  replace b1 := b1.ext xd
  replace bY := bY.ext xd
  replace X := Ext.trans X xd; clear xd ew17
  refine wi_take 0 rfl (by kernel_rfl) rfl (by kernel_rfl) (listed' := #[true, false, false, false, false, false, false, false, false, false, false, false, false, false]) rfl (fun wq sq => ow_move rfl ⟨rfl, rfl⟩) ?_
  refine wi_take 1 rfl (by kernel_rfl) rfl (by kernel_rfl) (listed' := #[true, true, false, false, false, false, false, false, false, false, false, false, false, false]) rfl (fun wq sq => ow_move rfl ⟨rfl, rfl⟩) ?_
  refine wi_take 4 rfl (by kernel_rfl) rfl (by kernel_rfl) (listed' := #[true, true, false, false, true, false, false, false, false, false, false, false, false, false]) rfl (fun wq sq => ow_move rfl ⟨rfl, rfl⟩) ?_
  refine wi_take 5 rfl (by kernel_rfl) rfl (by kernel_rfl) (listed' := #[true, true, false, false, true, true, false, false, false, false, false, false, false, false]) rfl (fun wq sq => ow_move rfl ⟨rfl, rfl⟩) ?_
  refine wi_take 6 rfl (by kernel_rfl) rfl (by kernel_rfl) (listed' := #[true, true, false, false, true, true, true, false, false, false, false, false, false, false]) rfl (fun wq sq => ow_fieldAddrB off89_3 rfl rfl ⟨rfl, rfl⟩) ?_
  refine wi_take 7 rfl (by kernel_rfl) rfl (by kernel_rfl) (listed' := #[true, true, false, false, true, true, true, true, false, false, false, false, false, false]) rfl (fun wq sq => ow_fieldAddrB off67_3 rfl rfl ⟨rfl, rfl⟩) ?_
  refine wi_take 8 rfl (by kernel_rfl) rfl (by kernel_rfl) (listed' := #[true, true, false, false, true, true, true, true, true, false, false, false, false, false]) rfl (fun wq sq => ow_loadB sq ti2 rfl rfl ⟨rfl, rfl⟩) ?_
  refine wi_take 9 rfl (by kernel_rfl) rfl (by kernel_rfl) (listed' := #[true, true, false, false, true, true, true, true, true, true, false, false, false, false]) rfl (fun wq sq => ow_add rfl rfl (w64 (by omega)) ⟨rfl, rfl⟩) ?_
  refine wi_two 2 10 rfl rfl rfl rfl (by kernel_rfl) (listed' := #[true, true, true, false, true, true, true, true, true, true, false, false, false, false]) (listed'' := #[true, true, false, false, true, true, true, true, true, true, true, false, false, false]) rfl rfl bY ?_ ?_
  refine (ow_buildSlice el30 ti2 rfl rfl rfl rfl rfl ?_)
  intro g18 w20 eg18 oTS bbg18 x19 zg18
  replace oTS := Own.low oTS X.size
  replace oS := oS.ext x19
  replace oE := oE.ext x19
  replace oL := oL.ext x19
  replace hm := hm.ext x19
  replace b1 := b1.ext x19
  replace bY := bY.ext x19
  replace X := Ext.trans X x19; clear x19
  refine wi_two 3 10 rfl rfl rfl rfl (by kernel_rfl) (listed' := #[true, true, true, true, true, true, true, true, true, true, false, false, false, false]) (listed'' := #[true, true, true, false, true, true, true, true, true, true, true, false, false, false]) rfl rfl bY ?_ ?_
  have UE1 := fun g hg => (Own.lt oE (g := g) hg).2
  have UL1 := fun g hg => (Own.lt oL (g := g) hg).2
  refine (ow_appendW (ts := #[]) oS X.size oTS.sl (by first | rfl | simp) (by first | exact List.all_eq_true.1 rfl | simp [Value.oneCell']) el30 ti2 rfl rfl rfl rfl (by omega) (by omega) ?_)
  intro AoS2 coS2 w22 oS2 hg21 hW1
  replace oE := oE.grown hg21 dSE
  replace oL := oL.grown hg21 dSL
  replace hm := hm.grown hg21 (fun g hg => Nat.le_trans Bhm (Own.lt oS hg).1)
  replace b1 := b1.grown hg21 (fun h => Own.neT oS b1 (by decide) h.symm)
  replace bY := bY.grown hg21 (fun h => Own.neT oS bY (by decide) h.symm)
  replace X := X.grown hg21 X.size (fun g hg => (Own.lt oS hg).1)
  clear hg21
  replace dSE := apart_l dSE hW1 UE1
  replace dSL := apart_l dSL hW1 UL1
  have US0 := fun g hg => (Own.lt oS (g := g) hg).2
  refine wi_one 10 rfl rfl (by kernel_rfl) (listed' := #[true, true, true, true, true, true, true, true, true, true, true, false, false, false]) rfl bY (ow_buildSlice el30 ti2 rfl rfl rfl rfl rfl ?_)
  intro g23 w25 eg23 oTE bbg23 x24 zg23
  replace oTE := Own.low oTE (Nat.le_refl _)
  replace oE := oE.ext x24
  replace oL := oL.ext x24
  replace hm := hm.ext x24
  replace b1 := b1.ext x24
  replace bY := bY.ext x24
  replace oS2 := oS2.ext x24
  replace X := Ext.trans X x24; clear x24
  have US2 := fun g hg => (Own.lt oS2 (g := g) hg).2
  have UL2 := fun g hg => (Own.lt oL (g := g) hg).2
  refine wi_one 11 rfl rfl (by kernel_rfl) (listed' := #[true, true, true, true, true, true, true, true, true, true, true, true, false, false]) rfl bY (ow_appendW (ts := #[]) oE X.size oTE.sl (by first | rfl | simp) (by first | exact List.all_eq_true.1 rfl | simp [Value.oneCell']) el30 ti2 rfl rfl rfl rfl (by omega) (by omega) ?_)
  intro AoE2 coE2 w27 oE2 hg26 hW2
  replace oL := oL.grown hg26 dEL
  replace hm := hm.grown hg26 (fun g hg => Nat.le_trans Bhm (Own.lt oE hg).1)
  replace b1 := b1.grown hg26 (fun h => Own.neT oE b1 (by decide) h.symm)
  replace bY := bY.grown hg26 (fun h => Own.neT oE bY (by decide) h.symm)
  replace oS2 := oS2.grown hg26 (fun g h1 h2 => dSE g h2 h1)
  replace X := X.grown hg26 X.size (fun g hg => (Own.lt oE hg).1)
  clear hg26
  replace dSE := apart_r dSE hW2 US2
  replace dEL := apart_l dEL hW2 UL2
  refine wi_take 12 rfl (by kernel_rfl) rfl (by kernel_rfl) (listed' := #[true, true, true, true, true, true, true, true, true, true, true, true, true, false]) rfl (fun wq sq => ow_assign rfl ⟨rfl, rfl⟩) ?_
  refine wi_take 13 rfl (by kernel_rfl) rfl (by kernel_rfl) (listed' := #[true, true, true, true, true, true, true, true, true, true, true, true, true, true]) rfl (fun wq sq => ow_assign rfl ⟨rfl, rfl⟩) ?_
  refine wi_done rfl bY (fun aj fj => ⟨_, fj, ?_⟩)
  refine tq_n ?_
  refine c_region ?_
  refine ops_cons rfl (ow_move rfl ?_)
  refine ops_cons rfl (ow_fieldAddrB off89_3 rfl rfl ?_)
  refine ops_cons rfl (ow_fieldAddrB off67_3 rfl rfl ?_)
  refine ops_cons rfl (ow_loadB bY ti2 rfl rfl ?_)
  refine ops_cons rfl (ow_add rfl rfl (w64 (by omega)) ?_)
  refine ops_cons rfl (ow_assign rfl ?_)
  refine ops_nil ?_
  refine bq_n ?_
  refine tq_n ?_
  refine c_region ?_
  refine ops_cons rfl (ow_add rfl rfl (w64 (by omega)) ?_)
  refine ops_cons rfl (ow_move rfl ?_)
  refine ops_nil ?_
  refine tq_n ⟨(k + 1, a + x.desc.duration, ys ++ [a], es ++ [a + x.desc.duration], n1 + 1, AoS2, coS2, n2 + 1, AoE2, coE2), (.cons rfl (.cons rfl (.cons rfl (.cons rfl (.cons rfl (.cons rfl (.cons rfl (.cons rfl (.cons rfl (.nil _)))))))))), ?_, ?_⟩
  · exact ⟨by omega, by omega, ⟨by simp [hn.1], by simp [hn.2]⟩, by omega, (by rw [hi, dx, sendG, if_pos he]; simp), dSE, dSL, dEL, oS2.to (snoc eI ys _).symm, oE2.to (snoc eI es _).symm, oL, hm, b1, X⟩
  · first | omega | (dsimp only; omega)
  have US0 := fun g hg => (Own.lt oS (g := g) hg).2
  refine (ow_buildSlice el30 ti2 rfl rfl rfl rfl rfl ?_)
  intro g28 w30 eg28 oTE bbg28 x29 zg28
  replace oTE := Own.low oTE (Nat.le_refl _)
  replace oS := oS.ext x29
  replace oE := oE.ext x29
  replace oL := oL.ext x29
  replace hm := hm.ext x29
  replace b1 := b1.ext x29
  replace bY := bY.ext x29
  replace oTS := oTS.ext x29
  replace X := Ext.trans X x29; clear x29
  have UE1 := fun g hg => (Own.lt oE (g := g) hg).2
  have UL1 := fun g hg => (Own.lt oL (g := g) hg).2
  refine wi_one 3 rfl rfl (by kernel_rfl) (listed' := #[true, true, true, true, true, true, true, true, true, true, true, false, false, false]) rfl bY (ow_appendW (ts := #[]) oS X.size oTS.sl (by first | rfl | simp) (by first | exact List.all_eq_true.1 rfl | simp [Value.oneCell']) el30 ti2 rfl rfl rfl rfl (by omega) (by omega) ?_)
  intro AoS2 coS2 w32 oS2 hg31 hW1
  replace oE := oE.grown hg31 dSE
  replace oL := oL.grown hg31 dSL
  replace hm := hm.grown hg31 (fun g hg => Nat.le_trans Bhm (Own.lt oS hg).1)
  replace b1 := b1.grown hg31 (fun h => Own.neT oS b1 (by decide) h.symm)
  replace bY := bY.grown hg31 (fun h => Own.neT oS bY (by decide) h.symm)
  replace oTE := oTE.grown hg31 (fun g h1 h2 => absurd (Own.lt oTE h2).1 (by have := US0 g h1; omega))
  replace X := X.grown hg31 X.size (fun g hg => (Own.lt oS hg).1)
  clear hg31
  replace dSE := apart_l dSE hW1 UE1
  replace dSL := apart_l dSL hW1 UL1
  have US2 := fun g hg => (Own.lt oS2 (g := g) hg).2
  have UL2 := fun g hg => (Own.lt oL (g := g) hg).2
  refine wi_one 11 rfl rfl (by kernel_rfl) (listed' := #[true, true, true, true, true, true, true, true, true, true, true, true, false, false]) rfl bY (ow_appendW (ts := #[]) oE X.size oTE.sl (by first | rfl | simp) (by first | exact List.all_eq_true.1 rfl | simp [Value.oneCell']) el30 ti2 rfl rfl rfl rfl (by omega) (by omega) ?_)
  intro AoE2 coE2 w34 oE2 hg33 hW2
  replace oL := oL.grown hg33 dEL
  replace hm := hm.grown hg33 (fun g hg => Nat.le_trans Bhm (Own.lt oE hg).1)
  replace b1 := b1.grown hg33 (fun h => Own.neT oE b1 (by decide) h.symm)
  replace bY := bY.grown hg33 (fun h => Own.neT oE bY (by decide) h.symm)
  replace oS2 := oS2.grown hg33 (fun g h1 h2 => dSE g h2 h1)
  replace X := X.grown hg33 X.size (fun g hg => (Own.lt oE hg).1)
  clear hg33
  replace dSE := apart_r dSE hW2 US2
  replace dEL := apart_l dEL hW2 UL2
  refine wi_take 12 rfl (by kernel_rfl) rfl (by kernel_rfl) (listed' := #[true, true, true, true, true, true, true, true, true, true, true, true, true, false]) rfl (fun wq sq => ow_assign rfl ⟨rfl, rfl⟩) ?_
  refine wi_take 13 rfl (by kernel_rfl) rfl (by kernel_rfl) (listed' := #[true, true, true, true, true, true, true, true, true, true, true, true, true, true]) rfl (fun wq sq => ow_assign rfl ⟨rfl, rfl⟩) ?_
  refine wi_done rfl bY (fun aj fj => ⟨_, fj, ?_⟩)
  refine tq_n ?_
  refine c_region ?_
  refine ops_cons rfl (ow_move rfl ?_)
  refine ops_cons rfl (ow_fieldAddrB off89_3 rfl rfl ?_)
  refine ops_cons rfl (ow_fieldAddrB off67_3 rfl rfl ?_)
  refine ops_cons rfl (ow_loadB bY ti2 rfl rfl ?_)
  refine ops_cons rfl (ow_add rfl rfl (w64 (by omega)) ?_)
  refine ops_cons rfl (ow_assign rfl ?_)
  refine ops_nil ?_
  refine bq_n ?_
  refine tq_n ?_
  refine c_region ?_
  refine ops_cons rfl (ow_add rfl rfl (w64 (by omega)) ?_)
  refine ops_cons rfl (ow_move rfl ?_)
  refine ops_nil ?_
  refine tq_n ⟨(k + 1, a + x.desc.duration, ys ++ [a], es ++ [a + x.desc.duration], n1 + 1, AoS2, coS2, n2 + 1, AoE2, coE2), (.cons rfl (.cons rfl (.cons rfl (.cons rfl (.cons rfl (.cons rfl (.cons rfl (.cons rfl (.cons rfl (.nil _)))))))))), ?_, ?_⟩
  · exact ⟨by omega, by omega, ⟨by simp [hn.1], by simp [hn.2]⟩, by omega, (by rw [hi, dx, sendG, if_pos he]; simp), dSE, dSL, dEL, oS2.to (snoc eI ys _).symm, oE2.to (snoc eI es _).symm, oL, hm, b1, X⟩
  · first | omega | (dsimp only; omega)
  have US0 := fun g hg => (Own.lt oS (g := g) hg).2
  refine (ow_buildSlice el30 ti2 rfl rfl rfl rfl rfl ?_)
  intro g35 w37 eg35 oTE bbg35 x36 zg35
  replace oTE := Own.low oTE (Nat.le_refl _)
  replace oS := oS.ext x36
  replace oE := oE.ext x36
  replace oL := oL.ext x36
  replace hm := hm.ext x36
  replace b1 := b1.ext x36
  replace bY := bY.ext x36
  replace X := Ext.trans X x36; clear x36
  refine wi_one 2 rfl rfl (by kernel_rfl) (listed' := #[true, true, true, false, true, true, true, true, true, true, true, false, false, false]) rfl bY (ow_buildSlice el30 ti2 rfl rfl rfl rfl rfl ?_)
  intro g38 w40 eg38 oTS bbg38 x39 zg38
  replace oTS := Own.low oTS X.size
  replace oS := oS.ext x39
  replace oE := oE.ext x39
  replace oL := oL.ext x39
  replace hm := hm.ext x39
  replace b1 := b1.ext x39
  replace bY := bY.ext x39
  replace oTE := oTE.ext x39
  replace X := Ext.trans X x39; clear x39
  have UE1 := fun g hg => (Own.lt oE (g := g) hg).2
  have UL1 := fun g hg => (Own.lt oL (g := g) hg).2
  refine wi_one 3 rfl rfl (by kernel_rfl) (listed' := #[true, true, true, true, true, true, true, true, true, true, true, false, false, false]) rfl bY (ow_appendW (ts := #[]) oS X.size oTS.sl (by first | rfl | simp) (by first | exact List.all_eq_true.1 rfl | simp [Value.oneCell']) el30 ti2 rfl rfl rfl rfl (by omega) (by omega) ?_)
  intro AoS2 coS2 w42 oS2 hg41 hW1
  replace oE := oE.grown hg41 dSE
  replace oL := oL.grown hg41 dSL
  replace hm := hm.grown hg41 (fun g hg => Nat.le_trans Bhm (Own.lt oS hg).1)
  replace b1 := b1.grown hg41 (fun h => Own.neT oS b1 (by decide) h.symm)
  replace bY := bY.grown hg41 (fun h => Own.neT oS bY (by decide) h.symm)
  replace oTE := oTE.grown hg41 (fun g h1 h2 => absurd (Own.lt oTE h2).1 (by have := US0 g h1; omega))
  replace X := X.grown hg41 X.size (fun g hg => (Own.lt oS hg).1)
  clear hg41
  replace dSE := apart_l dSE hW1 UE1
  replace dSL := apart_l dSL hW1 UL1
  have US2 := fun g hg => (Own.lt oS2 (g := g) hg).2
  have UL2 := fun g hg => (Own.lt oL (g := g) hg).2
  refine wi_one 11 rfl rfl (by kernel_rfl) (listed' := #[true, true, true, true, true, true, true, true, true, true, true, true, false, false]) rfl bY (ow_appendW (ts := #[]) oE X.size oTE.sl (by first | rfl | simp) (by first | exact List.all_eq_true.1 rfl | simp [Value.oneCell']) el30 ti2 rfl rfl rfl rfl (by omega) (by omega) ?_)
  intro AoE2 coE2 w44 oE2 hg43 hW2
  replace oL := oL.grown hg43 dEL
  replace hm := hm.grown hg43 (fun g hg => Nat.le_trans Bhm (Own.lt oE hg).1)
  replace b1 := b1.grown hg43 (fun h => Own.neT oE b1 (by decide) h.symm)
  replace bY := bY.grown hg43 (fun h => Own.neT oE bY (by decide) h.symm)
  replace oS2 := oS2.grown hg43 (fun g h1 h2 => dSE g h2 h1)
  replace X := X.grown hg43 X.size (fun g hg => (Own.lt oE hg).1)
  clear hg43
  replace dSE := apart_r dSE hW2 US2
  replace dEL := apart_l dEL hW2 UL2
  refine wi_take 12 rfl (by kernel_rfl) rfl (by kernel_rfl) (listed' := #[true, true, true, true, true, true, true, true, true, true, true, true, true, false]) rfl (fun wq sq => ow_assign rfl ⟨rfl, rfl⟩) ?_
  refine wi_take 13 rfl (by kernel_rfl) rfl (by kernel_rfl) (listed' := #[true, true, true, true, true, true, true, true, true, true, true, true, true, true]) rfl (fun wq sq => ow_assign rfl ⟨rfl, rfl⟩) ?_
  refine wi_done rfl bY (fun aj fj => ⟨_, fj, ?_⟩)
  refine tq_n ?_
  refine c_region ?_
  refine ops_cons rfl (ow_move rfl ?_)
  refine ops_cons rfl (ow_fieldAddrB off89_3 rfl rfl ?_)
  refine ops_cons rfl (ow_fieldAddrB off67_3 rfl rfl ?_)
  refine ops_cons rfl (ow_loadB bY ti2 rfl rfl ?_)
  refine ops_cons rfl (ow_add rfl rfl (w64 (by omega)) ?_)
  refine ops_cons rfl (ow_assign rfl ?_)
  refine ops_nil ?_
  refine bq_n ?_
  refine tq_n ?_
  refine c_region ?_
  refine ops_cons rfl (ow_add rfl rfl (w64 (by omega)) ?_)
  refine ops_cons rfl (ow_move rfl ?_)
  refine ops_nil ?_
  refine tq_n ⟨(k + 1, a + x.desc.duration, ys ++ [a], es ++ [a + x.desc.duration], n1 + 1, AoS2, coS2, n2 + 1, AoE2, coE2), (.cons rfl (.cons rfl (.cons rfl (.cons rfl (.cons rfl (.cons rfl (.cons rfl (.cons rfl (.cons rfl (.nil _)))))))))), ?_, ?_⟩
  · exact ⟨by omega, by omega, ⟨by simp [hn.1], by simp [hn.2]⟩, by omega, (by rw [hi, dx, sendG, if_pos he]; simp), dSE, dSL, dEL, oS2.to (snoc eI ys _).symm, oE2.to (snoc eI es _).symm, oL, hm, b1, X⟩
  · first | omega | (dsimp only; omega)
  refine ops_nil ?_
  refine c_false rfl ?_
  refine c_skip ?_
  refine tq_n ?_
  refine c_region ?_
  refine ops_cons rfl (ow_move rfl ?_)
  refine ops_cons rfl (ow_fieldAddrB off89_3 rfl rfl ?_)
  refine ops_cons rfl (ow_fieldAddrB off67_3 rfl rfl ?_)
  refine ops_cons rfl (ow_loadB bY ti2 rfl rfl ?_)
  refine ops_cons rfl (ow_add rfl rfl (w64 (by omega)) ?_)
  refine ops_cons rfl (ow_assign rfl ?_)
  refine ops_nil ?_
  refine bq_n ?_
  refine tq_n ?_
  refine c_region ?_
  refine ops_cons rfl (ow_add rfl rfl (w64 (by omega)) ?_)
  refine ops_cons rfl (ow_move rfl ?_)
  refine ops_nil ?_
  refine tq_n ⟨(k + 1, a + x.desc.duration, ys, es, n1, A1, c1, n2, A2, c2), (.cons rfl (.cons rfl (.cons rfl (.cons rfl (.cons rfl (.cons rfl (.cons rfl (.cons rfl (.cons rfl (.nil _)))))))))), ?_, ?_⟩
  · exact ⟨by omega, by omega, hn, by omega, (by rw [hi, dx, sendG, if_neg he]), dSE, dSL, dEL, oS, oE, oL, hm, b1, X⟩
  · first | omega | (dsimp only; omega)
  refine ops_nil ?_
  refine c_seq ?_
  refine c_false rfl ?_
  refine c_exit ?_
  refine tq_e ?_
  refine tq_e ?_
  refine bq_e ?_
  refine tq_n ?_
  refine c_seqR ?_
  refine ops_cons rfl (ow_move rfl ?_)
  refine ops_cons rfl (ow_move rfl ?_)
  refine ops_cons rfl (ow_assign rfl ?_)
  refine ops_cons rfl (ow_assign rfl ?_)
  refine ops_nil ?_
  refine c_ret ?_
  refine fin_ret2 rfl rfl rfl ?_
  · skip
    have e : sendG node 0 (ofMode mode m.ss) = ys := by rw [hi, drop_end hk]; simp [sendG]
    rw [e, ← hn.1]; exact ⟨A1, c1, _, rfl, oS, X⟩

theorem iSend_c (m : MedlI) (B : Nat) (mode node : Int) (w : World) (hm : Med B w m) (hz : m.small) :
    Calls Tryz.prog 48 #[.agg m.cells.toArray, .int .i64 mode, .int .i64 node] w (Ret fun v w' => ∃ A' c', v = .tuple #[.slice A' (sendT m.d mode node).1.length c', .int .i64 (sendT m.d mode node).2] ∧ Own w' w.heap.size 2 1 A' (sendT m.d mode node).1.length c' ((sendT m.d mode node).1.flatMap eI) ∧ Ext w w') := by
  have hls := hz.ls
  have hlm := hz.lm
  have hln := hz.ln
  have Bhm := hm.1
  have X := Ext.refl w
  refine calls_of (args := [.agg m.cells.toArray, .int .i64 mode, .int .i64 node]) Tryz.func48 Tryz.ntmps48 rfl rfl ?_
  refine c_seqR ?_
  refine ops_cons rfl (ow_box rfl rfl ?_)
  intro g4 w3 eg4 b1 x2 zg4
  have lg4 : w.heap.size ≤ g4 := Nat.le_trans X.size (Nat.le_of_eq eg4.symm)
  have pg4hm := Nat.le_trans hm.1 (Nat.le_of_eq eg4.symm)
  replace hm := hm.ext x2
  replace X := Ext.trans X x2; clear x2
  refine ops_cons rfl (ow_assign rfl ?_)
  refine ops_cons rfl (ow_assign rfl ?_)
  refine ops_nil ?_
  refine c_seq ?_
  refine c_seqR ?_
  refine ops_cons rfl (ow_loadAB b1 ti28 rfl rfl ?_)
  refine ops_cons rfl (ow_move rfl ?_)
  refine ops_cons rfl (ow_move rfl ?_)
  refine ops_cons rfl (ow_buildSlice el30 ti2 rfl rfl rfl rfl rfl ?_)
  intro g5 w7 eg5 oZ bbg5 x6 zg5
  replace oZ := Own.low oZ X.size
  replace hm := hm.ext x6
  replace b1 := b1.ext x6
  replace X := Ext.trans X x6; clear x6
  replace oZ := oZ.to (cs' := ([node] : List Int).flatMap eI) rfl
  refine ops_cons rfl (ow_call ent124 rfl (ret_mono (nodesCode_c m _ mode _ _ _ [node] _ hm hz oZ.sl (by simp)) ?_))
  rintro _ w9 ⟨rfl, x8⟩
  replace hm := hm.ext x8
  replace b1 := b1.ext x8
  replace oZ := oZ.ext x8
  replace X := Ext.trans X x8; clear x8
  refine ops_cons rfl (ow_assign rfl ?_)
  refine ops_nil ?_
  refine c_seqR ?_
  refine ops_cons rfl (ow_move rfl ?_)
  refine ops_cons rfl (ow_neq2 rfl rfl (fun h1 => ?_) (fun h1 => ?_))
  refine ops_nil ?_
  refine c_true rfl ?_
  refine c_seqR ?_
  refine ops_cons rfl (ow_move rfl ?_)
  refine ops_cons rfl (ow_assign rfl ?_)
  refine ops_cons rfl (ow_assign rfl ?_)
  refine ops_nil ?_
  refine c_ret ?_
  refine tq_r ?_
  refine fin_ret2 rfl rfl rfl ?_
  · skip
    first
    | (rw [sendT_n h1]; exact ⟨none, 0, rfl, Own.nil_ _ _ _ _, X⟩)
    | (rw [sendT_0 hs2.1 hs2.2, show (sendS m.d.ss mode node m.d.ss, (0 : Int)) = (sendG node 0 (ofMode mode m.ss), 0) from congrArg (fun z => (z, (0 : Int))) hse]; exact ⟨_, _, rfl, oR, X⟩)
  have hS0 : sendC m.d mode node = 0 := by rw [← nodesC_one]; omega
  have hs2 := sendC_zero.1 hS0
  have hm0 := modeC_zero.1 hs2.1
  have wf := isMedl_iff.1 hm0.1
  have hok : ∀ x ∈ m.ss, slotOk x = true := isST_all wf.st
  obtain ⟨k0, x0, hkm, hx0⟩ := mode_get hm0.2
  have hxi := isMT_in wf.mt x0 (List.mem_of_getElem? hx0)
  have hse : sendS m.ss mode node m.ss = sendG node 0 (ofMode mode m.ss) := by rw [hkm]; exact send_eq wf.co hx0 hxi.2.1 node
  clear hkm
  refine ops_nil ?_
  refine c_false rfl ?_
  refine c_skip ?_
  refine tq_n ?_
  refine c_seqR ?_
  refine ops_cons rfl (ow_loadAB b1 ti28 rfl rfl ?_)
  refine ops_cons rfl (ow_move rfl ?_)
  refine ops_cons rfl (ow_move rfl ?_)
  refine ops_cons rfl (ow_call ent125 rfl (ret_mono (sending_c m _ mode node _ hm hz hok) ?_))
  rintro _ w11 ⟨A12, c13, vE, rfl, oR, x10⟩
  replace oR := Own.low oR X.size
  replace hm := hm.ext x10
  replace b1 := b1.ext x10
  replace oZ := oZ.ext x10
  replace X := Ext.trans X x10; clear x10
  refine ops_cons rfl (ow_move rfl ?_)
  refine ops_cons rfl (ow_extract rfl rfl ?_)
  refine ops_cons rfl (ow_extract rfl rfl ?_)
  refine ops_cons rfl (ow_assign rfl ?_)
  refine ops_cons rfl (ow_assign rfl ?_)
  refine ops_nil ?_
  refine c_seqR ?_
  refine ops_cons rfl (ow_move rfl ?_)
  refine ops_cons rfl (ow_assign rfl ?_)
  refine ops_cons rfl (ow_assign rfl ?_)
  refine ops_nil ?_
  refine c_ret ?_
  refine fin_ret2 rfl rfl rfl ?_
  · skip
    first
    | (rw [sendT_n h1]; exact ⟨none, 0, rfl, Own.nil_ _ _ _ _, X⟩)
    | (rw [sendT_0 hs2.1 hs2.2, show (sendS m.d.ss mode node m.d.ss, (0 : Int)) = (sendG node 0 (ofMode mode m.ss), 0) from congrArg (fun z => (z, (0 : Int))) hse]; exact ⟨_, _, rfl, oR, X⟩)
end Go.Proofs.YtdoibplhbdkapaaGreatDoor
namespace Go.Proofs.YtdoibplhbdkapaaGreatDoor
open Go.RowKit
set_option linter.unusedVariables false
set_option linter.unusedSimpArgs false
end Go.Proofs.YtdoibplhbdkapaaGreatDoor
namespace Go.Proofs.YtdoibplhbdkapaaGreatDoor
open Go.RowKit
set_option linter.unusedVariables false
set_option linter.unusedSimpArgs false
set_option maxRecDepth 20000
end Go.Proofs.YtdoibplhbdkapaaGreatDoor
namespace Go.Proofs.YtdoibplhbdkapaaGreatDoor
open Go.RowKit
set_option linter.unusedVariables false
set_option linter.unusedSimpArgs false
set_option maxRecDepth 20000
theorem big_c (A : Option Addr) (c : Nat) (bs : List UInt8) (w : World)  :
    Calls Tryz.prog 11 #[.slice A bs.length c] w (Ret fun v w' => v = .bool (decide ((4096 : Int) < bs.length)) ∧ Ext w w') := by
  have X := Ext.refl w
  refine calls_of (args := [.slice A bs.length c]) Tryz.func11 Tryz.ntmps11 rfl rfl ?_
  refine c_seqR ?_
  refine ops_cons rfl (ow_assign rfl ?_)
  refine ops_nil ?_
  refine c_seqR ?_
  refine ops_cons rfl (ow_move rfl ?_)
  refine ops_cons rfl (ow_len Tryz.underlying22 rfl ?_)
  refine ops_cons rfl (ow_gtr rfl rfl ?_)
  refine ops_cons rfl (ow_assign rfl ?_)
  refine ops_nil ?_
  refine c_ret ?_
  refine fin_ret1 rfl rfl ?_
  exact ⟨by rfl, X⟩

end Go.Proofs.YtdoibplhbdkapaaGreatDoor
namespace Go.Proofs.YtdoibplhbdkapaaGreatDoor
open Go.RowKit
set_option linter.unusedVariables false
set_option linter.unusedSimpArgs false
set_option maxRecDepth 20000
def dicC (A : Option Addr) (c : Nat) (bs : List UInt8) (a : Nat) (h : Int) : List Value := [.slice A bs.length c, .int .i64 (a : Nat), .int .u64 h]
theorem low24 (z : Int) : 0 ≤ bitsV .and .u64 z 16777215 ∧ bitsV .and .u64 z 16777215 ≤ 16777215 := by
  have h : (BitVec.ofInt 64 z &&& BitVec.ofInt 64 16777215).toNat ≤ 16777215 := by
    rw [BitVec.toNat_and]; exact Nat.le_trans Nat.and_le_right (by decide)
  have e : bitsV .and .u64 z 16777215 = ((BitVec.ofInt 64 z &&& BitVec.ofInt 64 16777215).toNat : Int) := by
    show IntKind.u64.wrap ((BitVec.ofInt 64 z &&& BitVec.ofInt 64 16777215).toNat : Int) = _
    exact wu64 ⟨by omega, by omega⟩
  rw [e]; omega
theorem roll_c (A : Option Addr) (B c : Nat) (bs : List UInt8) (sd : Int) (w : World) (hs : Sl B w A (bs.flatMap eB)) (hbl : bs.length ≤ 1048576) :
    Calls Tryz.prog 58 #[.slice A bs.length c, .int .u64 sd] w (Ret fun v w' => ∃ gS a h, v = .pointer (some ⟨gS, 0, none⟩) ∧ w.heap.size ≤ gS ∧ a ≤ bs.length ∧ Blk w' gS 139 (dicC A c bs a h) ∧ Ext w w') := by
  have Bhs := hs.1
  have X := Ext.refl w
  refine calls_of (args := [.slice A bs.length c, .int .u64 sd]) Tryz.func58 Tryz.ntmps58 rfl rfl ?_
  refine c_seqR ?_
  refine ops_cons rfl (ow_assign rfl ?_)
  refine ops_nil ?_
  refine c_seqR ?_
  refine ops_cons rfl (ow_move rfl ?_)
  refine ops_cons rfl (ow_move rfl ?_)
  refine ops_cons rfl (ow_mul rfl rfl rfl ?_)
  refine ops_cons rfl (ow_move rfl ?_)
  refine ops_cons rfl (ow_len Tryz.underlying22 rfl ?_)
  refine ops_cons rfl (ow_conv Tryz.underlying3 Tryz.underlying74 rfl rfl ?_)
  refine ops_cons rfl (ow_add rfl rfl rfl ?_)
  refine ops_cons rfl (ow_buildP pl139 ti139 rfl rfl ?_)
  refine ops_cons rfl (ow_box rfl rfl ?_)
  intro gS w2 egS q x1 zgS
  have lgS : w.heap.size ≤ gS := Nat.le_trans X.size (Nat.le_of_eq egS.symm)
  have pgShs := Nat.le_trans hs.1 (Nat.le_of_eq egS.symm)
  replace hs := hs.ext x1
  replace X := Ext.trans X x1; clear x1
  obtain ⟨h0, q⟩ : ∃ h, Blk _ gS 139 (dicC A c bs 0 h) := ⟨_, q⟩
  refine ops_cons rfl (ow_assign rfl ?_)
  refine ops_nil ?_
  refine c_seq ?_
  refine c_seqR ?_
  refine ops_cons rfl (ow_assign rfl ?_)
  refine ops_nil ?_
  refine c_block ?_
  refine c_loop (G := Nat × Int) (fun ⟨k, h1⟩ => [(0, .slice A bs.length c), (5, .pointer (some ⟨gS, 0, none⟩)), (6, .int .i64 (k : Nat))]) (fun ⟨k, h1⟩ wr => k ≤ bs.length ∧ Blk wr gS 139 (dicC A c bs 0 h1) ∧ Sl B wr A (bs.flatMap eB) ∧ Ext w wr) (fun ⟨k, h1⟩ => bs.length - k) (0, h0) (.cons rfl (.cons rfl (.cons rfl (.nil _)))) ?_ ?_
  · exact ⟨by omega, q, hs, X⟩
  clear hs q
  clear X
  rintro ⟨k, h1⟩ wr ⟨hk0, q, hs, X⟩
  refine c_seq ?_
  refine c_seqR ?_
  refine ops_cons rfl (ow_move rfl ?_)
  refine ops_cons rfl (ow_move rfl ?_)
  refine ops_cons rfl (ow_len Tryz.underlying22 rfl ?_)
  refine ops_cons rfl (ow_lss2 rfl rfl (fun hk => ?_) (fun hk => ?_))
  obtain ⟨x, hx, dx⟩ := drop_at' hk
  refine ops_nil ?_
  refine c_true rfl ?_
  refine c_skip ?_
  refine tq_n ?_
  refine c_seq ?_
  refine c_block ?_
  refine c_draw [false, false, false, false, false, false, false, false, false, false, false, false, false, false, false] mixed (by kernel_rfl) ?_
  refine f_q rfl (fun wq sq => ow_move rfl ⟨rfl, Ext.refl _⟩) ?_
  refine f_q rfl (fun wq sq => ow_move rfl ⟨rfl, Ext.refl _⟩) ?_
  refine f_q rfl (fun wq sq => ow_nilCheck rfl ⟨rfl, Ext.refl _⟩) ?_
  refine f_q rfl (fun wq sq => ow_fieldAddrB off139_2 rfl rfl ⟨rfl, Ext.refl _⟩) ?_
  refine f_q rfl (fun wq sq => ow_loadB (q.ext sq) ti74 rfl rfl ⟨rfl, Ext.refl _⟩) ?_
  refine f_q rfl (fun wq sq => ow_mul rfl rfl rfl ⟨rfl, Ext.refl _⟩) ?_
  refine f_q rfl (fun wq sq => ow_move rfl ⟨rfl, Ext.refl _⟩) ?_
  refine f_q rfl (fun wq sq => ow_move rfl ⟨rfl, Ext.refl _⟩) ?_
  refine f_q rfl (fun wq sq => ow_indexT (hs.ext sq) eB_len rfl el22 rfl rfl rfl hx rfl ⟨rfl, Ext.refl _⟩) ?_
  refine f_q rfl (fun wq sq => ow_loadT (hs.ext sq) eB_len hx ti5 rfl rfl rfl ⟨rfl, Ext.refl _⟩) ?_
  refine f_q rfl (fun wq sq => ow_conv Tryz.underlying5 Tryz.underlying74 rfl rfl ⟨rfl, Ext.refl _⟩) ?_
  refine f_q rfl (fun wq sq => ow_add rfl rfl rfl ⟨rfl, Ext.refl _⟩) ?_
  refine f_q rfl (fun wq sq => ow_add rfl rfl rfl ⟨rfl, Ext.refl _⟩) ?_
  refine f_q rfl (fun wq sq => ow_nilCheck rfl ⟨rfl, Ext.refl _⟩) ?_
  refine f_q rfl (fun wq sq => ow_fieldAddrB off139_2 rfl rfl ⟨rfl, Ext.refl _⟩) ?_
  refine f_nil (fun w3 sq => ?_)
  have xq := sq
  replace q := q.ext xq
  replace hs := hs.ext xq
  replace X := Ext.trans X xq; clear xq sq
  refine ops_cons rfl (ow_storeB q ti74 rfl rfl rfl rfl rfl rfl ?_)
  intro w5 q2 hg4 z6
  replace hs := hs.grown hg4 (by intro g hg; injection hg; omega)
  replace X := X.grown hg4 X.size (by intro g hg; injection hg; omega)
  clear hg4 q
  obtain ⟨h2, q2⟩ : ∃ h, Blk _ gS 139 (dicC A c bs 0 h) := ⟨_, q2⟩
  refine ops_nil ?_
  refine bq_n ?_
  refine tq_n ?_
  refine c_region ?_
  refine ops_cons rfl (ow_move rfl ?_)
  refine ops_cons rfl (ow_add rfl rfl (w64 (by omega)) ?_)
  refine ops_cons rfl (ow_assign rfl ?_)
  refine ops_nil ?_
  refine tq_n ⟨(k + 1, h2), (.cons rfl (.cons rfl (.cons rfl (.nil _)))), ?_, ?_⟩
  · exact ⟨by omega, q2, hs, X⟩
  · first | omega | (dsimp only; omega)
  refine ops_nil ?_
  refine c_false rfl ?_
  refine c_exit ?_
  refine tq_e ?_
  refine tq_e ?_
  refine bq_e ?_
  refine tq_n ?_
  refine c_seqR ?_
  refine ops_cons rfl (ow_move rfl ?_)
  refine ops_cons rfl (ow_assign rfl ?_)
  refine ops_nil ?_
  refine c_ret ?_
  refine fin_ret1 rfl rfl ?_
  exact ⟨gS, 0, h1, rfl, lgS, Nat.zero_le _, q, X⟩

theorem below_c (A : Option Addr) (B c : Nat) (bs : List UInt8) (gS a : Nat) (h n : Int) (w : World) (q : Blk w gS 139 (dicC A c bs a h)) (hs : Sl B w A (bs.flatMap eB)) (hB : B ≤ gS) (ha : a ≤ bs.length) (hbl : bs.length ≤ 1048576) (hn : 1 ≤ n ∧ n ≤ 1000) :
    Calls Tryz.prog 59 #[.pointer (some ⟨gS, 0, none⟩), .int .i64 n] w (Ret fun v w' => ∃ r a' h', v = .int .i64 r ∧ (0 ≤ r ∧ r < n) ∧ Blk w' gS 139 (dicC A c bs a' h') ∧ w.grownBy w' (some gS)) := by
  have Bhs := hs.1
  have X := gb_refl w (some gS)
  refine calls_of (args := [.pointer (some ⟨gS, 0, none⟩), .int .i64 n]) Tryz.func59 Tryz.ntmps59 rfl rfl ?_
  refine c_seqR ?_
  refine ops_cons rfl (ow_assign rfl ?_)
  refine ops_nil ?_
  refine c_seqR ?_
  refine ops_cons rfl (ow_move rfl ?_)
  refine ops_cons rfl (ow_move rfl ?_)
  refine ops_cons rfl (ow_nilCheck rfl ?_)
  refine ops_cons rfl (ow_fieldAddrB off139_2 rfl rfl ?_)
  refine ops_cons rfl (ow_loadB q ti74 rfl rfl ?_)
  refine ops_cons rfl (ow_mul rfl rfl rfl ?_)
  refine ops_cons rfl (ow_add rfl rfl rfl ?_)
  refine ops_cons rfl (ow_nilCheck rfl ?_)
  refine ops_cons rfl (ow_fieldAddrB off139_2 rfl rfl ?_)
  refine ops_cons rfl (ow_storeB q ti74 rfl rfl rfl rfl rfl rfl ?_)
  intro w2 q_2 hg1 z3
  replace hs := hs.grown hg1 (by intro g hg; injection hg; omega)
  replace X := gb_trans X hg1
  clear hg1 q
  obtain ⟨h2, q_2⟩ : ∃ h, Blk _ gS 139 (dicC A c bs a h) := ⟨_, q_2⟩
  refine ops_nil ?_
  refine c_seqR ?_
  refine ops_cons rfl (ow_move rfl ?_)
  refine ops_cons rfl (ow_nilCheck rfl ?_)
  refine ops_cons rfl (ow_fieldAddrB off139_2 rfl rfl ?_)
  refine ops_cons rfl (ow_loadB q_2 ti74 rfl rfl ?_)
  refine ops_cons rfl (ow_shr rfl rfl (by omega) rfl ?_)
  refine ops_cons rfl (ow_and rfl rfl rfl ?_)
  have hy1 := low24 ((h2).fdiv (2 ^ (min (33 : Int).toNat IntKind.u64.bits)))
  refine ops_cons rfl (ow_conv Tryz.underlying74 Tryz.underlying2 rfl (w64 (by omega)) ?_)
  refine ops_cons rfl (ow_assign rfl ?_)
  refine ops_nil ?_
  refine c_seq ?_
  refine c_seqD [false, false, false, false, false, false, false, false, false, false] mixed (by kernel_rfl) ?_
  refine f_q rfl (fun wq sq => ow_move rfl ⟨rfl, Ext.refl _⟩) ?_
  refine f_q rfl (fun wq sq => ow_nilCheck rfl ⟨rfl, Ext.refl _⟩) ?_
  refine f_q rfl (fun wq sq => ow_fieldAddrB off139_1 rfl rfl ⟨rfl, Ext.refl _⟩) ?_
  refine f_q rfl (fun wq sq => ow_loadB (q_2.ext sq) ti3 rfl rfl ⟨rfl, Ext.refl _⟩) ?_
  refine f_q rfl (fun wq sq => ow_move rfl ⟨rfl, Ext.refl _⟩) ?_
  refine f_q rfl (fun wq sq => ow_nilCheck rfl ⟨rfl, Ext.refl _⟩) ?_
  refine f_q rfl (fun wq sq => ow_fieldAddrB off139_0 rfl rfl ⟨rfl, Ext.refl _⟩) ?_
  refine f_q rfl (fun wq sq => ow_loadB (q_2.ext sq) ti22 rfl rfl ⟨rfl, Ext.refl _⟩) ?_
  refine f_q rfl (fun wq sq => ow_len Tryz.underlying22 rfl ⟨rfl, Ext.refl _⟩) ?_
  refine f_qb rfl (fun wq sq => ow_lss rfl rfl ⟨rfl, Ext.refl _⟩) (fun hlt => ?_) (fun hlt => ?_)
  obtain ⟨x, hx, dx⟩ := drop_at (xs := bs) (k := a) (by omega)
  have hxb := u8_in x
  refine f_nil (fun w4 sq => ?_)
  have xq := sq
  replace hs := hs.ext xq
  replace q_2 := q_2.ext xq
  replace X := gb_ext X xq; clear xq sq
  refine ops_nil ?_
  refine c_true rfl ?_
  refine c_seqD [false, false, false, false, false, false, false, false, false, false, false, false, false, false] mixed (by kernel_rfl) ?_
  refine f_q rfl (fun wq sq => ow_move rfl ⟨rfl, Ext.refl _⟩) ?_
  refine f_q rfl (fun wq sq => ow_move rfl ⟨rfl, Ext.refl _⟩) ?_
  refine f_q rfl (fun wq sq => ow_nilCheck rfl ⟨rfl, Ext.refl _⟩) ?_
  refine f_q rfl (fun wq sq => ow_fieldAddrB off139_0 rfl rfl ⟨rfl, Ext.refl _⟩) ?_
  refine f_q rfl (fun wq sq => ow_loadB (q_2.ext sq) ti22 rfl rfl ⟨rfl, Ext.refl _⟩) ?_
  refine f_q rfl (fun wq sq => ow_move rfl ⟨rfl, Ext.refl _⟩) ?_
  refine f_q rfl (fun wq sq => ow_nilCheck rfl ⟨rfl, Ext.refl _⟩) ?_
  refine f_q rfl (fun wq sq => ow_fieldAddrB off139_1 rfl rfl ⟨rfl, Ext.refl _⟩) ?_
  refine f_q rfl (fun wq sq => ow_loadB (q_2.ext sq) ti3 rfl rfl ⟨rfl, Ext.refl _⟩) ?_
  refine f_q rfl (fun wq sq => ow_indexT (hs.ext sq) eB_len rfl el22 rfl rfl rfl hx rfl ⟨rfl, Ext.refl _⟩) ?_
  refine f_q rfl (fun wq sq => ow_loadT (hs.ext sq) eB_len hx ti5 rfl rfl rfl ⟨rfl, Ext.refl _⟩) ?_
  refine f_q rfl (fun wq sq => ow_conv Tryz.underlying5 Tryz.underlying2 rfl (w64 (by omega)) ⟨rfl, Ext.refl _⟩) ?_
  refine f_q rfl (fun wq sq => ow_add rfl rfl (w64 (by omega)) ⟨rfl, Ext.refl _⟩) ?_
  refine f_q rfl (fun wq sq => ow_assign rfl ⟨rfl, Ext.refl _⟩) ?_
  refine f_nil (fun w5 sq => ?_)
  have xq := sq
  replace hs := hs.ext xq
  replace q_2 := q_2.ext xq
  replace X := gb_ext X xq; clear xq sq
  refine ops_nil ?_
  refine c_region ?_
  refine ops_cons rfl (ow_move rfl ?_)
  refine ops_cons rfl (ow_move rfl ?_)
  refine ops_cons rfl (ow_nilCheck rfl ?_)
  refine ops_cons rfl (ow_fieldAddrB off139_1 rfl rfl ?_)
  refine ops_cons rfl (ow_loadB q_2 ti3 rfl rfl ?_)
  refine ops_cons rfl (ow_add rfl rfl (w64 (by omega)) ?_)
  refine ops_cons rfl (ow_nilCheck rfl ?_)
  refine ops_cons rfl (ow_fieldAddrB off139_1 rfl rfl ?_)
  refine ops_cons rfl (ow_storeB q_2 ti3 rfl rfl rfl rfl rfl rfl ?_)
  intro w7 q_3 hg6 z8
  replace hs := hs.grown hg6 (by intro g hg; injection hg; omega)
  replace X := gb_trans X hg6
  clear hg6 q_2
  refine ops_nil ?_
  refine tq_n ?_
  refine c_seqR ?_
  refine ops_cons rfl (ow_move rfl ?_)
  refine ops_cons rfl (ow_move rfl ?_)
  refine ops_cons rfl (ow_rem rfl rfl (by omega) (m64 (by omega)) ?_)
  refine ops_cons rfl (ow_assign rfl ?_)
  refine ops_nil ?_
  refine c_ret ?_
  refine fin_ret1 rfl rfl ?_
  · skip
    have hr := fun y (hy : 0 ≤ y) => And.intro (Int.emod_nonneg y (show n ≠ 0 by omega)) (Int.emod_lt_of_pos y (show 0 < n by omega))
    first
    | (exact ⟨_, a, h2, rfl, hr _ (by omega), q_2, X⟩)
    | (exact ⟨_, a + 1, h2, rfl, hr _ (by omega), q_3, X⟩)
  refine f_nil (fun w9 sq => ?_)
  have xq := sq
  replace hs := hs.ext xq
  replace q_2 := q_2.ext xq
  replace X := gb_ext X xq; clear xq sq
  refine ops_nil ?_
  refine c_false rfl ?_
  refine c_skip ?_
  refine tq_n ?_
  refine c_seqR ?_
  refine ops_cons rfl (ow_move rfl ?_)
  refine ops_cons rfl (ow_move rfl ?_)
  refine ops_cons rfl (ow_rem rfl rfl (by omega) (m64 (by omega)) ?_)
  refine ops_cons rfl (ow_assign rfl ?_)
  refine ops_nil ?_
  refine c_ret ?_
  refine fin_ret1 rfl rfl ?_
  · skip
    have hr := fun y (hy : 0 ≤ y) => And.intro (Int.emod_nonneg y (show n ≠ 0 by omega)) (Int.emod_lt_of_pos y (show 0 < n by omega))
    first
    | (exact ⟨_, a, h2, rfl, hr _ (by omega), q_2, X⟩)
    | (exact ⟨_, a + 1, h2, rfl, hr _ (by omega), q_3, X⟩)

theorem hasInt_c (A : Option Addr) (B c : Nat) (xs : List Int) (n : Int) (w : World) (hs : Sl B w A (xs.flatMap eI)) (hl : xs.length ≤ 1048576) :
    Calls Tryz.prog 60 #[.slice A xs.length c, .int .i64 n] w (Ret fun v w' => v = .bool (hasB xs n) ∧ Ext w w') := by
  have Bhs := hs.1
  have X := Ext.refl w
  refine calls_of (args := [.slice A xs.length c, .int .i64 n]) Tryz.func60 Tryz.ntmps60 rfl rfl ?_
  refine c_seqR ?_
  refine ops_cons rfl (ow_assign rfl ?_)
  refine ops_nil ?_
  refine c_seq ?_
  refine c_seqR ?_
  refine ops_cons rfl (ow_assign rfl ?_)
  refine ops_nil ?_
  refine c_block ?_
  refine c_loop (G := Nat) (fun k => [(0, .slice A xs.length c), (1, .int .i64 n), (5, .int .i64 (k : Nat))]) (fun k wr => k ≤ xs.length ∧ hasB xs n = hasB (xs.drop k) n ∧ Sl B wr A (xs.flatMap eI) ∧ Ext w wr) (fun k => xs.length - k) 0 (.cons rfl (.cons rfl (.cons rfl (.nil _)))) ?_ ?_
  · exact ⟨by omega, rfl, hs, X⟩
  clear hs
  clear X
  rintro k wr ⟨hk0, hi, hs, X⟩
  refine c_seq ?_
  refine c_seqR ?_
  refine ops_cons rfl (ow_move rfl ?_)
  refine ops_cons rfl (ow_move rfl ?_)
  refine ops_cons rfl (ow_len Tryz.underlying30 rfl ?_)
  refine ops_cons rfl (ow_lss2 rfl rfl (fun hk => ?_) (fun hk => ?_))
  obtain ⟨x, hx, dx⟩ := drop_at' hk
  refine ops_nil ?_
  refine c_true rfl ?_
  refine c_skip ?_
  refine tq_n ?_
  refine c_seq ?_
  refine c_block ?_
  refine c_seqR ?_
  refine ops_cons rfl (ow_move rfl ?_)
  refine ops_cons rfl (ow_move rfl ?_)
  refine ops_cons rfl (ow_indexT hs eI_len rfl el30 rfl rfl rfl hx rfl ?_)
  refine ops_cons rfl (ow_loadT hs eI_len hx ti2 rfl rfl rfl ?_)
  refine ops_cons rfl (ow_move rfl ?_)
  refine ops_cons rfl (ow_eql2 rfl rfl (fun h1 => ?_) (fun h1 => ?_))
  refine ops_nil ?_
  refine c_true rfl ?_
  refine c_seqR ?_
  refine ops_cons rfl (ow_assign rfl ?_)
  refine ops_nil ?_
  refine c_ret ?_
  refine bq_r ?_
  refine tq_r ?_
  refine tq_r ?_
  refine bq_r ?_
  refine tq_r ?_
  refine fin_ret1 rfl rfl ?_
  · skip
    refine ⟨congrArg Value.bool ?_, X⟩
    first | (rw [hi, drop_end hk]; rfl) | (rw [hi, dx]; simp [hasB, *])
  refine ops_nil ?_
  refine c_false rfl ?_
  refine c_skip ?_
  refine bq_n ?_
  refine tq_n ?_
  refine c_region ?_
  refine ops_cons rfl (ow_move rfl ?_)
  refine ops_cons rfl (ow_add rfl rfl (w64 (by omega)) ?_)
  refine ops_cons rfl (ow_assign rfl ?_)
  refine ops_nil ?_
  refine tq_n ⟨k + 1, (.cons rfl (.cons rfl (.cons rfl (.nil _)))), ?_, ?_⟩
  · exact ⟨by omega, (by rw [hi, dx]; simp [hasB, *]), hs, X⟩
  · first | omega | (dsimp only; omega)
  refine ops_nil ?_
  refine c_false rfl ?_
  refine c_exit ?_
  refine tq_e ?_
  refine tq_e ?_
  refine bq_e ?_
  refine tq_n ?_
  refine c_seqR ?_
  refine ops_cons rfl (ow_assign rfl ?_)
  refine ops_nil ?_
  refine c_ret ?_
  refine fin_ret1 rfl rfl ?_
  · skip
    refine ⟨congrArg Value.bool ?_, X⟩
    first | (rw [hi, drop_end hk]; rfl) | (rw [hi, dx]; simp [hasB, *])
end Go.Proofs.YtdoibplhbdkapaaGreatDoor
namespace Go.Proofs.YtdoibplhbdkapaaGreatDoor
open Go.RowKit
set_option linter.unusedVariables false
set_option linter.unusedSimpArgs false
def sumF (f : Nat → Int) : Nat → Int
  | 0 => 0
  | n + 1 => sumF f n + f n
theorem sumF_congr {f g : Nat → Int} : ∀ (n : Nat), (∀ i, i < n → f i = g i) → sumF f n = sumF g n
  | 0, _ => rfl
  | n + 1, h => by rw [sumF, sumF, sumF_congr n fun i hi => h i (by omega), h n (by omega)]
theorem sumF_add (f : Nat → Int) (a : Nat) : ∀ (n : Nat), sumF f (a + n) = sumF f a + sumF (fun i => f (a + i)) n
  | 0 => by simp [sumF]
  | n + 1 => by rw [← Nat.add_assoc, sumF, sumF_add f a n, sumF]; omega
theorem sumF_per {f : Nat → Int} {S : Nat} (hS : 0 < S) : ∀ (R : Nat), (∀ j, j < R * S → f j = f (j % S)) → sumF f (R * S) = R * sumF f S
  | 0, _ => by simp [sumF]
  | R + 1, h => by
    have h1 : (R + 1) * S = R * S + S := Nat.succ_mul R S
    have ih := sumF_per hS R (fun j hj => h j (by omega))
    have h2 : sumF (fun i => f (R * S + i)) S = sumF f S := sumF_congr S fun i hi => by
      rw [h (R * S + i) (by omega), Nat.add_comm, Nat.add_mul_mod_self_right, Nat.mod_eq_of_lt hi]
    rw [h1, sumF_add, ih, h2, Int.natCast_add, Int.add_mul]; simp
theorem sumF_pos {f : Nat → Int} : ∀ (n : Nat), (∀ i, i < n → 1 ≤ f i) → (n : Int) ≤ sumF f n
  | 0, _ => by simp [sumF]
  | n + 1, h => by
    have h1 := sumF_pos n fun i hi => h i (by omega)
    have h2 := h n (by omega)
    rw [sumF]; omega
def durN (L : List SlotI) (j : Nat) : Int := match L[j]? with
  | some y => y.desc.duration
  | none => 0
theorem durN_at {L : List SlotI} {j : Nat} {y : SlotI} (h : L[j]? = some y) : durN L j = y.desc.duration := by unfold durN; rw [h]
theorem sumD_F (L : List SlotI) : ∀ (n : Nat), n ≤ L.length → sumD (L.take n) = sumF (durN L) n
  | 0, _ => rfl
  | n + 1, h => by
    have hx : L[n]? = some L[n] := List.getElem?_eq_getElem (by omega)
    rw [List.take_add_one, hx, sumD_app, sumD_F L n (by omega), sumF, durN_at hx]; simp [sumD]
section
variable {d : MedlD} {k : Nat} {x : Mode}
theorem dur_in (hW : WellF d) {mode : Int} {j : Nat} {y : SlotI} (hy : (ofMode mode d.ss)[j]? = some y) : 1 ≤ y.desc.duration ∧ y.desc.duration ≤ 1000 :=
  (slotI (isST_all hW.st y (ofMode_sub _ _ y (List.mem_of_getElem? hy)).1)).2.2
theorem mode_in (hW : WellF d) (hx : d.ms[k]? = some x) : (1 ≤ x.rounds ∧ x.rounds ≤ 8) ∧ 1 ≤ x.slots ∧ x.slots ≤ 16 := isMT_in hW.mt x (List.mem_of_getElem? hx)
/-- the cycle time is a sum -/
theorem cyc_F (hW : WellF d) (hx : d.ms[k]? = some x) : cyc d.ss k = sumF (durN (ofMode (k : Int) d.ss)) (x.rounds.toNat * x.slots.toNat) := by
  have h1 := ofMode_length hW.co hx
  unfold cyc
  rw [← h1, ← sumD_F _ _ (Nat.le_refl _), List.take_length]
theorem dur_per (hW : WellF d) (hx : d.ms[k]? = some x) {j : Nat} (hj : j < x.rounds.toNat * x.slots.toNat) : durN (ofMode (k : Int) d.ss) j = durN (ofMode (k : Int) d.ss) (j % x.slots.toNat) := by
  have hm := mode_in hW hx
  have hl := ofMode_length hW.co hx
  have hjm : j % x.slots.toNat ≤ j := Nat.mod_le _ _
  have e1 : (ofMode (k : Int) d.ss)[j]? = some ((ofMode (k : Int) d.ss)[j]'(by omega)) := List.getElem?_eq_getElem _
  have e2 : (ofMode (k : Int) d.ss)[j % x.slots.toNat]? = some ((ofMode (k : Int) d.ss)[j % x.slots.toNat]'(by omega)) := List.getElem?_eq_getElem _
  obtain ⟨a1, a2, a3, a4⟩ := ofMode_at hW.co hx e1
  obtain ⟨b1, b2, b3, b4⟩ := ofMode_at hW.co hx e2
  rw [Nat.mod_mod] at b3
  rw [durN_at e1, durN_at e2]
  have h1 := List.all_eq_true.1 (List.all_eq_true.1 hW.sd _ (ofMode_sub _ _ _ (List.mem_of_getElem? e1)).1) _ (ofMode_sub _ _ _ (List.mem_of_getElem? e2)).1
  simp only [durOk, Bool.or_eq_true, Bool.not_eq_true', Bool.and_eq_false_iff, decide_eq_false_iff_not, decide_eq_true_eq] at h1
  rcases h1 with (h1 | h1) | h1
  · rw [a1, b1] at h1; exact absurd rfl h1
  · rw [a3, b3] at h1; exact absurd rfl h1
  · exact h1
theorem cyc_round (hW : WellF d) (hx : d.ms[k]? = some x) : cyc d.ss k = x.rounds * (cyc d.ss k / x.rounds) ∧ 0 < cyc d.ss k ∧ cyc d.ss k ≤ 32000 := by
  have hm := mode_in hW hx
  have hl := ofMode_length hW.co hx
  have h1 := sumF_per (f := durN (ofMode (k : Int) d.ss)) (S := x.slots.toNat) (by omega) x.rounds.toNat (fun j hj => dur_per hW hx hj)
  have h0 := cyc_F hW hx
  rw [h1, Int.toNat_of_nonneg (by omega)] at h0
  have h2 := sumF_pos (f := durN (ofMode (k : Int) d.ss)) (x.rounds.toNat * x.slots.toNat) (fun i hi => by
    have e1 : (ofMode (k : Int) d.ss)[i]? = some ((ofMode (k : Int) d.ss)[i]'(by omega)) := List.getElem?_eq_getElem _
    rw [durN_at e1]; exact (dur_in hW e1).1)
  rw [← cyc_F hW hx] at h2
  have h3 : 1 * 1 ≤ x.rounds.toNat * x.slots.toNat := Nat.mul_le_mul (by omega) (by omega)
  refine ⟨?_, by omega, ?_⟩
  · generalize sumF (durN (ofMode (k : Int) d.ss)) x.slots.toNat = q at h0
    rw [h0, Int.mul_ediv_cancel_left _ (by omega)]
  · have h4 := List.all_eq_true.1 hW.sh k (List.mem_range.2 (List.getElem?_eq_some_iff.1 hx).1)
    simpa using h4
theorem desc_at (hW : WellF d) (hx : d.ms[k]? = some x) {q : Nat} (hq : q < x.rounds.toNat * x.slots.toNat) :
    (descAt d.ss k ((q / x.slots.toNat : Nat) : Int) ((q % x.slots.toNat : Nat) : Int)).duration = durN (ofMode (k : Int) d.ss) q := by
  have hm := mode_in hW hx
  have hl := ofMode_length hW.co hx
  have hS : 0 < x.slots.toNat := by omega
  have h2 := Nat.mod_lt q hS
  have h3 : q / x.slots.toNat < x.rounds.toNat := Nat.div_lt_of_lt_mul (by rw [Nat.mul_comm]; exact hq)
  have h23 := Nat.div_add_mod q x.slots.toNat
  obtain ⟨a, ha⟩ : ∃ a, q / x.slots.toNat = a := ⟨_, rfl⟩
  obtain ⟨b, hb⟩ : ∃ b, q % x.slots.toNat = b := ⟨_, rfl⟩
  rw [ha, hb] at h23
  rw [ha] at h3 ⊢
  rw [hb] at h2 ⊢
  obtain ⟨j, y, h4, h5, h6, h7, h8, h9⟩ := slot_find hW.co hx (r := (a : Int)) (s := (b : Int)) (by omega) (by omega)
  rw [h9]
  have hy : y ∈ ofMode (k : Int) d.ss := List.mem_filter.2 ⟨List.mem_of_getElem? h5, by simpa using h6⟩
  obtain ⟨i, hi⟩ := List.mem_iff_getElem?.1 hy
  obtain ⟨a1, a2, a3, a4⟩ := ofMode_at hW.co hx hi
  have e1 : i / x.slots.toNat = a := Int.ofNat.inj (a2.symm.trans h7)
  have e2 : i % x.slots.toNat = b := Int.ofNat.inj (a3.symm.trans h8)
  have e : i = q := by rw [← h23, ← Nat.div_add_mod i x.slots.toNat, e1, e2]
  subst e
  exact (durN_at hi).symm
end
theorem act_id {ns : List NodeI} {z : Int} (hN : isNT ns = true) (hz : 0 ≤ z ∧ z ≤ 31) (h : hasN (actV ns) z = true) : idIn ns z = true := by
  unfold hasN actV at h
  rw [vecF_bit] at h
  simp only [Nat.zero_testBit, Bool.false_or, List.any_eq_true, Bool.and_eq_true, decide_eq_true_eq] at h
  obtain ⟨x, hx, _, e⟩ := h
  exact List.any_eq_true.2 ⟨x, hx, by have := isNT_ids hN x hx; unfold hitN; exact decide_eq_true (by omega)⟩
theorem slot_time {m : MedlI} {s : StateI} {t : Int} (hW : WellF m.d) (hB : belongsB m.d s = true) (h1 : startD m.ss s.mode s.round s.slot ≤ t) (h2 : t < startD m.ss s.mode s.round s.slot + (descAt m.ss s.mode s.round s.slot).duration) :
    slotAtF m.d s.mode t = (s.round, s.slot, 0) := by
  obtain ⟨k, x, j, y, bl, hx, hxi, hj, hy, hda, hso, hro, hno, hyd⟩ := bel_get hW hB
  obtain ⟨g1, g2, g3⟩ := start_bel hW bl hxi.2
  have hl := ofMode_length hW.co bl.at_
  have r1 := bl.rd
  have r2 := bl.sl
  have h5 : (s.round.toNat + 1) * x.m.slots.toNat ≤ x.m.rounds.toNat * x.m.slots.toNat := Nat.mul_le_mul_right _ (by omega)
  rw [Nat.add_mul] at h5
  rw [bl.md] at g1 g2 h1 h2 hda
  obtain ⟨q, hq⟩ : ∃ q, q = s.round.toNat * x.m.slots.toNat + s.slot.toNat := ⟨_, rfl⟩
  rw [← hq] at g1 g2 g3
  have hqn : q < x.m.rounds.toNat * x.m.slots.toNat := by omega
  have e1 : q / x.m.slots.toNat = s.round.toNat := by rw [hq, Nat.mul_comm, Nat.mul_add_div (by omega), Nat.div_eq_of_lt (by omega)]; rfl
  have e2 : q % x.m.slots.toNat = s.slot.toNat := by rw [hq, Nat.mul_comm, Nat.mul_add_mod, Nat.mod_eq_of_lt (by omega)]
  have hda2 := desc_at hW bl.at_ hqn
  rw [e1, e2, Int.toNat_of_nonneg r1.1, Int.toNat_of_nonneg r2.1] at hda2
  obtain ⟨z, hz⟩ : ∃ z, (ofMode (k : Int) m.d.ss)[q]? = some z := ⟨_, List.getElem?_eq_getElem (by omega)⟩
  obtain ⟨z1, z2, z3, z4⟩ := ofMode_at hW.co bl.at_ hz
  rw [e1] at z2; rw [e2] at z3
  rw [durN_at hz] at hda2
  have hda3 : (descAt m.ss k s.round s.slot).duration = z.desc.duration := hda2
  have h0 := startD_in (isST_all hW.st) (k : Int) s.round s.slot
  have hmC : modeC m.d s.mode = 0 := modeC_zero.2 ⟨isMedl_iff.2 hW, inB_iff.2 (by have := (List.getElem?_eq_some_iff.1 bl.at_).1; have := bl.md; omega)⟩
  rw [slotAtF, if_pos hmC, bl.md]
  have ht0 : 0 ≤ t := by have : (0 : Int) ≤ startD m.ss k s.round s.slot := h0.1; omega
  rw [if_neg (show ¬ t < 0 by omega)]
  have hds : ∀ y ∈ ofMode (k : Int) m.d.ss, 0 ≤ y.desc.duration ∧ y.desc.duration ≤ 1000 := fun y hy => by
    obtain ⟨i, hi⟩ := List.mem_iff_getElem?.1 hy
    have := dur_in hW hi; omega
  have hfind : ∀ (L : List SlotI) (a : Int) (q : Nat) (z : SlotI), (∀ y ∈ L, 0 ≤ y.desc.duration) → L[q]? = some z → a + sumD (L.take q) ≤ t → t < a + sumD (L.take q) + z.desc.duration → atF t a L = some z := by
    intro L
    induction L with
    | nil => intro a q z _ h; simp at h
    | cons y r ih =>
      intro a q z hd h3 h4 h6
      cases q with
      | zero =>
        simp at h3; subst h3
        simp only [List.take_zero, sumD] at h4 h6
        rw [atF, if_pos (by omega)]
      | succ q =>
        rw [List.take_succ_cons, sumD] at h4 h6
        have h7 : ∀ (l : List SlotI), (∀ y ∈ l, 0 ≤ y.desc.duration) → 0 ≤ sumD l := fun l => by
          induction l with
          | nil => intro _; simp [sumD]
          | cons u l ih2 => intro hu; have := hu u (by simp); have := ih2 fun y hy => hu y (by simp [hy]); rw [sumD]; omega
        have h8 := h7 (r.take q) fun y hy => hd y (by simp [List.mem_of_mem_take hy])
        rw [atF, if_neg (by omega)]
        exact ih _ q z (fun y hy => hd y (by simp [hy])) (by simpa using h3) (by omega) (by omega)
  have e9 := hfind (ofMode (k : Int) m.ss) 0 q z (fun y hy => (hds y hy).1) hz (by rw [← g1]; omega) (by rw [← g1]; omega)
  rw [show m.d.ss = m.ss from rfl, e9]
  simp only
  rw [z2, z3, Int.toNat_of_nonneg r1.1, Int.toNat_of_nonneg r2.1]
/-- a sender's times have the start of its slot -/
theorem send_has {m : MedlI} {s : StateI} (hW : WellF m.d) (hB : belongsB m.d s = true) : (sendT m.d s.mode (descAt m.ss s.mode s.round s.slot).node).2 = 0 ∧ startD m.ss s.mode s.round s.slot ∈ (sendT m.d s.mode (descAt m.ss s.mode s.round s.slot).node).1 := by
  obtain ⟨k, x, j, y, bl, hx, hxi, hj, hy, hda, hso, hro, hno, hyd⟩ := bel_get hW hB
  obtain ⟨j', y', f1, f2, f3, f4, f5, f6⟩ := slot_find hW.co bl.at_ bl.rd bl.sl
  have hmC : modeC m.d s.mode = 0 := modeC_zero.2 ⟨isMedl_iff.2 hW, inB_iff.2 (by have := (List.getElem?_eq_some_iff.1 bl.at_).1; have := bl.md; omega)⟩
  rw [← bl.md] at f1 f3 f6
  have hid : idIn m.d.ns (descAt m.ss s.mode s.round s.slot).node = true := by
    show idIn m.d.ns (descAt m.d.ss s.mode s.round s.slot).node = true
    rw [f6]
    exact act_id hW.nt (slotI (isST_all hW.st y' (List.mem_of_getElem? f2))).2.1 (List.all_eq_true.1 hW.se y' (List.mem_of_getElem? f2))
  rw [sendT_0 hmC hid]
  refine ⟨rfl, ?_⟩
  show startD m.d.ss s.mode s.round s.slot ∈ sendS m.d.ss s.mode (descAt m.d.ss s.mode s.round s.slot).node m.d.ss
  rw [sendS_map, f6, ← f4, ← f5]
  refine List.mem_map.2 ⟨y', List.mem_filter.2 ⟨List.mem_filter.2 ⟨List.mem_of_getElem? f2, by simpa using f3⟩, by simp⟩, rfl⟩
end Go.Proofs.YtdoibplhbdkapaaGreatDoor
