/- Texts of the seat that a law needs, put together. No condition. -/
import Derived.Test.YtojgfbbdjobdnaaGreatDoorCUP3
import Derived.ProofKit
import Derived.OpenShut
import Derived.Test.YtojgfbbdjobdnaaGreatDoorCUP5
import Derived.Test.YtojgfbbdjobdnaaGreatDoorCards
import Derived.Test.YtojgfbbdjobdnaaGreatDoorCUP20
import Derived.Test.YtojgfbbdjobdnaaGreatDoorCUP21
import Derived.Test.YtojgfbbdjobdnaaGreatDoorCUP14
namespace Go.Proofs.YtojgfbbdjobdnaaGreatDoor
open Go.ChangeShapes Go.WideShapes Go.ChangeAt Go.RowKit
set_option linter.unusedVariables false
set_option linter.unusedSimpArgs false

theorem trodAll_stays {H : Type} {enc : TypeId × Value → H} {P : Program} (hl : laidOutB P = true) {W W' : World} (hb : Ext W W') : ∀ (ts : List TypeId) (vs : List Value) (ds : List (DataW H)) (ps : List MemPlace),
    ts.all (fun t => P.readableRec t && decide (t < P.types.size)) = true → DataW.TrodAll enc P W 0 (fun _ => true) true ts vs ds ps → (∀ x ∈ ps, x.block < W.heap.size) →
    DataW.TrodAll enc P W' 0 (fun b => decide (b < W.heap.size)) true ts vs ds ps
  | [], vs, ds, ps, _, h, _ => by
    obtain ⟨rfl, rfl, rfl⟩ := trodAll_nil h
    exact trodAll_mk0
  | t :: ts, vs, ds, ps, ht, h, hlt => by
    obtain ⟨v, vs', d, ds', p, q, rfl, rfl, rfl, h1, h2⟩ := trodAll_cons h
    simp only [List.all_cons, Bool.and_eq_true, decide_eq_true_eq] at ht
    exact trodAll_cons_mk (Below.trod hl ht.1.1 ht.1.2 h1 hb (fun x hx => hlt x (by simp [hx]))) (trodAll_stays hl hb ts vs' ds' q ht.2 h2 (fun x hx => hlt x (by simp [hx])))

theorem law_post {H : Type} {enc : TypeId × Value → H} {P : Program} {f : Func} {s : ChangeSpec} {W W' : World} {args : Array Value} {ds gs : List (DataW H)} {before : List MemPlace} {tb : TypeId}
    (hl : laidOutB P = true) (hpar : f.params.toList.all (fun t => P.readableRec t && decide (t < P.types.size)) = true) (hvars : s.vars = []) (hres : f.resultTypes = #[tb]) (htb : P.underlying tb = some .bool)
    (hW : DataW.Whole enc P f.params.toList s.vars false W args.toList ds gs before) (hspec : s.fn H (ds ++ gs) = { results := [.lit (.bool true)], args := ds }) (hb : Ext W W') :
    s.post enc P f false true false false W args (.bool true) W' := by
  have hlt : ∀ x ∈ before, x.block < W.heap.size := fun x hx => hW.lt x hx
  have hW' := hW
  obtain ⟨p, q, hA, hV, rfl, hfz, hnd⟩ := hW
  refine ⟨ds, gs, p ++ q, [], p, [], hW', ?_, ?_, ?_, Below.frame hb _, fun h => by cases h⟩
  · rw [hspec, hres]
    exact trodAll_cons_mk (shut_bool htb true) trodAll_mk0
  · rw [hspec]
    exact trodAll_stays hl hb _ _ _ _ hpar hA (fun x hx => hlt x (by simp [hx]))
  · rw [hspec, hvars]
    rfl

section
variable {H : Type} {enc : TypeId × Value → H} {P : Program} {W : World} {sp : Nat → Bool}

theorem exists_list {α : Type} {Q : Nat → α → Prop} : ∀ n, (∀ i, i < n → ∃ y, Q i y) → ∃ xs : List α, xs.length = n ∧ ∀ (i : Nat) (y : α), xs[i]? = some y → Q i y
  | 0, _ => ⟨[], rfl, by simp⟩
  | n + 1, h => by
    obtain ⟨xs, hl, hq⟩ := exists_list n (fun i hi => h i (by omega))
    obtain ⟨y, hy⟩ := h n (by omega)
    refine ⟨xs ++ [y], by simp [hl], fun i z hz => ?_⟩
    by_cases hi : i < n
    · rw [List.getElem?_append_left (by omega)] at hz
      exact hq i z hz
    · have hin : i = n := by
        have := (List.getElem?_eq_some_iff.1 hz).1
        simp [hl] at this; omega
      subst hin
      rw [List.getElem?_append_right (by omega)] at hz
      simp [hl] at hz
      subst hz
      exact hy

theorem open_sl {t e : TypeId} {s : Nat} {α : Type} {en : α → List Value} {ok : α → Prop} {fuel : Nat} {v : Value} {x : DataW H × List MemPlace} (ht : P.underlying t = some (.slice e)) (hs : P.cellsOf e = s) (he : ∀ y, (en y).length = s) (h0 : 0 < s)
    (ho : ∀ n cs x, DataW.trod enc P W 0 sp true n e cs = some x → ∃ y, cs = en y ∧ ok y) (h : DataW.trod enc P W 0 sp true fuel t [v] = some x) :
    ∃ (A : Option Addr) (xs : List α) (c : Nat), v = .slice A xs.length c ∧ Sl W.heap.size W A (xs.flatMap en) ∧ (∀ y ∈ xs, ok y) ∧ xs.length ≤ 9223372036854775807 := by
  rcases DataW.trod_slice ht h with ⟨hv, _⟩ | ⟨a, len, cap, elems, rest, n, _, hv, _, _, hlc, hcm, hel, hg, _⟩
  · have hv : v = .slice none 0 0 := by simpa using hv
    exact ⟨none, [], 0, hv, Sl.nil_ (Nat.le_refl _) _, by simp, by simp⟩
  · have hv : v = .slice (some a) len cap := by simpa using hv
    obtain ⟨xs, hl, hq⟩ := exists_list (Q := fun i y => ok y ∧ ∀ (j : Nat) (u : Value), (en y)[j]? = some u → W.cell? (a.add (i * s + j)) = some u) len (fun i hi => by
      have h1 := hg i hi
      have hil : i < elems.length := by omega
      rw [List.getElem?_eq_getElem hil, Option.bind_eq_some_iff] at h1
      obtain ⟨cs, hc, htr⟩ := h1
      obtain ⟨y, rfl, hy⟩ := ho _ _ _ htr
      rw [hs] at hc
      obtain ⟨_, hcl, hat⟩ := World.cells?_some hc
      refine ⟨y, hy, fun j u hj => ?_⟩
      have hjl : j < s := by rw [← he y]; exact (List.getElem?_eq_some_iff.1 hj).1
      rw [← add_add', hat j hjl, hj])
    refine ⟨some a, xs, cap, by rw [hl]; exact hv, ⟨Nat.le_refl _, fun m u hm => ?_⟩, fun y hy => ?_, ?_⟩
    · obtain ⟨j, y, i, rfl, hi, hj, hu⟩ := flat_none he xs m u hm h0
      have hc := (hq j y hj).2 i u hu
      exact ⟨rfl, by have := World.block_lt_of_cell? W _ hc; rwa [block_of_add] at this, hc⟩
    · obtain ⟨i, hi, rfl⟩ := List.mem_iff_getElem.1 hy
      exact (hq i _ (List.getElem?_eq_getElem hi)).1
    · have : cap ≤ maxLen := hcm
      unfold maxLen at this
      omega

theorem open_u8 {t : TypeId} {fuel : Nat} {cs : List Value} {x : DataW H × List MemPlace} (ht : P.underlying t = some (.int .u8)) (h : DataW.trod enc P W 0 sp true fuel t cs = some x) : ∃ b : UInt8, cs = eB b ∧ True := by
  obtain ⟨z, hz, _, hw⟩ := DataW.trod_int ht h
  have : 0 ≤ z ∧ z ≤ 255 := by simpa [Lit.wf, IntKind.min, IntKind.max, IntKind.signed, IntKind.bits] using hw
  refine ⟨UInt8.ofNat z.toNat, ?_, trivial⟩
  rw [hz, eB]
  congr 2
  simp
  omega
theorem cell_of {t : TypeId} {v : Value} {d : DataW H} {p : List MemPlace} (hc : v.cells = #[v]) (h : DataW.Trod enc P W 0 sp true t v d p) : ∃ n x, DataW.trod enc P W 0 sp true n t [v] = some x := by
  obtain ⟨n, hn⟩ := h
  exact ⟨n, _, by simpa [hc] using hn⟩
end

end Go.Proofs.YtojgfbbdjobdnaaGreatDoor
namespace Go.Proofs.YtojgfbbdjobdnaaGreatDoor
open Go.ChangeShapes Go.WideShapes Go.ChangeAt Go.RowKit
set_option linter.unusedVariables false
set_option linter.unusedSimpArgs false
set_option maxRecDepth 100000

theorem law_own : ownKnob Tryz.prog.godebug = none := by kernel_rfl
theorem law_laid : laidOutB Tryz.prog = true := by kernel_rfl
theorem law_main : Tryz.pinned.checked.prog.mainIs = some (true, "a3d70ef78196423dfcdef9bd2e3aaa75f1e6bd02bbefc60196699ec7a33f8f22".toList) := by kernel_rfl
theorem law_looks : false = Tryz.prog.looks [] := by kernel_rfl
end Go.Proofs.YtojgfbbdjobdnaaGreatDoor
namespace Go.Proofs.YtojgfbbdjobdnaaGreatDoor
open Go.RowKit
set_option linter.unusedVariables false
set_option linter.unusedSimpArgs false
set_option maxRecDepth 20000
theorem sStates_c (m : MedlI) (B : Nat) (s : StateI) (w : World) (hm : Med B w m) (hz : m.small) :
    Calls Tryz.prog 60 #[.agg m.cells.toArray, .agg s.cells.toArray] w (Ret fun v w' => ∃ A' c', v = .tuple #[.slice A' (statesF m.d s).1.length c', .int .i64 (statesF m.d s).2] ∧ Own w' w.heap.size 54 5 A' (statesF m.d s).1.length c' ((statesF m.d s).1.flatMap StateI.cells) ∧ Ext w w') := by
  have hls := hz.ls
  have hlm := hz.lm
  have hln := hz.ln
  have Bhm := hm.1
  have X := Ext.refl w
  refine calls_of (args := [.agg m.cells.toArray, .agg s.cells.toArray]) Tryz.func60 Tryz.ntmps60 rfl rfl ?_
  refine c_seqR ?_
  refine ops_cons rfl (ow_box rfl rfl ?_)
  intro gM w2 egM bM x1 zgM
  have lgM : w.heap.size ≤ gM := Nat.le_trans X.size (Nat.le_of_eq egM.symm)
  have pgMhm := Nat.le_trans hm.1 (Nat.le_of_eq egM.symm)
  replace hm := hm.ext x1
  replace X := Ext.trans X x1; clear x1
  refine ops_cons rfl (ow_box rfl rfl ?_)
  intro gS w4 egS bS x3 zgS
  have lgS : w.heap.size ≤ gS := Nat.le_trans X.size (Nat.le_of_eq egS.symm)
  have pgShm := Nat.le_trans hm.1 (Nat.le_of_eq egS.symm)
  have ngSbM := Nat.lt_of_lt_of_eq bM.lt egS.symm
  replace hm := hm.ext x3
  replace bM := bM.ext x3
  replace X := Ext.trans X x3; clear x3
  refine ops_cons rfl (ow_assign rfl ?_)
  refine ops_cons rfl (ow_assign rfl ?_)
  refine ops_nil ?_
  refine c_seqR ?_
  refine ops_cons rfl (ow_loadAB bM ti28 rfl rfl ?_)
  refine ops_cons rfl (ow_loadAB bS ti54 rfl rfl ?_)
  refine ops_cons rfl (ow_call ent138 rfl (ret_mono (l15Code_c m _ s _ hm hz) ?_))
  rintro _ w6 ⟨rfl, x5⟩
  replace hm := hm.ext x5
  replace bM := bM.ext x5
  replace bS := bS.ext x5
  replace X := Ext.trans X x5; clear x5
  refine ops_cons rfl (ow_assign rfl ?_)
  refine ops_nil ?_
  refine c_seq ?_
  refine c_seqR ?_
  refine ops_cons rfl (ow_move rfl ?_)
  refine ops_cons rfl (ow_neq2 rfl rfl (fun hC => ?_) (fun hC => ?_))
  refine ops_nil ?_
  refine c_true rfl ?_
  refine c_seqR ?_
  refine ops_cons rfl (ow_move rfl ?_)
  refine ops_cons rfl (ow_assign rfl ?_)
  refine ops_cons rfl (ow_assign rfl ?_)
  refine ops_nil ?_
  refine c_ret ?_
  refine tq_r ?_
  refine fin_ret2 rfl rfl rfl ?_
  · skip
    first
    | (have e : statesF m.d s = ([], lookC m.d s) := by rw [statesF, if_neg hC]
       rw [e]; exact ⟨none, 0, rfl, Own.nil_ _ _ _ _, X⟩)
    | (have e : iterS m.d nN s = ys := by rw [hi, show nN - k = 0 by omega]; simp [iterS]
       rw [hRF, e, ← hn.1]; exact ⟨_, _, rfl, Own.low oO (by omega), X⟩)
  have hC0 : lookC m.d s = 0 := by omega
  have hm0 := lookC_zero.1 hC0
  have wf := isMedl_iff.1 hm0.1
  have hW := wf
  have hB := hm0.2
  obtain ⟨k, x, j, y, bl, hx, hxi, hj, hy, hda, hso, hro, hno, hyd⟩ := bel_get hW hB
  have hst := stateOk_in bl.ok
  have hok : ∀ x ∈ m.ss, slotOk x = true := isST_all hW.st
  have brd := bl.rd
  have bsl := bl.sl
  have hmul := mulI hxi.1 hxi.2
  obtain ⟨nN, hnN⟩ : ∃ n : Nat, x.m.rounds * x.m.slots = (n : Int) := ⟨(x.m.rounds * x.m.slots).toNat, by omega⟩
  have hRF : statesF m.d s = (iterS m.d nN s, 0) := by rw [statesF, if_pos hC0, hso, hro, hnN]; rfl
  refine ops_nil ?_
  refine c_false rfl ?_
  refine c_skip ?_
  refine tq_n ?_
  refine c_seqR ?_
  refine ops_cons rfl (ow_buildSlice el72 ti54 rfl rfl rfl rfl rfl ?_)
  intro gO w9 egO oO bbgO x7 zgO
  replace oO := Own.low oO (Nat.succ_le_of_lt bS.lt)
  replace hm := hm.ext x7
  replace bM := bM.ext x7
  replace bS := bS.ext x7
  replace X := Ext.trans X x7; clear x7
  refine ops_cons rfl (ow_assign rfl ?_)
  refine ops_nil ?_
  refine c_seq ?_
  refine c_seqD [false, false, false, false, false, false, false, false, false, false, false, false, false, false, false, false] mixed (by kernel_rfl) ?_
  refine f_q rfl (fun wq sq => ow_fieldAddrB off28_2 rfl rfl ⟨rfl, Ext.refl _⟩) ?_
  refine f_q rfl (fun wq sq => ow_loadB (bM.ext sq) ti25 rfl rfl ⟨rfl, Ext.refl _⟩) ?_
  refine f_q rfl (fun wq sq => ow_fieldAddrB off54_1 rfl rfl ⟨rfl, Ext.refl _⟩) ?_
  refine f_q rfl (fun wq sq => ow_loadB (bS.ext sq) ti2 rfl rfl ⟨rfl, Ext.refl _⟩) ?_
  refine f_q rfl (fun wq sq => ow_indexT ((hm.ext sq)).sm ModeI.len rfl el25 rfl rfl rfl hx bl.md ⟨rfl, Ext.refl _⟩) ?_
  refine f_q rfl (fun wq sq => ow_fieldAddr off45_0 rfl ⟨rfl, Ext.refl _⟩) ?_
  refine f_q rfl (fun wq sq => ow_loadTF ((hm.ext sq)).sm ModeI.len hx ti2 rfl rfl rfl ⟨rfl, Ext.refl _⟩) ?_
  refine f_q rfl (fun wq sq => ow_fieldAddrB off28_2 rfl rfl ⟨rfl, Ext.refl _⟩) ?_
  refine f_q rfl (fun wq sq => ow_loadB (bM.ext sq) ti25 rfl rfl ⟨rfl, Ext.refl _⟩) ?_
  refine f_q rfl (fun wq sq => ow_fieldAddrB off54_1 rfl rfl ⟨rfl, Ext.refl _⟩) ?_
  refine f_q rfl (fun wq sq => ow_loadB (bS.ext sq) ti2 rfl rfl ⟨rfl, Ext.refl _⟩) ?_
  refine f_q rfl (fun wq sq => ow_indexT ((hm.ext sq)).sm ModeI.len rfl el25 rfl rfl rfl hx bl.md ⟨rfl, Ext.refl _⟩) ?_
  refine f_q rfl (fun wq sq => ow_fieldAddr off45_1 rfl ⟨rfl, Ext.refl _⟩) ?_
  refine f_q rfl (fun wq sq => ow_loadTF ((hm.ext sq)).sm ModeI.len hx ti2 rfl rfl rfl ⟨rfl, Ext.refl _⟩) ?_
  refine f_q rfl (fun wq sq => ow_mul rfl rfl (w64 (by omega)) ⟨rfl, Ext.refl _⟩) ?_
  refine f_q rfl (fun wq sq => ow_assign rfl ⟨rfl, Ext.refl _⟩) ?_
  refine f_nil (fun w10 sq => ?_)
  have xq := sq
  replace hm := hm.ext xq
  replace bM := bM.ext xq
  replace bS := bS.ext xq
  replace oO := oO.ext xq
  replace X := Ext.trans X xq; clear xq sq
  refine ops_nil ?_
  refine c_block ?_
  refine c_loop (G := Nat × List StateI × StateI × Nat × Option Addr × Nat × Int) (fun ⟨k, ys, s1, n1, A1, c1, tc⟩ => [(2, .pointer (some ⟨gM, 0, none⟩)), (3, .pointer (some ⟨gS, 0, none⟩)), (4, .slice none 0 0), (5, .int .i64 0), (7, .slice A1 n1 c1), (8, .int .i64 tc)]) (fun ⟨k, ys, s1, n1, A1, c1, tc⟩ wr => k ≤ nN ∧ tc = x.m.rounds * x.m.slots - k ∧ (n1 = ys.length ∧ n1 = k) ∧ belongsB m.d s1 = true ∧ iterS m.d nN s = ys ++ iterS m.d (nN - k) s1 ∧ Blk wr gS 54 s1.cells ∧ Own wr (gS + 1) 54 5 A1 n1 c1 (ys.flatMap StateI.cells) ∧ Med B wr m ∧ Blk wr gM 28 m.cells ∧ Ext w wr) (fun ⟨k, ys, s1, n1, A1, c1, tc⟩ => nN - k) (0, [], s, 0, some ⟨gO, 0, none⟩, 0, x.m.rounds * x.m.slots) (.cons rfl (.cons rfl (.cons rfl (.cons rfl (.cons rfl (.cons rfl (.nil _))))))) ?_ ?_
  · exact ⟨by omega, by omega, ⟨rfl, rfl⟩, hB, rfl, bS, oO, hm, bM, X⟩
  clear hm bM bS oO
  clear X
  rintro ⟨k, ys, s1, n1, A1, c1, tc⟩ wr ⟨hk0, htc, hn, hB1, hi, bS, oO, hm, bM, X⟩
  refine c_seq ?_
  refine c_seqR ?_
  refine ops_cons rfl (ow_move rfl ?_)
  refine ops_cons rfl (ow_gtr2 rfl rfl (fun hk => ?_) (fun hk => ?_))
  refine ops_nil ?_
  refine c_true rfl ?_
  refine c_skip ?_
  refine tq_n ?_
  refine c_seq ?_
  refine c_block ?_
  refine c_seqR ?_
  refine ops_cons rfl (ow_move rfl ?_)
  refine ops_cons rfl (ow_loadAB bS ti54 rfl rfl ?_)
  refine ops_cons rfl (ow_buildSlice el72 ti54 rfl rfl rfl rfl rfl ?_)
  intro g11 w13 eg11 oT bbg11 x12 zg11
  replace oT := Own.low oT X.size
  replace bS := bS.ext x12
  replace oO := oO.ext x12
  replace hm := hm.ext x12
  replace bM := bM.ext x12
  replace X := Ext.trans X x12; clear x12
  refine ops_cons rfl (ow_append (ts := #[]) oO bS.lt oT.sl (by first | rfl | simp) (by first | exact List.all_eq_true.1 rfl | simp [Value.oneCell']) el72 ti54 rfl rfl rfl rfl (by omega) (by omega) ?_)
  intro AoN coN w15 oN hg14
  replace bS := bS.grown hg14 (fun h => absurd (Own.lt oO h.symm).1 (by omega))
  replace hm := hm.grown hg14 (fun g hg => Nat.le_trans (Nat.le_trans Bhm (by omega : w.heap.size ≤ gS + 1)) (Own.lt oO hg).1)
  replace bM := bM.grown hg14 (fun h => Own.neT oO bM (by decide) h.symm)
  replace X := X.grown hg14 X.size (fun g hg => Nat.le_trans (by omega : w.heap.size ≤ gS + 1) (Own.lt oO hg).1)
  clear hg14
  refine ops_cons rfl (ow_assign rfl ?_)
  refine ops_nil ?_
  refine c_region ?_
  refine ops_cons rfl (ow_loadAB bM ti28 rfl rfl ?_)
  refine ops_cons rfl (ow_loadAB bS ti54 rfl rfl ?_)
  refine ops_cons rfl (ow_call ent150 rfl (ret_mono (l15Next_c m _ s1 _ hm hz hW hB1) ?_))
  rintro _ w17 ⟨rfl, x16⟩
  replace bS := bS.ext x16
  replace hm := hm.ext x16
  replace bM := bM.ext x16
  replace oN := oN.ext x16
  replace X := Ext.trans X x16; clear x16
  refine ops_cons rfl (ow_storeB bS ti54 rfl rfl rfl rfl rfl rfl ?_)
  intro w19 bS2 hg18 z20
  replace hm := hm.grown hg18 (by intro g hg; injection hg; omega)
  replace bM := bM.grown hg18 (by intro h; injection h; omega)
  replace oN := oN.grownBlk hg18 (fun h => absurd (Own.lt oN h).1 (by omega))
  replace X := X.grown hg18 X.size (by intro g hg; injection hg; omega)
  clear hg18 bS
  refine ops_nil ?_
  refine bq_n ?_
  refine tq_n ?_
  refine c_region ?_
  refine ops_cons rfl (ow_move rfl ?_)
  refine ops_cons rfl (ow_sub rfl rfl (w64 (by omega)) ?_)
  refine ops_cons rfl (ow_assign rfl ?_)
  refine ops_nil ?_
  refine tq_n ⟨(k + 1, ys ++ [s1], nextS m.d s1, n1 + 1, AoN, coN, tc - 1), (.cons rfl (.cons rfl (.cons rfl (.cons rfl (.cons rfl (.cons rfl (.nil _))))))), ?_, ?_⟩
  · exact ⟨by omega, by omega, ⟨by simp [hn.1], by omega⟩, bel_next hW hB1, (by rw [hi, show nN - k = (nN - (k + 1)) + 1 by omega, iterS]; simp), bS2, oN.to (snoc StateI.cells ys s1).symm, hm, bM, X⟩
  · first | omega | (dsimp only; omega)
  refine ops_nil ?_
  refine c_false rfl ?_
  refine c_exit ?_
  refine tq_e ?_
  refine tq_e ?_
  refine bq_e ?_
  refine tq_n ?_
  refine c_seqR ?_
  refine ops_cons rfl (ow_move rfl ?_)
  refine ops_cons rfl (ow_assign rfl ?_)
  refine ops_cons rfl (ow_assign rfl ?_)
  refine ops_nil ?_
  refine c_ret ?_
  refine fin_ret2 rfl rfl rfl ?_
  · skip
    first
    | (have e : statesF m.d s = ([], lookC m.d s) := by rw [statesF, if_neg hC]
       rw [e]; exact ⟨none, 0, rfl, Own.nil_ _ _ _ _, X⟩)
    | (have e : iterS m.d nN s = ys := by rw [hi, show nN - k = 0 by omega]; simp [iterS]
       rw [hRF, e, ← hn.1]; exact ⟨_, _, rfl, Own.low oO (by omega), X⟩)

theorem iStates_c (m : MedlI) (B : Nat) (s : StateI) (w : World) (hm : Med B w m) (hz : m.small) :
    Calls Tryz.prog 59 #[.agg m.cells.toArray, .agg s.cells.toArray] w (Ret fun v w' => ∃ A' c', v = .tuple #[.slice A' (statesF m.d s).1.length c', .int .i64 (statesF m.d s).2] ∧ Own w' w.heap.size 54 5 A' (statesF m.d s).1.length c' ((statesF m.d s).1.flatMap StateI.cells) ∧ Ext w w') := by
  have hls := hz.ls
  have hlm := hz.lm
  have hln := hz.ln
  have Bhm := hm.1
  have X := Ext.refl w
  refine calls_of (args := [.agg m.cells.toArray, .agg s.cells.toArray]) Tryz.func59 Tryz.ntmps59 rfl rfl ?_
  refine c_seqR ?_
  refine ops_cons rfl (ow_box rfl rfl ?_)
  intro gM w2 egM bM x1 zgM
  have lgM : w.heap.size ≤ gM := Nat.le_trans X.size (Nat.le_of_eq egM.symm)
  have pgMhm := Nat.le_trans hm.1 (Nat.le_of_eq egM.symm)
  replace hm := hm.ext x1
  replace X := Ext.trans X x1; clear x1
  refine ops_cons rfl (ow_box rfl rfl ?_)
  intro gS w4 egS bS x3 zgS
  have lgS : w.heap.size ≤ gS := Nat.le_trans X.size (Nat.le_of_eq egS.symm)
  have pgShm := Nat.le_trans hm.1 (Nat.le_of_eq egS.symm)
  have ngSbM := Nat.lt_of_lt_of_eq bM.lt egS.symm
  replace hm := hm.ext x3
  replace bM := bM.ext x3
  replace X := Ext.trans X x3; clear x3
  refine ops_cons rfl (ow_assign rfl ?_)
  refine ops_cons rfl (ow_assign rfl ?_)
  refine ops_nil ?_
  refine c_seq ?_
  refine c_seqR ?_
  refine ops_cons rfl (ow_loadAB bM ti28 rfl rfl ?_)
  refine ops_cons rfl (ow_loadAB bS ti54 rfl rfl ?_)
  refine ops_cons rfl (ow_call ent136 rfl (ret_mono (lookCode_c m _ s _ hm hz) ?_))
  rintro _ w6 ⟨rfl, x5⟩
  replace hm := hm.ext x5
  replace bM := bM.ext x5
  replace bS := bS.ext x5
  replace X := Ext.trans X x5; clear x5
  refine ops_cons rfl (ow_assign rfl ?_)
  refine ops_nil ?_
  refine c_seqR ?_
  refine ops_cons rfl (ow_move rfl ?_)
  refine ops_cons rfl (ow_neq2 rfl rfl (fun hC => ?_) (fun hC => ?_))
  refine ops_nil ?_
  refine c_true rfl ?_
  refine c_seqR ?_
  refine ops_cons rfl (ow_move rfl ?_)
  refine ops_cons rfl (ow_assign rfl ?_)
  refine ops_cons rfl (ow_assign rfl ?_)
  refine ops_nil ?_
  refine c_ret ?_
  refine tq_r ?_
  refine fin_ret2 rfl rfl rfl ?_
  · skip
    first
    | (have e : statesF m.d s = ([], lookC m.d s) := by rw [statesF, if_neg hC]
       rw [e]; exact ⟨none, 0, rfl, Own.nil_ _ _ _ _, X⟩)
    | (have e : iterS m.d nN s = ys := by rw [hi, show nN - k = 0 by omega]; simp [iterS]
       rw [hRF, e, ← hn.1]; exact ⟨_, _, rfl, Own.low oO (by omega), X⟩)
  have hC0 : lookC m.d s = 0 := by omega
  have hm0 := lookC_zero.1 hC0
  have wf := isMedl_iff.1 hm0.1
  have hW := wf
  have hB := hm0.2
  obtain ⟨k, x, j, y, bl, hx, hxi, hj, hy, hda, hso, hro, hno, hyd⟩ := bel_get hW hB
  have hst := stateOk_in bl.ok
  have hok : ∀ x ∈ m.ss, slotOk x = true := isST_all hW.st
  have brd := bl.rd
  have bsl := bl.sl
  have hmul := mulI hxi.1 hxi.2
  obtain ⟨nN, hnN⟩ : ∃ n : Nat, x.m.rounds * x.m.slots = (n : Int) := ⟨(x.m.rounds * x.m.slots).toNat, by omega⟩
  have hRF : statesF m.d s = (iterS m.d nN s, 0) := by rw [statesF, if_pos hC0, hso, hro, hnN]; rfl
  refine ops_nil ?_
  refine c_false rfl ?_
  refine c_skip ?_
  refine tq_n ?_
  refine c_seqI (fun wz => Med B wz m ∧ Blk wz gM 28 m.cells ∧ Blk wz gS 54 s.cells) mixed ?_
  obtain ⟨w7, ew7⟩ : ∃ wy, wy = World.drew w6 := ⟨_, rfl⟩
  rw [← ew7]
  have xd : Ext w6 w7 := ew7 ▸ Ext.drew w6
  replace hm := hm.ext xd
  replace bM := bM.ext xd
  replace bS := bS.ext xd
  replace X := Ext.trans X xd; clear xd ew7
  refine wi_take 1 rfl (by kernel_rfl) rfl (by kernel_rfl) (listed' := #[false, true, false, false, false, false, false, false, false, false]) rfl (fun wq sq => ow_fieldAddrB off28_2 rfl rfl ⟨rfl, rfl⟩) ?_
  refine wi_take 2 rfl (by kernel_rfl) rfl (by kernel_rfl) (listed' := #[false, true, true, false, false, false, false, false, false, false]) rfl (fun wq sq => ow_loadB sq.2.1 ti25 rfl rfl ⟨rfl, rfl⟩) ?_
  refine wi_take 3 rfl (by kernel_rfl) rfl (by kernel_rfl) (listed' := #[false, true, true, true, false, false, false, false, false, false]) rfl (fun wq sq => ow_fieldAddrB off54_1 rfl rfl ⟨rfl, rfl⟩) ?_
  refine wi_take 4 rfl (by kernel_rfl) rfl (by kernel_rfl) (listed' := #[false, true, true, true, true, false, false, false, false, false]) rfl (fun wq sq => ow_loadB sq.2.2 ti2 rfl rfl ⟨rfl, rfl⟩) ?_
  refine wi_take 5 rfl (by kernel_rfl) rfl (by kernel_rfl) (listed' := #[false, true, true, true, true, true, false, false, false, false]) rfl (fun wq sq => ow_indexT (sq.1).sm ModeI.len rfl el25 rfl rfl rfl hx bl.md ⟨rfl, rfl⟩) ?_
  refine wi_take 6 rfl (by kernel_rfl) rfl (by kernel_rfl) (listed' := #[false, true, true, true, true, true, true, false, false, false]) rfl (fun wq sq => ow_loadTA (sq.1).sm ModeI.len hx ti45 rfl ⟨rfl, rfl⟩) ?_
  refine wi_two 0 7 rfl rfl rfl rfl (by kernel_rfl) (listed' := #[true, true, true, true, true, true, true, false, false, false]) (listed'' := #[false, true, true, true, true, true, true, true, false, false]) rfl rfl ⟨hm, bM, bS⟩ ?_ ?_
  refine (ow_buildSlice el72 ti54 rfl rfl rfl rfl rfl ?_)
  intro gO w9 egO oO bbgO x8 zgO
  replace oO := Own.low oO (Nat.succ_le_of_lt bS.lt)
  replace hm := hm.ext x8
  replace bM := bM.ext x8
  replace bS := bS.ext x8
  replace X := Ext.trans X x8; clear x8
  refine wi_one 7 rfl rfl (by kernel_rfl) (listed' := #[true, true, true, true, true, true, true, true, false, false]) rfl ⟨hm, bM, bS⟩ (ow_alloc ti45 ?_)
  intro gX w11 egX bX x10 zgX
  have lgX : w.heap.size ≤ gX := Nat.le_trans X.size (Nat.le_of_eq egX.symm)
  have pgXhm := Nat.le_trans hm.1 (Nat.le_of_eq egX.symm)
  have ngXbM := Nat.lt_of_lt_of_eq bM.lt egX.symm
  have ngXbS := Nat.lt_of_lt_of_eq bS.lt egX.symm
  replace hm := hm.ext x10
  replace bM := bM.ext x10
  replace bS := bS.ext x10
  replace oO := oO.ext x10
  replace X := Ext.trans X x10; clear x10
  refine wi_take 8 rfl (by kernel_rfl) rfl (by kernel_rfl) (listed' := #[true, true, true, true, true, true, true, true, true, false]) rfl (fun wq sq => ow_assign rfl ⟨rfl, rfl⟩) ?_
  refine wi_one 9 rfl rfl (by kernel_rfl) (listed' := #[true, true, true, true, true, true, true, true, true, true]) rfl ⟨hm, bM, bS⟩ (ow_storeB bX ti45 rfl rfl rfl rfl rfl rfl ?_)
  intro w13 bY hg12 z14
  replace hm := hm.grown hg12 (by intro g hg; injection hg; omega)
  replace bM := bM.grown hg12 (by intro h; injection h; omega)
  replace bS := bS.grown hg12 (by intro h; injection h; omega)
  replace oO := oO.grownBlk hg12 (Own.neT oO bX (by decide))
  replace X := X.grown hg12 X.size (by intro g hg; injection hg; omega)
  clear hg12 bX
  refine wi_done rfl ⟨hm, bM, bS⟩ (fun aj fj => ⟨_, fj, ?_⟩)
  refine c_seq ?_
  refine c_seqR ?_
  refine ops_cons rfl (ow_fieldAddrB off45_0 rfl rfl ?_)
  refine ops_cons rfl (ow_loadB bY ti2 rfl rfl ?_)
  refine ops_cons rfl (ow_fieldAddrB off45_1 rfl rfl ?_)
  refine ops_cons rfl (ow_loadB bY ti2 rfl rfl ?_)
  refine ops_cons rfl (ow_mul rfl rfl (w64 (by omega)) ?_)
  refine ops_cons rfl (ow_move rfl ?_)
  refine ops_nil ?_
  refine c_block ?_
  refine c_loop (G := Nat × List StateI × StateI × Nat × Option Addr × Nat × Int) (fun ⟨k, ys, s1, n1, A1, c1, tc⟩ => [(2, .pointer (some ⟨gM, 0, none⟩)), (3, .pointer (some ⟨gS, 0, none⟩)), (4, .slice none 0 0), (5, .int .i64 0), (26, .int .i64 (x.m.rounds * x.m.slots)), (7, .slice A1 n1 c1), (27, .int .i64 (k : Nat))]) (fun ⟨k, ys, s1, n1, A1, c1, tc⟩ wr => k ≤ nN ∧ tc = x.m.rounds * x.m.slots - k ∧ (n1 = ys.length ∧ n1 = k) ∧ belongsB m.d s1 = true ∧ iterS m.d nN s = ys ++ iterS m.d (nN - k) s1 ∧ Blk wr gS 54 s1.cells ∧ Own wr (gS + 1) 54 5 A1 n1 c1 (ys.flatMap StateI.cells) ∧ Med B wr m ∧ Blk wr gM 28 m.cells ∧ Blk wr gX 45 x.cells ∧ Ext w wr) (fun ⟨k, ys, s1, n1, A1, c1, tc⟩ => nN - k) (0, [], s, 0, some ⟨gO, 0, none⟩, 0, x.m.rounds * x.m.slots) (.cons rfl (.cons rfl (.cons rfl (.cons rfl (.cons rfl (.cons rfl (.cons rfl (.nil _)))))))) ?_ ?_
  · exact ⟨by omega, by omega, ⟨rfl, rfl⟩, hB, rfl, bS, oO, hm, bM, bY, X⟩
  clear hm bM bS oO bY
  clear X
  rintro ⟨k, ys, s1, n1, A1, c1, tc⟩ wr ⟨hk0, htc, hn, hB1, hi, bS, oO, hm, bM, bY, X⟩
  refine c_seqR ?_
  refine ops_cons rfl (ow_lss2 rfl rfl (fun hk => ?_) (fun hk => ?_))
  refine ops_nil ?_
  refine c_seq ?_
  refine c_true rfl ?_
  refine c_skip ?_
  refine tq_n ?_
  refine c_seq ?_
  refine c_block ?_
  refine c_seqR ?_
  refine ops_cons rfl (ow_move rfl ?_)
  refine ops_cons rfl (ow_loadAB bS ti54 rfl rfl ?_)
  refine ops_cons rfl (ow_buildSlice el72 ti54 rfl rfl rfl rfl rfl ?_)
  intro g15 w17 eg15 oT bbg15 x16 zg15
  replace oT := Own.low oT X.size
  replace bS := bS.ext x16
  replace oO := oO.ext x16
  replace hm := hm.ext x16
  replace bM := bM.ext x16
  replace bY := bY.ext x16
  replace X := Ext.trans X x16; clear x16
  refine ops_cons rfl (ow_append (ts := #[]) oO bS.lt oT.sl (by first | rfl | simp) (by first | exact List.all_eq_true.1 rfl | simp [Value.oneCell']) el72 ti54 rfl rfl rfl rfl (by omega) (by omega) ?_)
  intro AoN coN w19 oN hg18
  replace bS := bS.grown hg18 (fun h => absurd (Own.lt oO h.symm).1 (by omega))
  replace hm := hm.grown hg18 (fun g hg => Nat.le_trans (Nat.le_trans Bhm (by omega : w.heap.size ≤ gS + 1)) (Own.lt oO hg).1)
  replace bM := bM.grown hg18 (fun h => Own.neT oO bM (by decide) h.symm)
  replace bY := bY.grown hg18 (fun h => Own.neT oO bY (by decide) h.symm)
  replace X := X.grown hg18 X.size (fun g hg => Nat.le_trans (by omega : w.heap.size ≤ gS + 1) (Own.lt oO hg).1)
  clear hg18
  refine ops_cons rfl (ow_assign rfl ?_)
  refine ops_nil ?_
  refine c_region ?_
  refine ops_cons rfl (ow_loadAB bM ti28 rfl rfl ?_)
  refine ops_cons rfl (ow_loadAB bS ti54 rfl rfl ?_)
  refine ops_cons rfl (ow_call ent149 rfl (ret_mono (nextState_c m _ s1 _ hm hz hW hB1) ?_))
  rintro _ w21 ⟨rfl, x20⟩
  replace bS := bS.ext x20
  replace hm := hm.ext x20
  replace bM := bM.ext x20
  replace bY := bY.ext x20
  replace oN := oN.ext x20
  replace X := Ext.trans X x20; clear x20
  refine ops_cons rfl (ow_storeB bS ti54 rfl rfl rfl rfl rfl rfl ?_)
  intro w23 bS2 hg22 z24
  replace hm := hm.grown hg22 (by intro g hg; injection hg; omega)
  replace bM := bM.grown hg22 (by intro h; injection h; omega)
  replace bY := bY.grown hg22 (by intro h; injection h; omega)
  replace oN := oN.grownBlk hg22 (fun h => absurd (Own.lt oN h).1 (by omega))
  replace X := X.grown hg22 X.size (by intro g hg; injection hg; omega)
  clear hg22 bS
  refine ops_nil ?_
  refine bq_n ?_
  refine tq_n ?_
  refine c_region ?_
  refine ops_cons rfl (ow_add rfl rfl (w64 (by omega)) ?_)
  refine ops_cons rfl (ow_move rfl ?_)
  refine ops_nil ?_
  refine tq_n ⟨(k + 1, ys ++ [s1], nextS m.d s1, n1 + 1, AoN, coN, tc - 1), (.cons rfl (.cons rfl (.cons rfl (.cons rfl (.cons rfl (.cons rfl (.cons rfl (.nil _)))))))), ?_, ?_⟩
  · exact ⟨by omega, by omega, ⟨by simp [hn.1], by omega⟩, bel_next hW hB1, (by rw [hi, show nN - k = (nN - (k + 1)) + 1 by omega, iterS]; simp), bS2, oN.to (snoc StateI.cells ys s1).symm, hm, bM, bY, X⟩
  · first | omega | (dsimp only; omega)
  refine ops_nil ?_
  refine c_seq ?_
  refine c_false rfl ?_
  refine c_exit ?_
  refine tq_e ?_
  refine tq_e ?_
  refine bq_e ?_
  refine tq_n ?_
  refine c_seqR ?_
  refine ops_cons rfl (ow_move rfl ?_)
  refine ops_cons rfl (ow_assign rfl ?_)
  refine ops_cons rfl (ow_assign rfl ?_)
  refine ops_nil ?_
  refine c_ret ?_
  refine fin_ret2 rfl rfl rfl ?_
  · skip
    first
    | (have e : statesF m.d s = ([], lookC m.d s) := by rw [statesF, if_neg hC]
       rw [e]; exact ⟨none, 0, rfl, Own.nil_ _ _ _ _, X⟩)
    | (have e : iterS m.d nN s = ys := by rw [hi, show nN - k = 0 by omega]; simp [iterS]
       rw [hRF, e, ← hn.1]; exact ⟨_, _, rfl, Own.low oO (by omega), X⟩)
  refine (ow_alloc ti45 ?_)
  intro gX w26 egX bX x25 zgX
  have lgX : w.heap.size ≤ gX := Nat.le_trans X.size (Nat.le_of_eq egX.symm)
  have pgXhm := Nat.le_trans hm.1 (Nat.le_of_eq egX.symm)
  have ngXbM := Nat.lt_of_lt_of_eq bM.lt egX.symm
  have ngXbS := Nat.lt_of_lt_of_eq bS.lt egX.symm
  replace hm := hm.ext x25
  replace bM := bM.ext x25
  replace bS := bS.ext x25
  replace X := Ext.trans X x25; clear x25
  refine wi_one 0 rfl rfl (by kernel_rfl) (listed' := #[true, true, true, true, true, true, true, true, false, false]) rfl ⟨hm, bM, bS⟩ (ow_buildSlice el72 ti54 rfl rfl rfl rfl rfl ?_)
  intro gO w28 egO oO bbgO x27 zgO
  replace oO := Own.low oO (Nat.succ_le_of_lt bS.lt)
  replace hm := hm.ext x27
  replace bM := bM.ext x27
  replace bS := bS.ext x27
  replace bX := bX.ext x27
  replace X := Ext.trans X x27; clear x27
  refine wi_take 8 rfl (by kernel_rfl) rfl (by kernel_rfl) (listed' := #[true, true, true, true, true, true, true, true, true, false]) rfl (fun wq sq => ow_assign rfl ⟨rfl, rfl⟩) ?_
  refine wi_one 9 rfl rfl (by kernel_rfl) (listed' := #[true, true, true, true, true, true, true, true, true, true]) rfl ⟨hm, bM, bS⟩ (ow_storeB bX ti45 rfl rfl rfl rfl rfl rfl ?_)
  intro w30 bY hg29 z31
  replace hm := hm.grown hg29 (by intro g hg; injection hg; omega)
  replace bM := bM.grown hg29 (by intro h; injection h; omega)
  replace bS := bS.grown hg29 (by intro h; injection h; omega)
  replace oO := oO.grownBlk hg29 (Own.neT oO bX (by decide))
  replace X := X.grown hg29 X.size (by intro g hg; injection hg; omega)
  clear hg29 bX
  refine wi_done rfl ⟨hm, bM, bS⟩ (fun aj fj => ⟨_, fj, ?_⟩)
  refine c_seq ?_
  refine c_seqR ?_
  refine ops_cons rfl (ow_fieldAddrB off45_0 rfl rfl ?_)
  refine ops_cons rfl (ow_loadB bY ti2 rfl rfl ?_)
  refine ops_cons rfl (ow_fieldAddrB off45_1 rfl rfl ?_)
  refine ops_cons rfl (ow_loadB bY ti2 rfl rfl ?_)
  refine ops_cons rfl (ow_mul rfl rfl (w64 (by omega)) ?_)
  refine ops_cons rfl (ow_move rfl ?_)
  refine ops_nil ?_
  refine c_block ?_
  refine c_loop (G := Nat × List StateI × StateI × Nat × Option Addr × Nat × Int) (fun ⟨k, ys, s1, n1, A1, c1, tc⟩ => [(2, .pointer (some ⟨gM, 0, none⟩)), (3, .pointer (some ⟨gS, 0, none⟩)), (4, .slice none 0 0), (5, .int .i64 0), (26, .int .i64 (x.m.rounds * x.m.slots)), (7, .slice A1 n1 c1), (27, .int .i64 (k : Nat))]) (fun ⟨k, ys, s1, n1, A1, c1, tc⟩ wr => k ≤ nN ∧ tc = x.m.rounds * x.m.slots - k ∧ (n1 = ys.length ∧ n1 = k) ∧ belongsB m.d s1 = true ∧ iterS m.d nN s = ys ++ iterS m.d (nN - k) s1 ∧ Blk wr gS 54 s1.cells ∧ Own wr (gS + 1) 54 5 A1 n1 c1 (ys.flatMap StateI.cells) ∧ Med B wr m ∧ Blk wr gM 28 m.cells ∧ Blk wr gX 45 x.cells ∧ Ext w wr) (fun ⟨k, ys, s1, n1, A1, c1, tc⟩ => nN - k) (0, [], s, 0, some ⟨gO, 0, none⟩, 0, x.m.rounds * x.m.slots) (.cons rfl (.cons rfl (.cons rfl (.cons rfl (.cons rfl (.cons rfl (.cons rfl (.nil _)))))))) ?_ ?_
  · exact ⟨by omega, by omega, ⟨rfl, rfl⟩, hB, rfl, bS, oO, hm, bM, bY, X⟩
  clear hm bM bS oO bY
  clear X
  rintro ⟨k, ys, s1, n1, A1, c1, tc⟩ wr ⟨hk0, htc, hn, hB1, hi, bS, oO, hm, bM, bY, X⟩
  refine c_seqR ?_
  refine ops_cons rfl (ow_lss2 rfl rfl (fun hk => ?_) (fun hk => ?_))
  refine ops_nil ?_
  refine c_seq ?_
  refine c_true rfl ?_
  refine c_skip ?_
  refine tq_n ?_
  refine c_seq ?_
  refine c_block ?_
  refine c_seqR ?_
  refine ops_cons rfl (ow_move rfl ?_)
  refine ops_cons rfl (ow_loadAB bS ti54 rfl rfl ?_)
  refine ops_cons rfl (ow_buildSlice el72 ti54 rfl rfl rfl rfl rfl ?_)
  intro g32 w34 eg32 oT bbg32 x33 zg32
  replace oT := Own.low oT X.size
  replace bS := bS.ext x33
  replace oO := oO.ext x33
  replace hm := hm.ext x33
  replace bM := bM.ext x33
  replace bY := bY.ext x33
  replace X := Ext.trans X x33; clear x33
  refine ops_cons rfl (ow_append (ts := #[]) oO bS.lt oT.sl (by first | rfl | simp) (by first | exact List.all_eq_true.1 rfl | simp [Value.oneCell']) el72 ti54 rfl rfl rfl rfl (by omega) (by omega) ?_)
  intro AoN coN w36 oN hg35
  replace bS := bS.grown hg35 (fun h => absurd (Own.lt oO h.symm).1 (by omega))
  replace hm := hm.grown hg35 (fun g hg => Nat.le_trans (Nat.le_trans Bhm (by omega : w.heap.size ≤ gS + 1)) (Own.lt oO hg).1)
  replace bM := bM.grown hg35 (fun h => Own.neT oO bM (by decide) h.symm)
  replace bY := bY.grown hg35 (fun h => Own.neT oO bY (by decide) h.symm)
  replace X := X.grown hg35 X.size (fun g hg => Nat.le_trans (by omega : w.heap.size ≤ gS + 1) (Own.lt oO hg).1)
  clear hg35
  refine ops_cons rfl (ow_assign rfl ?_)
  refine ops_nil ?_
  refine c_region ?_
  refine ops_cons rfl (ow_loadAB bM ti28 rfl rfl ?_)
  refine ops_cons rfl (ow_loadAB bS ti54 rfl rfl ?_)
  refine ops_cons rfl (ow_call ent149 rfl (ret_mono (nextState_c m _ s1 _ hm hz hW hB1) ?_))
  rintro _ w38 ⟨rfl, x37⟩
  replace bS := bS.ext x37
  replace hm := hm.ext x37
  replace bM := bM.ext x37
  replace bY := bY.ext x37
  replace oN := oN.ext x37
  replace X := Ext.trans X x37; clear x37
  refine ops_cons rfl (ow_storeB bS ti54 rfl rfl rfl rfl rfl rfl ?_)
  intro w40 bS2 hg39 z41
  replace hm := hm.grown hg39 (by intro g hg; injection hg; omega)
  replace bM := bM.grown hg39 (by intro h; injection h; omega)
  replace bY := bY.grown hg39 (by intro h; injection h; omega)
  replace oN := oN.grownBlk hg39 (fun h => absurd (Own.lt oN h).1 (by omega))
  replace X := X.grown hg39 X.size (by intro g hg; injection hg; omega)
  clear hg39 bS
  refine ops_nil ?_
  refine bq_n ?_
  refine tq_n ?_
  refine c_region ?_
  refine ops_cons rfl (ow_add rfl rfl (w64 (by omega)) ?_)
  refine ops_cons rfl (ow_move rfl ?_)
  refine ops_nil ?_
  refine tq_n ⟨(k + 1, ys ++ [s1], nextS m.d s1, n1 + 1, AoN, coN, tc - 1), (.cons rfl (.cons rfl (.cons rfl (.cons rfl (.cons rfl (.cons rfl (.cons rfl (.nil _)))))))), ?_, ?_⟩
  · exact ⟨by omega, by omega, ⟨by simp [hn.1], by omega⟩, bel_next hW hB1, (by rw [hi, show nN - k = (nN - (k + 1)) + 1 by omega, iterS]; simp), bS2, oN.to (snoc StateI.cells ys s1).symm, hm, bM, bY, X⟩
  · first | omega | (dsimp only; omega)
  refine ops_nil ?_
  refine c_seq ?_
  refine c_false rfl ?_
  refine c_exit ?_
  refine tq_e ?_
  refine tq_e ?_
  refine bq_e ?_
  refine tq_n ?_
  refine c_seqR ?_
  refine ops_cons rfl (ow_move rfl ?_)
  refine ops_cons rfl (ow_assign rfl ?_)
  refine ops_cons rfl (ow_assign rfl ?_)
  refine ops_nil ?_
  refine c_ret ?_
  refine fin_ret2 rfl rfl rfl ?_
  · skip
    first
    | (have e : statesF m.d s = ([], lookC m.d s) := by rw [statesF, if_neg hC]
       rw [e]; exact ⟨none, 0, rfl, Own.nil_ _ _ _ _, X⟩)
    | (have e : iterS m.d nN s = ys := by rw [hi, show nN - k = 0 by omega]; simp [iterS]
       rw [hRF, e, ← hn.1]; exact ⟨_, _, rfl, Own.low oO (by omega), X⟩)
end Go.Proofs.YtojgfbbdjobdnaaGreatDoor
namespace Go.Proofs.YtojgfbbdjobdnaaGreatDoor
open Go.RowKit
set_option linter.unusedVariables false
set_option linter.unusedSimpArgs false
set_option maxRecDepth 20000
theorem mode_at {xs : List ModeI} {mode : Int} (h : inB mode 0 ((xs.length : Int) - 1) = true) : ∃ (j : Nat) (x : ModeI), mode = (j : Int) ∧ xs[j]? = some x := by
  have h1 := inB_iff.1 h
  exact ⟨mode.toNat, xs[mode.toNat]'(by omega), by omega, List.getElem?_eq_getElem _⟩
theorem mul_in {a b : Int} (h1 : 1 ≤ a ∧ a ≤ 8) (h2 : 1 ≤ b ∧ b ≤ 16) : 1 ≤ a * b ∧ a * b ≤ 128 := by
  have h3 : 1 * 1 ≤ a * b := Int.mul_le_mul h1.1 h2.1 (by omega) (by omega)
  have h4 : a * b ≤ 8 * 16 := Int.mul_le_mul h1.2 h2.2 (by omega) (by omega)
  omega
def mcode (ms : List Mode) (ys : List Int) : Int := if isMT ms = true then (if (ys.all fun x => inB x 0 ((ms.length : Int) - 1)) = true then 0 else 2) else 1
theorem modesCode_c (A A' : Option Addr) (B B' B2 c c' : Nat) (xs : List ModeI) (ys : List Int) (w : World) (hs : Sl B w A (xs.flatMap ModeI.cells)) (hn : Nexts B2 w xs) (hl : xs.length ≤ 1048576) (hz : ∀ x ∈ xs, x.m.next.length ≤ 1048576) (ht : Sl B' w A' (ys.flatMap eI)) (hy : ys.length ≤ 1048576) :
    Calls Tryz.prog 142 #[.slice A xs.length c, .slice A' ys.length c'] w (Ret fun v w' => v = .int .i64 (mcode (xs.map (·.m)) ys) ∧ Ext w w') := by
  have Bhs := hs.1
  have Bhn := hn.1
  have Bht := ht.1
  have X := Ext.refl w
  refine calls_of (args := [.slice A xs.length c, .slice A' ys.length c']) Tryz.func142 Tryz.ntmps142 rfl rfl ?_
  refine c_seqR ?_
  refine ops_cons rfl (ow_assign rfl ?_)
  refine ops_nil ?_
  refine c_seq ?_
  refine c_seqR ?_
  refine ops_cons rfl (ow_move rfl ?_)
  refine ops_cons rfl (ow_callB ent109 rfl (iIsMT_c _ _ _ _ _ _ hs hn hl hz) (fun w2 hT x1 => ?_) (fun w2 hT x1 => ?_))
  replace hs := hs.ext x1
  replace hn := hn.ext x1
  replace ht := ht.ext x1
  replace X := Ext.trans X x1; clear x1
  refine ops_cons rfl (ow_not rfl ?_)
  refine ops_nil ?_
  refine c_false rfl ?_
  refine c_skip ?_
  refine tq_n ?_
  refine c_seq ?_
  refine c_seqR ?_
  refine ops_cons rfl (ow_move rfl ?_)
  refine ops_cons rfl (ow_move rfl ?_)
  refine ops_cons rfl (ow_len Tryz.underlying25 rfl ?_)
  refine ops_cons rfl (ow_sub rfl rfl (w64 (by omega)) ?_)
  refine ops_cons rfl (ow_callB ent168 rfl (allWithin_c _ _ _ _ _ _ _ ht hy) (fun w4 hA x3 => ?_) (fun w4 hA x3 => ?_))
  replace hs := hs.ext x3
  replace hn := hn.ext x3
  replace ht := ht.ext x3
  replace X := Ext.trans X x3; clear x3
  refine ops_cons rfl (ow_not rfl ?_)
  refine ops_nil ?_
  refine c_false rfl ?_
  refine c_skip ?_
  refine tq_n ?_
  refine c_seqR ?_
  refine ops_cons rfl (ow_assign rfl ?_)
  refine ops_nil ?_
  refine c_ret ?_
  refine fin_ret1 rfl rfl ?_
  · skip
    refine ⟨congrArg (Value.int .i64) ?_, X⟩
    first
    | (rw [mcode, if_neg (by simp [hT])]; done)
    | (rw [mcode, if_pos hT, List.length_map, if_pos hA]; done)
    | (rw [mcode, if_pos hT, List.length_map, if_neg (by simp only [hA]; simp)])
  replace hs := hs.ext x3
  replace hn := hn.ext x3
  replace ht := ht.ext x3
  replace X := Ext.trans X x3; clear x3
  refine ops_cons rfl (ow_not rfl ?_)
  refine ops_nil ?_
  refine c_true rfl ?_
  refine c_seqR ?_
  refine ops_cons rfl (ow_assign rfl ?_)
  refine ops_nil ?_
  refine c_ret ?_
  refine tq_r ?_
  refine fin_ret1 rfl rfl ?_
  · skip
    refine ⟨congrArg (Value.int .i64) ?_, X⟩
    first
    | (rw [mcode, if_neg (by simp [hT])]; done)
    | (rw [mcode, if_pos hT, List.length_map, if_pos hA]; done)
    | (rw [mcode, if_pos hT, List.length_map, if_neg (by simp only [hA]; simp)])
  replace hs := hs.ext x1
  replace hn := hn.ext x1
  replace ht := ht.ext x1
  replace X := Ext.trans X x1; clear x1
  refine ops_cons rfl (ow_not rfl ?_)
  refine ops_nil ?_
  refine c_true rfl ?_
  refine c_seqR ?_
  refine ops_cons rfl (ow_assign rfl ?_)
  refine ops_nil ?_
  refine c_ret ?_
  refine tq_r ?_
  refine fin_ret1 rfl rfl ?_
  · skip
    refine ⟨congrArg (Value.int .i64) ?_, X⟩
    first
    | (rw [mcode, if_neg (by simp [hT])]; done)
    | (rw [mcode, if_pos hT, List.length_map, if_pos hA]; done)
    | (rw [mcode, if_pos hT, List.length_map, if_neg (by simp only [hA]; simp)])

theorem iCyc_c (A : Option Addr) (B B2 c : Nat) (xs : List ModeI) (mode : Int) (w : World) (hs : Sl B w A (xs.flatMap ModeI.cells)) (hn : Nexts B2 w xs) (hl : xs.length ≤ 1048576) (hz : ∀ x ∈ xs, x.m.next.length ≤ 1048576) :
    Calls Tryz.prog 57 #[.slice A xs.length c, .int .i64 mode] w (Ret fun v w' => v = .tuple #[.int .i64 (cycM (xs.map (·.m)) mode).1, .int .i64 (cycM (xs.map (·.m)) mode).2] ∧ Ext w w') := by
  have Bhs := hs.1
  have Bhn := hn.1
  have X := Ext.refl w
  refine calls_of (args := [.slice A xs.length c, .int .i64 mode]) Tryz.func57 Tryz.ntmps57 rfl rfl ?_
  refine c_seqR ?_
  refine ops_cons rfl (ow_assign rfl ?_)
  refine ops_cons rfl (ow_assign rfl ?_)
  refine ops_nil ?_
  refine c_seq ?_
  refine c_seqR ?_
  refine ops_cons rfl (ow_move rfl ?_)
  refine ops_cons rfl (ow_move rfl ?_)
  refine ops_cons rfl (ow_buildSlice el30 ti2 rfl rfl rfl rfl rfl ?_)
  intro g1 w3 eg1 oB bbg1 x2 zg1
  replace oB := Own.low oB X.size
  replace hs := hs.ext x2
  replace hn := hn.ext x2
  replace X := Ext.trans X x2; clear x2
  replace oB := oB.to (cs' := ([mode] : List Int).flatMap eI) rfl
  refine ops_cons rfl (ow_call ent142 rfl (ret_mono (modesCode_c _ _ _ _ _ _ _ xs [mode] _ hs hn hl hz oB.sl (by simp)) ?_))
  rintro _ w5 ⟨rfl, x4⟩
  replace hs := hs.ext x4
  replace hn := hn.ext x4
  replace oB := oB.ext x4
  replace X := Ext.trans X x4; clear x4
  refine ops_cons rfl (ow_assign rfl ?_)
  refine ops_nil ?_
  refine c_seqR ?_
  refine ops_cons rfl (ow_move rfl ?_)
  refine ops_cons rfl (ow_neq2 rfl rfl (fun hC => ?_) (fun hC => ?_))
  refine ops_nil ?_
  refine c_true rfl ?_
  refine c_seqR ?_
  refine ops_cons rfl (ow_move rfl ?_)
  refine ops_cons rfl (ow_assign rfl ?_)
  refine ops_cons rfl (ow_assign rfl ?_)
  refine ops_nil ?_
  refine c_ret ?_
  refine tq_r ?_
  refine fin_ret2 rfl rfl rfl ?_
  · skip
    first
    | (have e : cycM (xs.map (·.m)) mode = (x.m.rounds * x.m.slots, 0) := by rw [cycM, if_pos hT, List.length_map, if_pos hM, hj, Int.toNat_natCast, map_at (f := (·.m)) hx]
       rw [e]; exact ⟨rfl, X⟩)
    | (have e : cycM (xs.map (·.m)) mode = (0, mcode (xs.map (·.m)) [mode]) := by
         cases hT : isMT (xs.map (·.m))
         · rw [cycM, mcode, if_neg (by simp [hT]), if_neg (by simp [hT])]
         · cases hM : inB mode 0 ((xs.length : Int) - 1)
           · rw [cycM, mcode, if_pos hT, if_pos hT, List.length_map, if_neg (by simp [hM]), if_neg (by simp [hM])]
           · exfalso; rw [mcode, if_pos hT, List.length_map, if_pos (by simp [hM])] at hC; omega
       rw [e]; exact ⟨rfl, X⟩)
  have hT : isMT (xs.map (·.m)) = true := by
    cases h : isMT (xs.map (·.m))
    · rw [mcode, if_neg (by simp [h])] at hC; omega
    · rfl
  have hM : inB mode 0 ((xs.length : Int) - 1) = true := by
    cases h : inB mode 0 ((xs.length : Int) - 1)
    · rw [mcode, if_pos hT, List.length_map, if_neg (by simp [h])] at hC; omega
    · rfl
  obtain ⟨j, x, hj, hx⟩ := mode_at hM
  have hr := modeOk_in (isMT_at hT (map_at (f := (·.m)) hx))
  have hmul := mul_in hr.1 hr.2.1
  refine ops_nil ?_
  refine c_false rfl ?_
  refine c_skip ?_
  refine tq_n ?_
  refine c_seqD [false, false, false, false, false, false, false, false, false, false, false, false, false] mixed (by kernel_rfl) ?_
  refine f_q rfl (fun wq sq => ow_move rfl ⟨rfl, Ext.refl _⟩) ?_
  refine f_q rfl (fun wq sq => ow_move rfl ⟨rfl, Ext.refl _⟩) ?_
  refine f_q rfl (fun wq sq => ow_indexT (hs.ext sq) ModeI.len rfl el25 rfl rfl rfl hx hj ⟨rfl, Ext.refl _⟩) ?_
  refine f_q rfl (fun wq sq => ow_fieldAddr off45_0 rfl ⟨rfl, Ext.refl _⟩) ?_
  refine f_q rfl (fun wq sq => ow_loadTF (hs.ext sq) ModeI.len hx ti2 rfl rfl rfl ⟨rfl, Ext.refl _⟩) ?_
  refine f_q rfl (fun wq sq => ow_move rfl ⟨rfl, Ext.refl _⟩) ?_
  refine f_q rfl (fun wq sq => ow_move rfl ⟨rfl, Ext.refl _⟩) ?_
  refine f_q rfl (fun wq sq => ow_indexT (hs.ext sq) ModeI.len rfl el25 rfl rfl rfl hx hj ⟨rfl, Ext.refl _⟩) ?_
  refine f_q rfl (fun wq sq => ow_fieldAddr off45_1 rfl ⟨rfl, Ext.refl _⟩) ?_
  refine f_q rfl (fun wq sq => ow_loadTF (hs.ext sq) ModeI.len hx ti2 rfl rfl rfl ⟨rfl, Ext.refl _⟩) ?_
  refine f_q rfl (fun wq sq => ow_mul rfl rfl (w64 (by omega)) ⟨rfl, Ext.refl _⟩) ?_
  refine f_q rfl (fun wq sq => ow_assign rfl ⟨rfl, Ext.refl _⟩) ?_
  refine f_q rfl (fun wq sq => ow_assign rfl ⟨rfl, Ext.refl _⟩) ?_
  refine f_nil (fun w6 sq => ?_)
  have xq := sq
  replace hs := hs.ext xq
  replace hn := hn.ext xq
  replace oB := oB.ext xq
  replace X := Ext.trans X xq; clear xq sq
  refine ops_nil ?_
  refine c_ret ?_
  refine fin_ret2 rfl rfl rfl ?_
  · skip
    first
    | (have e : cycM (xs.map (·.m)) mode = (x.m.rounds * x.m.slots, 0) := by rw [cycM, if_pos hT, List.length_map, if_pos hM, hj, Int.toNat_natCast, map_at (f := (·.m)) hx]
       rw [e]; exact ⟨rfl, X⟩)
    | (have e : cycM (xs.map (·.m)) mode = (0, mcode (xs.map (·.m)) [mode]) := by
         cases hT : isMT (xs.map (·.m))
         · rw [cycM, mcode, if_neg (by simp [hT]), if_neg (by simp [hT])]
         · cases hM : inB mode 0 ((xs.length : Int) - 1)
           · rw [cycM, mcode, if_pos hT, if_pos hT, List.length_map, if_neg (by simp [hM]), if_neg (by simp [hM])]
           · exfalso; rw [mcode, if_pos hT, List.length_map, if_pos (by simp [hM])] at hC; omega
       rw [e]; exact ⟨rfl, X⟩)
end Go.Proofs.YtojgfbbdjobdnaaGreatDoor
