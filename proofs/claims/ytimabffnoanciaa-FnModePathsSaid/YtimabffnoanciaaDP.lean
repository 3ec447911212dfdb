/- Ways between modes. No condition. -/
import Derived.Test.YtimabffnoanciaaDW
namespace Go.Proofs.Ytimabffnoanciaa
open Go.RowKit
set_option linter.unusedVariables false
set_option linter.unusedSimpArgs false
set_option maxRecDepth 20000
theorem low_W {b b' : Option Nat} {n B : Nat} (h : ∀ g, b = some g → B ≤ g) (hW : b' = b ∨ b' = some n) (hn : B ≤ n) : ∀ g, b' = some g → B ≤ g := fun g hg => by
  rcases hW with e | e
  · exact h g (e ▸ hg)
  · rw [e] at hg; injection hg with hg; omega
theorem ne_W {b b' : Option Nat} {n q : Nat} (h : b ≠ some q) (hW : b' = b ∨ b' = some n) (hn : q < n) : b' ≠ some q := fun hg => by
  rcases hW with e | e
  · exact h (e ▸ hg)
  · rw [e] at hg; injection hg with hg; omega
theorem findZ_find0 {p : Int → Bool} {z : Int} {xs : List Int} (h : xs.find? p = some z) : ∃ j : Nat, findZ p 0 xs = (j : Int) ∧ xs[j]? = some z := by
  obtain ⟨j, h1, h2⟩ := findZ_find p xs 0 h
  exact ⟨j, by simpa using h1, h2⟩
theorem drop_find {p : Int → Bool} {l : List Int} {k y : Int} (h0 : 0 ≤ k) (hy : l[k.toNat]? = some y) : (l.drop (k - 1 + 1).toNat).find? p = if p y = true then some y else (l.drop (k + 1).toNat).find? p := by
  obtain ⟨hk, he⟩ := List.getElem?_eq_some_iff.1 hy
  rw [show (k - 1 + 1).toNat = k.toNat by omega, show (k + 1).toNat = k.toNat + 1 by omega, List.drop_eq_getElem_cons hk, List.find?_cons, he]
  cases p y <;> simp
theorem wayF_iff {ms : List Mode} {fr : Int} {k : Nat} {v : Int} (h : (dst ms k)[fr.toNat]? = some v) : wayF ms fr (k : Int) = none ↔ (dst ms k).getD fr.toNat (-1) < 0 := by
  rw [List.getD_eq_getElem?_getD, h]
  unfold wayF
  rw [Int.toNat_natCast, h]
  simp only [Option.getD_some]
  split
  · simp [*]
  · simp; omega
theorem zero_at {ms : List Mode} {to : Nat} {r : Int} {D : List Int} (hD : Dst ms to r D) {a : Int} {f : Nat} (ha : 0 ≤ a) (hf : D[a.toNat]? = some (f : Int)) : (a = to → f = 0) ∧ (a ≠ to → 0 < f) := by
  have h := hD.z a.toNat
  refine ⟨fun e => ?_, fun e => ?_⟩
  · have h1 := h.2 (by omega)
    rw [hf] at h1; injection h1 with h1; omega
  · rcases Nat.eq_zero_or_pos f with h1 | h1
    · subst h1
      have := h.1 hf; omega
    · exact h1
theorem stepsTo_D (A : Option Addr) (B B2 c : Nat) (xs : List ModeI) (to : Int) (D : List Int) (w : World) (hs : Sl B w A (xs.flatMap ModeI.cells)) (hn : Nexts B2 w xs) (hl : xs.length ≤ 1048576) (hz : ∀ x ∈ xs, x.m.next.length ≤ 1048576) (hT : isMT (xs.map (·.m)) = true) (ht : 0 ≤ to ∧ to < xs.length) (e : dst (xs.map (·.m)) to.toNat = D) :
    Calls Try.prog 119 #[.slice A xs.length c, .int .i64 to] w (Ret fun v w' => ∃ A' c', v = .slice A' D.length c' ∧ Own w' w.heap.size 2 1 A' D.length c' (D.flatMap eI) ∧ Ext w w') := by
  subst e; exact stepsTo_c A B B2 c xs to w hs hn hl hz hT ht
theorem l11Dist_D (A : Option Addr) (B B2 c : Nat) (xs : List ModeI) (to : Int) (D : List Int) (w : World) (hs : Sl B w A (xs.flatMap ModeI.cells)) (hn : Nexts B2 w xs) (hl : xs.length ≤ 1048576) (hz : ∀ x ∈ xs, x.m.next.length ≤ 1048576) (hT : isMT (xs.map (·.m)) = true) (ht : 0 ≤ to ∧ to < xs.length) (e : dst (xs.map (·.m)) to.toNat = D) :
    Calls Try.prog 91 #[.slice A xs.length c, .int .i64 to] w (Ret fun v w' => ∃ A' c', v = .slice A' D.length c' ∧ Own w' w.heap.size 2 1 A' D.length c' (D.flatMap eI) ∧ Ext w w') := by
  subst e; exact l11Dist_c A B B2 c xs to w hs hn hl hz hT ht
set_option maxHeartbeats 400000 in
theorem modePath_c (A : Option Addr) (B B2 c : Nat) (xs : List ModeI) (fr to : Int) (w : World) (hs : Sl B w A (xs.flatMap ModeI.cells)) (hn : Nexts B2 w xs) (hl : xs.length ≤ 1048576) (hz : ∀ x ∈ xs, x.m.next.length ≤ 1048576) (hT : isMT (xs.map (·.m)) = true) (hfr : 0 ≤ fr ∧ fr < xs.length) (ht : 0 ≤ to ∧ to < xs.length) :
    Calls Try.prog 94 #[.slice A xs.length c, .int .i64 fr, .int .i64 to] w (Ret fun v w' => ∃ A' c', v = .slice A' ((wayF (xs.map (·.m)) fr to).getD []).length c' ∧ (A' = none ↔ wayF (xs.map (·.m)) fr to = none) ∧ Own w' w.heap.size 2 1 A' ((wayF (xs.map (·.m)) fr to).getD []).length c' (((wayF (xs.map (·.m)) fr to).getD []).flatMap eI) ∧ Ext w w') := by
  obtain ⟨D, hDe⟩ : ∃ D, dst (xs.map (·.m)) to.toNat = D := ⟨_, rfl⟩
  have elm : (xs.map (·.m)).length = xs.length := List.length_map ..
  have hl6 := isMT_len hT
  have hDD := dst_Dst (ms := (xs.map (·.m))) (to := to.toNat) (by rw [elm]; omega)
  rw [hDe] at hDD
  have hlD := hDD.len
  rw [elm] at hl6 hlD
  obtain ⟨v, hv⟩ : ∃ v, D[fr.toNat]? = some v := ⟨_, List.getElem?_eq_getElem (by omega)⟩
  have hvh := hDD.hi v (List.mem_of_getElem? hv)
  have hvl := hDD.lo v (List.mem_of_getElem? hv)
  have Bhs := hs.1
  have Bhn := hn.1
  have X := Ext.refl w
  refine calls_of (args := [.slice A xs.length c, .int .i64 fr, .int .i64 to]) Try.func94 Try.ntmps94 rfl rfl ?_
  refine c_seqR ?_
  refine ops_cons rfl (ow_assign rfl ?_)
  refine ops_nil ?_
  refine c_seqR ?_
  refine ops_cons rfl (ow_move rfl ?_)
  refine ops_cons rfl (ow_move rfl ?_)
  refine ops_cons rfl (ow_call ent119 rfl (ret_mono (stepsTo_D _ _ _ _ xs to D _ hs hn hl hz hT ht hDe) ?_))
  rintro _ w2 ⟨A0, c0, rfl, oD, x1⟩
  replace oD := Own.low oD X.size
  replace hs := hs.ext x1
  replace hn := hn.ext x1
  replace X := Ext.trans X x1; clear x1
  obtain ⟨BO, sO⟩ : ∃ BO, Sl BO _ A0 (D.flatMap eI) := ⟨_, oD.sl⟩
  clear oD
  refine ops_cons rfl (ow_alloc ti24 ?_)
  intro gS w4 egS b0 x3 zgS
  have lgS : w.heap.size ≤ gS := Nat.le_trans X.size (Nat.le_of_eq egS.symm)
  have pgShs := Nat.le_trans hs.1 (Nat.le_of_eq egS.symm)
  have pgShn := Nat.le_trans hn.1 (Nat.le_of_eq egS.symm)
  have pgSsO := Nat.le_trans sO.1 (Nat.le_of_eq egS.symm)
  replace hs := hs.ext x3
  replace hn := hn.ext x3
  replace sO := sO.ext x3
  replace X := Ext.trans X x3; clear x3
  refine ops_cons rfl (ow_storeB b0 ti24 rfl rfl rfl rfl rfl rfl ?_)
  intro w6 bS hg5 z7
  replace hs := hs.grown hg5 (by intro g hg; injection hg; omega)
  replace hn := hn.grown hg5 (by intro g hg; injection hg; omega)
  replace sO := sO.grown hg5 (by intro g hg; injection hg; omega)
  replace X := X.grown hg5 X.size (by intro g hg; injection hg; omega)
  clear hg5 b0
  refine ops_nil ?_
  refine c_seq ?_
  refine c_seqR ?_
  refine ops_cons rfl (ow_loadB bS ti24 rfl rfl ?_)
  refine ops_cons rfl (ow_move rfl ?_)
  refine ops_cons rfl (ow_indexT sO eI_len rfl el24 rfl rfl rfl hv (by omega) ?_)
  refine ops_cons rfl (ow_loadT sO eI_len hv ti2 rfl rfl rfl ?_)
  refine ops_cons rfl (ow_lss2 rfl rfl (fun h0 => ?_) (fun h0 => ?_))
  · skip
    refine ops_nil ?_
    refine c_true rfl ?_
    refine c_seqR ?_
    refine ops_cons rfl (ow_assign rfl ?_)
    refine ops_nil ?_
    refine c_ret ?_
    refine tq_r ?_
    refine fin_ret1 rfl rfl ?_
    first
    | (have e : wayF (xs.map (·.m)) fr to = none := wayF_none (by rw [hDe]; exact hv) h0
       rw [e]; exact ⟨none, 0, rfl, by simp, Own.nil_ _ _ _ _, X⟩)
    | (have e : wayF (xs.map (·.m)) fr to = some (fr :: wayN (xs.map (·.m)) D v.toNat fr) := by rw [wayF_some (v := v) (by rw [hDe]; exact hv) (by omega), hDe]
       rw [e]
       have eP : P = fr :: wayN (xs.map (·.m)) D v.toNat fr := by rw [← hP]; simp [wayN]
       show ∃ A' c', _ = Value.slice A' (fr :: wayN (xs.map (·.m)) D v.toNat fr).length c' ∧ _ ∧ Own _ _ _ _ _ (fr :: wayN (xs.map (·.m)) D v.toNat fr).length _ ((fr :: wayN (xs.map (·.m)) D v.toNat fr).flatMap eI) ∧ _
       rw [← eP, ← hn1]
       refine ⟨A1, c1, rfl, ⟨fun h => ?_, fun h => by simp at h⟩, oP, X⟩
       subst h
       have := Sl.none_nil oP.sl eI_len (by omega)
       rw [eP] at this; cases this)
  · skip
    refine ops_nil ?_
    refine c_false rfl ?_
    refine c_skip ?_
    refine tq_n ?_
    refine c_seqR ?_
    refine ops_cons rfl (ow_move rfl ?_)
    have pD := sO.1
    refine ops_cons rfl (ow_buildSlice el24 ti2 rfl rfl rfl rfl rfl ?_)
    intro gP w9 egP oP bbgP x8 zgP
    replace oP := Own.low oP X.size
    replace hs := hs.ext x8
    replace hn := hn.ext x8
    replace sO := sO.ext x8
    replace bS := bS.ext x8
    replace X := Ext.trans X x8; clear x8
    replace oP := oP.to (cs' := ([fr] : List Int).flatMap eI) rfl
    have hPB : ∀ g, (Value.slice (some ⟨gP, 0, none⟩) 1 1).ownBlock = some g → BO ≤ g := fun g h => by have h2 : gP = g := (by injection h); omega
    have hPg := fun g hg => (Own.lt oP (g := g) hg).2
    refine ops_cons rfl (ow_assign rfl ?_)
    refine ops_nil ?_
    refine c_seq ?_
    refine c_seqR ?_
    refine ops_cons rfl (ow_move rfl ?_)
    have hPg := fun g hg => (Own.lt oP (g := g) hg).2
    refine ops_cons rfl (ow_alloc ti2 ?_)
    intro gM w11 egM b1 x10 zgM
    have lgM : w.heap.size ≤ gM := Nat.le_trans X.size (Nat.le_of_eq egM.symm)
    have pgMhs := Nat.le_trans hs.1 (Nat.le_of_eq egM.symm)
    have pgMhn := Nat.le_trans hn.1 (Nat.le_of_eq egM.symm)
    have pgMsO := Nat.le_trans sO.1 (Nat.le_of_eq egM.symm)
    have ngMbS := Nat.lt_of_lt_of_eq bS.lt egM.symm
    replace hs := hs.ext x10
    replace hn := hn.ext x10
    replace sO := sO.ext x10
    replace bS := bS.ext x10
    replace oP := oP.ext x10
    replace X := Ext.trans X x10; clear x10
    have hPM : (Value.slice (some ⟨gP, 0, none⟩) 1 1).ownBlock ≠ some gM := fun h => by have := hPg gM h; omega
    refine ops_cons rfl (ow_storeB b1 ti2 rfl rfl rfl rfl rfl rfl ?_)
    intro w13 bM hg12 z14
    replace hs := hs.grown hg12 (by intro g hg; injection hg; omega)
    replace hn := hn.grown hg12 (by intro g hg; injection hg; omega)
    replace sO := sO.grown hg12 (by intro g hg; injection hg; omega)
    replace bS := bS.grown hg12 (by intro h; injection h; omega)
    replace oP := oP.grownBlk hg12 hPM
    replace X := X.grown hg12 X.size (by intro g hg; injection hg; omega)
    clear hg12 b1
    refine ops_nil ?_
    refine c_block ?_
    refine c_loop (G := Int × Nat × List Int × Nat × Option Addr × Nat × Nat) (fun ⟨a, f, P, n1, A1, c1, gM⟩ => [(0, .slice A xs.length c), (2, .int .i64 to), (6, .slice none 0 0), (7, .pointer (some ⟨gS, 0, none⟩)), (8, .slice A1 n1 c1), (9, .pointer (some ⟨gM, 0, none⟩))]) (fun ⟨a, f, P, n1, A1, c1, gM⟩ wr => (0 ≤ a ∧ a < xs.length) ∧ D[a.toNat]? = some ((f : Nat) : Int) ∧ P ++ wayN (xs.map (·.m)) D f a = fr :: wayN (xs.map (·.m)) D v.toNat fr ∧ n1 = P.length ∧ P.length + f ≤ 17 ∧ (∀ g, (Value.slice A1 n1 c1).ownBlock = some g → BO ≤ g) ∧ BO ≤ gM ∧ (B ≤ gM ∧ B2 ≤ gM) ∧ w.heap.size ≤ gM ∧ gS < gM ∧ (Value.slice A1 n1 c1).ownBlock ≠ some gM ∧ Own wr w.heap.size 2 1 A1 n1 c1 (P.flatMap eI) ∧ Blk wr gM 2 [.int .i64 a] ∧ Sl B wr A (xs.flatMap ModeI.cells) ∧ Nexts B2 wr xs ∧ Sl BO wr A0 (D.flatMap eI) ∧ Blk wr gS 24 [.slice A0 D.length c0] ∧ Ext w wr) (fun ⟨a, f, P, n1, A1, c1, gM⟩ => f) (fr, v.toNat, [fr], 1, some ⟨gP, 0, none⟩, 1, gM) (.cons rfl (.cons rfl (.cons rfl (.cons rfl (.cons rfl (.cons rfl (.nil _))))))) ?_ ?_
    · exact ⟨hfr, (by rw [hv]; congr 1; omega), rfl, rfl, (by show 1 + v.toNat ≤ 17; omega), hPB, by omega, by omega, by omega, by omega, hPM, oP, bM, hs, hn, sO, bS, X⟩
    clear hs hn sO bS oP bM
    clear X
    rintro ⟨a, f, P, n1, A1, c1, gM⟩ wr ⟨ha, hf, hP, hn1, hPl, hPB, hBM, hB2, hlM, hSM, hPM, oP, bM, hs, hn, sO, bS, X⟩
    refine c_seq ?_
    refine c_seqR ?_
    refine ops_cons rfl (ow_loadB bM ti2 rfl rfl ?_)
    refine ops_cons rfl (ow_move rfl ?_)
    refine ops_cons rfl (ow_neq2 rfl rfl (fun hne => ?_) (fun hne => ?_))
    · skip
      obtain ⟨x, hx⟩ : ∃ x, xs[a.toNat]? = some x := ⟨_, List.getElem?_eq_getElem (by omega)⟩
      have hmx := map_at (f := (·.m)) hx
      have hnx := hn.at_ hx
      have hlx := hz x (List.mem_of_getElem? hx)
      have hnI := nextAt_in hT hmx
      rw [elm] at hnI
      have hf1 := (zero_at hDD ha.1 hf).2 (by omega)
      obtain ⟨f1, rfl⟩ : ∃ f1, f = f1 + 1 := ⟨f - 1, by omega⟩
      obtain ⟨z, hfz, hw, hzm, hzf, hz0, hz1⟩ := way_step hT hDD hmx hf
      rw [elm] at hz1
      obtain ⟨j, hj, hjz⟩ := findZ_find0 hfz
      refine ops_nil ?_
      refine c_true rfl ?_
      refine c_skip ?_
      refine tq_n ?_
      refine c_seq ?_
      refine c_block ?_
      refine c_seqR ?_
      refine ops_cons rfl (ow_move rfl ?_)
      refine ops_cons rfl (ow_loadB bM ti2 rfl rfl ?_)
      refine ops_cons rfl (ow_indexT hs ModeI.len rfl el60 rfl rfl rfl hx (by omega) ?_)
      refine ops_cons rfl (ow_fieldAddr off114_2 rfl ?_)
      refine ops_cons rfl (ow_loadTF hs ModeI.len hx ti24 rfl rfl rfl ?_)
      refine ops_cons rfl (ow_makeFunc rfl ?_)
      refine ops_cons rfl (ow_call ent120 rfl (ret_mono (idxGI_c x.A _ x.c x.m.next 121 [.pointer (some ⟨gS, 0, none⟩), .pointer (some ⟨gM, 0, none⟩)] (hitD D f1) (fun w => Blk w gS 24 [.slice A0 D.length c0] ∧ Blk w gM 2 [.int .i64 a] ∧ Sl BO w A0 (D.flatMap eI)) _ hnx hlx ent121 ⟨(fun _ _ h k => ⟨h.1.ext k, h.2.1.ext k, h.2.2.ext k⟩), bS, bM, sO⟩ (fun z w1 h1 hz => path1_c A0 BO c0 gS gM D z a f1 w1 h1.1 h1.2.1 h1.2.2 (by have := hnI z hz; omega) ha.1 hf (by omega))) ?_))
      rintro _ w16 ⟨rfl, x15⟩
      replace oP := oP.ext x15
      replace bM := bM.ext x15
      replace hs := hs.ext x15
      replace hn := hn.ext x15
      replace sO := sO.ext x15
      replace bS := bS.ext x15
      replace hnx := hnx.ext x15
      replace X := Ext.trans X x15; clear x15
      rw [hj]
      refine ops_cons rfl (ow_assign rfl ?_)
      refine ops_nil ?_
      refine c_region ?_
      refine ops_cons rfl (ow_move rfl ?_)
      refine ops_cons rfl (ow_loadB bM ti2 rfl rfl ?_)
      refine ops_cons rfl (ow_indexT hs ModeI.len rfl el60 rfl rfl rfl hx (by omega) ?_)
      refine ops_cons rfl (ow_fieldAddr off114_2 rfl ?_)
      refine ops_cons rfl (ow_loadTF hs ModeI.len hx ti24 rfl rfl rfl ?_)
      refine ops_cons rfl (ow_move rfl ?_)
      refine ops_cons rfl (ow_indexT hnx eI_len rfl el24 rfl rfl rfl hjz rfl ?_)
      refine ops_cons rfl (ow_loadT hnx eI_len hjz ti2 rfl rfl rfl ?_)
      refine ops_cons rfl (ow_storeB bM ti2 rfl rfl rfl rfl rfl rfl ?_)
      intro w18 bN hg17 z19
      replace oP := oP.grownBlk hg17 hPM
      replace hs := hs.grown hg17 (by intro g hg; injection hg; omega)
      replace hn := hn.grown hg17 (by intro g hg; injection hg; omega)
      replace sO := sO.grown hg17 (by intro g hg; injection hg; omega)
      replace bS := bS.grown hg17 (by intro h; injection h; omega)
      replace hnx := hnx.grown hg17 (by intro g hg; injection hg; omega)
      replace X := X.grown hg17 X.size (by intro g hg; injection hg; omega)
      clear hg17 bM
      refine ops_nil ?_
      refine bq_n ?_
      refine tq_n ?_
      refine c_seq ?_
      refine c_seqR ?_
      refine ops_cons rfl (ow_loadB bN ti2 rfl rfl ?_)
      refine ops_nil ?_
      refine c_region ?_
      have hPg := fun g hg => (Own.lt oP (g := g) hg).2
      refine ops_cons rfl (ow_alloc ti2 ?_)
      intro gQ w21 egQ b2 x20 zgQ
      have lgQ : w.heap.size ≤ gQ := Nat.le_trans X.size (Nat.le_of_eq egQ.symm)
      have pgQhs := Nat.le_trans hs.1 (Nat.le_of_eq egQ.symm)
      have pgQhn := Nat.le_trans hn.1 (Nat.le_of_eq egQ.symm)
      have pgQsO := Nat.le_trans sO.1 (Nat.le_of_eq egQ.symm)
      have ngQbS := Nat.lt_of_lt_of_eq bS.lt egQ.symm
      have pgQhnx := Nat.le_trans hnx.1 (Nat.le_of_eq egQ.symm)
      have ngQbN := Nat.lt_of_lt_of_eq bN.lt egQ.symm
      replace oP := oP.ext x20
      replace hs := hs.ext x20
      replace hn := hn.ext x20
      replace sO := sO.ext x20
      replace bS := bS.ext x20
      replace hnx := hnx.ext x20
      replace bN := bN.ext x20
      replace X := Ext.trans X x20; clear x20
      have hPQ : (Value.slice A1 n1 c1).ownBlock ≠ some gQ := fun h => by have := hPg gQ h; omega
      refine ops_cons rfl (ow_storeB b2 ti2 rfl rfl rfl rfl rfl rfl ?_)
      intro w23 bQ hg22 z24
      replace oP := oP.grownBlk hg22 hPQ
      replace hs := hs.grown hg22 (by intro g hg; injection hg; omega)
      replace hn := hn.grown hg22 (by intro g hg; injection hg; omega)
      replace sO := sO.grown hg22 (by intro g hg; injection hg; omega)
      replace bS := bS.grown hg22 (by intro h; injection h; omega)
      replace hnx := hnx.grown hg22 (by intro g hg; injection hg; omega)
      replace bN := bN.grown hg22 (by intro h; injection h; omega)
      replace X := X.grown hg22 X.size (by intro g hg; injection hg; omega)
      clear hg22 b2
      refine ops_nil ?_
      refine tq_n ?_
      refine c_region ?_
      refine ops_cons rfl (ow_move rfl ?_)
      refine ops_cons rfl (ow_loadB bQ ti2 rfl rfl ?_)
      refine ops_cons rfl (ow_buildSlice el24 ti2 rfl rfl rfl rfl rfl ?_)
      intro g25 w27 eg25 oV bbg25 x26 zg25
      replace oV := Own.low oV X.size
      replace oP := oP.ext x26
      replace hs := hs.ext x26
      replace hn := hn.ext x26
      replace sO := sO.ext x26
      replace bS := bS.ext x26
      replace hnx := hnx.ext x26
      replace bQ := bQ.ext x26
      replace X := Ext.trans X x26; clear x26
      replace oV := oV.to (cs' := ([z] : List Int).flatMap eI) rfl
      have pD := sO.1
      have qQ := bQ.lt
      refine ops_cons rfl (ow_appendW (ts := #[]) oP X.size oV.sl (by first | rfl | simp) (by first | exact List.all_eq_true.1 rfl | simp [Value.oneCell']) el24 ti2 rfl rfl rfl rfl (by omega) (by omega) ?_)
      intro AoN coN w29 oN hg28 hW
      replace hs := hs.grown hg28 (fun g hg => Nat.le_trans Bhs (Own.lt oP hg).1)
      replace hn := hn.grown hg28 (fun g hg => Nat.le_trans Bhn (Own.lt oP hg).1)
      replace sO := sO.grown hg28 hPB
      replace bS := bS.grown hg28 (fun h => Own.neT oP bS (by decide) h.symm)
      replace hnx := hnx.grown hg28 (fun g hg => Nat.le_trans Bhn (Own.lt oP hg).1)
      replace bQ := bQ.grown hg28 (fun h => hPQ h.symm)
      replace X := X.grown hg28 X.size (fun g hg => (Own.lt oP hg).1)
      clear hg28
      have hPB2 := low_W hPB hW pD
      have hPM2 := ne_W hPQ hW qQ
      refine ops_cons rfl (ow_assign rfl ?_)
      refine ops_nil ?_
      refine tq_n ⟨(z, f1, P ++ [z], n1 + 1, AoN, coN, gQ), (.cons rfl (.cons rfl (.cons rfl (.cons rfl (.cons rfl (.cons rfl (.nil _))))))), ?_, ?_⟩
      · exact ⟨⟨hz0, hz1⟩, hzf, (by rw [← hP, hw]; simp), (by simp [hn1]), (by rw [List.length_append]; simp only [List.length_cons, List.length_nil]; omega), hPB2, by omega, by omega, by omega, by omega, hPM2, oN.to (snoc eI P z).symm, bQ, hs, hn, sO, bS, X⟩
      · first | omega | (dsimp only; omega)
    · skip
      have hf0 := (zero_at hDD ha.1 hf).1 (by omega)
      subst hf0
      refine ops_nil ?_
      refine c_false rfl ?_
      refine c_exit ?_
      refine tq_e ?_
      refine tq_e ?_
      refine bq_e ?_
      refine tq_n ?_
      refine c_seqR ?_
      refine ops_cons rfl (ow_move rfl ?_)
      refine ops_cons rfl (ow_assign rfl ?_)
      refine ops_nil ?_
      refine c_ret ?_
      refine fin_ret1 rfl rfl ?_
      first
      | (have e : wayF (xs.map (·.m)) fr to = none := wayF_none (by rw [hDe]; exact hv) h0
         rw [e]; exact ⟨none, 0, rfl, by simp, Own.nil_ _ _ _ _, X⟩)
      | (have e : wayF (xs.map (·.m)) fr to = some (fr :: wayN (xs.map (·.m)) D v.toNat fr) := by rw [wayF_some (v := v) (by rw [hDe]; exact hv) (by omega), hDe]
         rw [e]
         have eP : P = fr :: wayN (xs.map (·.m)) D v.toNat fr := by rw [← hP]; simp [wayN]
         show ∃ A' c', _ = Value.slice A' (fr :: wayN (xs.map (·.m)) D v.toNat fr).length c' ∧ _ ∧ Own _ _ _ _ _ (fr :: wayN (xs.map (·.m)) D v.toNat fr).length _ ((fr :: wayN (xs.map (·.m)) D v.toNat fr).flatMap eI) ∧ _
         rw [← eP, ← hn1]
         refine ⟨A1, c1, rfl, ⟨fun h => ?_, fun h => by simp at h⟩, oP, X⟩
         subst h
         have := Sl.none_nil oP.sl eI_len (by omega)
         rw [eP] at this; cases this)
end Go.Proofs.Ytimabffnoanciaa
