/- Tables of bookings. No condition. -/
import Derived.Test.YtimabffnoanciaaPP
namespace Go.Proofs.Ytimabffnoanciaa
open Go.RowKit
set_option linter.unusedVariables false
set_option linter.unusedSimpArgs false
set_option maxRecDepth 20000
theorem bookAll_c (A : Option Addr) (B c : Nat) (xs : List Dem) (R S : Nat) (A2 : Option Addr) (B2 c2 : Nat) (bks : List Bk) (w : World) (hs : Sl B w A (xs.flatMap Dem.cells)) (ht2 : Sl B2 w A2 (bks.flatMap Bk.cells)) (hE : ∀ d ∈ xs, 1 ≤ d.every ∧ d.every ≤ 8) (hl : xs.length ≤ 40) (hl2 : bks.length ≤ 1048576) (hR : 1 ≤ R ∧ R ≤ 8) (hS : 1 ≤ S ∧ S ≤ 16) :
    Calls Try.prog 86 #[.slice A xs.length c, .int .i64 (R : Nat), .int .i64 (S : Nat), .slice A2 bks.length c2] w (Ret fun v w' => ∃ A' c' ys, v = .tuple #[.slice A' (List.length ys) c', .bool (tabL xs bks 0 (tab0 R S)).isSome] ∧ ((tabL xs bks 0 (tab0 R S)).isSome = true → tblOf ys = (tabL xs bks 0 (tab0 R S)).getD []) ∧ Disj ys ∧ Own w' w.heap.size 24 1 A' ys.length c' (ys.flatMap rowC) ∧ NOwn w' w.heap.size 2 ys ∧ Ext w w') := by
  have Bhs := hs.1
  have Bht2 := ht2.1
  have X := Ext.refl w
  refine calls_of (args := [.slice A xs.length c, .int .i64 (R : Nat), .int .i64 (S : Nat), .slice A2 bks.length c2]) Try.func86 Try.ntmps86 rfl rfl ?_
  refine c_seqR ?_
  refine ops_cons rfl (ow_assign rfl ?_)
  refine ops_cons rfl (ow_assign rfl ?_)
  refine ops_nil ?_
  refine c_seq ?_
  refine c_seqR ?_
  refine ops_cons rfl (ow_move rfl ?_)
  refine ops_cons rfl (ow_len Try.underlying45 rfl ?_)
  refine ops_cons rfl (ow_move rfl ?_)
  refine ops_cons rfl (ow_len Try.underlying36 rfl ?_)
  refine ops_cons rfl (ow_neq2 rfl rfl (fun hne => ?_) (fun hne => ?_))
  · skip
    refine ops_nil ?_
    refine c_true rfl ?_
    refine c_seqR ?_
    refine ops_cons rfl (ow_assign rfl ?_)
    refine ops_cons rfl (ow_assign rfl ?_)
    refine ops_nil ?_
    refine c_ret ?_
    refine tq_r ?_
    refine fin_ret2 rfl rfl rfl ?_
    first
    | (have hY : (tabL xs bks 0 (tab0 R S)) = some (tblOf ys) := by rw [hq, List.drop_of_length_le (by omega), List.drop_of_length_le (by omega)]; rfl
       rw [← hyl] at oT ⊢
       rw [hY]; exact ⟨AT, cT, ys, rfl, fun _ => rfl, hd, oT, oN, X⟩)
    | (rw [hN]; exact ⟨none, 0, [], rfl, (fun h => by cases h), Disj.nil_, Own.nil_ _ _ _ _, NOwn.nil_, X⟩)
    | (have hN : (tabL xs bks 0 (tab0 R S)) = none := by
         cases h : (tabL xs bks 0 (tab0 R S)) with
         | none => rfl
         | some T' => exact absurd (tabL_len _ _ _ _ _ h) (by omega)
       rw [hN]; exact ⟨none, 0, [], rfl, (fun h => by cases h), Disj.nil_, Own.nil_ _ _ _ _, NOwn.nil_, X⟩)
  · skip
    refine ops_nil ?_
    refine c_false rfl ?_
    refine c_skip ?_
    refine tq_n ?_
    refine c_seqR ?_
    refine ops_cons rfl (ow_move rfl ?_)
    refine ops_cons rfl (ow_move rfl ?_)
    refine ops_cons rfl (ow_call ent112 rfl (ret_mono (iEmpty_c R S _ hR.2 hS) ?_))
    rintro _ w2 ⟨AT, cT, y0, rfl, em, hdj, oT, oTn, x1⟩
    replace oT := Own.low oT X.size
    replace oTn := NOwn.low oTn X.size
    replace hs := hs.ext x1
    replace ht2 := ht2.ext x1
    replace X := Ext.trans X x1; clear x1
    have hy0 : y0.length = R := by rw [← tblOf_len, em]; exact (tab0_tab R S).1
    refine ops_cons rfl (ow_assign rfl ?_)
    refine ops_nil ?_
    refine c_seq ?_
    refine c_seqR ?_
    refine ops_cons rfl (ow_move rfl ?_)
    refine ops_cons rfl (ow_len Try.underlying36 rfl ?_)
    refine ops_cons rfl (ow_move rfl ?_)
    refine ops_nil ?_
    refine c_block ?_
    refine c_loop (G := Nat × List ModeI) (fun ⟨k, ys⟩ => [(3, .slice A2 bks.length c2), (21, .slice A xs.length c), (22, .int .i64 (xs.length : Nat)), (10, .slice AT y0.length cT), (23, .int .i64 (k : Nat))]) (fun ⟨k, ys⟩ wr => k ≤ xs.length ∧ ys.length = y0.length ∧ Tab R S (tblOf ys) ∧ Disj ys ∧ (tabL xs bks 0 (tab0 R S)) = tabL (xs.drop k) (bks.drop k) k (tblOf ys) ∧ Own wr w.heap.size 24 1 AT y0.length cT (ys.flatMap rowC) ∧ NOwn wr w.heap.size 2 ys ∧ Sl B wr A (xs.flatMap Dem.cells) ∧ Sl B2 wr A2 (bks.flatMap Bk.cells) ∧ Ext w wr) (fun ⟨k, ys⟩ => xs.length - k) (0, y0) (.cons rfl (.cons rfl (.cons rfl (.cons rfl (.cons rfl (.nil _)))))) ?_ ?_
    · exact ⟨by omega, rfl, (by rw [em]; exact tab0_tab R S), hdj, (by rw [em]; rfl), oT, oTn, hs, ht2, X⟩
    clear hs ht2 oT oTn
    clear X
    rintro ⟨k, ys⟩ wr ⟨hk0, hyl, hT, hd, hq, oT, oN, hs, ht2, X⟩
    refine c_seqR ?_
    refine ops_cons rfl (ow_lss2 rfl rfl (fun hk => ?_) (fun hk => ?_))
    · skip
      obtain ⟨x, hx, dx⟩ := drop_at' hk
      have hex := hE x (List.mem_of_getElem? hx)
      obtain ⟨b, hb, db⟩ := drop_at (xs := bks) (k := k) (by omega)
      refine ops_nil ?_
      refine c_seq ?_
      refine c_true rfl ?_
      refine c_skip ?_
      refine tq_n ?_
      refine c_seq ?_
      refine c_block ?_
      refine c_seqR ?_
      refine ops_cons rfl (ow_move rfl ?_)
      refine ops_cons rfl (ow_indexT hs Dem.len rfl el36 rfl rfl rfl hx rfl ?_)
      refine ops_cons rfl (ow_loadTA hs Dem.len hx ti79 rfl ?_)
      refine ops_cons rfl (ow_alloc ti79 ?_)
      intro gD w4 egD bD x3 zgD
      have lgD : w.heap.size ≤ gD := Nat.le_trans X.size (Nat.le_of_eq egD.symm)
      have pgDhs := Nat.le_trans hs.1 (Nat.le_of_eq egD.symm)
      have pgDht2 := Nat.le_trans ht2.1 (Nat.le_of_eq egD.symm)
      replace oT := oT.ext x3
      replace oN := oN.ext x3
      replace hs := hs.ext x3
      replace ht2 := ht2.ext x3
      replace X := Ext.trans X x3; clear x3
      refine ops_cons rfl (ow_assign rfl ?_)
      refine ops_cons rfl (ow_storeB bD ti79 rfl rfl rfl rfl rfl rfl ?_)
      intro w6 bD2 hg5 z7
      replace oT := oT.grownBlk hg5 (Own.neT oT bD (by decide))
      replace oN := oN.grownB bD hg5 (by decide)
      replace hs := hs.grown hg5 (by intro g hg; injection hg; omega)
      replace ht2 := ht2.grown hg5 (by intro g hg; injection hg; omega)
      replace X := X.grown hg5 X.size (by intro g hg; injection hg; omega)
      clear hg5 bD
      refine ops_nil ?_
      refine c_seqI (fun wz => Blk wz gD 79 x.cells ∧ Sl B2 wz A2 (bks.flatMap Bk.cells)) mixed ?_
      obtain ⟨w8, ew8⟩ : ∃ wy, wy = World.drew w6 := ⟨_, rfl⟩
      rw [← ew8]
      have xd : Ext w6 w8 := ew8 ▸ Ext.drew w6
      replace oT := oT.ext xd
      replace oN := oN.ext xd
      replace hs := hs.ext xd
      replace ht2 := ht2.ext xd
      replace bD2 := bD2.ext xd
      replace X := Ext.trans X xd; clear xd ew8
      refine wi_take 0 rfl (by kernel_rfl) rfl (by kernel_rfl) (listed' := #[true, false, false, false, false, false, false, false, false]) rfl (fun wq sq => ow_move rfl ⟨rfl, rfl⟩) ?_
      refine wi_take 1 rfl (by kernel_rfl) rfl (by kernel_rfl) (listed' := #[true, true, false, false, false, false, false, false, false]) rfl (fun wq sq => ow_loadAB sq.1 ti79 rfl rfl ⟨rfl, rfl⟩) ?_
      refine wi_take 2 rfl (by kernel_rfl) rfl (by kernel_rfl) (listed' := #[true, true, true, false, false, false, false, false, false]) rfl (fun wq sq => ow_move rfl ⟨rfl, rfl⟩) ?_
      refine wi_take 3 rfl (by kernel_rfl) rfl (by kernel_rfl) (listed' := #[true, true, true, true, false, false, false, false, false]) rfl (fun wq sq => ow_move rfl ⟨rfl, rfl⟩) ?_
      refine wi_take 4 rfl (by kernel_rfl) rfl (by kernel_rfl) (listed' := #[true, true, true, true, true, false, false, false, false]) rfl (fun wq sq => ow_indexT sq.2 Bk.len rfl el45 rfl rfl rfl hb rfl ⟨rfl, rfl⟩) ?_
      refine wi_take 5 rfl (by kernel_rfl) rfl (by kernel_rfl) (listed' := #[true, true, true, true, true, true, false, false, false]) rfl (fun wq sq => ow_loadTA sq.2 Bk.len hb ti102 rfl ⟨rfl, rfl⟩) ?_
      refine wi_take 6 rfl (by kernel_rfl) rfl (by kernel_rfl) (listed' := #[true, true, true, true, true, true, true, false, false]) rfl (fun wq sq => ow_move rfl ⟨rfl, rfl⟩) ?_
      refine wi_one 7 rfl rfl (by kernel_rfl) (listed' := #[true, true, true, true, true, true, true, true, false]) rfl ⟨bD2, ht2⟩ (ow_call ent113 rfl (ret_mono (by have h := book_c AT cT w.heap.size _ ys R S x b (k : Int) _ (by rw [hyl]; exact oT) oN hd (fun y hy g hg => (Own.lt (oN y hy).1 hg).2) X.size hT hR hS hex; rw [hyl] at h; exact h) ?_))
      rintro _ wM ⟨zs, rfl, eZ, hdZ, hlZ, oTZ, oNZ, xM⟩
      have xB := xM.below X.size
      replace hs := hs.below (Below.mono xB Bhs)
      replace bD2 := bD2.kep xM.kep (by decide)
      replace X := Below.trans X xB
      replace ht2 := ht2.below (Below.mono xB Bht2)
      replace oT := oTZ
      replace oN := oNZ
      cases hF : (fitsB (tblOf ys) x.every b)
      · skip
        have hN : (tabL xs bks 0 (tab0 R S)) = none := by rw [hq, dx, db, tabL_no hF]
        refine wi_take 8 rfl (by kernel_rfl) rfl (by kernel_rfl) (listed' := #[true, true, true, true, true, true, true, true, true]) rfl (fun wq sq => ow_not rfl ⟨rfl, rfl⟩) ?_
        refine wi_done rfl ⟨bD2, ht2⟩ (fun aj fj => ⟨_, fj, ?_⟩)
        refine c_true rfl ?_
        refine c_seqR ?_
        refine ops_cons rfl (ow_assign rfl ?_)
        refine ops_cons rfl (ow_assign rfl ?_)
        refine ops_nil ?_
        refine c_ret ?_
        refine bq_r ?_
        refine tq_r ?_
        refine tq_r ?_
        refine bq_r ?_
        refine tq_r ?_
        refine fin_ret2 rfl rfl rfl ?_
        first
        | (have hY : (tabL xs bks 0 (tab0 R S)) = some (tblOf ys) := by rw [hq, List.drop_of_length_le (by omega), List.drop_of_length_le (by omega)]; rfl
           rw [← hyl] at oT ⊢
           rw [hY]; exact ⟨AT, cT, ys, rfl, fun _ => rfl, hd, oT, oN, X⟩)
        | (rw [hN]; exact ⟨none, 0, [], rfl, (fun h => by cases h), Disj.nil_, Own.nil_ _ _ _ _, NOwn.nil_, X⟩)
        | (have hN : (tabL xs bks 0 (tab0 R S)) = none := by
             cases h : (tabL xs bks 0 (tab0 R S)) with
             | none => rfl
             | some T' => exact absurd (tabL_len _ _ _ _ _ h) (by omega)
           rw [hN]; exact ⟨none, 0, [], rfl, (fun h => by cases h), Disj.nil_, Own.nil_ _ _ _ _, NOwn.nil_, X⟩)
      · skip
        rw [if_pos hF] at eZ
        refine wi_take 8 rfl (by kernel_rfl) rfl (by kernel_rfl) (listed' := #[true, true, true, true, true, true, true, true, true]) rfl (fun wq sq => ow_not rfl ⟨rfl, rfl⟩) ?_
        refine wi_done rfl ⟨bD2, ht2⟩ (fun aj fj => ⟨_, fj, ?_⟩)
        refine c_false rfl ?_
        refine c_skip ?_
        refine bq_n ?_
        refine tq_n ?_
        refine c_region ?_
        refine ops_cons rfl (ow_add rfl rfl (w64 (by omega)) ?_)
        refine ops_cons rfl (ow_move rfl ?_)
        refine ops_nil ?_
        refine tq_n ⟨(k + 1, zs), (.cons rfl (.cons rfl (.cons rfl (.cons rfl (.cons rfl (.nil _)))))), ?_, ?_⟩
        · exact ⟨by omega, hlZ, (by rw [eZ]; exact hT.putB _ _ _), hdZ, (by rw [hq, dx, db, tabL_yes hF, ← eZ]), by omega, oN, hs, ht2, X⟩
        · first | omega | (dsimp only; omega)
    · skip
      have hkk : k = xs.length := by omega
      refine ops_nil ?_
      refine c_seq ?_
      refine c_false rfl ?_
      refine c_exit ?_
      refine tq_e ?_
      refine tq_e ?_
      refine bq_e ?_
      refine tq_n ?_
      refine c_seqR ?_
      refine ops_cons rfl (ow_move rfl ?_)
      refine ops_cons rfl (ow_assign rfl ?_)
      refine ops_cons rfl (ow_assign rfl ?_)
      refine ops_nil ?_
      refine c_ret ?_
      refine fin_ret2 rfl rfl rfl ?_
      first
      | (have hY : (tabL xs bks 0 (tab0 R S)) = some (tblOf ys) := by rw [hq, List.drop_of_length_le (by omega), List.drop_of_length_le (by omega)]; rfl
         rw [← hyl] at oT ⊢
         rw [hY]; exact ⟨AT, cT, ys, rfl, fun _ => rfl, hd, oT, oN, X⟩)
      | (rw [hN]; exact ⟨none, 0, [], rfl, (fun h => by cases h), Disj.nil_, Own.nil_ _ _ _ _, NOwn.nil_, X⟩)
      | (have hN : (tabL xs bks 0 (tab0 R S)) = none := by
           cases h : (tabL xs bks 0 (tab0 R S)) with
           | none => rfl
           | some T' => exact absurd (tabL_len _ _ _ _ _ h) (by omega)
         rw [hN]; exact ⟨none, 0, [], rfl, (fun h => by cases h), Disj.nil_, Own.nil_ _ _ _ _, NOwn.nil_, X⟩)

theorem sTable_c (A : Option Addr) (B c : Nat) (xs : List Dem) (R S : Nat) (A2 : Option Addr) (B2 c2 : Nat) (bks : List Bk) (w : World) (hs : Sl B w A (xs.flatMap Dem.cells)) (ht2 : Sl B2 w A2 (bks.flatMap Bk.cells)) (hE : ∀ d ∈ xs, 1 ≤ d.every ∧ d.every ≤ 8) (hl : xs.length ≤ 40) (hl2 : bks.length ≤ 1048576) (hR : 1 ≤ R ∧ R ≤ 8) (hS : 1 ≤ S ∧ S ≤ 16) :
    Calls Try.prog 100 #[.slice A xs.length c, .int .i64 (R : Nat), .int .i64 (S : Nat), .slice A2 bks.length c2] w (Ret fun v w' => ∃ A' c' ys, v = .tuple #[.slice A' (List.length ys) c', .bool (tabL xs bks 0 (tab0 R S)).isSome] ∧ ((tabL xs bks 0 (tab0 R S)).isSome = true → tblOf ys = (tabL xs bks 0 (tab0 R S)).getD []) ∧ Disj ys ∧ Own w' w.heap.size 24 1 A' ys.length c' (ys.flatMap rowC) ∧ NOwn w' w.heap.size 2 ys ∧ Ext w w') := by
  have Bhs := hs.1
  have Bht2 := ht2.1
  have X := Ext.refl w
  refine calls_of (args := [.slice A xs.length c, .int .i64 (R : Nat), .int .i64 (S : Nat), .slice A2 bks.length c2]) Try.func100 Try.ntmps100 rfl rfl ?_
  refine c_seqR ?_
  refine ops_cons rfl (ow_assign rfl ?_)
  refine ops_cons rfl (ow_assign rfl ?_)
  refine ops_nil ?_
  refine c_seqR ?_
  refine ops_cons rfl (ow_move rfl ?_)
  refine ops_cons rfl (ow_move rfl ?_)
  refine ops_cons rfl (ow_call ent109 rfl (ret_mono (sFree_c R S _ hR.2 hS) ?_))
  rintro _ w2 ⟨AT, cT, y0, rfl, em, hdj, oT, oTn, x1⟩
  replace oT := Own.low oT X.size
  replace oTn := NOwn.low oTn X.size
  replace hs := hs.ext x1
  replace ht2 := ht2.ext x1
  replace X := Ext.trans X x1; clear x1
  have hy0 : y0.length = R := by rw [← tblOf_len, em]; exact (tab0_tab R S).1
  refine ops_cons rfl (ow_assign rfl ?_)
  refine ops_nil ?_
  refine c_seq ?_
  refine c_seqR ?_
  refine ops_cons rfl (ow_assign rfl ?_)
  refine ops_nil ?_
  refine c_block ?_
  refine c_loop (G := Nat × List ModeI) (fun ⟨k, ys⟩ => [(0, .slice A xs.length c), (3, .slice A2 bks.length c2), (10, .slice AT y0.length cT), (11, .int .i64 (k : Nat))]) (fun ⟨k, ys⟩ wr => k ≤ xs.length ∧ ys.length = y0.length ∧ Tab R S (tblOf ys) ∧ Disj ys ∧ (tabL xs bks 0 (tab0 R S)) = tabL (xs.drop k) (bks.drop k) k (tblOf ys) ∧ Own wr w.heap.size 24 1 AT y0.length cT (ys.flatMap rowC) ∧ NOwn wr w.heap.size 2 ys ∧ Sl B wr A (xs.flatMap Dem.cells) ∧ Sl B2 wr A2 (bks.flatMap Bk.cells) ∧ Ext w wr) (fun ⟨k, ys⟩ => xs.length - k) (0, y0) (.cons rfl (.cons rfl (.cons rfl (.cons rfl (.nil _))))) ?_ ?_
  · exact ⟨by omega, rfl, (by rw [em]; exact tab0_tab R S), hdj, (by rw [em]; rfl), oT, oTn, hs, ht2, X⟩
  clear hs ht2 oT oTn
  clear X
  rintro ⟨k, ys⟩ wr ⟨hk0, hyl, hT, hd, hq, oT, oN, hs, ht2, X⟩
  refine c_seq ?_
  refine c_seqR ?_
  refine ops_cons rfl (ow_move rfl ?_)
  refine ops_cons rfl (ow_move rfl ?_)
  refine ops_cons rfl (ow_len Try.underlying36 rfl ?_)
  refine ops_cons rfl (ow_lss2 rfl rfl (fun hk => ?_) (fun hk => ?_))
  · skip
    obtain ⟨x, hx, dx⟩ := drop_at' hk
    have hex := hE x (List.mem_of_getElem? hx)
    refine ops_cons rfl (ow_move rfl ?_)
    refine ops_want rfl rfl rfl (ow_move rfl ?_)
    refine ops_want rfl rfl rfl (ow_move rfl ?_)
    refine ops_want rfl rfl rfl (ow_len Try.underlying45 rfl ?_)
    refine ops_want rfl rfl rfl (ow_lss2 rfl rfl (fun hk2 => ?_) (fun hk2 => ?_))
    · skip
      obtain ⟨b, hb, db⟩ := drop_at (xs := bks) (k := k) (by omega)
      refine ops_cons rfl (ow_pick rfl rfl ?_)
      refine ops_nil ?_
      refine c_true rfl ?_
      refine c_skip ?_
      refine tq_n ?_
      refine c_seq ?_
      refine c_block ?_
      refine c_seq ?_
      refine c_seqD [false, false, false, false, false, false, false, false, false, false, false] mixed (by kernel_rfl) ?_
      refine f_q rfl (fun wq sq => ow_move rfl ⟨rfl, Ext.refl _⟩) ?_
      refine f_q rfl (fun wq sq => ow_move rfl ⟨rfl, Ext.refl _⟩) ?_
      refine f_q rfl (fun wq sq => ow_move rfl ⟨rfl, Ext.refl _⟩) ?_
      refine f_q rfl (fun wq sq => ow_indexT (hs.ext sq) Dem.len rfl el36 rfl rfl rfl hx rfl ⟨rfl, Ext.refl _⟩) ?_
      refine f_q rfl (fun wq sq => ow_loadTA (hs.ext sq) Dem.len hx ti79 rfl ⟨rfl, Ext.refl _⟩) ?_
      refine f_q rfl (fun wq sq => ow_move rfl ⟨rfl, Ext.refl _⟩) ?_
      refine f_q rfl (fun wq sq => ow_move rfl ⟨rfl, Ext.refl _⟩) ?_
      refine f_q rfl (fun wq sq => ow_indexT (ht2.ext sq) Bk.len rfl el45 rfl rfl rfl hb rfl ⟨rfl, Ext.refl _⟩) ?_
      refine f_q rfl (fun wq sq => ow_loadTA (ht2.ext sq) Bk.len hb ti102 rfl ⟨rfl, Ext.refl _⟩) ?_
      refine f_qB rfl (fun wq sq => ow_call ent126 rfl (by have h := fits_c AT _ _ cT ys R S x b _ (oT.ext sq).sl (oN.ext sq).nexts hT hR hS hex; rw [hyl] at h; exact h)) (fun hF => ?_) (fun hF => ?_)
      · skip
        refine f_q rfl (fun wq sq => ow_not rfl ⟨rfl, Ext.refl _⟩) ?_
        refine f_nil (fun w5 sq => ?_)
        have xq := sq
        replace oT := oT.ext xq
        replace oN := oN.ext xq
        replace hs := hs.ext xq
        replace ht2 := ht2.ext xq
        replace X := Ext.trans X xq; clear xq sq
        refine ops_nil ?_
        refine c_false rfl ?_
        refine c_skip ?_
        refine tq_n ?_
        refine c_draw [false, false, false, false, false, false, false, false, false, false] mixed (by kernel_rfl) ?_
        refine f_q rfl (fun wq sq => ow_move rfl ⟨rfl, Ext.refl _⟩) ?_
        refine f_q rfl (fun wq sq => ow_move rfl ⟨rfl, Ext.refl _⟩) ?_
        refine f_q rfl (fun wq sq => ow_move rfl ⟨rfl, Ext.refl _⟩) ?_
        refine f_q rfl (fun wq sq => ow_indexT (hs.ext sq) Dem.len rfl el36 rfl rfl rfl hx rfl ⟨rfl, Ext.refl _⟩) ?_
        refine f_q rfl (fun wq sq => ow_loadTA (hs.ext sq) Dem.len hx ti79 rfl ⟨rfl, Ext.refl _⟩) ?_
        refine f_q rfl (fun wq sq => ow_move rfl ⟨rfl, Ext.refl _⟩) ?_
        refine f_q rfl (fun wq sq => ow_move rfl ⟨rfl, Ext.refl _⟩) ?_
        refine f_q rfl (fun wq sq => ow_indexT (ht2.ext sq) Bk.len rfl el45 rfl rfl rfl hb rfl ⟨rfl, Ext.refl _⟩) ?_
        refine f_q rfl (fun wq sq => ow_loadTA (ht2.ext sq) Bk.len hb ti102 rfl ⟨rfl, Ext.refl _⟩) ?_
        refine f_q rfl (fun wq sq => ow_move rfl ⟨rfl, Ext.refl _⟩) ?_
        refine f_nil (fun w6 sq => ?_)
        have xq := sq
        replace oT := oT.ext xq
        replace oN := oN.ext xq
        replace hs := hs.ext xq
        replace ht2 := ht2.ext xq
        replace X := Ext.trans X xq; clear xq sq
        refine ops_cons rfl (ow_call ent111 rfl (ret_mono (by have h := put_c AT cT w.heap.size _ ys R S x b (k : Int) _ (by rw [hyl]; exact oT) oN hd (fun y hy g hg => (Own.lt (oN y hy).1 hg).2) X.size hT hR hS hex (by have h := fits_in hF; rw [hT.slots (by omega)] at h; omega); rw [hyl] at h; exact h) ?_))
        rintro _ wM ⟨zs, rfl, eZ, hdZ, hlZ, oTZ, oNZ, xM⟩
        have xB := xM.below X.size
        replace hs := hs.below (Below.mono xB Bhs)
        replace X := Below.trans X xB
        replace ht2 := ht2.below (Below.mono xB Bht2)
        replace oT := oTZ
        replace oN := oNZ
        refine ops_nil ?_
        refine bq_n ?_
        refine tq_n ?_
        refine c_region ?_
        refine ops_cons rfl (ow_move rfl ?_)
        refine ops_cons rfl (ow_add rfl rfl (w64 (by omega)) ?_)
        refine ops_cons rfl (ow_assign rfl ?_)
        refine ops_nil ?_
        refine tq_n ⟨(k + 1, zs), (.cons rfl (.cons rfl (.cons rfl (.cons rfl (.nil _))))), ?_, ?_⟩
        · exact ⟨by omega, hlZ, (by rw [eZ]; exact hT.putB _ _ _), hdZ, (by rw [hq, dx, db, tabL_yes hF, ← eZ]), by omega, oN, hs, ht2, X⟩
        · first | omega | (dsimp only; omega)
      · skip
        have hN : (tabL xs bks 0 (tab0 R S)) = none := by rw [hq, dx, db, tabL_no hF]
        refine f_q rfl (fun wq sq => ow_not rfl ⟨rfl, Ext.refl _⟩) ?_
        refine f_nil (fun w7 sq => ?_)
        have xq := sq
        replace oT := oT.ext xq
        replace oN := oN.ext xq
        replace hs := hs.ext xq
        replace ht2 := ht2.ext xq
        replace X := Ext.trans X xq; clear xq sq
        refine ops_nil ?_
        refine c_true rfl ?_
        refine c_seqR ?_
        refine ops_cons rfl (ow_assign rfl ?_)
        refine ops_cons rfl (ow_assign rfl ?_)
        refine ops_nil ?_
        refine c_ret ?_
        refine tq_r ?_
        refine bq_r ?_
        refine tq_r ?_
        refine tq_r ?_
        refine bq_r ?_
        refine tq_r ?_
        refine fin_ret2 rfl rfl rfl ?_
        first
        | (rw [hN]; exact ⟨none, 0, [], rfl, (fun h => by cases h), Disj.nil_, Own.nil_ _ _ _ _, NOwn.nil_, X⟩)
        | (have hd2 : (tabL xs bks 0 (tab0 R S)).isSome = decide ((xs.length : Int) = bks.length) := by
             first
             | (by_cases h : xs.length = bks.length
                · rw [hq, List.drop_of_length_le (by omega), List.drop_of_length_le (by omega), decide_eq_true (by omega)]; rfl
                · have hN : (tabL xs bks 0 (tab0 R S)) = none := by
                    cases h2 : (tabL xs bks 0 (tab0 R S)) with
                    | none => rfl
                    | some T' => exact absurd (tabL_len _ _ _ _ _ h2) h
                  rw [hN, decide_eq_false (by omega)]; rfl)
           have hY : (tabL xs bks 0 (tab0 R S)).isSome = true → tblOf ys = (tabL xs bks 0 (tab0 R S)).getD [] := fun h => by
             rw [hd2] at h
             have h3 := of_decide_eq_true h
             rw [hq, List.drop_of_length_le (by omega), List.drop_of_length_le (by omega)]; rfl
           rw [← hyl] at oT ⊢
           exact ⟨AT, cT, ys, by rw [hd2], hY, hd, oT, oN, X⟩)
    · skip
      refine ops_cons rfl (ow_pick rfl rfl ?_)
      refine ops_nil ?_
      refine c_false rfl ?_
      refine c_exit ?_
      refine tq_e ?_
      refine tq_e ?_
      refine bq_e ?_
      refine tq_n ?_
      refine c_seqR ?_
      refine ops_cons rfl (ow_move rfl ?_)
      refine ops_cons rfl (ow_move rfl ?_)
      refine ops_cons rfl (ow_len Try.underlying36 rfl ?_)
      refine ops_cons rfl (ow_move rfl ?_)
      refine ops_cons rfl (ow_len Try.underlying45 rfl ?_)
      refine ops_cons rfl (ow_eql rfl rfl ?_)
      refine ops_cons rfl (ow_assign rfl ?_)
      refine ops_cons rfl (ow_assign rfl ?_)
      refine ops_nil ?_
      refine c_ret ?_
      refine fin_ret2 rfl rfl rfl ?_
      first
      | (rw [hN]; exact ⟨none, 0, [], rfl, (fun h => by cases h), Disj.nil_, Own.nil_ _ _ _ _, NOwn.nil_, X⟩)
      | (have hd2 : (tabL xs bks 0 (tab0 R S)).isSome = decide ((xs.length : Int) = bks.length) := by
           first
           | (by_cases h : xs.length = bks.length
              · rw [hq, List.drop_of_length_le (by omega), List.drop_of_length_le (by omega), decide_eq_true (by omega)]; rfl
              · have hN : (tabL xs bks 0 (tab0 R S)) = none := by
                  cases h2 : (tabL xs bks 0 (tab0 R S)) with
                  | none => rfl
                  | some T' => exact absurd (tabL_len _ _ _ _ _ h2) h
                rw [hN, decide_eq_false (by omega)]; rfl)
         have hY : (tabL xs bks 0 (tab0 R S)).isSome = true → tblOf ys = (tabL xs bks 0 (tab0 R S)).getD [] := fun h => by
           rw [hd2] at h
           have h3 := of_decide_eq_true h
           rw [hq, List.drop_of_length_le (by omega), List.drop_of_length_le (by omega)]; rfl
         rw [← hyl] at oT ⊢
         exact ⟨AT, cT, ys, by rw [hd2], hY, hd, oT, oN, X⟩)
  · skip
    have hkk : k = xs.length := by omega
    refine ops_cons rfl (ow_move rfl ?_)
    refine ops_skip rfl rfl rfl rfl ?_
    refine ops_skip rfl rfl rfl rfl ?_
    refine ops_skip rfl rfl rfl rfl ?_
    refine ops_skip rfl rfl rfl rfl ?_
    refine ops_cons rfl (ow_pick rfl rfl ?_)
    refine ops_nil ?_
    refine c_false rfl ?_
    refine c_exit ?_
    refine tq_e ?_
    refine tq_e ?_
    refine bq_e ?_
    refine tq_n ?_
    refine c_seqR ?_
    refine ops_cons rfl (ow_move rfl ?_)
    refine ops_cons rfl (ow_move rfl ?_)
    refine ops_cons rfl (ow_len Try.underlying36 rfl ?_)
    refine ops_cons rfl (ow_move rfl ?_)
    refine ops_cons rfl (ow_len Try.underlying45 rfl ?_)
    refine ops_cons rfl (ow_eql rfl rfl ?_)
    refine ops_cons rfl (ow_assign rfl ?_)
    refine ops_cons rfl (ow_assign rfl ?_)
    refine ops_nil ?_
    refine c_ret ?_
    refine fin_ret2 rfl rfl rfl ?_
    first
    | (rw [hN]; exact ⟨none, 0, [], rfl, (fun h => by cases h), Disj.nil_, Own.nil_ _ _ _ _, NOwn.nil_, X⟩)
    | (have hd2 : (tabL xs bks 0 (tab0 R S)).isSome = decide ((xs.length : Int) = bks.length) := by
         first
         | (by_cases h : xs.length = bks.length
            · rw [hq, List.drop_of_length_le (by omega), List.drop_of_length_le (by omega), decide_eq_true (by omega)]; rfl
            · have hN : (tabL xs bks 0 (tab0 R S)) = none := by
                cases h2 : (tabL xs bks 0 (tab0 R S)) with
                | none => rfl
                | some T' => exact absurd (tabL_len _ _ _ _ _ h2) h
              rw [hN, decide_eq_false (by omega)]; rfl)
       have hY : (tabL xs bks 0 (tab0 R S)).isSome = true → tblOf ys = (tabL xs bks 0 (tab0 R S)).getD [] := fun h => by
         rw [hd2] at h
         have h3 := of_decide_eq_true h
         rw [hq, List.drop_of_length_le (by omega), List.drop_of_length_le (by omega)]; rfl
       rw [← hyl] at oT ⊢
       exact ⟨AT, cT, ys, by rw [hd2], hY, hd, oT, oN, X⟩)
end Go.Proofs.Ytimabffnoanciaa
