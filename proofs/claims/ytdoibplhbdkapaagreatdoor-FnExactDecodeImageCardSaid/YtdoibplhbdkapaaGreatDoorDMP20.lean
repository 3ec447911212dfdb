/- Texts of the seat that a law needs, put together. No condition. -/
import Derived.Test.YtdoibplhbdkapaaGreatDoorDMP14
import Derived.Test.YtdoibplhbdkapaaGreatDoorDMP15
import Derived.Test.YtdoibplhbdkapaaGreatDoorDMP16
import Derived.Test.YtdoibplhbdkapaaGreatDoorDMP19
namespace Go.Proofs.YtdoibplhbdkapaaGreatDoor
open Go.RowKit
set_option linter.unusedVariables false
set_option linter.unusedSimpArgs false
set_option maxRecDepth 20000
def idV0 (xs : List Int) : Int := xs.getD 0 0 * 65536 + xs.getD 1 0 * 256 + xs.getD 2 0
def frmO (xs : List Int) : Option MedlD := match rdN (xs.drop 3) with
  | none => none
  | some n => match rdM ((xs.drop 3).drop n.2) with
    | none => none
    | some r => match rdS (((xs.drop 3).drop n.2).drop r.2) with
      | none => none
      | some l => if 1 + 7 * l.length = (((xs.drop 3).drop n.2).drop r.2).length then some ⟨idV0 xs, n.1, r.1, l⟩ else none
def frmF (xs : List Int) : MedlD × Int := if xs.length < 3 then (zeroM.d, 6) else match frmO xs with
  | none => (zeroM.d, 6)
  | some d => if isMedl d = true then (d, 0) else (zeroM.d, 1)
def frmR (xs : List Int) : MedlD × Int := if isB xs = true then frmF xs else (zeroM.d, 2)
theorem frmO_n {xs : List Int} (h : rdN (xs.drop 3) = none) : frmO xs = none := by rw [frmO, h]
theorem frmO_m {xs : List Int} {n : List NodeI × Nat} (h : rdN (xs.drop 3) = some n) (h2 : rdM ((xs.drop 3).drop n.2) = none) : frmO xs = none := by rw [frmO, h]; simp only []; rw [h2]
theorem frmO_s {xs : List Int} {n : List NodeI × Nat} {r : List Mode × Nat} (h : rdN (xs.drop 3) = some n) (h2 : rdM ((xs.drop 3).drop n.2) = some r) (h3 : rdS (((xs.drop 3).drop n.2).drop r.2) = none) : frmO xs = none := by rw [frmO, h]; simp only []; rw [h2]; simp only []; rw [h3]
theorem frmO_l {xs : List Int} {n : List NodeI × Nat} {r : List Mode × Nat} {l : List SlotI} (h : rdN (xs.drop 3) = some n) (h2 : rdM ((xs.drop 3).drop n.2) = some r) (h3 : rdS (((xs.drop 3).drop n.2).drop r.2) = some l) (h4 : 1 + 7 * l.length ≠ (((xs.drop 3).drop n.2).drop r.2).length) : frmO xs = none := by rw [frmO, h]; simp only []; rw [h2]; simp only []; rw [h3]; simp only []; rw [if_neg h4]
theorem frmO_y {xs : List Int} {n : List NodeI × Nat} {r : List Mode × Nat} {l : List SlotI} (h : rdN (xs.drop 3) = some n) (h2 : rdM ((xs.drop 3).drop n.2) = some r) (h3 : rdS (((xs.drop 3).drop n.2).drop r.2) = some l) (h4 : 1 + 7 * l.length = (((xs.drop 3).drop n.2).drop r.2).length) : frmO xs = some ⟨idV0 xs, n.1, r.1, l⟩ := by rw [frmO, h]; simp only []; rw [h2]; simp only []; rw [h3]; simp only []; rw [if_pos h4]
theorem frmF_3 {xs : List Int} (h : xs.length < 3) : frmF xs = (zeroM.d, 6) := by rw [frmF, if_pos h]
theorem frmF_n {xs : List Int} (h : ¬ xs.length < 3) (h2 : frmO xs = none) : frmF xs = (zeroM.d, 6) := by rw [frmF, if_neg h, h2]
theorem frmF_1 {xs : List Int} {d : MedlD} (h : ¬ xs.length < 3) (h2 : frmO xs = some d) (h3 : isMedl d = false) : frmF xs = (zeroM.d, 1) := by rw [frmF, if_neg h, h2]; simp [h3]
theorem frmF_0 {xs : List Int} {d : MedlD} (h : ¬ xs.length < 3) (h2 : frmO xs = some d) (h3 : isMedl d = true) : frmF xs = (d, 0) := by rw [frmF, if_neg h, h2]; simp [h3]
theorem isB_drop {xs : List Int} (h : isB xs = true) (k : Nat) : isB (xs.drop k) = true := by
  have h1 := isB_len h
  have h2 := isB_mem h
  simp only [isB, Bool.and_eq_true, decide_eq_true_eq]
  refine ⟨by rw [List.length_drop]; omega, List.all_eq_true.2 fun x hx => inB_iff.2 (h2 x (List.mem_of_mem_drop hx))⟩
theorem RdN.sz {xs : List Int} {ys : List NodeI} {sz : Int} {ok : Bool} (h : RdN (rdN xs) ys sz ok) : ∃ k : Nat, sz = (k : Int) ∧ k ≤ xs.length := by
  cases ok with
  | false => exact ⟨0, (h.f).2.2, Nat.zero_le _⟩
  | true => obtain ⟨r, h1, h2, h3⟩ := h.t; exact ⟨r.2, h3, (rdN_in h1).2.2⟩
theorem RdM.sz {xs : List Int} {ms : List Mode} {sz : Int} {ok : Bool} (h : RdM (rdM xs) ms sz ok) : ∃ k : Nat, sz = (k : Int) ∧ k ≤ xs.length := by
  cases ok with
  | false =>
    have h1 := h.f
    rw [h1] at h
    exact ⟨0, h.2.1, Nat.zero_le _⟩
  | true => obtain ⟨r, h1, h2, h3⟩ := h.t; exact ⟨r.2, h3, (rdM_in h1).2.1⟩
theorem frm_small {id : Int} {An Am As : Option Addr} {cn cm cs : Nat} {ns : List NodeI} {ms : List ModeI} {ss : List SlotI} (hn : isNT ns = true) (hm : isMT (ms.map (·.m)) = true) (hs : isST ss = true) : MedlI.small ⟨id, An, ns, cn, Am, ms, cm, As, ss, cs⟩ := by
  have h1 := isNT_len hn
  have h2 := isMT_len hm
  have h3 := isST_len hs
  rw [List.length_map] at h2
  exact ⟨by show ns.length ≤ _; omega, by show ms.length ≤ _; omega, fun x hx => by
    obtain ⟨k, hk⟩ := List.mem_iff_getElem?.1 (List.mem_map_of_mem (f := (·.m)) hx)
    have h4 := risesB_len (modeOk_in (isMT_at hm hk)).2.2
    rw [List.length_map] at h4
    omega, by show ss.length ≤ _; omega, fun x hx => by have := nodeOk_size (isNT_all hn x hx); omega⟩
theorem readNodes_n (A : Option Addr) (B c n : Nat) (xs : List Int) (w : World) (hs : Sl B w A (xs.flatMap eI)) (hl : xs.length ≤ 1048576) (hB : isB xs = true) (hcap : xs.length ≤ c) (e : xs.length = n) :
    Calls Tryz.prog 76 #[.slice A n c] w (Ret fun v w' => ∃ A' c' ys sz ok, v = .tuple #[.slice A' (List.length ys) c', .int .i64 sz, .bool ok] ∧ RdN (rdN xs) ys sz ok ∧ Own w' w.heap.size 59 4 A' ys.length c' (ys.flatMap NodeI.cells) ∧ Ext w w') := by
  subst e; exact readNodes_c A B c xs w hs hl hB hcap
theorem l10Read_n (A : Option Addr) (B c n : Nat) (xs : List Int) (w : World) (hs : Sl B w A (xs.flatMap eI)) (hl : xs.length ≤ 1048576) (hB : isB xs = true) (hcap : xs.length ≤ c) (e : xs.length = n) :
    Calls Tryz.prog 170 #[.slice A n c] w (Ret fun v w' => ∃ A' c' ys sz ok, v = .tuple #[.slice A' (List.length ys) c', .int .i64 sz, .bool ok] ∧ RdN (rdN xs) ys sz ok ∧ Own w' w.heap.size 59 4 A' ys.length c' (ys.flatMap NodeI.cells) ∧ Ext w w') := by
  subst e; exact l10Read_c A B c xs w hs hl hB hcap
theorem readModes_n (A : Option Addr) (B c n : Nat) (xs : List Int) (w : World) (hs : Sl B w A (xs.flatMap eI)) (hl : xs.length ≤ 1048576) (hB : isB xs = true) (hcap : xs.length ≤ c) (e : xs.length = n) :
    Calls Tryz.prog 77 #[.slice A n c] w (Ret fun v w' => ∃ A' c' ys sz ok, v = .tuple #[.slice A' (List.length ys) c', .int .i64 sz, .bool ok] ∧ RdM (rdM xs) (ys.map (·.m)) sz ok ∧ Disj ys ∧ Own w' w.heap.size 92 3 A' ys.length c' (ys.flatMap ModeI.cells) ∧ NOwn w' w.heap.size 2 ys ∧ Ext w w') := by
  subst e; exact readModes_c A B c xs w hs hl hB
theorem l11Read_n (A : Option Addr) (B c n : Nat) (xs : List Int) (w : World) (hs : Sl B w A (xs.flatMap eI)) (hl : xs.length ≤ 1048576) (hB : isB xs = true) (hcap : xs.length ≤ c) (e : xs.length = n) :
    Calls Tryz.prog 171 #[.slice A n c] w (Ret fun v w' => ∃ A' c' ys sz ok, v = .tuple #[.slice A' (List.length ys) c', .int .i64 sz, .bool ok] ∧ RdM (rdM xs) (ys.map (·.m)) sz ok ∧ Disj ys ∧ Own w' w.heap.size 92 3 A' ys.length c' (ys.flatMap ModeI.cells) ∧ NOwn w' w.heap.size 2 ys ∧ Ext w w') := by
  subst e; exact l11Read_c A B c xs w hs hl hB hcap
theorem readSlots_n (A : Option Addr) (B c n : Nat) (xs : List Int) (w : World) (hs : Sl B w A (xs.flatMap eI)) (hl : xs.length ≤ 1048576) (hB : isB xs = true) (hcap : xs.length ≤ c) (e : xs.length = n) :
    Calls Tryz.prog 78 #[.slice A n c] w (Ret fun v w' => ∃ A' c' ys sz ok, v = .tuple #[.slice A' (List.length ys) c', .int .i64 sz, .bool ok] ∧ RdS (rdS xs) ys sz ok ∧ Own w' w.heap.size 89 8 A' ys.length c' (ys.flatMap SlotI.cells) ∧ Ext w w') := by
  subst e; exact readSlots_c A B c xs w hs hl hB
theorem l12Read_n (A : Option Addr) (B c n : Nat) (xs : List Int) (w : World) (hs : Sl B w A (xs.flatMap eI)) (hl : xs.length ≤ 1048576) (hB : isB xs = true) (hcap : xs.length ≤ c) (e : xs.length = n) :
    Calls Tryz.prog 172 #[.slice A n c] w (Ret fun v w' => ∃ A' c' ys sz ok, v = .tuple #[.slice A' (List.length ys) c', .int .i64 sz, .bool ok] ∧ RdS (rdS xs) ys sz ok ∧ Own w' w.heap.size 89 8 A' ys.length c' (ys.flatMap SlotI.cells) ∧ Ext w w') := by
  subst e; exact l12Read_c A B c xs w hs hl hB hcap
theorem l14From_c (A : Option Addr) (B c : Nat) (xs : List Int) (w : World) (hs : Sl B w A (xs.flatMap eI)) (hl : xs.length ≤ 1024) (hB : isB xs = true) (hcap : xs.length ≤ c) :
    Calls Tryz.prog 87 #[.slice A xs.length c] w (Ret fun v w' => ∃ m', v = .tuple #[.agg m'.cells.toArray, .int .i64 (frmF xs).2] ∧ m'.d = (frmF xs).1 ∧ MOwn w' w.heap.size 59 92 2 89 m' ∧ Ext w w') := by
  have Bhs := hs.1
  have X := Ext.refl w
  refine calls_of (args := [.slice A xs.length c]) Tryz.func87 Tryz.ntmps87 rfl rfl ?_
  refine c_seqR ?_
  refine ops_cons rfl (ow_alloc ti28 ?_)
  intro g2 w2 eg2 b2 x1 zg2
  have lg2 : w.heap.size ≤ g2 := Nat.le_trans X.size (Nat.le_of_eq eg2.symm)
  have pg2hs := Nat.le_trans hs.1 (Nat.le_of_eq eg2.symm)
  replace hs := hs.ext x1
  replace X := Ext.trans X x1; clear x1
  refine ops_cons rfl (ow_assign rfl ?_)
  refine ops_nil ?_
  refine c_seq ?_
  refine c_seqR ?_
  refine ops_cons rfl (ow_move rfl ?_)
  refine ops_cons rfl (ow_len Tryz.underlying30 rfl ?_)
  refine ops_cons rfl (ow_lss2 rfl rfl (fun h3 => ?_) (fun h3 => ?_))
  refine ops_nil ?_
  refine c_true rfl ?_
  refine c_seqR ?_
  refine ops_cons rfl (ow_buildP pl28 ti28 rfl rfl ?_)
  refine ops_cons rfl (ow_storeB b2 ti28 rfl rfl rfl rfl rfl rfl ?_)
  intro w4 b5 hg3 z5
  replace hs := hs.grown hg3 (by intro g hg; injection hg; omega)
  replace X := X.grown hg3 X.size (by intro g hg; injection hg; omega)
  clear hg3 b2
  refine ops_cons rfl (ow_assign rfl ?_)
  refine ops_nil ?_
  refine c_ret ?_
  refine tq_r ?_
  refine fin_cell2 rfl rfl b5 ti28 rfl rfl ?_
  · skip
    have e : frmF xs = (zeroM.d, 6) := frmF_3 (by omega)
    rw [e]; exact ⟨zeroM, rfl, rfl, zeroM_own _ _ _ _ _ _, X⟩
  have e3 : (xs.drop 3).length = xs.length - 3 := List.length_drop ..
  refine ops_nil ?_
  refine c_false rfl ?_
  refine c_skip ?_
  refine tq_n ?_
  refine c_seqR ?_
  refine ops_cons rfl (ow_move rfl ?_)
  refine ops_cons rfl (ow_sliceL el30 hs eI_len rfl rfl (show (3 : Int) = ((3 : Nat) : Int) from rfl) rfl (by omega) hcap ?_)
  intro A3 p3
  refine ops_cons rfl (ow_assign rfl ?_)
  refine ops_nil ?_
  refine c_seqR ?_
  refine ops_cons rfl (ow_move rfl ?_)
  refine ops_cons rfl (ow_call ent170 rfl (ret_mono (l10Read_n A3 B (c - 3) (xs.length - 3) (xs.drop 3) _ p3 (by omega) (isB_drop hB 3) (by omega) e3) ?_))
  rintro _ w7 ⟨AN, cN, yN, szN, okN, rfl, eN, oN2, x6⟩
  replace oN2 := Own.low oN2 X.size
  replace hs := hs.ext x6
  replace b2 := b2.ext x6
  replace p3 := p3.ext x6
  replace X := Ext.trans X x6; clear x6
  refine ops_cons rfl (ow_move rfl ?_)
  refine ops_cons rfl (ow_extract rfl rfl ?_)
  refine ops_cons rfl (ow_extract rfl rfl ?_)
  refine ops_cons rfl (ow_extract rfl rfl ?_)
  refine ops_cons rfl (ow_assign rfl ?_)
  refine ops_cons rfl (ow_assign rfl ?_)
  refine ops_cons rfl (ow_assign rfl ?_)
  refine ops_nil ?_
  refine c_seq ?_
  refine c_seqR ?_
  refine ops_cons rfl (ow_move rfl ?_)
  cases hkN : okN
  subst hkN
  have hrN := (eN.f).1
  refine ops_cons rfl (ow_not rfl ?_)
  refine ops_nil ?_
  refine c_true rfl ?_
  refine c_seqR ?_
  refine ops_cons rfl (ow_buildP pl28 ti28 rfl rfl ?_)
  refine ops_cons rfl (ow_storeB b2 ti28 rfl rfl rfl rfl rfl rfl ?_)
  intro w9 b5 hg8 z10
  replace hs := hs.grown hg8 (by intro g hg; injection hg; omega)
  replace p3 := p3.grown hg8 (by intro g hg; injection hg; omega)
  replace oN2 := oN2.grownBlk hg8 (Own.neT oN2 b2 (by decide))
  replace X := X.grown hg8 X.size (by intro g hg; injection hg; omega)
  clear hg8 b2
  refine ops_cons rfl (ow_assign rfl ?_)
  refine ops_nil ?_
  refine c_ret ?_
  refine tq_r ?_
  refine fin_cell2 rfl rfl b5 ti28 rfl rfl ?_
  · skip
    have e : frmF xs = (zeroM.d, 6) := frmF_n (by omega) (frmO_n hrN)
    rw [e]; exact ⟨zeroM, rfl, rfl, zeroM_own _ _ _ _ _ _, X⟩
  subst hkN
  obtain ⟨rN, hrN, eyN, ezN⟩ := eN.t
  subst eyN
  subst ezN
  have hiN := rdN_in hrN
  have e4 : ((xs.drop 3).drop rN.2).length = ((xs.length - 3) - rN.2) := by rw [List.length_drop, e3]
  refine ops_cons rfl (ow_not rfl ?_)
  refine ops_nil ?_
  refine c_false rfl ?_
  refine c_skip ?_
  refine tq_n ?_
  refine c_seqR ?_
  refine ops_cons rfl (ow_move rfl ?_)
  refine ops_cons rfl (ow_move rfl ?_)
  refine ops_cons rfl (ow_sliceL el30 p3 eI_len rfl rfl rfl e3.symm (by have := hiN.2.2; omega) (by omega) ?_)
  intro A4 p4
  refine ops_cons rfl (ow_assign rfl ?_)
  refine ops_nil ?_
  refine c_seqR ?_
  refine ops_cons rfl (ow_move rfl ?_)
  refine ops_cons rfl (ow_call ent171 rfl (ret_mono (l11Read_n A4 B ((c - 3) - rN.2) ((xs.length - 3) - rN.2) ((xs.drop 3).drop rN.2) _ p4 (by omega) (isB_drop (isB_drop hB 3) _) (by omega) e4) ?_))
  rintro _ w12 ⟨AM, cM, yM, szM, okM, rfl, eM, djM, oM2, oM2n, x11⟩
  replace oM2 := Own.low oM2 X.size
  replace oM2n := NOwn.low oM2n X.size
  replace hs := hs.ext x11
  replace b2 := b2.ext x11
  replace p3 := p3.ext x11
  replace oN2 := oN2.ext x11
  replace p4 := p4.ext x11
  replace X := Ext.trans X x11; clear x11
  refine ops_cons rfl (ow_move rfl ?_)
  refine ops_cons rfl (ow_extract rfl rfl ?_)
  refine ops_cons rfl (ow_extract rfl rfl ?_)
  refine ops_cons rfl (ow_extract rfl rfl ?_)
  refine ops_cons rfl (ow_assign rfl ?_)
  refine ops_cons rfl (ow_assign rfl ?_)
  refine ops_cons rfl (ow_assign rfl ?_)
  refine ops_nil ?_
  refine c_seq ?_
  refine c_seqR ?_
  refine ops_cons rfl (ow_move rfl ?_)
  cases hkM : okM
  subst hkM
  have hrM := eM.f
  refine ops_cons rfl (ow_not rfl ?_)
  refine ops_nil ?_
  refine c_true rfl ?_
  refine c_seqR ?_
  refine ops_cons rfl (ow_buildP pl28 ti28 rfl rfl ?_)
  refine ops_cons rfl (ow_storeB b2 ti28 rfl rfl rfl rfl rfl rfl ?_)
  intro w14 b5 hg13 z15
  replace hs := hs.grown hg13 (by intro g hg; injection hg; omega)
  replace p3 := p3.grown hg13 (by intro g hg; injection hg; omega)
  replace oN2 := oN2.grownBlk hg13 (Own.neT oN2 b2 (by decide))
  replace p4 := p4.grown hg13 (by intro g hg; injection hg; omega)
  replace oM2 := oM2.grownBlk hg13 (Own.neT oM2 b2 (by decide))
  replace oM2n := oM2n.grownB b2 hg13 (by decide)
  replace X := X.grown hg13 X.size (by intro g hg; injection hg; omega)
  clear hg13 b2
  refine ops_cons rfl (ow_assign rfl ?_)
  refine ops_nil ?_
  refine c_ret ?_
  refine tq_r ?_
  refine fin_cell2 rfl rfl b5 ti28 rfl rfl ?_
  · skip
    have e : frmF xs = (zeroM.d, 6) := frmF_n (by omega) (frmO_m hrN hrM)
    rw [e]; exact ⟨zeroM, rfl, rfl, zeroM_own _ _ _ _ _ _, X⟩
  subst hkM
  obtain ⟨rM, hrM, eyM, ezM⟩ := eM.t
  subst ezM
  have hiM := rdM_in hrM
  have e5 : (((xs.drop 3).drop rN.2).drop rM.2).length = (((xs.length - 3) - rN.2) - rM.2) := by rw [List.length_drop, e4]
  refine ops_cons rfl (ow_not rfl ?_)
  refine ops_nil ?_
  refine c_false rfl ?_
  refine c_skip ?_
  refine tq_n ?_
  refine c_seqR ?_
  refine ops_cons rfl (ow_move rfl ?_)
  refine ops_cons rfl (ow_move rfl ?_)
  refine ops_cons rfl (ow_sliceL el30 p4 eI_len rfl rfl rfl e4.symm (by have := hiM.2.1; omega) (by omega) ?_)
  intro A5 p5
  refine ops_cons rfl (ow_assign rfl ?_)
  refine ops_nil ?_
  refine c_seqR ?_
  refine ops_cons rfl (ow_move rfl ?_)
  refine ops_cons rfl (ow_call ent172 rfl (ret_mono (l12Read_n A5 B (((c - 3) - rN.2) - rM.2) (((xs.length - 3) - rN.2) - rM.2) (((xs.drop 3).drop rN.2).drop rM.2) _ p5 (by omega) (isB_drop (isB_drop (isB_drop hB 3) _) _) (by omega) e5) ?_))
  rintro _ w17 ⟨AS, cS, yS, szS, okS, rfl, eS, oS2, x16⟩
  replace oS2 := Own.low oS2 X.size
  replace hs := hs.ext x16
  replace b2 := b2.ext x16
  replace p3 := p3.ext x16
  replace oN2 := oN2.ext x16
  replace p4 := p4.ext x16
  replace oM2 := oM2.ext x16
  replace oM2n := oM2n.ext x16
  replace p5 := p5.ext x16
  replace X := Ext.trans X x16; clear x16
  refine ops_cons rfl (ow_move rfl ?_)
  refine ops_cons rfl (ow_extract rfl rfl ?_)
  refine ops_cons rfl (ow_extract rfl rfl ?_)
  refine ops_cons rfl (ow_extract rfl rfl ?_)
  refine ops_cons rfl (ow_assign rfl ?_)
  refine ops_cons rfl (ow_assign rfl ?_)
  refine ops_cons rfl (ow_assign rfl ?_)
  refine ops_nil ?_
  refine c_seq ?_
  refine c_seqR ?_
  refine ops_cons rfl (ow_move rfl ?_)
  cases hkS : okS
  subst hkS
  have hrS := eS.f
  refine ops_cons rfl (ow_not rfl ?_)
  refine ops_cons rfl (ow_move rfl ?_)
  refine ops_skip rfl rfl rfl rfl ?_
  refine ops_skip rfl rfl rfl rfl ?_
  refine ops_skip rfl rfl rfl rfl ?_
  refine ops_skip rfl rfl rfl rfl ?_
  refine ops_cons rfl (ow_pick rfl rfl ?_)
  refine ops_nil ?_
  refine c_true rfl ?_
  refine c_seqR ?_
  refine ops_cons rfl (ow_buildP pl28 ti28 rfl rfl ?_)
  refine ops_cons rfl (ow_storeB b2 ti28 rfl rfl rfl rfl rfl rfl ?_)
  intro w19 b5 hg18 z20
  replace hs := hs.grown hg18 (by intro g hg; injection hg; omega)
  replace p3 := p3.grown hg18 (by intro g hg; injection hg; omega)
  replace oN2 := oN2.grownBlk hg18 (Own.neT oN2 b2 (by decide))
  replace p4 := p4.grown hg18 (by intro g hg; injection hg; omega)
  replace oM2 := oM2.grownBlk hg18 (Own.neT oM2 b2 (by decide))
  replace oM2n := oM2n.grownB b2 hg18 (by decide)
  replace p5 := p5.grown hg18 (by intro g hg; injection hg; omega)
  replace oS2 := oS2.grownBlk hg18 (Own.neT oS2 b2 (by decide))
  replace X := X.grown hg18 X.size (by intro g hg; injection hg; omega)
  clear hg18 b2
  refine ops_cons rfl (ow_assign rfl ?_)
  refine ops_nil ?_
  refine c_ret ?_
  refine tq_r ?_
  refine fin_cell2 rfl rfl b5 ti28 rfl rfl ?_
  · skip
    have e : frmF xs = (zeroM.d, 6) := frmF_n (by omega) (frmO_s hrN hrM hrS)
    rw [e]; exact ⟨zeroM, rfl, rfl, zeroM_own _ _ _ _ _ _, X⟩
  subst hkS
  obtain ⟨hrS, ezS⟩ := eS.t
  subst ezS
  have hiS := rdS_len hrS
  refine ops_cons rfl (ow_not rfl ?_)
  refine ops_cons rfl (ow_move rfl ?_)
  refine ops_want rfl rfl rfl (ow_move rfl ?_)
  refine ops_want rfl rfl rfl (ow_move rfl ?_)
  refine ops_want rfl rfl rfl (ow_len Tryz.underlying30 rfl ?_)
  refine ops_want rfl rfl rfl (ow_neq2 rfl rfl (fun hLen => ?_) (fun hLen => ?_))
  refine ops_cons rfl (ow_pick rfl rfl ?_)
  refine ops_nil ?_
  refine c_true rfl ?_
  refine c_seqR ?_
  refine ops_cons rfl (ow_buildP pl28 ti28 rfl rfl ?_)
  refine ops_cons rfl (ow_storeB b2 ti28 rfl rfl rfl rfl rfl rfl ?_)
  intro w22 b5 hg21 z23
  replace hs := hs.grown hg21 (by intro g hg; injection hg; omega)
  replace p3 := p3.grown hg21 (by intro g hg; injection hg; omega)
  replace oN2 := oN2.grownBlk hg21 (Own.neT oN2 b2 (by decide))
  replace p4 := p4.grown hg21 (by intro g hg; injection hg; omega)
  replace oM2 := oM2.grownBlk hg21 (Own.neT oM2 b2 (by decide))
  replace oM2n := oM2n.grownB b2 hg21 (by decide)
  replace p5 := p5.grown hg21 (by intro g hg; injection hg; omega)
  replace oS2 := oS2.grownBlk hg21 (Own.neT oS2 b2 (by decide))
  replace X := X.grown hg21 X.size (by intro g hg; injection hg; omega)
  clear hg21 b2
  refine ops_cons rfl (ow_assign rfl ?_)
  refine ops_nil ?_
  refine c_ret ?_
  refine tq_r ?_
  refine fin_cell2 rfl rfl b5 ti28 rfl rfl ?_
  · skip
    have e : frmF xs = (zeroM.d, 6) := frmF_n (by omega) (frmO_l hrN hrM hrS (by rw [e5]; omega))
    rw [e]; exact ⟨zeroM, rfl, rfl, zeroM_own _ _ _ _ _ _, X⟩
  refine ops_cons rfl (ow_pick rfl rfl ?_)
  refine ops_nil ?_
  refine c_false rfl ?_
  refine c_skip ?_
  refine tq_n ?_
  have Rhs := hs.1
  have Rp3 := p3.1
  have Rp4 := p4.1
  have Rp5 := p5.1
  refine c_seqD [false, false, false, false, false, false, false, false, false, false, false, false, false, false, false, false, false, true] mixed (by kernel_rfl) ?_
  obtain ⟨x0, hx0, _⟩ := drop_at (xs := xs) (k := 0) (by omega)
  have hxb0 := isB_at hB hx0
  obtain ⟨x1, hx1, _⟩ := drop_at (xs := xs) (k := 1) (by omega)
  have hxb1 := isB_at hB hx1
  obtain ⟨x2, hx2, _⟩ := drop_at (xs := xs) (k := 2) (by omega)
  have hxb2 := isB_at hB hx2
  have eid : idV0 xs = x0 * 65536 + x1 * 256 + x2 := by unfold idV0; rw [getD_of hx0, getD_of hx1, getD_of hx2]
  refine f_q rfl (fun wq sq => ow_move rfl ⟨rfl, Ext.refl _⟩) ?_
  refine f_q rfl (fun wq sq => ow_indexT (hs.ext sq) eI_len rfl el30 rfl rfl rfl hx0 rfl ⟨rfl, Ext.refl _⟩) ?_
  refine f_q rfl (fun wq sq => ow_loadT (hs.ext sq) eI_len hx0 ti2 rfl rfl rfl ⟨rfl, Ext.refl _⟩) ?_
  refine f_q rfl (fun wq sq => ow_mul rfl rfl (w64 (by omega)) ⟨rfl, Ext.refl _⟩) ?_
  refine f_q rfl (fun wq sq => ow_move rfl ⟨rfl, Ext.refl _⟩) ?_
  refine f_q rfl (fun wq sq => ow_indexT (hs.ext sq) eI_len rfl el30 rfl rfl rfl hx1 rfl ⟨rfl, Ext.refl _⟩) ?_
  refine f_q rfl (fun wq sq => ow_loadT (hs.ext sq) eI_len hx1 ti2 rfl rfl rfl ⟨rfl, Ext.refl _⟩) ?_
  refine f_q rfl (fun wq sq => ow_mul rfl rfl (w64 (by omega)) ⟨rfl, Ext.refl _⟩) ?_
  refine f_q rfl (fun wq sq => ow_add rfl rfl (w64 (by omega)) ⟨rfl, Ext.refl _⟩) ?_
  refine f_q rfl (fun wq sq => ow_move rfl ⟨rfl, Ext.refl _⟩) ?_
  refine f_q rfl (fun wq sq => ow_indexT (hs.ext sq) eI_len rfl el30 rfl rfl rfl hx2 rfl ⟨rfl, Ext.refl _⟩) ?_
  refine f_q rfl (fun wq sq => ow_loadT (hs.ext sq) eI_len hx2 ti2 rfl rfl rfl ⟨rfl, Ext.refl _⟩) ?_
  refine f_q rfl (fun wq sq => ow_add rfl rfl (w64 (by omega)) ⟨rfl, Ext.refl _⟩) ?_
  refine f_q rfl (fun wq sq => ow_move rfl ⟨rfl, Ext.refl _⟩) ?_
  refine f_q rfl (fun wq sq => ow_move rfl ⟨rfl, Ext.refl _⟩) ?_
  refine f_q rfl (fun wq sq => ow_move rfl ⟨rfl, Ext.refl _⟩) ?_
  refine f_q rfl (fun wq sq => ow_buildP pl28 ti28 rfl rfl ⟨rfl, Ext.refl _⟩) ?_
  refine f_op (fun g3 : Nat => Value.pointer (some ⟨g3, 0, none⟩)) (fun g3 wz => Blk wz g3 28 zeroM.cells ∧ w.heap.size ≤ g3 ∧ w17.heap.size ≤ g3 ∧ g2 < g3) 0 rfl ⟨inj_ptr, fun _ _ _ h k => ⟨h.1.ext k, h.2⟩, fun wq sq => ow_alloc ti28 (fun g w' hg hb hx hz => ⟨g, rfl, ⟨hb, Nat.le_trans (Nat.le_trans X.size (sq).size) (Nat.le_of_eq hg.symm), Nat.le_trans (sq).size (Nat.le_of_eq hg.symm), Nat.lt_of_lt_of_eq (b2.ext sq).lt hg.symm⟩, hx⟩)⟩ ?_
  intro g3
  refine f_nil (fun w24 sq => ?_)
  have xq := sq.1
  have b3 := sq.2.1
  have lg3 := sq.2.2.1
  have rg3 := sq.2.2.2.1
  have ng3g2 := sq.2.2.2.2
  replace hs := hs.ext xq
  replace b2 := b2.ext xq
  replace p3 := p3.ext xq
  replace oN2 := oN2.ext xq
  replace p4 := p4.ext xq
  replace oM2 := oM2.ext xq
  replace oM2n := oM2n.ext xq
  replace p5 := p5.ext xq
  replace oS2 := oS2.ext xq
  replace X := Ext.trans X xq; clear xq sq
  refine ops_cons rfl (ow_storeB b3 ti28 rfl rfl rfl rfl rfl rfl ?_)
  intro w26 b4 hg25 z27
  replace hs := hs.grown hg25 (by intro g hg; injection hg; omega)
  replace b2 := b2.grown hg25 (by intro h; injection h; omega)
  replace p3 := p3.grown hg25 (by intro g hg; injection hg; omega)
  replace oN2 := oN2.grownBlk hg25 (Own.neT oN2 b3 (by decide))
  replace p4 := p4.grown hg25 (by intro g hg; injection hg; omega)
  replace oM2 := oM2.grownBlk hg25 (Own.neT oM2 b3 (by decide))
  replace oM2n := oM2n.grownB b3 hg25 (by decide)
  replace p5 := p5.grown hg25 (by intro g hg; injection hg; omega)
  replace oS2 := oS2.grownBlk hg25 (Own.neT oS2 b3 (by decide))
  replace X := X.grown hg25 X.size (by intro g hg; injection hg; omega)
  clear hg25 b3
  refine ops_nil ?_
  refine c_seq ?_
  refine c_seqR ?_
  have hsm : MedlI.small ⟨x0 * 65536 + x1 * 256 + x2, AN, rN.1, cN, AM, yM, cM, AS, yS, cS⟩ := frm_small hiN.1 (by rw [eyM]; exact hiM.2.2.2) hiS.2.2
  have hMo : MOwn _ w.heap.size 59 92 2 89 ⟨x0 * 65536 + x1 * 256 + x2, AN, rN.1, cN, AM, yM, cM, AS, yS, cS⟩ := ⟨oN2, oM2, oM2n, djM, oS2⟩
  refine ops_cons rfl (ow_loadAB b4 ti28 rfl rfl ?_)
  refine ops_cons rfl (ow_callB ent70 rfl (sIsMedl_c ⟨x0 * 65536 + x1 * 256 + x2, AN, rN.1, cN, AM, yM, cM, AS, yS, cS⟩ _ _ hMo.med hsm) (fun w29 hI x28 => ?_) (fun w29 hI x28 => ?_))
  replace hs := hs.ext x28
  replace b2 := b2.ext x28
  replace p3 := p3.ext x28
  replace oN2 := oN2.ext x28
  replace p4 := p4.ext x28
  replace oM2 := oM2.ext x28
  replace oM2n := oM2n.ext x28
  replace p5 := p5.ext x28
  replace oS2 := oS2.ext x28
  replace b4 := b4.ext x28
  replace X := Ext.trans X x28; clear x28
  refine ops_cons rfl (ow_not rfl ?_)
  refine ops_nil ?_
  refine c_false rfl ?_
  refine c_skip ?_
  refine tq_n ?_
  refine c_seqR ?_
  refine ops_cons rfl (ow_loadAB b4 ti28 rfl rfl ?_)
  refine ops_cons rfl (ow_storeB b2 ti28 rfl rfl rfl rfl rfl rfl ?_)
  intro w31 b5 hg30 z32
  replace hs := hs.grown hg30 (by intro g hg; injection hg; omega)
  replace p3 := p3.grown hg30 (by intro g hg; injection hg; omega)
  replace oN2 := oN2.grownBlk hg30 (Own.neT oN2 b2 (by decide))
  replace p4 := p4.grown hg30 (by intro g hg; injection hg; omega)
  replace oM2 := oM2.grownBlk hg30 (Own.neT oM2 b2 (by decide))
  replace oM2n := oM2n.grownB b2 hg30 (by decide)
  replace p5 := p5.grown hg30 (by intro g hg; injection hg; omega)
  replace oS2 := oS2.grownBlk hg30 (Own.neT oS2 b2 (by decide))
  replace b4 := b4.grown hg30 (by intro h; injection h; omega)
  replace X := X.grown hg30 X.size (by intro g hg; injection hg; omega)
  clear hg30 b2
  refine ops_cons rfl (ow_assign rfl ?_)
  refine ops_nil ?_
  refine c_ret ?_
  refine fin_cell2 rfl rfl b5 ti28 rfl rfl ?_
  · skip
    have hO : frmO xs = some ((⟨x0 * 65536 + x1 * 256 + x2, AN, rN.1, cN, AM, yM, cM, AS, yS, cS⟩ : MedlI)).d := by
      rw [frmO_y hrN hrM hrS (by rw [e5]; omega), eid, ← eyM]; rfl
    have e : frmF xs = (((⟨x0 * 65536 + x1 * 256 + x2, AN, rN.1, cN, AM, yM, cM, AS, yS, cS⟩ : MedlI)).d, 0) := frmF_0 (by omega) hO hI
    rw [e]; exact ⟨⟨x0 * 65536 + x1 * 256 + x2, AN, rN.1, cN, AM, yM, cM, AS, yS, cS⟩, rfl, rfl, ⟨oN2, oM2, oM2n, djM, oS2⟩, X⟩
  replace hs := hs.ext x28
  replace b2 := b2.ext x28
  replace p3 := p3.ext x28
  replace oN2 := oN2.ext x28
  replace p4 := p4.ext x28
  replace oM2 := oM2.ext x28
  replace oM2n := oM2n.ext x28
  replace p5 := p5.ext x28
  replace oS2 := oS2.ext x28
  replace b4 := b4.ext x28
  replace X := Ext.trans X x28; clear x28
  refine ops_cons rfl (ow_not rfl ?_)
  refine ops_nil ?_
  refine c_true rfl ?_
  refine c_seqR ?_
  refine ops_cons rfl (ow_buildP pl28 ti28 rfl rfl ?_)
  refine ops_cons rfl (ow_storeB b2 ti28 rfl rfl rfl rfl rfl rfl ?_)
  intro w34 b5 hg33 z35
  replace hs := hs.grown hg33 (by intro g hg; injection hg; omega)
  replace p3 := p3.grown hg33 (by intro g hg; injection hg; omega)
  replace oN2 := oN2.grownBlk hg33 (Own.neT oN2 b2 (by decide))
  replace p4 := p4.grown hg33 (by intro g hg; injection hg; omega)
  replace oM2 := oM2.grownBlk hg33 (Own.neT oM2 b2 (by decide))
  replace oM2n := oM2n.grownB b2 hg33 (by decide)
  replace p5 := p5.grown hg33 (by intro g hg; injection hg; omega)
  replace oS2 := oS2.grownBlk hg33 (Own.neT oS2 b2 (by decide))
  replace b4 := b4.grown hg33 (by intro h; injection h; omega)
  replace X := X.grown hg33 X.size (by intro g hg; injection hg; omega)
  clear hg33 b2
  refine ops_cons rfl (ow_assign rfl ?_)
  refine ops_nil ?_
  refine c_ret ?_
  refine tq_r ?_
  refine fin_cell2 rfl rfl b5 ti28 rfl rfl ?_
  · skip
    have hO : frmO xs = some ((⟨x0 * 65536 + x1 * 256 + x2, AN, rN.1, cN, AM, yM, cM, AS, yS, cS⟩ : MedlI)).d := by
      rw [frmO_y hrN hrM hrS (by rw [e5]; omega), eid, ← eyM]; rfl
    have e : frmF xs = (zeroM.d, 1) := frmF_1 (by omega) hO hI
    rw [e]; exact ⟨zeroM, rfl, rfl, zeroM_own _ _ _ _ _ _, X⟩

theorem iFrom_c (A : Option Addr) (B c : Nat) (xs : List Int) (w : World) (hs : Sl B w A (xs.flatMap eI)) (hl : xs.length ≤ 1048576) (hcap : xs.length ≤ c) :
    Calls Tryz.prog 18 #[.slice A xs.length c] w (Ret fun v w' => ∃ m', v = .tuple #[.agg m'.cells.toArray, .int .i64 (frmR xs).2] ∧ m'.d = (frmR xs).1 ∧ MOwn w' w.heap.size 59 92 2 89 m' ∧ Ext w w') := by
  have Bhs := hs.1
  have X := Ext.refl w
  refine calls_of (args := [.slice A xs.length c]) Tryz.func18 Tryz.ntmps18 rfl rfl ?_
  refine c_seqR ?_
  refine ops_cons rfl (ow_alloc ti28 ?_)
  intro g2 w2 eg2 b2 x1 zg2
  have lg2 : w.heap.size ≤ g2 := Nat.le_trans X.size (Nat.le_of_eq eg2.symm)
  have pg2hs := Nat.le_trans hs.1 (Nat.le_of_eq eg2.symm)
  replace hs := hs.ext x1
  replace X := Ext.trans X x1; clear x1
  refine ops_cons rfl (ow_assign rfl ?_)
  refine ops_nil ?_
  refine c_seq ?_
  refine c_seqR ?_
  refine ops_cons rfl (ow_move rfl ?_)
  refine ops_cons rfl (ow_callB ent74 rfl (iIsBytes_c _ _ _ _ _ hs hl) (fun w4 hIB x3 => ?_) (fun w4 hIB x3 => ?_))
  replace hs := hs.ext x3
  replace b2 := b2.ext x3
  replace X := Ext.trans X x3; clear x3
  have hB : isB xs = true := hIB
  have hbl := isB_len hIB
  refine ops_cons rfl (ow_not rfl ?_)
  refine ops_nil ?_
  refine c_false rfl ?_
  refine c_skip ?_
  refine tq_n ?_
  refine c_seq ?_
  refine c_seqR ?_
  refine ops_cons rfl (ow_move rfl ?_)
  refine ops_cons rfl (ow_len Tryz.underlying30 rfl ?_)
  refine ops_cons rfl (ow_lss2 rfl rfl (fun h3 => ?_) (fun h3 => ?_))
  refine ops_nil ?_
  refine c_true rfl ?_
  refine c_seqR ?_
  refine ops_cons rfl (ow_buildP pl28 ti28 rfl rfl ?_)
  refine ops_cons rfl (ow_storeB b2 ti28 rfl rfl rfl rfl rfl rfl ?_)
  intro w6 b5 hg5 z7
  replace hs := hs.grown hg5 (by intro g hg; injection hg; omega)
  replace X := X.grown hg5 X.size (by intro g hg; injection hg; omega)
  clear hg5 b2
  refine ops_cons rfl (ow_assign rfl ?_)
  refine ops_nil ?_
  refine c_ret ?_
  refine tq_r ?_
  refine fin_cell2 rfl rfl b5 ti28 rfl rfl ?_
  · skip
    have e : frmR xs = frmF xs := by rw [frmR, if_pos hB]
    rw [e]
    have e : frmF xs = (zeroM.d, 6) := frmF_3 (by omega)
    rw [e]; exact ⟨zeroM, rfl, rfl, zeroM_own _ _ _ _ _ _, X⟩
  have e3 : (xs.drop 3).length = xs.length - 3 := List.length_drop ..
  obtain ⟨x0, hx0, _⟩ := drop_at (xs := xs) (k := 0) (by omega)
  have hxb0 := isB_at hB hx0
  obtain ⟨x1, hx1, _⟩ := drop_at (xs := xs) (k := 1) (by omega)
  have hxb1 := isB_at hB hx1
  obtain ⟨x2, hx2, _⟩ := drop_at (xs := xs) (k := 2) (by omega)
  have hxb2 := isB_at hB hx2
  have eid : idV0 xs = x0 * 65536 + x1 * 256 + x2 := by unfold idV0; rw [getD_of hx0, getD_of hx1, getD_of hx2]
  refine ops_nil ?_
  refine c_false rfl ?_
  refine c_skip ?_
  refine tq_n ?_
  refine c_seqI (fun wz => Sl B wz A (xs.flatMap eI)) mixed ?_
  obtain ⟨w9, ew9⟩ : ∃ wy, wy = World.drew w4 := ⟨_, rfl⟩
  rw [← ew9]
  have xd : Ext w4 w9 := ew9 ▸ Ext.drew w4
  replace hs := hs.ext xd
  replace b2 := b2.ext xd
  replace X := Ext.trans X xd; clear xd ew9
  refine wi_take 0 rfl (by kernel_rfl) rfl (by kernel_rfl) (listed' := #[true, false, false, false, false, false, false, false]) rfl (fun wq sq => ow_move rfl ⟨rfl, rfl⟩) ?_
  refine wi_take 3 rfl (by kernel_rfl) rfl (by kernel_rfl) (listed' := #[true, false, false, true, false, false, false, false]) rfl (fun wq sq => ow_move rfl ⟨rfl, rfl⟩) ?_
  refine wi_take 4 rfl (by kernel_rfl) rfl (by kernel_rfl) (listed' := #[true, false, false, true, true, false, false, false]) rfl (fun wq sq => ow_sliceLX (l := 3) el30 rfl rfl (by omega) (by omega) ⟨rfl, rfl⟩) ?_
  refine wi_two 1 5 rfl rfl rfl rfl (by kernel_rfl) (listed' := #[true, true, false, true, true, false, false, false]) (listed'' := #[true, false, false, true, true, true, false, false]) rfl rfl hs ?_ ?_
  refine (ow_call ent75 rfl (ret_mono (idOf_c _ _ c xs.length xs x0 x1 x2 _ hs rfl hx0 hx1 hx2 hxb0 hxb1 hxb2) ?_))
  rintro _ w11 ⟨rfl, x10⟩
  replace hs := hs.ext x10
  replace b2 := b2.ext x10
  replace X := Ext.trans X x10; clear x10
  refine wi_take 2 rfl (by kernel_rfl) rfl (by kernel_rfl) (listed' := #[true, true, true, true, true, false, false, false]) rfl (fun wq sq => ow_buildP pl28 ti28 rfl rfl ⟨rfl, rfl⟩) ?_
  refine wi_one 5 rfl rfl (by kernel_rfl) (listed' := #[true, true, true, true, true, true, false, false]) rfl hs (ow_alloc ti28 ?_)
  intro g3 w13 eg3 b3 x12 zg3
  have lg3 : w.heap.size ≤ g3 := Nat.le_trans X.size (Nat.le_of_eq eg3.symm)
  have pg3hs := Nat.le_trans hs.1 (Nat.le_of_eq eg3.symm)
  have ng3b2 := Nat.lt_of_lt_of_eq b2.lt eg3.symm
  replace hs := hs.ext x12
  replace b2 := b2.ext x12
  replace X := Ext.trans X x12; clear x12
  refine wi_one 6 rfl rfl (by kernel_rfl) (listed' := #[true, true, true, true, true, true, true, false]) rfl hs (ow_storeB b3 ti28 rfl rfl rfl rfl rfl rfl ?_)
  intro w15 b4 hg14 z16
  replace hs := hs.grown hg14 (by intro g hg; injection hg; omega)
  replace b2 := b2.grown hg14 (by intro h; injection h; omega)
  replace X := X.grown hg14 X.size (by intro g hg; injection hg; omega)
  clear hg14 b3
  refine wi_take 7 rfl (by kernel_rfl) rfl (by kernel_rfl) (listed' := #[true, true, true, true, true, true, true, true]) rfl (fun wq sq => ow_assign rfl ⟨rfl, rfl⟩) ?_
  refine wi_done rfl hs (fun aj fj => ⟨_, fj, ?_⟩)
  refine c_seqR ?_
  have p3 := hs.dropX 3 hcap
  refine ops_cons rfl (ow_move rfl ?_)
  refine ops_cons rfl (ow_call ent76 rfl (ret_mono (readNodes_n _ B (c - 3) (xs.length - 3) (xs.drop 3) _ p3 (by omega) (isB_drop hB 3) (by omega) e3) ?_))
  rintro _ w18 ⟨AN, cN, yN, szN, okN, rfl, eN, oN2, x17⟩
  replace oN2 := Own.low oN2 X.size
  replace hs := hs.ext x17
  replace b2 := b2.ext x17
  replace b4 := b4.ext x17
  replace p3 := p3.ext x17
  replace X := Ext.trans X x17; clear x17
  obtain ⟨kN, ezN, hkNl⟩ := eN.sz
  subst ezN
  have e4 : ((xs.drop 3).drop kN).length = ((xs.length - 3) - kN) := by rw [List.length_drop, e3]
  refine ops_cons rfl (ow_move rfl ?_)
  refine ops_cons rfl (ow_extract rfl rfl ?_)
  refine ops_cons rfl (ow_extract rfl rfl ?_)
  refine ops_cons rfl (ow_extract rfl rfl ?_)
  refine ops_cons rfl (ow_assign rfl ?_)
  refine ops_cons rfl (ow_assign rfl ?_)
  refine ops_cons rfl (ow_assign rfl ?_)
  refine ops_nil ?_
  refine c_seqR ?_
  refine ops_cons rfl (ow_move rfl ?_)
  refine ops_cons rfl (ow_move rfl ?_)
  refine ops_cons rfl (ow_sliceL el30 p3 eI_len rfl rfl rfl e3.symm (by omega) (by omega) ?_)
  intro A4 p4
  refine ops_cons rfl (ow_assign rfl ?_)
  refine ops_nil ?_
  refine c_seqR ?_
  refine ops_cons rfl (ow_move rfl ?_)
  refine ops_cons rfl (ow_call ent77 rfl (ret_mono (readModes_n A4 B ((c - 3) - kN) ((xs.length - 3) - kN) ((xs.drop 3).drop kN) _ p4 (by omega) (isB_drop (isB_drop hB 3) _) (by omega) e4) ?_))
  rintro _ w20 ⟨AM, cM, yM, szM, okM, rfl, eM, djM, oM2, oM2n, x19⟩
  replace oM2 := Own.low oM2 X.size
  replace oM2n := NOwn.low oM2n X.size
  replace hs := hs.ext x19
  replace b2 := b2.ext x19
  replace b4 := b4.ext x19
  replace p3 := p3.ext x19
  replace oN2 := oN2.ext x19
  replace p4 := p4.ext x19
  replace X := Ext.trans X x19; clear x19
  obtain ⟨kM, ezM, hkMl⟩ := eM.sz
  subst ezM
  have e5 : (((xs.drop 3).drop kN).drop kM).length = (((xs.length - 3) - kN) - kM) := by rw [List.length_drop, e4]
  refine ops_cons rfl (ow_move rfl ?_)
  refine ops_cons rfl (ow_extract rfl rfl ?_)
  refine ops_cons rfl (ow_extract rfl rfl ?_)
  refine ops_cons rfl (ow_extract rfl rfl ?_)
  refine ops_cons rfl (ow_assign rfl ?_)
  refine ops_cons rfl (ow_assign rfl ?_)
  refine ops_cons rfl (ow_assign rfl ?_)
  refine ops_nil ?_
  refine c_seqR ?_
  refine ops_cons rfl (ow_move rfl ?_)
  refine ops_cons rfl (ow_move rfl ?_)
  refine ops_cons rfl (ow_sliceL el30 p4 eI_len rfl rfl rfl e4.symm (by omega) (by omega) ?_)
  intro A5 p5
  refine ops_cons rfl (ow_assign rfl ?_)
  refine ops_nil ?_
  refine c_seqR ?_
  refine ops_cons rfl (ow_move rfl ?_)
  refine ops_cons rfl (ow_call ent78 rfl (ret_mono (readSlots_n A5 B (((c - 3) - kN) - kM) (((xs.length - 3) - kN) - kM) (((xs.drop 3).drop kN).drop kM) _ p5 (by omega) (isB_drop (isB_drop (isB_drop hB 3) _) _) (by omega) e5) ?_))
  rintro _ w22 ⟨AS, cS, yS, szS, okS, rfl, eS, oS2, x21⟩
  replace oS2 := Own.low oS2 X.size
  replace hs := hs.ext x21
  replace b2 := b2.ext x21
  replace b4 := b4.ext x21
  replace p3 := p3.ext x21
  replace oN2 := oN2.ext x21
  replace p4 := p4.ext x21
  replace oM2 := oM2.ext x21
  replace oM2n := oM2n.ext x21
  replace p5 := p5.ext x21
  replace X := Ext.trans X x21; clear x21
  refine ops_cons rfl (ow_move rfl ?_)
  refine ops_cons rfl (ow_extract rfl rfl ?_)
  refine ops_cons rfl (ow_extract rfl rfl ?_)
  refine ops_cons rfl (ow_extract rfl rfl ?_)
  refine ops_cons rfl (ow_assign rfl ?_)
  refine ops_cons rfl (ow_assign rfl ?_)
  refine ops_cons rfl (ow_assign rfl ?_)
  refine ops_nil ?_
  refine c_seq ?_
  refine c_seqR ?_
  refine ops_cons rfl (ow_move rfl ?_)
  cases hkN : okN
  subst hkN
  have hrN := (eN.f).1
  refine ops_cons rfl (ow_not rfl ?_)
  refine ops_cons rfl (ow_move rfl ?_)
  refine ops_skip rfl rfl rfl rfl ?_
  refine ops_skip rfl rfl rfl rfl ?_
  refine ops_cons rfl (ow_pick rfl rfl ?_)
  refine ops_cons rfl (ow_move rfl ?_)
  refine ops_skip rfl rfl rfl rfl ?_
  refine ops_skip rfl rfl rfl rfl ?_
  refine ops_cons rfl (ow_pick rfl rfl ?_)
  refine ops_cons rfl (ow_move rfl ?_)
  refine ops_skip rfl rfl rfl rfl ?_
  refine ops_skip rfl rfl rfl rfl ?_
  refine ops_skip rfl rfl rfl rfl ?_
  refine ops_skip rfl rfl rfl rfl ?_
  refine ops_cons rfl (ow_pick rfl rfl ?_)
  refine ops_nil ?_
  refine c_true rfl ?_
  refine c_seqR ?_
  refine ops_cons rfl (ow_buildP pl28 ti28 rfl rfl ?_)
  refine ops_cons rfl (ow_storeB b2 ti28 rfl rfl rfl rfl rfl rfl ?_)
  intro w24 b5 hg23 z25
  replace hs := hs.grown hg23 (by intro g hg; injection hg; omega)
  replace b4 := b4.grown hg23 (by intro h; injection h; omega)
  replace p3 := p3.grown hg23 (by intro g hg; injection hg; omega)
  replace oN2 := oN2.grownBlk hg23 (Own.neT oN2 b2 (by decide))
  replace p4 := p4.grown hg23 (by intro g hg; injection hg; omega)
  replace oM2 := oM2.grownBlk hg23 (Own.neT oM2 b2 (by decide))
  replace oM2n := oM2n.grownB b2 hg23 (by decide)
  replace p5 := p5.grown hg23 (by intro g hg; injection hg; omega)
  replace oS2 := oS2.grownBlk hg23 (Own.neT oS2 b2 (by decide))
  replace X := X.grown hg23 X.size (by intro g hg; injection hg; omega)
  clear hg23 b2
  refine ops_cons rfl (ow_assign rfl ?_)
  refine ops_nil ?_
  refine c_ret ?_
  refine tq_r ?_
  refine fin_cell2 rfl rfl b5 ti28 rfl rfl ?_
  · skip
    have e : frmR xs = frmF xs := by rw [frmR, if_pos hB]
    rw [e]
    have e : frmF xs = (zeroM.d, 6) := frmF_n (by omega) (frmO_n hrN)
    rw [e]; exact ⟨zeroM, rfl, rfl, zeroM_own _ _ _ _ _ _, X⟩
  subst hkN
  obtain ⟨rN, hrN, eyN, ezN⟩ := eN.t
  subst eyN
  obtain rfl : kN = rN.2 := by omega
  have hiN := rdN_in hrN
  refine ops_cons rfl (ow_not rfl ?_)
  refine ops_cons rfl (ow_move rfl ?_)
  refine ops_want rfl rfl rfl (ow_move rfl ?_)
  cases hkM : okM
  subst hkM
  have hrM := eM.f
  refine ops_want rfl rfl rfl (ow_not rfl ?_)
  refine ops_cons rfl (ow_pick rfl rfl ?_)
  refine ops_cons rfl (ow_move rfl ?_)
  refine ops_skip rfl rfl rfl rfl ?_
  refine ops_skip rfl rfl rfl rfl ?_
  refine ops_cons rfl (ow_pick rfl rfl ?_)
  refine ops_cons rfl (ow_move rfl ?_)
  refine ops_skip rfl rfl rfl rfl ?_
  refine ops_skip rfl rfl rfl rfl ?_
  refine ops_skip rfl rfl rfl rfl ?_
  refine ops_skip rfl rfl rfl rfl ?_
  refine ops_cons rfl (ow_pick rfl rfl ?_)
  refine ops_nil ?_
  refine c_true rfl ?_
  refine c_seqR ?_
  refine ops_cons rfl (ow_buildP pl28 ti28 rfl rfl ?_)
  refine ops_cons rfl (ow_storeB b2 ti28 rfl rfl rfl rfl rfl rfl ?_)
  intro w27 b5 hg26 z28
  replace hs := hs.grown hg26 (by intro g hg; injection hg; omega)
  replace b4 := b4.grown hg26 (by intro h; injection h; omega)
  replace p3 := p3.grown hg26 (by intro g hg; injection hg; omega)
  replace oN2 := oN2.grownBlk hg26 (Own.neT oN2 b2 (by decide))
  replace p4 := p4.grown hg26 (by intro g hg; injection hg; omega)
  replace oM2 := oM2.grownBlk hg26 (Own.neT oM2 b2 (by decide))
  replace oM2n := oM2n.grownB b2 hg26 (by decide)
  replace p5 := p5.grown hg26 (by intro g hg; injection hg; omega)
  replace oS2 := oS2.grownBlk hg26 (Own.neT oS2 b2 (by decide))
  replace X := X.grown hg26 X.size (by intro g hg; injection hg; omega)
  clear hg26 b2
  refine ops_cons rfl (ow_assign rfl ?_)
  refine ops_nil ?_
  refine c_ret ?_
  refine tq_r ?_
  refine fin_cell2 rfl rfl b5 ti28 rfl rfl ?_
  · skip
    have e : frmR xs = frmF xs := by rw [frmR, if_pos hB]
    rw [e]
    have e : frmF xs = (zeroM.d, 6) := frmF_n (by omega) (frmO_m hrN hrM)
    rw [e]; exact ⟨zeroM, rfl, rfl, zeroM_own _ _ _ _ _ _, X⟩
  subst hkM
  obtain ⟨rM, hrM, eyM, ezM⟩ := eM.t
  obtain rfl : kM = rM.2 := by omega
  have hiM := rdM_in hrM
  refine ops_want rfl rfl rfl (ow_not rfl ?_)
  refine ops_cons rfl (ow_pick rfl rfl ?_)
  refine ops_cons rfl (ow_move rfl ?_)
  refine ops_want rfl rfl rfl (ow_move rfl ?_)
  cases hkS : okS
  subst hkS
  have hrS := eS.f
  refine ops_want rfl rfl rfl (ow_not rfl ?_)
  refine ops_cons rfl (ow_pick rfl rfl ?_)
  refine ops_cons rfl (ow_move rfl ?_)
  refine ops_skip rfl rfl rfl rfl ?_
  refine ops_skip rfl rfl rfl rfl ?_
  refine ops_skip rfl rfl rfl rfl ?_
  refine ops_skip rfl rfl rfl rfl ?_
  refine ops_cons rfl (ow_pick rfl rfl ?_)
  refine ops_nil ?_
  refine c_true rfl ?_
  refine c_seqR ?_
  refine ops_cons rfl (ow_buildP pl28 ti28 rfl rfl ?_)
  refine ops_cons rfl (ow_storeB b2 ti28 rfl rfl rfl rfl rfl rfl ?_)
  intro w30 b5 hg29 z31
  replace hs := hs.grown hg29 (by intro g hg; injection hg; omega)
  replace b4 := b4.grown hg29 (by intro h; injection h; omega)
  replace p3 := p3.grown hg29 (by intro g hg; injection hg; omega)
  replace oN2 := oN2.grownBlk hg29 (Own.neT oN2 b2 (by decide))
  replace p4 := p4.grown hg29 (by intro g hg; injection hg; omega)
  replace oM2 := oM2.grownBlk hg29 (Own.neT oM2 b2 (by decide))
  replace oM2n := oM2n.grownB b2 hg29 (by decide)
  replace p5 := p5.grown hg29 (by intro g hg; injection hg; omega)
  replace oS2 := oS2.grownBlk hg29 (Own.neT oS2 b2 (by decide))
  replace X := X.grown hg29 X.size (by intro g hg; injection hg; omega)
  clear hg29 b2
  refine ops_cons rfl (ow_assign rfl ?_)
  refine ops_nil ?_
  refine c_ret ?_
  refine tq_r ?_
  refine fin_cell2 rfl rfl b5 ti28 rfl rfl ?_
  · skip
    have e : frmR xs = frmF xs := by rw [frmR, if_pos hB]
    rw [e]
    have e : frmF xs = (zeroM.d, 6) := frmF_n (by omega) (frmO_s hrN hrM hrS)
    rw [e]; exact ⟨zeroM, rfl, rfl, zeroM_own _ _ _ _ _ _, X⟩
  subst hkS
  obtain ⟨hrS, ezS⟩ := eS.t
  subst ezS
  have hiS := rdS_len hrS
  refine ops_want rfl rfl rfl (ow_not rfl ?_)
  refine ops_cons rfl (ow_pick rfl rfl ?_)
  refine ops_cons rfl (ow_move rfl ?_)
  refine ops_want rfl rfl rfl (ow_move rfl ?_)
  refine ops_want rfl rfl rfl (ow_move rfl ?_)
  refine ops_want rfl rfl rfl (ow_len Tryz.underlying30 rfl ?_)
  refine ops_want rfl rfl rfl (ow_lss2 rfl rfl (fun hLt => ?_) (fun hLt => ?_))
  refine ops_cons rfl (ow_pick rfl rfl ?_)
  refine ops_nil ?_
  refine c_true rfl ?_
  refine c_seqR ?_
  refine ops_cons rfl (ow_buildP pl28 ti28 rfl rfl ?_)
  refine ops_cons rfl (ow_storeB b2 ti28 rfl rfl rfl rfl rfl rfl ?_)
  intro w33 b5 hg32 z34
  replace hs := hs.grown hg32 (by intro g hg; injection hg; omega)
  replace b4 := b4.grown hg32 (by intro h; injection h; omega)
  replace p3 := p3.grown hg32 (by intro g hg; injection hg; omega)
  replace oN2 := oN2.grownBlk hg32 (Own.neT oN2 b2 (by decide))
  replace p4 := p4.grown hg32 (by intro g hg; injection hg; omega)
  replace oM2 := oM2.grownBlk hg32 (Own.neT oM2 b2 (by decide))
  replace oM2n := oM2n.grownB b2 hg32 (by decide)
  replace p5 := p5.grown hg32 (by intro g hg; injection hg; omega)
  replace oS2 := oS2.grownBlk hg32 (Own.neT oS2 b2 (by decide))
  replace X := X.grown hg32 X.size (by intro g hg; injection hg; omega)
  clear hg32 b2
  refine ops_cons rfl (ow_assign rfl ?_)
  refine ops_nil ?_
  refine c_ret ?_
  refine tq_r ?_
  refine fin_cell2 rfl rfl b5 ti28 rfl rfl ?_
  · skip
    have e : frmR xs = frmF xs := by rw [frmR, if_pos hB]
    rw [e]
    have e : frmF xs = (zeroM.d, 6) := frmF_n (by omega) (frmO_l hrN hrM hrS (by rw [e5]; omega))
    rw [e]; exact ⟨zeroM, rfl, rfl, zeroM_own _ _ _ _ _ _, X⟩
  refine ops_cons rfl (ow_pick rfl rfl ?_)
  refine ops_nil ?_
  refine c_false rfl ?_
  refine c_skip ?_
  refine tq_n ?_
  refine c_seqR ?_
  refine ops_cons rfl (ow_move rfl ?_)
  refine ops_cons rfl (ow_move rfl ?_)
  refine ops_cons rfl (ow_move rfl ?_)
  refine ops_cons rfl (ow_fieldAddrB off28_1 rfl rfl ?_)
  refine ops_cons rfl (ow_storeB b4 ti24 rfl rfl rfl rfl rfl rfl ?_)
  intro w36 b6 hg35 z37
  replace hs := hs.grown hg35 (by intro g hg; injection hg; omega)
  replace b2 := b2.grown hg35 (by intro h; injection h; omega)
  replace p3 := p3.grown hg35 (by intro g hg; injection hg; omega)
  replace oN2 := oN2.grownBlk hg35 (Own.neT oN2 b4 (by decide))
  replace p4 := p4.grown hg35 (by intro g hg; injection hg; omega)
  replace oM2 := oM2.grownBlk hg35 (Own.neT oM2 b4 (by decide))
  replace oM2n := oM2n.grownB b4 hg35 (by decide)
  replace p5 := p5.grown hg35 (by intro g hg; injection hg; omega)
  replace oS2 := oS2.grownBlk hg35 (Own.neT oS2 b4 (by decide))
  replace X := X.grown hg35 X.size (by intro g hg; injection hg; omega)
  clear hg35 b4
  refine ops_cons rfl (ow_fieldAddrB off28_2 rfl rfl ?_)
  refine ops_cons rfl (ow_storeB b6 ti25 rfl rfl rfl rfl rfl rfl ?_)
  intro w39 b7 hg38 z40
  replace hs := hs.grown hg38 (by intro g hg; injection hg; omega)
  replace b2 := b2.grown hg38 (by intro h; injection h; omega)
  replace p3 := p3.grown hg38 (by intro g hg; injection hg; omega)
  replace oN2 := oN2.grownBlk hg38 (Own.neT oN2 b6 (by decide))
  replace p4 := p4.grown hg38 (by intro g hg; injection hg; omega)
  replace oM2 := oM2.grownBlk hg38 (Own.neT oM2 b6 (by decide))
  replace oM2n := oM2n.grownB b6 hg38 (by decide)
  replace p5 := p5.grown hg38 (by intro g hg; injection hg; omega)
  replace oS2 := oS2.grownBlk hg38 (Own.neT oS2 b6 (by decide))
  replace X := X.grown hg38 X.size (by intro g hg; injection hg; omega)
  clear hg38 b6
  refine ops_cons rfl (ow_fieldAddrB off28_3 rfl rfl ?_)
  refine ops_cons rfl (ow_storeB b7 ti26 rfl rfl rfl rfl rfl rfl ?_)
  intro w42 b8 hg41 z43
  replace hs := hs.grown hg41 (by intro g hg; injection hg; omega)
  replace b2 := b2.grown hg41 (by intro h; injection h; omega)
  replace p3 := p3.grown hg41 (by intro g hg; injection hg; omega)
  replace oN2 := oN2.grownBlk hg41 (Own.neT oN2 b7 (by decide))
  replace p4 := p4.grown hg41 (by intro g hg; injection hg; omega)
  replace oM2 := oM2.grownBlk hg41 (Own.neT oM2 b7 (by decide))
  replace oM2n := oM2n.grownB b7 hg41 (by decide)
  replace p5 := p5.grown hg41 (by intro g hg; injection hg; omega)
  replace oS2 := oS2.grownBlk hg41 (Own.neT oS2 b7 (by decide))
  replace X := X.grown hg41 X.size (by intro g hg; injection hg; omega)
  clear hg41 b7
  refine ops_nil ?_
  refine c_seq ?_
  refine c_seqR ?_
  have hsm : MedlI.small ⟨x0 * 65536 + x1 * 256 + x2, AN, rN.1, cN, AM, yM, cM, AS, yS, cS⟩ := frm_small hiN.1 (by rw [eyM]; exact hiM.2.2.2) hiS.2.2
  have hMo : MOwn _ w.heap.size 59 92 2 89 ⟨x0 * 65536 + x1 * 256 + x2, AN, rN.1, cN, AM, yM, cM, AS, yS, cS⟩ := ⟨oN2, oM2, oM2n, djM, oS2⟩
  refine ops_cons rfl (ow_loadAB b8 ti28 rfl rfl ?_)
  refine ops_cons rfl (ow_callB ent33 rfl (iIsMedl_c ⟨x0 * 65536 + x1 * 256 + x2, AN, rN.1, cN, AM, yM, cM, AS, yS, cS⟩ _ _ hMo.med hsm) (fun w45 hI x44 => ?_) (fun w45 hI x44 => ?_))
  replace hs := hs.ext x44
  replace b2 := b2.ext x44
  replace p3 := p3.ext x44
  replace oN2 := oN2.ext x44
  replace p4 := p4.ext x44
  replace oM2 := oM2.ext x44
  replace oM2n := oM2n.ext x44
  replace p5 := p5.ext x44
  replace oS2 := oS2.ext x44
  replace b8 := b8.ext x44
  replace X := Ext.trans X x44; clear x44
  refine ops_cons rfl (ow_not rfl ?_)
  refine ops_nil ?_
  refine c_false rfl ?_
  refine c_skip ?_
  refine tq_n ?_
  refine c_seqR ?_
  refine ops_cons rfl (ow_loadAB b8 ti28 rfl rfl ?_)
  refine ops_cons rfl (ow_storeB b2 ti28 rfl rfl rfl rfl rfl rfl ?_)
  intro w47 b5 hg46 z48
  replace hs := hs.grown hg46 (by intro g hg; injection hg; omega)
  replace p3 := p3.grown hg46 (by intro g hg; injection hg; omega)
  replace oN2 := oN2.grownBlk hg46 (Own.neT oN2 b2 (by decide))
  replace p4 := p4.grown hg46 (by intro g hg; injection hg; omega)
  replace oM2 := oM2.grownBlk hg46 (Own.neT oM2 b2 (by decide))
  replace oM2n := oM2n.grownB b2 hg46 (by decide)
  replace p5 := p5.grown hg46 (by intro g hg; injection hg; omega)
  replace oS2 := oS2.grownBlk hg46 (Own.neT oS2 b2 (by decide))
  replace b8 := b8.grown hg46 (by intro h; injection h; omega)
  replace X := X.grown hg46 X.size (by intro g hg; injection hg; omega)
  clear hg46 b2
  refine ops_cons rfl (ow_assign rfl ?_)
  refine ops_nil ?_
  refine c_ret ?_
  refine fin_cell2 rfl rfl b5 ti28 rfl rfl ?_
  · skip
    have e : frmR xs = frmF xs := by rw [frmR, if_pos hB]
    rw [e]
    have hO : frmO xs = some ((⟨x0 * 65536 + x1 * 256 + x2, AN, rN.1, cN, AM, yM, cM, AS, yS, cS⟩ : MedlI)).d := by
      rw [frmO_y hrN hrM hrS (by rw [e5]; omega), eid, ← eyM]; rfl
    have e : frmF xs = (((⟨x0 * 65536 + x1 * 256 + x2, AN, rN.1, cN, AM, yM, cM, AS, yS, cS⟩ : MedlI)).d, 0) := frmF_0 (by omega) hO hI
    rw [e]; exact ⟨⟨x0 * 65536 + x1 * 256 + x2, AN, rN.1, cN, AM, yM, cM, AS, yS, cS⟩, rfl, rfl, ⟨oN2, oM2, oM2n, djM, oS2⟩, X⟩
  replace hs := hs.ext x44
  replace b2 := b2.ext x44
  replace p3 := p3.ext x44
  replace oN2 := oN2.ext x44
  replace p4 := p4.ext x44
  replace oM2 := oM2.ext x44
  replace oM2n := oM2n.ext x44
  replace p5 := p5.ext x44
  replace oS2 := oS2.ext x44
  replace b8 := b8.ext x44
  replace X := Ext.trans X x44; clear x44
  refine ops_cons rfl (ow_not rfl ?_)
  refine ops_nil ?_
  refine c_true rfl ?_
  refine c_seqR ?_
  refine ops_cons rfl (ow_buildP pl28 ti28 rfl rfl ?_)
  refine ops_cons rfl (ow_storeB b2 ti28 rfl rfl rfl rfl rfl rfl ?_)
  intro w50 b5 hg49 z51
  replace hs := hs.grown hg49 (by intro g hg; injection hg; omega)
  replace p3 := p3.grown hg49 (by intro g hg; injection hg; omega)
  replace oN2 := oN2.grownBlk hg49 (Own.neT oN2 b2 (by decide))
  replace p4 := p4.grown hg49 (by intro g hg; injection hg; omega)
  replace oM2 := oM2.grownBlk hg49 (Own.neT oM2 b2 (by decide))
  replace oM2n := oM2n.grownB b2 hg49 (by decide)
  replace p5 := p5.grown hg49 (by intro g hg; injection hg; omega)
  replace oS2 := oS2.grownBlk hg49 (Own.neT oS2 b2 (by decide))
  replace b8 := b8.grown hg49 (by intro h; injection h; omega)
  replace X := X.grown hg49 X.size (by intro g hg; injection hg; omega)
  clear hg49 b2
  refine ops_cons rfl (ow_assign rfl ?_)
  refine ops_nil ?_
  refine c_ret ?_
  refine tq_r ?_
  refine fin_cell2 rfl rfl b5 ti28 rfl rfl ?_
  · skip
    have e : frmR xs = frmF xs := by rw [frmR, if_pos hB]
    rw [e]
    have hO : frmO xs = some ((⟨x0 * 65536 + x1 * 256 + x2, AN, rN.1, cN, AM, yM, cM, AS, yS, cS⟩ : MedlI)).d := by
      rw [frmO_y hrN hrM hrS (by rw [e5]; omega), eid, ← eyM]; rfl
    have e : frmF xs = (zeroM.d, 1) := frmF_1 (by omega) hO hI
    rw [e]; exact ⟨zeroM, rfl, rfl, zeroM_own _ _ _ _ _ _, X⟩
  refine (ow_alloc ti28 ?_)
  intro g3 w53 eg3 b3 x52 zg3
  have lg3 : w.heap.size ≤ g3 := Nat.le_trans X.size (Nat.le_of_eq eg3.symm)
  have pg3hs := Nat.le_trans hs.1 (Nat.le_of_eq eg3.symm)
  have ng3b2 := Nat.lt_of_lt_of_eq b2.lt eg3.symm
  replace hs := hs.ext x52
  replace b2 := b2.ext x52
  replace X := Ext.trans X x52; clear x52
  refine wi_one 1 rfl rfl (by kernel_rfl) (listed' := #[true, true, false, true, true, true, false, false]) rfl hs (ow_call ent75 rfl (ret_mono (idOf_c _ _ c xs.length xs x0 x1 x2 _ hs rfl hx0 hx1 hx2 hxb0 hxb1 hxb2) ?_))
  rintro _ w55 ⟨rfl, x54⟩
  replace hs := hs.ext x54
  replace b2 := b2.ext x54
  replace b3 := b3.ext x54
  replace X := Ext.trans X x54; clear x54
  refine wi_take 2 rfl (by kernel_rfl) rfl (by kernel_rfl) (listed' := #[true, true, true, true, true, true, false, false]) rfl (fun wq sq => ow_buildP pl28 ti28 rfl rfl ⟨rfl, rfl⟩) ?_
  refine wi_one 6 rfl rfl (by kernel_rfl) (listed' := #[true, true, true, true, true, true, true, false]) rfl hs (ow_storeB b3 ti28 rfl rfl rfl rfl rfl rfl ?_)
  intro w57 b4 hg56 z58
  replace hs := hs.grown hg56 (by intro g hg; injection hg; omega)
  replace b2 := b2.grown hg56 (by intro h; injection h; omega)
  replace X := X.grown hg56 X.size (by intro g hg; injection hg; omega)
  clear hg56 b3
  refine wi_take 7 rfl (by kernel_rfl) rfl (by kernel_rfl) (listed' := #[true, true, true, true, true, true, true, true]) rfl (fun wq sq => ow_assign rfl ⟨rfl, rfl⟩) ?_
  refine wi_done rfl hs (fun aj fj => ⟨_, fj, ?_⟩)
  refine c_seqR ?_
  have p3 := hs.dropX 3 hcap
  refine ops_cons rfl (ow_move rfl ?_)
  refine ops_cons rfl (ow_call ent76 rfl (ret_mono (readNodes_n _ B (c - 3) (xs.length - 3) (xs.drop 3) _ p3 (by omega) (isB_drop hB 3) (by omega) e3) ?_))
  rintro _ w60 ⟨AN, cN, yN, szN, okN, rfl, eN, oN2, x59⟩
  replace oN2 := Own.low oN2 X.size
  replace hs := hs.ext x59
  replace b2 := b2.ext x59
  replace b4 := b4.ext x59
  replace p3 := p3.ext x59
  replace X := Ext.trans X x59; clear x59
  obtain ⟨kN, ezN, hkNl⟩ := eN.sz
  subst ezN
  have e4 : ((xs.drop 3).drop kN).length = ((xs.length - 3) - kN) := by rw [List.length_drop, e3]
  refine ops_cons rfl (ow_move rfl ?_)
  refine ops_cons rfl (ow_extract rfl rfl ?_)
  refine ops_cons rfl (ow_extract rfl rfl ?_)
  refine ops_cons rfl (ow_extract rfl rfl ?_)
  refine ops_cons rfl (ow_assign rfl ?_)
  refine ops_cons rfl (ow_assign rfl ?_)
  refine ops_cons rfl (ow_assign rfl ?_)
  refine ops_nil ?_
  refine c_seqR ?_
  refine ops_cons rfl (ow_move rfl ?_)
  refine ops_cons rfl (ow_move rfl ?_)
  refine ops_cons rfl (ow_sliceL el30 p3 eI_len rfl rfl rfl e3.symm (by omega) (by omega) ?_)
  intro A4 p4
  refine ops_cons rfl (ow_assign rfl ?_)
  refine ops_nil ?_
  refine c_seqR ?_
  refine ops_cons rfl (ow_move rfl ?_)
  refine ops_cons rfl (ow_call ent77 rfl (ret_mono (readModes_n A4 B ((c - 3) - kN) ((xs.length - 3) - kN) ((xs.drop 3).drop kN) _ p4 (by omega) (isB_drop (isB_drop hB 3) _) (by omega) e4) ?_))
  rintro _ w62 ⟨AM, cM, yM, szM, okM, rfl, eM, djM, oM2, oM2n, x61⟩
  replace oM2 := Own.low oM2 X.size
  replace oM2n := NOwn.low oM2n X.size
  replace hs := hs.ext x61
  replace b2 := b2.ext x61
  replace b4 := b4.ext x61
  replace p3 := p3.ext x61
  replace oN2 := oN2.ext x61
  replace p4 := p4.ext x61
  replace X := Ext.trans X x61; clear x61
  obtain ⟨kM, ezM, hkMl⟩ := eM.sz
  subst ezM
  have e5 : (((xs.drop 3).drop kN).drop kM).length = (((xs.length - 3) - kN) - kM) := by rw [List.length_drop, e4]
  refine ops_cons rfl (ow_move rfl ?_)
  refine ops_cons rfl (ow_extract rfl rfl ?_)
  refine ops_cons rfl (ow_extract rfl rfl ?_)
  refine ops_cons rfl (ow_extract rfl rfl ?_)
  refine ops_cons rfl (ow_assign rfl ?_)
  refine ops_cons rfl (ow_assign rfl ?_)
  refine ops_cons rfl (ow_assign rfl ?_)
  refine ops_nil ?_
  refine c_seqR ?_
  refine ops_cons rfl (ow_move rfl ?_)
  refine ops_cons rfl (ow_move rfl ?_)
  refine ops_cons rfl (ow_sliceL el30 p4 eI_len rfl rfl rfl e4.symm (by omega) (by omega) ?_)
  intro A5 p5
  refine ops_cons rfl (ow_assign rfl ?_)
  refine ops_nil ?_
  refine c_seqR ?_
  refine ops_cons rfl (ow_move rfl ?_)
  refine ops_cons rfl (ow_call ent78 rfl (ret_mono (readSlots_n A5 B (((c - 3) - kN) - kM) (((xs.length - 3) - kN) - kM) (((xs.drop 3).drop kN).drop kM) _ p5 (by omega) (isB_drop (isB_drop (isB_drop hB 3) _) _) (by omega) e5) ?_))
  rintro _ w65 ⟨AS, cS, yS, szS, okS, rfl, eS, oS2, x63⟩
  replace oS2 := Own.low oS2 X.size
  replace hs := hs.ext x63
  replace b2 := b2.ext x63
  replace b4 := b4.ext x63
  replace p3 := p3.ext x63
  replace oN2 := oN2.ext x63
  replace p4 := p4.ext x63
  replace oM2 := oM2.ext x63
  replace oM2n := oM2n.ext x63
  replace p5 := p5.ext x63
  replace X := Ext.trans X x63; clear x63
  refine ops_cons rfl (ow_move rfl ?_)
  refine ops_cons rfl (ow_extract rfl rfl ?_)
  refine ops_cons rfl (ow_extract rfl rfl ?_)
  refine ops_cons rfl (ow_extract rfl rfl ?_)
  refine ops_cons rfl (ow_assign rfl ?_)
  refine ops_cons rfl (ow_assign rfl ?_)
  refine ops_cons rfl (ow_assign rfl ?_)
  refine ops_nil ?_
  refine c_seq ?_
  refine c_seqR ?_
  refine ops_cons rfl (ow_move rfl ?_)
  cases hkN : okN
  subst hkN
  have hrN := (eN.f).1
  refine ops_cons rfl (ow_not rfl ?_)
  refine ops_cons rfl (ow_move rfl ?_)
  refine ops_skip rfl rfl rfl rfl ?_
  refine ops_skip rfl rfl rfl rfl ?_
  refine ops_cons rfl (ow_pick rfl rfl ?_)
  refine ops_cons rfl (ow_move rfl ?_)
  refine ops_skip rfl rfl rfl rfl ?_
  refine ops_skip rfl rfl rfl rfl ?_
  refine ops_cons rfl (ow_pick rfl rfl ?_)
  refine ops_cons rfl (ow_move rfl ?_)
  refine ops_skip rfl rfl rfl rfl ?_
  refine ops_skip rfl rfl rfl rfl ?_
  refine ops_skip rfl rfl rfl rfl ?_
  refine ops_skip rfl rfl rfl rfl ?_
  refine ops_cons rfl (ow_pick rfl rfl ?_)
  refine ops_nil ?_
  refine c_true rfl ?_
  refine c_seqR ?_
  refine ops_cons rfl (ow_buildP pl28 ti28 rfl rfl ?_)
  refine ops_cons rfl (ow_storeB b2 ti28 rfl rfl rfl rfl rfl rfl ?_)
  intro w67 b5 hg66 z68
  replace hs := hs.grown hg66 (by intro g hg; injection hg; omega)
  replace b4 := b4.grown hg66 (by intro h; injection h; omega)
  replace p3 := p3.grown hg66 (by intro g hg; injection hg; omega)
  replace oN2 := oN2.grownBlk hg66 (Own.neT oN2 b2 (by decide))
  replace p4 := p4.grown hg66 (by intro g hg; injection hg; omega)
  replace oM2 := oM2.grownBlk hg66 (Own.neT oM2 b2 (by decide))
  replace oM2n := oM2n.grownB b2 hg66 (by decide)
  replace p5 := p5.grown hg66 (by intro g hg; injection hg; omega)
  replace oS2 := oS2.grownBlk hg66 (Own.neT oS2 b2 (by decide))
  replace X := X.grown hg66 X.size (by intro g hg; injection hg; omega)
  clear hg66 b2
  refine ops_cons rfl (ow_assign rfl ?_)
  refine ops_nil ?_
  refine c_ret ?_
  refine tq_r ?_
  refine fin_cell2 rfl rfl b5 ti28 rfl rfl ?_
  · skip
    have e : frmR xs = frmF xs := by rw [frmR, if_pos hB]
    rw [e]
    have e : frmF xs = (zeroM.d, 6) := frmF_n (by omega) (frmO_n hrN)
    rw [e]; exact ⟨zeroM, rfl, rfl, zeroM_own _ _ _ _ _ _, X⟩
  subst hkN
  obtain ⟨rN, hrN, eyN, ezN⟩ := eN.t
  subst eyN
  obtain rfl : kN = rN.2 := by omega
  have hiN := rdN_in hrN
  refine ops_cons rfl (ow_not rfl ?_)
  refine ops_cons rfl (ow_move rfl ?_)
  refine ops_want rfl rfl rfl (ow_move rfl ?_)
  cases hkM : okM
  subst hkM
  have hrM := eM.f
  refine ops_want rfl rfl rfl (ow_not rfl ?_)
  refine ops_cons rfl (ow_pick rfl rfl ?_)
  refine ops_cons rfl (ow_move rfl ?_)
  refine ops_skip rfl rfl rfl rfl ?_
  refine ops_skip rfl rfl rfl rfl ?_
  refine ops_cons rfl (ow_pick rfl rfl ?_)
  refine ops_cons rfl (ow_move rfl ?_)
  refine ops_skip rfl rfl rfl rfl ?_
  refine ops_skip rfl rfl rfl rfl ?_
  refine ops_skip rfl rfl rfl rfl ?_
  refine ops_skip rfl rfl rfl rfl ?_
  refine ops_cons rfl (ow_pick rfl rfl ?_)
  refine ops_nil ?_
  refine c_true rfl ?_
  refine c_seqR ?_
  refine ops_cons rfl (ow_buildP pl28 ti28 rfl rfl ?_)
  refine ops_cons rfl (ow_storeB b2 ti28 rfl rfl rfl rfl rfl rfl ?_)
  intro w70 b5 hg69 z71
  replace hs := hs.grown hg69 (by intro g hg; injection hg; omega)
  replace b4 := b4.grown hg69 (by intro h; injection h; omega)
  replace p3 := p3.grown hg69 (by intro g hg; injection hg; omega)
  replace oN2 := oN2.grownBlk hg69 (Own.neT oN2 b2 (by decide))
  replace p4 := p4.grown hg69 (by intro g hg; injection hg; omega)
  replace oM2 := oM2.grownBlk hg69 (Own.neT oM2 b2 (by decide))
  replace oM2n := oM2n.grownB b2 hg69 (by decide)
  replace p5 := p5.grown hg69 (by intro g hg; injection hg; omega)
  replace oS2 := oS2.grownBlk hg69 (Own.neT oS2 b2 (by decide))
  replace X := X.grown hg69 X.size (by intro g hg; injection hg; omega)
  clear hg69 b2
  refine ops_cons rfl (ow_assign rfl ?_)
  refine ops_nil ?_
  refine c_ret ?_
  refine tq_r ?_
  refine fin_cell2 rfl rfl b5 ti28 rfl rfl ?_
  · skip
    have e : frmR xs = frmF xs := by rw [frmR, if_pos hB]
    rw [e]
    have e : frmF xs = (zeroM.d, 6) := frmF_n (by omega) (frmO_m hrN hrM)
    rw [e]; exact ⟨zeroM, rfl, rfl, zeroM_own _ _ _ _ _ _, X⟩
  subst hkM
  obtain ⟨rM, hrM, eyM, ezM⟩ := eM.t
  obtain rfl : kM = rM.2 := by omega
  have hiM := rdM_in hrM
  refine ops_want rfl rfl rfl (ow_not rfl ?_)
  refine ops_cons rfl (ow_pick rfl rfl ?_)
  refine ops_cons rfl (ow_move rfl ?_)
  refine ops_want rfl rfl rfl (ow_move rfl ?_)
  cases hkS : okS
  subst hkS
  have hrS := eS.f
  refine ops_want rfl rfl rfl (ow_not rfl ?_)
  refine ops_cons rfl (ow_pick rfl rfl ?_)
  refine ops_cons rfl (ow_move rfl ?_)
  refine ops_skip rfl rfl rfl rfl ?_
  refine ops_skip rfl rfl rfl rfl ?_
  refine ops_skip rfl rfl rfl rfl ?_
  refine ops_skip rfl rfl rfl rfl ?_
  refine ops_cons rfl (ow_pick rfl rfl ?_)
  refine ops_nil ?_
  refine c_true rfl ?_
  refine c_seqR ?_
  refine ops_cons rfl (ow_buildP pl28 ti28 rfl rfl ?_)
  refine ops_cons rfl (ow_storeB b2 ti28 rfl rfl rfl rfl rfl rfl ?_)
  intro w73 b5 hg72 z74
  replace hs := hs.grown hg72 (by intro g hg; injection hg; omega)
  replace b4 := b4.grown hg72 (by intro h; injection h; omega)
  replace p3 := p3.grown hg72 (by intro g hg; injection hg; omega)
  replace oN2 := oN2.grownBlk hg72 (Own.neT oN2 b2 (by decide))
  replace p4 := p4.grown hg72 (by intro g hg; injection hg; omega)
  replace oM2 := oM2.grownBlk hg72 (Own.neT oM2 b2 (by decide))
  replace oM2n := oM2n.grownB b2 hg72 (by decide)
  replace p5 := p5.grown hg72 (by intro g hg; injection hg; omega)
  replace oS2 := oS2.grownBlk hg72 (Own.neT oS2 b2 (by decide))
  replace X := X.grown hg72 X.size (by intro g hg; injection hg; omega)
  clear hg72 b2
  refine ops_cons rfl (ow_assign rfl ?_)
  refine ops_nil ?_
  refine c_ret ?_
  refine tq_r ?_
  refine fin_cell2 rfl rfl b5 ti28 rfl rfl ?_
  · skip
    have e : frmR xs = frmF xs := by rw [frmR, if_pos hB]
    rw [e]
    have e : frmF xs = (zeroM.d, 6) := frmF_n (by omega) (frmO_s hrN hrM hrS)
    rw [e]; exact ⟨zeroM, rfl, rfl, zeroM_own _ _ _ _ _ _, X⟩
  subst hkS
  obtain ⟨hrS, ezS⟩ := eS.t
  subst ezS
  have hiS := rdS_len hrS
  refine ops_want rfl rfl rfl (ow_not rfl ?_)
  refine ops_cons rfl (ow_pick rfl rfl ?_)
  refine ops_cons rfl (ow_move rfl ?_)
  refine ops_want rfl rfl rfl (ow_move rfl ?_)
  refine ops_want rfl rfl rfl (ow_move rfl ?_)
  refine ops_want rfl rfl rfl (ow_len Tryz.underlying30 rfl ?_)
  refine ops_want rfl rfl rfl (ow_lss2 rfl rfl (fun hLt => ?_) (fun hLt => ?_))
  refine ops_cons rfl (ow_pick rfl rfl ?_)
  refine ops_nil ?_
  refine c_true rfl ?_
  refine c_seqR ?_
  refine ops_cons rfl (ow_buildP pl28 ti28 rfl rfl ?_)
  refine ops_cons rfl (ow_storeB b2 ti28 rfl rfl rfl rfl rfl rfl ?_)
  intro w76 b5 hg75 z77
  replace hs := hs.grown hg75 (by intro g hg; injection hg; omega)
  replace b4 := b4.grown hg75 (by intro h; injection h; omega)
  replace p3 := p3.grown hg75 (by intro g hg; injection hg; omega)
  replace oN2 := oN2.grownBlk hg75 (Own.neT oN2 b2 (by decide))
  replace p4 := p4.grown hg75 (by intro g hg; injection hg; omega)
  replace oM2 := oM2.grownBlk hg75 (Own.neT oM2 b2 (by decide))
  replace oM2n := oM2n.grownB b2 hg75 (by decide)
  replace p5 := p5.grown hg75 (by intro g hg; injection hg; omega)
  replace oS2 := oS2.grownBlk hg75 (Own.neT oS2 b2 (by decide))
  replace X := X.grown hg75 X.size (by intro g hg; injection hg; omega)
  clear hg75 b2
  refine ops_cons rfl (ow_assign rfl ?_)
  refine ops_nil ?_
  refine c_ret ?_
  refine tq_r ?_
  refine fin_cell2 rfl rfl b5 ti28 rfl rfl ?_
  · skip
    have e : frmR xs = frmF xs := by rw [frmR, if_pos hB]
    rw [e]
    have e : frmF xs = (zeroM.d, 6) := frmF_n (by omega) (frmO_l hrN hrM hrS (by rw [e5]; omega))
    rw [e]; exact ⟨zeroM, rfl, rfl, zeroM_own _ _ _ _ _ _, X⟩
  refine ops_cons rfl (ow_pick rfl rfl ?_)
  refine ops_nil ?_
  refine c_false rfl ?_
  refine c_skip ?_
  refine tq_n ?_
  refine c_seqR ?_
  refine ops_cons rfl (ow_move rfl ?_)
  refine ops_cons rfl (ow_move rfl ?_)
  refine ops_cons rfl (ow_move rfl ?_)
  refine ops_cons rfl (ow_fieldAddrB off28_1 rfl rfl ?_)
  refine ops_cons rfl (ow_storeB b4 ti24 rfl rfl rfl rfl rfl rfl ?_)
  intro w79 b6 hg78 z80
  replace hs := hs.grown hg78 (by intro g hg; injection hg; omega)
  replace b2 := b2.grown hg78 (by intro h; injection h; omega)
  replace p3 := p3.grown hg78 (by intro g hg; injection hg; omega)
  replace oN2 := oN2.grownBlk hg78 (Own.neT oN2 b4 (by decide))
  replace p4 := p4.grown hg78 (by intro g hg; injection hg; omega)
  replace oM2 := oM2.grownBlk hg78 (Own.neT oM2 b4 (by decide))
  replace oM2n := oM2n.grownB b4 hg78 (by decide)
  replace p5 := p5.grown hg78 (by intro g hg; injection hg; omega)
  replace oS2 := oS2.grownBlk hg78 (Own.neT oS2 b4 (by decide))
  replace X := X.grown hg78 X.size (by intro g hg; injection hg; omega)
  clear hg78 b4
  refine ops_cons rfl (ow_fieldAddrB off28_2 rfl rfl ?_)
  refine ops_cons rfl (ow_storeB b6 ti25 rfl rfl rfl rfl rfl rfl ?_)
  intro w82 b7 hg81 z83
  replace hs := hs.grown hg81 (by intro g hg; injection hg; omega)
  replace b2 := b2.grown hg81 (by intro h; injection h; omega)
  replace p3 := p3.grown hg81 (by intro g hg; injection hg; omega)
  replace oN2 := oN2.grownBlk hg81 (Own.neT oN2 b6 (by decide))
  replace p4 := p4.grown hg81 (by intro g hg; injection hg; omega)
  replace oM2 := oM2.grownBlk hg81 (Own.neT oM2 b6 (by decide))
  replace oM2n := oM2n.grownB b6 hg81 (by decide)
  replace p5 := p5.grown hg81 (by intro g hg; injection hg; omega)
  replace oS2 := oS2.grownBlk hg81 (Own.neT oS2 b6 (by decide))
  replace X := X.grown hg81 X.size (by intro g hg; injection hg; omega)
  clear hg81 b6
  refine ops_cons rfl (ow_fieldAddrB off28_3 rfl rfl ?_)
  refine ops_cons rfl (ow_storeB b7 ti26 rfl rfl rfl rfl rfl rfl ?_)
  intro w85 b8 hg84 z86
  replace hs := hs.grown hg84 (by intro g hg; injection hg; omega)
  replace b2 := b2.grown hg84 (by intro h; injection h; omega)
  replace p3 := p3.grown hg84 (by intro g hg; injection hg; omega)
  replace oN2 := oN2.grownBlk hg84 (Own.neT oN2 b7 (by decide))
  replace p4 := p4.grown hg84 (by intro g hg; injection hg; omega)
  replace oM2 := oM2.grownBlk hg84 (Own.neT oM2 b7 (by decide))
  replace oM2n := oM2n.grownB b7 hg84 (by decide)
  replace p5 := p5.grown hg84 (by intro g hg; injection hg; omega)
  replace oS2 := oS2.grownBlk hg84 (Own.neT oS2 b7 (by decide))
  replace X := X.grown hg84 X.size (by intro g hg; injection hg; omega)
  clear hg84 b7
  refine ops_nil ?_
  refine c_seq ?_
  refine c_seqR ?_
  have hsm : MedlI.small ⟨x0 * 65536 + x1 * 256 + x2, AN, rN.1, cN, AM, yM, cM, AS, yS, cS⟩ := frm_small hiN.1 (by rw [eyM]; exact hiM.2.2.2) hiS.2.2
  have hMo : MOwn _ w.heap.size 59 92 2 89 ⟨x0 * 65536 + x1 * 256 + x2, AN, rN.1, cN, AM, yM, cM, AS, yS, cS⟩ := ⟨oN2, oM2, oM2n, djM, oS2⟩
  refine ops_cons rfl (ow_loadAB b8 ti28 rfl rfl ?_)
  refine ops_cons rfl (ow_callB ent33 rfl (iIsMedl_c ⟨x0 * 65536 + x1 * 256 + x2, AN, rN.1, cN, AM, yM, cM, AS, yS, cS⟩ _ _ hMo.med hsm) (fun w88 hI x87 => ?_) (fun w88 hI x87 => ?_))
  replace hs := hs.ext x87
  replace b2 := b2.ext x87
  replace p3 := p3.ext x87
  replace oN2 := oN2.ext x87
  replace p4 := p4.ext x87
  replace oM2 := oM2.ext x87
  replace oM2n := oM2n.ext x87
  replace p5 := p5.ext x87
  replace oS2 := oS2.ext x87
  replace b8 := b8.ext x87
  replace X := Ext.trans X x87; clear x87
  refine ops_cons rfl (ow_not rfl ?_)
  refine ops_nil ?_
  refine c_false rfl ?_
  refine c_skip ?_
  refine tq_n ?_
  refine c_seqR ?_
  refine ops_cons rfl (ow_loadAB b8 ti28 rfl rfl ?_)
  refine ops_cons rfl (ow_storeB b2 ti28 rfl rfl rfl rfl rfl rfl ?_)
  intro w90 b5 hg89 z91
  replace hs := hs.grown hg89 (by intro g hg; injection hg; omega)
  replace p3 := p3.grown hg89 (by intro g hg; injection hg; omega)
  replace oN2 := oN2.grownBlk hg89 (Own.neT oN2 b2 (by decide))
  replace p4 := p4.grown hg89 (by intro g hg; injection hg; omega)
  replace oM2 := oM2.grownBlk hg89 (Own.neT oM2 b2 (by decide))
  replace oM2n := oM2n.grownB b2 hg89 (by decide)
  replace p5 := p5.grown hg89 (by intro g hg; injection hg; omega)
  replace oS2 := oS2.grownBlk hg89 (Own.neT oS2 b2 (by decide))
  replace b8 := b8.grown hg89 (by intro h; injection h; omega)
  replace X := X.grown hg89 X.size (by intro g hg; injection hg; omega)
  clear hg89 b2
  refine ops_cons rfl (ow_assign rfl ?_)
  refine ops_nil ?_
  refine c_ret ?_
  refine fin_cell2 rfl rfl b5 ti28 rfl rfl ?_
  · skip
    have e : frmR xs = frmF xs := by rw [frmR, if_pos hB]
    rw [e]
    have hO : frmO xs = some ((⟨x0 * 65536 + x1 * 256 + x2, AN, rN.1, cN, AM, yM, cM, AS, yS, cS⟩ : MedlI)).d := by
      rw [frmO_y hrN hrM hrS (by rw [e5]; omega), eid, ← eyM]; rfl
    have e : frmF xs = (((⟨x0 * 65536 + x1 * 256 + x2, AN, rN.1, cN, AM, yM, cM, AS, yS, cS⟩ : MedlI)).d, 0) := frmF_0 (by omega) hO hI
    rw [e]; exact ⟨⟨x0 * 65536 + x1 * 256 + x2, AN, rN.1, cN, AM, yM, cM, AS, yS, cS⟩, rfl, rfl, ⟨oN2, oM2, oM2n, djM, oS2⟩, X⟩
  replace hs := hs.ext x87
  replace b2 := b2.ext x87
  replace p3 := p3.ext x87
  replace oN2 := oN2.ext x87
  replace p4 := p4.ext x87
  replace oM2 := oM2.ext x87
  replace oM2n := oM2n.ext x87
  replace p5 := p5.ext x87
  replace oS2 := oS2.ext x87
  replace b8 := b8.ext x87
  replace X := Ext.trans X x87; clear x87
  refine ops_cons rfl (ow_not rfl ?_)
  refine ops_nil ?_
  refine c_true rfl ?_
  refine c_seqR ?_
  refine ops_cons rfl (ow_buildP pl28 ti28 rfl rfl ?_)
  refine ops_cons rfl (ow_storeB b2 ti28 rfl rfl rfl rfl rfl rfl ?_)
  intro w93 b5 hg92 z94
  replace hs := hs.grown hg92 (by intro g hg; injection hg; omega)
  replace p3 := p3.grown hg92 (by intro g hg; injection hg; omega)
  replace oN2 := oN2.grownBlk hg92 (Own.neT oN2 b2 (by decide))
  replace p4 := p4.grown hg92 (by intro g hg; injection hg; omega)
  replace oM2 := oM2.grownBlk hg92 (Own.neT oM2 b2 (by decide))
  replace oM2n := oM2n.grownB b2 hg92 (by decide)
  replace p5 := p5.grown hg92 (by intro g hg; injection hg; omega)
  replace oS2 := oS2.grownBlk hg92 (Own.neT oS2 b2 (by decide))
  replace b8 := b8.grown hg92 (by intro h; injection h; omega)
  replace X := X.grown hg92 X.size (by intro g hg; injection hg; omega)
  clear hg92 b2
  refine ops_cons rfl (ow_assign rfl ?_)
  refine ops_nil ?_
  refine c_ret ?_
  refine tq_r ?_
  refine fin_cell2 rfl rfl b5 ti28 rfl rfl ?_
  · skip
    have e : frmR xs = frmF xs := by rw [frmR, if_pos hB]
    rw [e]
    have hO : frmO xs = some ((⟨x0 * 65536 + x1 * 256 + x2, AN, rN.1, cN, AM, yM, cM, AS, yS, cS⟩ : MedlI)).d := by
      rw [frmO_y hrN hrM hrS (by rw [e5]; omega), eid, ← eyM]; rfl
    have e : frmF xs = (zeroM.d, 1) := frmF_1 (by omega) hO hI
    rw [e]; exact ⟨zeroM, rfl, rfl, zeroM_own _ _ _ _ _ _, X⟩
  replace hs := hs.ext x3
  replace b2 := b2.ext x3
  replace X := Ext.trans X x3; clear x3
  refine ops_cons rfl (ow_not rfl ?_)
  refine ops_nil ?_
  refine c_true rfl ?_
  refine c_seqR ?_
  refine ops_cons rfl (ow_buildP pl28 ti28 rfl rfl ?_)
  refine ops_cons rfl (ow_storeB b2 ti28 rfl rfl rfl rfl rfl rfl ?_)
  intro w96 b5 hg95 z97
  replace hs := hs.grown hg95 (by intro g hg; injection hg; omega)
  replace X := X.grown hg95 X.size (by intro g hg; injection hg; omega)
  clear hg95 b2
  refine ops_cons rfl (ow_assign rfl ?_)
  refine ops_nil ?_
  refine c_ret ?_
  refine tq_r ?_
  refine fin_cell2 rfl rfl b5 ti28 rfl rfl ?_
  · skip
    have e : frmR xs = (zeroM.d, 2) := by rw [frmR, if_neg (by rw [hIB]; decide)]
    rw [e]; exact ⟨zeroM, rfl, rfl, zeroM_own _ _ _ _ _ _, X⟩
end Go.Proofs.YtdoibplhbdkapaaGreatDoor
