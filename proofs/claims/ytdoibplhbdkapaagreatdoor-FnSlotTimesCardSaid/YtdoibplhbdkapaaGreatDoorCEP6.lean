/- Texts of the seat that a law needs, put together. No condition. -/
import Derived.Test.YtdoibplhbdkapaaGreatDoorCEP4
import Derived.Test.YtdoibplhbdkapaaGreatDoorCEP5
import Derived.Test.YtdoibplhbdkapaaGreatDoorCEP3
namespace Go.Proofs.YtdoibplhbdkapaaGreatDoor
open Go.RowKit
set_option linter.unusedVariables false
set_option linter.unusedSimpArgs false
set_option maxRecDepth 20000
def dec1 (n : Int) : ByteArray := strOf [UInt8.ofNat (48 + n.toNat % 10)]
def dec2 (n : Int) : ByteArray := if n < 10 then dec1 n else dec1 (n / 10) ++ dec1 (n % 10)
theorem dec1_size (n : Int) : (dec1 n).size = 1 := rfl
theorem dec2_size (n : Int) : 1 ≤ (dec2 n).size ∧ (dec2 n).size ≤ 2 := by
  unfold dec2; split
  · rw [dec1_size]; omega
  · rw [ByteArray.size_append, dec1_size, dec1_size]; omega
theorem u8dec {n : Int} (h : 0 ≤ n ∧ n < 10) : IntKind.u8.wrap (48 + n) = ((UInt8.ofNat (48 + n.toNat % 10)).toNat : Int) := by rw [u8dig, wu8 (by omega)]; omega
def nodSm (x : NodeI) : Prop := (0 ≤ x.id ∧ x.id ≤ 20) ∧ x.name.size ≤ 7
def ST5 : List ByteArray := [⟨#[]⟩, ⟨#[115, 101, 118, 101, 110, 110, 55]⟩, ⟨#[115, 105, 120, 120, 120, 54]⟩, ⟨#[78, 49]⟩, ⟨#[110, 48]⟩]
theorem st5_le : ∀ y ∈ ST5, y.size ≤ 7 := fun y hy => by
  simp only [ST5, List.mem_cons, List.not_mem_nil, or_false] at hy
  rcases hy with rfl | rfl | rfl | rfl | rfl <;> decide
/-- the members of a vector, from below up -/
def membK (a k : Nat) : List Int := ((List.range k).filter fun i => a.testBit i).map Int.ofNat
theorem membK_yes {a k : Nat} (h : a.testBit k = true) : membK a (k + 1) = membK a k ++ [(k : Int)] := by
  unfold membK
  rw [List.range_succ, List.filter_append, List.map_append, List.filter_cons_of_pos (by simpa using h)]; rfl
theorem membK_no {a k : Nat} (h : a.testBit k = false) : membK a (k + 1) = membK a k := by
  unfold membK
  rw [List.range_succ, List.filter_append, List.map_append, List.filter_cons_of_neg (by simp [h])]; simp
theorem membK_len (a k : Nat) : (membK a k).length ≤ k := by
  unfold membK
  rw [List.length_map]
  have := List.length_filter_le (fun i => a.testBit i) (List.range k)
  rw [List.length_range] at this; exact this
theorem membK_pos {a k : Nat} (h : a.testBit k = true) (hk : k < 32) : 1 ≤ (membK a 32).length := by
  have h1 : (k : Int) ∈ membK a 32 := List.mem_map.2 ⟨k, List.mem_filter.2 ⟨List.mem_range.2 hk, by simpa using h⟩, rfl⟩
  exact List.length_pos_of_mem h1
theorem act_bit {ns : List NodeI} {x : NodeI} (hx : x ∈ ns) (hp : x.passive = false) : (actV ns).testBit x.id.toNat = true := by
  unfold actV
  rw [vecF_bit]
  simp only [Nat.zero_testBit, Bool.false_or, List.any_eq_true, Bool.and_eq_true, decide_eq_true_eq]
  exact ⟨x, hx, by simp [hp], rfl⟩
theorem actV_lt2 {l : List NodeI} (h : ∀ x ∈ l, 0 ≤ x.id ∧ x.id ≤ 31) : actV l < 4294967296 := vecF_lt l 0 (by omega) fun x hx => h x hx
theorem dec0_c (n : Int) (w : World) (hn : 0 ≤ n ∧ n < 10) :
    Calls Tryz.prog 66 #[.int .i64 n] w (Ret fun v w' => v = .string (dec1 n) ∧ Ext w w') := by
  have X := Ext.refl w
  refine calls_of (args := [.int .i64 n]) Tryz.func66 Tryz.ntmps66 rfl rfl ?_
  refine c_seqR ?_
  refine ops_cons rfl (ow_assign rfl ?_)
  refine ops_nil ?_
  refine c_seq ?_
  refine c_seqR ?_
  refine ops_cons rfl (ow_move rfl ?_)
  refine ops_cons rfl (ow_lss2 rfl rfl (fun h1 => ?_) (fun h1 => absurd h1 (by omega)))
  refine ops_nil ?_
  refine c_true rfl ?_
  refine c_seqR ?_
  refine ops_cons rfl (ow_move rfl ?_)
  refine ops_cons rfl (ow_add rfl rfl (w64 (by omega)) ?_)
  refine ops_cons rfl (ow_conv Tryz.underlying2 Tryz.underlying5 rfl (u8dec hn) ?_)
  refine ops_cons rfl (ow_buildSlice el22 ti5 rfl rfl rfl rfl rfl ?_)
  intro g2 w4 eg2 oB bbg2 x3 zg2
  replace oB := Own.low oB X.size
  replace X := Ext.trans X x3; clear x3
  replace oB := oB.to (cs' := ([UInt8.ofNat (48 + n.toNat % 10)] : List UInt8).flatMap eB) rfl
  refine ops_cons rfl (ow_convBS Tryz.underlying22 Tryz.underlying5 Tryz.underlying9 (oB).sl rfl rfl ?_)
  refine ops_cons rfl (ow_assign rfl ?_)
  refine ops_nil ?_
  refine c_ret ?_
  refine tq_r ?_
  refine fin_ret1 rfl rfl ?_
  exact ⟨rfl, X⟩

theorem dec_c (n : Int) (w : World) (hn : 0 ≤ n ∧ n < 100) :
    Calls Tryz.prog 66 #[.int .i64 n] w (Ret fun v w' => v = .string (dec2 n) ∧ Ext w w') := by
  have X := Ext.refl w
  refine calls_of (args := [.int .i64 n]) Tryz.func66 Tryz.ntmps66 rfl rfl ?_
  refine c_seqR ?_
  refine ops_cons rfl (ow_assign rfl ?_)
  refine ops_nil ?_
  refine c_seq ?_
  refine c_seqR ?_
  refine ops_cons rfl (ow_move rfl ?_)
  refine ops_cons rfl (ow_lss2 rfl rfl (fun h1 => ?_) (fun h1 => ?_))
  refine ops_nil ?_
  refine c_true rfl ?_
  refine c_seqR ?_
  refine ops_cons rfl (ow_move rfl ?_)
  refine ops_cons rfl (ow_add rfl rfl (w64 (by omega)) ?_)
  refine ops_cons rfl (ow_conv Tryz.underlying2 Tryz.underlying5 rfl (u8dec (by omega)) ?_)
  refine ops_cons rfl (ow_buildSlice el22 ti5 rfl rfl rfl rfl rfl ?_)
  intro g1 w3 eg1 oB bbg1 x2 zg1
  replace oB := Own.low oB X.size
  replace X := Ext.trans X x2; clear x2
  replace oB := oB.to (cs' := ([UInt8.ofNat (48 + n.toNat % 10)] : List UInt8).flatMap eB) rfl
  refine ops_cons rfl (ow_convBS Tryz.underlying22 Tryz.underlying5 Tryz.underlying9 (oB).sl rfl rfl ?_)
  refine ops_cons rfl (ow_assign rfl ?_)
  refine ops_nil ?_
  refine c_ret ?_
  refine tq_r ?_
  refine fin_ret1 rfl rfl ?_
  · skip
    first
    | (rw [dec2, if_pos h1]; exact ⟨rfl, X⟩)
    | (rw [dec2, if_neg h1]; exact ⟨rfl, X⟩)
  refine ops_nil ?_
  refine c_false rfl ?_
  refine c_skip ?_
  refine tq_n ?_
  refine c_seqD [false, false, false, false, false, false, false, true, false, false, false] mixed (by kernel_rfl) ?_
  refine f_q rfl (fun wq sq => ow_move rfl ⟨rfl, Ext.refl _⟩) ?_
  refine f_q rfl (fun wq sq => ow_quo rfl rfl (by omega) (q64 (by omega)) ⟨rfl, Ext.refl _⟩) ?_
  refine f_q rfl (fun wq sq => ow_call ent66 rfl (dec0_c _ _ (by omega))) ?_
  refine f_q rfl (fun wq sq => ow_move rfl ⟨rfl, Ext.refl _⟩) ?_
  refine f_q rfl (fun wq sq => ow_rem rfl rfl (by omega) (m64 (by omega)) ⟨rfl, Ext.refl _⟩) ?_
  refine f_q rfl (fun wq sq => ow_add rfl rfl (w64 (by omega)) ⟨rfl, Ext.refl _⟩) ?_
  refine f_q rfl (fun wq sq => ow_conv Tryz.underlying2 Tryz.underlying5 rfl (u8dec (by omega)) ⟨rfl, Ext.refl _⟩) ?_
  refine f_op (fun g4 : Nat => Value.slice (some ⟨g4, 0, none⟩) 1 1) (fun g4 wz => Own wz w.heap.size 5 1 (some ⟨g4, 0, none⟩) 1 1 (([UInt8.ofNat (48 + (n % 10).toNat % 10)] : List UInt8).flatMap eB)) 0 rfl ⟨inj_own, fun _ _ _ h k => h.ext k, fun wq sq => ow_buildSlice el22 ti5 rfl rfl rfl rfl rfl (fun g w' hg ho hb hx hz => ⟨g, rfl, Own.low ho (Nat.le_trans X.size (sq).size), hx⟩)⟩ ?_
  intro g4
  refine f_q rfl (fun wq sq => ow_convBS Tryz.underlying22 Tryz.underlying5 Tryz.underlying9 (sq.2).sl rfl rfl ⟨rfl, Ext.refl _⟩) ?_
  refine f_q rfl (fun wq sq => ow_addS rfl rfl (by rw [dec1_size]; show _ + 1 ≤ _; omega) ⟨rfl, Ext.refl _⟩) ?_
  refine f_q rfl (fun wq sq => ow_assign rfl ⟨rfl, Ext.refl _⟩) ?_
  refine f_nil (fun w5 sq => ?_)
  have xq := sq.1
  have oB := sq.2
  replace X := Ext.trans X xq; clear xq sq
  refine ops_nil ?_
  refine c_ret ?_
  refine fin_ret1 rfl rfl ?_
  · skip
    first
    | (rw [dec2, if_pos h1]; exact ⟨rfl, X⟩)
    | (rw [dec2, if_neg h1]; exact ⟨rfl, X⟩)

theorem l10Draw_c (A : Option Addr) (B c : Nat) (bs : List UInt8) (gS a : Nat) (sd : Int) (w : World) (q : Blk w gS 148 (srcC A c bs a sd)) (hs : Sl B w A (bs.flatMap eB)) (hB : B ≤ gS) (ok : a ≤ bs.length ∧ 0 ≤ sd ∧ sd < 2147483647) (hbl : bs.length ≤ 1048576) :
    Calls Tryz.prog 179 #[.pointer (some ⟨gS, 0, none⟩)] w (Ret fun v w' => ∃ A' c' xs a' sd', v = .slice A' (List.length xs) c' ∧ ((1 ≤ xs.length ∧ xs.length ≤ 4) ∧ ∀ x ∈ xs, nodSm x) ∧ Own w' w.heap.size 59 4 A' xs.length c' (xs.flatMap NodeI.cells) ∧ (a' ≤ bs.length ∧ 0 ≤ sd' ∧ sd' < 2147483647) ∧ Blk w' gS 148 (srcC A c bs a' sd') ∧ w.grownBy w' (some gS)) := by
  have Bhs := hs.1
  have X := gb_refl w (some gS)
  refine calls_of (args := [.pointer (some ⟨gS, 0, none⟩)]) Tryz.func179 Tryz.ntmps179 rfl rfl ?_
  refine c_seqR ?_
  refine ops_cons rfl (ow_assign rfl ?_)
  refine ops_nil ?_
  refine c_seqR ?_
  refine ops_cons rfl (ow_buildSlice el24 ti59 rfl rfl rfl rfl rfl ?_)
  intro gO w2 egO oI bbgO x1 zgO
  replace oI := Own.low oI X.size
  replace q := q.ext x1
  replace hs := hs.ext x1
  replace X := gb_ext X x1; clear x1
  refine ops_cons rfl (ow_assign rfl ?_)
  refine ops_nil ?_
  refine c_seqR ?_
  refine ops_cons rfl (ow_move rfl ?_)
  refine ops_cons rfl (ow_call ent65 rfl (ret_mono (l01Next_c _ _ _ _ _ _ _ _ _ q hs hB ok hbl (by omega)) ?_))
  rintro _ w4 ⟨r0, a6, sd7, rfl, hr8, ok, b5, x3⟩
  replace hs := hs.grown x3 (by intro g hg; injection hg; omega)
  replace oI := oI.grownBlk x3 (Own.neT oI q (by decide))
  replace X := gb_trans X x3
  clear x3 q
  refine ops_cons rfl (ow_assign rfl ?_)
  refine ops_nil ?_
  refine c_seq ?_
  refine c_seqR ?_
  refine ops_cons rfl (ow_move rfl ?_)
  refine ops_cons rfl (ow_call ent65 rfl (ret_mono (l01Next_c _ _ _ _ _ _ _ _ _ b5 hs hB ok hbl (by omega)) ?_))
  rintro _ w10 ⟨r4, a12, sd13, rfl, hr14, ok, b11, x9⟩
  replace hs := hs.grown x9 (by intro g hg; injection hg; omega)
  replace oI := oI.grownBlk x9 (Own.neT oI b5 (by decide))
  replace X := gb_trans X x9
  clear x9 b5
  refine ops_cons rfl (ow_add rfl rfl (w64 (by omega)) ?_)
  refine ops_cons rfl (ow_assign rfl ?_)
  refine ops_nil ?_
  refine c_block ?_
  refine c_loop (G := Int × Int × List NodeI × Nat × Option Addr × Nat) (fun ⟨t, id, ys, n1, A1, c1⟩ => [(2, .slice none 0 0), (0, .pointer (some ⟨gS, 0, none⟩)), (3, .slice A1 n1 c1), (4, .int .i64 id), (5, .int .i64 t)]) (fun ⟨t, id, ys, n1, A1, c1⟩ wr => (0 ≤ t ∧ t ≤ 4) ∧ (0 ≤ id ∧ id + 3 * t ≤ 13) ∧ n1 = ys.length ∧ (n1 : Int) + t = 1 + r4 ∧ (∀ y ∈ ys, nodSm y) ∧ (∃ a sd, (a ≤ bs.length ∧ 0 ≤ sd ∧ sd < 2147483647) ∧ Blk wr gS 148 (srcC A c bs a sd)) ∧ Own wr w.heap.size 59 4 A1 n1 c1 (ys.flatMap NodeI.cells) ∧ Sl B wr A (bs.flatMap eB) ∧ w.grownBy wr (some gS)) (fun ⟨t, id, ys, n1, A1, c1⟩ => t.toNat) (1 + r4, r0, [], 0, some ⟨gO, 0, none⟩, 0) (.cons rfl (.cons rfl (.cons rfl (.cons rfl (.cons rfl (.nil _)))))) ?_ ?_
  · exact ⟨(by omega), (by omega), rfl, (by show ((0 : Nat) : Int) + _ = _; omega), (fun y hy => by simp at hy), ⟨_, _, ok, b11⟩, oI, hs, X⟩
  clear hs oI b11
  clear X
  rintro ⟨t, id, ys, n1, A1, c1⟩ wr ⟨ht0, hid, hn, hnt, hsm, qq, oO, hs, X⟩
  obtain ⟨a, sd, ok, q⟩ := qq
  refine c_seq ?_
  refine c_seqR ?_
  refine ops_cons rfl (ow_move rfl ?_)
  refine ops_cons rfl (ow_gtr2 rfl rfl (fun hp => ?_) (fun hp => ?_))
  refine ops_nil ?_
  refine c_true rfl ?_
  refine c_skip ?_
  refine tq_n ?_
  refine c_seq ?_
  refine c_block ?_
  refine c_seqR ?_
  refine ops_cons rfl (ow_move rfl ?_)
  refine ops_cons rfl (ow_move rfl ?_)
  refine ops_cons rfl (ow_move rfl ?_)
  refine ops_cons rfl (ow_call ent66 rfl (ret_mono (dec_c _ _ (by omega)) ?_))
  rintro _ w16 ⟨rfl, x15⟩
  replace oO := oO.ext x15
  replace hs := hs.ext x15
  replace q := q.ext x15
  replace X := gb_ext X x15; clear x15
  have hds := dec2_size id
  refine ops_cons rfl (ow_addS rfl rfl (by show 1 + _ ≤ _; omega) ?_)
  refine ops_cons rfl (ow_move rfl ?_)
  refine ops_cons rfl (ow_call ent65 rfl (ret_mono (l01Next_c _ _ _ _ _ _ _ _ _ q hs hB ok hbl (by omega)) ?_))
  rintro _ w18 ⟨r2, a20, sd21, rfl, hr22, ok, b19, x17⟩
  replace oO := oO.grownBlk x17 (Own.neT oO q (by decide))
  replace hs := hs.grown x17 (by intro g hg; injection hg; omega)
  replace X := gb_trans X x17
  clear x17 q
  refine ops_cons rfl (ow_move rfl ?_)
  refine ops_cons rfl (ow_call ent65 rfl (ret_mono (l01Next_c _ _ _ _ _ _ _ _ _ b19 hs hB ok hbl (by omega)) ?_))
  rintro _ w24 ⟨r5, a26, sd27, rfl, hr28, ok, b25, x23⟩
  replace oO := oO.grownBlk x23 (Own.neT oO b19 (by decide))
  replace hs := hs.grown x23 (by intro g hg; injection hg; omega)
  replace X := gb_trans X x23
  clear x23 b19
  refine ops_cons rfl (ow_eql rfl rfl ?_)
  refine ops_cons rfl (ow_buildP pl59 ti59 rfl rfl ?_)
  refine ops_cons rfl (ow_buildSlice el24 ti59 rfl rfl rfl rfl rfl ?_)
  intro g29 w31 eg29 oV bbg29 x30 zg29
  replace oV := Own.low oV X.size
  replace oO := oO.ext x30
  replace hs := hs.ext x30
  replace b25 := b25.ext x30
  replace X := gb_ext X x30; clear x30
  refine ops_cons rfl (ow_append (ts := #[]) oO X.size oV.sl (by first | rfl | simp) (by first | exact List.all_eq_true.1 rfl | simp [Value.oneCell']) el24 ti59 rfl rfl rfl rfl (by omega) (by omega) ?_)
  intro AoN coN w33 oN hg32
  replace hs := hs.grown hg32 (fun g hg => Nat.le_trans Bhs (Own.lt oO hg).1)
  replace b25 := b25.grown hg32 (fun h => Own.neT oO b25 (by decide) h.symm)
  replace X := gb_new X hg32 (fun g hg => (Own.lt oO hg).1)
  clear hg32
  refine ops_cons rfl (ow_assign rfl ?_)
  refine ops_nil ?_
  refine c_region ?_
  refine ops_cons rfl (ow_move rfl ?_)
  refine ops_cons rfl (ow_add rfl rfl (w64 (by omega)) ?_)
  refine ops_cons rfl (ow_move rfl ?_)
  refine ops_cons rfl (ow_call ent65 rfl (ret_mono (l01Next_c _ _ _ _ _ _ _ _ _ b25 hs hB ok hbl (by omega)) ?_))
  rintro _ w35 ⟨r3, a37, sd38, rfl, hr39, ok, b36, x34⟩
  replace hs := hs.grown x34 (by intro g hg; injection hg; omega)
  replace oN := oN.grownBlk x34 (Own.neT oN b25 (by decide))
  replace X := gb_trans X x34
  clear x34 b25
  refine ops_cons rfl (ow_add rfl rfl (w64 (by omega)) ?_)
  refine ops_cons rfl (ow_assign rfl ?_)
  refine ops_nil ?_
  refine bq_n ?_
  refine tq_n ?_
  refine c_region ?_
  refine ops_cons rfl (ow_move rfl ?_)
  refine ops_cons rfl (ow_sub rfl rfl (w64 (by omega)) ?_)
  refine ops_cons rfl (ow_assign rfl ?_)
  refine ops_nil ?_
  refine tq_n ⟨(t - 1, id + 1 + r3, ys ++ [⟨id, strOf [110] ++ dec2 id, r2, decide (r5 = 0)⟩], n1 + 1, AoN, coN), (.cons rfl (.cons rfl (.cons rfl (.cons rfl (.cons rfl (.nil _)))))), ?_, ?_⟩
  · skip
    exact ⟨(by omega), (by omega), (by simp [hn]), (by omega), (fun y hy => by
      rcases List.mem_append.1 hy with h | h
      · exact hsm y h
      · obtain rfl : y = ⟨id, strOf [110] ++ dec2 id, r2, decide (r5 = 0)⟩ := by simpa using h
        exact ⟨by show 0 ≤ id ∧ id ≤ 20; omega, by show (strOf [110] ++ dec2 id).size ≤ 7; rw [ByteArray.size_append]; show 1 + _ ≤ 7; omega⟩), ⟨_, _, ok, b36⟩, oN.to (snoc NodeI.cells ys ⟨id, strOf [110] ++ dec2 id, r2, decide (r5 = 0)⟩).symm, hs, X⟩
  · first | omega | (dsimp only; omega)
  refine ops_nil ?_
  refine c_false rfl ?_
  refine c_exit ?_
  refine tq_e ?_
  refine tq_e ?_
  refine bq_e ?_
  refine tq_n ?_
  refine c_seqR ?_
  refine ops_cons rfl (ow_move rfl ?_)
  refine ops_cons rfl (ow_assign rfl ?_)
  refine ops_nil ?_
  refine c_ret ?_
  refine fin_ret1 rfl rfl ?_
  · skip
    subst hn
    exact ⟨A1, c1, ys, _, _, rfl, ⟨by omega, hsm⟩, oO, ok, q, X⟩

theorem l10DrawAny_c (A : Option Addr) (B c : Nat) (bs : List UInt8) (gS a : Nat) (sd : Int) (w : World) (q : Blk w gS 148 (srcC A c bs a sd)) (hs : Sl B w A (bs.flatMap eB)) (hB : B ≤ gS) (ok : a ≤ bs.length ∧ 0 ≤ sd ∧ sd < 2147483647) (hbl : bs.length ≤ 1048576) :
    Calls Tryz.prog 143 #[.pointer (some ⟨gS, 0, none⟩)] w (Ret fun v w' => ∃ A' c' xs a' sd', v = .slice A' (List.length xs) c' ∧ (xs.length ≤ 5 ∧ ∀ z ∈ xs, z.name.size ≤ 7) ∧ Own w' w.heap.size 59 4 A' xs.length c' (xs.flatMap NodeI.cells) ∧ (a' ≤ bs.length ∧ 0 ≤ sd' ∧ sd' < 2147483647) ∧ Blk w' gS 148 (srcC A c bs a' sd') ∧ w.grownBy w' (some gS)) := by
  have Bhs := hs.1
  have X := gb_refl w (some gS)
  refine calls_of (args := [.pointer (some ⟨gS, 0, none⟩)]) Tryz.func143 Tryz.ntmps143 rfl rfl ?_
  refine c_seqR ?_
  refine ops_cons rfl (ow_assign rfl ?_)
  refine ops_nil ?_
  refine c_seqR ?_
  refine ops_cons rfl (ow_move rfl ?_)
  have LoT := X.size
  refine ops_cons rfl (ow_call ent179 rfl (ret_mono (l10Draw_c _ _ _ _ _ _ _ _ q hs hB ok hbl) ?_))
  rintro _ w2 ⟨AT, cT, ys, a4, sd5, rfl, hyl, oT, ok, b3, x1⟩
  replace hs := hs.grown x1 (by intro g hg; injection hg; omega)
  replace X := gb_trans X x1
  clear x1 q
  replace oT := Own.low oT LoT
  have hyl0 := hyl.1
  refine ops_cons rfl (ow_assign rfl ?_)
  refine ops_nil ?_
  refine c_seqR ?_
  refine ops_cons rfl (ow_move rfl ?_)
  refine ops_cons rfl (ow_move rfl ?_)
  refine ops_cons rfl (ow_len Tryz.underlying24 rfl ?_)
  refine ops_cons rfl (ow_call ent65 rfl (ret_mono (l01Next_c _ _ _ _ _ _ _ _ _ b3 hs hB ok hbl (by omega)) ?_))
  rintro _ w9 ⟨rk, a11, sd12, rfl, hr13, ok, b10, x7⟩
  replace hs := hs.grown x7 (by intro g hg; injection hg; omega)
  replace oT := oT.grownBlk x7 (Own.neT oT b3 (by decide))
  replace X := gb_trans X x7
  clear x7 b3
  refine ops_cons rfl (ow_assign rfl ?_)
  refine ops_nil ?_
  refine c_seq ?_
  refine c_seqR ?_
  refine ops_cons rfl (ow_move rfl ?_)
  refine ops_cons rfl (ow_call ent65 rfl (ret_mono (l01Next_c _ _ _ _ _ _ _ _ _ b10 hs hB ok hbl (by omega)) ?_))
  rintro _ w15 ⟨r24, a17, sd18, rfl, hr19, ok, b16, x14⟩
  replace hs := hs.grown x14 (by intro g hg; injection hg; omega)
  replace oT := oT.grownBlk x14 (Own.neT oT b10 (by decide))
  replace X := gb_trans X x14
  clear x14 b10
  refine ops_nil ?_
  refine c_block ?_
  refine c_seqR ?_
  refine ops_cons rfl (ow_eql2 rfl rfl (fun h20 => ?_) (fun h20 => ?_))
  refine ops_cons rfl (ow_assign rfl ?_)
  refine ops_nil ?_
  refine c_true rfl ?_
  refine c_region ?_
  refine ops_cons rfl (ow_move rfl ?_)
  refine ops_cons rfl (ow_move rfl ?_)
  refine ops_cons rfl (ow_buildSlice el30 ti2 rfl rfl rfl rfl rfl ?_)
  intro g21 w23 eg21 oL bbg21 x22 zg21
  replace oL := Own.low oL X.size
  replace hs := hs.ext x22
  replace oT := oT.ext x22
  replace b16 := b16.ext x22
  replace X := gb_ext X x22; clear x22
  replace oL := oL.to (cs' := ([-1, 31, 32] : List Int).flatMap eI) rfl
  refine ops_cons rfl (ow_move rfl ?_)
  refine ops_cons rfl (ow_call ent65 rfl (ret_mono (l01Next_c _ _ _ _ _ _ _ _ _ b16 hs hB ok hbl (by omega)) ?_))
  rintro _ w25 ⟨rr, a27, sd28, rfl, hr29, ok, b26, x24⟩
  replace hs := hs.grown x24 (by intro g hg; injection hg; omega)
  replace oT := oT.grownBlk x24 (Own.neT oT b16 (by decide))
  replace oL := oL.grownBlk x24 (Own.neT oL b16 (by decide))
  replace X := gb_trans X x24
  clear x24 b16
  obtain ⟨y, hy⟩ : ∃ y, ([-1, 31, 32] : List Int)[rr.toNat]? = some y := ⟨_, List.getElem?_eq_getElem (by simp; omega)⟩
  obtain ⟨x, hx⟩ : ∃ x, ys[rk.toNat]? = some x := ⟨_, List.getElem?_eq_getElem (by omega)⟩
  have hxs := hyl.2 x (List.mem_of_getElem? hx)
  refine ops_cons rfl (ow_indexT (oL).sl eI_len rfl el30 rfl rfl rfl hy (by omega) ?_)
  refine ops_cons rfl (ow_loadT (oL).sl eI_len hy ti2 rfl rfl rfl ?_)
  refine ops_cons rfl (ow_indexT (oT).sl NodeI.len rfl el24 rfl rfl rfl hx (by omega) ?_)
  refine ops_cons rfl (ow_fieldAddr off59_0 rfl ?_)
  refine ops_cons rfl (ow_storeRF oT ti2 rfl rfl rfl rfl (by omega) (by omega) rfl ?_)
  intro w31 oU hg30 z32
  replace hs := hs.grown hg30 (fun g hg => Nat.le_trans Bhs (Own.lt oT hg).1)
  replace oL := oL.grown hg30 (Own.neO oL oT (by decide))
  replace b26 := b26.grown hg30 (fun h => Own.neT oT b26 (by decide) h.symm)
  replace X : w.grownBy w31 (some gS) := by first | exact gb_trans X hg30 | exact gb_new X hg30 (fun g hg => (Own.lt oT hg).1)
  clear hg30 z32
  obtain ⟨zs, hzl, hzs, oR⟩ : ∃ zs : List NodeI, zs.length = ys.length ∧ (∀ z ∈ zs, z.name.size ≤ 7) ∧ Own _ w.heap.size 59 4 AT ys.length cT (zs.flatMap NodeI.cells) := ⟨ys.set rk.toNat ⟨y, x.name, x.drift, x.passive⟩, List.length_set .., (fun z hz => by
    rcases List.mem_or_eq_of_mem_set hz with h | rfl
    · exact (hyl.2 z h).2
    · exact hxs.2), oU.to (set_field (x := x) (x' := ⟨y, x.name, x.drift, x.passive⟩) (vs := [.int .i64 y]) NodeI.len (f := 0) rfl (by omega) ys rk.toNat hx)⟩
  refine ops_nil ?_
  refine bq_n ?_
  refine tq_n ?_
  refine c_seqR ?_
  refine ops_cons rfl (ow_move rfl ?_)
  refine ops_cons rfl (ow_assign rfl ?_)
  refine ops_nil ?_
  refine c_ret ?_
  refine fin_ret1 rfl rfl ?_
  · skip
    first
    | (exact ⟨AoU, coU, zs, _, _, by rw [hzl], ⟨by omega, hzs⟩, by rw [hzl]; exact oR, ok, b26, X⟩)
    | (exact ⟨AT, cT, zs, _, _, by rw [hzl], ⟨by omega, hzs⟩, by rw [hzl]; exact oR, ok, b26, X⟩)
    | (exact ⟨none, 0, [], _, _, rfl, ⟨Nat.zero_le _, fun x hx => by simp at hx⟩, Own.nil_ _ _ _ _, ok, b26, X⟩)
    | (exact ⟨_, _, ys, _, _, rfl, ⟨by omega, fun z hz => (hyl.2 z hz).2⟩, oT, ok, b26, X⟩)
  refine ops_cons rfl (ow_assign rfl ?_)
  refine ops_nil ?_
  refine c_false rfl ?_
  refine c_seqR ?_
  refine ops_cons rfl (ow_eql2 rfl rfl (fun h33 => ?_) (fun h33 => ?_))
  refine ops_cons rfl (ow_assign rfl ?_)
  refine ops_nil ?_
  refine c_true rfl ?_
  refine c_region ?_
  refine ops_cons rfl (ow_move rfl ?_)
  refine ops_cons rfl (ow_move rfl ?_)
  refine ops_cons rfl (ow_buildSlice el211 ti9 rfl rfl rfl rfl rfl ?_)
  intro g34 w36 eg34 oL bbg34 x35 zg34
  replace oL := Own.low oL X.size
  replace hs := hs.ext x35
  replace oT := oT.ext x35
  replace b16 := b16.ext x35
  replace X := gb_ext X x35; clear x35
  replace oL := oL.to (cs' := ST5.flatMap eS) rfl
  refine ops_cons rfl (ow_move rfl ?_)
  refine ops_cons rfl (ow_call ent65 rfl (ret_mono (l01Next_c _ _ _ _ _ _ _ _ _ b16 hs hB ok hbl (by omega)) ?_))
  rintro _ w38 ⟨rr, a40, sd41, rfl, hr42, ok, b39, x37⟩
  replace hs := hs.grown x37 (by intro g hg; injection hg; omega)
  replace oT := oT.grownBlk x37 (Own.neT oT b16 (by decide))
  replace oL := oL.grownBlk x37 (Own.neT oL b16 (by decide))
  replace X := gb_trans X x37
  clear x37 b16
  obtain ⟨y, hy⟩ : ∃ y, ST5[rr.toNat]? = some y := ⟨_, List.getElem?_eq_getElem (by show rr.toNat < 5; omega)⟩
  have hy1 := st5_le y (List.mem_of_getElem? hy)
  obtain ⟨x, hx⟩ : ∃ x, ys[rk.toNat]? = some x := ⟨_, List.getElem?_eq_getElem (by omega)⟩
  have hxs := hyl.2 x (List.mem_of_getElem? hx)
  refine ops_cons rfl (ow_indexT (oL).sl eS_len rfl el211 rfl (show 5 = ST5.length from rfl) rfl hy (by omega) ?_)
  refine ops_cons rfl (ow_loadT (oL).sl eS_len hy ti9 rfl rfl rfl ?_)
  refine ops_cons rfl (ow_indexT (oT).sl NodeI.len rfl el24 rfl rfl rfl hx (by omega) ?_)
  refine ops_cons rfl (ow_fieldAddr off59_1 rfl ?_)
  refine ops_cons rfl (ow_storeRF oT ti9 rfl rfl rfl rfl (by omega) (by omega) rfl ?_)
  intro w44 oU hg43 z45
  replace hs := hs.grown hg43 (fun g hg => Nat.le_trans Bhs (Own.lt oT hg).1)
  replace oL := oL.grown hg43 (Own.neO oL oT (by decide))
  replace b39 := b39.grown hg43 (fun h => Own.neT oT b39 (by decide) h.symm)
  replace X : w.grownBy w44 (some gS) := by first | exact gb_trans X hg43 | exact gb_new X hg43 (fun g hg => (Own.lt oT hg).1)
  clear hg43 z45
  obtain ⟨zs, hzl, hzs, oR⟩ : ∃ zs : List NodeI, zs.length = ys.length ∧ (∀ z ∈ zs, z.name.size ≤ 7) ∧ Own _ w.heap.size 59 4 AT ys.length cT (zs.flatMap NodeI.cells) := ⟨ys.set rk.toNat ⟨x.id, y, x.drift, x.passive⟩, List.length_set .., (fun z hz => by
    rcases List.mem_or_eq_of_mem_set hz with h | rfl
    · exact (hyl.2 z h).2
    · exact hy1), oU.to (set_field (x := x) (x' := ⟨x.id, y, x.drift, x.passive⟩) (vs := [.string y]) NodeI.len (f := 1) rfl (by omega) ys rk.toNat hx)⟩
  refine ops_nil ?_
  refine bq_n ?_
  refine tq_n ?_
  refine c_seqR ?_
  refine ops_cons rfl (ow_move rfl ?_)
  refine ops_cons rfl (ow_assign rfl ?_)
  refine ops_nil ?_
  refine c_ret ?_
  refine fin_ret1 rfl rfl ?_
  · skip
    first
    | (exact ⟨AoU, coU, zs, _, _, by rw [hzl], ⟨by omega, hzs⟩, by rw [hzl]; exact oR, ok, b39, X⟩)
    | (exact ⟨AT, cT, zs, _, _, by rw [hzl], ⟨by omega, hzs⟩, by rw [hzl]; exact oR, ok, b39, X⟩)
    | (exact ⟨none, 0, [], _, _, rfl, ⟨Nat.zero_le _, fun x hx => by simp at hx⟩, Own.nil_ _ _ _ _, ok, b39, X⟩)
    | (exact ⟨_, _, ys, _, _, rfl, ⟨by omega, fun z hz => (hyl.2 z hz).2⟩, oT, ok, b39, X⟩)
  refine ops_cons rfl (ow_assign rfl ?_)
  refine ops_nil ?_
  refine c_false rfl ?_
  refine c_seqR ?_
  refine ops_cons rfl (ow_eql2 rfl rfl (fun h46 => ?_) (fun h46 => ?_))
  refine ops_cons rfl (ow_assign rfl ?_)
  refine ops_nil ?_
  refine c_true rfl ?_
  refine c_region ?_
  refine ops_cons rfl (ow_move rfl ?_)
  refine ops_cons rfl (ow_move rfl ?_)
  refine ops_cons rfl (ow_buildSlice el30 ti2 rfl rfl rfl rfl rfl ?_)
  intro g47 w49 eg47 oL bbg47 x48 zg47
  replace oL := Own.low oL X.size
  replace hs := hs.ext x48
  replace oT := oT.ext x48
  replace b16 := b16.ext x48
  replace X := gb_ext X x48; clear x48
  replace oL := oL.to (cs' := ([-1, 1000, 1001] : List Int).flatMap eI) rfl
  refine ops_cons rfl (ow_move rfl ?_)
  refine ops_cons rfl (ow_call ent65 rfl (ret_mono (l01Next_c _ _ _ _ _ _ _ _ _ b16 hs hB ok hbl (by omega)) ?_))
  rintro _ w51 ⟨rr, a53, sd54, rfl, hr55, ok, b52, x50⟩
  replace hs := hs.grown x50 (by intro g hg; injection hg; omega)
  replace oT := oT.grownBlk x50 (Own.neT oT b16 (by decide))
  replace oL := oL.grownBlk x50 (Own.neT oL b16 (by decide))
  replace X := gb_trans X x50
  clear x50 b16
  obtain ⟨y, hy⟩ : ∃ y, ([-1, 1000, 1001] : List Int)[rr.toNat]? = some y := ⟨_, List.getElem?_eq_getElem (by simp; omega)⟩
  obtain ⟨x, hx⟩ : ∃ x, ys[rk.toNat]? = some x := ⟨_, List.getElem?_eq_getElem (by omega)⟩
  have hxs := hyl.2 x (List.mem_of_getElem? hx)
  refine ops_cons rfl (ow_indexT (oL).sl eI_len rfl el30 rfl rfl rfl hy (by omega) ?_)
  refine ops_cons rfl (ow_loadT (oL).sl eI_len hy ti2 rfl rfl rfl ?_)
  refine ops_cons rfl (ow_indexT (oT).sl NodeI.len rfl el24 rfl rfl rfl hx (by omega) ?_)
  refine ops_cons rfl (ow_fieldAddr off59_2 rfl ?_)
  refine ops_cons rfl (ow_storeRF oT ti2 rfl rfl rfl rfl (by omega) (by omega) rfl ?_)
  intro w57 oU hg56 z58
  replace hs := hs.grown hg56 (fun g hg => Nat.le_trans Bhs (Own.lt oT hg).1)
  replace oL := oL.grown hg56 (Own.neO oL oT (by decide))
  replace b52 := b52.grown hg56 (fun h => Own.neT oT b52 (by decide) h.symm)
  replace X : w.grownBy w57 (some gS) := by first | exact gb_trans X hg56 | exact gb_new X hg56 (fun g hg => (Own.lt oT hg).1)
  clear hg56 z58
  obtain ⟨zs, hzl, hzs, oR⟩ : ∃ zs : List NodeI, zs.length = ys.length ∧ (∀ z ∈ zs, z.name.size ≤ 7) ∧ Own _ w.heap.size 59 4 AT ys.length cT (zs.flatMap NodeI.cells) := ⟨ys.set rk.toNat ⟨x.id, x.name, y, x.passive⟩, List.length_set .., (fun z hz => by
    rcases List.mem_or_eq_of_mem_set hz with h | rfl
    · exact (hyl.2 z h).2
    · exact hxs.2), oU.to (set_field (x := x) (x' := ⟨x.id, x.name, y, x.passive⟩) (vs := [.int .i64 y]) NodeI.len (f := 2) rfl (by omega) ys rk.toNat hx)⟩
  refine ops_nil ?_
  refine bq_n ?_
  refine tq_n ?_
  refine c_seqR ?_
  refine ops_cons rfl (ow_move rfl ?_)
  refine ops_cons rfl (ow_assign rfl ?_)
  refine ops_nil ?_
  refine c_ret ?_
  refine fin_ret1 rfl rfl ?_
  · skip
    first
    | (exact ⟨AoU, coU, zs, _, _, by rw [hzl], ⟨by omega, hzs⟩, by rw [hzl]; exact oR, ok, b52, X⟩)
    | (exact ⟨AT, cT, zs, _, _, by rw [hzl], ⟨by omega, hzs⟩, by rw [hzl]; exact oR, ok, b52, X⟩)
    | (exact ⟨none, 0, [], _, _, rfl, ⟨Nat.zero_le _, fun x hx => by simp at hx⟩, Own.nil_ _ _ _ _, ok, b52, X⟩)
    | (exact ⟨_, _, ys, _, _, rfl, ⟨by omega, fun z hz => (hyl.2 z hz).2⟩, oT, ok, b52, X⟩)
  refine ops_cons rfl (ow_assign rfl ?_)
  refine ops_nil ?_
  refine c_false rfl ?_
  refine c_seqR ?_
  refine ops_cons rfl (ow_eql2 rfl rfl (fun h59 => ?_) (fun h59 => ?_))
  refine ops_cons rfl (ow_assign rfl ?_)
  refine ops_nil ?_
  refine c_true rfl ?_
  refine c_region ?_
  refine ops_cons rfl (ow_move rfl ?_)
  refine ops_cons rfl (ow_move rfl ?_)
  refine ops_cons rfl (ow_move rfl ?_)
  obtain ⟨x, hx⟩ : ∃ x, ys[rk.toNat]? = some x := ⟨_, List.getElem?_eq_getElem (by omega)⟩
  have hxs := hyl.2 x (List.mem_of_getElem? hx)
  refine ops_cons rfl (ow_indexT (oT).sl NodeI.len rfl el24 rfl rfl rfl hx (by omega) ?_)
  refine ops_cons rfl (ow_loadTA (oT).sl NodeI.len hx ti59 rfl ?_)
  refine ops_cons rfl (ow_buildSlice el24 ti59 rfl rfl rfl rfl rfl ?_)
  intro g60 w62 eg60 oV bbg60 x61 zg60
  replace oV := Own.low oV X.size
  replace hs := hs.ext x61
  replace oT := oT.ext x61
  replace b16 := b16.ext x61
  replace X := gb_ext X x61; clear x61
  refine ops_cons rfl (ow_append (ts := #[]) oT X.size oV.sl (by first | rfl | simp) (by first | exact List.all_eq_true.1 rfl | simp [Value.oneCell']) el24 ti59 rfl rfl rfl rfl (by omega) (by omega) ?_)
  intro AoU coU w65 oU hg63
  replace hs := hs.grown hg63 (fun g hg => Nat.le_trans Bhs (Own.lt oT hg).1)
  replace b16 := b16.grown hg63 (fun h => Own.neT oT b16 (by decide) h.symm)
  replace X := gb_new X hg63 (fun g hg => (Own.lt oT hg).1)
  clear hg63
  obtain ⟨zs, hzl, hzs, oR⟩ : ∃ zs : List NodeI, zs.length = ys.length + 1 ∧ (∀ z ∈ zs, z.name.size ≤ 7) ∧ Own _ w.heap.size 59 4 AoU (ys.length + 1) coU (zs.flatMap NodeI.cells) := ⟨ys ++ [x], by simp, (fun z hz => by
    rcases List.mem_append.1 hz with h | h
    · exact (hyl.2 z h).2
    · obtain rfl : z = x := by simpa using h
      exact hxs.2), oU.to (snoc NodeI.cells ys x).symm⟩
  refine ops_cons rfl (ow_assign rfl ?_)
  refine ops_nil ?_
  refine bq_n ?_
  refine tq_n ?_
  refine c_seqR ?_
  refine ops_cons rfl (ow_move rfl ?_)
  refine ops_cons rfl (ow_assign rfl ?_)
  refine ops_nil ?_
  refine c_ret ?_
  refine fin_ret1 rfl rfl ?_
  · skip
    first
    | (exact ⟨AoU, coU, zs, _, _, by rw [hzl], ⟨by omega, hzs⟩, by rw [hzl]; exact oR, ok, b16, X⟩)
    | (exact ⟨AT, cT, zs, _, _, by rw [hzl], ⟨by omega, hzs⟩, by rw [hzl]; exact oR, ok, b16, X⟩)
    | (exact ⟨none, 0, [], _, _, rfl, ⟨Nat.zero_le _, fun x hx => by simp at hx⟩, Own.nil_ _ _ _ _, ok, b16, X⟩)
    | (exact ⟨_, _, ys, _, _, rfl, ⟨by omega, fun z hz => (hyl.2 z hz).2⟩, oT, ok, b16, X⟩)
  refine ops_cons rfl (ow_assign rfl ?_)
  refine ops_nil ?_
  refine c_false rfl ?_
  refine c_seqR ?_
  refine ops_cons rfl (ow_eql2 rfl rfl (fun h66 => ?_) (fun h66 => ?_))
  refine ops_cons rfl (ow_assign rfl ?_)
  refine ops_nil ?_
  refine c_true rfl ?_
  refine c_region ?_
  refine ops_cons rfl (ow_assign rfl ?_)
  refine ops_nil ?_
  refine bq_n ?_
  refine tq_n ?_
  refine c_seqR ?_
  refine ops_cons rfl (ow_move rfl ?_)
  refine ops_cons rfl (ow_assign rfl ?_)
  refine ops_nil ?_
  refine c_ret ?_
  refine fin_ret1 rfl rfl ?_
  · skip
    first
    | (exact ⟨AoU, coU, zs, _, _, by rw [hzl], ⟨by omega, hzs⟩, by rw [hzl]; exact oR, ok, b16, X⟩)
    | (exact ⟨AT, cT, zs, _, _, by rw [hzl], ⟨by omega, hzs⟩, by rw [hzl]; exact oR, ok, b16, X⟩)
    | (exact ⟨none, 0, [], _, _, rfl, ⟨Nat.zero_le _, fun x hx => by simp at hx⟩, Own.nil_ _ _ _ _, ok, b16, X⟩)
    | (exact ⟨_, _, ys, _, _, rfl, ⟨by omega, fun z hz => (hyl.2 z hz).2⟩, oT, ok, b16, X⟩)
  refine ops_cons rfl (ow_assign rfl ?_)
  refine ops_nil ?_
  refine c_false rfl ?_
  refine c_skip ?_
  refine bq_n ?_
  refine tq_n ?_
  refine c_seqR ?_
  refine ops_cons rfl (ow_move rfl ?_)
  refine ops_cons rfl (ow_assign rfl ?_)
  refine ops_nil ?_
  refine c_ret ?_
  refine fin_ret1 rfl rfl ?_
  · skip
    first
    | (exact ⟨AoU, coU, zs, _, _, by rw [hzl], ⟨by omega, hzs⟩, by rw [hzl]; exact oR, ok, b16, X⟩)
    | (exact ⟨AT, cT, zs, _, _, by rw [hzl], ⟨by omega, hzs⟩, by rw [hzl]; exact oR, ok, b16, X⟩)
    | (exact ⟨none, 0, [], _, _, rfl, ⟨Nat.zero_le _, fun x hx => by simp at hx⟩, Own.nil_ _ _ _ _, ok, b16, X⟩)
    | (exact ⟨_, _, ys, _, _, rfl, ⟨by omega, fun z hz => (hyl.2 z hz).2⟩, oT, ok, b16, X⟩)
end Go.Proofs.YtdoibplhbdkapaaGreatDoor
