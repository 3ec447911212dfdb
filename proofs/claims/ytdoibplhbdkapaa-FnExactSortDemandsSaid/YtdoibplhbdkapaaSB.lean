/- Sorted blocks of demands are merged. No condition. -/
import Derived.Test.YtdoibplhbdkapaaSA
namespace Go.Proofs.Ytdoibplhbdkapaa
open Go.RowKit
set_option linter.unusedVariables false
set_option linter.unusedSimpArgs false
set_option maxRecDepth 20000
def MergeIH (N : Nat) : Prop := ∀ (A : Option Addr) (n c lo : Nat) (P S1 S2 Q : List Dem) (a m b : Int) (w : World), Own w lo 73 3 A n c ((P ++ (S1 ++ (S2 ++ Q))).flatMap Dem.cells) → n ≤ 1048576 → a = P.length → m = P.length + S1.length → b = P.length + S1.length + S2.length → EvD (S1 ++ S2) → Srt S1 → Srt S2 → 0 < S1.length → 0 < S2.length → S1.length + S2.length < N →
  Calls Try.prog 102 #[.slice A n c, .int .i64 a, .int .i64 m, .int .i64 b, .func (.func 49) #[] #[]] w (Ret fun v w' => ∃ T, v = .tuple #[] ∧ Srt T ∧ Sam T (S1 ++ S2) ∧ Own w' lo 73 3 A n c ((P ++ (T ++ Q)).flatMap Dem.cells) ∧ w.grownBy w' (Value.slice A n c).ownBlock)


set_option maxHeartbeats 2000000 in
theorem merge0_c (N : Nat) (ih : MergeIH N) (A : Option Addr) (n c lo : Nat) (P S1 S2 Q : List Dem) (a m b : Int) (w : World) (oO : Own w lo 73 3 A n c ((P ++ (S1 ++ (S2 ++ Q))).flatMap Dem.cells)) (hn : n ≤ 1048576) (ha : a = P.length) (hm : m = P.length + S1.length) (hb : b = P.length + S1.length + S2.length) (hE : EvD (S1 ++ S2)) (hs1 : Srt S1) (hs2 : Srt S2) (hz1 : 0 < S1.length) (hz2 : 0 < S2.length) (hN : S1.length + S2.length < N + 1) :
    Calls Try.prog 102 #[.slice A n c, .int .i64 a, .int .i64 m, .int .i64 b, .func (.func 49) #[] #[]] w (Ret fun v w' => ∃ T, v = .tuple #[] ∧ Srt T ∧ Sam T (S1 ++ S2) ∧ Own w' lo 73 3 A n c ((P ++ (T ++ Q)).flatMap Dem.cells) ∧ w.grownBy w' (Value.slice A n c).ownBlock) := by
  have hL := own_n oO
  simp only [List.length_append] at hL
  have X := gb_refl w (Value.slice A n c).ownBlock
  refine calls_of (args := [.slice A n c, .int .i64 a, .int .i64 m, .int .i64 b, .func (.func 49) #[] #[]]) Try.func102 Try.ntmps102 rfl rfl ?_
  refine c_seq ?_
  refine c_seqR ?_
  refine ops_cons rfl (ow_move rfl ?_)
  refine ops_cons rfl (ow_move rfl ?_)
  refine ops_cons rfl (ow_sub rfl rfl (w64 (by omega)) ?_)
  refine ops_cons rfl (ow_eql2 rfl rfl (fun h1 => ?_) (fun h1 => ?_))
  obtain ⟨x, eS1⟩ : ∃ x, S1 = [x] := List.length_eq_one_iff.1 (by omega)
  have hbx : 1 ≤ x.every ∧ x.every ≤ 8 := hE x (by rw [eS1]; simp)
  have hl1 : S1.length = 1 := by rw [eS1]; rfl
  have hxr : (P ++ (S1 ++ (S2 ++ Q)))[a.toNat]? = some x := by rw [eS1]; exact mid_at (L := P) (by omega)
  refine ops_nil ?_
  refine c_true rfl ?_
  refine c_seqR ?_
  refine ops_cons rfl (ow_move rfl ?_)
  refine ops_cons rfl (ow_assign rfl ?_)
  refine ops_nil ?_
  refine c_seqR ?_
  refine ops_cons rfl (ow_move rfl ?_)
  refine ops_cons rfl (ow_assign rfl ?_)
  refine ops_nil ?_
  refine c_seq ?_
  refine c_block ?_
  refine c_loop (G := Int × Int) (fun ⟨i, j⟩ => [(0, .slice A n c), (1, .int .i64 a), (2, .int .i64 m), (3, .int .i64 b), (4, .func (.func 49) #[] #[]), (10, .int .i64 i), (11, .int .i64 j)]) (fun ⟨i, j⟩ wr => (m ≤ i ∧ i ≤ j ∧ j ≤ b) ∧ (∀ z ∈ S2.take (i - m).toNat, z.every < x.every) ∧ (∀ z ∈ S2.drop (j - m).toNat, x.every ≤ z.every) ∧ Own wr lo 73 3 A n c ((P ++ (S1 ++ (S2 ++ Q))).flatMap Dem.cells) ∧ w.grownBy wr (Value.slice A n c).ownBlock) (fun ⟨i, j⟩ => (j - i).toNat) (m, b) (.cons rfl (.cons rfl (.cons rfl (.cons rfl (.cons rfl (.cons rfl (.cons rfl (.nil _)))))))) ?_ ?_
  · exact ⟨⟨by first | omega | (dsimp only; omega), by first | omega | (dsimp only; omega), by first | omega | (dsimp only; omega)⟩, (fun z hz => by simp at hz), (fun z hz => by rw [List.drop_eq_nil_of_le (by omega)] at hz; simp at hz), oO, X⟩
  clear oO
  clear X
  rintro ⟨i, j⟩ wr ⟨hbd, hlo, hhi, oO, X⟩
  refine c_seq ?_
  refine c_seqR ?_
  refine ops_cons rfl (ow_move rfl ?_)
  refine ops_cons rfl (ow_move rfl ?_)
  refine ops_cons rfl (ow_lss2 rfl rfl (fun hij => ?_) (fun hij => ?_))
  obtain ⟨y, hy⟩ : ∃ y, S2[((i + j) / 2 - m).toNat]? = some y := ⟨_, List.getElem?_eq_getElem (by omega)⟩
  have hby : 1 ≤ y.every ∧ y.every ≤ 8 := hE y (List.mem_append_right _ (List.mem_of_getElem? hy))
  have hyr : (P ++ (S1 ++ (S2 ++ Q)))[((i + j) / 2).toNat]? = some y := by
    have := in_at (P := P ++ S1) (S := S2) (Q := Q) (n := ((i + j) / 2).toNat) (by first | omega | (simp; done) | (simp; omega)) hy
    simpa using this
  refine ops_nil ?_
  refine c_true rfl ?_
  refine c_skip ?_
  refine tq_n ?_
  refine c_block ?_
  refine c_seqR ?_
  refine ops_cons rfl (ow_move rfl ?_)
  refine ops_cons rfl (ow_move rfl ?_)
  refine ops_cons rfl (ow_add rfl rfl (w64 (by omega)) ?_)
  refine ops_cons rfl (ow_conv Try.underlying3 Try.underlying104 rfl (wu64 (by omega)) ?_)
  refine ops_cons rfl (ow_shr rfl rfl (by omega) (half_u (by omega)) ?_)
  refine ops_cons rfl (ow_conv Try.underlying104 Try.underlying3 rfl (w64 (by omega)) ?_)
  refine ops_cons rfl (ow_assign rfl ?_)
  refine ops_nil ?_
  refine c_seqD [false, false, false, false, false, false, false, false, false, false, false] mixed (by kernel_rfl) ?_
  refine f_q rfl (fun wq sq => ow_move rfl ⟨rfl, Ext.refl _⟩) ?_
  refine f_q rfl (fun wq sq => ow_move rfl ⟨rfl, Ext.refl _⟩) ?_
  refine f_q rfl (fun wq sq => ow_move rfl ⟨rfl, Ext.refl _⟩) ?_
  refine f_q rfl (fun wq sq => ow_indexT ((oO.ext sq)).sl Dem.len rfl el30 rfl (by first | omega | (simp; done) | (simp; omega)) rfl hyr (by omega) ⟨rfl, Ext.refl _⟩) ?_
  refine f_q rfl (fun wq sq => ow_loadTA ((oO.ext sq)).sl Dem.len hyr ti73 rfl ⟨rfl, Ext.refl _⟩) ?_
  refine f_q rfl (fun wq sq => ow_move rfl ⟨rfl, Ext.refl _⟩) ?_
  refine f_q rfl (fun wq sq => ow_move rfl ⟨rfl, Ext.refl _⟩) ?_
  refine f_q rfl (fun wq sq => ow_indexT ((oO.ext sq)).sl Dem.len rfl el30 rfl (by first | omega | (simp; done) | (simp; omega)) rfl hxr (by omega) ⟨rfl, Ext.refl _⟩) ?_
  refine f_q rfl (fun wq sq => ow_loadTA ((oO.ext sq)).sl Dem.len hxr ti73 rfl ⟨rfl, Ext.refl _⟩) ?_
  refine f_q rfl (fun wq sq => ow_callVL ent49 rfl rfl (cmpD_c _ _ _ hby hbx)) ?_
  refine f_qb rfl (fun wq sq => ow_lss rfl rfl ⟨rfl, Ext.refl _⟩) (fun hc => ?_) (fun hc => ?_)
  refine f_nil (fun w1 sq => ?_)
  have xq := sq
  replace oO := oO.ext xq
  replace X := gb_ext X xq; clear xq sq
  refine ops_nil ?_
  refine c_true rfl ?_
  refine c_region ?_
  refine ops_cons rfl (ow_move rfl ?_)
  refine ops_cons rfl (ow_add rfl rfl (w64 (by omega)) ?_)
  refine ops_cons rfl (ow_assign rfl ?_)
  refine ops_nil ?_
  refine bq_n ?_
  refine tq_n ⟨((i + j) / 2 + 1, j), (.cons rfl (.cons rfl (.cons rfl (.cons rfl (.cons rfl (.cons rfl (.cons rfl (.nil _)))))))), ?_, ?_⟩
  · skip
    exact ⟨⟨by first | omega | (dsimp only; omega), by first | omega | (dsimp only; omega), by first | omega | (dsimp only; omega)⟩, (fun z hz => by
      have := hs2.take hy z (by rw [show ((i + j) / 2 - m).toNat + 1 = ((i + j) / 2 + 1 - m).toNat by omega]; exact hz)
      omega), hhi, oO, X⟩
  · first | omega | (dsimp only; omega)
  refine f_nil (fun w2 sq => ?_)
  have xq := sq
  replace oO := oO.ext xq
  replace X := gb_ext X xq; clear xq sq
  refine ops_nil ?_
  refine c_false rfl ?_
  refine c_region ?_
  refine ops_cons rfl (ow_move rfl ?_)
  refine ops_cons rfl (ow_assign rfl ?_)
  refine ops_nil ?_
  refine bq_n ?_
  refine tq_n ⟨(i, (i + j) / 2), (.cons rfl (.cons rfl (.cons rfl (.cons rfl (.cons rfl (.cons rfl (.cons rfl (.nil _)))))))), ?_, ?_⟩
  · skip
    exact ⟨⟨by first | omega | (dsimp only; omega), by first | omega | (dsimp only; omega), by first | omega | (dsimp only; omega)⟩, hlo, (fun z hz => by
      have := hs2.drop hy z hz
      omega), oO, X⟩
  · first | omega | (dsimp only; omega)
  have hei : i = j := by omega
  subst hei
  obtain ⟨V1, hV1⟩ : ∃ z, z = S2.take (i - m).toNat := ⟨_, rfl⟩
  obtain ⟨V2, hV2⟩ : ∃ z, z = S2.drop (i - m).toNat := ⟨_, rfl⟩
  have eV : S2 = V1 ++ V2 := by rw [hV1, hV2]; exact (List.take_append_drop _ _).symm
  have lV : (V1.length : Int) = i - m := by rw [hV1]; simp; omega
  rw [← hV1] at hlo
  rw [← hV2] at hhi
  clear hV1 hV2
  replace oO := oO.to (cs' := (P ++ (x :: (V1 ++ (V2 ++ Q)))).flatMap Dem.cells) (by rw [eS1, eV]; simp)
  refine ops_nil ?_
  refine c_false rfl ?_
  refine c_exit ?_
  refine tq_e ?_
  refine tq_e ?_
  refine bq_e ?_
  refine tq_n ?_
  refine c_seq ?_
  refine c_seqR ?_
  refine ops_cons rfl (ow_move rfl ?_)
  refine ops_cons rfl (ow_assign rfl ?_)
  refine ops_nil ?_
  refine c_block ?_
  refine c_loop (G := Int × List Dem × List Dem) (fun ⟨k, W1, W2⟩ => [(0, .slice A n c), (1, .int .i64 a), (2, .int .i64 m), (3, .int .i64 b), (4, .func (.func 49) #[] #[]), (10, .int .i64 i), (13, .int .i64 k)]) (fun ⟨k, W1, W2⟩ wr => W1 ++ W2 = V1 ∧ k = P.length + W1.length ∧ Own wr lo 73 3 A n c ((P ++ (W1 ++ (x :: (W2 ++ (V2 ++ Q))))).flatMap Dem.cells) ∧ w.grownBy wr (Value.slice A n c).ownBlock) (fun ⟨k, W1, W2⟩ => (i - k).toNat) (a, [], V1) (.cons rfl (.cons rfl (.cons rfl (.cons rfl (.cons rfl (.cons rfl (.cons rfl (.nil _)))))))) ?_ ?_
  · exact ⟨rfl, (by first | omega | (simp; done) | (simp; omega)), oO, X⟩
  clear oO
  clear X
  rintro ⟨k, W1, W2⟩ wr ⟨eW, hk, oO, X⟩
  refine c_seq ?_
  refine c_seqR ?_
  refine ops_cons rfl (ow_move rfl ?_)
  refine ops_cons rfl (ow_move rfl ?_)
  refine ops_cons rfl (ow_sub rfl rfl (w64 (by omega)) ?_)
  refine ops_cons rfl (ow_lss2 rfl rfl (fun hk1 => ?_) (fun hk1 => ?_))
  have lW := congrArg List.length eW
  simp only [List.length_append] at lW
  obtain ⟨y, W3, eW3⟩ := cons_of (l := W2) (by omega)
  subst eW3
  simp only [List.length_cons] at lW
  replace oO := oO.to (cs' := ((P ++ W1) ++ x :: y :: (W3 ++ (V2 ++ Q))).flatMap Dem.cells) (by simp)
  have hLn := own_n oO
  simp only [List.length_append, List.length_cons] at hLn
  have hA := own_some oO (by omega)
  have hx0 : ((P ++ W1) ++ x :: y :: (W3 ++ (V2 ++ Q)))[P.length + W1.length]? = some x := mid_at (by first | omega | (simp; done) | (simp; omega))
  have hx1 : ((P ++ W1) ++ x :: y :: (W3 ++ (V2 ++ Q)))[P.length + W1.length + 1]? = some y := by
    rw [show (P ++ W1) ++ x :: y :: (W3 ++ (V2 ++ Q)) = ((P ++ W1) ++ [x]) ++ y :: (W3 ++ (V2 ++ Q)) by simp]; exact mid_at (by first | omega | (simp; done) | (simp; omega))
  refine ops_nil ?_
  refine c_true rfl ?_
  refine c_skip ?_
  refine tq_n ?_
  refine c_seq ?_
  refine c_block ?_
  refine c_regZ 15 (fun wz => Own wz lo 73 3 A n c (((P ++ W1) ++ x :: y :: (W3 ++ (V2 ++ Q))).flatMap Dem.cells)) mixed ?_
  obtain ⟨w3, ew3⟩ : ∃ wy, wy = World.drew wr := ⟨_, rfl⟩
  rw [← ew3]
  have xd : Ext wr w3 := ew3 ▸ Ext.drew wr
  replace oO := oO.ext xd
  replace X := gb_ext X xd; clear xd ew3
  refine wz_take 0 rfl (by kernel_rfl) rfl (by kernel_rfl) (listed' := #[true, false, false, false, false, false, false, false, false, false, false, false, false, false, false, false, false, false]) rfl (fun wq sq => ow_move rfl ⟨rfl, rfl⟩) ?_
  refine wz_take 1 rfl (by kernel_rfl) rfl (by kernel_rfl) (listed' := #[true, true, false, false, false, false, false, false, false, false, false, false, false, false, false, false, false, false]) rfl (fun wq sq => ow_move rfl ⟨rfl, rfl⟩) ?_
  refine wz_takeT 2 rfl (by kernel_rfl) rfl (by kernel_rfl) (by decide) (listed' := #[true, true, true, false, false, false, false, false, false, false, false, false, false, false, false, false, false, false]) rfl (fun wq sq => ow_move rfl ⟨rfl, rfl⟩) ?_
  refine wz_takeT 3 rfl (by kernel_rfl) rfl (by kernel_rfl) (by decide) (listed' := #[true, true, true, true, false, false, false, false, false, false, false, false, false, false, false, false, false, false]) rfl (fun wq sq => ow_move rfl ⟨rfl, rfl⟩) ?_
  refine wz_takeT 4 rfl (by kernel_rfl) rfl (by kernel_rfl) (by decide) (listed' := #[true, true, true, true, true, false, false, false, false, false, false, false, false, false, false, false, false, false]) rfl (fun wq sq => ow_add rfl rfl (w64 (by omega)) ⟨rfl, rfl⟩) ?_
  refine wz_take 5 rfl (by kernel_rfl) rfl (by kernel_rfl) (listed' := #[true, true, true, true, true, true, false, false, false, false, false, false, false, false, false, false, false, false]) rfl (fun wq sq => ow_move rfl ⟨rfl, rfl⟩) ?_
  refine wz_take 6 rfl (by kernel_rfl) rfl (by kernel_rfl) (listed' := #[true, true, true, true, true, true, true, false, false, false, false, false, false, false, false, false, false, false]) rfl (fun wq sq => ow_move rfl ⟨rfl, rfl⟩) ?_
  refine wz_take 7 rfl (by kernel_rfl) rfl (by kernel_rfl) (listed' := #[true, true, true, true, true, true, true, true, false, false, false, false, false, false, false, false, false, false]) rfl (fun wq sq => ow_add rfl rfl (w64 (by omega)) ⟨rfl, rfl⟩) ?_
  refine wz_take 8 rfl (by kernel_rfl) rfl (by kernel_rfl) (listed' := #[true, true, true, true, true, true, true, true, true, false, false, false, false, false, false, false, false, false]) rfl (fun wq sq => ow_indexA (j := P.length + W1.length + 1) hA el30 rfl rfl (by omega) (by omega) ⟨rfl, rfl⟩) ?_
  refine wz_take 9 rfl (by kernel_rfl) rfl (by kernel_rfl) (listed' := #[true, true, true, true, true, true, true, true, true, true, false, false, false, false, false, false, false, false]) rfl (fun wq sq => ow_loadTA (sq).sl Dem.len hx1 ti73 rfl ⟨rfl, rfl⟩) ?_
  refine wz_takeT 10 rfl (by kernel_rfl) rfl (by kernel_rfl) (by decide) (listed' := #[true, true, true, true, true, true, true, true, true, true, true, false, false, false, false, false, false, false]) rfl (fun wq sq => ow_move rfl ⟨rfl, rfl⟩) ?_
  refine wz_takeT 11 rfl (by kernel_rfl) rfl (by kernel_rfl) (by decide) (listed' := #[true, true, true, true, true, true, true, true, true, true, true, true, false, false, false, false, false, false]) rfl (fun wq sq => ow_move rfl ⟨rfl, rfl⟩) ?_
  refine wz_takeT 12 rfl (by kernel_rfl) rfl (by kernel_rfl) (by decide) (listed' := #[true, true, true, true, true, true, true, true, true, true, true, true, true, false, false, false, false, false]) rfl (fun wq sq => ow_indexA (j := P.length + W1.length) hA el30 rfl rfl (by omega) (by omega) ⟨rfl, rfl⟩) ?_
  refine wz_take 13 rfl (by kernel_rfl) rfl (by kernel_rfl) (listed' := #[true, true, true, true, true, true, true, true, true, true, true, true, true, true, false, false, false, false]) rfl (fun wq sq => ow_loadTA (sq).sl Dem.len hx0 ti73 rfl ⟨rfl, rfl⟩) ?_
  refine wz_take 14 rfl (by kernel_rfl) rfl (by kernel_rfl) (listed' := #[true, true, true, true, true, true, true, true, true, true, true, true, true, true, true, false, false, false]) rfl (fun wq sq => ow_indexA (j := P.length + W1.length) hA el30 rfl rfl (by omega) (by omega) ⟨rfl, rfl⟩) ?_
  refine wz_one 15 rfl rfl (by kernel_rfl) (listed' := #[true, true, true, true, true, true, true, true, true, true, true, true, true, true, true, true, false, false]) rfl (fun _ => oO) (ow_storeR oO ti73 rfl rfl rfl rfl (by omega) (by omega) rfl ?_)
  intro w5 oN hg4 z6
  replace X : w.grownBy w5 (Value.slice A n c).ownBlock := by first | exact gb_trans X hg4 | exact gb_new X hg4 (fun g hg => (Own.lt oO hg).1)
  clear hg4 z6
  replace oN := oN.to (cs' := (((P ++ W1) ++ x :: y :: (W3 ++ (V2 ++ Q))).set (P.length + W1.length) y).flatMap Dem.cells) (set_flat Dem.len y ((P ++ W1) ++ x :: y :: (W3 ++ (V2 ++ Q))) (P.length + W1.length) (by first | omega | (simp; done) | (simp; omega)))
  have hx2 : (((P ++ W1) ++ x :: y :: (W3 ++ (V2 ++ Q))).set (P.length + W1.length) y)[P.length + W1.length + 1]? = some y := by rw [List.getElem?_set_ne (by omega)]; exact hx1
  refine wz_takeT 16 rfl (by kernel_rfl) rfl (by kernel_rfl) (by decide) (listed' := #[true, true, true, true, true, true, true, true, true, true, true, true, true, true, true, true, true, false]) rfl (fun wq sq => ow_indexA (j := P.length + W1.length + 1) hA el30 rfl rfl (by omega) (by omega) ⟨rfl, rfl⟩) ?_
  refine wz_one 17 rfl rfl (by kernel_rfl) (listed' := #[true, true, true, true, true, true, true, true, true, true, true, true, true, true, true, true, true, true]) rfl (fun h => absurd h (by decide)) (ow_storeR oN ti73 rfl rfl rfl rfl (by omega) (by omega) rfl ?_)
  intro w9 oM hg7 z10
  replace X : w.grownBy w9 (Value.slice A n c).ownBlock := by first | exact gb_trans X hg7 | exact gb_new X hg7 (fun g hg => (Own.lt oN hg).1)
  clear hg7 z10
  replace oM := oM.to (cs' := ((((P ++ W1) ++ x :: y :: (W3 ++ (V2 ++ Q))).set (P.length + W1.length) y).set (P.length + W1.length + 1) x).flatMap Dem.cells) (set_flat Dem.len x (((P ++ W1) ++ x :: y :: (W3 ++ (V2 ++ Q))).set (P.length + W1.length) y) (P.length + W1.length + 1) (by first | omega | (simp; done) | (simp; omega)))
  rw [swap2 (by first | omega | (simp; done) | (simp; omega))] at oM
  refine wz_done rfl (fun h => absurd h (by decide)) (fun aj fj => ⟨_, fj, ?_⟩)
  refine bq_n ?_
  refine tq_n ?_
  refine c_region ?_
  refine ops_cons rfl (ow_move rfl ?_)
  refine ops_cons rfl (ow_add rfl rfl (w64 (by omega)) ?_)
  refine ops_cons rfl (ow_assign rfl ?_)
  refine ops_nil ?_
  refine tq_n ⟨(k + 1, W1 ++ [y], W3), (.cons rfl (.cons rfl (.cons rfl (.cons rfl (.cons rfl (.cons rfl (.cons rfl (.nil _)))))))), ?_, ?_⟩
  · exact ⟨(by rw [← eW]; simp), (by first | omega | (simp; done) | (simp; omega)), (oM.to (by simp)), X⟩
  · first | omega | (dsimp only; omega)
  have lW := congrArg List.length eW
  simp only [List.length_append] at lW
  have y1 : W2 = [] := List.eq_nil_of_length_eq_zero (by omega)
  rw [y1, List.append_nil] at eW
  rw [y1, eW] at oO
  refine ops_nil ?_
  refine c_false rfl ?_
  refine c_exit ?_
  refine tq_e ?_
  refine tq_e ?_
  refine bq_e ?_
  refine tq_n ?_
  refine c_ret ?_
  refine tq_r ?_
  refine fin_ret0 rfl ?_
  · skip
    refine ⟨V1 ++ x :: V2, rfl, put_in (eV ▸ hs2) (fun z hz => Int.le_of_lt (hlo z hz)) hhi, ?_, oO.to (by simp), X⟩
    rw [eS1, eV]; exact put_front hlo
  refine ops_nil ?_
  refine c_false rfl ?_
  refine c_skip ?_
  refine tq_n ?_
  refine c_seq ?_
  refine c_seqR ?_
  refine ops_cons rfl (ow_move rfl ?_)
  refine ops_cons rfl (ow_move rfl ?_)
  refine ops_cons rfl (ow_sub rfl rfl (w64 (by omega)) ?_)
  refine ops_cons rfl (ow_eql2 rfl rfl (fun h2 => ?_) (fun h2 => ?_))
  obtain ⟨x, eS2⟩ : ∃ x, S2 = [x] := List.length_eq_one_iff.1 (by omega)
  have hbx : 1 ≤ x.every ∧ x.every ≤ 8 := hE x (by rw [eS2]; simp)
  have hl2 : S2.length = 1 := by rw [eS2]; rfl
  have hxr : (P ++ (S1 ++ (S2 ++ Q)))[m.toNat]? = some x := by
    rw [eS2]
    have := mid_at (L := P ++ S1) (M := Q) (x := x) (n := m.toNat) (by first | omega | (simp; done) | (simp; omega))
    simpa using this
  refine ops_nil ?_
  refine c_true rfl ?_
  refine c_seqR ?_
  refine ops_cons rfl (ow_move rfl ?_)
  refine ops_cons rfl (ow_assign rfl ?_)
  refine ops_nil ?_
  refine c_seqR ?_
  refine ops_cons rfl (ow_move rfl ?_)
  refine ops_cons rfl (ow_assign rfl ?_)
  refine ops_nil ?_
  refine c_seq ?_
  refine c_block ?_
  refine c_loop (G := Int × Int) (fun ⟨i, j⟩ => [(0, .slice A n c), (1, .int .i64 a), (2, .int .i64 m), (3, .int .i64 b), (4, .func (.func 49) #[] #[]), (14, .int .i64 i), (15, .int .i64 j)]) (fun ⟨i, j⟩ wr => (a ≤ i ∧ i ≤ j ∧ j ≤ m) ∧ (∀ z ∈ S1.take (i - a).toNat, z.every ≤ x.every) ∧ (∀ z ∈ S1.drop (j - a).toNat, x.every < z.every) ∧ Own wr lo 73 3 A n c ((P ++ (S1 ++ (S2 ++ Q))).flatMap Dem.cells) ∧ w.grownBy wr (Value.slice A n c).ownBlock) (fun ⟨i, j⟩ => (j - i).toNat) (a, m) (.cons rfl (.cons rfl (.cons rfl (.cons rfl (.cons rfl (.cons rfl (.cons rfl (.nil _)))))))) ?_ ?_
  · exact ⟨⟨by first | omega | (dsimp only; omega), by first | omega | (dsimp only; omega), by first | omega | (dsimp only; omega)⟩, (fun z hz => by simp at hz), (fun z hz => by rw [List.drop_eq_nil_of_le (by omega)] at hz; simp at hz), oO, X⟩
  clear oO
  clear X
  rintro ⟨i, j⟩ wr ⟨hbd, hlo, hhi, oO, X⟩
  refine c_seq ?_
  refine c_seqR ?_
  refine ops_cons rfl (ow_move rfl ?_)
  refine ops_cons rfl (ow_move rfl ?_)
  refine ops_cons rfl (ow_lss2 rfl rfl (fun hij => ?_) (fun hij => ?_))
  obtain ⟨y, hy⟩ : ∃ y, S1[((i + j) / 2 - a).toNat]? = some y := ⟨_, List.getElem?_eq_getElem (by omega)⟩
  have hby : 1 ≤ y.every ∧ y.every ≤ 8 := hE y (List.mem_append_left _ (List.mem_of_getElem? hy))
  have hyr : (P ++ (S1 ++ (S2 ++ Q)))[((i + j) / 2).toNat]? = some y := in_at (by omega) hy
  refine ops_nil ?_
  refine c_true rfl ?_
  refine c_skip ?_
  refine tq_n ?_
  refine c_block ?_
  refine c_seqR ?_
  refine ops_cons rfl (ow_move rfl ?_)
  refine ops_cons rfl (ow_move rfl ?_)
  refine ops_cons rfl (ow_add rfl rfl (w64 (by omega)) ?_)
  refine ops_cons rfl (ow_conv Try.underlying3 Try.underlying104 rfl (wu64 (by omega)) ?_)
  refine ops_cons rfl (ow_shr rfl rfl (by omega) (half_u (by omega)) ?_)
  refine ops_cons rfl (ow_conv Try.underlying104 Try.underlying3 rfl (w64 (by omega)) ?_)
  refine ops_cons rfl (ow_assign rfl ?_)
  refine ops_nil ?_
  refine c_seqD [false, false, false, false, false, false, false, false, false, false, false, false] mixed (by kernel_rfl) ?_
  refine f_q rfl (fun wq sq => ow_move rfl ⟨rfl, Ext.refl _⟩) ?_
  refine f_q rfl (fun wq sq => ow_move rfl ⟨rfl, Ext.refl _⟩) ?_
  refine f_q rfl (fun wq sq => ow_move rfl ⟨rfl, Ext.refl _⟩) ?_
  refine f_q rfl (fun wq sq => ow_indexT ((oO.ext sq)).sl Dem.len rfl el30 rfl (by first | omega | (simp; done) | (simp; omega)) rfl hxr (by omega) ⟨rfl, Ext.refl _⟩) ?_
  refine f_q rfl (fun wq sq => ow_loadTA ((oO.ext sq)).sl Dem.len hxr ti73 rfl ⟨rfl, Ext.refl _⟩) ?_
  refine f_q rfl (fun wq sq => ow_move rfl ⟨rfl, Ext.refl _⟩) ?_
  refine f_q rfl (fun wq sq => ow_move rfl ⟨rfl, Ext.refl _⟩) ?_
  refine f_q rfl (fun wq sq => ow_indexT ((oO.ext sq)).sl Dem.len rfl el30 rfl (by first | omega | (simp; done) | (simp; omega)) rfl hyr (by omega) ⟨rfl, Ext.refl _⟩) ?_
  refine f_q rfl (fun wq sq => ow_loadTA ((oO.ext sq)).sl Dem.len hyr ti73 rfl ⟨rfl, Ext.refl _⟩) ?_
  refine f_q rfl (fun wq sq => ow_callVL ent49 rfl rfl (cmpD_c _ _ _ hbx hby)) ?_
  refine f_qb rfl (fun wq sq => ow_lss rfl rfl ⟨rfl, Ext.refl _⟩) (fun hc => ?_) (fun hc => ?_)
  refine f_q rfl (fun wq sq => ow_not rfl ⟨rfl, Ext.refl _⟩) ?_
  refine f_nil (fun w11 sq => ?_)
  have xq := sq
  replace oO := oO.ext xq
  replace X := gb_ext X xq; clear xq sq
  refine ops_nil ?_
  refine c_false rfl ?_
  refine c_region ?_
  refine ops_cons rfl (ow_move rfl ?_)
  refine ops_cons rfl (ow_assign rfl ?_)
  refine ops_nil ?_
  refine bq_n ?_
  refine tq_n ⟨(i, (i + j) / 2), (.cons rfl (.cons rfl (.cons rfl (.cons rfl (.cons rfl (.cons rfl (.cons rfl (.nil _)))))))), ?_, ?_⟩
  · skip
    exact ⟨⟨by first | omega | (dsimp only; omega), by first | omega | (dsimp only; omega), by first | omega | (dsimp only; omega)⟩, hlo, (fun z hz => by
      have := hs1.drop hy z hz
      omega), oO, X⟩
  · first | omega | (dsimp only; omega)
  refine f_q rfl (fun wq sq => ow_not rfl ⟨rfl, Ext.refl _⟩) ?_
  refine f_nil (fun w12 sq => ?_)
  have xq := sq
  replace oO := oO.ext xq
  replace X := gb_ext X xq; clear xq sq
  refine ops_nil ?_
  refine c_true rfl ?_
  refine c_region ?_
  refine ops_cons rfl (ow_move rfl ?_)
  refine ops_cons rfl (ow_add rfl rfl (w64 (by omega)) ?_)
  refine ops_cons rfl (ow_assign rfl ?_)
  refine ops_nil ?_
  refine bq_n ?_
  refine tq_n ⟨((i + j) / 2 + 1, j), (.cons rfl (.cons rfl (.cons rfl (.cons rfl (.cons rfl (.cons rfl (.cons rfl (.nil _)))))))), ?_, ?_⟩
  · skip
    exact ⟨⟨by first | omega | (dsimp only; omega), by first | omega | (dsimp only; omega), by first | omega | (dsimp only; omega)⟩, (fun z hz => by
      have := hs1.take hy z (by rw [show ((i + j) / 2 - a).toNat + 1 = ((i + j) / 2 + 1 - a).toNat by omega]; exact hz)
      omega), hhi, oO, X⟩
  · first | omega | (dsimp only; omega)
  have hei : i = j := by omega
  subst hei
  obtain ⟨V1, hV1⟩ : ∃ z, z = S1.take (i - a).toNat := ⟨_, rfl⟩
  obtain ⟨V2, hV2⟩ : ∃ z, z = S1.drop (i - a).toNat := ⟨_, rfl⟩
  have eV : S1 = V1 ++ V2 := by rw [hV1, hV2]; exact (List.take_append_drop _ _).symm
  have lV : (V1.length : Int) = i - a := by rw [hV1]; simp; omega
  have lV2 := congrArg List.length eV
  simp only [List.length_append] at lV2
  rw [← hV1] at hlo
  rw [← hV2] at hhi
  clear hV1 hV2
  replace oO := oO.to (cs' := (P ++ (V1 ++ (V2 ++ (x :: Q)))).flatMap Dem.cells) (by rw [eS2, eV]; simp)
  refine ops_nil ?_
  refine c_false rfl ?_
  refine c_exit ?_
  refine tq_e ?_
  refine tq_e ?_
  refine bq_e ?_
  refine tq_n ?_
  refine c_seq ?_
  refine c_seqR ?_
  refine ops_cons rfl (ow_move rfl ?_)
  refine ops_cons rfl (ow_assign rfl ?_)
  refine ops_nil ?_
  refine c_block ?_
  refine c_loop (G := Int × List Dem × List Dem) (fun ⟨k, W1, W2⟩ => [(0, .slice A n c), (1, .int .i64 a), (2, .int .i64 m), (3, .int .i64 b), (4, .func (.func 49) #[] #[]), (14, .int .i64 i), (17, .int .i64 k)]) (fun ⟨k, W1, W2⟩ wr => W1 ++ W2 = V2 ∧ k = i + W1.length ∧ Own wr lo 73 3 A n c ((P ++ (V1 ++ (W1 ++ (x :: (W2 ++ Q))))).flatMap Dem.cells) ∧ w.grownBy wr (Value.slice A n c).ownBlock) (fun ⟨k, W1, W2⟩ => (k - i).toNat) (m, V2, []) (.cons rfl (.cons rfl (.cons rfl (.cons rfl (.cons rfl (.cons rfl (.cons rfl (.nil _)))))))) ?_ ?_
  · exact ⟨(List.append_nil _), (by first | omega | (dsimp only; omega)), (oO.to (by simp)), X⟩
  clear oO
  clear X
  rintro ⟨k, W1, W2⟩ wr ⟨eW, hk, oO, X⟩
  refine c_seq ?_
  refine c_seqR ?_
  refine ops_cons rfl (ow_move rfl ?_)
  refine ops_cons rfl (ow_move rfl ?_)
  refine ops_cons rfl (ow_gtr2 rfl rfl (fun hk1 => ?_) (fun hk1 => ?_))
  have lW := congrArg List.length eW
  simp only [List.length_append] at lW
  obtain ⟨W3, y, eW3⟩ := snoc_of (l := W1) (by omega)
  subst eW3
  simp only [List.length_append, List.length_singleton] at lW hk
  replace oO := oO.to (cs' := (((P ++ V1) ++ W3) ++ y :: x :: (W2 ++ Q)).flatMap Dem.cells) (by simp)
  have hLn := own_n oO
  simp only [List.length_append, List.length_cons] at hLn
  have hA := own_some oO (by omega)
  have hx0 : (((P ++ V1) ++ W3) ++ y :: x :: (W2 ++ Q))[P.length + V1.length + W3.length]? = some y := mid_at (by first | omega | (simp; done) | (simp; omega))
  have hx1 : (((P ++ V1) ++ W3) ++ y :: x :: (W2 ++ Q))[P.length + V1.length + W3.length + 1]? = some x := by
    rw [show ((P ++ V1) ++ W3) ++ y :: x :: (W2 ++ Q) = (((P ++ V1) ++ W3) ++ [y]) ++ x :: (W2 ++ Q) by simp]; exact mid_at (by first | omega | (simp; done) | (simp; omega))
  refine ops_nil ?_
  refine c_true rfl ?_
  refine c_skip ?_
  refine tq_n ?_
  refine c_seq ?_
  refine c_block ?_
  refine c_regZ 15 (fun wz => Own wz lo 73 3 A n c ((((P ++ V1) ++ W3) ++ y :: x :: (W2 ++ Q)).flatMap Dem.cells)) mixed ?_
  obtain ⟨w13, ew13⟩ : ∃ wy, wy = World.drew wr := ⟨_, rfl⟩
  rw [← ew13]
  have xd : Ext wr w13 := ew13 ▸ Ext.drew wr
  replace oO := oO.ext xd
  replace X := gb_ext X xd; clear xd ew13
  refine wz_take 0 rfl (by kernel_rfl) rfl (by kernel_rfl) (listed' := #[true, false, false, false, false, false, false, false, false, false, false, false, false, false, false, false, false, false]) rfl (fun wq sq => ow_move rfl ⟨rfl, rfl⟩) ?_
  refine wz_take 1 rfl (by kernel_rfl) rfl (by kernel_rfl) (listed' := #[true, true, false, false, false, false, false, false, false, false, false, false, false, false, false, false, false, false]) rfl (fun wq sq => ow_move rfl ⟨rfl, rfl⟩) ?_
  refine wz_takeT 2 rfl (by kernel_rfl) rfl (by kernel_rfl) (by decide) (listed' := #[true, true, true, false, false, false, false, false, false, false, false, false, false, false, false, false, false, false]) rfl (fun wq sq => ow_move rfl ⟨rfl, rfl⟩) ?_
  refine wz_takeT 3 rfl (by kernel_rfl) rfl (by kernel_rfl) (by decide) (listed' := #[true, true, true, true, false, false, false, false, false, false, false, false, false, false, false, false, false, false]) rfl (fun wq sq => ow_move rfl ⟨rfl, rfl⟩) ?_
  refine wz_takeT 4 rfl (by kernel_rfl) rfl (by kernel_rfl) (by decide) (listed' := #[true, true, true, true, true, false, false, false, false, false, false, false, false, false, false, false, false, false]) rfl (fun wq sq => ow_sub rfl rfl (w64 (by omega)) ⟨rfl, rfl⟩) ?_
  refine wz_take 5 rfl (by kernel_rfl) rfl (by kernel_rfl) (listed' := #[true, true, true, true, true, true, false, false, false, false, false, false, false, false, false, false, false, false]) rfl (fun wq sq => ow_move rfl ⟨rfl, rfl⟩) ?_
  refine wz_take 6 rfl (by kernel_rfl) rfl (by kernel_rfl) (listed' := #[true, true, true, true, true, true, true, false, false, false, false, false, false, false, false, false, false, false]) rfl (fun wq sq => ow_move rfl ⟨rfl, rfl⟩) ?_
  refine wz_take 7 rfl (by kernel_rfl) rfl (by kernel_rfl) (listed' := #[true, true, true, true, true, true, true, true, false, false, false, false, false, false, false, false, false, false]) rfl (fun wq sq => ow_sub rfl rfl (w64 (by omega)) ⟨rfl, rfl⟩) ?_
  refine wz_take 8 rfl (by kernel_rfl) rfl (by kernel_rfl) (listed' := #[true, true, true, true, true, true, true, true, true, false, false, false, false, false, false, false, false, false]) rfl (fun wq sq => ow_indexA (j := P.length + V1.length + W3.length) hA el30 rfl rfl (by omega) (by omega) ⟨rfl, rfl⟩) ?_
  refine wz_take 9 rfl (by kernel_rfl) rfl (by kernel_rfl) (listed' := #[true, true, true, true, true, true, true, true, true, true, false, false, false, false, false, false, false, false]) rfl (fun wq sq => ow_loadTA (sq).sl Dem.len hx0 ti73 rfl ⟨rfl, rfl⟩) ?_
  refine wz_takeT 10 rfl (by kernel_rfl) rfl (by kernel_rfl) (by decide) (listed' := #[true, true, true, true, true, true, true, true, true, true, true, false, false, false, false, false, false, false]) rfl (fun wq sq => ow_move rfl ⟨rfl, rfl⟩) ?_
  refine wz_takeT 11 rfl (by kernel_rfl) rfl (by kernel_rfl) (by decide) (listed' := #[true, true, true, true, true, true, true, true, true, true, true, true, false, false, false, false, false, false]) rfl (fun wq sq => ow_move rfl ⟨rfl, rfl⟩) ?_
  refine wz_takeT 12 rfl (by kernel_rfl) rfl (by kernel_rfl) (by decide) (listed' := #[true, true, true, true, true, true, true, true, true, true, true, true, true, false, false, false, false, false]) rfl (fun wq sq => ow_indexA (j := P.length + V1.length + W3.length + 1) hA el30 rfl rfl (by omega) (by omega) ⟨rfl, rfl⟩) ?_
  refine wz_take 13 rfl (by kernel_rfl) rfl (by kernel_rfl) (listed' := #[true, true, true, true, true, true, true, true, true, true, true, true, true, true, false, false, false, false]) rfl (fun wq sq => ow_loadTA (sq).sl Dem.len hx1 ti73 rfl ⟨rfl, rfl⟩) ?_
  refine wz_take 14 rfl (by kernel_rfl) rfl (by kernel_rfl) (listed' := #[true, true, true, true, true, true, true, true, true, true, true, true, true, true, true, false, false, false]) rfl (fun wq sq => ow_indexA (j := P.length + V1.length + W3.length + 1) hA el30 rfl rfl (by omega) (by omega) ⟨rfl, rfl⟩) ?_
  refine wz_one 15 rfl rfl (by kernel_rfl) (listed' := #[true, true, true, true, true, true, true, true, true, true, true, true, true, true, true, true, false, false]) rfl (fun _ => oO) (ow_storeR oO ti73 rfl rfl rfl rfl (by omega) (by omega) rfl ?_)
  intro w15 oN hg14 z16
  replace X : w.grownBy w15 (Value.slice A n c).ownBlock := by first | exact gb_trans X hg14 | exact gb_new X hg14 (fun g hg => (Own.lt oO hg).1)
  clear hg14 z16
  replace oN := oN.to (cs' := ((((P ++ V1) ++ W3) ++ y :: x :: (W2 ++ Q)).set (P.length + V1.length + W3.length + 1) y).flatMap Dem.cells) (set_flat Dem.len y (((P ++ V1) ++ W3) ++ y :: x :: (W2 ++ Q)) (P.length + V1.length + W3.length + 1) (by first | omega | (simp; done) | (simp; omega)))
  have hx2 : ((((P ++ V1) ++ W3) ++ y :: x :: (W2 ++ Q)).set (P.length + V1.length + W3.length + 1) y)[P.length + V1.length + W3.length]? = some y := by rw [List.getElem?_set_ne (by omega)]; exact hx0
  refine wz_takeT 16 rfl (by kernel_rfl) rfl (by kernel_rfl) (by decide) (listed' := #[true, true, true, true, true, true, true, true, true, true, true, true, true, true, true, true, true, false]) rfl (fun wq sq => ow_indexA (j := P.length + V1.length + W3.length) hA el30 rfl rfl (by omega) (by omega) ⟨rfl, rfl⟩) ?_
  refine wz_one 17 rfl rfl (by kernel_rfl) (listed' := #[true, true, true, true, true, true, true, true, true, true, true, true, true, true, true, true, true, true]) rfl (fun h => absurd h (by decide)) (ow_storeR oN ti73 rfl rfl rfl rfl (by omega) (by omega) rfl ?_)
  intro w18 oM hg17 z19
  replace X : w.grownBy w18 (Value.slice A n c).ownBlock := by first | exact gb_trans X hg17 | exact gb_new X hg17 (fun g hg => (Own.lt oN hg).1)
  clear hg17 z19
  replace oM := oM.to (cs' := (((((P ++ V1) ++ W3) ++ y :: x :: (W2 ++ Q)).set (P.length + V1.length + W3.length + 1) y).set (P.length + V1.length + W3.length) x).flatMap Dem.cells) (set_flat Dem.len x ((((P ++ V1) ++ W3) ++ y :: x :: (W2 ++ Q)).set (P.length + V1.length + W3.length + 1) y) (P.length + V1.length + W3.length) (by first | omega | (simp; done) | (simp; omega)))
  rw [swap2' (by first | omega | (simp; done) | (simp; omega))] at oM
  refine wz_done rfl (fun h => absurd h (by decide)) (fun aj fj => ⟨_, fj, ?_⟩)
  refine bq_n ?_
  refine tq_n ?_
  refine c_region ?_
  refine ops_cons rfl (ow_move rfl ?_)
  refine ops_cons rfl (ow_sub rfl rfl (w64 (by omega)) ?_)
  refine ops_cons rfl (ow_assign rfl ?_)
  refine ops_nil ?_
  refine tq_n ⟨(k - 1, W3, y :: W2), (.cons rfl (.cons rfl (.cons rfl (.cons rfl (.cons rfl (.cons rfl (.cons rfl (.nil _)))))))), ?_, ?_⟩
  · exact ⟨(by rw [← eW]; simp), (by omega), (oM.to (by simp)), X⟩
  · first | omega | (dsimp only; omega)
  have lW := congrArg List.length eW
  simp only [List.length_append] at lW
  have y1 : W1 = [] := List.eq_nil_of_length_eq_zero (by omega)
  rw [y1, List.nil_append] at eW
  rw [y1, eW, List.nil_append] at oO
  refine ops_nil ?_
  refine c_false rfl ?_
  refine c_exit ?_
  refine tq_e ?_
  refine tq_e ?_
  refine bq_e ?_
  refine tq_n ?_
  refine c_ret ?_
  refine tq_r ?_
  refine fin_ret0 rfl ?_
  · skip
    refine ⟨V1 ++ x :: V2, rfl, put_in (eV ▸ hs1) hlo (fun z hz => Int.le_of_lt (hhi z hz)), ?_, oO.to (by simp), X⟩
    rw [eS2, eV]; exact put_back hhi
  refine ops_nil ?_
  refine c_false rfl ?_
  refine c_skip ?_
  refine tq_n ?_
  refine c_seqR ?_
  refine ops_cons rfl (ow_move rfl ?_)
  refine ops_cons rfl (ow_move rfl ?_)
  refine ops_cons rfl (ow_add rfl rfl (w64 (by omega)) ?_)
  refine ops_cons rfl (ow_conv Try.underlying3 Try.underlying104 rfl (wu64 (by omega)) ?_)
  refine ops_cons rfl (ow_shr rfl rfl (by omega) (half_u (by omega)) ?_)
  refine ops_cons rfl (ow_conv Try.underlying104 Try.underlying3 rfl (w64 (by omega)) ?_)
  refine ops_cons rfl (ow_assign rfl ?_)
  refine ops_nil ?_
  refine c_seqR ?_
  refine ops_cons rfl (ow_move rfl ?_)
  refine ops_cons rfl (ow_move rfl ?_)
  refine ops_cons rfl (ow_add rfl rfl (w64 (by omega)) ?_)
  refine ops_cons rfl (ow_assign rfl ?_)
  refine ops_nil ?_
  refine c_seqR ?_
  refine ops_cons rfl (ow_assign rfl ?_)
  refine ops_cons rfl (ow_assign rfl ?_)
  refine ops_nil ?_
  refine c_seq ?_
  refine c_seqR ?_
  refine ops_cons rfl (ow_move rfl ?_)
  refine ops_cons rfl (ow_move rfl ?_)
  refine ops_cons rfl (ow_gtr2 rfl rfl (fun hmm => ?_) (fun hmm => ?_))
  refine ops_nil ?_
  refine c_true rfl ?_
  refine c_seqR ?_
  refine ops_cons rfl (ow_move rfl ?_)
  refine ops_cons rfl (ow_move rfl ?_)
  refine ops_cons rfl (ow_sub rfl rfl (w64 (by omega)) ?_)
  refine ops_cons rfl (ow_assign rfl ?_)
  refine ops_nil ?_
  refine c_region ?_
  refine ops_cons rfl (ow_move rfl ?_)
  refine ops_cons rfl (ow_assign rfl ?_)
  refine ops_nil ?_
  refine tq_n ?_
  refine c_seqR ?_
  refine ops_cons rfl (ow_move rfl ?_)
  refine ops_cons rfl (ow_sub rfl rfl (w64 (by omega)) ?_)
  refine ops_cons rfl (ow_assign rfl ?_)
  refine ops_nil ?_
  refine c_seq ?_
  refine c_block ?_
  refine c_loop (G := Int × Int) (fun ⟨st, r⟩ => [(0, .slice A n c), (1, .int .i64 a), (2, .int .i64 m), (3, .int .i64 b), (4, .func (.func 49) #[] #[]), (18, .int .i64 ((a + b) / 2)), (19, .int .i64 (((a + b) / 2) + m)), (22, .int .i64 (((a + b) / 2) + m - 1)), (20, .int .i64 st), (21, .int .i64 r)]) (fun ⟨st, r⟩ wr => (a ≤ st ∧ st ≤ r ∧ r ≤ m ∧ r ≤ ((a + b) / 2) ∧ ((a + b) / 2) + m - st ≤ b) ∧ (∀ x ∈ S1.take (st - a).toNat, ∀ y ∈ S2.drop (((a + b) / 2) - st).toNat, x.every ≤ y.every) ∧ (∀ x ∈ S2.take (((a + b) / 2) - r).toNat, ∀ y ∈ S1.drop (r - a).toNat, x.every < y.every) ∧ Own wr lo 73 3 A n c ((P ++ (S1 ++ (S2 ++ Q))).flatMap Dem.cells) ∧ w.grownBy wr (Value.slice A n c).ownBlock) (fun ⟨st, r⟩ => (r - st).toNat) (((a + b) / 2) + m - b, ((a + b) / 2)) (.cons rfl (.cons rfl (.cons rfl (.cons rfl (.cons rfl (.cons rfl (.cons rfl (.cons rfl (.cons rfl (.cons rfl (.nil _))))))))))) ?_ ?_
  · exact ⟨⟨by first | omega | (dsimp only; omega), by first | omega | (dsimp only; omega), by first | omega | (dsimp only; omega), by first | omega | (dsimp only; omega), by first | omega | (dsimp only; omega)⟩, (fun x hx y hy => by rw [List.drop_eq_nil_of_le (by omega)] at hy; simp at hy), (fun x hx y hy => by simp at hx), oO, X⟩
  clear oO
  clear X
  rintro ⟨st, r⟩ wr ⟨hst, hA, hB, oO, X⟩
  refine c_seq ?_
  refine c_seqR ?_
  refine ops_cons rfl (ow_move rfl ?_)
  refine ops_cons rfl (ow_move rfl ?_)
  refine ops_cons rfl (ow_lss2 rfl rfl (fun hsr2 => ?_) (fun hsr2 => ?_))
  obtain ⟨x, hx⟩ : ∃ x, S1[((st + r) / 2 - a).toNat]? = some x := ⟨_, List.getElem?_eq_getElem (by omega)⟩
  obtain ⟨y, hy⟩ : ∃ y, S2[(((a + b) / 2) - 1 - (st + r) / 2).toNat]? = some y := ⟨_, List.getElem?_eq_getElem (by omega)⟩
  have hbx : 1 ≤ x.every ∧ x.every ≤ 8 := hE x (List.mem_append_left _ (List.mem_of_getElem? hx))
  have hby : 1 ≤ y.every ∧ y.every ≤ 8 := hE y (List.mem_append_right _ (List.mem_of_getElem? hy))
  have hxr : (P ++ (S1 ++ (S2 ++ Q)))[((st + r) / 2).toNat]? = some x := in_at (by omega) hx
  have hyr : (P ++ (S1 ++ (S2 ++ Q)))[(((a + b) / 2) + m - 1 - (st + r) / 2).toNat]? = some y := by
    have := in_at (P := P ++ S1) (S := S2) (Q := Q) (n := (((a + b) / 2) + m - 1 - (st + r) / 2).toNat) (by first | omega | (simp; done) | (simp; omega)) hy
    simpa using this
  refine ops_nil ?_
  refine c_true rfl ?_
  refine c_skip ?_
  refine tq_n ?_
  refine c_block ?_
  refine c_seqR ?_
  refine ops_cons rfl (ow_move rfl ?_)
  refine ops_cons rfl (ow_move rfl ?_)
  refine ops_cons rfl (ow_add rfl rfl (w64 (by omega)) ?_)
  refine ops_cons rfl (ow_conv Try.underlying3 Try.underlying104 rfl (wu64 (by omega)) ?_)
  refine ops_cons rfl (ow_shr rfl rfl (by omega) (half_u (by omega)) ?_)
  refine ops_cons rfl (ow_conv Try.underlying104 Try.underlying3 rfl (w64 (by omega)) ?_)
  refine ops_cons rfl (ow_assign rfl ?_)
  refine ops_nil ?_
  refine c_seqD [false, false, false, false, false, false, false, false, false, false, false, false, false, false] mixed (by kernel_rfl) ?_
  refine f_q rfl (fun wq sq => ow_move rfl ⟨rfl, Ext.refl _⟩) ?_
  refine f_q rfl (fun wq sq => ow_move rfl ⟨rfl, Ext.refl _⟩) ?_
  refine f_q rfl (fun wq sq => ow_move rfl ⟨rfl, Ext.refl _⟩) ?_
  refine f_q rfl (fun wq sq => ow_move rfl ⟨rfl, Ext.refl _⟩) ?_
  refine f_q rfl (fun wq sq => ow_sub rfl rfl (w64 (by omega)) ⟨rfl, Ext.refl _⟩) ?_
  refine f_q rfl (fun wq sq => ow_indexT ((oO.ext sq)).sl Dem.len rfl el30 rfl (by first | omega | (simp; done) | (simp; omega)) rfl hyr (by omega) ⟨rfl, Ext.refl _⟩) ?_
  refine f_q rfl (fun wq sq => ow_loadTA ((oO.ext sq)).sl Dem.len hyr ti73 rfl ⟨rfl, Ext.refl _⟩) ?_
  refine f_q rfl (fun wq sq => ow_move rfl ⟨rfl, Ext.refl _⟩) ?_
  refine f_q rfl (fun wq sq => ow_move rfl ⟨rfl, Ext.refl _⟩) ?_
  refine f_q rfl (fun wq sq => ow_indexT ((oO.ext sq)).sl Dem.len rfl el30 rfl (by first | omega | (simp; done) | (simp; omega)) rfl hxr (by omega) ⟨rfl, Ext.refl _⟩) ?_
  refine f_q rfl (fun wq sq => ow_loadTA ((oO.ext sq)).sl Dem.len hxr ti73 rfl ⟨rfl, Ext.refl _⟩) ?_
  refine f_q rfl (fun wq sq => ow_callVL ent49 rfl rfl (cmpD_c _ _ _ hby hbx)) ?_
  refine f_qb rfl (fun wq sq => ow_lss rfl rfl ⟨rfl, Ext.refl _⟩) (fun hc => ?_) (fun hc => ?_)
  refine f_q rfl (fun wq sq => ow_not rfl ⟨rfl, Ext.refl _⟩) ?_
  refine f_nil (fun w20 sq => ?_)
  have xq := sq
  replace oO := oO.ext xq
  replace X := gb_ext X xq; clear xq sq
  refine ops_nil ?_
  refine c_false rfl ?_
  refine c_region ?_
  refine ops_cons rfl (ow_move rfl ?_)
  refine ops_cons rfl (ow_assign rfl ?_)
  refine ops_nil ?_
  refine bq_n ?_
  refine tq_n ⟨(st, (st + r) / 2), (.cons rfl (.cons rfl (.cons rfl (.cons rfl (.cons rfl (.cons rfl (.cons rfl (.cons rfl (.cons rfl (.cons rfl (.nil _))))))))))), ?_, ?_⟩
  · skip
    exact ⟨⟨by first | omega | (dsimp only; omega), by first | omega | (dsimp only; omega), by first | omega | (dsimp only; omega), by first | omega | (dsimp only; omega), by first | omega | (dsimp only; omega)⟩, hA, (fun z hz u hu => by
      have a1 := hs2.take hy z (by rw [show (((a + b) / 2) - 1 - (st + r) / 2).toNat + 1 = (((a + b) / 2) - (st + r) / 2).toNat by omega]; exact hz)
      have a2 := hs1.drop hx u hu
      omega), oO, X⟩
  · first | omega | (dsimp only; omega)
  refine f_q rfl (fun wq sq => ow_not rfl ⟨rfl, Ext.refl _⟩) ?_
  refine f_nil (fun w21 sq => ?_)
  have xq := sq
  replace oO := oO.ext xq
  replace X := gb_ext X xq; clear xq sq
  refine ops_nil ?_
  refine c_true rfl ?_
  refine c_region ?_
  refine ops_cons rfl (ow_move rfl ?_)
  refine ops_cons rfl (ow_add rfl rfl (w64 (by omega)) ?_)
  refine ops_cons rfl (ow_assign rfl ?_)
  refine ops_nil ?_
  refine bq_n ?_
  refine tq_n ⟨((st + r) / 2 + 1, r), (.cons rfl (.cons rfl (.cons rfl (.cons rfl (.cons rfl (.cons rfl (.cons rfl (.cons rfl (.cons rfl (.cons rfl (.nil _))))))))))), ?_, ?_⟩
  · skip
    exact ⟨⟨by first | omega | (dsimp only; omega), by first | omega | (dsimp only; omega), by first | omega | (dsimp only; omega), by first | omega | (dsimp only; omega), by first | omega | (dsimp only; omega)⟩, (fun z hz u hu => by
      have a1 := hs1.take hx z (by rw [show ((st + r) / 2 - a).toNat + 1 = ((st + r) / 2 + 1 - a).toNat by omega]; exact hz)
      have a2 := hs2.drop hy u (by rw [show (((a + b) / 2) - 1 - (st + r) / 2).toNat = (((a + b) / 2) - ((st + r) / 2 + 1)).toNat by omega]; exact hu)
      omega), hB, oO, X⟩
  · first | omega | (dsimp only; omega)
  have hes : r = st := by omega
  rw [hes] at hB
  obtain ⟨U1, hU1⟩ : ∃ z, z = S1.take (st - a).toNat := ⟨_, rfl⟩
  obtain ⟨U2, hU2⟩ : ∃ z, z = S1.drop (st - a).toNat := ⟨_, rfl⟩
  obtain ⟨V1, hV1⟩ : ∃ z, z = S2.take (((a + b) / 2) - st).toNat := ⟨_, rfl⟩
  obtain ⟨V2, hV2⟩ : ∃ z, z = S2.drop (((a + b) / 2) - st).toNat := ⟨_, rfl⟩
  have eU : S1 = U1 ++ U2 := by rw [hU1, hU2]; exact (List.take_append_drop _ _).symm
  have eV : S2 = V1 ++ V2 := by rw [hV1, hV2]; exact (List.take_append_drop _ _).symm
  have lU1 : (U1.length : Int) = st - a := by rw [hU1]; simp; omega
  have lV1 : (V1.length : Int) = ((a + b) / 2) - st := by rw [hV1]; simp; omega
  rw [← hU1, ← hV2] at hA
  rw [← hV1, ← hU2] at hB
  clear hU1 hU2 hV1 hV2
  have lU := congrArg List.length eU
  have lV := congrArg List.length eV
  simp only [List.length_append] at lU lV
  have gU : Srt (U1 ++ U2) := eU ▸ hs1
  have gV : Srt (V1 ++ V2) := eV ▸ hs2
  have bE : EvD ((U1 ++ U2) ++ (V1 ++ V2)) := by rw [← eU, ← eV]; exact hE
  replace oO := oO.to (cs' := (P ++ (U1 ++ (U2 ++ (V1 ++ (V2 ++ Q))))).flatMap Dem.cells) (by rw [eU, eV]; simp)
  refine ops_nil ?_
  refine c_false rfl ?_
  refine c_exit ?_
  refine tq_e ?_
  refine tq_e ?_
  refine bq_e ?_
  refine tq_n ?_
  refine c_seqR ?_
  refine ops_cons rfl (ow_move rfl ?_)
  refine ops_cons rfl (ow_move rfl ?_)
  refine ops_cons rfl (ow_sub rfl rfl (w64 (by omega)) ?_)
  refine ops_cons rfl (ow_assign rfl ?_)
  refine ops_nil ?_
  refine c_seq ?_
  refine c_seqR ?_
  refine ops_cons rfl (ow_move rfl ?_)
  refine ops_cons rfl (ow_move rfl ?_)
  refine ops_cons rfl (ow_lss2 rfl rfl (fun hr1 => ?_) (fun hr1 => ?_))
  refine ops_cons rfl (ow_move rfl ?_)
  refine ops_want rfl rfl rfl (ow_move rfl ?_)
  refine ops_want rfl rfl rfl (ow_move rfl ?_)
  refine ops_want rfl rfl rfl (ow_lss2 rfl rfl (fun hr2 => ?_) (fun hr2 => ?_))
  refine ops_cons rfl (ow_pick rfl rfl ?_)
  refine ops_nil ?_
  refine c_true rfl ?_
  refine c_region ?_
  refine ops_cons rfl (ow_move rfl ?_)
  refine ops_cons rfl (ow_move rfl ?_)
  refine ops_cons rfl (ow_move rfl ?_)
  refine ops_cons rfl (ow_move rfl ?_)
  refine ops_cons rfl (ow_move rfl ?_)
  refine ops_cons rfl (ow_call ent112 rfl (ret_mono (rotate_c A n c lo (P ++ U1) U2 V1 (V2 ++ Q) st m (((a + b) / 2) + m - st) _ (oO.to (by simp)) hn (by first | omega | (simp; done) | (simp; omega)) (by first | omega | (simp; done) | (simp; omega)) (by first | omega | (simp; done) | (simp; omega)) (by omega) (by omega)) ?_))
  have oO_ := oO
  rintro _ w23 ⟨rfl, oO, x22⟩
  replace X := gb_trans X x22; clear x22 oO_
  replace oO := oO.to (cs' := (P ++ (U1 ++ (V1 ++ (U2 ++ (V2 ++ Q))))).flatMap Dem.cells) (by simp)
  refine ops_nil ?_
  refine tq_n ?_
  refine c_seq ?_
  refine c_seqR ?_
  refine ops_cons rfl (ow_move rfl ?_)
  refine ops_cons rfl (ow_move rfl ?_)
  refine ops_cons rfl (ow_lss2 rfl rfl (fun hq1 => ?_) (fun hq1 => ?_))
  refine ops_cons rfl (ow_move rfl ?_)
  refine ops_want rfl rfl rfl (ow_move rfl ?_)
  refine ops_want rfl rfl rfl (ow_move rfl ?_)
  refine ops_want rfl rfl rfl (ow_lss2 rfl rfl (fun hq2 => ?_) (fun hq2 => ?_))
  refine ops_cons rfl (ow_pick rfl rfl ?_)
  refine ops_nil ?_
  refine c_true rfl ?_
  refine c_region ?_
  refine ops_cons rfl (ow_move rfl ?_)
  refine ops_cons rfl (ow_move rfl ?_)
  refine ops_cons rfl (ow_move rfl ?_)
  refine ops_cons rfl (ow_move rfl ?_)
  refine ops_cons rfl (ow_move rfl ?_)
  refine ops_cons rfl (ow_call ent102 rfl (ret_mono (ih A n c lo P U1 V1 (U2 ++ (V2 ++ Q)) a st ((a + b) / 2) _ oO hn (by omega) (by omega) (by omega) (EvD.sub bE (by intro z hz; simp at hz ⊢; rcases hz with hz | hz <;> simp [hz])) gU.left gV.left (by omega) (by omega) (by omega)) ?_))
  have oO_ := oO
  rintro _ w25 ⟨T1, rfl, gT1, eT1, oO, x24⟩
  replace X := gb_trans X x24; clear x24 oO_
  refine ops_nil ?_
  refine tq_n ?_
  refine c_seqR ?_
  refine ops_cons rfl (ow_move rfl ?_)
  refine ops_cons rfl (ow_move rfl ?_)
  have lT1 := eT1.l
  simp only [List.length_append] at lT1
  refine ops_cons rfl (ow_lss2 rfl rfl (fun hq3 => ?_) (fun hq3 => ?_))
  refine ops_cons rfl (ow_move rfl ?_)
  refine ops_want rfl rfl rfl (ow_move rfl ?_)
  refine ops_want rfl rfl rfl (ow_move rfl ?_)
  refine ops_want rfl rfl rfl (ow_lss2 rfl rfl (fun hq4 => ?_) (fun hq4 => ?_))
  refine ops_cons rfl (ow_pick rfl rfl ?_)
  refine ops_nil ?_
  refine c_true rfl ?_
  refine c_region ?_
  refine ops_cons rfl (ow_move rfl ?_)
  refine ops_cons rfl (ow_move rfl ?_)
  refine ops_cons rfl (ow_move rfl ?_)
  refine ops_cons rfl (ow_move rfl ?_)
  refine ops_cons rfl (ow_move rfl ?_)
  refine ops_cons rfl (ow_call ent102 rfl (ret_mono (ih A n c lo (P ++ T1) U2 V2 Q ((a + b) / 2) (((a + b) / 2) + m - st) b _ (oO.to (by simp)) hn (by first | omega | (simp; done) | (simp; omega)) (by first | omega | (simp; done) | (simp; omega)) (by first | omega | (simp; done) | (simp; omega)) (EvD.sub bE (by intro z hz; simp at hz ⊢; rcases hz with hz | hz <;> simp [hz])) gU.right gV.right (by omega) (by omega) (by omega)) ?_))
  have oO_ := oO
  rintro _ w27 ⟨T2, rfl, gT2, eT2, oO, x26⟩
  replace X := gb_trans X x26; clear x26 oO_
  refine ops_nil ?_
  refine fin_end0 rfl ?_
  · skip
    have hd := cut_done eT1 eT2 gT1 gT2 gU gV hA hB
    rw [← eU, ← eV] at hd
    exact ⟨T1 ++ T2, rfl, hd.1, hd.2, oO.to (by simp), X⟩
  have y1 : V2 = [] := List.eq_nil_of_length_eq_zero (by omega)
  obtain ⟨T2, gT2, eT2, oO⟩ : ∃ z, Srt z ∧ Sam z (U2 ++ V2) ∧ Own _ lo 73 3 A n c ((P ++ (T1 ++ (z ++ Q))).flatMap Dem.cells) := ⟨U2, gU.right, by rw [y1]; rw [List.append_nil]; exact Sam.refl _, oO.to (by rw [y1]; simp)⟩
  clear y1
  refine ops_cons rfl (ow_pick rfl rfl ?_)
  refine ops_nil ?_
  refine c_false rfl ?_
  refine c_skip ?_
  refine fin_end0 rfl ?_
  · skip
    have hd := cut_done eT1 eT2 gT1 gT2 gU gV hA hB
    rw [← eU, ← eV] at hd
    exact ⟨T1 ++ T2, rfl, hd.1, hd.2, oO.to (by simp), X⟩
  have y1 : U2 = [] := List.eq_nil_of_length_eq_zero (by omega)
  obtain ⟨T2, gT2, eT2, oO⟩ : ∃ z, Srt z ∧ Sam z (U2 ++ V2) ∧ Own _ lo 73 3 A n c ((P ++ (T1 ++ (z ++ Q))).flatMap Dem.cells) := ⟨V2, gV.right, by rw [y1]; exact Sam.refl _, oO.to (by rw [y1]; simp)⟩
  clear y1
  refine ops_cons rfl (ow_move rfl ?_)
  refine ops_skip rfl rfl rfl rfl ?_
  refine ops_skip rfl rfl rfl rfl ?_
  refine ops_skip rfl rfl rfl rfl ?_
  refine ops_cons rfl (ow_pick rfl rfl ?_)
  refine ops_nil ?_
  refine c_false rfl ?_
  refine c_skip ?_
  refine fin_end0 rfl ?_
  · skip
    have hd := cut_done eT1 eT2 gT1 gT2 gU gV hA hB
    rw [← eU, ← eV] at hd
    exact ⟨T1 ++ T2, rfl, hd.1, hd.2, oO.to (by simp), X⟩
  have y1 : V1 = [] := List.eq_nil_of_length_eq_zero (by omega)
  obtain ⟨T1, gT1, eT1, oO⟩ : ∃ z, Srt z ∧ Sam z (U1 ++ V1) ∧ Own _ lo 73 3 A n c ((P ++ (z ++ (U2 ++ (V2 ++ Q)))).flatMap Dem.cells) := ⟨U1, gU.left, by rw [y1]; rw [List.append_nil]; exact Sam.refl _, oO.to (by rw [y1]; simp)⟩
  clear y1
  refine ops_cons rfl (ow_pick rfl rfl ?_)
  refine ops_nil ?_
  refine c_false rfl ?_
  refine c_skip ?_
  refine tq_n ?_
  refine c_seqR ?_
  refine ops_cons rfl (ow_move rfl ?_)
  refine ops_cons rfl (ow_move rfl ?_)
  have lT1 := eT1.l
  simp only [List.length_append] at lT1
  refine ops_cons rfl (ow_lss2 rfl rfl (fun hq3 => ?_) (fun hq3 => ?_))
  refine ops_cons rfl (ow_move rfl ?_)
  refine ops_want rfl rfl rfl (ow_move rfl ?_)
  refine ops_want rfl rfl rfl (ow_move rfl ?_)
  refine ops_want rfl rfl rfl (ow_lss2 rfl rfl (fun hq4 => ?_) (fun hq4 => ?_))
  refine ops_cons rfl (ow_pick rfl rfl ?_)
  refine ops_nil ?_
  refine c_true rfl ?_
  refine c_region ?_
  refine ops_cons rfl (ow_move rfl ?_)
  refine ops_cons rfl (ow_move rfl ?_)
  refine ops_cons rfl (ow_move rfl ?_)
  refine ops_cons rfl (ow_move rfl ?_)
  refine ops_cons rfl (ow_move rfl ?_)
  refine ops_cons rfl (ow_call ent102 rfl (ret_mono (ih A n c lo (P ++ T1) U2 V2 Q ((a + b) / 2) (((a + b) / 2) + m - st) b _ (oO.to (by simp)) hn (by first | omega | (simp; done) | (simp; omega)) (by first | omega | (simp; done) | (simp; omega)) (by first | omega | (simp; done) | (simp; omega)) (EvD.sub bE (by intro z hz; simp at hz ⊢; rcases hz with hz | hz <;> simp [hz])) gU.right gV.right (by omega) (by omega) (by omega)) ?_))
  have oO_ := oO
  rintro _ w29 ⟨T2, rfl, gT2, eT2, oO, x28⟩
  replace X := gb_trans X x28; clear x28 oO_
  refine ops_nil ?_
  refine fin_end0 rfl ?_
  · skip
    have hd := cut_done eT1 eT2 gT1 gT2 gU gV hA hB
    rw [← eU, ← eV] at hd
    exact ⟨T1 ++ T2, rfl, hd.1, hd.2, oO.to (by simp), X⟩
  have y1 : V2 = [] := List.eq_nil_of_length_eq_zero (by omega)
  obtain ⟨T2, gT2, eT2, oO⟩ : ∃ z, Srt z ∧ Sam z (U2 ++ V2) ∧ Own _ lo 73 3 A n c ((P ++ (T1 ++ (z ++ Q))).flatMap Dem.cells) := ⟨U2, gU.right, by rw [y1]; rw [List.append_nil]; exact Sam.refl _, oO.to (by rw [y1]; simp)⟩
  clear y1
  refine ops_cons rfl (ow_pick rfl rfl ?_)
  refine ops_nil ?_
  refine c_false rfl ?_
  refine c_skip ?_
  refine fin_end0 rfl ?_
  · skip
    have hd := cut_done eT1 eT2 gT1 gT2 gU gV hA hB
    rw [← eU, ← eV] at hd
    exact ⟨T1 ++ T2, rfl, hd.1, hd.2, oO.to (by simp), X⟩
  have y1 : U2 = [] := List.eq_nil_of_length_eq_zero (by omega)
  obtain ⟨T2, gT2, eT2, oO⟩ : ∃ z, Srt z ∧ Sam z (U2 ++ V2) ∧ Own _ lo 73 3 A n c ((P ++ (T1 ++ (z ++ Q))).flatMap Dem.cells) := ⟨V2, gV.right, by rw [y1]; exact Sam.refl _, oO.to (by rw [y1]; simp)⟩
  clear y1
  refine ops_cons rfl (ow_move rfl ?_)
  refine ops_skip rfl rfl rfl rfl ?_
  refine ops_skip rfl rfl rfl rfl ?_
  refine ops_skip rfl rfl rfl rfl ?_
  refine ops_cons rfl (ow_pick rfl rfl ?_)
  refine ops_nil ?_
  refine c_false rfl ?_
  refine c_skip ?_
  refine fin_end0 rfl ?_
  · skip
    have hd := cut_done eT1 eT2 gT1 gT2 gU gV hA hB
    rw [← eU, ← eV] at hd
    exact ⟨T1 ++ T2, rfl, hd.1, hd.2, oO.to (by simp), X⟩
  have y1 : U1 = [] := List.eq_nil_of_length_eq_zero (by omega)
  obtain ⟨T1, gT1, eT1, oO⟩ : ∃ z, Srt z ∧ Sam z (U1 ++ V1) ∧ Own _ lo 73 3 A n c ((P ++ (z ++ (U2 ++ (V2 ++ Q)))).flatMap Dem.cells) := ⟨V1, gV.left, by rw [y1]; exact Sam.refl _, oO.to (by rw [y1]; simp)⟩
  clear y1
  refine ops_cons rfl (ow_move rfl ?_)
  refine ops_skip rfl rfl rfl rfl ?_
  refine ops_skip rfl rfl rfl rfl ?_
  refine ops_skip rfl rfl rfl rfl ?_
  refine ops_cons rfl (ow_pick rfl rfl ?_)
  refine ops_nil ?_
  refine c_false rfl ?_
  refine c_skip ?_
  refine tq_n ?_
  refine c_seqR ?_
  refine ops_cons rfl (ow_move rfl ?_)
  refine ops_cons rfl (ow_move rfl ?_)
  have lT1 := eT1.l
  simp only [List.length_append] at lT1
  refine ops_cons rfl (ow_lss2 rfl rfl (fun hq3 => ?_) (fun hq3 => ?_))
  refine ops_cons rfl (ow_move rfl ?_)
  refine ops_want rfl rfl rfl (ow_move rfl ?_)
  refine ops_want rfl rfl rfl (ow_move rfl ?_)
  refine ops_want rfl rfl rfl (ow_lss2 rfl rfl (fun hq4 => ?_) (fun hq4 => ?_))
  refine ops_cons rfl (ow_pick rfl rfl ?_)
  refine ops_nil ?_
  refine c_true rfl ?_
  refine c_region ?_
  refine ops_cons rfl (ow_move rfl ?_)
  refine ops_cons rfl (ow_move rfl ?_)
  refine ops_cons rfl (ow_move rfl ?_)
  refine ops_cons rfl (ow_move rfl ?_)
  refine ops_cons rfl (ow_move rfl ?_)
  refine ops_cons rfl (ow_call ent102 rfl (ret_mono (ih A n c lo (P ++ T1) U2 V2 Q ((a + b) / 2) (((a + b) / 2) + m - st) b _ (oO.to (by simp)) hn (by first | omega | (simp; done) | (simp; omega)) (by first | omega | (simp; done) | (simp; omega)) (by first | omega | (simp; done) | (simp; omega)) (EvD.sub bE (by intro z hz; simp at hz ⊢; rcases hz with hz | hz <;> simp [hz])) gU.right gV.right (by omega) (by omega) (by omega)) ?_))
  have oO_ := oO
  rintro _ w31 ⟨T2, rfl, gT2, eT2, oO, x30⟩
  replace X := gb_trans X x30; clear x30 oO_
  refine ops_nil ?_
  refine fin_end0 rfl ?_
  · skip
    have hd := cut_done eT1 eT2 gT1 gT2 gU gV hA hB
    rw [← eU, ← eV] at hd
    exact ⟨T1 ++ T2, rfl, hd.1, hd.2, oO.to (by simp), X⟩
  have y1 : V2 = [] := List.eq_nil_of_length_eq_zero (by omega)
  obtain ⟨T2, gT2, eT2, oO⟩ : ∃ z, Srt z ∧ Sam z (U2 ++ V2) ∧ Own _ lo 73 3 A n c ((P ++ (T1 ++ (z ++ Q))).flatMap Dem.cells) := ⟨U2, gU.right, by rw [y1]; rw [List.append_nil]; exact Sam.refl _, oO.to (by rw [y1]; simp)⟩
  clear y1
  refine ops_cons rfl (ow_pick rfl rfl ?_)
  refine ops_nil ?_
  refine c_false rfl ?_
  refine c_skip ?_
  refine fin_end0 rfl ?_
  · skip
    have hd := cut_done eT1 eT2 gT1 gT2 gU gV hA hB
    rw [← eU, ← eV] at hd
    exact ⟨T1 ++ T2, rfl, hd.1, hd.2, oO.to (by simp), X⟩
  have y1 : U2 = [] := List.eq_nil_of_length_eq_zero (by omega)
  obtain ⟨T2, gT2, eT2, oO⟩ : ∃ z, Srt z ∧ Sam z (U2 ++ V2) ∧ Own _ lo 73 3 A n c ((P ++ (T1 ++ (z ++ Q))).flatMap Dem.cells) := ⟨V2, gV.right, by rw [y1]; exact Sam.refl _, oO.to (by rw [y1]; simp)⟩
  clear y1
  refine ops_cons rfl (ow_move rfl ?_)
  refine ops_skip rfl rfl rfl rfl ?_
  refine ops_skip rfl rfl rfl rfl ?_
  refine ops_skip rfl rfl rfl rfl ?_
  refine ops_cons rfl (ow_pick rfl rfl ?_)
  refine ops_nil ?_
  refine c_false rfl ?_
  refine c_skip ?_
  refine fin_end0 rfl ?_
  · skip
    have hd := cut_done eT1 eT2 gT1 gT2 gU gV hA hB
    rw [← eU, ← eV] at hd
    exact ⟨T1 ++ T2, rfl, hd.1, hd.2, oO.to (by simp), X⟩
  have y1 : V1 = [] := List.eq_nil_of_length_eq_zero (by omega)
  replace oO := oO.to (cs' := (P ++ (U1 ++ (V1 ++ (U2 ++ (V2 ++ Q))))).flatMap Dem.cells) (by rw [y1]; simp)
  clear y1
  refine ops_cons rfl (ow_pick rfl rfl ?_)
  refine ops_nil ?_
  refine c_false rfl ?_
  refine c_skip ?_
  refine tq_n ?_
  refine c_seq ?_
  refine c_seqR ?_
  refine ops_cons rfl (ow_move rfl ?_)
  refine ops_cons rfl (ow_move rfl ?_)
  refine ops_cons rfl (ow_lss2 rfl rfl (fun hq1 => ?_) (fun hq1 => ?_))
  refine ops_cons rfl (ow_move rfl ?_)
  refine ops_want rfl rfl rfl (ow_move rfl ?_)
  refine ops_want rfl rfl rfl (ow_move rfl ?_)
  refine ops_want rfl rfl rfl (ow_lss2 rfl rfl (fun hq2 => ?_) (fun hq2 => ?_))
  refine ops_cons rfl (ow_pick rfl rfl ?_)
  refine ops_nil ?_
  refine c_true rfl ?_
  refine c_region ?_
  refine ops_cons rfl (ow_move rfl ?_)
  refine ops_cons rfl (ow_move rfl ?_)
  refine ops_cons rfl (ow_move rfl ?_)
  refine ops_cons rfl (ow_move rfl ?_)
  refine ops_cons rfl (ow_move rfl ?_)
  refine ops_cons rfl (ow_call ent102 rfl (ret_mono (ih A n c lo P U1 V1 (U2 ++ (V2 ++ Q)) a st ((a + b) / 2) _ oO hn (by omega) (by omega) (by omega) (EvD.sub bE (by intro z hz; simp at hz ⊢; rcases hz with hz | hz <;> simp [hz])) gU.left gV.left (by omega) (by omega) (by omega)) ?_))
  have oO_ := oO
  rintro _ w33 ⟨T1, rfl, gT1, eT1, oO, x32⟩
  replace X := gb_trans X x32; clear x32 oO_
  refine ops_nil ?_
  refine tq_n ?_
  refine c_seqR ?_
  refine ops_cons rfl (ow_move rfl ?_)
  refine ops_cons rfl (ow_move rfl ?_)
  have lT1 := eT1.l
  simp only [List.length_append] at lT1
  refine ops_cons rfl (ow_lss2 rfl rfl (fun hq3 => ?_) (fun hq3 => ?_))
  refine ops_cons rfl (ow_move rfl ?_)
  refine ops_want rfl rfl rfl (ow_move rfl ?_)
  refine ops_want rfl rfl rfl (ow_move rfl ?_)
  refine ops_want rfl rfl rfl (ow_lss2 rfl rfl (fun hq4 => ?_) (fun hq4 => ?_))
  refine ops_cons rfl (ow_pick rfl rfl ?_)
  refine ops_nil ?_
  refine c_true rfl ?_
  refine c_region ?_
  refine ops_cons rfl (ow_move rfl ?_)
  refine ops_cons rfl (ow_move rfl ?_)
  refine ops_cons rfl (ow_move rfl ?_)
  refine ops_cons rfl (ow_move rfl ?_)
  refine ops_cons rfl (ow_move rfl ?_)
  refine ops_cons rfl (ow_call ent102 rfl (ret_mono (ih A n c lo (P ++ T1) U2 V2 Q ((a + b) / 2) (((a + b) / 2) + m - st) b _ (oO.to (by simp)) hn (by first | omega | (simp; done) | (simp; omega)) (by first | omega | (simp; done) | (simp; omega)) (by first | omega | (simp; done) | (simp; omega)) (EvD.sub bE (by intro z hz; simp at hz ⊢; rcases hz with hz | hz <;> simp [hz])) gU.right gV.right (by omega) (by omega) (by omega)) ?_))
  have oO_ := oO
  rintro _ w35 ⟨T2, rfl, gT2, eT2, oO, x34⟩
  replace X := gb_trans X x34; clear x34 oO_
  refine ops_nil ?_
  refine fin_end0 rfl ?_
  · skip
    have hd := cut_done eT1 eT2 gT1 gT2 gU gV hA hB
    rw [← eU, ← eV] at hd
    exact ⟨T1 ++ T2, rfl, hd.1, hd.2, oO.to (by simp), X⟩
  have y1 : V2 = [] := List.eq_nil_of_length_eq_zero (by omega)
  obtain ⟨T2, gT2, eT2, oO⟩ : ∃ z, Srt z ∧ Sam z (U2 ++ V2) ∧ Own _ lo 73 3 A n c ((P ++ (T1 ++ (z ++ Q))).flatMap Dem.cells) := ⟨U2, gU.right, by rw [y1]; rw [List.append_nil]; exact Sam.refl _, oO.to (by rw [y1]; simp)⟩
  clear y1
  refine ops_cons rfl (ow_pick rfl rfl ?_)
  refine ops_nil ?_
  refine c_false rfl ?_
  refine c_skip ?_
  refine fin_end0 rfl ?_
  · skip
    have hd := cut_done eT1 eT2 gT1 gT2 gU gV hA hB
    rw [← eU, ← eV] at hd
    exact ⟨T1 ++ T2, rfl, hd.1, hd.2, oO.to (by simp), X⟩
  have y1 : U2 = [] := List.eq_nil_of_length_eq_zero (by omega)
  obtain ⟨T2, gT2, eT2, oO⟩ : ∃ z, Srt z ∧ Sam z (U2 ++ V2) ∧ Own _ lo 73 3 A n c ((P ++ (T1 ++ (z ++ Q))).flatMap Dem.cells) := ⟨V2, gV.right, by rw [y1]; exact Sam.refl _, oO.to (by rw [y1]; simp)⟩
  clear y1
  refine ops_cons rfl (ow_move rfl ?_)
  refine ops_skip rfl rfl rfl rfl ?_
  refine ops_skip rfl rfl rfl rfl ?_
  refine ops_skip rfl rfl rfl rfl ?_
  refine ops_cons rfl (ow_pick rfl rfl ?_)
  refine ops_nil ?_
  refine c_false rfl ?_
  refine c_skip ?_
  refine fin_end0 rfl ?_
  · skip
    have hd := cut_done eT1 eT2 gT1 gT2 gU gV hA hB
    rw [← eU, ← eV] at hd
    exact ⟨T1 ++ T2, rfl, hd.1, hd.2, oO.to (by simp), X⟩
  have y1 : V1 = [] := List.eq_nil_of_length_eq_zero (by omega)
  obtain ⟨T1, gT1, eT1, oO⟩ : ∃ z, Srt z ∧ Sam z (U1 ++ V1) ∧ Own _ lo 73 3 A n c ((P ++ (z ++ (U2 ++ (V2 ++ Q)))).flatMap Dem.cells) := ⟨U1, gU.left, by rw [y1]; rw [List.append_nil]; exact Sam.refl _, oO.to (by rw [y1]; simp)⟩
  clear y1
  refine ops_cons rfl (ow_pick rfl rfl ?_)
  refine ops_nil ?_
  refine c_false rfl ?_
  refine c_skip ?_
  refine tq_n ?_
  refine c_seqR ?_
  refine ops_cons rfl (ow_move rfl ?_)
  refine ops_cons rfl (ow_move rfl ?_)
  have lT1 := eT1.l
  simp only [List.length_append] at lT1
  refine ops_cons rfl (ow_lss2 rfl rfl (fun hq3 => ?_) (fun hq3 => ?_))
  refine ops_cons rfl (ow_move rfl ?_)
  refine ops_want rfl rfl rfl (ow_move rfl ?_)
  refine ops_want rfl rfl rfl (ow_move rfl ?_)
  refine ops_want rfl rfl rfl (ow_lss2 rfl rfl (fun hq4 => ?_) (fun hq4 => ?_))
  refine ops_cons rfl (ow_pick rfl rfl ?_)
  refine ops_nil ?_
  refine c_true rfl ?_
  refine c_region ?_
  refine ops_cons rfl (ow_move rfl ?_)
  refine ops_cons rfl (ow_move rfl ?_)
  refine ops_cons rfl (ow_move rfl ?_)
  refine ops_cons rfl (ow_move rfl ?_)
  refine ops_cons rfl (ow_move rfl ?_)
  refine ops_cons rfl (ow_call ent102 rfl (ret_mono (ih A n c lo (P ++ T1) U2 V2 Q ((a + b) / 2) (((a + b) / 2) + m - st) b _ (oO.to (by simp)) hn (by first | omega | (simp; done) | (simp; omega)) (by first | omega | (simp; done) | (simp; omega)) (by first | omega | (simp; done) | (simp; omega)) (EvD.sub bE (by intro z hz; simp at hz ⊢; rcases hz with hz | hz <;> simp [hz])) gU.right gV.right (by omega) (by omega) (by omega)) ?_))
  have oO_ := oO
  rintro _ w37 ⟨T2, rfl, gT2, eT2, oO, x36⟩
  replace X := gb_trans X x36; clear x36 oO_
  refine ops_nil ?_
  refine fin_end0 rfl ?_
  · skip
    have hd := cut_done eT1 eT2 gT1 gT2 gU gV hA hB
    rw [← eU, ← eV] at hd
    exact ⟨T1 ++ T2, rfl, hd.1, hd.2, oO.to (by simp), X⟩
  have y1 : V2 = [] := List.eq_nil_of_length_eq_zero (by omega)
  obtain ⟨T2, gT2, eT2, oO⟩ : ∃ z, Srt z ∧ Sam z (U2 ++ V2) ∧ Own _ lo 73 3 A n c ((P ++ (T1 ++ (z ++ Q))).flatMap Dem.cells) := ⟨U2, gU.right, by rw [y1]; rw [List.append_nil]; exact Sam.refl _, oO.to (by rw [y1]; simp)⟩
  clear y1
  refine ops_cons rfl (ow_pick rfl rfl ?_)
  refine ops_nil ?_
  refine c_false rfl ?_
  refine c_skip ?_
  refine fin_end0 rfl ?_
  · skip
    have hd := cut_done eT1 eT2 gT1 gT2 gU gV hA hB
    rw [← eU, ← eV] at hd
    exact ⟨T1 ++ T2, rfl, hd.1, hd.2, oO.to (by simp), X⟩
  have y1 : U2 = [] := List.eq_nil_of_length_eq_zero (by omega)
  obtain ⟨T2, gT2, eT2, oO⟩ : ∃ z, Srt z ∧ Sam z (U2 ++ V2) ∧ Own _ lo 73 3 A n c ((P ++ (T1 ++ (z ++ Q))).flatMap Dem.cells) := ⟨V2, gV.right, by rw [y1]; exact Sam.refl _, oO.to (by rw [y1]; simp)⟩
  clear y1
  refine ops_cons rfl (ow_move rfl ?_)
  refine ops_skip rfl rfl rfl rfl ?_
  refine ops_skip rfl rfl rfl rfl ?_
  refine ops_skip rfl rfl rfl rfl ?_
  refine ops_cons rfl (ow_pick rfl rfl ?_)
  refine ops_nil ?_
  refine c_false rfl ?_
  refine c_skip ?_
  refine fin_end0 rfl ?_
  · skip
    have hd := cut_done eT1 eT2 gT1 gT2 gU gV hA hB
    rw [← eU, ← eV] at hd
    exact ⟨T1 ++ T2, rfl, hd.1, hd.2, oO.to (by simp), X⟩
  have y1 : U1 = [] := List.eq_nil_of_length_eq_zero (by omega)
  obtain ⟨T1, gT1, eT1, oO⟩ : ∃ z, Srt z ∧ Sam z (U1 ++ V1) ∧ Own _ lo 73 3 A n c ((P ++ (z ++ (U2 ++ (V2 ++ Q)))).flatMap Dem.cells) := ⟨V1, gV.left, by rw [y1]; exact Sam.refl _, oO.to (by rw [y1]; simp)⟩
  clear y1
  refine ops_cons rfl (ow_move rfl ?_)
  refine ops_skip rfl rfl rfl rfl ?_
  refine ops_skip rfl rfl rfl rfl ?_
  refine ops_skip rfl rfl rfl rfl ?_
  refine ops_cons rfl (ow_pick rfl rfl ?_)
  refine ops_nil ?_
  refine c_false rfl ?_
  refine c_skip ?_
  refine tq_n ?_
  refine c_seqR ?_
  refine ops_cons rfl (ow_move rfl ?_)
  refine ops_cons rfl (ow_move rfl ?_)
  have lT1 := eT1.l
  simp only [List.length_append] at lT1
  refine ops_cons rfl (ow_lss2 rfl rfl (fun hq3 => ?_) (fun hq3 => ?_))
  refine ops_cons rfl (ow_move rfl ?_)
  refine ops_want rfl rfl rfl (ow_move rfl ?_)
  refine ops_want rfl rfl rfl (ow_move rfl ?_)
  refine ops_want rfl rfl rfl (ow_lss2 rfl rfl (fun hq4 => ?_) (fun hq4 => ?_))
  refine ops_cons rfl (ow_pick rfl rfl ?_)
  refine ops_nil ?_
  refine c_true rfl ?_
  refine c_region ?_
  refine ops_cons rfl (ow_move rfl ?_)
  refine ops_cons rfl (ow_move rfl ?_)
  refine ops_cons rfl (ow_move rfl ?_)
  refine ops_cons rfl (ow_move rfl ?_)
  refine ops_cons rfl (ow_move rfl ?_)
  refine ops_cons rfl (ow_call ent102 rfl (ret_mono (ih A n c lo (P ++ T1) U2 V2 Q ((a + b) / 2) (((a + b) / 2) + m - st) b _ (oO.to (by simp)) hn (by first | omega | (simp; done) | (simp; omega)) (by first | omega | (simp; done) | (simp; omega)) (by first | omega | (simp; done) | (simp; omega)) (EvD.sub bE (by intro z hz; simp at hz ⊢; rcases hz with hz | hz <;> simp [hz])) gU.right gV.right (by omega) (by omega) (by omega)) ?_))
  have oO_ := oO
  rintro _ w39 ⟨T2, rfl, gT2, eT2, oO, x38⟩
  replace X := gb_trans X x38; clear x38 oO_
  refine ops_nil ?_
  refine fin_end0 rfl ?_
  · skip
    have hd := cut_done eT1 eT2 gT1 gT2 gU gV hA hB
    rw [← eU, ← eV] at hd
    exact ⟨T1 ++ T2, rfl, hd.1, hd.2, oO.to (by simp), X⟩
  have y1 : V2 = [] := List.eq_nil_of_length_eq_zero (by omega)
  obtain ⟨T2, gT2, eT2, oO⟩ : ∃ z, Srt z ∧ Sam z (U2 ++ V2) ∧ Own _ lo 73 3 A n c ((P ++ (T1 ++ (z ++ Q))).flatMap Dem.cells) := ⟨U2, gU.right, by rw [y1]; rw [List.append_nil]; exact Sam.refl _, oO.to (by rw [y1]; simp)⟩
  clear y1
  refine ops_cons rfl (ow_pick rfl rfl ?_)
  refine ops_nil ?_
  refine c_false rfl ?_
  refine c_skip ?_
  refine fin_end0 rfl ?_
  · skip
    have hd := cut_done eT1 eT2 gT1 gT2 gU gV hA hB
    rw [← eU, ← eV] at hd
    exact ⟨T1 ++ T2, rfl, hd.1, hd.2, oO.to (by simp), X⟩
  have y1 : U2 = [] := List.eq_nil_of_length_eq_zero (by omega)
  obtain ⟨T2, gT2, eT2, oO⟩ : ∃ z, Srt z ∧ Sam z (U2 ++ V2) ∧ Own _ lo 73 3 A n c ((P ++ (T1 ++ (z ++ Q))).flatMap Dem.cells) := ⟨V2, gV.right, by rw [y1]; exact Sam.refl _, oO.to (by rw [y1]; simp)⟩
  clear y1
  refine ops_cons rfl (ow_move rfl ?_)
  refine ops_skip rfl rfl rfl rfl ?_
  refine ops_skip rfl rfl rfl rfl ?_
  refine ops_skip rfl rfl rfl rfl ?_
  refine ops_cons rfl (ow_pick rfl rfl ?_)
  refine ops_nil ?_
  refine c_false rfl ?_
  refine c_skip ?_
  refine fin_end0 rfl ?_
  · skip
    have hd := cut_done eT1 eT2 gT1 gT2 gU gV hA hB
    rw [← eU, ← eV] at hd
    exact ⟨T1 ++ T2, rfl, hd.1, hd.2, oO.to (by simp), X⟩
  have y1 : U2 = [] := List.eq_nil_of_length_eq_zero (by omega)
  replace oO := oO.to (cs' := (P ++ (U1 ++ (V1 ++ (U2 ++ (V2 ++ Q))))).flatMap Dem.cells) (by rw [y1]; simp)
  clear y1
  refine ops_cons rfl (ow_move rfl ?_)
  refine ops_skip rfl rfl rfl rfl ?_
  refine ops_skip rfl rfl rfl rfl ?_
  refine ops_skip rfl rfl rfl rfl ?_
  refine ops_cons rfl (ow_pick rfl rfl ?_)
  refine ops_nil ?_
  refine c_false rfl ?_
  refine c_skip ?_
  refine tq_n ?_
  refine c_seq ?_
  refine c_seqR ?_
  refine ops_cons rfl (ow_move rfl ?_)
  refine ops_cons rfl (ow_move rfl ?_)
  refine ops_cons rfl (ow_lss2 rfl rfl (fun hq1 => ?_) (fun hq1 => ?_))
  refine ops_cons rfl (ow_move rfl ?_)
  refine ops_want rfl rfl rfl (ow_move rfl ?_)
  refine ops_want rfl rfl rfl (ow_move rfl ?_)
  refine ops_want rfl rfl rfl (ow_lss2 rfl rfl (fun hq2 => ?_) (fun hq2 => ?_))
  refine ops_cons rfl (ow_pick rfl rfl ?_)
  refine ops_nil ?_
  refine c_true rfl ?_
  refine c_region ?_
  refine ops_cons rfl (ow_move rfl ?_)
  refine ops_cons rfl (ow_move rfl ?_)
  refine ops_cons rfl (ow_move rfl ?_)
  refine ops_cons rfl (ow_move rfl ?_)
  refine ops_cons rfl (ow_move rfl ?_)
  refine ops_cons rfl (ow_call ent102 rfl (ret_mono (ih A n c lo P U1 V1 (U2 ++ (V2 ++ Q)) a st ((a + b) / 2) _ oO hn (by omega) (by omega) (by omega) (EvD.sub bE (by intro z hz; simp at hz ⊢; rcases hz with hz | hz <;> simp [hz])) gU.left gV.left (by omega) (by omega) (by omega)) ?_))
  have oO_ := oO
  rintro _ w41 ⟨T1, rfl, gT1, eT1, oO, x40⟩
  replace X := gb_trans X x40; clear x40 oO_
  refine ops_nil ?_
  refine tq_n ?_
  refine c_seqR ?_
  refine ops_cons rfl (ow_move rfl ?_)
  refine ops_cons rfl (ow_move rfl ?_)
  have lT1 := eT1.l
  simp only [List.length_append] at lT1
  refine ops_cons rfl (ow_lss2 rfl rfl (fun hq3 => ?_) (fun hq3 => ?_))
  refine ops_cons rfl (ow_move rfl ?_)
  refine ops_want rfl rfl rfl (ow_move rfl ?_)
  refine ops_want rfl rfl rfl (ow_move rfl ?_)
  refine ops_want rfl rfl rfl (ow_lss2 rfl rfl (fun hq4 => ?_) (fun hq4 => ?_))
  refine ops_cons rfl (ow_pick rfl rfl ?_)
  refine ops_nil ?_
  refine c_true rfl ?_
  refine c_region ?_
  refine ops_cons rfl (ow_move rfl ?_)
  refine ops_cons rfl (ow_move rfl ?_)
  refine ops_cons rfl (ow_move rfl ?_)
  refine ops_cons rfl (ow_move rfl ?_)
  refine ops_cons rfl (ow_move rfl ?_)
  refine ops_cons rfl (ow_call ent102 rfl (ret_mono (ih A n c lo (P ++ T1) U2 V2 Q ((a + b) / 2) (((a + b) / 2) + m - st) b _ (oO.to (by simp)) hn (by first | omega | (simp; done) | (simp; omega)) (by first | omega | (simp; done) | (simp; omega)) (by first | omega | (simp; done) | (simp; omega)) (EvD.sub bE (by intro z hz; simp at hz ⊢; rcases hz with hz | hz <;> simp [hz])) gU.right gV.right (by omega) (by omega) (by omega)) ?_))
  have oO_ := oO
  rintro _ w43 ⟨T2, rfl, gT2, eT2, oO, x42⟩
  replace X := gb_trans X x42; clear x42 oO_
  refine ops_nil ?_
  refine fin_end0 rfl ?_
  · skip
    have hd := cut_done eT1 eT2 gT1 gT2 gU gV hA hB
    rw [← eU, ← eV] at hd
    exact ⟨T1 ++ T2, rfl, hd.1, hd.2, oO.to (by simp), X⟩
  have y1 : V2 = [] := List.eq_nil_of_length_eq_zero (by omega)
  obtain ⟨T2, gT2, eT2, oO⟩ : ∃ z, Srt z ∧ Sam z (U2 ++ V2) ∧ Own _ lo 73 3 A n c ((P ++ (T1 ++ (z ++ Q))).flatMap Dem.cells) := ⟨U2, gU.right, by rw [y1]; rw [List.append_nil]; exact Sam.refl _, oO.to (by rw [y1]; simp)⟩
  clear y1
  refine ops_cons rfl (ow_pick rfl rfl ?_)
  refine ops_nil ?_
  refine c_false rfl ?_
  refine c_skip ?_
  refine fin_end0 rfl ?_
  · skip
    have hd := cut_done eT1 eT2 gT1 gT2 gU gV hA hB
    rw [← eU, ← eV] at hd
    exact ⟨T1 ++ T2, rfl, hd.1, hd.2, oO.to (by simp), X⟩
  have y1 : U2 = [] := List.eq_nil_of_length_eq_zero (by omega)
  obtain ⟨T2, gT2, eT2, oO⟩ : ∃ z, Srt z ∧ Sam z (U2 ++ V2) ∧ Own _ lo 73 3 A n c ((P ++ (T1 ++ (z ++ Q))).flatMap Dem.cells) := ⟨V2, gV.right, by rw [y1]; exact Sam.refl _, oO.to (by rw [y1]; simp)⟩
  clear y1
  refine ops_cons rfl (ow_move rfl ?_)
  refine ops_skip rfl rfl rfl rfl ?_
  refine ops_skip rfl rfl rfl rfl ?_
  refine ops_skip rfl rfl rfl rfl ?_
  refine ops_cons rfl (ow_pick rfl rfl ?_)
  refine ops_nil ?_
  refine c_false rfl ?_
  refine c_skip ?_
  refine fin_end0 rfl ?_
  · skip
    have hd := cut_done eT1 eT2 gT1 gT2 gU gV hA hB
    rw [← eU, ← eV] at hd
    exact ⟨T1 ++ T2, rfl, hd.1, hd.2, oO.to (by simp), X⟩
  have y1 : V1 = [] := List.eq_nil_of_length_eq_zero (by omega)
  obtain ⟨T1, gT1, eT1, oO⟩ : ∃ z, Srt z ∧ Sam z (U1 ++ V1) ∧ Own _ lo 73 3 A n c ((P ++ (z ++ (U2 ++ (V2 ++ Q)))).flatMap Dem.cells) := ⟨U1, gU.left, by rw [y1]; rw [List.append_nil]; exact Sam.refl _, oO.to (by rw [y1]; simp)⟩
  clear y1
  refine ops_cons rfl (ow_pick rfl rfl ?_)
  refine ops_nil ?_
  refine c_false rfl ?_
  refine c_skip ?_
  refine tq_n ?_
  refine c_seqR ?_
  refine ops_cons rfl (ow_move rfl ?_)
  refine ops_cons rfl (ow_move rfl ?_)
  have lT1 := eT1.l
  simp only [List.length_append] at lT1
  refine ops_cons rfl (ow_lss2 rfl rfl (fun hq3 => ?_) (fun hq3 => ?_))
  refine ops_cons rfl (ow_move rfl ?_)
  refine ops_want rfl rfl rfl (ow_move rfl ?_)
  refine ops_want rfl rfl rfl (ow_move rfl ?_)
  refine ops_want rfl rfl rfl (ow_lss2 rfl rfl (fun hq4 => ?_) (fun hq4 => ?_))
  refine ops_cons rfl (ow_pick rfl rfl ?_)
  refine ops_nil ?_
  refine c_true rfl ?_
  refine c_region ?_
  refine ops_cons rfl (ow_move rfl ?_)
  refine ops_cons rfl (ow_move rfl ?_)
  refine ops_cons rfl (ow_move rfl ?_)
  refine ops_cons rfl (ow_move rfl ?_)
  refine ops_cons rfl (ow_move rfl ?_)
  refine ops_cons rfl (ow_call ent102 rfl (ret_mono (ih A n c lo (P ++ T1) U2 V2 Q ((a + b) / 2) (((a + b) / 2) + m - st) b _ (oO.to (by simp)) hn (by first | omega | (simp; done) | (simp; omega)) (by first | omega | (simp; done) | (simp; omega)) (by first | omega | (simp; done) | (simp; omega)) (EvD.sub bE (by intro z hz; simp at hz ⊢; rcases hz with hz | hz <;> simp [hz])) gU.right gV.right (by omega) (by omega) (by omega)) ?_))
  have oO_ := oO
  rintro _ w45 ⟨T2, rfl, gT2, eT2, oO, x44⟩
  replace X := gb_trans X x44; clear x44 oO_
  refine ops_nil ?_
  refine fin_end0 rfl ?_
  · skip
    have hd := cut_done eT1 eT2 gT1 gT2 gU gV hA hB
    rw [← eU, ← eV] at hd
    exact ⟨T1 ++ T2, rfl, hd.1, hd.2, oO.to (by simp), X⟩
  have y1 : V2 = [] := List.eq_nil_of_length_eq_zero (by omega)
  obtain ⟨T2, gT2, eT2, oO⟩ : ∃ z, Srt z ∧ Sam z (U2 ++ V2) ∧ Own _ lo 73 3 A n c ((P ++ (T1 ++ (z ++ Q))).flatMap Dem.cells) := ⟨U2, gU.right, by rw [y1]; rw [List.append_nil]; exact Sam.refl _, oO.to (by rw [y1]; simp)⟩
  clear y1
  refine ops_cons rfl (ow_pick rfl rfl ?_)
  refine ops_nil ?_
  refine c_false rfl ?_
  refine c_skip ?_
  refine fin_end0 rfl ?_
  · skip
    have hd := cut_done eT1 eT2 gT1 gT2 gU gV hA hB
    rw [← eU, ← eV] at hd
    exact ⟨T1 ++ T2, rfl, hd.1, hd.2, oO.to (by simp), X⟩
  have y1 : U2 = [] := List.eq_nil_of_length_eq_zero (by omega)
  obtain ⟨T2, gT2, eT2, oO⟩ : ∃ z, Srt z ∧ Sam z (U2 ++ V2) ∧ Own _ lo 73 3 A n c ((P ++ (T1 ++ (z ++ Q))).flatMap Dem.cells) := ⟨V2, gV.right, by rw [y1]; exact Sam.refl _, oO.to (by rw [y1]; simp)⟩
  clear y1
  refine ops_cons rfl (ow_move rfl ?_)
  refine ops_skip rfl rfl rfl rfl ?_
  refine ops_skip rfl rfl rfl rfl ?_
  refine ops_skip rfl rfl rfl rfl ?_
  refine ops_cons rfl (ow_pick rfl rfl ?_)
  refine ops_nil ?_
  refine c_false rfl ?_
  refine c_skip ?_
  refine fin_end0 rfl ?_
  · skip
    have hd := cut_done eT1 eT2 gT1 gT2 gU gV hA hB
    rw [← eU, ← eV] at hd
    exact ⟨T1 ++ T2, rfl, hd.1, hd.2, oO.to (by simp), X⟩
  have y1 : U1 = [] := List.eq_nil_of_length_eq_zero (by omega)
  obtain ⟨T1, gT1, eT1, oO⟩ : ∃ z, Srt z ∧ Sam z (U1 ++ V1) ∧ Own _ lo 73 3 A n c ((P ++ (z ++ (U2 ++ (V2 ++ Q)))).flatMap Dem.cells) := ⟨V1, gV.left, by rw [y1]; exact Sam.refl _, oO.to (by rw [y1]; simp)⟩
  clear y1
  refine ops_cons rfl (ow_move rfl ?_)
  refine ops_skip rfl rfl rfl rfl ?_
  refine ops_skip rfl rfl rfl rfl ?_
  refine ops_skip rfl rfl rfl rfl ?_
  refine ops_cons rfl (ow_pick rfl rfl ?_)
  refine ops_nil ?_
  refine c_false rfl ?_
  refine c_skip ?_
  refine tq_n ?_
  refine c_seqR ?_
  refine ops_cons rfl (ow_move rfl ?_)
  refine ops_cons rfl (ow_move rfl ?_)
  have lT1 := eT1.l
  simp only [List.length_append] at lT1
  refine ops_cons rfl (ow_lss2 rfl rfl (fun hq3 => ?_) (fun hq3 => ?_))
  refine ops_cons rfl (ow_move rfl ?_)
  refine ops_want rfl rfl rfl (ow_move rfl ?_)
  refine ops_want rfl rfl rfl (ow_move rfl ?_)
  refine ops_want rfl rfl rfl (ow_lss2 rfl rfl (fun hq4 => ?_) (fun hq4 => ?_))
  refine ops_cons rfl (ow_pick rfl rfl ?_)
  refine ops_nil ?_
  refine c_true rfl ?_
  refine c_region ?_
  refine ops_cons rfl (ow_move rfl ?_)
  refine ops_cons rfl (ow_move rfl ?_)
  refine ops_cons rfl (ow_move rfl ?_)
  refine ops_cons rfl (ow_move rfl ?_)
  refine ops_cons rfl (ow_move rfl ?_)
  refine ops_cons rfl (ow_call ent102 rfl (ret_mono (ih A n c lo (P ++ T1) U2 V2 Q ((a + b) / 2) (((a + b) / 2) + m - st) b _ (oO.to (by simp)) hn (by first | omega | (simp; done) | (simp; omega)) (by first | omega | (simp; done) | (simp; omega)) (by first | omega | (simp; done) | (simp; omega)) (EvD.sub bE (by intro z hz; simp at hz ⊢; rcases hz with hz | hz <;> simp [hz])) gU.right gV.right (by omega) (by omega) (by omega)) ?_))
  have oO_ := oO
  rintro _ w47 ⟨T2, rfl, gT2, eT2, oO, x46⟩
  replace X := gb_trans X x46; clear x46 oO_
  refine ops_nil ?_
  refine fin_end0 rfl ?_
  · skip
    have hd := cut_done eT1 eT2 gT1 gT2 gU gV hA hB
    rw [← eU, ← eV] at hd
    exact ⟨T1 ++ T2, rfl, hd.1, hd.2, oO.to (by simp), X⟩
  have y1 : V2 = [] := List.eq_nil_of_length_eq_zero (by omega)
  obtain ⟨T2, gT2, eT2, oO⟩ : ∃ z, Srt z ∧ Sam z (U2 ++ V2) ∧ Own _ lo 73 3 A n c ((P ++ (T1 ++ (z ++ Q))).flatMap Dem.cells) := ⟨U2, gU.right, by rw [y1]; rw [List.append_nil]; exact Sam.refl _, oO.to (by rw [y1]; simp)⟩
  clear y1
  refine ops_cons rfl (ow_pick rfl rfl ?_)
  refine ops_nil ?_
  refine c_false rfl ?_
  refine c_skip ?_
  refine fin_end0 rfl ?_
  · skip
    have hd := cut_done eT1 eT2 gT1 gT2 gU gV hA hB
    rw [← eU, ← eV] at hd
    exact ⟨T1 ++ T2, rfl, hd.1, hd.2, oO.to (by simp), X⟩
  have y1 : U2 = [] := List.eq_nil_of_length_eq_zero (by omega)
  obtain ⟨T2, gT2, eT2, oO⟩ : ∃ z, Srt z ∧ Sam z (U2 ++ V2) ∧ Own _ lo 73 3 A n c ((P ++ (T1 ++ (z ++ Q))).flatMap Dem.cells) := ⟨V2, gV.right, by rw [y1]; exact Sam.refl _, oO.to (by rw [y1]; simp)⟩
  clear y1
  refine ops_cons rfl (ow_move rfl ?_)
  refine ops_skip rfl rfl rfl rfl ?_
  refine ops_skip rfl rfl rfl rfl ?_
  refine ops_skip rfl rfl rfl rfl ?_
  refine ops_cons rfl (ow_pick rfl rfl ?_)
  refine ops_nil ?_
  refine c_false rfl ?_
  refine c_skip ?_
  refine fin_end0 rfl ?_
  · skip
    have hd := cut_done eT1 eT2 gT1 gT2 gU gV hA hB
    rw [← eU, ← eV] at hd
    exact ⟨T1 ++ T2, rfl, hd.1, hd.2, oO.to (by simp), X⟩
  refine ops_nil ?_
  refine c_false rfl ?_
  refine c_seqR ?_
  refine ops_cons rfl (ow_move rfl ?_)
  refine ops_cons rfl (ow_assign rfl ?_)
  refine ops_nil ?_
  refine c_region ?_
  refine ops_cons rfl (ow_move rfl ?_)
  refine ops_cons rfl (ow_assign rfl ?_)
  refine ops_nil ?_
  refine tq_n ?_
  refine c_seqR ?_
  refine ops_cons rfl (ow_move rfl ?_)
  refine ops_cons rfl (ow_sub rfl rfl (w64 (by omega)) ?_)
  refine ops_cons rfl (ow_assign rfl ?_)
  refine ops_nil ?_
  refine c_seq ?_
  refine c_block ?_
  refine c_loop (G := Int × Int) (fun ⟨st, r⟩ => [(0, .slice A n c), (1, .int .i64 a), (2, .int .i64 m), (3, .int .i64 b), (4, .func (.func 49) #[] #[]), (18, .int .i64 ((a + b) / 2)), (19, .int .i64 (((a + b) / 2) + m)), (22, .int .i64 (((a + b) / 2) + m - 1)), (20, .int .i64 st), (21, .int .i64 r)]) (fun ⟨st, r⟩ wr => (a ≤ st ∧ st ≤ r ∧ r ≤ m ∧ r ≤ ((a + b) / 2) ∧ ((a + b) / 2) + m - st ≤ b) ∧ (∀ x ∈ S1.take (st - a).toNat, ∀ y ∈ S2.drop (((a + b) / 2) - st).toNat, x.every ≤ y.every) ∧ (∀ x ∈ S2.take (((a + b) / 2) - r).toNat, ∀ y ∈ S1.drop (r - a).toNat, x.every < y.every) ∧ Own wr lo 73 3 A n c ((P ++ (S1 ++ (S2 ++ Q))).flatMap Dem.cells) ∧ w.grownBy wr (Value.slice A n c).ownBlock) (fun ⟨st, r⟩ => (r - st).toNat) (a, m) (.cons rfl (.cons rfl (.cons rfl (.cons rfl (.cons rfl (.cons rfl (.cons rfl (.cons rfl (.cons rfl (.cons rfl (.nil _))))))))))) ?_ ?_
  · exact ⟨⟨by first | omega | (dsimp only; omega), by first | omega | (dsimp only; omega), by first | omega | (dsimp only; omega), by first | omega | (dsimp only; omega), by first | omega | (dsimp only; omega)⟩, (fun x hx y hy => by simp at hx), (fun x hx y hy => by rw [List.drop_eq_nil_of_le (by omega)] at hy; simp at hy), oO, X⟩
  clear oO
  clear X
  rintro ⟨st, r⟩ wr ⟨hst, hA, hB, oO, X⟩
  refine c_seq ?_
  refine c_seqR ?_
  refine ops_cons rfl (ow_move rfl ?_)
  refine ops_cons rfl (ow_move rfl ?_)
  refine ops_cons rfl (ow_lss2 rfl rfl (fun hsr2 => ?_) (fun hsr2 => ?_))
  obtain ⟨x, hx⟩ : ∃ x, S1[((st + r) / 2 - a).toNat]? = some x := ⟨_, List.getElem?_eq_getElem (by omega)⟩
  obtain ⟨y, hy⟩ : ∃ y, S2[(((a + b) / 2) - 1 - (st + r) / 2).toNat]? = some y := ⟨_, List.getElem?_eq_getElem (by omega)⟩
  have hbx : 1 ≤ x.every ∧ x.every ≤ 8 := hE x (List.mem_append_left _ (List.mem_of_getElem? hx))
  have hby : 1 ≤ y.every ∧ y.every ≤ 8 := hE y (List.mem_append_right _ (List.mem_of_getElem? hy))
  have hxr : (P ++ (S1 ++ (S2 ++ Q)))[((st + r) / 2).toNat]? = some x := in_at (by omega) hx
  have hyr : (P ++ (S1 ++ (S2 ++ Q)))[(((a + b) / 2) + m - 1 - (st + r) / 2).toNat]? = some y := by
    have := in_at (P := P ++ S1) (S := S2) (Q := Q) (n := (((a + b) / 2) + m - 1 - (st + r) / 2).toNat) (by first | omega | (simp; done) | (simp; omega)) hy
    simpa using this
  refine ops_nil ?_
  refine c_true rfl ?_
  refine c_skip ?_
  refine tq_n ?_
  refine c_block ?_
  refine c_seqR ?_
  refine ops_cons rfl (ow_move rfl ?_)
  refine ops_cons rfl (ow_move rfl ?_)
  refine ops_cons rfl (ow_add rfl rfl (w64 (by omega)) ?_)
  refine ops_cons rfl (ow_conv Try.underlying3 Try.underlying104 rfl (wu64 (by omega)) ?_)
  refine ops_cons rfl (ow_shr rfl rfl (by omega) (half_u (by omega)) ?_)
  refine ops_cons rfl (ow_conv Try.underlying104 Try.underlying3 rfl (w64 (by omega)) ?_)
  refine ops_cons rfl (ow_assign rfl ?_)
  refine ops_nil ?_
  refine c_seqD [false, false, false, false, false, false, false, false, false, false, false, false, false, false] mixed (by kernel_rfl) ?_
  refine f_q rfl (fun wq sq => ow_move rfl ⟨rfl, Ext.refl _⟩) ?_
  refine f_q rfl (fun wq sq => ow_move rfl ⟨rfl, Ext.refl _⟩) ?_
  refine f_q rfl (fun wq sq => ow_move rfl ⟨rfl, Ext.refl _⟩) ?_
  refine f_q rfl (fun wq sq => ow_move rfl ⟨rfl, Ext.refl _⟩) ?_
  refine f_q rfl (fun wq sq => ow_sub rfl rfl (w64 (by omega)) ⟨rfl, Ext.refl _⟩) ?_
  refine f_q rfl (fun wq sq => ow_indexT ((oO.ext sq)).sl Dem.len rfl el30 rfl (by first | omega | (simp; done) | (simp; omega)) rfl hyr (by omega) ⟨rfl, Ext.refl _⟩) ?_
  refine f_q rfl (fun wq sq => ow_loadTA ((oO.ext sq)).sl Dem.len hyr ti73 rfl ⟨rfl, Ext.refl _⟩) ?_
  refine f_q rfl (fun wq sq => ow_move rfl ⟨rfl, Ext.refl _⟩) ?_
  refine f_q rfl (fun wq sq => ow_move rfl ⟨rfl, Ext.refl _⟩) ?_
  refine f_q rfl (fun wq sq => ow_indexT ((oO.ext sq)).sl Dem.len rfl el30 rfl (by first | omega | (simp; done) | (simp; omega)) rfl hxr (by omega) ⟨rfl, Ext.refl _⟩) ?_
  refine f_q rfl (fun wq sq => ow_loadTA ((oO.ext sq)).sl Dem.len hxr ti73 rfl ⟨rfl, Ext.refl _⟩) ?_
  refine f_q rfl (fun wq sq => ow_callVL ent49 rfl rfl (cmpD_c _ _ _ hby hbx)) ?_
  refine f_qb rfl (fun wq sq => ow_lss rfl rfl ⟨rfl, Ext.refl _⟩) (fun hc => ?_) (fun hc => ?_)
  refine f_q rfl (fun wq sq => ow_not rfl ⟨rfl, Ext.refl _⟩) ?_
  refine f_nil (fun w48 sq => ?_)
  have xq := sq
  replace oO := oO.ext xq
  replace X := gb_ext X xq; clear xq sq
  refine ops_nil ?_
  refine c_false rfl ?_
  refine c_region ?_
  refine ops_cons rfl (ow_move rfl ?_)
  refine ops_cons rfl (ow_assign rfl ?_)
  refine ops_nil ?_
  refine bq_n ?_
  refine tq_n ⟨(st, (st + r) / 2), (.cons rfl (.cons rfl (.cons rfl (.cons rfl (.cons rfl (.cons rfl (.cons rfl (.cons rfl (.cons rfl (.cons rfl (.nil _))))))))))), ?_, ?_⟩
  · skip
    exact ⟨⟨by first | omega | (dsimp only; omega), by first | omega | (dsimp only; omega), by first | omega | (dsimp only; omega), by first | omega | (dsimp only; omega), by first | omega | (dsimp only; omega)⟩, hA, (fun z hz u hu => by
      have a1 := hs2.take hy z (by rw [show (((a + b) / 2) - 1 - (st + r) / 2).toNat + 1 = (((a + b) / 2) - (st + r) / 2).toNat by omega]; exact hz)
      have a2 := hs1.drop hx u hu
      omega), oO, X⟩
  · first | omega | (dsimp only; omega)
  refine f_q rfl (fun wq sq => ow_not rfl ⟨rfl, Ext.refl _⟩) ?_
  refine f_nil (fun w49 sq => ?_)
  have xq := sq
  replace oO := oO.ext xq
  replace X := gb_ext X xq; clear xq sq
  refine ops_nil ?_
  refine c_true rfl ?_
  refine c_region ?_
  refine ops_cons rfl (ow_move rfl ?_)
  refine ops_cons rfl (ow_add rfl rfl (w64 (by omega)) ?_)
  refine ops_cons rfl (ow_assign rfl ?_)
  refine ops_nil ?_
  refine bq_n ?_
  refine tq_n ⟨((st + r) / 2 + 1, r), (.cons rfl (.cons rfl (.cons rfl (.cons rfl (.cons rfl (.cons rfl (.cons rfl (.cons rfl (.cons rfl (.cons rfl (.nil _))))))))))), ?_, ?_⟩
  · skip
    exact ⟨⟨by first | omega | (dsimp only; omega), by first | omega | (dsimp only; omega), by first | omega | (dsimp only; omega), by first | omega | (dsimp only; omega), by first | omega | (dsimp only; omega)⟩, (fun z hz u hu => by
      have a1 := hs1.take hx z (by rw [show ((st + r) / 2 - a).toNat + 1 = ((st + r) / 2 + 1 - a).toNat by omega]; exact hz)
      have a2 := hs2.drop hy u (by rw [show (((a + b) / 2) - 1 - (st + r) / 2).toNat = (((a + b) / 2) - ((st + r) / 2 + 1)).toNat by omega]; exact hu)
      omega), hB, oO, X⟩
  · first | omega | (dsimp only; omega)
  have hes : r = st := by omega
  rw [hes] at hB
  obtain ⟨U1, hU1⟩ : ∃ z, z = S1.take (st - a).toNat := ⟨_, rfl⟩
  obtain ⟨U2, hU2⟩ : ∃ z, z = S1.drop (st - a).toNat := ⟨_, rfl⟩
  obtain ⟨V1, hV1⟩ : ∃ z, z = S2.take (((a + b) / 2) - st).toNat := ⟨_, rfl⟩
  obtain ⟨V2, hV2⟩ : ∃ z, z = S2.drop (((a + b) / 2) - st).toNat := ⟨_, rfl⟩
  have eU : S1 = U1 ++ U2 := by rw [hU1, hU2]; exact (List.take_append_drop _ _).symm
  have eV : S2 = V1 ++ V2 := by rw [hV1, hV2]; exact (List.take_append_drop _ _).symm
  have lU1 : (U1.length : Int) = st - a := by rw [hU1]; simp; omega
  have lV1 : (V1.length : Int) = ((a + b) / 2) - st := by rw [hV1]; simp; omega
  rw [← hU1, ← hV2] at hA
  rw [← hV1, ← hU2] at hB
  clear hU1 hU2 hV1 hV2
  have lU := congrArg List.length eU
  have lV := congrArg List.length eV
  simp only [List.length_append] at lU lV
  have gU : Srt (U1 ++ U2) := eU ▸ hs1
  have gV : Srt (V1 ++ V2) := eV ▸ hs2
  have bE : EvD ((U1 ++ U2) ++ (V1 ++ V2)) := by rw [← eU, ← eV]; exact hE
  replace oO := oO.to (cs' := (P ++ (U1 ++ (U2 ++ (V1 ++ (V2 ++ Q))))).flatMap Dem.cells) (by rw [eU, eV]; simp)
  refine ops_nil ?_
  refine c_false rfl ?_
  refine c_exit ?_
  refine tq_e ?_
  refine tq_e ?_
  refine bq_e ?_
  refine tq_n ?_
  refine c_seqR ?_
  refine ops_cons rfl (ow_move rfl ?_)
  refine ops_cons rfl (ow_move rfl ?_)
  refine ops_cons rfl (ow_sub rfl rfl (w64 (by omega)) ?_)
  refine ops_cons rfl (ow_assign rfl ?_)
  refine ops_nil ?_
  refine c_seq ?_
  refine c_seqR ?_
  refine ops_cons rfl (ow_move rfl ?_)
  refine ops_cons rfl (ow_move rfl ?_)
  refine ops_cons rfl (ow_lss2 rfl rfl (fun hr1 => ?_) (fun hr1 => ?_))
  refine ops_cons rfl (ow_move rfl ?_)
  refine ops_want rfl rfl rfl (ow_move rfl ?_)
  refine ops_want rfl rfl rfl (ow_move rfl ?_)
  refine ops_want rfl rfl rfl (ow_lss2 rfl rfl (fun hr2 => ?_) (fun hr2 => ?_))
  refine ops_cons rfl (ow_pick rfl rfl ?_)
  refine ops_nil ?_
  refine c_true rfl ?_
  refine c_region ?_
  refine ops_cons rfl (ow_move rfl ?_)
  refine ops_cons rfl (ow_move rfl ?_)
  refine ops_cons rfl (ow_move rfl ?_)
  refine ops_cons rfl (ow_move rfl ?_)
  refine ops_cons rfl (ow_move rfl ?_)
  refine ops_cons rfl (ow_call ent112 rfl (ret_mono (rotate_c A n c lo (P ++ U1) U2 V1 (V2 ++ Q) st m (((a + b) / 2) + m - st) _ (oO.to (by simp)) hn (by first | omega | (simp; done) | (simp; omega)) (by first | omega | (simp; done) | (simp; omega)) (by first | omega | (simp; done) | (simp; omega)) (by omega) (by omega)) ?_))
  have oO_ := oO
  rintro _ w51 ⟨rfl, oO, x50⟩
  replace X := gb_trans X x50; clear x50 oO_
  replace oO := oO.to (cs' := (P ++ (U1 ++ (V1 ++ (U2 ++ (V2 ++ Q))))).flatMap Dem.cells) (by simp)
  refine ops_nil ?_
  refine tq_n ?_
  refine c_seq ?_
  refine c_seqR ?_
  refine ops_cons rfl (ow_move rfl ?_)
  refine ops_cons rfl (ow_move rfl ?_)
  refine ops_cons rfl (ow_lss2 rfl rfl (fun hq1 => ?_) (fun hq1 => ?_))
  refine ops_cons rfl (ow_move rfl ?_)
  refine ops_want rfl rfl rfl (ow_move rfl ?_)
  refine ops_want rfl rfl rfl (ow_move rfl ?_)
  refine ops_want rfl rfl rfl (ow_lss2 rfl rfl (fun hq2 => ?_) (fun hq2 => ?_))
  refine ops_cons rfl (ow_pick rfl rfl ?_)
  refine ops_nil ?_
  refine c_true rfl ?_
  refine c_region ?_
  refine ops_cons rfl (ow_move rfl ?_)
  refine ops_cons rfl (ow_move rfl ?_)
  refine ops_cons rfl (ow_move rfl ?_)
  refine ops_cons rfl (ow_move rfl ?_)
  refine ops_cons rfl (ow_move rfl ?_)
  refine ops_cons rfl (ow_call ent102 rfl (ret_mono (ih A n c lo P U1 V1 (U2 ++ (V2 ++ Q)) a st ((a + b) / 2) _ oO hn (by omega) (by omega) (by omega) (EvD.sub bE (by intro z hz; simp at hz ⊢; rcases hz with hz | hz <;> simp [hz])) gU.left gV.left (by omega) (by omega) (by omega)) ?_))
  have oO_ := oO
  rintro _ w53 ⟨T1, rfl, gT1, eT1, oO, x52⟩
  replace X := gb_trans X x52; clear x52 oO_
  refine ops_nil ?_
  refine tq_n ?_
  refine c_seqR ?_
  refine ops_cons rfl (ow_move rfl ?_)
  refine ops_cons rfl (ow_move rfl ?_)
  have lT1 := eT1.l
  simp only [List.length_append] at lT1
  refine ops_cons rfl (ow_lss2 rfl rfl (fun hq3 => ?_) (fun hq3 => ?_))
  refine ops_cons rfl (ow_move rfl ?_)
  refine ops_want rfl rfl rfl (ow_move rfl ?_)
  refine ops_want rfl rfl rfl (ow_move rfl ?_)
  refine ops_want rfl rfl rfl (ow_lss2 rfl rfl (fun hq4 => ?_) (fun hq4 => ?_))
  refine ops_cons rfl (ow_pick rfl rfl ?_)
  refine ops_nil ?_
  refine c_true rfl ?_
  refine c_region ?_
  refine ops_cons rfl (ow_move rfl ?_)
  refine ops_cons rfl (ow_move rfl ?_)
  refine ops_cons rfl (ow_move rfl ?_)
  refine ops_cons rfl (ow_move rfl ?_)
  refine ops_cons rfl (ow_move rfl ?_)
  refine ops_cons rfl (ow_call ent102 rfl (ret_mono (ih A n c lo (P ++ T1) U2 V2 Q ((a + b) / 2) (((a + b) / 2) + m - st) b _ (oO.to (by simp)) hn (by first | omega | (simp; done) | (simp; omega)) (by first | omega | (simp; done) | (simp; omega)) (by first | omega | (simp; done) | (simp; omega)) (EvD.sub bE (by intro z hz; simp at hz ⊢; rcases hz with hz | hz <;> simp [hz])) gU.right gV.right (by omega) (by omega) (by omega)) ?_))
  have oO_ := oO
  rintro _ w55 ⟨T2, rfl, gT2, eT2, oO, x54⟩
  replace X := gb_trans X x54; clear x54 oO_
  refine ops_nil ?_
  refine fin_end0 rfl ?_
  · skip
    have hd := cut_done eT1 eT2 gT1 gT2 gU gV hA hB
    rw [← eU, ← eV] at hd
    exact ⟨T1 ++ T2, rfl, hd.1, hd.2, oO.to (by simp), X⟩
  have y1 : V2 = [] := List.eq_nil_of_length_eq_zero (by omega)
  obtain ⟨T2, gT2, eT2, oO⟩ : ∃ z, Srt z ∧ Sam z (U2 ++ V2) ∧ Own _ lo 73 3 A n c ((P ++ (T1 ++ (z ++ Q))).flatMap Dem.cells) := ⟨U2, gU.right, by rw [y1]; rw [List.append_nil]; exact Sam.refl _, oO.to (by rw [y1]; simp)⟩
  clear y1
  refine ops_cons rfl (ow_pick rfl rfl ?_)
  refine ops_nil ?_
  refine c_false rfl ?_
  refine c_skip ?_
  refine fin_end0 rfl ?_
  · skip
    have hd := cut_done eT1 eT2 gT1 gT2 gU gV hA hB
    rw [← eU, ← eV] at hd
    exact ⟨T1 ++ T2, rfl, hd.1, hd.2, oO.to (by simp), X⟩
  have y1 : U2 = [] := List.eq_nil_of_length_eq_zero (by omega)
  obtain ⟨T2, gT2, eT2, oO⟩ : ∃ z, Srt z ∧ Sam z (U2 ++ V2) ∧ Own _ lo 73 3 A n c ((P ++ (T1 ++ (z ++ Q))).flatMap Dem.cells) := ⟨V2, gV.right, by rw [y1]; exact Sam.refl _, oO.to (by rw [y1]; simp)⟩
  clear y1
  refine ops_cons rfl (ow_move rfl ?_)
  refine ops_skip rfl rfl rfl rfl ?_
  refine ops_skip rfl rfl rfl rfl ?_
  refine ops_skip rfl rfl rfl rfl ?_
  refine ops_cons rfl (ow_pick rfl rfl ?_)
  refine ops_nil ?_
  refine c_false rfl ?_
  refine c_skip ?_
  refine fin_end0 rfl ?_
  · skip
    have hd := cut_done eT1 eT2 gT1 gT2 gU gV hA hB
    rw [← eU, ← eV] at hd
    exact ⟨T1 ++ T2, rfl, hd.1, hd.2, oO.to (by simp), X⟩
  have y1 : V1 = [] := List.eq_nil_of_length_eq_zero (by omega)
  obtain ⟨T1, gT1, eT1, oO⟩ : ∃ z, Srt z ∧ Sam z (U1 ++ V1) ∧ Own _ lo 73 3 A n c ((P ++ (z ++ (U2 ++ (V2 ++ Q)))).flatMap Dem.cells) := ⟨U1, gU.left, by rw [y1]; rw [List.append_nil]; exact Sam.refl _, oO.to (by rw [y1]; simp)⟩
  clear y1
  refine ops_cons rfl (ow_pick rfl rfl ?_)
  refine ops_nil ?_
  refine c_false rfl ?_
  refine c_skip ?_
  refine tq_n ?_
  refine c_seqR ?_
  refine ops_cons rfl (ow_move rfl ?_)
  refine ops_cons rfl (ow_move rfl ?_)
  have lT1 := eT1.l
  simp only [List.length_append] at lT1
  refine ops_cons rfl (ow_lss2 rfl rfl (fun hq3 => ?_) (fun hq3 => ?_))
  refine ops_cons rfl (ow_move rfl ?_)
  refine ops_want rfl rfl rfl (ow_move rfl ?_)
  refine ops_want rfl rfl rfl (ow_move rfl ?_)
  refine ops_want rfl rfl rfl (ow_lss2 rfl rfl (fun hq4 => ?_) (fun hq4 => ?_))
  refine ops_cons rfl (ow_pick rfl rfl ?_)
  refine ops_nil ?_
  refine c_true rfl ?_
  refine c_region ?_
  refine ops_cons rfl (ow_move rfl ?_)
  refine ops_cons rfl (ow_move rfl ?_)
  refine ops_cons rfl (ow_move rfl ?_)
  refine ops_cons rfl (ow_move rfl ?_)
  refine ops_cons rfl (ow_move rfl ?_)
  refine ops_cons rfl (ow_call ent102 rfl (ret_mono (ih A n c lo (P ++ T1) U2 V2 Q ((a + b) / 2) (((a + b) / 2) + m - st) b _ (oO.to (by simp)) hn (by first | omega | (simp; done) | (simp; omega)) (by first | omega | (simp; done) | (simp; omega)) (by first | omega | (simp; done) | (simp; omega)) (EvD.sub bE (by intro z hz; simp at hz ⊢; rcases hz with hz | hz <;> simp [hz])) gU.right gV.right (by omega) (by omega) (by omega)) ?_))
  have oO_ := oO
  rintro _ w57 ⟨T2, rfl, gT2, eT2, oO, x56⟩
  replace X := gb_trans X x56; clear x56 oO_
  refine ops_nil ?_
  refine fin_end0 rfl ?_
  · skip
    have hd := cut_done eT1 eT2 gT1 gT2 gU gV hA hB
    rw [← eU, ← eV] at hd
    exact ⟨T1 ++ T2, rfl, hd.1, hd.2, oO.to (by simp), X⟩
  have y1 : V2 = [] := List.eq_nil_of_length_eq_zero (by omega)
  obtain ⟨T2, gT2, eT2, oO⟩ : ∃ z, Srt z ∧ Sam z (U2 ++ V2) ∧ Own _ lo 73 3 A n c ((P ++ (T1 ++ (z ++ Q))).flatMap Dem.cells) := ⟨U2, gU.right, by rw [y1]; rw [List.append_nil]; exact Sam.refl _, oO.to (by rw [y1]; simp)⟩
  clear y1
  refine ops_cons rfl (ow_pick rfl rfl ?_)
  refine ops_nil ?_
  refine c_false rfl ?_
  refine c_skip ?_
  refine fin_end0 rfl ?_
  · skip
    have hd := cut_done eT1 eT2 gT1 gT2 gU gV hA hB
    rw [← eU, ← eV] at hd
    exact ⟨T1 ++ T2, rfl, hd.1, hd.2, oO.to (by simp), X⟩
  have y1 : U2 = [] := List.eq_nil_of_length_eq_zero (by omega)
  obtain ⟨T2, gT2, eT2, oO⟩ : ∃ z, Srt z ∧ Sam z (U2 ++ V2) ∧ Own _ lo 73 3 A n c ((P ++ (T1 ++ (z ++ Q))).flatMap Dem.cells) := ⟨V2, gV.right, by rw [y1]; exact Sam.refl _, oO.to (by rw [y1]; simp)⟩
  clear y1
  refine ops_cons rfl (ow_move rfl ?_)
  refine ops_skip rfl rfl rfl rfl ?_
  refine ops_skip rfl rfl rfl rfl ?_
  refine ops_skip rfl rfl rfl rfl ?_
  refine ops_cons rfl (ow_pick rfl rfl ?_)
  refine ops_nil ?_
  refine c_false rfl ?_
  refine c_skip ?_
  refine fin_end0 rfl ?_
  · skip
    have hd := cut_done eT1 eT2 gT1 gT2 gU gV hA hB
    rw [← eU, ← eV] at hd
    exact ⟨T1 ++ T2, rfl, hd.1, hd.2, oO.to (by simp), X⟩
  have y1 : U1 = [] := List.eq_nil_of_length_eq_zero (by omega)
  obtain ⟨T1, gT1, eT1, oO⟩ : ∃ z, Srt z ∧ Sam z (U1 ++ V1) ∧ Own _ lo 73 3 A n c ((P ++ (z ++ (U2 ++ (V2 ++ Q)))).flatMap Dem.cells) := ⟨V1, gV.left, by rw [y1]; exact Sam.refl _, oO.to (by rw [y1]; simp)⟩
  clear y1
  refine ops_cons rfl (ow_move rfl ?_)
  refine ops_skip rfl rfl rfl rfl ?_
  refine ops_skip rfl rfl rfl rfl ?_
  refine ops_skip rfl rfl rfl rfl ?_
  refine ops_cons rfl (ow_pick rfl rfl ?_)
  refine ops_nil ?_
  refine c_false rfl ?_
  refine c_skip ?_
  refine tq_n ?_
  refine c_seqR ?_
  refine ops_cons rfl (ow_move rfl ?_)
  refine ops_cons rfl (ow_move rfl ?_)
  have lT1 := eT1.l
  simp only [List.length_append] at lT1
  refine ops_cons rfl (ow_lss2 rfl rfl (fun hq3 => ?_) (fun hq3 => ?_))
  refine ops_cons rfl (ow_move rfl ?_)
  refine ops_want rfl rfl rfl (ow_move rfl ?_)
  refine ops_want rfl rfl rfl (ow_move rfl ?_)
  refine ops_want rfl rfl rfl (ow_lss2 rfl rfl (fun hq4 => ?_) (fun hq4 => ?_))
  refine ops_cons rfl (ow_pick rfl rfl ?_)
  refine ops_nil ?_
  refine c_true rfl ?_
  refine c_region ?_
  refine ops_cons rfl (ow_move rfl ?_)
  refine ops_cons rfl (ow_move rfl ?_)
  refine ops_cons rfl (ow_move rfl ?_)
  refine ops_cons rfl (ow_move rfl ?_)
  refine ops_cons rfl (ow_move rfl ?_)
  refine ops_cons rfl (ow_call ent102 rfl (ret_mono (ih A n c lo (P ++ T1) U2 V2 Q ((a + b) / 2) (((a + b) / 2) + m - st) b _ (oO.to (by simp)) hn (by first | omega | (simp; done) | (simp; omega)) (by first | omega | (simp; done) | (simp; omega)) (by first | omega | (simp; done) | (simp; omega)) (EvD.sub bE (by intro z hz; simp at hz ⊢; rcases hz with hz | hz <;> simp [hz])) gU.right gV.right (by omega) (by omega) (by omega)) ?_))
  have oO_ := oO
  rintro _ w59 ⟨T2, rfl, gT2, eT2, oO, x58⟩
  replace X := gb_trans X x58; clear x58 oO_
  refine ops_nil ?_
  refine fin_end0 rfl ?_
  · skip
    have hd := cut_done eT1 eT2 gT1 gT2 gU gV hA hB
    rw [← eU, ← eV] at hd
    exact ⟨T1 ++ T2, rfl, hd.1, hd.2, oO.to (by simp), X⟩
  have y1 : V2 = [] := List.eq_nil_of_length_eq_zero (by omega)
  obtain ⟨T2, gT2, eT2, oO⟩ : ∃ z, Srt z ∧ Sam z (U2 ++ V2) ∧ Own _ lo 73 3 A n c ((P ++ (T1 ++ (z ++ Q))).flatMap Dem.cells) := ⟨U2, gU.right, by rw [y1]; rw [List.append_nil]; exact Sam.refl _, oO.to (by rw [y1]; simp)⟩
  clear y1
  refine ops_cons rfl (ow_pick rfl rfl ?_)
  refine ops_nil ?_
  refine c_false rfl ?_
  refine c_skip ?_
  refine fin_end0 rfl ?_
  · skip
    have hd := cut_done eT1 eT2 gT1 gT2 gU gV hA hB
    rw [← eU, ← eV] at hd
    exact ⟨T1 ++ T2, rfl, hd.1, hd.2, oO.to (by simp), X⟩
  have y1 : U2 = [] := List.eq_nil_of_length_eq_zero (by omega)
  obtain ⟨T2, gT2, eT2, oO⟩ : ∃ z, Srt z ∧ Sam z (U2 ++ V2) ∧ Own _ lo 73 3 A n c ((P ++ (T1 ++ (z ++ Q))).flatMap Dem.cells) := ⟨V2, gV.right, by rw [y1]; exact Sam.refl _, oO.to (by rw [y1]; simp)⟩
  clear y1
  refine ops_cons rfl (ow_move rfl ?_)
  refine ops_skip rfl rfl rfl rfl ?_
  refine ops_skip rfl rfl rfl rfl ?_
  refine ops_skip rfl rfl rfl rfl ?_
  refine ops_cons rfl (ow_pick rfl rfl ?_)
  refine ops_nil ?_
  refine c_false rfl ?_
  refine c_skip ?_
  refine fin_end0 rfl ?_
  · skip
    have hd := cut_done eT1 eT2 gT1 gT2 gU gV hA hB
    rw [← eU, ← eV] at hd
    exact ⟨T1 ++ T2, rfl, hd.1, hd.2, oO.to (by simp), X⟩
  have y1 : V1 = [] := List.eq_nil_of_length_eq_zero (by omega)
  replace oO := oO.to (cs' := (P ++ (U1 ++ (V1 ++ (U2 ++ (V2 ++ Q))))).flatMap Dem.cells) (by rw [y1]; simp)
  clear y1
  refine ops_cons rfl (ow_pick rfl rfl ?_)
  refine ops_nil ?_
  refine c_false rfl ?_
  refine c_skip ?_
  refine tq_n ?_
  refine c_seq ?_
  refine c_seqR ?_
  refine ops_cons rfl (ow_move rfl ?_)
  refine ops_cons rfl (ow_move rfl ?_)
  refine ops_cons rfl (ow_lss2 rfl rfl (fun hq1 => ?_) (fun hq1 => ?_))
  refine ops_cons rfl (ow_move rfl ?_)
  refine ops_want rfl rfl rfl (ow_move rfl ?_)
  refine ops_want rfl rfl rfl (ow_move rfl ?_)
  refine ops_want rfl rfl rfl (ow_lss2 rfl rfl (fun hq2 => ?_) (fun hq2 => ?_))
  refine ops_cons rfl (ow_pick rfl rfl ?_)
  refine ops_nil ?_
  refine c_true rfl ?_
  refine c_region ?_
  refine ops_cons rfl (ow_move rfl ?_)
  refine ops_cons rfl (ow_move rfl ?_)
  refine ops_cons rfl (ow_move rfl ?_)
  refine ops_cons rfl (ow_move rfl ?_)
  refine ops_cons rfl (ow_move rfl ?_)
  refine ops_cons rfl (ow_call ent102 rfl (ret_mono (ih A n c lo P U1 V1 (U2 ++ (V2 ++ Q)) a st ((a + b) / 2) _ oO hn (by omega) (by omega) (by omega) (EvD.sub bE (by intro z hz; simp at hz ⊢; rcases hz with hz | hz <;> simp [hz])) gU.left gV.left (by omega) (by omega) (by omega)) ?_))
  have oO_ := oO
  rintro _ w61 ⟨T1, rfl, gT1, eT1, oO, x60⟩
  replace X := gb_trans X x60; clear x60 oO_
  refine ops_nil ?_
  refine tq_n ?_
  refine c_seqR ?_
  refine ops_cons rfl (ow_move rfl ?_)
  refine ops_cons rfl (ow_move rfl ?_)
  have lT1 := eT1.l
  simp only [List.length_append] at lT1
  refine ops_cons rfl (ow_lss2 rfl rfl (fun hq3 => ?_) (fun hq3 => ?_))
  refine ops_cons rfl (ow_move rfl ?_)
  refine ops_want rfl rfl rfl (ow_move rfl ?_)
  refine ops_want rfl rfl rfl (ow_move rfl ?_)
  refine ops_want rfl rfl rfl (ow_lss2 rfl rfl (fun hq4 => ?_) (fun hq4 => ?_))
  refine ops_cons rfl (ow_pick rfl rfl ?_)
  refine ops_nil ?_
  refine c_true rfl ?_
  refine c_region ?_
  refine ops_cons rfl (ow_move rfl ?_)
  refine ops_cons rfl (ow_move rfl ?_)
  refine ops_cons rfl (ow_move rfl ?_)
  refine ops_cons rfl (ow_move rfl ?_)
  refine ops_cons rfl (ow_move rfl ?_)
  refine ops_cons rfl (ow_call ent102 rfl (ret_mono (ih A n c lo (P ++ T1) U2 V2 Q ((a + b) / 2) (((a + b) / 2) + m - st) b _ (oO.to (by simp)) hn (by first | omega | (simp; done) | (simp; omega)) (by first | omega | (simp; done) | (simp; omega)) (by first | omega | (simp; done) | (simp; omega)) (EvD.sub bE (by intro z hz; simp at hz ⊢; rcases hz with hz | hz <;> simp [hz])) gU.right gV.right (by omega) (by omega) (by omega)) ?_))
  have oO_ := oO
  rintro _ w63 ⟨T2, rfl, gT2, eT2, oO, x62⟩
  replace X := gb_trans X x62; clear x62 oO_
  refine ops_nil ?_
  refine fin_end0 rfl ?_
  · skip
    have hd := cut_done eT1 eT2 gT1 gT2 gU gV hA hB
    rw [← eU, ← eV] at hd
    exact ⟨T1 ++ T2, rfl, hd.1, hd.2, oO.to (by simp), X⟩
  have y1 : V2 = [] := List.eq_nil_of_length_eq_zero (by omega)
  obtain ⟨T2, gT2, eT2, oO⟩ : ∃ z, Srt z ∧ Sam z (U2 ++ V2) ∧ Own _ lo 73 3 A n c ((P ++ (T1 ++ (z ++ Q))).flatMap Dem.cells) := ⟨U2, gU.right, by rw [y1]; rw [List.append_nil]; exact Sam.refl _, oO.to (by rw [y1]; simp)⟩
  clear y1
  refine ops_cons rfl (ow_pick rfl rfl ?_)
  refine ops_nil ?_
  refine c_false rfl ?_
  refine c_skip ?_
  refine fin_end0 rfl ?_
  · skip
    have hd := cut_done eT1 eT2 gT1 gT2 gU gV hA hB
    rw [← eU, ← eV] at hd
    exact ⟨T1 ++ T2, rfl, hd.1, hd.2, oO.to (by simp), X⟩
  have y1 : U2 = [] := List.eq_nil_of_length_eq_zero (by omega)
  obtain ⟨T2, gT2, eT2, oO⟩ : ∃ z, Srt z ∧ Sam z (U2 ++ V2) ∧ Own _ lo 73 3 A n c ((P ++ (T1 ++ (z ++ Q))).flatMap Dem.cells) := ⟨V2, gV.right, by rw [y1]; exact Sam.refl _, oO.to (by rw [y1]; simp)⟩
  clear y1
  refine ops_cons rfl (ow_move rfl ?_)
  refine ops_skip rfl rfl rfl rfl ?_
  refine ops_skip rfl rfl rfl rfl ?_
  refine ops_skip rfl rfl rfl rfl ?_
  refine ops_cons rfl (ow_pick rfl rfl ?_)
  refine ops_nil ?_
  refine c_false rfl ?_
  refine c_skip ?_
  refine fin_end0 rfl ?_
  · skip
    have hd := cut_done eT1 eT2 gT1 gT2 gU gV hA hB
    rw [← eU, ← eV] at hd
    exact ⟨T1 ++ T2, rfl, hd.1, hd.2, oO.to (by simp), X⟩
  have y1 : V1 = [] := List.eq_nil_of_length_eq_zero (by omega)
  obtain ⟨T1, gT1, eT1, oO⟩ : ∃ z, Srt z ∧ Sam z (U1 ++ V1) ∧ Own _ lo 73 3 A n c ((P ++ (z ++ (U2 ++ (V2 ++ Q)))).flatMap Dem.cells) := ⟨U1, gU.left, by rw [y1]; rw [List.append_nil]; exact Sam.refl _, oO.to (by rw [y1]; simp)⟩
  clear y1
  refine ops_cons rfl (ow_pick rfl rfl ?_)
  refine ops_nil ?_
  refine c_false rfl ?_
  refine c_skip ?_
  refine tq_n ?_
  refine c_seqR ?_
  refine ops_cons rfl (ow_move rfl ?_)
  refine ops_cons rfl (ow_move rfl ?_)
  have lT1 := eT1.l
  simp only [List.length_append] at lT1
  refine ops_cons rfl (ow_lss2 rfl rfl (fun hq3 => ?_) (fun hq3 => ?_))
  refine ops_cons rfl (ow_move rfl ?_)
  refine ops_want rfl rfl rfl (ow_move rfl ?_)
  refine ops_want rfl rfl rfl (ow_move rfl ?_)
  refine ops_want rfl rfl rfl (ow_lss2 rfl rfl (fun hq4 => ?_) (fun hq4 => ?_))
  refine ops_cons rfl (ow_pick rfl rfl ?_)
  refine ops_nil ?_
  refine c_true rfl ?_
  refine c_region ?_
  refine ops_cons rfl (ow_move rfl ?_)
  refine ops_cons rfl (ow_move rfl ?_)
  refine ops_cons rfl (ow_move rfl ?_)
  refine ops_cons rfl (ow_move rfl ?_)
  refine ops_cons rfl (ow_move rfl ?_)
  refine ops_cons rfl (ow_call ent102 rfl (ret_mono (ih A n c lo (P ++ T1) U2 V2 Q ((a + b) / 2) (((a + b) / 2) + m - st) b _ (oO.to (by simp)) hn (by first | omega | (simp; done) | (simp; omega)) (by first | omega | (simp; done) | (simp; omega)) (by first | omega | (simp; done) | (simp; omega)) (EvD.sub bE (by intro z hz; simp at hz ⊢; rcases hz with hz | hz <;> simp [hz])) gU.right gV.right (by omega) (by omega) (by omega)) ?_))
  have oO_ := oO
  rintro _ w65 ⟨T2, rfl, gT2, eT2, oO, x64⟩
  replace X := gb_trans X x64; clear x64 oO_
  refine ops_nil ?_
  refine fin_end0 rfl ?_
  · skip
    have hd := cut_done eT1 eT2 gT1 gT2 gU gV hA hB
    rw [← eU, ← eV] at hd
    exact ⟨T1 ++ T2, rfl, hd.1, hd.2, oO.to (by simp), X⟩
  have y1 : V2 = [] := List.eq_nil_of_length_eq_zero (by omega)
  obtain ⟨T2, gT2, eT2, oO⟩ : ∃ z, Srt z ∧ Sam z (U2 ++ V2) ∧ Own _ lo 73 3 A n c ((P ++ (T1 ++ (z ++ Q))).flatMap Dem.cells) := ⟨U2, gU.right, by rw [y1]; rw [List.append_nil]; exact Sam.refl _, oO.to (by rw [y1]; simp)⟩
  clear y1
  refine ops_cons rfl (ow_pick rfl rfl ?_)
  refine ops_nil ?_
  refine c_false rfl ?_
  refine c_skip ?_
  refine fin_end0 rfl ?_
  · skip
    have hd := cut_done eT1 eT2 gT1 gT2 gU gV hA hB
    rw [← eU, ← eV] at hd
    exact ⟨T1 ++ T2, rfl, hd.1, hd.2, oO.to (by simp), X⟩
  have y1 : U2 = [] := List.eq_nil_of_length_eq_zero (by omega)
  obtain ⟨T2, gT2, eT2, oO⟩ : ∃ z, Srt z ∧ Sam z (U2 ++ V2) ∧ Own _ lo 73 3 A n c ((P ++ (T1 ++ (z ++ Q))).flatMap Dem.cells) := ⟨V2, gV.right, by rw [y1]; exact Sam.refl _, oO.to (by rw [y1]; simp)⟩
  clear y1
  refine ops_cons rfl (ow_move rfl ?_)
  refine ops_skip rfl rfl rfl rfl ?_
  refine ops_skip rfl rfl rfl rfl ?_
  refine ops_skip rfl rfl rfl rfl ?_
  refine ops_cons rfl (ow_pick rfl rfl ?_)
  refine ops_nil ?_
  refine c_false rfl ?_
  refine c_skip ?_
  refine fin_end0 rfl ?_
  · skip
    have hd := cut_done eT1 eT2 gT1 gT2 gU gV hA hB
    rw [← eU, ← eV] at hd
    exact ⟨T1 ++ T2, rfl, hd.1, hd.2, oO.to (by simp), X⟩
  have y1 : U1 = [] := List.eq_nil_of_length_eq_zero (by omega)
  obtain ⟨T1, gT1, eT1, oO⟩ : ∃ z, Srt z ∧ Sam z (U1 ++ V1) ∧ Own _ lo 73 3 A n c ((P ++ (z ++ (U2 ++ (V2 ++ Q)))).flatMap Dem.cells) := ⟨V1, gV.left, by rw [y1]; exact Sam.refl _, oO.to (by rw [y1]; simp)⟩
  clear y1
  refine ops_cons rfl (ow_move rfl ?_)
  refine ops_skip rfl rfl rfl rfl ?_
  refine ops_skip rfl rfl rfl rfl ?_
  refine ops_skip rfl rfl rfl rfl ?_
  refine ops_cons rfl (ow_pick rfl rfl ?_)
  refine ops_nil ?_
  refine c_false rfl ?_
  refine c_skip ?_
  refine tq_n ?_
  refine c_seqR ?_
  refine ops_cons rfl (ow_move rfl ?_)
  refine ops_cons rfl (ow_move rfl ?_)
  have lT1 := eT1.l
  simp only [List.length_append] at lT1
  refine ops_cons rfl (ow_lss2 rfl rfl (fun hq3 => ?_) (fun hq3 => ?_))
  refine ops_cons rfl (ow_move rfl ?_)
  refine ops_want rfl rfl rfl (ow_move rfl ?_)
  refine ops_want rfl rfl rfl (ow_move rfl ?_)
  refine ops_want rfl rfl rfl (ow_lss2 rfl rfl (fun hq4 => ?_) (fun hq4 => ?_))
  refine ops_cons rfl (ow_pick rfl rfl ?_)
  refine ops_nil ?_
  refine c_true rfl ?_
  refine c_region ?_
  refine ops_cons rfl (ow_move rfl ?_)
  refine ops_cons rfl (ow_move rfl ?_)
  refine ops_cons rfl (ow_move rfl ?_)
  refine ops_cons rfl (ow_move rfl ?_)
  refine ops_cons rfl (ow_move rfl ?_)
  refine ops_cons rfl (ow_call ent102 rfl (ret_mono (ih A n c lo (P ++ T1) U2 V2 Q ((a + b) / 2) (((a + b) / 2) + m - st) b _ (oO.to (by simp)) hn (by first | omega | (simp; done) | (simp; omega)) (by first | omega | (simp; done) | (simp; omega)) (by first | omega | (simp; done) | (simp; omega)) (EvD.sub bE (by intro z hz; simp at hz ⊢; rcases hz with hz | hz <;> simp [hz])) gU.right gV.right (by omega) (by omega) (by omega)) ?_))
  have oO_ := oO
  rintro _ w67 ⟨T2, rfl, gT2, eT2, oO, x66⟩
  replace X := gb_trans X x66; clear x66 oO_
  refine ops_nil ?_
  refine fin_end0 rfl ?_
  · skip
    have hd := cut_done eT1 eT2 gT1 gT2 gU gV hA hB
    rw [← eU, ← eV] at hd
    exact ⟨T1 ++ T2, rfl, hd.1, hd.2, oO.to (by simp), X⟩
  have y1 : V2 = [] := List.eq_nil_of_length_eq_zero (by omega)
  obtain ⟨T2, gT2, eT2, oO⟩ : ∃ z, Srt z ∧ Sam z (U2 ++ V2) ∧ Own _ lo 73 3 A n c ((P ++ (T1 ++ (z ++ Q))).flatMap Dem.cells) := ⟨U2, gU.right, by rw [y1]; rw [List.append_nil]; exact Sam.refl _, oO.to (by rw [y1]; simp)⟩
  clear y1
  refine ops_cons rfl (ow_pick rfl rfl ?_)
  refine ops_nil ?_
  refine c_false rfl ?_
  refine c_skip ?_
  refine fin_end0 rfl ?_
  · skip
    have hd := cut_done eT1 eT2 gT1 gT2 gU gV hA hB
    rw [← eU, ← eV] at hd
    exact ⟨T1 ++ T2, rfl, hd.1, hd.2, oO.to (by simp), X⟩
  have y1 : U2 = [] := List.eq_nil_of_length_eq_zero (by omega)
  obtain ⟨T2, gT2, eT2, oO⟩ : ∃ z, Srt z ∧ Sam z (U2 ++ V2) ∧ Own _ lo 73 3 A n c ((P ++ (T1 ++ (z ++ Q))).flatMap Dem.cells) := ⟨V2, gV.right, by rw [y1]; exact Sam.refl _, oO.to (by rw [y1]; simp)⟩
  clear y1
  refine ops_cons rfl (ow_move rfl ?_)
  refine ops_skip rfl rfl rfl rfl ?_
  refine ops_skip rfl rfl rfl rfl ?_
  refine ops_skip rfl rfl rfl rfl ?_
  refine ops_cons rfl (ow_pick rfl rfl ?_)
  refine ops_nil ?_
  refine c_false rfl ?_
  refine c_skip ?_
  refine fin_end0 rfl ?_
  · skip
    have hd := cut_done eT1 eT2 gT1 gT2 gU gV hA hB
    rw [← eU, ← eV] at hd
    exact ⟨T1 ++ T2, rfl, hd.1, hd.2, oO.to (by simp), X⟩
  have y1 : U2 = [] := List.eq_nil_of_length_eq_zero (by omega)
  replace oO := oO.to (cs' := (P ++ (U1 ++ (V1 ++ (U2 ++ (V2 ++ Q))))).flatMap Dem.cells) (by rw [y1]; simp)
  clear y1
  refine ops_cons rfl (ow_move rfl ?_)
  refine ops_skip rfl rfl rfl rfl ?_
  refine ops_skip rfl rfl rfl rfl ?_
  refine ops_skip rfl rfl rfl rfl ?_
  refine ops_cons rfl (ow_pick rfl rfl ?_)
  refine ops_nil ?_
  refine c_false rfl ?_
  refine c_skip ?_
  refine tq_n ?_
  refine c_seq ?_
  refine c_seqR ?_
  refine ops_cons rfl (ow_move rfl ?_)
  refine ops_cons rfl (ow_move rfl ?_)
  refine ops_cons rfl (ow_lss2 rfl rfl (fun hq1 => ?_) (fun hq1 => ?_))
  refine ops_cons rfl (ow_move rfl ?_)
  refine ops_want rfl rfl rfl (ow_move rfl ?_)
  refine ops_want rfl rfl rfl (ow_move rfl ?_)
  refine ops_want rfl rfl rfl (ow_lss2 rfl rfl (fun hq2 => ?_) (fun hq2 => ?_))
  refine ops_cons rfl (ow_pick rfl rfl ?_)
  refine ops_nil ?_
  refine c_true rfl ?_
  refine c_region ?_
  refine ops_cons rfl (ow_move rfl ?_)
  refine ops_cons rfl (ow_move rfl ?_)
  refine ops_cons rfl (ow_move rfl ?_)
  refine ops_cons rfl (ow_move rfl ?_)
  refine ops_cons rfl (ow_move rfl ?_)
  refine ops_cons rfl (ow_call ent102 rfl (ret_mono (ih A n c lo P U1 V1 (U2 ++ (V2 ++ Q)) a st ((a + b) / 2) _ oO hn (by omega) (by omega) (by omega) (EvD.sub bE (by intro z hz; simp at hz ⊢; rcases hz with hz | hz <;> simp [hz])) gU.left gV.left (by omega) (by omega) (by omega)) ?_))
  have oO_ := oO
  rintro _ w69 ⟨T1, rfl, gT1, eT1, oO, x68⟩
  replace X := gb_trans X x68; clear x68 oO_
  refine ops_nil ?_
  refine tq_n ?_
  refine c_seqR ?_
  refine ops_cons rfl (ow_move rfl ?_)
  refine ops_cons rfl (ow_move rfl ?_)
  have lT1 := eT1.l
  simp only [List.length_append] at lT1
  refine ops_cons rfl (ow_lss2 rfl rfl (fun hq3 => ?_) (fun hq3 => ?_))
  refine ops_cons rfl (ow_move rfl ?_)
  refine ops_want rfl rfl rfl (ow_move rfl ?_)
  refine ops_want rfl rfl rfl (ow_move rfl ?_)
  refine ops_want rfl rfl rfl (ow_lss2 rfl rfl (fun hq4 => ?_) (fun hq4 => ?_))
  refine ops_cons rfl (ow_pick rfl rfl ?_)
  refine ops_nil ?_
  refine c_true rfl ?_
  refine c_region ?_
  refine ops_cons rfl (ow_move rfl ?_)
  refine ops_cons rfl (ow_move rfl ?_)
  refine ops_cons rfl (ow_move rfl ?_)
  refine ops_cons rfl (ow_move rfl ?_)
  refine ops_cons rfl (ow_move rfl ?_)
  refine ops_cons rfl (ow_call ent102 rfl (ret_mono (ih A n c lo (P ++ T1) U2 V2 Q ((a + b) / 2) (((a + b) / 2) + m - st) b _ (oO.to (by simp)) hn (by first | omega | (simp; done) | (simp; omega)) (by first | omega | (simp; done) | (simp; omega)) (by first | omega | (simp; done) | (simp; omega)) (EvD.sub bE (by intro z hz; simp at hz ⊢; rcases hz with hz | hz <;> simp [hz])) gU.right gV.right (by omega) (by omega) (by omega)) ?_))
  have oO_ := oO
  rintro _ w71 ⟨T2, rfl, gT2, eT2, oO, x70⟩
  replace X := gb_trans X x70; clear x70 oO_
  refine ops_nil ?_
  refine fin_end0 rfl ?_
  · skip
    have hd := cut_done eT1 eT2 gT1 gT2 gU gV hA hB
    rw [← eU, ← eV] at hd
    exact ⟨T1 ++ T2, rfl, hd.1, hd.2, oO.to (by simp), X⟩
  have y1 : V2 = [] := List.eq_nil_of_length_eq_zero (by omega)
  obtain ⟨T2, gT2, eT2, oO⟩ : ∃ z, Srt z ∧ Sam z (U2 ++ V2) ∧ Own _ lo 73 3 A n c ((P ++ (T1 ++ (z ++ Q))).flatMap Dem.cells) := ⟨U2, gU.right, by rw [y1]; rw [List.append_nil]; exact Sam.refl _, oO.to (by rw [y1]; simp)⟩
  clear y1
  refine ops_cons rfl (ow_pick rfl rfl ?_)
  refine ops_nil ?_
  refine c_false rfl ?_
  refine c_skip ?_
  refine fin_end0 rfl ?_
  · skip
    have hd := cut_done eT1 eT2 gT1 gT2 gU gV hA hB
    rw [← eU, ← eV] at hd
    exact ⟨T1 ++ T2, rfl, hd.1, hd.2, oO.to (by simp), X⟩
  have y1 : U2 = [] := List.eq_nil_of_length_eq_zero (by omega)
  obtain ⟨T2, gT2, eT2, oO⟩ : ∃ z, Srt z ∧ Sam z (U2 ++ V2) ∧ Own _ lo 73 3 A n c ((P ++ (T1 ++ (z ++ Q))).flatMap Dem.cells) := ⟨V2, gV.right, by rw [y1]; exact Sam.refl _, oO.to (by rw [y1]; simp)⟩
  clear y1
  refine ops_cons rfl (ow_move rfl ?_)
  refine ops_skip rfl rfl rfl rfl ?_
  refine ops_skip rfl rfl rfl rfl ?_
  refine ops_skip rfl rfl rfl rfl ?_
  refine ops_cons rfl (ow_pick rfl rfl ?_)
  refine ops_nil ?_
  refine c_false rfl ?_
  refine c_skip ?_
  refine fin_end0 rfl ?_
  · skip
    have hd := cut_done eT1 eT2 gT1 gT2 gU gV hA hB
    rw [← eU, ← eV] at hd
    exact ⟨T1 ++ T2, rfl, hd.1, hd.2, oO.to (by simp), X⟩
  have y1 : V1 = [] := List.eq_nil_of_length_eq_zero (by omega)
  obtain ⟨T1, gT1, eT1, oO⟩ : ∃ z, Srt z ∧ Sam z (U1 ++ V1) ∧ Own _ lo 73 3 A n c ((P ++ (z ++ (U2 ++ (V2 ++ Q)))).flatMap Dem.cells) := ⟨U1, gU.left, by rw [y1]; rw [List.append_nil]; exact Sam.refl _, oO.to (by rw [y1]; simp)⟩
  clear y1
  refine ops_cons rfl (ow_pick rfl rfl ?_)
  refine ops_nil ?_
  refine c_false rfl ?_
  refine c_skip ?_
  refine tq_n ?_
  refine c_seqR ?_
  refine ops_cons rfl (ow_move rfl ?_)
  refine ops_cons rfl (ow_move rfl ?_)
  have lT1 := eT1.l
  simp only [List.length_append] at lT1
  refine ops_cons rfl (ow_lss2 rfl rfl (fun hq3 => ?_) (fun hq3 => ?_))
  refine ops_cons rfl (ow_move rfl ?_)
  refine ops_want rfl rfl rfl (ow_move rfl ?_)
  refine ops_want rfl rfl rfl (ow_move rfl ?_)
  refine ops_want rfl rfl rfl (ow_lss2 rfl rfl (fun hq4 => ?_) (fun hq4 => ?_))
  refine ops_cons rfl (ow_pick rfl rfl ?_)
  refine ops_nil ?_
  refine c_true rfl ?_
  refine c_region ?_
  refine ops_cons rfl (ow_move rfl ?_)
  refine ops_cons rfl (ow_move rfl ?_)
  refine ops_cons rfl (ow_move rfl ?_)
  refine ops_cons rfl (ow_move rfl ?_)
  refine ops_cons rfl (ow_move rfl ?_)
  refine ops_cons rfl (ow_call ent102 rfl (ret_mono (ih A n c lo (P ++ T1) U2 V2 Q ((a + b) / 2) (((a + b) / 2) + m - st) b _ (oO.to (by simp)) hn (by first | omega | (simp; done) | (simp; omega)) (by first | omega | (simp; done) | (simp; omega)) (by first | omega | (simp; done) | (simp; omega)) (EvD.sub bE (by intro z hz; simp at hz ⊢; rcases hz with hz | hz <;> simp [hz])) gU.right gV.right (by omega) (by omega) (by omega)) ?_))
  have oO_ := oO
  rintro _ w73 ⟨T2, rfl, gT2, eT2, oO, x72⟩
  replace X := gb_trans X x72; clear x72 oO_
  refine ops_nil ?_
  refine fin_end0 rfl ?_
  · skip
    have hd := cut_done eT1 eT2 gT1 gT2 gU gV hA hB
    rw [← eU, ← eV] at hd
    exact ⟨T1 ++ T2, rfl, hd.1, hd.2, oO.to (by simp), X⟩
  have y1 : V2 = [] := List.eq_nil_of_length_eq_zero (by omega)
  obtain ⟨T2, gT2, eT2, oO⟩ : ∃ z, Srt z ∧ Sam z (U2 ++ V2) ∧ Own _ lo 73 3 A n c ((P ++ (T1 ++ (z ++ Q))).flatMap Dem.cells) := ⟨U2, gU.right, by rw [y1]; rw [List.append_nil]; exact Sam.refl _, oO.to (by rw [y1]; simp)⟩
  clear y1
  refine ops_cons rfl (ow_pick rfl rfl ?_)
  refine ops_nil ?_
  refine c_false rfl ?_
  refine c_skip ?_
  refine fin_end0 rfl ?_
  · skip
    have hd := cut_done eT1 eT2 gT1 gT2 gU gV hA hB
    rw [← eU, ← eV] at hd
    exact ⟨T1 ++ T2, rfl, hd.1, hd.2, oO.to (by simp), X⟩
  have y1 : U2 = [] := List.eq_nil_of_length_eq_zero (by omega)
  obtain ⟨T2, gT2, eT2, oO⟩ : ∃ z, Srt z ∧ Sam z (U2 ++ V2) ∧ Own _ lo 73 3 A n c ((P ++ (T1 ++ (z ++ Q))).flatMap Dem.cells) := ⟨V2, gV.right, by rw [y1]; exact Sam.refl _, oO.to (by rw [y1]; simp)⟩
  clear y1
  refine ops_cons rfl (ow_move rfl ?_)
  refine ops_skip rfl rfl rfl rfl ?_
  refine ops_skip rfl rfl rfl rfl ?_
  refine ops_skip rfl rfl rfl rfl ?_
  refine ops_cons rfl (ow_pick rfl rfl ?_)
  refine ops_nil ?_
  refine c_false rfl ?_
  refine c_skip ?_
  refine fin_end0 rfl ?_
  · skip
    have hd := cut_done eT1 eT2 gT1 gT2 gU gV hA hB
    rw [← eU, ← eV] at hd
    exact ⟨T1 ++ T2, rfl, hd.1, hd.2, oO.to (by simp), X⟩
  have y1 : U1 = [] := List.eq_nil_of_length_eq_zero (by omega)
  obtain ⟨T1, gT1, eT1, oO⟩ : ∃ z, Srt z ∧ Sam z (U1 ++ V1) ∧ Own _ lo 73 3 A n c ((P ++ (z ++ (U2 ++ (V2 ++ Q)))).flatMap Dem.cells) := ⟨V1, gV.left, by rw [y1]; exact Sam.refl _, oO.to (by rw [y1]; simp)⟩
  clear y1
  refine ops_cons rfl (ow_move rfl ?_)
  refine ops_skip rfl rfl rfl rfl ?_
  refine ops_skip rfl rfl rfl rfl ?_
  refine ops_skip rfl rfl rfl rfl ?_
  refine ops_cons rfl (ow_pick rfl rfl ?_)
  refine ops_nil ?_
  refine c_false rfl ?_
  refine c_skip ?_
  refine tq_n ?_
  refine c_seqR ?_
  refine ops_cons rfl (ow_move rfl ?_)
  refine ops_cons rfl (ow_move rfl ?_)
  have lT1 := eT1.l
  simp only [List.length_append] at lT1
  refine ops_cons rfl (ow_lss2 rfl rfl (fun hq3 => ?_) (fun hq3 => ?_))
  refine ops_cons rfl (ow_move rfl ?_)
  refine ops_want rfl rfl rfl (ow_move rfl ?_)
  refine ops_want rfl rfl rfl (ow_move rfl ?_)
  refine ops_want rfl rfl rfl (ow_lss2 rfl rfl (fun hq4 => ?_) (fun hq4 => ?_))
  refine ops_cons rfl (ow_pick rfl rfl ?_)
  refine ops_nil ?_
  refine c_true rfl ?_
  refine c_region ?_
  refine ops_cons rfl (ow_move rfl ?_)
  refine ops_cons rfl (ow_move rfl ?_)
  refine ops_cons rfl (ow_move rfl ?_)
  refine ops_cons rfl (ow_move rfl ?_)
  refine ops_cons rfl (ow_move rfl ?_)
  refine ops_cons rfl (ow_call ent102 rfl (ret_mono (ih A n c lo (P ++ T1) U2 V2 Q ((a + b) / 2) (((a + b) / 2) + m - st) b _ (oO.to (by simp)) hn (by first | omega | (simp; done) | (simp; omega)) (by first | omega | (simp; done) | (simp; omega)) (by first | omega | (simp; done) | (simp; omega)) (EvD.sub bE (by intro z hz; simp at hz ⊢; rcases hz with hz | hz <;> simp [hz])) gU.right gV.right (by omega) (by omega) (by omega)) ?_))
  have oO_ := oO
  rintro _ w75 ⟨T2, rfl, gT2, eT2, oO, x74⟩
  replace X := gb_trans X x74; clear x74 oO_
  refine ops_nil ?_
  refine fin_end0 rfl ?_
  · skip
    have hd := cut_done eT1 eT2 gT1 gT2 gU gV hA hB
    rw [← eU, ← eV] at hd
    exact ⟨T1 ++ T2, rfl, hd.1, hd.2, oO.to (by simp), X⟩
  have y1 : V2 = [] := List.eq_nil_of_length_eq_zero (by omega)
  obtain ⟨T2, gT2, eT2, oO⟩ : ∃ z, Srt z ∧ Sam z (U2 ++ V2) ∧ Own _ lo 73 3 A n c ((P ++ (T1 ++ (z ++ Q))).flatMap Dem.cells) := ⟨U2, gU.right, by rw [y1]; rw [List.append_nil]; exact Sam.refl _, oO.to (by rw [y1]; simp)⟩
  clear y1
  refine ops_cons rfl (ow_pick rfl rfl ?_)
  refine ops_nil ?_
  refine c_false rfl ?_
  refine c_skip ?_
  refine fin_end0 rfl ?_
  · skip
    have hd := cut_done eT1 eT2 gT1 gT2 gU gV hA hB
    rw [← eU, ← eV] at hd
    exact ⟨T1 ++ T2, rfl, hd.1, hd.2, oO.to (by simp), X⟩
  have y1 : U2 = [] := List.eq_nil_of_length_eq_zero (by omega)
  obtain ⟨T2, gT2, eT2, oO⟩ : ∃ z, Srt z ∧ Sam z (U2 ++ V2) ∧ Own _ lo 73 3 A n c ((P ++ (T1 ++ (z ++ Q))).flatMap Dem.cells) := ⟨V2, gV.right, by rw [y1]; exact Sam.refl _, oO.to (by rw [y1]; simp)⟩
  clear y1
  refine ops_cons rfl (ow_move rfl ?_)
  refine ops_skip rfl rfl rfl rfl ?_
  refine ops_skip rfl rfl rfl rfl ?_
  refine ops_skip rfl rfl rfl rfl ?_
  refine ops_cons rfl (ow_pick rfl rfl ?_)
  refine ops_nil ?_
  refine c_false rfl ?_
  refine c_skip ?_
  refine fin_end0 rfl ?_
  · skip
    have hd := cut_done eT1 eT2 gT1 gT2 gU gV hA hB
    rw [← eU, ← eV] at hd
    exact ⟨T1 ++ T2, rfl, hd.1, hd.2, oO.to (by simp), X⟩

theorem merge_c : ∀ N, MergeIH N
  | 0 => fun A n c lo P S1 S2 Q a m b w _ _ _ _ _ _ _ _ _ _ h => absurd h (Nat.not_lt_zero _)
  | N + 1 => fun A n c lo P S1 S2 Q a m b w h1 h2 h3 h4 h5 h6 h7 h8 h9 h10 h11 => merge0_c N (merge_c N) A n c lo P S1 S2 Q a m b w h1 h2 h3 h4 h5 h6 h7 h8 h9 h10 h11

end Go.Proofs.Ytdoibplhbdkapaa
