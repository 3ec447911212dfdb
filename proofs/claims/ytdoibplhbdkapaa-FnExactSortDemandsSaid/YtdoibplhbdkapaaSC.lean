/- Demands are sorted. No condition. -/
import Derived.Test.YtdoibplhbdkapaaSB
import Derived.Test.YtdoibplhbdkapaaFlowE
import Derived.Test.YtdoibplhbdkapaaFlowL
namespace Go.Proofs.Ytdoibplhbdkapaa
open Go.RowKit
set_option linter.unusedVariables false
set_option linter.unusedSimpArgs false
set_option maxRecDepth 20000
def StI (xs : List Dem) (k : Nat) (U V : List Dem) : Prop := Srt U ∧ Srt V ∧ Sam (U ++ V) (xs.take (20 * k)) ∧ ((k = 0 ∧ U = [] ∧ V = []) ∨ (k = 1 ∧ U.length = 20 ∧ V = []) ∨ (k = 2 ∧ U.length = 20 ∧ V.length = 20))
theorem sti_len {xs : List Dem} {k : Nat} {U V : List Dem} (h : StI xs k U V) : U.length + V.length = 20 * k ∧ k ≤ 2 ∧ 20 * k ≤ xs.length := by
  obtain ⟨_, _, h1, h2⟩ := h
  have h3 := h1.l
  simp only [List.length_append, List.length_take] at h3
  rcases h2 with ⟨rfl, rfl, rfl⟩ | ⟨rfl, h4, rfl⟩ | ⟨rfl, h4, h5⟩ <;> simp at * <;> omega
theorem stab_step {xs : List Dem} {k : Nat} {U V T : List Dem} (h : StI xs k U V) (hk : 20 * k + 20 ≤ xs.length) (h40 : xs.length ≤ 40) (g1 : Srt T) (e1 : Sam T ((xs.drop (20 * k)).take 20)) : ∃ U' V', StI xs (k + 1) U' V' ∧ U' ++ V' = U ++ (V ++ T) := by
  obtain ⟨a1, a2, a3, a4⟩ := h
  have hl := e1.l
  simp only [List.length_take, List.length_drop] at hl
  have ht : xs.take (20 * (k + 1)) = xs.take (20 * k) ++ (xs.drop (20 * k)).take 20 := by rw [show 20 * (k + 1) = 20 * k + 20 by omega, List.take_add]
  have hs := a3.app e1
  rw [← ht] at hs
  rcases a4 with ⟨rfl, rfl, rfl⟩ | ⟨rfl, h4, rfl⟩ | ⟨rfl, h4, h5⟩
  · exact ⟨T, [], ⟨g1, Srt.nil_, by simpa using hs, .inr (.inl ⟨rfl, by omega, rfl⟩)⟩, by simp⟩
  · exact ⟨U, T, ⟨a1, g1, by simpa using hs, .inr (.inr ⟨rfl, h4, by omega⟩)⟩, by simp⟩
  · omega
theorem stab_end {xs : List Dem} {k : Nat} {U V T : List Dem} (h : StI xs k U V) (hk : ¬ 20 * k + 20 ≤ xs.length) (h40 : xs.length ≤ 40) (g1 : Srt T) (e1 : Sam T (xs.drop (20 * k))) : ∃ U' V', (Srt U' ∧ Srt V' ∧ Sam (U' ++ V') xs ∧ U'.length = min 20 xs.length) ∧ U' ++ V' = U ++ (V ++ T) := by
  obtain ⟨a1, a2, a3, a4⟩ := h
  have hl := e1.l
  simp only [List.length_drop] at hl
  have hs := a3.app e1
  rw [List.take_append_drop] at hs
  have hl3 := a3.l
  simp only [List.length_append, List.length_take] at hl3
  rcases a4 with ⟨rfl, rfl, rfl⟩ | ⟨rfl, h4, rfl⟩ | ⟨rfl, h4, h5⟩
  · exact ⟨T, [], ⟨g1, Srt.nil_, by simpa using hs, by omega⟩, by simp⟩
  · exact ⟨U, T, ⟨a1, g1, by simpa using hs, by rw [h4]; simp at hl3; omega⟩, by simp⟩
  · have : T = [] := List.eq_nil_of_length_eq_zero (by omega)
    subst this
    exact ⟨U, V, ⟨a1, a2, by simpa using hs, by omega⟩, by simp⟩
theorem one_Dem (xs : List Dem) : ∀ u ∈ xs.flatMap Dem.cells, u.oneCell' = true := fun u hu => by
  obtain ⟨x, _, h⟩ := List.mem_flatMap.1 hu
  simp only [Dem.cells, List.mem_cons, List.mem_append, List.not_mem_nil, or_false, List.cons_append, List.nil_append] at h
  rcases h with rfl | rfl | rfl <;> rfl
set_option maxHeartbeats 1000000 in
theorem stable_c (A : Option Addr) (n c lo : Nat) (xs : List Dem) (w : World) (oO : Own w lo 73 3 A n c ((xs).flatMap Dem.cells)) (h40 : xs.length ≤ 40) (hE : EvD xs) :
    Calls Try.prog 81 #[.slice A n c, .int .i64 (n : Nat), .func (.func 49) #[] #[]] w (Ret fun v w' => ∃ T, v = .tuple #[] ∧ Srt T ∧ Sam T xs ∧ Own w' lo 73 3 A n c ((T).flatMap Dem.cells) ∧ w.grownBy w' (Value.slice A n c).ownBlock) := by
  have hL := own_n oO
  have X := gb_refl w (Value.slice A n c).ownBlock
  refine calls_of (args := [.slice A n c, .int .i64 (n : Nat), .func (.func 49) #[] #[]]) Try.func81 Try.ntmps81 rfl rfl ?_
  refine c_seqR ?_
  refine ops_cons rfl (ow_assign rfl ?_)
  refine ops_nil ?_
  refine c_seqR ?_
  refine ops_cons rfl (ow_move rfl ?_)
  refine ops_cons rfl (ow_assign rfl ?_)
  refine ops_cons rfl (ow_assign rfl ?_)
  refine ops_nil ?_
  refine c_seq ?_
  refine c_block ?_
  refine c_loop (G := Nat × List Dem × List Dem) (fun ⟨k, U, V⟩ => [(0, .slice A n c), (1, .int .i64 (n : Nat)), (2, .func (.func 49) #[] #[]), (6, .int .i64 20), (7, .int .i64 (20 * (k : Int))), (8, .int .i64 (20 * (k : Int) + 20))]) (fun ⟨k, U, V⟩ wr => StI xs k U V ∧ Own wr lo 73 3 A n c (((U ++ V) ++ xs.drop (20 * k)).flatMap Dem.cells) ∧ w.grownBy wr (Value.slice A n c).ownBlock) (fun ⟨k, U, V⟩ => 3 - k) (0, [], []) (.cons rfl (.cons rfl (.cons rfl (.cons rfl (.cons rfl (.cons rfl (.nil _))))))) ?_ ?_
  · exact ⟨⟨Srt.nil_, Srt.nil_, Sam.refl _, .inl ⟨rfl, rfl, rfl⟩⟩, oO, X⟩
  clear oO
  clear X
  rintro ⟨k, U, V⟩ wr ⟨hI, oO, X⟩
  refine c_seq ?_
  refine c_seqR ?_
  refine ops_cons rfl (ow_move rfl ?_)
  refine ops_cons rfl (ow_move rfl ?_)
  refine ops_cons rfl (ow_leq2 rfl rfl (fun hbn => ?_) (fun hbn => ?_))
  refine ops_nil ?_
  refine c_true rfl ?_
  refine c_skip ?_
  refine tq_n ?_
  refine c_block ?_
  refine c_seqR ?_
  refine ops_cons rfl (ow_move rfl ?_)
  refine ops_cons rfl (ow_move rfl ?_)
  refine ops_cons rfl (ow_move rfl ?_)
  refine ops_cons rfl (ow_move rfl ?_)
  have hlk := sti_len hI
  refine ops_cons rfl (ow_call ent101 rfl (ret_mono (insert_c A n c lo (U ++ V) ((xs.drop (20 * k)).take 20) (xs.drop (20 * k + 20)) (20 * (k : Int)) (20 * (k : Int) + 20) _ (oO.to (by rw [drop_cut])) (by omega) (by first | omega | (simp; done) | (simp; omega)) (by first | omega | (simp; done) | (simp; omega)) (EvD.sub hE (fun z hz => List.mem_of_mem_drop (List.mem_of_mem_take hz)))) ?_))
  rintro _ w2 ⟨T, rfl, gT, eT, oN, x1⟩
  replace X := gb_trans X x1; clear x1 oO
  obtain ⟨U', V', hI', eUV⟩ := stab_step hI (by omega) h40 gT eT
  refine ops_nil ?_
  refine c_seqR ?_
  refine ops_cons rfl (ow_move rfl ?_)
  refine ops_cons rfl (ow_assign rfl ?_)
  refine ops_nil ?_
  refine c_region ?_
  refine ops_cons rfl (ow_move rfl ?_)
  refine ops_cons rfl (ow_move rfl ?_)
  refine ops_cons rfl (ow_add rfl rfl (w64 (by omega)) ?_)
  refine ops_cons rfl (ow_assign rfl ?_)
  refine ops_nil ?_
  refine bq_n ?_
  refine tq_n ⟨(k + 1, U', V'), (.cons rfl (.cons rfl (.cons rfl (.cons rfl (.cons rfl (.cons rfl (.nil _))))))), ?_, ?_⟩
  · exact ⟨hI', (oN.to (by rw [eUV, show 20 * (k + 1) = 20 * k + 20 by omega]; simp)), X⟩
  · first | omega | (dsimp only; omega)
  refine ops_nil ?_
  refine c_false rfl ?_
  refine c_exit ?_
  refine tq_e ?_
  refine tq_e ?_
  refine bq_e ?_
  refine tq_n ?_
  refine c_seqR ?_
  refine ops_cons rfl (ow_move rfl ?_)
  refine ops_cons rfl (ow_move rfl ?_)
  refine ops_cons rfl (ow_move rfl ?_)
  refine ops_cons rfl (ow_move rfl ?_)
  have hlk := sti_len hI
  refine ops_cons rfl (ow_call ent101 rfl (ret_mono (insert_c A n c lo (U ++ V) (xs.drop (20 * k)) [] (20 * (k : Int)) n _ (oO.to (by simp)) (by omega) (by first | omega | (simp; done) | (simp; omega)) (by first | omega | (simp; done) | (simp; omega)) (EvD.sub hE (fun z hz => List.mem_of_mem_drop hz))) ?_))
  rintro _ w4 ⟨T, rfl, gT, eT, oN, x3⟩
  replace X := gb_trans X x3; clear x3 oO
  obtain ⟨UU, VV, ⟨gU, gV, sUV, lU⟩, eUV⟩ := stab_end hI (by omega) h40 gT eT
  replace oN := oN.to (cs' := (UU ++ VV).flatMap Dem.cells) (by rw [eUV]; simp)
  clear hI eUV hlk
  have lUV := sUV.l
  simp only [List.length_append] at lUV
  refine ops_nil ?_
  refine c_block ?_
  refine c_loop (G := Int × List Dem) (fun ⟨bs, R⟩ => [(1, .int .i64 (n : Nat)), (2, .func (.func 49) #[] #[]), (0, .slice A n c), (6, .int .i64 bs)]) (fun ⟨bs, R⟩ wr => ((bs = 20 ∧ R = UU ++ VV) ∨ (bs = 40 ∧ Srt R ∧ Sam R xs)) ∧ Own wr lo 73 3 A n c ((R).flatMap Dem.cells) ∧ w.grownBy wr (Value.slice A n c).ownBlock) (fun ⟨bs, R⟩ => (40 - bs).toNat) (20, UU ++ VV) (.cons rfl (.cons rfl (.cons rfl (.cons rfl (.nil _))))) ?_ ?_
  · exact ⟨(.inl ⟨rfl, rfl⟩), oN, X⟩
  clear oN
  clear X
  rintro ⟨bs, R⟩ wr ⟨hR, oO, X⟩
  refine c_seq ?_
  refine c_seqR ?_
  refine ops_cons rfl (ow_move rfl ?_)
  refine ops_cons rfl (ow_move rfl ?_)
  refine ops_cons rfl (ow_lss2 rfl rfl (fun hbs => ?_) (fun hbs => ?_))
  replace hR : bs = 20 ∧ R = UU ++ VV := by
    rcases hR with hR | hR
    · exact hR
    · omega
  refine ops_nil ?_
  refine c_true rfl ?_
  refine c_skip ?_
  refine tq_n ?_
  refine c_block ?_
  refine c_seqR ?_
  refine ops_cons rfl (ow_move rfl ?_)
  refine ops_cons rfl (ow_mul rfl rfl (w64 (by omega)) ?_)
  refine ops_cons rfl (ow_assign rfl ?_)
  refine ops_cons rfl (ow_assign rfl ?_)
  refine ops_nil ?_
  refine c_seq ?_
  refine c_block ?_
  refine c_loop (G := Int × Int × List Dem) (fun ⟨a, b, R2⟩ => [(1, .int .i64 (n : Nat)), (2, .func (.func 49) #[] #[]), (6, .int .i64 bs), (28, .int .i64 bs), (29, .int .i64 (n : Nat)), (31, .int .i64 bs), (0, .slice A n c), (7, .int .i64 a), (8, .int .i64 b)]) (fun ⟨a, b, R2⟩ wr => ((a = 0 ∧ b = 40 ∧ R2 = UU ++ VV) ∨ (a = 40 ∧ b = 80 ∧ Srt R2 ∧ Sam R2 xs)) ∧ Own wr lo 73 3 A n c ((R2).flatMap Dem.cells) ∧ w.grownBy wr (Value.slice A n c).ownBlock) (fun ⟨a, b, R2⟩ => (80 - b).toNat) (0, 2 * bs, R) (.cons rfl (.cons rfl (.cons rfl (.cons rfl (.cons rfl (.cons rfl (.cons rfl (.cons rfl (.cons rfl (.nil _)))))))))) ?_ ?_
  · exact ⟨(.inl ⟨rfl, by first | omega | (dsimp only; omega), hR.2⟩), oO, X⟩
  clear oO
  clear X
  rintro ⟨a, b, R2⟩ wr ⟨hR2, oO, X⟩
  refine c_seq ?_
  refine c_seqR ?_
  refine ops_cons rfl (ow_move rfl ?_)
  refine ops_cons rfl (ow_move rfl ?_)
  refine ops_cons rfl (ow_leq2 rfl rfl (fun hb2 => ?_) (fun hb2 => ?_))
  replace hR2 : a = 0 ∧ b = 40 ∧ R2 = UU ++ VV := by
    rcases hR2 with hR2 | hR2
    · exact hR2
    · omega
  obtain ⟨ea, eb, eR⟩ := hR2
  refine ops_nil ?_
  refine c_true rfl ?_
  refine c_skip ?_
  refine tq_n ?_
  refine c_block ?_
  refine c_seqR ?_
  refine ops_cons rfl (ow_move rfl ?_)
  refine ops_cons rfl (ow_move rfl ?_)
  refine ops_cons rfl (ow_move rfl ?_)
  refine ops_cons rfl (ow_move rfl ?_)
  refine ops_cons rfl (ow_add rfl rfl (w64 (by omega)) ?_)
  refine ops_cons rfl (ow_move rfl ?_)
  refine ops_cons rfl (ow_move rfl ?_)
  refine ops_cons rfl (ow_call ent102 rfl (ret_mono (merge_c 41 A n c lo [] UU VV [] a (a + bs) b _ (oO.to (by simp [eR])) (by omega) (by first | omega | (simp; done) | (simp; omega)) (by first | omega | (simp; done) | (simp; omega)) (by first | omega | (simp; done) | (simp; omega)) (EvD.sub hE (fun z hz => sUV.mem hz)) gU gV (by omega) (by omega) (by omega)) ?_))
  rintro _ w6 ⟨T, rfl, gT, eT, oN, x5⟩
  replace X := gb_trans X x5; clear x5 oO
  refine ops_nil ?_
  refine c_seqR ?_
  refine ops_cons rfl (ow_move rfl ?_)
  refine ops_cons rfl (ow_assign rfl ?_)
  refine ops_nil ?_
  refine c_region ?_
  refine ops_cons rfl (ow_move rfl ?_)
  refine ops_cons rfl (ow_move rfl ?_)
  refine ops_cons rfl (ow_mul rfl rfl (w64 (by omega)) ?_)
  refine ops_cons rfl (ow_add rfl rfl (w64 (by omega)) ?_)
  refine ops_cons rfl (ow_assign rfl ?_)
  refine ops_nil ?_
  refine bq_n ?_
  refine tq_n ⟨(b, b + 2 * bs, T), (.cons rfl (.cons rfl (.cons rfl (.cons rfl (.cons rfl (.cons rfl (.cons rfl (.cons rfl (.cons rfl (.nil _)))))))))), ?_, ?_⟩
  · exact ⟨(.inr ⟨by first | omega | (dsimp only; omega), by first | omega | (dsimp only; omega), gT, eT.trans sUV⟩), (oN.to (by simp)), X⟩
  · first | omega | (dsimp only; omega)
  refine ops_nil ?_
  refine c_false rfl ?_
  refine c_exit ?_
  refine tq_e ?_
  refine tq_e ?_
  refine bq_e ?_
  refine tq_n ?_
  refine c_seq ?_
  refine c_seqR ?_
  refine ops_cons rfl (ow_move rfl ?_)
  refine ops_cons rfl (ow_move rfl ?_)
  refine ops_cons rfl (ow_add rfl rfl (w64 (by omega)) ?_)
  refine ops_cons rfl (ow_assign rfl ?_)
  refine ops_nil ?_
  refine c_seqR ?_
  refine ops_cons rfl (ow_move rfl ?_)
  refine ops_cons rfl (ow_move rfl ?_)
  refine ops_cons rfl (ow_lss2 rfl rfl (fun hm2 => ?_) (fun hm2 => ?_))
  replace hR2 : a = 0 ∧ b = 40 ∧ R2 = UU ++ VV := by
    rcases hR2 with hR2 | hR2
    · exact hR2
    · omega
  obtain ⟨ea, eb, eR⟩ := hR2
  refine ops_nil ?_
  refine c_true rfl ?_
  refine c_region ?_
  refine ops_cons rfl (ow_move rfl ?_)
  refine ops_cons rfl (ow_move rfl ?_)
  refine ops_cons rfl (ow_move rfl ?_)
  refine ops_cons rfl (ow_move rfl ?_)
  refine ops_cons rfl (ow_move rfl ?_)
  refine ops_cons rfl (ow_call ent102 rfl (ret_mono (merge_c 41 A n c lo [] UU VV [] a (a + bs) n _ (oO.to (by simp [eR])) (by omega) (by first | omega | (simp; done) | (simp; omega)) (by first | omega | (simp; done) | (simp; omega)) (by first | omega | (simp; done) | (simp; omega)) (EvD.sub hE (fun z hz => sUV.mem hz)) gU gV (by omega) (by omega) (by omega)) ?_))
  rintro _ w9 ⟨T, rfl, gT, eT, oN, x7⟩
  replace X := gb_trans X x7; clear x7 oO
  refine ops_nil ?_
  refine tq_n ?_
  refine c_region ?_
  refine ops_cons rfl (ow_move rfl ?_)
  refine ops_cons rfl (ow_mul rfl rfl (w64 (by omega)) ?_)
  refine ops_cons rfl (ow_assign rfl ?_)
  refine ops_nil ?_
  refine bq_n ?_
  refine tq_n ⟨(bs * 2, T), (.cons rfl (.cons rfl (.cons rfl (.cons rfl (.nil _))))), ?_, ?_⟩
  · exact ⟨(.inr ⟨by omega, gT, eT.trans sUV⟩), (oN.to (by simp)), X⟩
  · first | omega | (dsimp only; omega)
  replace hR2 : Srt R2 ∧ Sam R2 xs := by
    rcases hR2 with hR2 | hR2
    · omega
    · exact hR2.2.2
  refine ops_nil ?_
  refine c_false rfl ?_
  refine c_skip ?_
  refine tq_n ?_
  refine c_region ?_
  refine ops_cons rfl (ow_move rfl ?_)
  refine ops_cons rfl (ow_mul rfl rfl (w64 (by omega)) ?_)
  refine ops_cons rfl (ow_assign rfl ?_)
  refine ops_nil ?_
  refine bq_n ?_
  refine tq_n ⟨(bs * 2, R2), (.cons rfl (.cons rfl (.cons rfl (.cons rfl (.nil _))))), ?_, ?_⟩
  · exact ⟨(.inr ⟨by omega, hR2⟩), oO, X⟩
  · first | omega | (dsimp only; omega)
  refine ops_nil ?_
  refine c_false rfl ?_
  refine c_exit ?_
  refine tq_e ?_
  refine tq_e ?_
  refine bq_e ?_
  refine fin_end0 rfl ?_
  · skip
    rcases hR with ⟨h1, h2⟩ | ⟨h1, h2, h3⟩
    · have y1 : VV = [] := List.eq_nil_of_length_eq_zero (by omega)
      exact ⟨R, rfl, by rw [h2, y1, List.append_nil]; exact gU, by rw [h2]; exact sUV, oO, X⟩
    · exact ⟨R, rfl, h2, h3, oO, X⟩

theorem stableF_c (A : Option Addr) (n c lo : Nat) (xs : List Dem) (w : World) (oO : Own w lo 73 3 A n c ((xs).flatMap Dem.cells)) (h40 : xs.length ≤ 40) (hE : EvD xs) :
    Calls Try.prog 48 #[.slice A n c, .func (.func 49) #[] #[]] w (Ret fun v w' => ∃ T, v = .tuple #[] ∧ Srt T ∧ Sam T xs ∧ Own w' lo 73 3 A n c ((T).flatMap Dem.cells) ∧ w.grownBy w' (Value.slice A n c).ownBlock) := by
  have X := gb_refl w (Value.slice A n c).ownBlock
  refine calls_of (args := [.slice A n c, .func (.func 49) #[] #[]]) Try.func48 Try.ntmps48 rfl rfl ?_
  refine c_region ?_
  refine ops_cons rfl (ow_move rfl ?_)
  refine ops_cons rfl (ow_move rfl ?_)
  refine ops_cons rfl (ow_len Try.underlying30 rfl ?_)
  refine ops_cons rfl (ow_move rfl ?_)
  refine ops_cons rfl (ow_call ent81 rfl (ret_mono (stable_c A n c lo xs _ oO h40 hE) ?_))
  rintro _ w2 ⟨T, rfl, gT, eT, oN, x1⟩
  replace X := gb_trans X x1; clear x1 oO
  refine ops_nil ?_
  refine fin_end0 rfl ?_
  exact ⟨T, rfl, gT, eT, oN, X⟩

theorem cloneDem_c (A : Option Addr) (B c : Nat) (xs : List Dem) (w : World) (hs : Sl B w A (xs.flatMap Dem.cells)) (hl : xs.length ≤ 1048576) :
    Calls Try.prog 47 #[.slice A xs.length c] w (Ret fun v w' => ∃ A' c', v = .slice A' xs.length c' ∧ Own w' w.heap.size 73 3 A' xs.length c' (xs.flatMap Dem.cells) ∧ Ext w w') := by
  have Bhs := hs.1
  have X := Ext.refl w
  refine calls_of (args := [.slice A xs.length c]) Try.func47 Try.ntmps47 rfl rfl ?_
  refine c_seqR ?_
  refine ops_cons rfl (ow_assign rfl ?_)
  refine ops_nil ?_
  refine c_seq ?_
  refine c_seqR ?_
  refine ops_cons rfl (ow_move rfl ?_)
  refine ops_cons rfl (ow_eqlN2 Try.underlying30 rfl rfl (fun hA => ?_) (fun hA => ?_))
  refine ops_nil ?_
  refine c_true rfl ?_
  refine c_seqR ?_
  refine ops_cons rfl (ow_assign rfl ?_)
  refine ops_nil ?_
  refine c_ret ?_
  refine tq_r ?_
  refine fin_ret1 rfl rfl ?_
  · skip
    first
    | (subst hA
       have e := hs.none_nil Dem.len (by omega)
       subst e; exact ⟨none, 0, rfl, Own.nil_ _ _ _ _, X⟩)
    | (rw [Nat.zero_add] at oN; exact ⟨_, _, by rw [Nat.zero_add], oN, X⟩)
  refine ops_nil ?_
  refine c_false rfl ?_
  refine c_skip ?_
  refine tq_n ?_
  refine c_seqR ?_
  refine ops_cons rfl (ow_buildSlice el30 ti73 rfl rfl rfl rfl rfl ?_)
  intro gO w2 egO oO bbgO x1 zgO
  replace oO := Own.low oO X.size
  replace hs := hs.ext x1
  replace X := Ext.trans X x1; clear x1
  refine ops_cons rfl (ow_move rfl ?_)
  refine ops_cons rfl (ow_append (ts := #[]) oO X.size hs (flat_len Dem.len xs) (one_Dem xs) el30 ti73 rfl rfl rfl rfl (by omega) (by omega) ?_)
  intro AoN coN w4 oN hg3
  replace hs := hs.grown hg3 (fun g hg => Nat.le_trans Bhs (Own.lt oO hg).1)
  replace X := X.grown hg3 X.size (fun g hg => (Own.lt oO hg).1)
  clear hg3
  refine ops_cons rfl (ow_assign rfl ?_)
  refine ops_nil ?_
  refine c_ret ?_
  refine fin_ret1 rfl rfl ?_
  · skip
    first
    | (subst hA
       have e := hs.none_nil Dem.len (by omega)
       subst e; exact ⟨none, 0, rfl, Own.nil_ _ _ _ _, X⟩)
    | (rw [Nat.zero_add] at oN; exact ⟨_, _, by rw [Nat.zero_add], oN, X⟩)

theorem iSort_c (A : Option Addr) (B c : Nat) (xs : List Dem) (w : World) (hs : Sl B w A (xs.flatMap Dem.cells)) (hl : xs.length ≤ 1048576) :
    Calls Try.prog 14 #[.slice A xs.length c] w (Ret fun v w' => ∃ A' c', v = .tuple #[.slice A' (sortF xs).1.length c', .int .i64 (sortF xs).2] ∧ Own w' w.heap.size 73 3 A' (sortF xs).1.length c' ((sortF xs).1.flatMap Dem.cells) ∧ Ext w w') := by
  have Bhs := hs.1
  have X := Ext.refl w
  refine calls_of (args := [.slice A xs.length c]) Try.func14 Try.ntmps14 rfl rfl ?_
  refine c_seqR ?_
  refine ops_cons rfl (ow_assign rfl ?_)
  refine ops_cons rfl (ow_assign rfl ?_)
  refine ops_nil ?_
  refine c_seq ?_
  refine c_seqR ?_
  refine ops_cons rfl (ow_move rfl ?_)
  refine ops_cons rfl (ow_callB ent46 rfl (iAreD_c _ _ _ _ _ hs hl) (fun w2 hd x1 => ?_) (fun w2 hd x1 => ?_))
  replace hs := hs.ext x1
  replace X := Ext.trans X x1; clear x1
  refine ops_cons rfl (ow_not rfl ?_)
  refine ops_nil ?_
  refine c_false rfl ?_
  refine c_skip ?_
  refine tq_n ?_
  refine c_seqR ?_
  refine ops_cons rfl (ow_move rfl ?_)
  refine ops_cons rfl (ow_call ent47 rfl (ret_mono (cloneDem_c _ _ _ xs _ hs hl) ?_))
  rintro _ w4 ⟨AC, cC, rfl, oC, x3⟩
  replace oC := Own.low oC X.size
  replace hs := hs.ext x3
  replace X := Ext.trans X x3; clear x3
  refine ops_cons rfl (ow_assign rfl ?_)
  refine ops_nil ?_
  refine c_seqR ?_
  refine ops_cons rfl (ow_move rfl ?_)
  refine ops_cons rfl (ow_call ent48 rfl (ret_mono (stableF_c AC xs.length cC w.heap.size xs _ oC (areD_len hd) (areD_every hd)) ?_))
  rintro _ w6 ⟨T, rfl, gT, eT, oN, x5⟩
  replace hs := hs.grown x5 (fun g hg => Nat.le_trans Bhs (Own.lt oC hg).1)
  replace X := X.grown x5 X.size (fun g hg => (Own.lt oC hg).1); clear x5 oC
  have eS := sort_done hd gT eT
  have lS := eT.l
  refine ops_nil ?_
  refine c_seqR ?_
  refine ops_cons rfl (ow_move rfl ?_)
  refine ops_cons rfl (ow_assign rfl ?_)
  refine ops_cons rfl (ow_assign rfl ?_)
  refine ops_nil ?_
  refine c_ret ?_
  refine fin_ret2 rfl rfl rfl ?_
  · skip
    first
    | (rw [sortF, if_neg (by simp [hd])]; exact ⟨none, 0, rfl, Own.nil_ _ _ _ _, X⟩)
    | (rw [sortF, if_pos hd]; refine ⟨AC, cC, ?_, ?_, X⟩
       · show Value.tuple #[.slice AC xs.length cC, .int .i64 0] = _
         rw [← eS, lS]
       · show Own _ _ _ _ AC (sd 4 xs).length cC ((sd 4 xs).flatMap Dem.cells)
         rw [← eS, lS]; exact oN)
  replace hs := hs.ext x1
  replace X := Ext.trans X x1; clear x1
  refine ops_cons rfl (ow_not rfl ?_)
  refine ops_nil ?_
  refine c_true rfl ?_
  refine c_seqR ?_
  refine ops_cons rfl (ow_assign rfl ?_)
  refine ops_cons rfl (ow_assign rfl ?_)
  refine ops_nil ?_
  refine c_ret ?_
  refine tq_r ?_
  refine fin_ret2 rfl rfl rfl ?_
  · skip
    first
    | (rw [sortF, if_neg (by simp [hd])]; exact ⟨none, 0, rfl, Own.nil_ _ _ _ _, X⟩)
    | (rw [sortF, if_pos hd]; refine ⟨AC, cC, ?_, ?_, X⟩
       · show Value.tuple #[.slice AC xs.length cC, .int .i64 0] = _
         rw [← eS, lS]
       · show Own _ _ _ _ AC (sd 4 xs).length cC ((sd 4 xs).flatMap Dem.cells)
         rw [← eS, lS]; exact oN)

theorem sSort_c (A : Option Addr) (B c : Nat) (xs : List Dem) (w : World) (hs : Sl B w A (xs.flatMap Dem.cells)) (hl : xs.length ≤ 1048576) :
    Calls Try.prog 12 #[.slice A xs.length c] w (Ret fun v w' => ∃ A' c', v = .tuple #[.slice A' (sortF xs).1.length c', .int .i64 (sortF xs).2] ∧ Own w' w.heap.size 73 3 A' (sortF xs).1.length c' ((sortF xs).1.flatMap Dem.cells) ∧ Ext w w') := by
  have Bhs := hs.1
  have X := Ext.refl w
  refine calls_of (args := [.slice A xs.length c]) Try.func12 Try.ntmps12 rfl rfl ?_
  refine c_seqR ?_
  refine ops_cons rfl (ow_assign rfl ?_)
  refine ops_cons rfl (ow_assign rfl ?_)
  refine ops_nil ?_
  refine c_seq ?_
  refine c_seqR ?_
  refine ops_cons rfl (ow_move rfl ?_)
  refine ops_cons rfl (ow_callB ent44 rfl (sAreD_c _ _ _ _ _ hs hl) (fun w2 hd x1 => ?_) (fun w2 hd x1 => ?_))
  replace hs := hs.ext x1
  replace X := Ext.trans X x1; clear x1
  have hl40 := areD_len hd
  refine ops_cons rfl (ow_not rfl ?_)
  refine ops_nil ?_
  refine c_false rfl ?_
  refine c_skip ?_
  refine tq_n ?_
  refine c_seqR ?_
  refine ops_cons rfl (ow_buildSlice el30 ti73 rfl rfl rfl rfl rfl ?_)
  intro gO w4 egO oT bbgO x3 zgO
  replace oT := Own.low oT X.size
  replace hs := hs.ext x3
  replace X := Ext.trans X x3; clear x3
  refine ops_cons rfl (ow_assign rfl ?_)
  refine ops_nil ?_
  refine c_seq ?_
  refine c_seqR ?_
  refine ops_cons rfl (ow_assign rfl ?_)
  refine ops_nil ?_
  refine c_block ?_
  refine c_loop (G := Nat × Int × Nat × Option Addr × Nat) (fun ⟨r, e, n1, A1, c1⟩ => [(0, .slice A xs.length c), (2, .slice none 0 0), (3, .int .i64 0), (4, .slice A1 n1 c1), (5, .int .i64 e)]) (fun ⟨r, e, n1, A1, c1⟩ wr => ((r = 0 ∧ e = 1) ∨ (r = 1 ∧ e = 2) ∨ (r = 2 ∧ e = 4) ∨ (r = 3 ∧ e = 8) ∨ (r = 4 ∧ e = 16)) ∧ n1 = (sd r xs).length ∧ Own wr w.heap.size 73 3 A1 n1 c1 ((sd r xs).flatMap Dem.cells) ∧ Sl B wr A (xs.flatMap Dem.cells) ∧ Ext w wr) (fun ⟨r, e, n1, A1, c1⟩ => 4 - r) (0, 1, 0, some ⟨gO, 0, none⟩, 0) (.cons rfl (.cons rfl (.cons rfl (.cons rfl (.cons rfl (.nil _)))))) ?_ ?_
  · exact ⟨(.inl ⟨rfl, rfl⟩), rfl, oT, hs, X⟩
  clear hs oT
  clear X
  rintro ⟨r, e, n1, A1, c1⟩ wr ⟨hr, hn1, oT, hs, X⟩
  refine c_seq ?_
  refine c_seqR ?_
  refine ops_cons rfl (ow_move rfl ?_)
  refine ops_cons rfl (ow_leq2 rfl rfl (fun he8 => ?_) (fun he8 => ?_))
  refine ops_nil ?_
  refine c_true rfl ?_
  refine c_skip ?_
  refine tq_n ?_
  refine c_seq ?_
  refine c_block ?_
  refine c_seqR ?_
  refine ops_cons rfl (ow_assign rfl ?_)
  refine ops_nil ?_
  refine c_block ?_
  refine c_loop (G := Nat × Nat × Option Addr × Nat) (fun ⟨k, n2, A2, c2⟩ => [(0, .slice A xs.length c), (2, .slice none 0 0), (3, .int .i64 0), (5, .int .i64 e), (11, .int .i64 e), (4, .slice A2 n2 c2), (6, .int .i64 (k : Nat))]) (fun ⟨k, n2, A2, c2⟩ wr => k ≤ xs.length ∧ n2 = (sd r xs).length + (kf e (xs.take k)).length ∧ True ∧ Own wr w.heap.size 73 3 A2 n2 c2 ((sd r xs ++ kf e (xs.take k)).flatMap Dem.cells) ∧ Sl B wr A (xs.flatMap Dem.cells) ∧ Ext w wr) (fun ⟨k, n2, A2, c2⟩ => xs.length - k) (0, n1, A1, c1) (.cons rfl (.cons rfl (.cons rfl (.cons rfl (.cons rfl (.cons rfl (.cons rfl (.nil _)))))))) ?_ ?_
  · exact ⟨by omega, (by rw [hn1]; rfl), trivial, (oT.to (by simp [kf])), hs, X⟩
  clear oT hs
  clear X
  rintro ⟨k, n2, A2, c2⟩ wr ⟨hk0, hn2, hkl, oT, hs, X⟩
  refine c_seq ?_
  refine c_seqR ?_
  refine ops_cons rfl (ow_move rfl ?_)
  refine ops_cons rfl (ow_move rfl ?_)
  refine ops_cons rfl (ow_len Try.underlying30 rfl ?_)
  refine ops_cons rfl (ow_lss2 rfl rfl (fun hk => ?_) (fun hk => ?_))
  obtain ⟨x, hx, dx⟩ := drop_at' hk
  refine ops_nil ?_
  refine c_true rfl ?_
  refine c_skip ?_
  refine tq_n ?_
  refine c_seq ?_
  refine c_block ?_
  refine c_seqR ?_
  refine ops_cons rfl (ow_move rfl ?_)
  refine ops_cons rfl (ow_move rfl ?_)
  refine ops_cons rfl (ow_indexT hs Dem.len rfl el30 rfl rfl rfl hx rfl ?_)
  refine ops_cons rfl (ow_fieldAddr off73_1 rfl ?_)
  refine ops_cons rfl (ow_loadTF hs Dem.len hx ti2 rfl rfl rfl ?_)
  refine ops_cons rfl (ow_move rfl ?_)
  refine ops_cons rfl (ow_eql2 rfl rfl (fun heq => ?_) (fun heq => ?_))
  have z1 := sd_len r xs
  have z2 := kf_le e xs k
  refine ops_nil ?_
  refine c_true rfl ?_
  refine c_region ?_
  refine ops_cons rfl (ow_move rfl ?_)
  refine ops_cons rfl (ow_move rfl ?_)
  refine ops_cons rfl (ow_move rfl ?_)
  refine ops_cons rfl (ow_indexT hs Dem.len rfl el30 rfl rfl rfl hx rfl ?_)
  refine ops_cons rfl (ow_loadTA hs Dem.len hx ti73 rfl ?_)
  refine ops_cons rfl (ow_buildSlice el30 ti73 rfl rfl rfl rfl rfl ?_)
  intro g5 w7 eg5 oV bbg5 x6 zg5
  replace oV := Own.low oV X.size
  replace oT := oT.ext x6
  replace hs := hs.ext x6
  replace X := Ext.trans X x6; clear x6
  refine ops_cons rfl (ow_append (ts := #[]) oT X.size oV.sl (by first | rfl | simp) (by first | exact List.all_eq_true.1 rfl | simp [Value.oneCell']) el30 ti73 rfl rfl rfl rfl (by omega) (by omega) ?_)
  intro AoU coU w9 oU hg8
  replace hs := hs.grown hg8 (fun g hg => Nat.le_trans Bhs (Own.lt oT hg).1)
  replace X := X.grown hg8 X.size (fun g hg => (Own.lt oT hg).1)
  clear hg8
  refine ops_cons rfl (ow_assign rfl ?_)
  refine ops_nil ?_
  refine bq_n ?_
  refine tq_n ?_
  refine c_region ?_
  refine ops_cons rfl (ow_move rfl ?_)
  refine ops_cons rfl (ow_add rfl rfl (w64 (by omega)) ?_)
  refine ops_cons rfl (ow_assign rfl ?_)
  refine ops_nil ?_
  refine tq_n ⟨(k + 1, n2 + 1, AoU, coU), (.cons rfl (.cons rfl (.cons rfl (.cons rfl (.cons rfl (.cons rfl (.cons rfl (.nil _)))))))), ?_, ?_⟩
  · exact ⟨by omega, (by rw [kf_snoc hx, if_pos heq]; simp; omega), trivial, (oU.to (by rw [kf_snoc hx, if_pos heq]; simp [repL, Dem.cells])), hs, X⟩
  · first | omega | (dsimp only; omega)
  refine ops_nil ?_
  refine c_false rfl ?_
  refine c_skip ?_
  refine bq_n ?_
  refine tq_n ?_
  refine c_region ?_
  refine ops_cons rfl (ow_move rfl ?_)
  refine ops_cons rfl (ow_add rfl rfl (w64 (by omega)) ?_)
  refine ops_cons rfl (ow_assign rfl ?_)
  refine ops_nil ?_
  refine tq_n ⟨(k + 1, n2, A2, c2), (.cons rfl (.cons rfl (.cons rfl (.cons rfl (.cons rfl (.cons rfl (.cons rfl (.nil _)))))))), ?_, ?_⟩
  · exact ⟨by omega, (by rw [kf_snoc hx, if_neg heq]; exact hn2), trivial, (oT.to (by rw [kf_snoc hx, if_neg heq])), hs, X⟩
  · first | omega | (dsimp only; omega)
  refine ops_nil ?_
  refine c_false rfl ?_
  refine c_exit ?_
  refine tq_e ?_
  refine tq_e ?_
  refine bq_e ?_
  refine bq_n ?_
  refine tq_n ?_
  refine c_region ?_
  refine ops_cons rfl (ow_move rfl ?_)
  refine ops_cons rfl (ow_mul rfl rfl (w64 (by omega)) ?_)
  refine ops_cons rfl (ow_assign rfl ?_)
  refine ops_nil ?_
  refine tq_n ⟨(r + 1, 2 * e, n2, A2, c2), (.cons rfl (.cons rfl (.cons rfl (.cons rfl (.cons rfl (.nil _)))))), ?_, ?_⟩
  · exact ⟨(by first | omega | (dsimp only; omega)), (by rw [sd_step (e := e) (r := r) (by omega), List.length_append, hn2, filter_end (xs := xs) (k := k) (by omega)]), (oT.to (by rw [sd_step (e := e) (r := r) (by omega), filter_end (xs := xs) (k := k) (by omega)])), hs, X⟩
  · first | omega | (dsimp only; omega)
  refine ops_nil ?_
  refine c_false rfl ?_
  refine c_exit ?_
  refine tq_e ?_
  refine tq_e ?_
  refine bq_e ?_
  refine tq_n ?_
  refine c_seqR ?_
  refine ops_cons rfl (ow_move rfl ?_)
  refine ops_cons rfl (ow_assign rfl ?_)
  refine ops_cons rfl (ow_assign rfl ?_)
  refine ops_nil ?_
  refine c_ret ?_
  refine fin_ret2 rfl rfl rfl ?_
  · skip
    first
    | (rw [sortF, if_neg (by simp [hd])]; exact ⟨none, 0, rfl, Own.nil_ _ _ _ _, X⟩)
    | (rw [sortF, if_pos hd]; obtain rfl : r = 4 := by omega
       subst hn1; exact ⟨A1, c1, rfl, oT, X⟩)
  replace hs := hs.ext x1
  replace X := Ext.trans X x1; clear x1
  refine ops_cons rfl (ow_not rfl ?_)
  refine ops_nil ?_
  refine c_true rfl ?_
  refine c_seqR ?_
  refine ops_cons rfl (ow_assign rfl ?_)
  refine ops_cons rfl (ow_assign rfl ?_)
  refine ops_nil ?_
  refine c_ret ?_
  refine tq_r ?_
  refine fin_ret2 rfl rfl rfl ?_
  · skip
    first
    | (rw [sortF, if_neg (by simp [hd])]; exact ⟨none, 0, rfl, Own.nil_ _ _ _ _, X⟩)
    | (rw [sortF, if_pos hd]; obtain rfl : r = 4 := by omega
       subst hn1; exact ⟨A1, c1, rfl, oT, X⟩)
end Go.Proofs.Ytdoibplhbdkapaa
