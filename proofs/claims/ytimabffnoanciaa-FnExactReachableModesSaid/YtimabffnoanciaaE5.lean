/- Marks written into mode tables. No condition. -/
import Derived.Test.YtimabffnoanciaaFlowT
import Derived.Test.YtimabffnoanciaaMod3
import Derived.Test.YtimabffnoanciaaMod9
import Derived.Test.YtimabffnoanciaaFlowH
namespace Go.Proofs.Ytimabffnoanciaa
open Go.RowKit
set_option linter.unusedVariables false
set_option linter.unusedSimpArgs false
set_option maxRecDepth 20000
theorem app_at {α : Type} {ps ys : List α} {k : Nat} {x : α} (hp : ps.length = k) (hx : ys[k]? = some x) : (ps ++ ys.drop k)[k]? = some x := by
  rw [List.getElem?_append_right (by omega), hp, Nat.sub_self, List.getElem?_drop, Nat.add_zero, hx]
theorem app_len {α : Type} {ps ys : List α} {k : Nat} (hp : ps.length = k) (hk : k ≤ ys.length) : (ps ++ ys.drop k).length = ys.length := by simp [hp]; omega
theorem app_set {α : Type} {ps ys : List α} {k : Nat} {x y : α} (hp : ps.length = k) (hx : ys[k]? = some x) : (ps ++ ys.drop k).set k y = (ps ++ [y]) ++ ys.drop (k + 1) := by
  obtain ⟨hk, _⟩ := List.getElem?_eq_some_iff.1 hx
  rw [List.set_append, if_neg (by omega), hp, Nat.sub_self, List.drop_eq_getElem_cons hk, List.set_cons_zero]; simp
theorem app2_at {α : Type} {ps zs : List α} {k : Nat} {y : α} (hp : ps.length = k) : ((ps ++ [y]) ++ zs)[k]? = some y := by
  rw [List.append_assoc, List.getElem?_append_right (by omega), hp]; simp
theorem app2_len {α : Type} {ps ys : List α} {k : Nat} {x y : α} (hp : ps.length = k) (hx : ys[k]? = some x) : ys.length = ((ps ++ [y]) ++ ys.drop (k + 1)).length := by
  obtain ⟨hk, _⟩ := List.getElem?_eq_some_iff.1 hx
  simp [hp]; omega
theorem markI_c (A : Option Addr) (c lo : Nat) (xs : List Int) (m : Int) (w : World) (oO : Own w lo 2 1 A xs.length c (xs.flatMap eI)) (hl : xs.length ≤ 1048576) (hm : 0 ≤ m ∧ m ≤ 1125899906842624) :
    Calls Try.prog 49 #[.slice A xs.length c, .int .i64 m] w (Ret fun v w' => v = .int .i64 (m + xs.length) ∧ Own w' lo 2 1 A xs.length c ((seqI m xs.length).flatMap eI) ∧ w.grownBy w' (Value.slice A xs.length c).ownBlock) := by
  replace oO := oO.to (cs' := (seqI m 0 ++ xs.drop 0).flatMap eI) rfl
  have X := gb_refl w (Value.slice A xs.length c).ownBlock
  refine calls_of (args := [.slice A xs.length c, .int .i64 m]) Try.func49 Try.ntmps49 rfl rfl ?_
  refine c_seqR ?_
  refine ops_cons rfl (ow_assign rfl ?_)
  refine ops_nil ?_
  refine c_seq ?_
  refine c_seqR ?_
  refine ops_cons rfl (ow_assign rfl ?_)
  refine ops_nil ?_
  refine c_block ?_
  refine c_loop (G := Nat × Int) (fun ⟨k, a⟩ => [(0, .slice A xs.length c), (1, .int .i64 a), (5, .int .i64 (k : Nat))]) (fun ⟨k, a⟩ wr => a = m + k ∧ k ≤ xs.length ∧ Own wr lo 2 1 A xs.length c ((seqI m k ++ xs.drop k).flatMap eI) ∧ w.grownBy wr (Value.slice A xs.length c).ownBlock) (fun ⟨k, a⟩ => xs.length - k) (0, m) (.cons rfl (.cons rfl (.cons rfl (.nil _)))) ?_ ?_
  · exact ⟨by simp, by omega, oO, X⟩
  clear oO
  clear X
  rintro ⟨k, a⟩ wr ⟨ha, hk0, oO, X⟩
  subst ha
  refine c_seq ?_
  refine c_seqR ?_
  refine ops_cons rfl (ow_move rfl ?_)
  refine ops_cons rfl (ow_move rfl ?_)
  refine ops_cons rfl (ow_len Try.underlying24 rfl ?_)
  refine ops_cons rfl (ow_lss2 rfl rfl (fun hk => ?_) (fun hk => ?_))
  · skip
    have hk1 : k < xs.length := by omega
    refine ops_nil ?_
    refine c_true rfl ?_
    refine c_skip ?_
    refine tq_n ?_
    refine c_seq ?_
    refine c_block ?_
    refine c_seqR ?_
    refine ops_cons rfl (ow_move rfl ?_)
    refine ops_cons rfl (ow_move rfl ?_)
    refine ops_cons rfl (ow_move rfl ?_)
    refine ops_cons rfl (ow_indexT (oO).sl eI_len rfl el24 rfl (by simp [seqI_len]; omega) rfl (seqI_at' hk1) rfl ?_)
    refine ops_cons rfl (ow_storeR oO ti2 rfl rfl rfl rfl (by omega) (by omega) rfl ?_)
    intro w2 oN hg1 z3
    replace X : w.grownBy w2 (Value.slice A xs.length c).ownBlock := by first | exact gb_trans X hg1 | exact gb_new X hg1 (fun g hg => (Own.lt oO hg).1)
    clear hg1 z3
    replace oN := oN.to (cs' := (seqI m (k + 1) ++ xs.drop (k + 1)).flatMap eI) (by rw [← seqI_set hk1, ← set_flat eI_len _ _ k (by simp [seqI_len]; omega)]; try rfl)
    refine ops_nil ?_
    refine c_region ?_
    refine ops_cons rfl (ow_move rfl ?_)
    refine ops_cons rfl (ow_add rfl rfl (w64 (by omega)) ?_)
    refine ops_cons rfl (ow_assign rfl ?_)
    refine ops_nil ?_
    refine bq_n ?_
    refine tq_n ?_
    refine c_region ?_
    refine ops_cons rfl (ow_move rfl ?_)
    refine ops_cons rfl (ow_add rfl rfl (w64 (by omega)) ?_)
    refine ops_cons rfl (ow_assign rfl ?_)
    refine ops_nil ?_
    refine tq_n ⟨(k + 1, m + k + 1), (.cons rfl (.cons rfl (.cons rfl (.nil _)))), ?_, ?_⟩
    · exact ⟨by omega, by omega, oN, X⟩
    · dsimp only; omega
  · skip
    rw [seqI_end hk0 hk] at oO
    refine ops_nil ?_
    refine c_false rfl ?_
    refine c_exit ?_
    refine tq_e ?_
    refine tq_e ?_
    refine bq_e ?_
    refine tq_n ?_
    refine c_seqR ?_
    refine ops_cons rfl (ow_move rfl ?_)
    refine ops_cons rfl (ow_assign rfl ?_)
    refine ops_nil ?_
    refine c_ret ?_
    refine fin_ret1 rfl rfl ?_
    exact ⟨by rw [show k = xs.length by omega], oO, X⟩

theorem heldI_c (A : Option Addr) (B c n : Nat) (m : Int) (w : World) (hs : Sl B w A ((seqI m n).flatMap eI)) (hl : n ≤ 1048576) (hm : 0 ≤ m ∧ m ≤ 1125899906842624) :
    Calls Try.prog 50 #[.slice A n c, .int .i64 m] w (Ret fun v w' => v = .int .i64 (m + n) ∧ Ext w w') := by
  have Bhs := hs.1
  have X := Ext.refl w
  refine calls_of (args := [.slice A n c, .int .i64 m]) Try.func50 Try.ntmps50 rfl rfl ?_
  refine c_seqR ?_
  refine ops_cons rfl (ow_assign rfl ?_)
  refine ops_nil ?_
  refine c_seq ?_
  refine c_seqR ?_
  refine ops_cons rfl (ow_assign rfl ?_)
  refine ops_nil ?_
  refine c_block ?_
  refine c_loop (G := Nat × Int) (fun ⟨k, a⟩ => [(0, .slice A n c), (1, .int .i64 a), (5, .int .i64 (k : Nat))]) (fun ⟨k, a⟩ wr => a = m + k ∧ k ≤ n ∧ Sl B wr A ((seqI m n).flatMap eI) ∧ Ext w wr) (fun ⟨k, a⟩ => n - k) (0, m) (.cons rfl (.cons rfl (.cons rfl (.nil _)))) ?_ ?_
  · exact ⟨by simp, by omega, hs, X⟩
  clear hs
  clear X
  rintro ⟨k, a⟩ wr ⟨ha, hk0, hs, X⟩
  subst ha
  refine c_seq ?_
  refine c_seqR ?_
  refine ops_cons rfl (ow_move rfl ?_)
  refine ops_cons rfl (ow_move rfl ?_)
  refine ops_cons rfl (ow_len Try.underlying24 rfl ?_)
  refine ops_cons rfl (ow_lss2 rfl rfl (fun hk => ?_) (fun hk => ?_))
  · skip
    have hk1 : k < n := by omega
    refine ops_nil ?_
    refine c_true rfl ?_
    refine c_skip ?_
    refine tq_n ?_
    refine c_seq ?_
    refine c_block ?_
    refine c_seq ?_
    refine c_seqR ?_
    refine ops_cons rfl (ow_move rfl ?_)
    refine ops_cons rfl (ow_move rfl ?_)
    refine ops_cons rfl (ow_indexT hs eI_len rfl el24 rfl (seqI_len _ _).symm rfl (seqI_at hk1) rfl ?_)
    refine ops_cons rfl (ow_loadT hs eI_len (seqI_at hk1) ti2 rfl rfl rfl ?_)
    refine ops_cons rfl (ow_move rfl ?_)
    refine ops_cons rfl (ow_neq2 rfl rfl (fun h1 => absurd h1 (by simp)) (fun h1 => ?_))
    refine ops_nil ?_
    refine c_false rfl ?_
    refine c_skip ?_
    refine tq_n ?_
    refine c_region ?_
    refine ops_cons rfl (ow_move rfl ?_)
    refine ops_cons rfl (ow_add rfl rfl (w64 (by omega)) ?_)
    refine ops_cons rfl (ow_assign rfl ?_)
    refine ops_nil ?_
    refine bq_n ?_
    refine tq_n ?_
    refine c_region ?_
    refine ops_cons rfl (ow_move rfl ?_)
    refine ops_cons rfl (ow_add rfl rfl (w64 (by omega)) ?_)
    refine ops_cons rfl (ow_assign rfl ?_)
    refine ops_nil ?_
    refine tq_n ⟨(k + 1, m + k + 1), (.cons rfl (.cons rfl (.cons rfl (.nil _)))), ?_, ?_⟩
    · exact ⟨by omega, by omega, hs, X⟩
    · dsimp only; omega
  · skip
    refine ops_nil ?_
    refine c_false rfl ?_
    refine c_exit ?_
    refine tq_e ?_
    refine tq_e ?_
    refine bq_e ?_
    refine tq_n ?_
    refine c_seqR ?_
    refine ops_cons rfl (ow_move rfl ?_)
    refine ops_cons rfl (ow_assign rfl ?_)
    refine ops_nil ?_
    refine c_ret ?_
    refine fin_ret1 rfl rfl ?_
    exact ⟨by rw [show k = n by omega], X⟩

theorem markModes_c (A : Option Addr) (c lo hi : Nat) (ys : List ModeI) (m : Int) (w : World) (oO : Own w lo 114 3 A ys.length c (ys.flatMap ModeI.cells)) (oM : NFrom w lo 2 0 ys) (hdj : Disj ys) (hU : ∀ g, (Value.slice A ys.length c).ownBlock = some g → g < hi) (hUN : ∀ y ∈ ys, ∀ g, y.blk = some g → g < hi) (hl : ys.length ≤ 1048576) (hz : ∀ x ∈ ys, x.m.next.length ≤ 1048576) (hm : 0 ≤ m ∧ m ≤ 1048576) :
    Calls Try.prog 48 #[.slice A ys.length c, .int .i64 m] w (Ret fun v w' => (∃ z, v = .int .i64 z ∧ 0 ≤ z) ∧ Win lo hi w w') := by
  replace oO := oO.to (cs' := (([] : List ModeI) ++ ys.drop 0).flatMap ModeI.cells) rfl
  have X := Win.refl lo hi w
  refine calls_of (args := [.slice A ys.length c, .int .i64 m]) Try.func48 Try.ntmps48 rfl rfl ?_
  refine c_seqR ?_
  refine ops_cons rfl (ow_assign rfl ?_)
  refine ops_nil ?_
  refine c_seq ?_
  refine c_seqR ?_
  refine ops_cons rfl (ow_assign rfl ?_)
  refine ops_nil ?_
  refine c_block ?_
  refine c_loop (G := Nat × Int × List ModeI) (fun ⟨k, a, ps⟩ => [(4, .int .i64 0), (0, .slice A ys.length c), (1, .int .i64 a), (5, .int .i64 (k : Nat))]) (fun ⟨k, a, ps⟩ wr => (m ≤ a ∧ a ≤ m + 1048578 * k) ∧ k ≤ ys.length ∧ ps.length = k ∧ Own wr lo 114 3 A ys.length c ((ps ++ ys.drop k).flatMap ModeI.cells) ∧ NFrom wr lo 2 k ys ∧ Win lo hi w wr) (fun ⟨k, a, ps⟩ => ys.length - k) (0, m, []) (.cons rfl (.cons rfl (.cons rfl (.cons rfl (.nil _))))) ?_ ?_
  · exact ⟨(by omega), by omega, rfl, oO, oM, X⟩
  clear oO oM
  clear X
  rintro ⟨k, a, ps⟩ wr ⟨ha, hk0, hp, oO, oM, X⟩
  refine c_seq ?_
  refine c_seqR ?_
  refine ops_cons rfl (ow_move rfl ?_)
  refine ops_cons rfl (ow_move rfl ?_)
  refine ops_cons rfl (ow_len Try.underlying60 rfl ?_)
  refine ops_cons rfl (ow_lss2 rfl rfl (fun hk => ?_) (fun hk => ?_))
  · skip
    obtain ⟨x, hx, dx⟩ := drop_at' hk
    have hLx := app_at hp hx
    have hLl := app_len hp (show k ≤ ys.length by omega)
    refine ops_nil ?_
    refine c_true rfl ?_
    refine c_skip ?_
    refine tq_n ?_
    refine c_seq ?_
    refine c_block ?_
    refine c_seqR ?_
    refine ops_cons rfl (ow_move rfl ?_)
    refine ops_cons rfl (ow_move rfl ?_)
    refine ops_cons rfl (ow_move rfl ?_)
    refine ops_cons rfl (ow_indexT (oO).sl ModeI.len rfl el60 rfl (by omega) rfl hLx rfl ?_)
    refine ops_cons rfl (ow_fieldAddr off114_0 rfl ?_)
    refine ops_cons rfl (ow_storeRF oO ti2 rfl rfl rfl rfl (by omega) (by omega) rfl ?_)
    intro w2 oP hg1 z3
    replace oM := oM.grownO oO hg1 (by decide)
    replace X := X.grown hg1 (fun g hg => ⟨(Own.lt oO hg).1, hU g hg⟩)
    clear hg1 z3
    replace oP := oP.to (cs' := ((ps ++ ys.drop k).set k (⟨⟨a, x.m.slots, x.m.next⟩, x.A, x.c⟩ : ModeI)).flatMap ModeI.cells) (by
      have e1 := set_field (x := x) (x' := (⟨⟨a, x.m.slots, x.m.next⟩, x.A, x.c⟩ : ModeI)) (vs := [.int .i64 a]) ModeI.len (s' := 1) (f := 0) rfl (by omega) (ps ++ ys.drop k) k hLx
      exact e1)
    refine ops_nil ?_
    refine c_seqR ?_
    refine ops_cons rfl (ow_move rfl ?_)
    refine ops_cons rfl (ow_add rfl rfl (w64 (by omega)) ?_)
    refine ops_cons rfl (ow_assign rfl ?_)
    refine ops_nil ?_
    refine c_seqR ?_
    refine ops_cons rfl (ow_move rfl ?_)
    refine ops_cons rfl (ow_move rfl ?_)
    refine ops_cons rfl (ow_move rfl ?_)
    refine ops_cons rfl (ow_indexT (oP).sl ModeI.len rfl el60 rfl (by simp only [List.length_set]; omega) rfl (set_at (by omega)) rfl ?_)
    refine ops_cons rfl (ow_fieldAddr off114_1 rfl ?_)
    refine ops_cons rfl (ow_storeRF oP ti2 rfl rfl rfl rfl (by omega) (by omega) rfl ?_)
    intro w5 oQ hg4 z6
    replace oM := oM.grownO oP hg4 (by decide)
    replace X := X.grown hg4 (fun g hg => ⟨(Own.lt oP hg).1, hU g hg⟩)
    clear hg4 z6
    replace oQ := oQ.to (cs' := ((ps ++ ys.drop k).set k (⟨⟨a, a + 1, x.m.next⟩, x.A, x.c⟩ : ModeI)).flatMap ModeI.cells) (by
      have e1 := set_field (x := (⟨⟨a, x.m.slots, x.m.next⟩, x.A, x.c⟩ : ModeI)) (x' := (⟨⟨a, a + 1, x.m.next⟩, x.A, x.c⟩ : ModeI)) (vs := [.int .i64 (a + 1)]) ModeI.len (s' := 1) (f := 1) rfl (by omega) ((ps ++ ys.drop k).set k (⟨⟨a, x.m.slots, x.m.next⟩, x.A, x.c⟩ : ModeI)) k (set_at (by omega))
      rw [List.set_set] at e1; exact e1)
    replace oQ := oQ.to (cs' := ((ps ++ [(⟨⟨a, a + 1, x.m.next⟩, x.A, x.c⟩ : ModeI)]) ++ ys.drop (k + 1)).flatMap ModeI.cells) (by rw [← app_set hp hx])
    refine ops_nil ?_
    refine c_seqR ?_
    refine ops_cons rfl (ow_move rfl ?_)
    refine ops_cons rfl (ow_add rfl rfl (w64 (by omega)) ?_)
    refine ops_cons rfl (ow_assign rfl ?_)
    refine ops_nil ?_
    refine c_region ?_
    refine ops_cons rfl (ow_move rfl ?_)
    refine ops_cons rfl (ow_move rfl ?_)
    refine ops_cons rfl (ow_indexT (oQ).sl ModeI.len rfl el60 rfl (app2_len hp hx) rfl (app2_at hp) rfl ?_)
    refine ops_cons rfl (ow_fieldAddr off114_2 rfl ?_)
    refine ops_cons rfl (ow_loadTF (oQ).sl ModeI.len (app2_at hp) ti24 rfl rfl rfl ?_)
    refine ops_cons rfl (ow_move rfl ?_)
    have hz1 := hz x (List.mem_of_getElem? hx)
    have hown := oM k x (Nat.le_refl _) hx
    refine ops_cons rfl (ow_call ent49 rfl (ret_mono (markI_c x.A x.c lo x.m.next (a + 1 + 1) _ hown hz1 (by omega)) ?_))
    rintro _ wN ⟨rfl, oR, xR⟩
    replace oQ := oQ.grown xR (fun g hg e => Own.neO hown oQ (by decide) g e hg)
    replace oM := oM.next hdj hx xR
    replace X := X.grown xR (fun g hg => ⟨(Own.lt hown hg).1, hUN x (List.mem_of_getElem? hx) g hg⟩)
    refine ops_cons rfl (ow_assign rfl ?_)
    refine ops_nil ?_
    refine bq_n ?_
    refine tq_n ?_
    refine c_region ?_
    refine ops_cons rfl (ow_move rfl ?_)
    refine ops_cons rfl (ow_add rfl rfl (w64 (by omega)) ?_)
    refine ops_cons rfl (ow_assign rfl ?_)
    refine ops_nil ?_
    refine tq_n ⟨(k + 1, a + 1 + 1 + x.m.next.length, ps ++ [(⟨⟨a, a + 1, x.m.next⟩, x.A, x.c⟩ : ModeI)]), (.cons rfl (.cons rfl (.cons rfl (.cons rfl (.nil _))))), ?_, ?_⟩
    · exact ⟨(by omega), by omega, (by simp [hp]), oQ, oM, X⟩
    · first | omega | (dsimp only; omega)
  · skip
    refine ops_nil ?_
    refine c_false rfl ?_
    refine c_exit ?_
    refine tq_e ?_
    refine tq_e ?_
    refine bq_e ?_
    refine tq_n ?_
    refine c_seqR ?_
    refine ops_cons rfl (ow_move rfl ?_)
    refine ops_cons rfl (ow_assign rfl ?_)
    refine ops_nil ?_
    refine c_ret ?_
    refine fin_ret1 rfl rfl ?_
    exact ⟨⟨_, rfl, by omega⟩, X⟩
end Go.Proofs.Ytimabffnoanciaa
