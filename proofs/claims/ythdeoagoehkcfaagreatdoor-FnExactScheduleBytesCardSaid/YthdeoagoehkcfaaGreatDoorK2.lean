/- Marks written into mode tables and read again. No condition. -/
import Derived.Test.YthdeoagoehkcfaaGreatDoorK1
import Derived.Test.YthdeoagoehkcfaaGreatDoorMod3
namespace Go.Proofs.YthdeoagoehkcfaaGreatDoor
open Go.RowKit
set_option linter.unusedVariables false
set_option linter.unusedSimpArgs false
set_option maxRecDepth 20000
theorem app_at {α : Type} {ps ys : List α} {k : Nat} {x : α} (hp : ps.length = k) (hx : ys[k]? = some x) : (ps ++ ys.drop k)[k]? = some x := by
  rw [List.getElem?_append_right (by omega), hp, Nat.sub_self, List.getElem?_drop, Nat.add_zero, hx]
theorem app_len {α : Type} {ps ys : List α} {k : Nat} (hp : ps.length = k) (hk : k ≤ ys.length) : (ps ++ ys.drop k).length = ys.length := by simp [hp]; omega
theorem app_set {α : Type} {ps ys : List α} {k : Nat} {x y : α} (hp : ps.length = k) (hx : ys[k]? = some x) : (ps ++ ys.drop k).set k y = (ps ++ [y]) ++ ys.drop (k + 1) := by
  obtain ⟨hk, _⟩ := List.getElem?_eq_some_iff.1 hx
  rw [List.set_append, if_neg (by omega), hp, Nat.sub_self, List.drop_eq_getElem_cons hk, List.set_cons_zero]; simp
theorem app2_at {α : Type} {ps zs : List α} {k : Nat} {y : α} (hp : ps.length = k) : ((ps ++ [y]) ++ zs)[k]? = some y := by
  rw [List.append_assoc, List.getElem?_append_right (by omega), hp]; simp
theorem app2_len {α : Type} {ps ys : List α} {k : Nat} {x y : α} (hp : ps.length = k) (hx : ys[k]? = some x) : ys.length = ((ps ++ [y]) ++ ys.drop (k + 1)).length := by
  obtain ⟨hk, _⟩ := List.getElem?_eq_some_iff.1 hx
  simp [hp]; omega
theorem markModesX_c (A : Option Addr) (c lo hi : Nat) (ys : List ModeI) (m : Int) (w : World) (oO : Own w lo 85 3 A ys.length c (ys.flatMap ModeI.cells)) (oM : NFrom w lo 2 0 ys) (hdj : Disj ys) (hU : ∀ g, (Value.slice A ys.length c).ownBlock = some g → g < hi) (hUN : ∀ y ∈ ys, ∀ g, y.blk = some g → g < hi) (hl : ys.length ≤ 1048576) (hz : ∀ x ∈ ys, x.m.next.length ≤ 1048576) (hm : 0 ≤ m ∧ m ≤ 1099511627776) :
    Calls Tryz.prog 44 #[.slice A ys.length c, .int .i64 m] w (Ret fun v w' => v = .int .i64 (endModes m ys) ∧ (m ≤ endModes m ys ∧ endModes m ys ≤ m + 1099513724928) ∧ Own w' lo 85 3 A ys.length c ((mkModes m ys).flatMap ModeI.cells) ∧ NOwn w' lo 2 (mkModes m ys) ∧ WinK lo hi [85, 2] w w') := by
  replace oO := oO.to (cs' := (mkModes m (ys.take 0) ++ ys.drop 0).flatMap ModeI.cells) rfl
  have hLen : ∀ k, k ≤ ys.length → (mkModes m (ys.take k)).length = k := fun k hk => by rw [mkModes_len]; simp; omega
  have X := WinK.refl lo hi [85, 2] w
  refine calls_of (args := [.slice A ys.length c, .int .i64 m]) Tryz.func44 Tryz.ntmps44 rfl rfl ?_
  refine c_seqR ?_
  refine ops_cons rfl (ow_assign rfl ?_)
  refine ops_nil ?_
  refine c_seq ?_
  refine c_seqR ?_
  refine ops_cons rfl (ow_assign rfl ?_)
  refine ops_nil ?_
  refine c_block ?_
  refine c_loop (G := Nat × Int) (fun ⟨k, a⟩ => [(4, .int .i64 0), (0, .slice A ys.length c), (1, .int .i64 a), (5, .int .i64 (k : Nat))]) (fun ⟨k, a⟩ wr => (a = (endModes m (ys.take k)) ∧ m ≤ a ∧ a ≤ m + 1048578 * k) ∧ k ≤ ys.length ∧ Own wr lo 85 3 A ys.length c ((mkModes m (ys.take k) ++ ys.drop k).flatMap ModeI.cells) ∧ NFrom wr lo 2 k ys ∧ NOwn wr lo 2 (mkModes m (ys.take k)) ∧ WinK lo hi [85, 2] w wr) (fun ⟨k, a⟩ => ys.length - k) (0, m) (.cons rfl (.cons rfl (.cons rfl (.cons rfl (.nil _))))) ?_ ?_
  · exact ⟨⟨rfl, by omega⟩, by omega, oO, oM, NOwn.nil_, X⟩
  clear oO oM
  clear X
  rintro ⟨k, a⟩ wr ⟨ha, hk0, oO, oM, oD, X⟩
  refine c_seq ?_
  refine c_seqR ?_
  refine ops_cons rfl (ow_move rfl ?_)
  refine ops_cons rfl (ow_move rfl ?_)
  refine ops_cons rfl (ow_len Tryz.underlying24 rfl ?_)
  refine ops_cons rfl (ow_lss2 rfl rfl (fun hk => ?_) (fun hk => ?_))
  · skip
    obtain ⟨x, hx, dx⟩ := drop_at' hk
    have hp := hLen k (by omega)
    have hLx := app_at hp hx
    have hLl := app_len hp (show k ≤ ys.length by omega)
    have ha1 := ha.1
    subst ha1
    have htk : ys.take (k + 1) = ys.take k ++ [x] := by rw [List.take_add_one, hx]; rfl
    refine ops_nil ?_
    refine c_true rfl ?_
    refine c_skip ?_
    refine tq_n ?_
    refine c_seq ?_
    refine c_block ?_
    refine c_seqR ?_
    refine ops_cons rfl (ow_move rfl ?_)
    refine ops_cons rfl (ow_move rfl ?_)
    refine ops_cons rfl (ow_move rfl ?_)
    refine ops_cons rfl (ow_indexT (oO).sl ModeI.len rfl el24 rfl (by omega) rfl hLx rfl ?_)
    refine ops_cons rfl (ow_fieldAddr off85_0 rfl ?_)
    refine ops_cons rfl (ow_storeRF oO ti2 rfl rfl rfl rfl (by omega) (by omega) rfl ?_)
    intro w2 oP hg1 z3
    replace oM := oM.grownO oO hg1 (by decide)
    replace oD := oD.grownO oO hg1 (by decide)
    replace X := X.grownK hg1 oO (by decide) (fun g hg => ⟨(Own.lt oO hg).1, hU g hg⟩)
    clear hg1 z3
    replace oP := oP.to (cs' := ((mkModes m (ys.take k) ++ ys.drop k).set k (⟨⟨(endModes m (ys.take k)), x.m.slots, x.m.next⟩, x.A, x.c⟩ : ModeI)).flatMap ModeI.cells) (by
      have e1 := set_field (x := x) (x' := (⟨⟨(endModes m (ys.take k)), x.m.slots, x.m.next⟩, x.A, x.c⟩ : ModeI)) (vs := [.int .i64 (endModes m (ys.take k))]) ModeI.len (s' := 1) (f := 0) rfl (by omega) (mkModes m (ys.take k) ++ ys.drop k) k hLx
      exact e1)
    refine ops_nil ?_
    refine c_seqR ?_
    refine ops_cons rfl (ow_move rfl ?_)
    refine ops_cons rfl (ow_add rfl rfl (w64 (by omega)) ?_)
    refine ops_cons rfl (ow_assign rfl ?_)
    refine ops_nil ?_
    refine c_seqR ?_
    refine ops_cons rfl (ow_move rfl ?_)
    refine ops_cons rfl (ow_move rfl ?_)
    refine ops_cons rfl (ow_move rfl ?_)
    refine ops_cons rfl (ow_indexT (oP).sl ModeI.len rfl el24 rfl (by simp only [List.length_set]; omega) rfl (set_at (by omega)) rfl ?_)
    refine ops_cons rfl (ow_fieldAddr off85_1 rfl ?_)
    refine ops_cons rfl (ow_storeRF oP ti2 rfl rfl rfl rfl (by omega) (by omega) rfl ?_)
    intro w5 oQ hg4 z6
    replace oM := oM.grownO oP hg4 (by decide)
    replace oD := oD.grownO oP hg4 (by decide)
    replace X := X.grownK hg4 oP (by decide) (fun g hg => ⟨(Own.lt oP hg).1, hU g hg⟩)
    clear hg4 z6
    replace oQ := oQ.to (cs' := ((mkModes m (ys.take k) ++ ys.drop k).set k (⟨⟨(endModes m (ys.take k)), (endModes m (ys.take k)) + 1, x.m.next⟩, x.A, x.c⟩ : ModeI)).flatMap ModeI.cells) (by
      have e1 := set_field (x := (⟨⟨(endModes m (ys.take k)), x.m.slots, x.m.next⟩, x.A, x.c⟩ : ModeI)) (x' := (⟨⟨(endModes m (ys.take k)), (endModes m (ys.take k)) + 1, x.m.next⟩, x.A, x.c⟩ : ModeI)) (vs := [.int .i64 ((endModes m (ys.take k)) + 1)]) ModeI.len (s' := 1) (f := 1) rfl (by omega) ((mkModes m (ys.take k) ++ ys.drop k).set k (⟨⟨(endModes m (ys.take k)), x.m.slots, x.m.next⟩, x.A, x.c⟩ : ModeI)) k (set_at (by omega))
      rw [List.set_set] at e1; exact e1)
    replace oQ := oQ.to (cs' := ((mkModes m (ys.take k) ++ [(⟨⟨(endModes m (ys.take k)), (endModes m (ys.take k)) + 1, x.m.next⟩, x.A, x.c⟩ : ModeI)]) ++ ys.drop (k + 1)).flatMap ModeI.cells) (by rw [← app_set hp hx])
    refine ops_nil ?_
    refine c_seqR ?_
    refine ops_cons rfl (ow_move rfl ?_)
    refine ops_cons rfl (ow_add rfl rfl (w64 (by omega)) ?_)
    refine ops_cons rfl (ow_assign rfl ?_)
    refine ops_nil ?_
    refine c_region ?_
    refine ops_cons rfl (ow_move rfl ?_)
    refine ops_cons rfl (ow_move rfl ?_)
    refine ops_cons rfl (ow_indexT (oQ).sl ModeI.len rfl el24 rfl (app2_len hp hx) rfl (app2_at hp) rfl ?_)
    refine ops_cons rfl (ow_fieldAddr off85_2 rfl ?_)
    refine ops_cons rfl (ow_loadTF (oQ).sl ModeI.len (app2_at hp) ti22 rfl rfl rfl ?_)
    refine ops_cons rfl (ow_move rfl ?_)
    have hz1 := hz x (List.mem_of_getElem? hx)
    have hown := oM k x (Nat.le_refl _) hx
    refine ops_cons rfl (ow_call ent15 rfl (ret_mono (markI_c x.A x.c lo x.m.next ((endModes m (ys.take k)) + 1 + 1) _ hown hz1 (by omega)) ?_))
    rintro _ wN ⟨rfl, oR, xR⟩
    replace oQ := oQ.grown xR (fun g hg e => Own.neO hown oQ (by decide) g e hg)
    replace oM := oM.next hdj hx xR
    replace oD := oD.grownX xR (fun y hy g hg e => by
      obtain ⟨i, z, h1, h2⟩ := mkModes_mem _ _ y hy
      obtain ⟨h3, h4⟩ := take_get h1
      rw [h2] at e
      exact hdj.not h4 hx (by omega) g hg e)
    replace oD : NOwn wN lo 2 (mkModes m (ys.take (k + 1))) := by
      rw [htk, mkModes_snoc]
      refine oD.snoc ?_ ?_
      · have e : (mkMode (endModes m (ys.take k)) x).m.next.length = x.m.next.length := seqI_len _ _
        rw [e]; exact oR
      · have e : (mkMode (endModes m (ys.take k)) x).m.next.length = x.m.next.length := seqI_len _ _
        rw [e]; omega
    replace X := X.grownK xR hown (by decide) (fun g hg => ⟨(Own.lt hown hg).1, hUN x (List.mem_of_getElem? hx) g hg⟩)
    refine ops_cons rfl (ow_assign rfl ?_)
    refine ops_nil ?_
    refine bq_n ?_
    refine tq_n ?_
    refine c_region ?_
    refine ops_cons rfl (ow_move rfl ?_)
    refine ops_cons rfl (ow_add rfl rfl (w64 (by omega)) ?_)
    refine ops_cons rfl (ow_assign rfl ?_)
    refine ops_nil ?_
    refine tq_n ⟨(k + 1, (endModes m (ys.take k)) + 1 + 1 + x.m.next.length), (.cons rfl (.cons rfl (.cons rfl (.cons rfl (.nil _))))), ?_, ?_⟩
    · skip
      replace oQ := oQ.to (cs' := (mkModes m (ys.take (k + 1)) ++ ys.drop (k + 1)).flatMap ModeI.cells) (by rw [htk, mkModes_snoc, List.flatMap_append, List.flatMap_append, List.flatMap_append, List.flatMap_append, List.flatMap_singleton, List.flatMap_singleton, mkMode_cells])
      exact ⟨⟨by rw [htk, endModes_snoc]; rfl, by omega, by omega⟩, by omega, oQ, oM, oD, X⟩
    · first | omega | (dsimp only; omega)
  · skip
    refine ops_nil ?_
    refine c_false rfl ?_
    refine c_exit ?_
    refine tq_e ?_
    refine tq_e ?_
    refine bq_e ?_
    refine tq_n ?_
    refine c_seqR ?_
    refine ops_cons rfl (ow_move rfl ?_)
    refine ops_cons rfl (ow_assign rfl ?_)
    refine ops_nil ?_
    refine c_ret ?_
    refine fin_ret1 rfl rfl ?_
    rw [show k = ys.length by omega, List.take_length, List.drop_length, List.append_nil] at oO
    rw [show k = ys.length by omega, List.take_length] at oD ha
    exact ⟨by rw [ha.1], by omega, oO, oD, X⟩

theorem heldModesX_c (A : Option Addr) (B B2 c n : Nat) (ys : List ModeI) (m : Int) (w : World) (hs : Sl B w A ((mkModes m ys).flatMap ModeI.cells)) (hn : Nexts B2 w (mkModes m ys)) (en : n = ys.length) (hl : ys.length ≤ 1048576) (hz : ∀ x ∈ ys, x.m.next.length ≤ 1048576) (hm : 0 ≤ m ∧ m ≤ 1099511627776) :
    Calls Tryz.prog 47 #[.slice A n c, .int .i64 m] w (Ret fun v w' => v = .int .i64 (endModes m ys) ∧ Ext w w') := by
  have hle : (mkModes m ys).length = ys.length := mkModes_len ys m
  have Bhs := hs.1
  have Bhn := hn.1
  have X := Ext.refl w
  refine calls_of (args := [.slice A n c, .int .i64 m]) Tryz.func47 Tryz.ntmps47 rfl rfl ?_
  refine c_seqR ?_
  refine ops_cons rfl (ow_assign rfl ?_)
  refine ops_nil ?_
  refine c_seq ?_
  refine c_seqR ?_
  refine ops_cons rfl (ow_assign rfl ?_)
  refine ops_nil ?_
  refine c_block ?_
  refine c_loop (G := Nat × Int) (fun ⟨k, a⟩ => [(0, .slice A n c), (1, .int .i64 a), (5, .int .i64 (k : Nat))]) (fun ⟨k, a⟩ wr => k ≤ ys.length ∧ (a = endModes m (ys.take k) ∧ m ≤ a ∧ a ≤ m + 1048578 * k) ∧ Sl B wr A ((mkModes m ys).flatMap ModeI.cells) ∧ Nexts B2 wr (mkModes m ys) ∧ Ext w wr) (fun ⟨k, a⟩ => n - k) (0, m) (.cons rfl (.cons rfl (.cons rfl (.nil _)))) ?_ ?_
  · exact ⟨by omega, ⟨rfl, by omega⟩, hs, hn, X⟩
  clear hs hn
  clear X
  rintro ⟨k, a⟩ wr ⟨hk0, ha, hs, hn, X⟩
  refine c_seq ?_
  refine c_seqR ?_
  refine ops_cons rfl (ow_move rfl ?_)
  refine ops_cons rfl (ow_move rfl ?_)
  refine ops_cons rfl (ow_len Tryz.underlying24 rfl ?_)
  refine ops_cons rfl (ow_lss2 rfl rfl (fun hk => ?_) (fun hk => ?_))
  · skip
    obtain ⟨x, hx, dx⟩ := drop_at' (xs := ys) (k := k) (by omega)
    have ha1 := ha.1
    subst ha1
    have htk : ys.take (k + 1) = ys.take k ++ [x] := by rw [List.take_add_one, hx]; rfl
    have hy : (mkModes m ys)[k]? = some (mkMode (endModes m (ys.take k)) x) := by
      have e := mkModes_drop ys m k
      rw [dx, mkModes] at e
      have e2 := congrArg (fun l => l[0]?) e
      simpa using e2
    have hz1 := hz x (List.mem_of_getElem? hx)
    have hyl : (mkMode (endModes m (ys.take k)) x).m.next.length = x.m.next.length := seqI_len _ _
    refine ops_nil ?_
    refine c_true rfl ?_
    refine c_skip ?_
    refine tq_n ?_
    refine c_seq ?_
    refine c_block ?_
    refine c_seq ?_
    refine c_seqR ?_
    refine ops_cons rfl (ow_move rfl ?_)
    refine ops_cons rfl (ow_move rfl ?_)
    refine ops_cons rfl (ow_indexT hs ModeI.len rfl el24 rfl (by omega) rfl hy rfl ?_)
    refine ops_cons rfl (ow_fieldAddr off85_0 rfl ?_)
    refine ops_cons rfl (ow_loadTF hs ModeI.len hy ti2 rfl rfl rfl ?_)
    refine ops_cons rfl (ow_move rfl ?_)
    refine ops_cons rfl (ow_neq2 rfl rfl (fun h1 => absurd h1 (by exact fun h => h rfl)) (fun h1 => ?_))
    refine ops_nil ?_
    refine c_false rfl ?_
    refine c_skip ?_
    refine tq_n ?_
    refine c_seqR ?_
    refine ops_cons rfl (ow_move rfl ?_)
    refine ops_cons rfl (ow_add rfl rfl (w64 (by omega)) ?_)
    refine ops_cons rfl (ow_assign rfl ?_)
    refine ops_nil ?_
    refine c_seq ?_
    refine c_seqR ?_
    refine ops_cons rfl (ow_move rfl ?_)
    refine ops_cons rfl (ow_move rfl ?_)
    refine ops_cons rfl (ow_indexT hs ModeI.len rfl el24 rfl (by omega) rfl hy rfl ?_)
    refine ops_cons rfl (ow_fieldAddr off85_1 rfl ?_)
    refine ops_cons rfl (ow_loadTF hs ModeI.len hy ti2 rfl rfl rfl ?_)
    refine ops_cons rfl (ow_move rfl ?_)
    refine ops_cons rfl (ow_neq2 rfl rfl (fun h2 => absurd h2 (by exact fun h => h rfl)) (fun h2 => ?_))
    refine ops_nil ?_
    refine c_false rfl ?_
    refine c_skip ?_
    refine tq_n ?_
    refine c_seqR ?_
    refine ops_cons rfl (ow_move rfl ?_)
    refine ops_cons rfl (ow_add rfl rfl (w64 (by omega)) ?_)
    refine ops_cons rfl (ow_assign rfl ?_)
    refine ops_nil ?_
    refine c_seqR ?_
    refine ops_cons rfl (ow_move rfl ?_)
    refine ops_cons rfl (ow_move rfl ?_)
    refine ops_cons rfl (ow_indexT hs ModeI.len rfl el24 rfl (by omega) rfl hy rfl ?_)
    have hnx := hn.at_ hy
    refine ops_cons rfl (ow_fieldAddr off85_2 rfl ?_)
    refine ops_cons rfl (ow_loadTF hs ModeI.len hy ti22 rfl rfl rfl ?_)
    refine ops_cons rfl (ow_move rfl ?_)
    refine ops_cons rfl (ow_call ent22 rfl (ret_mono (by have h := heldI_c x.A _ x.c x.m.next.length (endModes m (ys.take k) + 1 + 1) _ hnx hz1 (by omega); rw [show x.m.next.length = (mkMode (endModes m (ys.take k)) x).m.next.length from (seqI_len _ _).symm] at h; exact h) ?_))
    rintro _ w4 ⟨rfl, x3⟩
    replace hs := hs.ext x3
    replace hn := hn.ext x3
    replace hnx := hnx.ext x3
    replace X := Ext.trans X x3; clear x3
    refine ops_cons rfl (ow_assign rfl ?_)
    refine ops_nil ?_
    refine c_seqR ?_
    refine ops_cons rfl (ow_move rfl ?_)
    refine ops_cons rfl (ow_lss2 rfl rfl (fun h5 => absurd h5 (by omega)) (fun h5 => ?_))
    refine ops_nil ?_
    refine c_false rfl ?_
    refine c_skip ?_
    refine bq_n ?_
    refine tq_n ?_
    refine c_region ?_
    refine ops_cons rfl (ow_move rfl ?_)
    refine ops_cons rfl (ow_add rfl rfl (w64 (by omega)) ?_)
    refine ops_cons rfl (ow_assign rfl ?_)
    refine ops_nil ?_
    refine tq_n ⟨(k + 1, endModes m (ys.take k) + 1 + 1 + (mkMode (endModes m (ys.take k)) x).m.next.length), (.cons rfl (.cons rfl (.cons rfl (.nil _)))), ?_, ?_⟩
    · exact ⟨by omega, ⟨by rw [htk, endModes_snoc, hyl]; rfl, by omega, by omega⟩, hs, hn, X⟩
    · first | omega | (dsimp only; omega)
  · skip
    refine ops_nil ?_
    refine c_false rfl ?_
    refine c_exit ?_
    refine tq_e ?_
    refine tq_e ?_
    refine bq_e ?_
    refine tq_n ?_
    refine c_seqR ?_
    refine ops_cons rfl (ow_move rfl ?_)
    refine ops_cons rfl (ow_assign rfl ?_)
    refine ops_nil ?_
    refine c_ret ?_
    refine fin_ret1 rfl rfl ?_
    rw [show k = ys.length by omega, List.take_length] at ha
    exact ⟨by rw [ha.1], X⟩
end Go.Proofs.YthdeoagoehkcfaaGreatDoor
