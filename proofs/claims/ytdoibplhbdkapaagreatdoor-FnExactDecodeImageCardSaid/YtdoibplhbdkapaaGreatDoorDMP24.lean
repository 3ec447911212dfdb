/- Texts of the seat that a law needs, put together. No condition. -/
import Derived.Test.YtdoibplhbdkapaaGreatDoorDMP23
import Derived.Test.YtdoibplhbdkapaaGreatDoorDMP7
import Derived.Test.YtdoibplhbdkapaaGreatDoorDMP19
import Derived.Test.YtdoibplhbdkapaaGreatDoorDMP3
import Derived.ProofKit
import Derived.OpenShut
import Derived.Test.YtdoibplhbdkapaaGreatDoorCards
namespace Go.Proofs.YtdoibplhbdkapaaGreatDoor
open Go.RowKit
set_option linter.unusedVariables false
set_option linter.unusedSimpArgs false
set_option maxRecDepth 20000
theorem app2_at {α : Type} {ps zs : List α} {k : Nat} {y : α} (hp : ps.length = k) : ((ps ++ [y]) ++ zs)[k]? = some y := by
  rw [List.append_assoc, List.getElem?_append_right (by omega), hp]; simp
theorem app2_len {α : Type} {ps ys : List α} {k : Nat} {x y : α} (hp : ps.length = k) (hx : ys[k]? = some x) : ys.length = ((ps ++ [y]) ++ ys.drop (k + 1)).length := by
  obtain ⟨hk, _⟩ := List.getElem?_eq_some_iff.1 hx
  simp [hp]; omega
theorem markModesX_c (A : Option Addr) (c lo hi : Nat) (ys : List ModeI) (m : Int) (w : World) (oO : Own w lo 92 3 A ys.length c (ys.flatMap ModeI.cells)) (oM : NFrom w lo 2 0 ys) (hdj : Disj ys) (hU : ∀ g, (Value.slice A ys.length c).ownBlock = some g → g < hi) (hUN : ∀ y ∈ ys, ∀ g, y.blk = some g → g < hi) (hl : ys.length ≤ 1048576) (hz : ∀ x ∈ ys, x.m.next.length ≤ 1048576) (hm : 0 ≤ m ∧ m ≤ 1099511627776) :
    Calls Tryz.prog 92 #[.slice A ys.length c, .int .i64 m] w (Ret fun v w' => v = .int .i64 (endModes m ys) ∧ (m ≤ endModes m ys ∧ endModes m ys ≤ m + 1099513724928) ∧ Own w' lo 92 3 A ys.length c ((mkModes m ys).flatMap ModeI.cells) ∧ NOwn w' lo 2 (mkModes m ys) ∧ WinK lo hi [92, 2] w w') := by
  replace oO := oO.to (cs' := (mkModes m (ys.take 0) ++ ys.drop 0).flatMap ModeI.cells) rfl
  have hLen : ∀ k, k ≤ ys.length → (mkModes m (ys.take k)).length = k := fun k hk => by rw [mkModes_len]; simp; omega
  have X := WinK.refl lo hi [92, 2] w
  refine calls_of (args := [.slice A ys.length c, .int .i64 m]) Tryz.func92 Tryz.ntmps92 rfl rfl ?_
  refine c_seqR ?_
  refine ops_cons rfl (ow_assign rfl ?_)
  refine ops_nil ?_
  refine c_seq ?_
  refine c_seqR ?_
  refine ops_cons rfl (ow_assign rfl ?_)
  refine ops_nil ?_
  refine c_block ?_
  refine c_loop (G := Nat × Int) (fun ⟨k, a⟩ => [(4, .int .i64 0), (0, .slice A ys.length c), (1, .int .i64 a), (5, .int .i64 (k : Nat))]) (fun ⟨k, a⟩ wr => (a = (endModes m (ys.take k)) ∧ m ≤ a ∧ a ≤ m + 1048578 * k) ∧ k ≤ ys.length ∧ Own wr lo 92 3 A ys.length c ((mkModes m (ys.take k) ++ ys.drop k).flatMap ModeI.cells) ∧ NFrom wr lo 2 k ys ∧ NOwn wr lo 2 (mkModes m (ys.take k)) ∧ WinK lo hi [92, 2] w wr) (fun ⟨k, a⟩ => ys.length - k) (0, m) (.cons rfl (.cons rfl (.cons rfl (.cons rfl (.nil _))))) ?_ ?_
  · exact ⟨⟨rfl, by omega⟩, by omega, oO, oM, NOwn.nil_, X⟩
  clear oO oM
  clear X
  rintro ⟨k, a⟩ wr ⟨ha, hk0, oO, oM, oD, X⟩
  refine c_seq ?_
  refine c_seqR ?_
  refine ops_cons rfl (ow_move rfl ?_)
  refine ops_cons rfl (ow_move rfl ?_)
  refine ops_cons rfl (ow_len Tryz.underlying25 rfl ?_)
  refine ops_cons rfl (ow_lss2 rfl rfl (fun hk => ?_) (fun hk => ?_))
  obtain ⟨x, hx, dx⟩ := drop_at' hk
  have hp := hLen k (by omega)
  have hLx := app_at hp hx
  have hLl := app_len hp (show k ≤ ys.length by omega)
  have ha1 := ha.1
  subst ha1
  have htk : ys.take (k + 1) = ys.take k ++ [x] := by rw [List.take_add_one, hx]; rfl
  refine ops_nil ?_
  refine c_true rfl ?_
  refine c_skip ?_
  refine tq_n ?_
  refine c_seq ?_
  refine c_block ?_
  refine c_seqR ?_
  refine ops_cons rfl (ow_move rfl ?_)
  refine ops_cons rfl (ow_move rfl ?_)
  refine ops_cons rfl (ow_move rfl ?_)
  refine ops_cons rfl (ow_indexT (oO).sl ModeI.len rfl el25 rfl (by omega) rfl hLx rfl ?_)
  refine ops_cons rfl (ow_fieldAddr off92_0 rfl ?_)
  refine ops_cons rfl (ow_storeRF oO ti2 rfl rfl rfl rfl (by omega) (by omega) rfl ?_)
  intro w2 oP hg1 z3
  replace oM := oM.grownO oO hg1 (by decide)
  replace oD := oD.grownO oO hg1 (by decide)
  replace X := X.grownK hg1 oO (by decide) (fun g hg => ⟨(Own.lt oO hg).1, hU g hg⟩)
  clear hg1 z3
  replace oP := oP.to (cs' := ((mkModes m (ys.take k) ++ ys.drop k).set k (⟨⟨(endModes m (ys.take k)), x.m.slots, x.m.next⟩, x.A, x.c⟩ : ModeI)).flatMap ModeI.cells) (by
    have e1 := set_field (x := x) (x' := (⟨⟨(endModes m (ys.take k)), x.m.slots, x.m.next⟩, x.A, x.c⟩ : ModeI)) (vs := [.int .i64 (endModes m (ys.take k))]) ModeI.len (s' := 1) (f := 0) rfl (by omega) (mkModes m (ys.take k) ++ ys.drop k) k hLx
    exact e1)
  refine ops_nil ?_
  refine c_seqR ?_
  refine ops_cons rfl (ow_move rfl ?_)
  refine ops_cons rfl (ow_add rfl rfl (w64 (by omega)) ?_)
  refine ops_cons rfl (ow_assign rfl ?_)
  refine ops_nil ?_
  refine c_seqR ?_
  refine ops_cons rfl (ow_move rfl ?_)
  refine ops_cons rfl (ow_move rfl ?_)
  refine ops_cons rfl (ow_move rfl ?_)
  refine ops_cons rfl (ow_indexT (oP).sl ModeI.len rfl el25 rfl (by simp only [List.length_set]; omega) rfl (set_at (by omega)) rfl ?_)
  refine ops_cons rfl (ow_fieldAddr off92_1 rfl ?_)
  refine ops_cons rfl (ow_storeRF oP ti2 rfl rfl rfl rfl (by omega) (by omega) rfl ?_)
  intro w5 oQ hg4 z6
  replace oM := oM.grownO oP hg4 (by decide)
  replace oD := oD.grownO oP hg4 (by decide)
  replace X := X.grownK hg4 oP (by decide) (fun g hg => ⟨(Own.lt oP hg).1, hU g hg⟩)
  clear hg4 z6
  replace oQ := oQ.to (cs' := ((mkModes m (ys.take k) ++ ys.drop k).set k (⟨⟨(endModes m (ys.take k)), (endModes m (ys.take k)) + 1, x.m.next⟩, x.A, x.c⟩ : ModeI)).flatMap ModeI.cells) (by
    have e1 := set_field (x := (⟨⟨(endModes m (ys.take k)), x.m.slots, x.m.next⟩, x.A, x.c⟩ : ModeI)) (x' := (⟨⟨(endModes m (ys.take k)), (endModes m (ys.take k)) + 1, x.m.next⟩, x.A, x.c⟩ : ModeI)) (vs := [.int .i64 ((endModes m (ys.take k)) + 1)]) ModeI.len (s' := 1) (f := 1) rfl (by omega) ((mkModes m (ys.take k) ++ ys.drop k).set k (⟨⟨(endModes m (ys.take k)), x.m.slots, x.m.next⟩, x.A, x.c⟩ : ModeI)) k (set_at (by omega))
    rw [List.set_set] at e1; exact e1)
  replace oQ := oQ.to (cs' := ((mkModes m (ys.take k) ++ [(⟨⟨(endModes m (ys.take k)), (endModes m (ys.take k)) + 1, x.m.next⟩, x.A, x.c⟩ : ModeI)]) ++ ys.drop (k + 1)).flatMap ModeI.cells) (by rw [← app_set hp hx])
  refine ops_nil ?_
  refine c_seqR ?_
  refine ops_cons rfl (ow_move rfl ?_)
  refine ops_cons rfl (ow_add rfl rfl (w64 (by omega)) ?_)
  refine ops_cons rfl (ow_assign rfl ?_)
  refine ops_nil ?_
  refine c_region ?_
  refine ops_cons rfl (ow_move rfl ?_)
  refine ops_cons rfl (ow_move rfl ?_)
  refine ops_cons rfl (ow_indexT (oQ).sl ModeI.len rfl el25 rfl (app2_len hp hx) rfl (app2_at hp) rfl ?_)
  refine ops_cons rfl (ow_fieldAddr off92_2 rfl ?_)
  refine ops_cons rfl (ow_loadTF (oQ).sl ModeI.len (app2_at hp) ti30 rfl rfl rfl ?_)
  refine ops_cons rfl (ow_move rfl ?_)
  have hz1 := hz x (List.mem_of_getElem? hx)
  have hown := oM k x (Nat.le_refl _) hx
  refine ops_cons rfl (ow_call ent26 rfl (ret_mono (markI_c x.A x.c lo x.m.next ((endModes m (ys.take k)) + 1 + 1) _ hown hz1 (by omega)) ?_))
  rintro _ wN ⟨rfl, oR, xR⟩
  replace oQ := oQ.grown xR (fun g hg e => Own.neO hown oQ (by decide) g e hg)
  replace oM := oM.next hdj hx xR
  replace oD := oD.grownX xR (fun y hy g hg e => by
    obtain ⟨i, z, h1, h2⟩ := mkModes_mem _ _ y hy
    obtain ⟨h3, h4⟩ := take_get h1
    rw [h2] at e
    exact hdj.not h4 hx (by omega) g hg e)
  replace oD : NOwn wN lo 2 (mkModes m (ys.take (k + 1))) := by
    rw [htk, mkModes_snoc]
    refine oD.snoc ?_ ?_
    · have e : (mkMode (endModes m (ys.take k)) x).m.next.length = x.m.next.length := seqI_len _ _
      rw [e]; exact oR
    · have e : (mkMode (endModes m (ys.take k)) x).m.next.length = x.m.next.length := seqI_len _ _
      rw [e]; omega
  replace X := X.grownK xR hown (by decide) (fun g hg => ⟨(Own.lt hown hg).1, hUN x (List.mem_of_getElem? hx) g hg⟩)
  refine ops_cons rfl (ow_assign rfl ?_)
  refine ops_nil ?_
  refine bq_n ?_
  refine tq_n ?_
  refine c_region ?_
  refine ops_cons rfl (ow_move rfl ?_)
  refine ops_cons rfl (ow_add rfl rfl (w64 (by omega)) ?_)
  refine ops_cons rfl (ow_assign rfl ?_)
  refine ops_nil ?_
  refine tq_n ⟨(k + 1, (endModes m (ys.take k)) + 1 + 1 + x.m.next.length), (.cons rfl (.cons rfl (.cons rfl (.cons rfl (.nil _))))), ?_, ?_⟩
  · skip
    replace oQ := oQ.to (cs' := (mkModes m (ys.take (k + 1)) ++ ys.drop (k + 1)).flatMap ModeI.cells) (by rw [htk, mkModes_snoc, List.flatMap_append, List.flatMap_append, List.flatMap_append, List.flatMap_append, List.flatMap_singleton, List.flatMap_singleton, mkMode_cells])
    exact ⟨⟨by rw [htk, endModes_snoc]; rfl, by omega, by omega⟩, by omega, oQ, oM, oD, X⟩
  · first | omega | (dsimp only; omega)
  refine ops_nil ?_
  refine c_false rfl ?_
  refine c_exit ?_
  refine tq_e ?_
  refine tq_e ?_
  refine bq_e ?_
  refine tq_n ?_
  refine c_seqR ?_
  refine ops_cons rfl (ow_move rfl ?_)
  refine ops_cons rfl (ow_assign rfl ?_)
  refine ops_nil ?_
  refine c_ret ?_
  refine fin_ret1 rfl rfl ?_
  · skip
    rw [show k = ys.length by omega, List.take_length, List.drop_length, List.append_nil] at oO
    rw [show k = ys.length by omega, List.take_length] at oD ha
    exact ⟨by rw [ha.1], by omega, oO, oD, X⟩

theorem heldModesX_c (A : Option Addr) (B B2 c n : Nat) (ys : List ModeI) (m : Int) (w : World) (hs : Sl B w A ((mkModes m ys).flatMap ModeI.cells)) (hn : Nexts B2 w (mkModes m ys)) (en : n = ys.length) (hl : ys.length ≤ 1048576) (hz : ∀ x ∈ ys, x.m.next.length ≤ 1048576) (hm : 0 ≤ m ∧ m ≤ 1099511627776) :
    Calls Tryz.prog 95 #[.slice A n c, .int .i64 m] w (Ret fun v w' => v = .int .i64 (endModes m ys) ∧ Ext w w') := by
  have hle : (mkModes m ys).length = ys.length := mkModes_len ys m
  have Bhs := hs.1
  have Bhn := hn.1
  have X := Ext.refl w
  refine calls_of (args := [.slice A n c, .int .i64 m]) Tryz.func95 Tryz.ntmps95 rfl rfl ?_
  refine c_seqR ?_
  refine ops_cons rfl (ow_assign rfl ?_)
  refine ops_nil ?_
  refine c_seq ?_
  refine c_seqR ?_
  refine ops_cons rfl (ow_assign rfl ?_)
  refine ops_nil ?_
  refine c_block ?_
  refine c_loop (G := Nat × Int) (fun ⟨k, a⟩ => [(0, .slice A n c), (1, .int .i64 a), (5, .int .i64 (k : Nat))]) (fun ⟨k, a⟩ wr => k ≤ ys.length ∧ (a = endModes m (ys.take k) ∧ m ≤ a ∧ a ≤ m + 1048578 * k) ∧ Sl B wr A ((mkModes m ys).flatMap ModeI.cells) ∧ Nexts B2 wr (mkModes m ys) ∧ Ext w wr) (fun ⟨k, a⟩ => n - k) (0, m) (.cons rfl (.cons rfl (.cons rfl (.nil _)))) ?_ ?_
  · exact ⟨by omega, ⟨rfl, by omega⟩, hs, hn, X⟩
  clear hs hn
  clear X
  rintro ⟨k, a⟩ wr ⟨hk0, ha, hs, hn, X⟩
  refine c_seq ?_
  refine c_seqR ?_
  refine ops_cons rfl (ow_move rfl ?_)
  refine ops_cons rfl (ow_move rfl ?_)
  refine ops_cons rfl (ow_len Tryz.underlying25 rfl ?_)
  refine ops_cons rfl (ow_lss2 rfl rfl (fun hk => ?_) (fun hk => ?_))
  obtain ⟨x, hx, dx⟩ := drop_at' (xs := ys) (k := k) (by omega)
  have ha1 := ha.1
  subst ha1
  have htk : ys.take (k + 1) = ys.take k ++ [x] := by rw [List.take_add_one, hx]; rfl
  have hy : (mkModes m ys)[k]? = some (mkMode (endModes m (ys.take k)) x) := by
    have e := mkModes_drop ys m k
    rw [dx, mkModes] at e
    have e2 := congrArg (fun l => l[0]?) e
    simpa using e2
  have hz1 := hz x (List.mem_of_getElem? hx)
  have hyl : (mkMode (endModes m (ys.take k)) x).m.next.length = x.m.next.length := seqI_len _ _
  refine ops_nil ?_
  refine c_true rfl ?_
  refine c_skip ?_
  refine tq_n ?_
  refine c_seq ?_
  refine c_block ?_
  refine c_seq ?_
  refine c_seqR ?_
  refine ops_cons rfl (ow_move rfl ?_)
  refine ops_cons rfl (ow_move rfl ?_)
  refine ops_cons rfl (ow_indexT hs ModeI.len rfl el25 rfl (by omega) rfl hy rfl ?_)
  refine ops_cons rfl (ow_fieldAddr off92_0 rfl ?_)
  refine ops_cons rfl (ow_loadTF hs ModeI.len hy ti2 rfl rfl rfl ?_)
  refine ops_cons rfl (ow_move rfl ?_)
  refine ops_cons rfl (ow_neq2 rfl rfl (fun h1 => absurd h1 (by exact fun h => h rfl)) (fun h1 => ?_))
  refine ops_nil ?_
  refine c_false rfl ?_
  refine c_skip ?_
  refine tq_n ?_
  refine c_seqR ?_
  refine ops_cons rfl (ow_move rfl ?_)
  refine ops_cons rfl (ow_add rfl rfl (w64 (by omega)) ?_)
  refine ops_cons rfl (ow_assign rfl ?_)
  refine ops_nil ?_
  refine c_seq ?_
  refine c_seqR ?_
  refine ops_cons rfl (ow_move rfl ?_)
  refine ops_cons rfl (ow_move rfl ?_)
  refine ops_cons rfl (ow_indexT hs ModeI.len rfl el25 rfl (by omega) rfl hy rfl ?_)
  refine ops_cons rfl (ow_fieldAddr off92_1 rfl ?_)
  refine ops_cons rfl (ow_loadTF hs ModeI.len hy ti2 rfl rfl rfl ?_)
  refine ops_cons rfl (ow_move rfl ?_)
  refine ops_cons rfl (ow_neq2 rfl rfl (fun h2 => absurd h2 (by exact fun h => h rfl)) (fun h2 => ?_))
  refine ops_nil ?_
  refine c_false rfl ?_
  refine c_skip ?_
  refine tq_n ?_
  refine c_seqR ?_
  refine ops_cons rfl (ow_move rfl ?_)
  refine ops_cons rfl (ow_add rfl rfl (w64 (by omega)) ?_)
  refine ops_cons rfl (ow_assign rfl ?_)
  refine ops_nil ?_
  refine c_seqR ?_
  refine ops_cons rfl (ow_move rfl ?_)
  refine ops_cons rfl (ow_move rfl ?_)
  refine ops_cons rfl (ow_indexT hs ModeI.len rfl el25 rfl (by omega) rfl hy rfl ?_)
  have hnx := hn.at_ hy
  refine ops_cons rfl (ow_fieldAddr off92_2 rfl ?_)
  refine ops_cons rfl (ow_loadTF hs ModeI.len hy ti30 rfl rfl rfl ?_)
  refine ops_cons rfl (ow_move rfl ?_)
  refine ops_cons rfl (ow_call ent63 rfl (ret_mono (by have h := heldI_c x.A _ x.c x.m.next.length (endModes m (ys.take k) + 1 + 1) _ hnx hz1 (by omega); rw [show x.m.next.length = (mkMode (endModes m (ys.take k)) x).m.next.length from (seqI_len _ _).symm] at h; exact h) ?_))
  rintro _ w4 ⟨rfl, x3⟩
  replace hs := hs.ext x3
  replace hn := hn.ext x3
  replace hnx := hnx.ext x3
  replace X := Ext.trans X x3; clear x3
  refine ops_cons rfl (ow_assign rfl ?_)
  refine ops_nil ?_
  refine c_seqR ?_
  refine ops_cons rfl (ow_move rfl ?_)
  refine ops_cons rfl (ow_lss2 rfl rfl (fun h5 => absurd h5 (by omega)) (fun h5 => ?_))
  refine ops_nil ?_
  refine c_false rfl ?_
  refine c_skip ?_
  refine bq_n ?_
  refine tq_n ?_
  refine c_region ?_
  refine ops_cons rfl (ow_move rfl ?_)
  refine ops_cons rfl (ow_add rfl rfl (w64 (by omega)) ?_)
  refine ops_cons rfl (ow_assign rfl ?_)
  refine ops_nil ?_
  refine tq_n ⟨(k + 1, endModes m (ys.take k) + 1 + 1 + (mkMode (endModes m (ys.take k)) x).m.next.length), (.cons rfl (.cons rfl (.cons rfl (.nil _)))), ?_, ?_⟩
  · exact ⟨by omega, ⟨by rw [htk, endModes_snoc, hyl]; rfl, by omega, by omega⟩, hs, hn, X⟩
  · first | omega | (dsimp only; omega)
  refine ops_nil ?_
  refine c_false rfl ?_
  refine c_exit ?_
  refine tq_e ?_
  refine tq_e ?_
  refine bq_e ?_
  refine tq_n ?_
  refine c_seqR ?_
  refine ops_cons rfl (ow_move rfl ?_)
  refine ops_cons rfl (ow_assign rfl ?_)
  refine ops_nil ?_
  refine c_ret ?_
  refine fin_ret1 rfl rfl ?_
  · skip
    rw [show k = ys.length by omega, List.take_length] at ha
    exact ⟨by rw [ha.1], X⟩
end Go.Proofs.YtdoibplhbdkapaaGreatDoor
namespace Go.Proofs.YtdoibplhbdkapaaGreatDoor
open Go.RowKit
set_option linter.unusedVariables false
set_option linter.unusedSimpArgs false
set_option maxRecDepth 20000
theorem kep_ext {ts : List TypeId} {w w' : World} (h : Ext w w') : Kep ts w w' := ⟨h.size, fun k cur t e hk _ => (h.block k (Array.getElem?_eq_some_iff.1 hk).1).trans hk⟩
theorem kep_more {ts us : List TypeId} {w w' : World} (h : Kep ts w w') (hs : ∀ t, t ∈ ts → t ∈ us) : Kep us w w' := ⟨h.1, fun k cur t e hk ht => h.2 k cur t e hk fun h1 => ht (hs t h1)⟩

theorem markMedl_c (m : MedlI) (lo hi : Nat) (a : Int) (w : World) (oX : MOwn w lo 59 92 2 89 m) (hU : ∀ g, ((Value.slice m.An m.ns.length m.cn).ownBlock = some g ∨ (Value.slice m.Am m.ms.length m.cm).ownBlock = some g ∨ (Value.slice m.As m.ss.length m.cs).ownBlock = some g) → g < hi) (hUN : ∀ y ∈ m.ms, ∀ g, y.blk = some g → g < hi) (hz : m.small) (ha : 0 ≤ a ∧ a ≤ 1048576) :
    Calls Tryz.prog 27 #[.agg m.cells.toArray, .int .i64 a] w (Ret fun v w' => v = .int .i64 (endMedl a m) ∧ MSeen w' lo 59 92 2 89 m a (nsM a m mkNodeI) (mkModes (a1M a m) m.ms) (ssM a m mkSlotI) ∧ WinK lo hi [59, 92, 2, 89] w w') := by
  have hls := hz.ls
  have hlm := hz.lm
  have hln := hz.ln
  have X := Ext.refl w
  refine calls_of (args := [.agg m.cells.toArray, .int .i64 a]) Tryz.func27 Tryz.ntmps27 rfl rfl ?_
  refine c_seqR ?_
  refine ops_cons rfl (ow_box rfl rfl ?_)
  intro gM w2 egM bM x1 zgM
  have lgM : w.heap.size ≤ gM := Nat.le_trans X.size (Nat.le_of_eq egM.symm)
  replace oX := oX.ext x1
  replace X := Ext.trans X x1; clear x1
  obtain ⟨oN, oM, oP, oD, oS⟩ := oX
  refine ops_cons rfl (ow_assign rfl ?_)
  refine ops_nil ?_
  refine c_seqR ?_
  refine ops_cons rfl (ow_fieldAddrB off28_1 rfl rfl ?_)
  refine ops_cons rfl (ow_loadB bM ti24 rfl rfl ?_)
  refine ops_cons rfl (ow_move rfl ?_)
  refine ops_cons rfl (ow_call ent91 rfl (ret_mono (markNodeI_c m.An m.cn lo m.ns a _ oN hln (by omega)) ?_))
  rintro _ v1 ⟨rfl, oN2, y1⟩
  replace bM := bM.grown y1 (fun h => Own.neT oN bM (by decide) h.symm)
  replace oM := oM.grown y1 (Own.neO oM oN (by decide))
  replace oP := oP.grownO oN y1 (by decide)
  replace oS := oS.grown y1 (Own.neO oS oN (by decide))
  have Y1 : WinK lo hi [59, 92, 2, 89] w v1 := ⟨(Win.ofExt X).grown y1 (fun g hg => ⟨(Own.lt oN hg).1, hU g (.inl hg)⟩), (kep_ext X).trans (Kep.ofGrown y1 oN (by decide))⟩
  clear oN
  refine ops_cons rfl (ow_assign rfl ?_)
  refine ops_nil ?_
  refine c_seqR ?_
  refine ops_cons rfl (ow_fieldAddrB off28_2 rfl rfl ?_)
  refine ops_cons rfl (ow_loadB bM ti25 rfl rfl ?_)
  refine ops_cons rfl (ow_move rfl ?_)
  refine ops_cons rfl (ow_call ent92 rfl (ret_mono (markModesX_c m.Am m.cm lo hi m.ms (a1M a m) _ oM (NFrom.of oP 0) oD (fun g hg => hU g (.inr (.inl hg))) hUN hlm hz.lx (by unfold a1M; omega)) ?_))
  rintro _ v2 ⟨rfl, hb2, oM2, oP2, y2⟩
  replace bM := bM.kep y2.kep (by decide)
  replace oN2 := oN2.kep y2.kep (by decide)
  replace oS := oS.kep y2.kep (by decide)
  have Y2 : WinK lo hi [59, 92, 2, 89] w v2 := ⟨Y1.win.trans y2.win, Y1.kep.trans (kep_more y2.kep (by decide))⟩
  clear oM oP
  refine ops_cons rfl (ow_assign rfl ?_)
  refine ops_nil ?_
  refine c_seqR ?_
  refine ops_cons rfl (ow_fieldAddrB off28_3 rfl rfl ?_)
  refine ops_cons rfl (ow_loadB bM ti26 rfl rfl ?_)
  refine ops_cons rfl (ow_move rfl ?_)
  refine ops_cons rfl (ow_call ent93 rfl (ret_mono (markSlotI_c m.As m.cs lo m.ss (a2M a m) _ oS hls (by unfold a2M; unfold a1M at *; omega)) ?_))
  rintro _ v3 ⟨rfl, oS2, y3⟩
  replace bM := bM.grown y3 (fun h => Own.neT oS bM (by decide) h.symm)
  replace oN2 := oN2.grown y3 (Own.neO oN2 oS (by decide))
  replace oM2 := oM2.grown y3 (Own.neO oM2 oS (by decide))
  replace oP2 := oP2.grownO oS y3 (by decide)
  have Y3 : WinK lo hi [59, 92, 2, 89] w v3 := ⟨Y2.win.grown y3 (fun g hg => ⟨(Own.lt oS hg).1, hU g (.inr (.inr hg))⟩), Y2.kep.trans (Kep.ofGrown y3 oS (by decide))⟩
  clear oS
  refine ops_cons rfl (ow_assign rfl ?_)
  refine ops_nil ?_
  refine c_seqR ?_
  refine ops_cons rfl (ow_move rfl ?_)
  refine ops_cons rfl (ow_assign rfl ?_)
  refine ops_nil ?_
  refine c_ret ?_
  refine fin_ret1 rfl rfl ?_
  exact ⟨rfl, ⟨oN2, oM2, oP2, oS2⟩, Y3⟩

theorem heldMedl_c (m : MedlI) (B1 B2 B3 B4 : Nat) (a : Int) (w : World) (s1 : Sl B1 w m.An ((nsM a m mkNodeI).flatMap NodeI.cells)) (s2 : Sl B2 w m.Am ((mkModes (a1M a m) m.ms).flatMap ModeI.cells)) (s3 : Nexts B3 w (mkModes (a1M a m) m.ms)) (s4 : Sl B4 w m.As ((ssM a m mkSlotI).flatMap SlotI.cells)) (hz : m.small) (ha : 0 ≤ a ∧ a ≤ 1048576) :
    Calls Tryz.prog 28 #[.agg m.cells.toArray, .int .i64 a] w (Ret fun v w' => v = .int .i64 (endMedl a m) ∧ Ext w w') := by
  have hls := hz.ls
  have hlm := hz.lm
  have hln := hz.ln
  have he := endModes_in m.ms (a1M a m) hz.lx
  have e1 : a1M a m = a + 4 * m.ns.length := rfl
  have e2 : a2M a m = endModes (a1M a m) m.ms := rfl
  have Bs1 := s1.1
  have Bs2 := s2.1
  have Bs3 := s3.1
  have Bs4 := s4.1
  have X := Ext.refl w
  refine calls_of (args := [.agg m.cells.toArray, .int .i64 a]) Tryz.func28 Tryz.ntmps28 rfl rfl ?_
  refine c_seqR ?_
  refine ops_cons rfl (ow_box rfl rfl ?_)
  intro gM w2 egM bM x1 zgM
  have lgM : w.heap.size ≤ gM := Nat.le_trans X.size (Nat.le_of_eq egM.symm)
  have pgMs1 := Nat.le_trans s1.1 (Nat.le_of_eq egM.symm)
  have pgMs2 := Nat.le_trans s2.1 (Nat.le_of_eq egM.symm)
  have pgMs3 := Nat.le_trans s3.1 (Nat.le_of_eq egM.symm)
  have pgMs4 := Nat.le_trans s4.1 (Nat.le_of_eq egM.symm)
  replace s1 := s1.ext x1
  replace s2 := s2.ext x1
  replace s3 := s3.ext x1
  replace s4 := s4.ext x1
  replace X := Ext.trans X x1; clear x1
  refine ops_cons rfl (ow_assign rfl ?_)
  refine ops_nil ?_
  refine c_seqR ?_
  refine ops_cons rfl (ow_fieldAddrB off28_1 rfl rfl ?_)
  refine ops_cons rfl (ow_loadB bM ti24 rfl rfl ?_)
  refine ops_cons rfl (ow_move rfl ?_)
  refine ops_cons rfl (ow_call ent94 rfl (ret_mono (heldNodeI_c m.An _ m.cn m.ns.length a _ s1 hln (by omega)) ?_))
  rintro _ w4 ⟨rfl, x3⟩
  replace s1 := s1.ext x3
  replace s2 := s2.ext x3
  replace s3 := s3.ext x3
  replace s4 := s4.ext x3
  replace bM := bM.ext x3
  replace X := Ext.trans X x3; clear x3
  refine ops_cons rfl (ow_assign rfl ?_)
  refine ops_nil ?_
  refine c_seq ?_
  refine c_seqR ?_
  refine ops_cons rfl (ow_move rfl ?_)
  refine ops_cons rfl (ow_lss2 rfl rfl (fun h5 => absurd h5 (by omega)) (fun h5 => ?_))
  refine ops_nil ?_
  refine c_false rfl ?_
  refine c_skip ?_
  refine tq_n ?_
  refine c_seqR ?_
  refine ops_cons rfl (ow_fieldAddrB off28_2 rfl rfl ?_)
  refine ops_cons rfl (ow_loadB bM ti25 rfl rfl ?_)
  refine ops_cons rfl (ow_move rfl ?_)
  refine ops_cons rfl (ow_call ent95 rfl (ret_mono (heldModesX_c m.Am _ _ m.cm m.ms.length m.ms (a1M a m) _ s2 s3 rfl hlm hz.lx (by omega)) ?_))
  rintro _ w7 ⟨rfl, x6⟩
  replace s1 := s1.ext x6
  replace s2 := s2.ext x6
  replace s3 := s3.ext x6
  replace s4 := s4.ext x6
  replace bM := bM.ext x6
  replace X := Ext.trans X x6; clear x6
  refine ops_cons rfl (ow_assign rfl ?_)
  refine ops_nil ?_
  refine c_seq ?_
  refine c_seqR ?_
  refine ops_cons rfl (ow_move rfl ?_)
  refine ops_cons rfl (ow_lss2 rfl rfl (fun h8 => absurd h8 (by omega)) (fun h8 => ?_))
  refine ops_nil ?_
  refine c_false rfl ?_
  refine c_skip ?_
  refine tq_n ?_
  refine c_seqR ?_
  refine ops_cons rfl (ow_fieldAddrB off28_3 rfl rfl ?_)
  refine ops_cons rfl (ow_loadB bM ti26 rfl rfl ?_)
  refine ops_cons rfl (ow_move rfl ?_)
  refine ops_cons rfl (ow_call ent96 rfl (ret_mono (heldSlotI_c m.As _ m.cs m.ss.length (a2M a m) _ s4 hls (by omega)) ?_))
  rintro _ w10 ⟨rfl, x9⟩
  replace s1 := s1.ext x9
  replace s2 := s2.ext x9
  replace s3 := s3.ext x9
  replace s4 := s4.ext x9
  replace bM := bM.ext x9
  replace X := Ext.trans X x9; clear x9
  refine ops_cons rfl (ow_assign rfl ?_)
  refine ops_nil ?_
  refine c_seq ?_
  refine c_seqR ?_
  refine ops_cons rfl (ow_move rfl ?_)
  refine ops_cons rfl (ow_lss2 rfl rfl (fun h11 => absurd h11 (by omega)) (fun h11 => ?_))
  refine ops_nil ?_
  refine c_false rfl ?_
  refine c_skip ?_
  refine tq_n ?_
  refine c_seqR ?_
  refine ops_cons rfl (ow_move rfl ?_)
  refine ops_cons rfl (ow_assign rfl ?_)
  refine ops_nil ?_
  refine c_ret ?_
  refine fin_ret1 rfl rfl ?_
  exact ⟨by rfl, X⟩
end Go.Proofs.YtdoibplhbdkapaaGreatDoor
namespace Go.Proofs.YtdoibplhbdkapaaGreatDoor
open Go.ChangeShapes Go.WideShapes Go.ChangeAt Go.RowKit
set_option linter.unusedVariables false
set_option linter.unusedSimpArgs false

theorem trodAll_stays {H : Type} {enc : TypeId × Value → H} {P : Program} (hl : laidOutB P = true) {W W' : World} (hb : Ext W W') : ∀ (ts : List TypeId) (vs : List Value) (ds : List (DataW H)) (ps : List MemPlace),
    ts.all (fun t => P.readableRec t && decide (t < P.types.size)) = true → DataW.TrodAll enc P W 0 (fun _ => true) true ts vs ds ps → (∀ x ∈ ps, x.block < W.heap.size) →
    DataW.TrodAll enc P W' 0 (fun b => decide (b < W.heap.size)) true ts vs ds ps
  | [], vs, ds, ps, _, h, _ => by
    obtain ⟨rfl, rfl, rfl⟩ := trodAll_nil h
    exact trodAll_mk0
  | t :: ts, vs, ds, ps, ht, h, hlt => by
    obtain ⟨v, vs', d, ds', p, q, rfl, rfl, rfl, h1, h2⟩ := trodAll_cons h
    simp only [List.all_cons, Bool.and_eq_true, decide_eq_true_eq] at ht
    exact trodAll_cons_mk (Below.trod hl ht.1.1 ht.1.2 h1 hb (fun x hx => hlt x (by simp [hx]))) (trodAll_stays hl hb ts vs' ds' q ht.2 h2 (fun x hx => hlt x (by simp [hx])))

theorem law_post {H : Type} {enc : TypeId × Value → H} {P : Program} {f : Func} {s : ChangeSpec} {W W' : World} {args : Array Value} {ds gs : List (DataW H)} {before : List MemPlace} {tb : TypeId}
    (hl : laidOutB P = true) (hpar : f.params.toList.all (fun t => P.readableRec t && decide (t < P.types.size)) = true) (hvars : s.vars = []) (hres : f.resultTypes = #[tb]) (htb : P.underlying tb = some .bool)
    (hW : DataW.Whole enc P f.params.toList s.vars false W args.toList ds gs before) (hspec : s.fn H (ds ++ gs) = { results := [.lit (.bool true)], args := ds }) (hb : Ext W W') :
    s.post enc P f false true false false W args (.bool true) W' := by
  have hlt : ∀ x ∈ before, x.block < W.heap.size := fun x hx => hW.lt x hx
  have hW' := hW
  obtain ⟨p, q, hA, hV, rfl, hfz, hnd⟩ := hW
  refine ⟨ds, gs, p ++ q, [], p, [], hW', ?_, ?_, ?_, Below.frame hb _, fun h => by cases h⟩
  · rw [hspec, hres]
    exact trodAll_cons_mk (shut_bool htb true) trodAll_mk0
  · rw [hspec]
    exact trodAll_stays hl hb _ _ _ _ hpar hA (fun x hx => hlt x (by simp [hx]))
  · rw [hspec, hvars]
    rfl

section
variable {H : Type} {enc : TypeId × Value → H} {P : Program} {W : World} {sp : Nat → Bool}

theorem exists_list {α : Type} {Q : Nat → α → Prop} : ∀ n, (∀ i, i < n → ∃ y, Q i y) → ∃ xs : List α, xs.length = n ∧ ∀ (i : Nat) (y : α), xs[i]? = some y → Q i y
  | 0, _ => ⟨[], rfl, by simp⟩
  | n + 1, h => by
    obtain ⟨xs, hl, hq⟩ := exists_list n (fun i hi => h i (by omega))
    obtain ⟨y, hy⟩ := h n (by omega)
    refine ⟨xs ++ [y], by simp [hl], fun i z hz => ?_⟩
    by_cases hi : i < n
    · rw [List.getElem?_append_left (by omega)] at hz
      exact hq i z hz
    · have hin : i = n := by
        have := (List.getElem?_eq_some_iff.1 hz).1
        simp [hl] at this; omega
      subst hin
      rw [List.getElem?_append_right (by omega)] at hz
      simp [hl] at hz
      subst hz
      exact hy

theorem open_sl {t e : TypeId} {s : Nat} {α : Type} {en : α → List Value} {ok : α → Prop} {fuel : Nat} {v : Value} {x : DataW H × List MemPlace} (ht : P.underlying t = some (.slice e)) (hs : P.cellsOf e = s) (he : ∀ y, (en y).length = s) (h0 : 0 < s)
    (ho : ∀ n cs x, DataW.trod enc P W 0 sp true n e cs = some x → ∃ y, cs = en y ∧ ok y) (h : DataW.trod enc P W 0 sp true fuel t [v] = some x) :
    ∃ (A : Option Addr) (xs : List α) (c : Nat), v = .slice A xs.length c ∧ Sl W.heap.size W A (xs.flatMap en) ∧ (∀ y ∈ xs, ok y) ∧ xs.length ≤ 9223372036854775807 := by
  rcases DataW.trod_slice ht h with ⟨hv, _⟩ | ⟨a, len, cap, elems, rest, n, _, hv, _, _, hlc, hcm, hel, hg, _⟩
  · have hv : v = .slice none 0 0 := by simpa using hv
    exact ⟨none, [], 0, hv, Sl.nil_ (Nat.le_refl _) _, by simp, by simp⟩
  · have hv : v = .slice (some a) len cap := by simpa using hv
    obtain ⟨xs, hl, hq⟩ := exists_list (Q := fun i y => ok y ∧ ∀ (j : Nat) (u : Value), (en y)[j]? = some u → W.cell? (a.add (i * s + j)) = some u) len (fun i hi => by
      have h1 := hg i hi
      have hil : i < elems.length := by omega
      rw [List.getElem?_eq_getElem hil, Option.bind_eq_some_iff] at h1
      obtain ⟨cs, hc, htr⟩ := h1
      obtain ⟨y, rfl, hy⟩ := ho _ _ _ htr
      rw [hs] at hc
      obtain ⟨_, hcl, hat⟩ := World.cells?_some hc
      refine ⟨y, hy, fun j u hj => ?_⟩
      have hjl : j < s := by rw [← he y]; exact (List.getElem?_eq_some_iff.1 hj).1
      rw [← add_add', hat j hjl, hj])
    refine ⟨some a, xs, cap, by rw [hl]; exact hv, ⟨Nat.le_refl _, fun m u hm => ?_⟩, fun y hy => ?_, ?_⟩
    · obtain ⟨j, y, i, rfl, hi, hj, hu⟩ := flat_none he xs m u hm h0
      have hc := (hq j y hj).2 i u hu
      exact ⟨rfl, by have := World.block_lt_of_cell? W _ hc; rwa [block_of_add] at this, hc⟩
    · obtain ⟨i, hi, rfl⟩ := List.mem_iff_getElem.1 hy
      exact (hq i _ (List.getElem?_eq_getElem hi)).1
    · have : cap ≤ maxLen := hcm
      unfold maxLen at this
      omega

def In64 (z : Int) : Prop := -9223372036854775808 ≤ z ∧ z ≤ 9223372036854775807
theorem open_i64 {t : TypeId} {fuel : Nat} {cs : List Value} {x : DataW H × List MemPlace} (ht : P.underlying t = some (.int .i64)) (h : DataW.trod enc P W 0 sp true fuel t cs = some x) : ∃ z, cs = [.int .i64 z] ∧ In64 z := by
  obtain ⟨z, hz, _, hw⟩ := DataW.trod_int ht h
  refine ⟨z, hz, ?_⟩
  simpa [In64, Lit.wf, IntKind.min, IntKind.max, IntKind.signed, IntKind.bits] using hw
theorem cell_of {t : TypeId} {v : Value} {d : DataW H} {p : List MemPlace} (hc : v.cells = #[v]) (h : DataW.Trod enc P W 0 sp true t v d p) : ∃ n x, DataW.trod enc P W 0 sp true n t [v] = some x := by
  obtain ⟨n, hn⟩ := h
  exact ⟨n, _, by simpa [hc] using hn⟩
end

end Go.Proofs.YtdoibplhbdkapaaGreatDoor
namespace Go.Proofs.YtdoibplhbdkapaaGreatDoor
open Go.ChangeShapes Go.WideShapes Go.ChangeAt Go.RowKit
set_option linter.unusedVariables false
set_option linter.unusedSimpArgs false
set_option maxRecDepth 100000
def Desc.ok (d : Desc) : Prop := In64 d.node ∧ In64 d.kind ∧ In64 d.size ∧ In64 d.duration
def SlotI.ok (d : SlotI) : Prop := In64 d.mode ∧ In64 d.round ∧ In64 d.slot ∧ Desc.ok d.desc
def NodeI.ok (d : NodeI) : Prop := In64 d.id ∧ d.name.size ≤ 9223372036854775807 ∧ In64 d.drift
theorem law_own : ownKnob Tryz.prog.godebug = none := by kernel_rfl
theorem law_laid : laidOutB Tryz.prog = true := by kernel_rfl
theorem law_main : Tryz.pinned.checked.prog.mainIs = some (true, "9d3b8bcd3f057db7ce87d49064bbf274986517e6a2e4614acdb81aa3eaa2e189".toList) := by kernel_rfl
theorem law_looks : false = Tryz.prog.looks [] := by kernel_rfl
end Go.Proofs.YtdoibplhbdkapaaGreatDoor
