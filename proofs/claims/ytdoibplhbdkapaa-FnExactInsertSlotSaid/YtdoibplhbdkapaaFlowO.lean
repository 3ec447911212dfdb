/- Flow, part O: copies into a row, from any place on. No condition. -/
import Derived.Test.YtdoibplhbdkapaaFlowN
import Derived.Test.YtdoibplhbdkapaaFlowM
import Derived.Laws.CopyRow
namespace Go.Proofs.Ytdoibplhbdkapaa
open Go.RowKit
set_option linter.unusedVariables false
set_option linter.unusedSimpArgs false
section
variable {P : Program} {e : List (Nat × Value)} {ty : TypeId} {w : World} {K : Value → World → Prop} {x y lo hi : Operand} {t el : TypeId} {s b : Nat} {z : List Value} {a : Bool}
theorem ow_sliceLG {g n c l : Nat} {k1 : IntKind} {m1 : Int} (ht : elO P t = some (el, s)) (hx : evO e x = some (.slice (some ⟨g, 0, none⟩) n c)) (h1 : evO e lo = some (.int k1 m1)) (e1 : m1 = (l : Int))
    (hl : l < n) (hc : n ≤ c) (hK : K (.slice (some ⟨g, l * s, none⟩) (n - l) (c - l)) w) : OpWp P e (.slice t x (some lo) none none) ty w K := fun ρ d p af gd hρ => by
  have g0 := hρ _ _ hx; have g1 := hρ _ _ h1
  obtain ⟨hu, hsz⟩ := elem_of ht
  subst e1
  have hr := run_slice_l (P := P) (w := w) t (some ⟨g, 0, none⟩) n c hu k1 (l : Int) (by omega) (by omega)
  simp only [execOp, g0, Option.map_some, Option.map_none, g1, Sem.run_bind, run_sliceAt_slice w t _ _ _ _ hu, hr, hsz, Result.andThen_ok, Sem.run_pure, upto, sliced, Int.toNat_natCast]
  rw [if_neg (by omega), add_blk, Nat.zero_add]
  exact hK
theorem ow_copyG {lo' B n c o dl dc k g sl sc : Nat} {aS : Addr} {cs ds : List Value} {dT sT : TypeId} (hown : Own w lo' el 1 (some ⟨g, 0, none⟩) n c cs) (hsrc : Sl B w (some aS) ds) (ht : P.underlying dT = some (.slice el)) (hi : tiO P el = some (a, 1, b, z))
    (hx : evO e x = some (.slice (some ⟨g, o, none⟩) dl dc)) (hy : evO e y = some (.slice (some aS) sl sc)) (hm : k = Nat.min sl dl) (hk : ds.length = k) (hn : 0 < n) (hf : o + k ≤ n) (h1 : ∀ u ∈ ds, u.oneCell' = true)
    (h : ∀ w', Own w' lo' el 1 (some ⟨g, 0, none⟩) n c (cs.take o ++ ds ++ cs.drop (o + k)) → w.grownBy w' ((Value.slice (some ⟨g, 0, none⟩) n c).ownBlock) → K (.int .i64 (k : Nat)) w') : OpWp P e (.call ⟨.builtin .copy, #[x, y], #[dT, sT]⟩) ty w K := fun ρ d p af gd hρ => by
  have g1 := hρ _ _ hx; have g2 := hρ _ _ hy
  obtain ⟨g', cur, hA, hlo, hg, hnc, hsz, htk⟩ := hown.form hn
  injection hA with hA
  injection hA with hA
  subst hA
  obtain ⟨d', ti, zv, hd, hi', hz, ha, hts, hby, hzv⟩ := tiO_spec hi
  have hr := run_copy_row P w dT sT ty el g o dl dc aS sl sc cur el ds ht (by rw [hi']; simp [hts]) hg (by rw [hk, hm]) (fun j v hj => (hsrc.2 j v hj).2.2) (by rw [hk, hsz]; omega) h1
  simp only [execOp, resolve, invoke, builtin, Sem.run_bind, Sem.run_pure, Result.andThen_ok, List.map_toArray, List.map_cons, List.map_nil, g1, g2, hr, upto]
  rw [hk]
  refine h _ ?_ ⟨rfl, rfl, rfl, by simp, fun k' _ hk' => setRow_other w g k' _ (fun e => hk' (by rw [e]; rfl))⟩
  have hlen := hown.len
  refine ⟨by simp [hk, hlen]; omega, .inr ⟨g, c, _, rfl, hlo, setRow_heap w g cur _ el _ hg, hnc, ?_, ?_, ?_⟩⟩
  · rcases hown.2 with ⟨h5, _⟩ | ⟨g', cap', cur', h5, _, _, _, h6, _⟩
    · simp at h5
    · simp only [Value.slice.injEq] at h5
      obtain ⟨_, _, rfl⟩ := h5
      exact h6
  · simp [hk]; omega
  · rw [← htk]
    simp only []
    apply List.ext_getElem?
    intro i
    simp only [List.getElem?_take, List.getElem?_append, List.length_append, List.length_take, List.getElem?_drop, Array.length_toList, hk]
    repeat' split
    all_goals (try omega)
    all_goals (try rfl)
    all_goals (try (congr 1; omega))
    all_goals (symm; first | (apply List.getElem?_eq_none; omega) | skip)
end
end Go.Proofs.Ytdoibplhbdkapaa
