/- Texts of the seat that a law needs, put together. No condition. -/
import Derived.Test.YtdoibplhbdkapaaGreatDoorCEP3
import Derived.ProofKit
import Derived.OpenShut
import Derived.Test.YtdoibplhbdkapaaGreatDoorCEP5
import Derived.Test.YtdoibplhbdkapaaGreatDoorCards
namespace Go.Proofs.YtdoibplhbdkapaaGreatDoor
open Go.ChangeShapes Go.WideShapes Go.ChangeAt Go.RowKit
set_option linter.unusedVariables false
set_option linter.unusedSimpArgs false

theorem trodAll_stays {H : Type} {enc : TypeId × Value → H} {P : Program} (hl : laidOutB P = true) {W W' : World} (hb : Ext W W') : ∀ (ts : List TypeId) (vs : List Value) (ds : List (DataW H)) (ps : List MemPlace),
    ts.all (fun t => P.readableRec t && decide (t < P.types.size)) = true → DataW.TrodAll enc P W 0 (fun _ => true) true ts vs ds ps → (∀ x ∈ ps, x.block < W.heap.size) →
    DataW.TrodAll enc P W' 0 (fun b => decide (b < W.heap.size)) true ts vs ds ps
  | [], vs, ds, ps, _, h, _ => by
    obtain ⟨rfl, rfl, rfl⟩ := trodAll_nil h
    exact trodAll_mk0
  | t :: ts, vs, ds, ps, ht, h, hlt => by
    obtain ⟨v, vs', d, ds', p, q, rfl, rfl, rfl, h1, h2⟩ := trodAll_cons h
    simp only [List.all_cons, Bool.and_eq_true, decide_eq_true_eq] at ht
    exact trodAll_cons_mk (Below.trod hl ht.1.1 ht.1.2 h1 hb (fun x hx => hlt x (by simp [hx]))) (trodAll_stays hl hb ts vs' ds' q ht.2 h2 (fun x hx => hlt x (by simp [hx])))

theorem law_post {H : Type} {enc : TypeId × Value → H} {P : Program} {f : Func} {s : ChangeSpec} {W W' : World} {args : Array Value} {ds gs : List (DataW H)} {before : List MemPlace} {tb : TypeId}
    (hl : laidOutB P = true) (hpar : f.params.toList.all (fun t => P.readableRec t && decide (t < P.types.size)) = true) (hvars : s.vars = []) (hres : f.resultTypes = #[tb]) (htb : P.underlying tb = some .bool)
    (hW : DataW.Whole enc P f.params.toList s.vars false W args.toList ds gs before) (hspec : s.fn H (ds ++ gs) = { results := [.lit (.bool true)], args := ds }) (hb : Ext W W') :
    s.post enc P f false true false false W args (.bool true) W' := by
  have hlt : ∀ x ∈ before, x.block < W.heap.size := fun x hx => hW.lt x hx
  have hW' := hW
  obtain ⟨p, q, hA, hV, rfl, hfz, hnd⟩ := hW
  refine ⟨ds, gs, p ++ q, [], p, [], hW', ?_, ?_, ?_, Below.frame hb _, fun h => by cases h⟩
  · rw [hspec, hres]
    exact trodAll_cons_mk (shut_bool htb true) trodAll_mk0
  · rw [hspec]
    exact trodAll_stays hl hb _ _ _ _ hpar hA (fun x hx => hlt x (by simp [hx]))
  · rw [hspec, hvars]
    rfl

section
variable {H : Type} {enc : TypeId × Value → H} {P : Program} {W : World} {sp : Nat → Bool}

theorem exists_list {α : Type} {Q : Nat → α → Prop} : ∀ n, (∀ i, i < n → ∃ y, Q i y) → ∃ xs : List α, xs.length = n ∧ ∀ (i : Nat) (y : α), xs[i]? = some y → Q i y
  | 0, _ => ⟨[], rfl, by simp⟩
  | n + 1, h => by
    obtain ⟨xs, hl, hq⟩ := exists_list n (fun i hi => h i (by omega))
    obtain ⟨y, hy⟩ := h n (by omega)
    refine ⟨xs ++ [y], by simp [hl], fun i z hz => ?_⟩
    by_cases hi : i < n
    · rw [List.getElem?_append_left (by omega)] at hz
      exact hq i z hz
    · have hin : i = n := by
        have := (List.getElem?_eq_some_iff.1 hz).1
        simp [hl] at this; omega
      subst hin
      rw [List.getElem?_append_right (by omega)] at hz
      simp [hl] at hz
      subst hz
      exact hy

theorem open_sl {t e : TypeId} {s : Nat} {α : Type} {en : α → List Value} {ok : α → Prop} {fuel : Nat} {v : Value} {x : DataW H × List MemPlace} (ht : P.underlying t = some (.slice e)) (hs : P.cellsOf e = s) (he : ∀ y, (en y).length = s) (h0 : 0 < s)
    (ho : ∀ n cs x, DataW.trod enc P W 0 sp true n e cs = some x → ∃ y, cs = en y ∧ ok y) (h : DataW.trod enc P W 0 sp true fuel t [v] = some x) :
    ∃ (A : Option Addr) (xs : List α) (c : Nat), v = .slice A xs.length c ∧ Sl W.heap.size W A (xs.flatMap en) ∧ (∀ y ∈ xs, ok y) ∧ xs.length ≤ 9223372036854775807 := by
  rcases DataW.trod_slice ht h with ⟨hv, _⟩ | ⟨a, len, cap, elems, rest, n, _, hv, _, _, hlc, hcm, hel, hg, _⟩
  · have hv : v = .slice none 0 0 := by simpa using hv
    exact ⟨none, [], 0, hv, Sl.nil_ (Nat.le_refl _) _, by simp, by simp⟩
  · have hv : v = .slice (some a) len cap := by simpa using hv
    obtain ⟨xs, hl, hq⟩ := exists_list (Q := fun i y => ok y ∧ ∀ (j : Nat) (u : Value), (en y)[j]? = some u → W.cell? (a.add (i * s + j)) = some u) len (fun i hi => by
      have h1 := hg i hi
      have hil : i < elems.length := by omega
      rw [List.getElem?_eq_getElem hil, Option.bind_eq_some_iff] at h1
      obtain ⟨cs, hc, htr⟩ := h1
      obtain ⟨y, rfl, hy⟩ := ho _ _ _ htr
      rw [hs] at hc
      obtain ⟨_, hcl, hat⟩ := World.cells?_some hc
      refine ⟨y, hy, fun j u hj => ?_⟩
      have hjl : j < s := by rw [← he y]; exact (List.getElem?_eq_some_iff.1 hj).1
      rw [← add_add', hat j hjl, hj])
    refine ⟨some a, xs, cap, by rw [hl]; exact hv, ⟨Nat.le_refl _, fun m u hm => ?_⟩, fun y hy => ?_, ?_⟩
    · obtain ⟨j, y, i, rfl, hi, hj, hu⟩ := flat_none he xs m u hm h0
      have hc := (hq j y hj).2 i u hu
      exact ⟨rfl, by have := World.block_lt_of_cell? W _ hc; rwa [block_of_add] at this, hc⟩
    · obtain ⟨i, hi, rfl⟩ := List.mem_iff_getElem.1 hy
      exact (hq i _ (List.getElem?_eq_getElem hi)).1
    · have : cap ≤ maxLen := hcm
      unfold maxLen at this
      omega

theorem open_u8 {t : TypeId} {fuel : Nat} {cs : List Value} {x : DataW H × List MemPlace} (ht : P.underlying t = some (.int .u8)) (h : DataW.trod enc P W 0 sp true fuel t cs = some x) : ∃ b : UInt8, cs = eB b ∧ True := by
  obtain ⟨z, hz, _, hw⟩ := DataW.trod_int ht h
  have : 0 ≤ z ∧ z ≤ 255 := by simpa [Lit.wf, IntKind.min, IntKind.max, IntKind.signed, IntKind.bits] using hw
  refine ⟨UInt8.ofNat z.toNat, ?_, trivial⟩
  rw [hz, eB]
  congr 2
  simp
  omega
theorem cell_of {t : TypeId} {v : Value} {d : DataW H} {p : List MemPlace} (hc : v.cells = #[v]) (h : DataW.Trod enc P W 0 sp true t v d p) : ∃ n x, DataW.trod enc P W 0 sp true n t [v] = some x := by
  obtain ⟨n, hn⟩ := h
  exact ⟨n, _, by simpa [hc] using hn⟩
end

end Go.Proofs.YtdoibplhbdkapaaGreatDoor
namespace Go.Proofs.YtdoibplhbdkapaaGreatDoor
open Go.ChangeShapes Go.WideShapes Go.ChangeAt Go.RowKit
set_option linter.unusedVariables false
set_option linter.unusedSimpArgs false
set_option maxRecDepth 100000

theorem law_own : ownKnob Tryz.prog.godebug = none := by kernel_rfl
theorem law_laid : laidOutB Tryz.prog = true := by kernel_rfl
theorem law_main : Tryz.pinned.checked.prog.mainIs = some (true, "9d3b8bcd3f057db7ce87d49064bbf274986517e6a2e4614acdb81aa3eaa2e189".toList) := by kernel_rfl
theorem law_looks : false = Tryz.prog.looks [] := by kernel_rfl
end Go.Proofs.YtdoibplhbdkapaaGreatDoor
