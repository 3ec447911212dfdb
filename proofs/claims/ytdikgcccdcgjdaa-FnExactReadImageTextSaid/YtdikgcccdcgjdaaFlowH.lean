/- Flow, part H: bytes and strings. No condition. -/
import Derived.Test.YtdikgcccdcgjdaaFlowG
import Derived.Laws.BytesArg
namespace Go.Proofs.Ytdikgcccdcgjdaa
open Go.RowKit
set_option linter.unusedVariables false

theorem snoc {α : Type} (enc : α → List Value) (xs : List α) (x : α) : (xs ++ [x]).flatMap enc = xs.flatMap enc ++ enc x := by simp
def strOf (bs : List UInt8) : ByteArray := ⟨bs.toArray⟩
theorem flat_eB (bs : List UInt8) : bs.flatMap eB = (bs.map (fun b => (b.toNat : Int))).map (Value.int .u8) := by
  induction bs with
  | nil => rfl
  | cons b bs ih => simp [List.flatMap_cons, ih, eB]

section
variable {P : Program} {e : List (Nat × Value)} {w : World} {K : Value → World → Prop} {ty : TypeId} {x : Operand}
theorem ow_convBS {src dst el : TypeId} {A : Option Addr} {B n c : Nat} {bs : List UInt8} (hs : P.underlying src = some (.slice el)) (he : P.underlying el = some (.int .u8)) (hd : P.underlying dst = some .string)
    (hr : Sl B w A (bs.flatMap eB)) (hx : evO e x = some (.slice A n c)) (hn : n = bs.length) (h : K (.string (strOf bs)) w) : OpWp P e (.convert src dst x) ty w K := fun ρ d p a g hρ => by
  have h1 := hρ _ _ hx
  have hrun : (convert src dst (.slice A n c)).run P w = .ok (.string (strOf bs)) w := by
    match A with
    | none =>
      have hb : bs = [] := by
        cases bs with
        | nil => rfl
        | cons b bs =>
          have := (hr.2 0 _ (by rw [List.flatMap_cons]; rfl)).1
          simp at this
      subst hb
      exact run_convert_bytes_nil w src el hs he _ _ dst hd
    | some ad =>
      have hl : (loadCells ad n).run P w = .ok ((bs.map (fun b => (b.toNat : Int))).map (Value.int .u8)).toArray w := by
        have := run_loadCells_list (P := P) w ad (bs.flatMap eB) (fun j v hj => hr.at_ hj)
        rw [flat_len eB_len, Nat.mul_one, ← hn] at this
        rw [this, flat_eB]
      rw [run_convert_bytes_string w src dst el _ n c hs he hd, run_bytesToString w _ n c _ hl, foldl_push_bytes]
      have e1 : (bs.map (fun b => (b.toNat : Int))).map (fun n => UInt8.ofNat n.toNat) = bs := by
        rw [List.map_map]
        conv => rhs; rw [← List.map_id bs]
        apply List.map_congr_left
        intro b _
        simp
      rw [e1]
      simp [strOf, ByteArray.empty, ByteArray.emptyWithCapacity]
      rfl
  simp only [execOp, h1, hrun, upto, Sem.run_bind, Result.andThen_ok, Sem.run_pure]
  exact h
end
end Go.Proofs.Ytdikgcccdcgjdaa
