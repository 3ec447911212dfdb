/- Flow, part P: parts of strings. No condition. -/
import Derived.Test.YtojgfbbdjobdnaaGreatDoorFlowL
namespace Go.Proofs.YtojgfbbdjobdnaaGreatDoor
open Go.RowKit
set_option linter.unusedVariables false
set_option linter.unusedSimpArgs false
section
variable {P : Program} {e : List (Nat × Value)} {ty : TypeId} {w : World} {K : Value → World → Prop} {x y lo hi : Operand} {t : TypeId} {s : ByteArray} {k : IntKind} {m : Int}
theorem ow_sliceSH (ht : P.underlying t = some .string) (hx : evO e x = some (.string s)) (hy : evO e hi = some (.int k m)) (h0 : 0 ≤ m) (h1 : m ≤ s.size) (hK : K (.string (s.extract 0 m.toNat)) w) : OpWp P e (.slice t x none (some hi) none) ty w K := fun ρ d p af gd hρ => by
  have g0 := hρ _ _ hx; have g1 := hρ _ _ hy
  have hr := run_slice_string_h (P := P) w t s ht k m h0 h1
  simp only [execOp, g0, Option.map_some, Option.map_none, g1, Sem.run_bind, run_sliceAt_string w t _ _ _ _ ht, hr, Result.andThen_ok, Sem.run_pure, upto]
  exact hK
theorem ow_sliceSL (ht : P.underlying t = some .string) (hx : evO e x = some (.string s)) (hy : evO e lo = some (.int k m)) (h0 : 0 ≤ m) (h1 : m ≤ s.size) (hK : K (.string (s.extract m.toNat s.size)) w) : OpWp P e (.slice t x (some lo) none none) ty w K := fun ρ d p af gd hρ => by
  have g0 := hρ _ _ hx; have g1 := hρ _ _ hy
  have hr := run_slice_string_l (P := P) w t s ht k m h0 h1
  simp only [execOp, g0, Option.map_some, Option.map_none, g1, Sem.run_bind, run_sliceAt_string w t _ _ _ _ ht, hr, Result.andThen_ok, Sem.run_pure, upto]
  exact hK
end
def eS (s : ByteArray) : List Value := [.string s]
theorem eS_len (s : ByteArray) : (eS s).length = 1 := rfl
theorem ext_le (s : ByteArray) (a b : Nat) : (s.extract a b).size ≤ s.size := by
  rw [ByteArray.size_extract]; omega
end Go.Proofs.YtojgfbbdjobdnaaGreatDoor
