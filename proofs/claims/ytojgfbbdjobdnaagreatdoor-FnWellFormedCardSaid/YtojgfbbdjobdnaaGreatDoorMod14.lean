/- The source of drawn numbers: its cells. No condition. -/
import Derived.Test.YtojgfbbdjobdnaaGreatDoorMod2
namespace Go.Proofs.YtojgfbbdjobdnaaGreatDoor
open Go.RowKit
set_option linter.unusedVariables false
def srcC (A : Option Addr) (c : Nat) (bs : List UInt8) (a : Nat) (sd : Int) : List Value := [.slice A bs.length c, .int .i64 (a : Nat), .int .i64 sd]
theorem u8_in (b : UInt8) : (0 : Int) ≤ (b.toNat : Int) ∧ (b.toNat : Int) ≤ 255 := by have := b.toNat_lt; omega
end Go.Proofs.YtojgfbbdjobdnaaGreatDoor
