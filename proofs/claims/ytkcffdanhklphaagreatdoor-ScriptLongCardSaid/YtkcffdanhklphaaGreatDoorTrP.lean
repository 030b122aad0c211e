/-
  Rows of lines as runs: what the kernel is asked.
-/
import Derived.Test.YtkcffdanhklphaaGreatDoorRvK
import Derived.Test.YtkcffdanhklphaaGreatDoorRvT
set_option maxRecDepth 100000
namespace Go.Proofs.YtkcffdanhklphaaGreatDoor
noncomputable section
abbrev gG : Ev.Obj := .tup 76 38654967845
/-- All lines of t, from a new script on. -/
abbrev runT (b : Bool) (t : Ev.Tr) : Ev.Out := Ev.mkHK [(0, gG)] fun H => Ev.frc (fun F => Ev.callFn Tryz.f12 Ev.XA (Ev.runN 5000 Ev.XA) 12 F H 1 (Ev.trK Ev.XA 5000 13 Tryz.f13 t)) (Ev.packL [0, Ev.boolC b])
abbrev goT (c0 : Nat) (L : List (Nat × Ev.Obj)) (k : Nat) (t : Ev.Tr) : Ev.Out := Ev.mkHK L fun H => Ev.trK Ev.XA 5000 13 Tryz.f13 t c0 H k
def numF : Nat → Nat → ByteArray
  | 0, n => ⟨#[UInt8.ofNat (48 + n % 10)]⟩
  | k + 1, n => if n < 10 then ⟨#[UInt8.ofNat (48 + n % 10)]⟩ else numF k (n / 10) ++ ⟨#[UInt8.ofNat (48 + n % 10)]⟩
def numB (n : Nat) : ByteArray := numF 3 n
end
end Go.Proofs.YtkcffdanhklphaaGreatDoor
