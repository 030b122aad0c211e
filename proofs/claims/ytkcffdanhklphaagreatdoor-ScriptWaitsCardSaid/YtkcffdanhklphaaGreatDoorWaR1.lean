/-
  ScriptWaits: steps that wait: 250 to 499.
-/
import Derived.Test.YtkcffdanhklphaaGreatDoorWaS
set_option maxRecDepth 100000
namespace Go.Proofs.YtkcffdanhklphaaGreatDoor
theorem rnd_250 : ((List.range 50).all fun i => rnd (250 + i)) = true := by decide +kernel
theorem rnd_300 : ((List.range 50).all fun i => rnd (300 + i)) = true := by decide +kernel
theorem rnd_350 : ((List.range 50).all fun i => rnd (350 + i)) = true := by decide +kernel
theorem rnd_400 : ((List.range 50).all fun i => rnd (400 + i)) = true := by decide +kernel
theorem rnd_450 : ((List.range 50).all fun i => rnd (450 + i)) = true := by decide +kernel
end Go.Proofs.YtkcffdanhklphaaGreatDoor
