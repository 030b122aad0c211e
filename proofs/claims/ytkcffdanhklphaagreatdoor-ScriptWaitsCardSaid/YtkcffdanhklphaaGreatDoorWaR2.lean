/-
  ScriptWaits: steps that wait: 500 to 749.
-/
import Derived.Test.YtkcffdanhklphaaGreatDoorWaS
set_option maxRecDepth 100000
namespace Go.Proofs.YtkcffdanhklphaaGreatDoor
theorem rnd_500 : ((List.range 50).all fun i => rnd (500 + i)) = true := by decide +kernel
theorem rnd_550 : ((List.range 50).all fun i => rnd (550 + i)) = true := by decide +kernel
theorem rnd_600 : ((List.range 50).all fun i => rnd (600 + i)) = true := by decide +kernel
theorem rnd_650 : ((List.range 50).all fun i => rnd (650 + i)) = true := by decide +kernel
theorem rnd_700 : ((List.range 50).all fun i => rnd (700 + i)) = true := by decide +kernel
end Go.Proofs.YtkcffdanhklphaaGreatDoor
