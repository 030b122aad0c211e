/-
  ScriptWaits: steps that wait: 0 to 249.
-/
import Derived.Test.YtkcffdanhklphaaGreatDoorWaS
set_option maxRecDepth 100000
namespace Go.Proofs.YtkcffdanhklphaaGreatDoor
theorem rnd_0 : ((List.range 50).all fun i => rnd (0 + i)) = true := by decide +kernel
theorem rnd_50 : ((List.range 50).all fun i => rnd (50 + i)) = true := by decide +kernel
theorem rnd_100 : ((List.range 50).all fun i => rnd (100 + i)) = true := by decide +kernel
theorem rnd_150 : ((List.range 50).all fun i => rnd (150 + i)) = true := by decide +kernel
theorem rnd_200 : ((List.range 50).all fun i => rnd (200 + i)) = true := by decide +kernel
end Go.Proofs.YtkcffdanhklphaaGreatDoor
