/-
  ScriptWaits: steps that wait: 750 to 999.
-/
import Derived.Test.YtkcffdanhklphaaGreatDoorWaS
set_option maxRecDepth 100000
namespace Go.Proofs.YtkcffdanhklphaaGreatDoor
theorem rnd_750 : ((List.range 50).all fun i => rnd (750 + i)) = true := by decide +kernel
theorem rnd_800 : ((List.range 50).all fun i => rnd (800 + i)) = true := by decide +kernel
theorem rnd_850 : ((List.range 50).all fun i => rnd (850 + i)) = true := by decide +kernel
theorem rnd_900 : ((List.range 50).all fun i => rnd (900 + i)) = true := by decide +kernel
theorem rnd_950 : ((List.range 50).all fun i => rnd (950 + i)) = true := by decide +kernel
end Go.Proofs.YtkcffdanhklphaaGreatDoor
