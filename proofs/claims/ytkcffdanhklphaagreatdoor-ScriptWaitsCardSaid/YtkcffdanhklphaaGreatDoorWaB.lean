/-
  ScriptWaits: a line asked by hand: what the kernel is asked.
-/
import Derived.Test.YtkcffdanhklphaaGreatDoorTvSA
import Derived.Test.YtkcffdanhklphaaGreatDoorKit
set_option linter.unusedVariables false
set_option linter.unusedSimpArgs false
set_option maxRecDepth 100000
namespace Go.Proofs.YtkcffdanhklphaaGreatDoor
open Go.RowKit
open Go.Ev (Ah HT Out K0)
/-- the cells of an int, of the empty text, of no slice, of no error -/
def iA (n : Nat) : Nat := 554597137599850363154807652352 + n
def eA : Nat := 950737950171172051122527404032
def sA : Nat := 1188422437713965063903159255040
def nA : Nat := 1663791412799551089464422957056
noncomputable abbrev cA (g : Nat) (fn : Func) (l : List Nat) (K : K0) : HT → Nat → Out := Ev.cK Ev.XA 5000 g fn l K
/-- an act: its kind, who, its op -/
def actN (kind : Nat) (op : List Nat) : Nat := Ev.packL (0 :: ([iA kind, iA 2, iA 0] ++ op ++ [sA]))
def op0 : List Nat := [iA 0, eA, eA, eA, iA 0, iA 0]
def opW : List Nat := [iA 4, eA, eA, eA, iA 0, iA 0]
/-- one more step is asked -/
noncomputable def stepK (cS : Nat) (L' : List (Nat × Ev.Obj)) (n' : Nat) (H : HT) (nx : Nat) : Out :=
  Ev.ldK H cS 0 fun cm => cA 48 Tryz.f48 [cm, iA 2] (fun cp H nx => cA 49 Tryz.f49 [cp] (fun cb H nx => Ev.isC cb (Ev.boolC true) (Ev.ldK H cS 0 fun cm => Ev.agK (actN 3 op0) 10 H nx fun ca H nx => cA 30 Tryz.f30 [cm, ca] (fun _ H nx => Ev.tellK L' n' H nx) H nx)) H nx) H nx
/-- what is told in the end -/
noncomputable def lastK (cS : Nat) (t : ByteArray) (L' : List (Nat × Ev.Obj)) (n' : Nat) (H : HT) (nx : Nat) : Out :=
  cA 50 Tryz.f50 [cS, iA 2] (fun c H nx => Ev.isC c (Ev.strC t) (Ev.tellK L' n' H nx)) H nx
/-- it is asked -/
noncomputable def askK (cS : Nat) (L' : List (Nat × Ev.Obj)) (n' : Nat) (H : HT) (nx : Nat) : Out :=
  Ev.ldK H cS 0 fun cm => Ev.agK (actN 2 opW) 10 H nx fun ca H nx => cA 30 Tryz.f30 [cm, ca] (fun r H nx => Ev.isC r nA (Ev.tellK L' n' H nx)) H nx
/-- the line read: a closure of three variables: the script, the process, the op -/
noncomputable def doesK (cS : Nat) (l : ByteArray) (L' : List (Nat × Ev.Obj)) (n' : Nat) (H : HT) (nx : Nat) : Out :=
  cA 19 Tryz.f19 [cS, Ev.strC l] (fun c H nx => Ev.clK H c 31 3 fun N => Ev.ldK H (Ev.dig N 1) 0 fun d => Ev.isC d cS (Ev.ldK H (Ev.dig N 2) 0 fun d => Ev.isC d (iA 2) (Ev.ldK H (Ev.dig N 3) 0 fun d => Ev.isC d (iA 4) (Ev.ldK H (Ev.dig N 3) 1 fun d => Ev.isC d eA (Ev.ldK H (Ev.dig N 3) 2 fun d => Ev.isC d eA (Ev.ldK H (Ev.dig N 3) 3 fun d => Ev.isC d eA (Ev.ldK H (Ev.dig N 3) 4 fun d => Ev.isC d (iA 0) (Ev.ldK H (Ev.dig N 3) 5 fun d => Ev.isC d (iA 0) (askK cS L' n' H nx))))))))) H nx
end Go.Proofs.YtkcffdanhklphaaGreatDoor
