/-
  ScriptWaits: the lines as trees.
-/
import Derived.Test.YtkcffdanhklphaaGreatDoorWaS
import Derived.Test.YtkcffdanhklphaaGreatDoorTrT
set_option linter.unusedVariables false
set_option linter.unusedSimpArgs false
set_option maxRecDepth 100000
namespace Go.Proofs.YtkcffdanhklphaaGreatDoor
open Go.RowKit
def tx0 : ByteArray := ⟨#[111, 107]⟩
def tx1 : ByteArray := ⟨#[119, 114, 105, 116, 101, 32, 49]⟩
def tx2 : ByteArray := ⟨#[111, 112, 101, 110, 32, 50, 32, 51, 48, 48]⟩
def tx3 : ByteArray := ⟨#[111, 112, 101, 110, 32, 49, 32, 51, 48, 48]⟩
def tx4 : ByteArray := ⟨#[115, 112, 97, 119, 110]⟩
def tx5 : ByteArray := ⟨#[50]⟩
def tx6 : ByteArray := ⟨#[49]⟩
def tx7 : ByteArray := ⟨#[103, 111, 111, 100]⟩
def tx8 : ByteArray := ⟨#[121, 101, 115]⟩
def tx9 : ByteArray := ⟨#[99, 111, 109, 109, 105, 116, 32, 50]⟩
def tx10 : ByteArray := ⟨#[112, 117, 116, 32, 50, 32, 45, 32, 107, 32, 118, 32, 48]⟩
def tx11 : ByteArray := ⟨#[116, 111, 108, 100, 32, 50]⟩
def tx12 : ByteArray := ⟨#[99, 97, 108, 109, 32, 53]⟩
def tx13 : ByteArray := ⟨#[99, 111, 109, 109, 105, 116, 32, 49]⟩
def tx14 : ByteArray := ⟨#[97, 98, 111, 114, 116, 32, 49]⟩
def tx15 : ByteArray := ⟨#[99, 108, 111, 115, 101, 32, 49]⟩
def tx16 : ByteArray := ⟨#[107, 105, 108, 108, 32, 49]⟩
noncomputable def wT : Ev.Tr := .says tx4 tx6 (.says tx4 tx5 (.says tx3 tx0 (.says tx2 tx0 (.says tx1 tx0 (.told cS L_T1 846)))))
noncomputable def wE0 : Ev.Tr := .says tx13 tx0 (.says tx12 tx0 (.says tx11 tx0 (.says tx10 tx0 (.says tx9 tx0 (.says tx7 tx8 (.fin))))))
noncomputable def wE1 : Ev.Tr := .says tx14 tx0 (.says tx12 tx0 (.says tx11 tx0 (.says tx10 tx0 (.says tx9 tx0 (.says tx7 tx8 (.fin))))))
noncomputable def wE2 : Ev.Tr := .says tx15 tx0 (.says tx12 tx0 (.says tx11 tx0 (.says tx10 tx0 (.says tx9 tx0 (.says tx7 tx8 (.fin))))))
noncomputable def wE3 : Ev.Tr := .says tx16 tx0 (.says tx12 tx0 (.says tx11 tx0 (.says tx10 tx0 (.says tx9 tx0 (.says tx7 tx8 (.fin))))))
theorem run_0 : Ev.isTr (runT true wT) = true := by decide +kernel
end Go.Proofs.YtkcffdanhklphaaGreatDoor
