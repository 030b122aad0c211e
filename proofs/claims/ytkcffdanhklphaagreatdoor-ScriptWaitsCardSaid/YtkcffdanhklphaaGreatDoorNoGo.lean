/-
  No function of the seat's program starts a goroutine.
-/
import Derived.Test.YtkcffdanhklphaaGreatDoorRows
import Derived.Test.YtkcffdanhklphaaGreatDoorProg
import Derived.ProofKit
import GoSem.ClaimGoes
namespace Go.Proofs.YtkcffdanhklphaaGreatDoor
open Go
set_option maxRecDepth 100000
theorem noGo : (Tryz.prog.funcs.any Func.goes) = false := by kernel_rfl
theorem any_none {P : Program} (h : P.funcs.any Func.goes = false) (g : FuncId) : (P.funcs[g]?).any Func.goes = false := by
  cases hg : P.funcs[g]? with
  | none => rfl
  | some fn =>
    obtain ⟨hlt, he⟩ := Array.getElem?_eq_some_iff.1 hg
    have := Array.any_eq_false.1 h g hlt
    rw [he] at this
    simpa using this
theorem goes_none {P : Program} (h : P.funcs.any Func.goes = false) (f : FuncId) : P.goes f = false := by
  unfold Program.goes
  rw [h, Bool.and_false, Bool.or_false]
  exact List.any_eq_false.2 fun g _ => by rw [any_none h g]; simp
theorem goesBy_none0 {P : Program} (h : P.funcs.any Func.goes = false) {c : OpenClaim} (hs : c.start = .entering) : false = c.goesBy P := by
  unfold OpenClaim.goesBy Program.goesAt
  rw [hs]
  unfold Program.goesFrom
  cases P.funcNamed c.func with
  | none => rfl
  | some f => show false = (P.goes f || false); rw [goes_none h f]; rfl
theorem goesBy_none {c : OpenClaim} (hs : c.start = .entering) : false = c.goesBy Tryz.pinned.checked.prog := goesBy_none0 (P := Tryz.pinned.checked.prog) noGo hs
end Go.Proofs.YtkcffdanhklphaaGreatDoor
