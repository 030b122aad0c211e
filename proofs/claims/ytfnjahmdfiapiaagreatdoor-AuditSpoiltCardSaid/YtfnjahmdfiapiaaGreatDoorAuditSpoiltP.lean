/-
  AuditSpoilt: the pieces of the function's code.
-/
import Derived.Test.YtfnjahmdfiapiaaGreatDoorKvT
import Derived.Test.YtfnjahmdfiapiaaGreatDoorKvPD
set_option maxRecDepth 100000
namespace Go.Ev.Spoil
open Go.Proofs
noncomputable def bodyOf (fn : Func) : Code := match fn.body with | some c => c | none => .skip
noncomputable def sL : Code → Code | .seq a _ => a | c => c
noncomputable def sR : Code → Code | .seq _ b => b | c => c
noncomputable def bB : Code → Code | .block _ b => b | c => c
noncomputable def lB : Code → Code | .loop b => b | c => c
noncomputable def c0 : Code := bodyOf Tryz.f3
noncomputable def c1 : Code := sR c0
noncomputable def c2 : Code := sR c1
noncomputable def c3 : Code := sR c2
noncomputable def c4 : Code := sR c3
noncomputable def c5 : Code := sR c4
noncomputable def c6 : Code := sR c5
noncomputable def c7 : Code := sR c6
noncomputable def c8 : Code := sR c7
noncomputable def c9 : Code := sR c8
noncomputable def c10 : Code := sR c9
noncomputable def pre : List Code := [sL c0, sL c1, sL c2, sL c3, sL c4, sL c5, sL c6]
noncomputable def p0 : Code := sL (sL c7)
noncomputable def lb : Code := lB (bB (sR (sL c7)))
noncomputable def mid : List Code := [sL c8, sL c9]
noncomputable def rest : Code := c10
/-- a cell, told short -/
noncomputable def uz (z : Nat) : Nat := @Bool.rec (fun _ => Nat) (Nat.add (Nat.shiftRight z 6) (Nat.shiftLeft (Nat.mod (Nat.shiftRight z 1) 32) 96)) (Nat.add (Nat.shiftRight z 33) (Nat.shiftLeft (Nat.mod (Nat.shiftRight z 1) 4294967296) 96)) (Nat.beq (Nat.mod z 2) 1)
/-- cells from digit 1 on -/
noncomputable def pk (l : List Nat) : Nat := @List.rec Nat (fun _ => Nat) 0 (fun z _ ih => Nat.shiftLeft (Nat.add (uz z) ih) 128) l
noncomputable def pq (d : Nat) (l : List Nat) : Nat := Nat.add d (pk l)
/-- .. forced, once -/
noncomputable def fO : Obj → (Obj → Out) → Out := fun o k => match o with
  | .row n N e p => frc (fun N => k (.row n N e p)) N
  | .agg n N => frc (fun N => k (.agg n N)) N
  | .tup n N => frc (fun N => k (.tup n N)) N
  | o => k o
noncomputable def fL (l : List (Nat × Obj)) (k : List (Nat × Obj) → Out) : Out := @List.rec (Nat × Obj) (fun _ => (List (Nat × Obj) → Out) → Out) (fun k => k []) (fun x _ ih k => fO x.2 fun o => ih fun l => k ((x.1, o) :: l)) l k
theorem fO_eq (o : Obj) (k : Obj → Out) : fO o k = k o := by
  cases o <;> first | rfl | (show frc _ _ = _; rw [frc_eq])
theorem fL_eq : ∀ (l : List (Nat × Obj)) (k : List (Nat × Obj) → Out), fL l k = k l
  | [], _ => rfl
  | x :: l, k => by
    show fO x.2 (fun o => fL l fun l => k ((x.1, o) :: l)) = _
    rw [fO_eq, fL_eq l]
noncomputable abbrev rn : RunT := Ev.runN 5000 XA
/-- a stretch: both states forced first -/
noncomputable def seg (f : St → Out) (k : Nat) (S S' : St) : Bool := isTr (fL S.L fun l => fL S'.L fun l' => @Bool.rec (fun _ => Out) (.bad 0) (.exit 237684487542793012780631851009 0 .e 0) (endsS k ⟨S'.F, l', S'.nx⟩ (f ⟨S.F, l, S.nx⟩)))
theorem seg_at {f : St → Out} {k : Nat} {S S' : St} (h : seg f k S S' = true) : endsS k S' (f S) = true := by
  unfold seg at h
  rw [fL_eq, fL_eq] at h
  have e : ∀ b : Bool, isTr (@Bool.rec (fun _ => Out) (.bad 0) (.exit 237684487542793012780631851009 0 .e 0) b) = true → b = true := fun b => by cases b <;> simp [isTr]
  exact e _ h
theorem body_eq : Tryz.f3.body = some (seqs pre (.seq (.seq p0 (.block 2 (.loop lb))) (seqs mid rest))) := rfl
noncomputable def withA (c : Nat) (S : St) : St := ⟨(1, c) :: S.F, S.L, S.nx⟩
noncomputable def stE (nx : Nat) : St := ⟨[(4, 237684487542793012780631851009)], [], nx⟩
noncomputable def st0 (r : Nat) : St := ⟨[(1, nameC), (0, restC r 20)], [(0, .tup 316 4294967352)], 1⟩
/-- the end, for the rest q by m of `at` -/
noncomputable def endB (m : Nat) (S : St) (q nx : Nat) : Bool := seg (runS rn 3 rest) 1 (withA (restN q m) S) (stE nx) && (okS (stE nx) && isTr (mkHK (stE nx).L fun H => resK XA Tryz.f3 (mkF (stE nx).F) H (stE nx).nx fun c H nx => .exit c 0 H nx))
/-- a state that may be told -/
noncomputable def okA (S : St) : Bool := okS (withA nameC S) && smallF (withA nameC S).F
end Go.Ev.Spoil
