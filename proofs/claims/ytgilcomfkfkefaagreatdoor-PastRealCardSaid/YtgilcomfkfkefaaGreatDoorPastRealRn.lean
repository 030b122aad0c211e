/-
  PastReal: one run of the evaluator, its arguments forced first.
-/
import Derived.Test.YtgilcomfkfkefaaGreatDoorJvT
import Derived.Test.YtgilcomfkfkefaaGreatDoorJvPD
namespace Go.Ev
noncomputable def rn (r0 r1 m1 m2 r2 : Nat) : Bool := isTr (frc (fun F => runTop XA (.tup 127 4294967359) 5000 3 Proofs.Tryz.f3 F) (argF3 (restC r0 6) (restC r1 m1) (restC r2 m2)))
theorem rn_eq {r0 r1 m1 m2 r2 : Nat} (h : rn r0 r1 m1 m2 r2 = true) : isTr (runTop XA (.tup 127 4294967359) 5000 3 Proofs.Tryz.f3 (argF3 (restC r0 6) (restC r1 m1) (restC r2 m2))) = true := by
  unfold rn at h; rw [frc_eq] at h; exact h
noncomputable def allB (f : Nat → Bool) (n : Nat) : Bool := @Nat.rec (fun _ => Bool) true (fun k ih => @Bool.rec (fun _ => Bool) false ih (f k)) n
theorem allB_at {f : Nat → Bool} {n : Nat} (h : allB f n = true) : ∀ k, k < n → f k = true := by
  induction n with
  | zero => intro k hk; exact absurd hk (Nat.not_lt_zero k)
  | succ n ih =>
    have h : @Bool.rec (fun _ => Bool) false (allB f n) (f n) = true := h
    cases hf : f n with
    | false => rw [hf] at h; cases h
    | true =>
      rw [hf] at h
      intro k hk
      rcases Nat.lt_succ_iff_lt_or_eq.1 hk with hk | rfl
      · exact ih h k hk
      · exact hf
end Go.Ev
