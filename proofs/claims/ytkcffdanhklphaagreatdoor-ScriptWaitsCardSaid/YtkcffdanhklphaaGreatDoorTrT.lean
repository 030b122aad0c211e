/-
  Lines said to a script: each call by the run of all that is to come; numbers as texts.
-/
import Derived.Test.YtkcffdanhklphaaGreatDoorTvSA
import Derived.Test.YtkcffdanhklphaaGreatDoorKit
set_option linter.unusedVariables false
set_option linter.unusedSimpArgs false
set_option maxRecDepth 100000
namespace Go.Proofs.YtkcffdanhklphaaGreatDoor
open Go.RowKit
/-- The script vs is where the lines of t are to come. -/
abbrev At (t : Ev.Tr) (vs : Value) (w0 w : World) : Prop := Ev.AtT Ev.XA 5000 13 Tryz.f13 t vs w0 w
theorem orc_says : Ev.orcAt Ev.orcA 13 = 0 := by decide +kernel
theorem orc_new : Ev.orcAt Ev.orcA 12 = 0 := by decide +kernel
theorem orc_num : Ev.orcAt Ev.orcA 14 = 0 := by decide +kernel
theorem says_t {t : Ev.Tr} {l m : ByteArray} {vs : Value} {w0 w : World} (h : At (.says l m t) vs w0 w) :
    Calls Tryz.prog 13 #[vs, .string l, .string m] w fun e w' => e = .returned (.bool true) ∧ At t vs w0 w' :=
  Ev.AtT.says (Ev.envE Ev.orcA) Ev.sizeE Ev.fnsOkA Ev.orcA_ok Ev.mixedE Tryz.func13 orc_says h
/-- All lines of t, from a new script on. -/
noncomputable abbrev runT (b : Bool) (t : Ev.Tr) : Ev.Out := Ev.mkHK [(0, Ev.gG)] fun H => Ev.frc (fun F => Ev.callFn Tryz.f12 Ev.XA (Ev.runN 5000 Ev.XA) 12 F H 1 (Ev.trK Ev.XA 5000 13 Tryz.f13 t)) (Ev.packL [0, Ev.boolC b])
noncomputable abbrev goT (c0 : Nat) (L : List (Nat × Ev.Obj)) (k : Nat) (t : Ev.Tr) : Ev.Out := Ev.mkHK L fun H => Ev.trK Ev.XA 5000 13 Tryz.f13 t c0 H k
theorem new_t {t : Ev.Tr} {b : Bool} {w0 w : World} (hG : Ev.Grounded Ev.gG w0) (hw : Ev.Stays w0 w) (hr : Ev.isTr (runT b t) = true) :
    Calls Tryz.prog 12 #[.bool b] w fun e w' => ∃ v, e = .returned v ∧ At t v w0 w' :=
  Ev.AtT.begin (show Ev.isImm Ev.gG from trivial) hG hw (Ev.envE Ev.orcA) Ev.sizeE Ev.fnsOkA Ev.orcA_ok Ev.mixedE Tryz.func12 orc_new hr

/-! ### Numbers as texts -/
def numF : Nat → Nat → ByteArray
  | 0, n => ⟨#[UInt8.ofNat (48 + n % 10)]⟩
  | k + 1, n => if n < 10 then ⟨#[UInt8.ofNat (48 + n % 10)]⟩ else numF k (n / 10) ++ ⟨#[UInt8.ofNat (48 + n % 10)]⟩
def numB (n : Nat) : ByteArray := numF 3 n
theorem numF_size : ∀ k n, (numF k n).size ≤ k + 1
  | 0, n => Nat.le_refl 1
  | k + 1, n => by
    unfold numF
    split
    · exact Nat.le_add_left 1 _
    · have := numF_size k (n / 10)
      rw [ByteArray.size_append]
      have e : (⟨#[UInt8.ofNat (48 + n % 10)]⟩ : ByteArray).size = 1 := rfl
      omega
theorem num_size (n : Nat) : (numB n).size ≤ 4 := numF_size 3 n
noncomputable def numR (n : Nat) : Bool := Ev.isTr (Ev.textK Ev.XA 100 14 Tryz.f14 Ev.gG [554597137599850363154807652352 + n] (numB n))
theorem num_all : (List.range 401).all numR = true := by decide +kernel
theorem num_any {n : Nat} {w0 w : World} (hG : Ev.Grounded Ev.gG w0) (hw : Ev.Stays w0 w) (hn : n < 401) : Calls Tryz.prog 14 #[.int .i64 (n : Int)] w fun e w' => e = .returned (.string (numB n)) ∧ Ev.Stays w w' :=
  Ev.call_text (Ev.envE Ev.orcA) Ev.sizeE Ev.fnsOkA Ev.orcA_ok Ev.mixedE Tryz.func14 orc_num (show Ev.isImm Ev.gG from trivial) (hG.stays hw) [(554597137599850363154807652352 + n, .int .i64 (n : Int))] (fun x hx σ I => by
    simp only [List.mem_cons, List.not_mem_nil, or_false] at hx
    subst hx
    exact Ev.i64_vr (by simp [IntKind.min, IntKind.signed, IntKind.bits] <;> omega) (by simp [IntKind.max, IntKind.signed, IntKind.bits] <;> omega) (by omega) σ I) (List.all_eq_true.1 num_all n (List.mem_range.2 hn))
end Go.Proofs.YtkcffdanhklphaaGreatDoor
