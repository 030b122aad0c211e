/-
  Pages read.
-/
import Derived.Test.YtgjnadligocdkaaGreatDoorFilQ
set_option linter.unusedVariables false
set_option linter.unusedSimpArgs false
set_option maxRecDepth 100000
namespace Go.Proofs.YtgjnadligocdkaaGreatDoor
open Go.RowKit
theorem at_p0 {w : World} {R β c : Nat} {A B : ByteArray} (h : BlkR w R β #[.string A, .string B] c) : Calls Tryz.prog 73 #[.slice (some ⟨R, β, none⟩) 2 c, .int .i64 0] w fun e w' => e = .returned (.string A) ∧ w' = w := by
  have c0 : w.cell? ⟨R, β, none⟩ = some (.string A) := h.at_ (i := 0) rfl
  clear h
  go_enter Tryz.func73, Tryz.ntmps73
  go_wp2_with fail
  go_ret
  exact ⟨rfl, rfl⟩
theorem page_p0 {w : World} {F R β c : Nat} {A B : ByteArray} {X Y : Value} (h1 : Blk w F #[.slice (some ⟨R, β, none⟩) 2 c, X, Y]) (h : BlkR w R β #[.string A, .string B] c) : Calls Tryz.prog 41 #[.pointer (some ⟨F, 0, none⟩), .int .i64 0] w fun e w' => e = .returned (.string A) ∧ w' = w := by
  have c0 : w.cell? ⟨F, 0, none⟩ = some (.slice (some ⟨R, β, none⟩) 2 c) := h1.cell rfl
  have H := Lib.hid (at_p0 h)
  clear h h1
  go_enter Tryz.func41, Tryz.ntmps41
  go_wp2_with (go_at_call 73; refine H.out.mono ?_; rintro e w1 ⟨rfl, rfl⟩)
  go_ret
  exact ⟨rfl, rfl⟩
theorem at_p1 {w : World} {R β c : Nat} {A B : ByteArray} (h : BlkR w R β #[.string A, .string B] c) : Calls Tryz.prog 73 #[.slice (some ⟨R, β, none⟩) 2 c, .int .i64 1] w fun e w' => e = .returned (.string B) ∧ w' = w := by
  have c0 : w.cell? ⟨R, β + 1, none⟩ = some (.string B) := h.at_ rfl
  clear h
  go_enter Tryz.func73, Tryz.ntmps73
  go_wp2_with fail
  go_ret
  exact ⟨rfl, rfl⟩
theorem page_p1 {w : World} {F R β c : Nat} {A B : ByteArray} {X Y : Value} (h1 : Blk w F #[.slice (some ⟨R, β, none⟩) 2 c, X, Y]) (h : BlkR w R β #[.string A, .string B] c) : Calls Tryz.prog 41 #[.pointer (some ⟨F, 0, none⟩), .int .i64 1] w fun e w' => e = .returned (.string B) ∧ w' = w := by
  have c0 : w.cell? ⟨F, 0, none⟩ = some (.slice (some ⟨R, β, none⟩) 2 c) := h1.cell rfl
  have H := Lib.hid (at_p1 h)
  clear h h1
  go_enter Tryz.func41, Tryz.ntmps41
  go_wp2_with (go_at_call 73; refine H.out.mono ?_; rintro e w1 ⟨rfl, rfl⟩)
  go_ret
  exact ⟨rfl, rfl⟩
theorem at_q0 {w : World} {R β c : Nat} {A B : ByteArray} (h : BlkR w R β #[.string A, .string B] c) : Calls Tryz.prog 124 #[.slice (some ⟨R, β, none⟩) 2 c, .int .i64 0] w fun e w' => e = .returned (.string A) ∧ w' = w := by
  have c0 : w.cell? ⟨R, β, none⟩ = some (.string A) := h.at_ (i := 0) rfl
  clear h
  go_enter Tryz.func124, Tryz.ntmps124
  go_wp2_with fail
  go_ret
  exact ⟨rfl, rfl⟩
theorem page_q0 {w : World} {F R β c : Nat} {A B : ByteArray} {X Y : Value} (h1 : Blk w F #[.slice (some ⟨R, β, none⟩) 2 c, X, Y]) (h : BlkR w R β #[.string A, .string B] c) : Calls Tryz.prog 89 #[.pointer (some ⟨F, 0, none⟩), .int .i64 0] w fun e w' => e = .returned (.string A) ∧ w' = w := by
  have c0 : w.cell? ⟨F, 0, none⟩ = some (.slice (some ⟨R, β, none⟩) 2 c) := h1.cell rfl
  have H := Lib.hid (at_q0 h)
  clear h h1
  go_enter Tryz.func89, Tryz.ntmps89
  go_wp2_with (go_at_call 124; refine H.out.mono ?_; rintro e w1 ⟨rfl, rfl⟩)
  go_ret
  exact ⟨rfl, rfl⟩
theorem at_q1 {w : World} {R β c : Nat} {A B : ByteArray} (h : BlkR w R β #[.string A, .string B] c) : Calls Tryz.prog 124 #[.slice (some ⟨R, β, none⟩) 2 c, .int .i64 1] w fun e w' => e = .returned (.string B) ∧ w' = w := by
  have c0 : w.cell? ⟨R, β + 1, none⟩ = some (.string B) := h.at_ rfl
  clear h
  go_enter Tryz.func124, Tryz.ntmps124
  go_wp2_with fail
  go_ret
  exact ⟨rfl, rfl⟩
theorem page_q1 {w : World} {F R β c : Nat} {A B : ByteArray} {X Y : Value} (h1 : Blk w F #[.slice (some ⟨R, β, none⟩) 2 c, X, Y]) (h : BlkR w R β #[.string A, .string B] c) : Calls Tryz.prog 89 #[.pointer (some ⟨F, 0, none⟩), .int .i64 1] w fun e w' => e = .returned (.string B) ∧ w' = w := by
  have c0 : w.cell? ⟨F, 0, none⟩ = some (.slice (some ⟨R, β, none⟩) 2 c) := h1.cell rfl
  have H := Lib.hid (at_q1 h)
  clear h h1
  go_enter Tryz.func89, Tryz.ntmps89
  go_wp2_with (go_at_call 124; refine H.out.mono ?_; rintro e w1 ⟨rfl, rfl⟩)
  go_ret
  exact ⟨rfl, rfl⟩
end Go.Proofs.YtgjnadligocdkaaGreatDoor
