/-
  PastReal, the tied card: for each rest of the arguments that counts the evaluator runs the program's code, and a theorem says that what it answers is what the program does.
-/
import Derived.Test.YtgilcomfkfkefaaGreatDoorRows
import Derived.Test.YtgilcomfkfkefaaGreatDoorTie
import Derived.Test.YtgilcomfkfkefaaGreatDoorCards
import Derived.Test.YtgilcomfkfkefaaGreatDoorJvSA
import Derived.Test.YtgilcomfkfkefaaGreatDoorPastRealR0
import Derived.Test.YtgilcomfkfkefaaGreatDoorPastRealR1
import Derived.Test.YtgilcomfkfkefaaGreatDoorPastRealR2
import Derived.Test.YtgilcomfkfkefaaGreatDoorPastRealR3
import Derived.Test.YtgilcomfkfkefaaGreatDoorPastRealR4
import Derived.Test.YtgilcomfkfkefaaGreatDoorPastRealR5
import Derived.Test.YtgilcomfkfkefaaGreatDoorPastRealR6
import Derived.Test.YtgilcomfkfkefaaGreatDoorPastRealR7
import Derived.Test.YtgilcomfkfkefaaGreatDoorPastRealR8
import Derived.Test.YtgilcomfkfkefaaGreatDoorPastRealR9
import Derived.Test.YtgilcomfkfkefaaGreatDoorPastRealR10
import Derived.Test.YtgilcomfkfkefaaGreatDoorPastRealR11
import Derived.Test.YtgilcomfkfkefaaGreatDoorPastRealR12
import Derived.Test.YtgilcomfkfkefaaGreatDoorPastRealR13
import Derived.Test.YtgilcomfkfkefaaGreatDoorPastRealR14
import Derived.Test.YtgilcomfkfkefaaGreatDoorPastRealR15
import Derived.Test.YtgilcomfkfkefaaGreatDoorPastRealR16
import Derived.Test.YtgilcomfkfkefaaGreatDoorPastRealR17
import Derived.Test.YtgilcomfkfkefaaGreatDoorPastRealR18
import Derived.Test.YtgilcomfkfkefaaGreatDoorPastRealR19
import Derived.Test.YtgilcomfkfkefaaGreatDoorPastRealR20
import Derived.Test.YtgilcomfkfkefaaGreatDoorPastRealR21
import Derived.Test.YtgilcomfkfkefaaGreatDoorPastRealR22
import Derived.Test.YtgilcomfkfkefaaGreatDoorPastRealR23
import Derived.Test.YtgilcomfkfkefaaGreatDoorPastRealR24
import Derived.Test.YtgilcomfkfkefaaGreatDoorPastRealR25
import Derived.Test.YtgilcomfkfkefaaGreatDoorPastRealR26
import Derived.Test.YtgilcomfkfkefaaGreatDoorPastRealR27
import Derived.Test.YtgilcomfkfkefaaGreatDoorPastRealR28
import Derived.Test.YtgilcomfkfkefaaGreatDoorPastRealR29
import Derived.Test.YtgilcomfkfkefaaGreatDoorLaid
import Derived.Test.YtgilcomfkfkefaaGreatDoorLaidB
import Derived.Test.YtgilcomfkfkefaaGreatDoorLaidG
import Derived.Test.YtgilcomfkfkefaaGreatDoorPastRealClosed
import Derived.SevenTiedAt
import Derived.WalkKit
import Derived.ProofKit
import Derived.OpenShut
namespace Go.Proofs.YtgilcomfkfkefaaGreatDoor.pastReal
open Go.ChangeShapes Go.WideShapes Go.ChangeAt Go.RowKit
set_option linter.unusedVariables false


/-! ### The walk: the evaluator's runs, one for each rest. -/
def md : Nat → Nat
  | 0 => 2
  | 1 => 3
  | 2 => 4
  | 3 => 5
  | 4 => 6
  | _ => 7
theorem md_pos (r : Nat) : 0 < md r := by unfold md; split <;> decide
theorem md_lt (r : Nat) : md r < 256 := by unfold md; split <;> decide
def me : Nat → Nat
  | 0 => 15
  | 1 => 25
  | 2 => 35
  | 3 => 45
  | 4 => 55
  | _ => 65
theorem me_pos (r : Nat) : 0 < me r := by unfold me; split <;> decide
theorem me_lt (r : Nat) : me r < 256 := by unfold me; split <;> decide
theorem runs_0 (r1 : Nat) (h1 : r1 < 15) (r2 : Nat) (h2 : r2 < 2) : Go.Ev.isTr (Go.Ev.runTop Go.Ev.XA (.tup 127 4294967359) 5000 3 Tryz.f3 (Go.Ev.argF3 (Go.Ev.restC 0 6) (Go.Ev.restC r1 15) (Go.Ev.restC r2 2))) = true := by
  refine Go.Ev.rn_eq ?_
  match r1, h1 with
  | 0, _ => exact Go.Ev.allB_at Go.Ev.q_0_0 r2 h2
  | 1, _ => exact Go.Ev.allB_at Go.Ev.q_0_1 r2 h2
  | 2, _ => exact Go.Ev.allB_at Go.Ev.q_0_2 r2 h2
  | 3, _ => exact Go.Ev.allB_at Go.Ev.q_0_3 r2 h2
  | 4, _ => exact Go.Ev.allB_at Go.Ev.q_0_4 r2 h2
  | 5, _ => exact Go.Ev.allB_at Go.Ev.q_0_5 r2 h2
  | 6, _ => exact Go.Ev.allB_at Go.Ev.q_0_6 r2 h2
  | 7, _ => exact Go.Ev.allB_at Go.Ev.q_0_7 r2 h2
  | 8, _ => exact Go.Ev.allB_at Go.Ev.q_0_8 r2 h2
  | 9, _ => exact Go.Ev.allB_at Go.Ev.q_0_9 r2 h2
  | 10, _ => exact Go.Ev.allB_at Go.Ev.q_0_10 r2 h2
  | 11, _ => exact Go.Ev.allB_at Go.Ev.q_0_11 r2 h2
  | 12, _ => exact Go.Ev.allB_at Go.Ev.q_0_12 r2 h2
  | 13, _ => exact Go.Ev.allB_at Go.Ev.q_0_13 r2 h2
  | 14, _ => exact Go.Ev.allB_at Go.Ev.q_0_14 r2 h2
  | n + 15, h => exact absurd h (by omega)
theorem runs_1 (r1 : Nat) (h1 : r1 < 25) (r2 : Nat) (h2 : r2 < 3) : Go.Ev.isTr (Go.Ev.runTop Go.Ev.XA (.tup 127 4294967359) 5000 3 Tryz.f3 (Go.Ev.argF3 (Go.Ev.restC 1 6) (Go.Ev.restC r1 25) (Go.Ev.restC r2 3))) = true := by
  refine Go.Ev.rn_eq ?_
  match r1, h1 with
  | 0, _ => exact Go.Ev.allB_at Go.Ev.q_1_0 r2 h2
  | 1, _ => exact Go.Ev.allB_at Go.Ev.q_1_1 r2 h2
  | 2, _ => exact Go.Ev.allB_at Go.Ev.q_1_2 r2 h2
  | 3, _ => exact Go.Ev.allB_at Go.Ev.q_1_3 r2 h2
  | 4, _ => exact Go.Ev.allB_at Go.Ev.q_1_4 r2 h2
  | 5, _ => exact Go.Ev.allB_at Go.Ev.q_1_5 r2 h2
  | 6, _ => exact Go.Ev.allB_at Go.Ev.q_1_6 r2 h2
  | 7, _ => exact Go.Ev.allB_at Go.Ev.q_1_7 r2 h2
  | 8, _ => exact Go.Ev.allB_at Go.Ev.q_1_8 r2 h2
  | 9, _ => exact Go.Ev.allB_at Go.Ev.q_1_9 r2 h2
  | 10, _ => exact Go.Ev.allB_at Go.Ev.q_1_10 r2 h2
  | 11, _ => exact Go.Ev.allB_at Go.Ev.q_1_11 r2 h2
  | 12, _ => exact Go.Ev.allB_at Go.Ev.q_1_12 r2 h2
  | 13, _ => exact Go.Ev.allB_at Go.Ev.q_1_13 r2 h2
  | 14, _ => exact Go.Ev.allB_at Go.Ev.q_1_14 r2 h2
  | 15, _ => exact Go.Ev.allB_at Go.Ev.q_1_15 r2 h2
  | 16, _ => exact Go.Ev.allB_at Go.Ev.q_1_16 r2 h2
  | 17, _ => exact Go.Ev.allB_at Go.Ev.q_1_17 r2 h2
  | 18, _ => exact Go.Ev.allB_at Go.Ev.q_1_18 r2 h2
  | 19, _ => exact Go.Ev.allB_at Go.Ev.q_1_19 r2 h2
  | 20, _ => exact Go.Ev.allB_at Go.Ev.q_1_20 r2 h2
  | 21, _ => exact Go.Ev.allB_at Go.Ev.q_1_21 r2 h2
  | 22, _ => exact Go.Ev.allB_at Go.Ev.q_1_22 r2 h2
  | 23, _ => exact Go.Ev.allB_at Go.Ev.q_1_23 r2 h2
  | 24, _ => exact Go.Ev.allB_at Go.Ev.q_1_24 r2 h2
  | n + 25, h => exact absurd h (by omega)
theorem runs_2 (r1 : Nat) (h1 : r1 < 35) (r2 : Nat) (h2 : r2 < 4) : Go.Ev.isTr (Go.Ev.runTop Go.Ev.XA (.tup 127 4294967359) 5000 3 Tryz.f3 (Go.Ev.argF3 (Go.Ev.restC 2 6) (Go.Ev.restC r1 35) (Go.Ev.restC r2 4))) = true := by
  refine Go.Ev.rn_eq ?_
  match r1, h1 with
  | 0, _ => exact Go.Ev.allB_at Go.Ev.q_2_0 r2 h2
  | 1, _ => exact Go.Ev.allB_at Go.Ev.q_2_1 r2 h2
  | 2, _ => exact Go.Ev.allB_at Go.Ev.q_2_2 r2 h2
  | 3, _ => exact Go.Ev.allB_at Go.Ev.q_2_3 r2 h2
  | 4, _ => exact Go.Ev.allB_at Go.Ev.q_2_4 r2 h2
  | 5, _ => exact Go.Ev.allB_at Go.Ev.q_2_5 r2 h2
  | 6, _ => exact Go.Ev.allB_at Go.Ev.q_2_6 r2 h2
  | 7, _ => exact Go.Ev.allB_at Go.Ev.q_2_7 r2 h2
  | 8, _ => exact Go.Ev.allB_at Go.Ev.q_2_8 r2 h2
  | 9, _ => exact Go.Ev.allB_at Go.Ev.q_2_9 r2 h2
  | 10, _ => exact Go.Ev.allB_at Go.Ev.q_2_10 r2 h2
  | 11, _ => exact Go.Ev.allB_at Go.Ev.q_2_11 r2 h2
  | 12, _ => exact Go.Ev.allB_at Go.Ev.q_2_12 r2 h2
  | 13, _ => exact Go.Ev.allB_at Go.Ev.q_2_13 r2 h2
  | 14, _ => exact Go.Ev.allB_at Go.Ev.q_2_14 r2 h2
  | 15, _ => exact Go.Ev.allB_at Go.Ev.q_2_15 r2 h2
  | 16, _ => exact Go.Ev.allB_at Go.Ev.q_2_16 r2 h2
  | 17, _ => exact Go.Ev.allB_at Go.Ev.q_2_17 r2 h2
  | 18, _ => exact Go.Ev.allB_at Go.Ev.q_2_18 r2 h2
  | 19, _ => exact Go.Ev.allB_at Go.Ev.q_2_19 r2 h2
  | 20, _ => exact Go.Ev.allB_at Go.Ev.q_2_20 r2 h2
  | 21, _ => exact Go.Ev.allB_at Go.Ev.q_2_21 r2 h2
  | 22, _ => exact Go.Ev.allB_at Go.Ev.q_2_22 r2 h2
  | 23, _ => exact Go.Ev.allB_at Go.Ev.q_2_23 r2 h2
  | 24, _ => exact Go.Ev.allB_at Go.Ev.q_2_24 r2 h2
  | 25, _ => exact Go.Ev.allB_at Go.Ev.q_2_25 r2 h2
  | 26, _ => exact Go.Ev.allB_at Go.Ev.q_2_26 r2 h2
  | 27, _ => exact Go.Ev.allB_at Go.Ev.q_2_27 r2 h2
  | 28, _ => exact Go.Ev.allB_at Go.Ev.q_2_28 r2 h2
  | 29, _ => exact Go.Ev.allB_at Go.Ev.q_2_29 r2 h2
  | 30, _ => exact Go.Ev.allB_at Go.Ev.q_2_30 r2 h2
  | 31, _ => exact Go.Ev.allB_at Go.Ev.q_2_31 r2 h2
  | 32, _ => exact Go.Ev.allB_at Go.Ev.q_2_32 r2 h2
  | 33, _ => exact Go.Ev.allB_at Go.Ev.q_2_33 r2 h2
  | 34, _ => exact Go.Ev.allB_at Go.Ev.q_2_34 r2 h2
  | n + 35, h => exact absurd h (by omega)
theorem runs_3 (r1 : Nat) (h1 : r1 < 45) (r2 : Nat) (h2 : r2 < 5) : Go.Ev.isTr (Go.Ev.runTop Go.Ev.XA (.tup 127 4294967359) 5000 3 Tryz.f3 (Go.Ev.argF3 (Go.Ev.restC 3 6) (Go.Ev.restC r1 45) (Go.Ev.restC r2 5))) = true := by
  refine Go.Ev.rn_eq ?_
  match r1, h1 with
  | 0, _ => exact Go.Ev.allB_at Go.Ev.q_3_0 r2 h2
  | 1, _ => exact Go.Ev.allB_at Go.Ev.q_3_1 r2 h2
  | 2, _ => exact Go.Ev.allB_at Go.Ev.q_3_2 r2 h2
  | 3, _ => exact Go.Ev.allB_at Go.Ev.q_3_3 r2 h2
  | 4, _ => exact Go.Ev.allB_at Go.Ev.q_3_4 r2 h2
  | 5, _ => exact Go.Ev.allB_at Go.Ev.q_3_5 r2 h2
  | 6, _ => exact Go.Ev.allB_at Go.Ev.q_3_6 r2 h2
  | 7, _ => exact Go.Ev.allB_at Go.Ev.q_3_7 r2 h2
  | 8, _ => exact Go.Ev.allB_at Go.Ev.q_3_8 r2 h2
  | 9, _ => exact Go.Ev.allB_at Go.Ev.q_3_9 r2 h2
  | 10, _ => exact Go.Ev.allB_at Go.Ev.q_3_10 r2 h2
  | 11, _ => exact Go.Ev.allB_at Go.Ev.q_3_11 r2 h2
  | 12, _ => exact Go.Ev.allB_at Go.Ev.q_3_12 r2 h2
  | 13, _ => exact Go.Ev.allB_at Go.Ev.q_3_13 r2 h2
  | 14, _ => exact Go.Ev.allB_at Go.Ev.q_3_14 r2 h2
  | 15, _ => exact Go.Ev.allB_at Go.Ev.q_3_15 r2 h2
  | 16, _ => exact Go.Ev.allB_at Go.Ev.q_3_16 r2 h2
  | 17, _ => exact Go.Ev.allB_at Go.Ev.q_3_17 r2 h2
  | 18, _ => exact Go.Ev.allB_at Go.Ev.q_3_18 r2 h2
  | 19, _ => exact Go.Ev.allB_at Go.Ev.q_3_19 r2 h2
  | 20, _ => exact Go.Ev.allB_at Go.Ev.q_3_20 r2 h2
  | 21, _ => exact Go.Ev.allB_at Go.Ev.q_3_21 r2 h2
  | 22, _ => exact Go.Ev.allB_at Go.Ev.q_3_22 r2 h2
  | 23, _ => exact Go.Ev.allB_at Go.Ev.q_3_23 r2 h2
  | 24, _ => exact Go.Ev.allB_at Go.Ev.q_3_24 r2 h2
  | 25, _ => exact Go.Ev.allB_at Go.Ev.q_3_25 r2 h2
  | 26, _ => exact Go.Ev.allB_at Go.Ev.q_3_26 r2 h2
  | 27, _ => exact Go.Ev.allB_at Go.Ev.q_3_27 r2 h2
  | 28, _ => exact Go.Ev.allB_at Go.Ev.q_3_28 r2 h2
  | 29, _ => exact Go.Ev.allB_at Go.Ev.q_3_29 r2 h2
  | 30, _ => exact Go.Ev.allB_at Go.Ev.q_3_30 r2 h2
  | 31, _ => exact Go.Ev.allB_at Go.Ev.q_3_31 r2 h2
  | 32, _ => exact Go.Ev.allB_at Go.Ev.q_3_32 r2 h2
  | 33, _ => exact Go.Ev.allB_at Go.Ev.q_3_33 r2 h2
  | 34, _ => exact Go.Ev.allB_at Go.Ev.q_3_34 r2 h2
  | 35, _ => exact Go.Ev.allB_at Go.Ev.q_3_35 r2 h2
  | 36, _ => exact Go.Ev.allB_at Go.Ev.q_3_36 r2 h2
  | 37, _ => exact Go.Ev.allB_at Go.Ev.q_3_37 r2 h2
  | 38, _ => exact Go.Ev.allB_at Go.Ev.q_3_38 r2 h2
  | 39, _ => exact Go.Ev.allB_at Go.Ev.q_3_39 r2 h2
  | 40, _ => exact Go.Ev.allB_at Go.Ev.q_3_40 r2 h2
  | 41, _ => exact Go.Ev.allB_at Go.Ev.q_3_41 r2 h2
  | 42, _ => exact Go.Ev.allB_at Go.Ev.q_3_42 r2 h2
  | 43, _ => exact Go.Ev.allB_at Go.Ev.q_3_43 r2 h2
  | 44, _ => exact Go.Ev.allB_at Go.Ev.q_3_44 r2 h2
  | n + 45, h => exact absurd h (by omega)
theorem runs_4 (r1 : Nat) (h1 : r1 < 55) (r2 : Nat) (h2 : r2 < 6) : Go.Ev.isTr (Go.Ev.runTop Go.Ev.XA (.tup 127 4294967359) 5000 3 Tryz.f3 (Go.Ev.argF3 (Go.Ev.restC 4 6) (Go.Ev.restC r1 55) (Go.Ev.restC r2 6))) = true := by
  refine Go.Ev.rn_eq ?_
  match r1, h1 with
  | 0, _ => exact Go.Ev.allB_at Go.Ev.q_4_0 r2 h2
  | 1, _ => exact Go.Ev.allB_at Go.Ev.q_4_1 r2 h2
  | 2, _ => exact Go.Ev.allB_at Go.Ev.q_4_2 r2 h2
  | 3, _ => exact Go.Ev.allB_at Go.Ev.q_4_3 r2 h2
  | 4, _ => exact Go.Ev.allB_at Go.Ev.q_4_4 r2 h2
  | 5, _ => exact Go.Ev.allB_at Go.Ev.q_4_5 r2 h2
  | 6, _ => exact Go.Ev.allB_at Go.Ev.q_4_6 r2 h2
  | 7, _ => exact Go.Ev.allB_at Go.Ev.q_4_7 r2 h2
  | 8, _ => exact Go.Ev.allB_at Go.Ev.q_4_8 r2 h2
  | 9, _ => exact Go.Ev.allB_at Go.Ev.q_4_9 r2 h2
  | 10, _ => exact Go.Ev.allB_at Go.Ev.q_4_10 r2 h2
  | 11, _ => exact Go.Ev.allB_at Go.Ev.q_4_11 r2 h2
  | 12, _ => exact Go.Ev.allB_at Go.Ev.q_4_12 r2 h2
  | 13, _ => exact Go.Ev.allB_at Go.Ev.q_4_13 r2 h2
  | 14, _ => exact Go.Ev.allB_at Go.Ev.q_4_14 r2 h2
  | 15, _ => exact Go.Ev.allB_at Go.Ev.q_4_15 r2 h2
  | 16, _ => exact Go.Ev.allB_at Go.Ev.q_4_16 r2 h2
  | 17, _ => exact Go.Ev.allB_at Go.Ev.q_4_17 r2 h2
  | 18, _ => exact Go.Ev.allB_at Go.Ev.q_4_18 r2 h2
  | 19, _ => exact Go.Ev.allB_at Go.Ev.q_4_19 r2 h2
  | 20, _ => exact Go.Ev.allB_at Go.Ev.q_4_20 r2 h2
  | 21, _ => exact Go.Ev.allB_at Go.Ev.q_4_21 r2 h2
  | 22, _ => exact Go.Ev.allB_at Go.Ev.q_4_22 r2 h2
  | 23, _ => exact Go.Ev.allB_at Go.Ev.q_4_23 r2 h2
  | 24, _ => exact Go.Ev.allB_at Go.Ev.q_4_24 r2 h2
  | 25, _ => exact Go.Ev.allB_at Go.Ev.q_4_25 r2 h2
  | 26, _ => exact Go.Ev.allB_at Go.Ev.q_4_26 r2 h2
  | 27, _ => exact Go.Ev.allB_at Go.Ev.q_4_27 r2 h2
  | 28, _ => exact Go.Ev.allB_at Go.Ev.q_4_28 r2 h2
  | 29, _ => exact Go.Ev.allB_at Go.Ev.q_4_29 r2 h2
  | 30, _ => exact Go.Ev.allB_at Go.Ev.q_4_30 r2 h2
  | 31, _ => exact Go.Ev.allB_at Go.Ev.q_4_31 r2 h2
  | 32, _ => exact Go.Ev.allB_at Go.Ev.q_4_32 r2 h2
  | 33, _ => exact Go.Ev.allB_at Go.Ev.q_4_33 r2 h2
  | 34, _ => exact Go.Ev.allB_at Go.Ev.q_4_34 r2 h2
  | 35, _ => exact Go.Ev.allB_at Go.Ev.q_4_35 r2 h2
  | 36, _ => exact Go.Ev.allB_at Go.Ev.q_4_36 r2 h2
  | 37, _ => exact Go.Ev.allB_at Go.Ev.q_4_37 r2 h2
  | 38, _ => exact Go.Ev.allB_at Go.Ev.q_4_38 r2 h2
  | 39, _ => exact Go.Ev.allB_at Go.Ev.q_4_39 r2 h2
  | 40, _ => exact Go.Ev.allB_at Go.Ev.q_4_40 r2 h2
  | 41, _ => exact Go.Ev.allB_at Go.Ev.q_4_41 r2 h2
  | 42, _ => exact Go.Ev.allB_at Go.Ev.q_4_42 r2 h2
  | 43, _ => exact Go.Ev.allB_at Go.Ev.q_4_43 r2 h2
  | 44, _ => exact Go.Ev.allB_at Go.Ev.q_4_44 r2 h2
  | 45, _ => exact Go.Ev.allB_at Go.Ev.q_4_45 r2 h2
  | 46, _ => exact Go.Ev.allB_at Go.Ev.q_4_46 r2 h2
  | 47, _ => exact Go.Ev.allB_at Go.Ev.q_4_47 r2 h2
  | 48, _ => exact Go.Ev.allB_at Go.Ev.q_4_48 r2 h2
  | 49, _ => exact Go.Ev.allB_at Go.Ev.q_4_49 r2 h2
  | 50, _ => exact Go.Ev.allB_at Go.Ev.q_4_50 r2 h2
  | 51, _ => exact Go.Ev.allB_at Go.Ev.q_4_51 r2 h2
  | 52, _ => exact Go.Ev.allB_at Go.Ev.q_4_52 r2 h2
  | 53, _ => exact Go.Ev.allB_at Go.Ev.q_4_53 r2 h2
  | 54, _ => exact Go.Ev.allB_at Go.Ev.q_4_54 r2 h2
  | n + 55, h => exact absurd h (by omega)
theorem runs_5 (r1 : Nat) (h1 : r1 < 65) (r2 : Nat) (h2 : r2 < 7) : Go.Ev.isTr (Go.Ev.runTop Go.Ev.XA (.tup 127 4294967359) 5000 3 Tryz.f3 (Go.Ev.argF3 (Go.Ev.restC 5 6) (Go.Ev.restC r1 65) (Go.Ev.restC r2 7))) = true := by
  refine Go.Ev.rn_eq ?_
  match r1, h1 with
  | 0, _ => exact Go.Ev.allB_at Go.Ev.q_5_0 r2 h2
  | 1, _ => exact Go.Ev.allB_at Go.Ev.q_5_1 r2 h2
  | 2, _ => exact Go.Ev.allB_at Go.Ev.q_5_2 r2 h2
  | 3, _ => exact Go.Ev.allB_at Go.Ev.q_5_3 r2 h2
  | 4, _ => exact Go.Ev.allB_at Go.Ev.q_5_4 r2 h2
  | 5, _ => exact Go.Ev.allB_at Go.Ev.q_5_5 r2 h2
  | 6, _ => exact Go.Ev.allB_at Go.Ev.q_5_6 r2 h2
  | 7, _ => exact Go.Ev.allB_at Go.Ev.q_5_7 r2 h2
  | 8, _ => exact Go.Ev.allB_at Go.Ev.q_5_8 r2 h2
  | 9, _ => exact Go.Ev.allB_at Go.Ev.q_5_9 r2 h2
  | 10, _ => exact Go.Ev.allB_at Go.Ev.q_5_10 r2 h2
  | 11, _ => exact Go.Ev.allB_at Go.Ev.q_5_11 r2 h2
  | 12, _ => exact Go.Ev.allB_at Go.Ev.q_5_12 r2 h2
  | 13, _ => exact Go.Ev.allB_at Go.Ev.q_5_13 r2 h2
  | 14, _ => exact Go.Ev.allB_at Go.Ev.q_5_14 r2 h2
  | 15, _ => exact Go.Ev.allB_at Go.Ev.q_5_15 r2 h2
  | 16, _ => exact Go.Ev.allB_at Go.Ev.q_5_16 r2 h2
  | 17, _ => exact Go.Ev.allB_at Go.Ev.q_5_17 r2 h2
  | 18, _ => exact Go.Ev.allB_at Go.Ev.q_5_18 r2 h2
  | 19, _ => exact Go.Ev.allB_at Go.Ev.q_5_19 r2 h2
  | 20, _ => exact Go.Ev.allB_at Go.Ev.q_5_20 r2 h2
  | 21, _ => exact Go.Ev.allB_at Go.Ev.q_5_21 r2 h2
  | 22, _ => exact Go.Ev.allB_at Go.Ev.q_5_22 r2 h2
  | 23, _ => exact Go.Ev.allB_at Go.Ev.q_5_23 r2 h2
  | 24, _ => exact Go.Ev.allB_at Go.Ev.q_5_24 r2 h2
  | 25, _ => exact Go.Ev.allB_at Go.Ev.q_5_25 r2 h2
  | 26, _ => exact Go.Ev.allB_at Go.Ev.q_5_26 r2 h2
  | 27, _ => exact Go.Ev.allB_at Go.Ev.q_5_27 r2 h2
  | 28, _ => exact Go.Ev.allB_at Go.Ev.q_5_28 r2 h2
  | 29, _ => exact Go.Ev.allB_at Go.Ev.q_5_29 r2 h2
  | 30, _ => exact Go.Ev.allB_at Go.Ev.q_5_30 r2 h2
  | 31, _ => exact Go.Ev.allB_at Go.Ev.q_5_31 r2 h2
  | 32, _ => exact Go.Ev.allB_at Go.Ev.q_5_32 r2 h2
  | 33, _ => exact Go.Ev.allB_at Go.Ev.q_5_33 r2 h2
  | 34, _ => exact Go.Ev.allB_at Go.Ev.q_5_34 r2 h2
  | 35, _ => exact Go.Ev.allB_at Go.Ev.q_5_35 r2 h2
  | 36, _ => exact Go.Ev.allB_at Go.Ev.q_5_36 r2 h2
  | 37, _ => exact Go.Ev.allB_at Go.Ev.q_5_37 r2 h2
  | 38, _ => exact Go.Ev.allB_at Go.Ev.q_5_38 r2 h2
  | 39, _ => exact Go.Ev.allB_at Go.Ev.q_5_39 r2 h2
  | 40, _ => exact Go.Ev.allB_at Go.Ev.q_5_40 r2 h2
  | 41, _ => exact Go.Ev.allB_at Go.Ev.q_5_41 r2 h2
  | 42, _ => exact Go.Ev.allB_at Go.Ev.q_5_42 r2 h2
  | 43, _ => exact Go.Ev.allB_at Go.Ev.q_5_43 r2 h2
  | 44, _ => exact Go.Ev.allB_at Go.Ev.q_5_44 r2 h2
  | 45, _ => exact Go.Ev.allB_at Go.Ev.q_5_45 r2 h2
  | 46, _ => exact Go.Ev.allB_at Go.Ev.q_5_46 r2 h2
  | 47, _ => exact Go.Ev.allB_at Go.Ev.q_5_47 r2 h2
  | 48, _ => exact Go.Ev.allB_at Go.Ev.q_5_48 r2 h2
  | 49, _ => exact Go.Ev.allB_at Go.Ev.q_5_49 r2 h2
  | 50, _ => exact Go.Ev.allB_at Go.Ev.q_5_50 r2 h2
  | 51, _ => exact Go.Ev.allB_at Go.Ev.q_5_51 r2 h2
  | 52, _ => exact Go.Ev.allB_at Go.Ev.q_5_52 r2 h2
  | 53, _ => exact Go.Ev.allB_at Go.Ev.q_5_53 r2 h2
  | 54, _ => exact Go.Ev.allB_at Go.Ev.q_5_54 r2 h2
  | 55, _ => exact Go.Ev.allB_at Go.Ev.q_5_55 r2 h2
  | 56, _ => exact Go.Ev.allB_at Go.Ev.q_5_56 r2 h2
  | 57, _ => exact Go.Ev.allB_at Go.Ev.q_5_57 r2 h2
  | 58, _ => exact Go.Ev.allB_at Go.Ev.q_5_58 r2 h2
  | 59, _ => exact Go.Ev.allB_at Go.Ev.q_5_59 r2 h2
  | 60, _ => exact Go.Ev.allB_at Go.Ev.q_5_60 r2 h2
  | 61, _ => exact Go.Ev.allB_at Go.Ev.q_5_61 r2 h2
  | 62, _ => exact Go.Ev.allB_at Go.Ev.q_5_62 r2 h2
  | 63, _ => exact Go.Ev.allB_at Go.Ev.q_5_63 r2 h2
  | 64, _ => exact Go.Ev.allB_at Go.Ev.q_5_64 r2 h2
  | n + 65, h => exact absurd h (by omega)
theorem runs (r0 : Nat) (h0 : r0 < 6) (r1 : Nat) (h1 : r1 < (me r0)) (r2 : Nat) (h2 : r2 < (md r0)) : Go.Ev.isTr (Go.Ev.runTop Go.Ev.XA (.tup 127 4294967359) 5000 3 Tryz.f3 (Go.Ev.argF3 (Go.Ev.restC r0 6) (Go.Ev.restC r1 (me r0)) (Go.Ev.restC r2 (md r0)))) = true := by
  match r0, h0 with
  | 0, _ => exact runs_0 r1 h1 r2 h2
  | 1, _ => exact runs_1 r1 h1 r2 h2
  | 2, _ => exact runs_2 r1 h1 r2 h2
  | 3, _ => exact runs_3 r1 h1 r2 h2
  | 4, _ => exact runs_4 r1 h1 r2 h2
  | 5, _ => exact runs_5 r1 h1 r2 h2
  | n + 6, h => exact absurd h (by omega)
theorem walk (a0 : Int) (a1 : Int) (a2 : Int) (w0 : (Lit.int .u8 a0).wf = true) (w1 : (Lit.int .u8 a1).wf = true) (w2 : (Lit.int .u8 a2).wf = true) (w : World) (hG : Go.Ev.Grounded (.tup 127 4294967359) w) :
    Calls Tryz.prog 3 #[.int .u8 a0, .int .u8 a1, .int .u8 a2] w fun e w' => e = .returned (.bool true) ∧ Go.Ev.Kept w w' := by
  obtain ⟨x0, rfl, hx0⟩ := Go.Ev.u8_nat w0
  obtain ⟨x1, rfl, hx1⟩ := Go.Ev.u8_nat w1
  obtain ⟨x2, rfl, hx2⟩ := Go.Ev.u8_nat w2
  exact (Go.Ev.topA Tryz.func3 (by decide +kernel) (runs (x0 % 6) (Nat.mod_lt _ (by decide)) (x1 % me (x0 % 6)) (Nat.mod_lt _ (me_pos _)) (x2 % md (x0 % 6)) (Nat.mod_lt _ (md_pos _))) (Go.Ev.args3 (Go.Ev.restC_lt (Nat.lt_trans (Nat.mod_lt x0 (show 0 < 6 by decide)) (by decide)) (by decide)) (Go.Ev.restC_lt (Nat.lt_trans (Nat.mod_lt x1 (me_pos (x0 % 6))) (me_lt _)) (Nat.lt_trans (me_lt _) (by decide))) (Go.Ev.restC_lt (Nat.lt_trans (Nat.mod_lt x2 (md_pos (x0 % 6))) (md_lt _)) (Nat.lt_trans (md_lt _) (by decide))) (fun σ I => Go.Ev.restC_rel hx0 (by decide) (by decide)) (fun σ I => Go.Ev.restC_rel hx1 (me_pos _) (me_lt _)) (fun σ I => Go.Ev.restC_rel hx2 (md_pos _) (md_lt _))) w hG).mono fun e w' h => ⟨h.1, h.2⟩

/-! ### THE ROW's STEP: WRITTEN OUT: LEAVE IT -/
set_option maxRecDepth 100000 in
theorem lifted (os : Os) (started : os.Started) (H : Type) (enc : TypeId × Value → H) :
    ReturnsInHanded {} Tryz.checked os 3 .any (fun w args => (Rows.pastRealSpec.pre enc Tryz.prog Tryz.f3 [] false w args ∧ laidMetH Tryz.prog laidList w) ∧ sizedMet enc Tryz.prog Tryz.f3 (OpenSpec.ofChange Rows.pastRealSpec) false w args)
      (Rows.pastRealSpec.post enc Tryz.prog Tryz.f3 false true false false) := by
  refine returnsInHanded_of_change_and (C := Tryz.checked) (X := fun w _ => laidMetH Tryz.prog laidList w) (fun _ _ _ hh h => h.of_heap hh) ownKnobs started (by as_aux_lemma => kernel_rfl) Tryz.func3
    (ChangeSpec.witness_at (enc := enc) (C := Tryz.checked) (os := os) (X := fun w _ => laidMetH Tryz.prog laidList w) false (laidWorld os) #[.int .u8 0, .int .u8 0, .int .u8 0] 8 rfl (by as_aux_lemma => kernel_rfl) (by as_aux_lemma => kernel_rfl) (by as_aux_lemma => kernel_rfl) (by as_aux_lemma => kernel_rfl) (by as_aux_lemma => kernel_rfl) (laidWorld_met os _)) ?_
  intro W base args ds gs before hval0 hW _ _ hL _
  have hval : ∀ (j : Nat) t v, Tryz.f3.params[j]? = some t → args[j]? = some v → Value.okWide Tryz.prog W .any base t v := hval0
  have hW' := hW
  obtain ⟨p, q, hA0, hV, rfl, hfz, hnd⟩ := hW
  have hA : DataW.TrodAll enc Tryz.prog W 0 (fun _ => true) true Tryz.f3.params.toList args.toList ds p := hA0
  rw [Tryz.params3] at hA hval
  obtain ⟨v0, vs0, d0, ds0, p0, q0, hargs, rfl, rfl, h0, r0⟩ := trodAll_cons hA
  obtain ⟨v1, vs1, d1, ds1, p1, q1, rfl, rfl, rfl, h1, r1⟩ := trodAll_cons r0
  obtain ⟨v2, vs2, d2, ds2, p2, q2, rfl, rfl, rfl, h2, r2⟩ := trodAll_cons r1
  obtain ⟨rfl, rfl, rfl⟩ := trodAll_nil r2
  obtain rfl : args = #[v0, v1, v2] := by cases args; simp_all
  obtain ⟨rfl, rfl⟩ := trodVars_none hV
  obtain ⟨a0, rfl, rfl, rfl, w0⟩ := open_int Tryz.underlying5 (hval 0 5 v0 rfl rfl) h0
  obtain ⟨a1, rfl, rfl, rfl, w1⟩ := open_int Tryz.underlying5 (hval 1 5 v1 rfl rfl) h1
  obtain ⟨a2, rfl, rfl, rfl, w2⟩ := open_int Tryz.underlying5 (hval 2 5 v2 rfl rfl) h2
  clear hA0 hval0
  simp only [List.append_nil] at hW'
  refine (walk a0 a1 a2 w0 w1 w2 W (grounded_of hL)).mono fun e W' ⟨he, hg⟩ => ?_
  subst he
  exact ⟨_, rfl, _, _, _, [], _, [], hW', trodAll_mk1 (shut_bool Tryz.underlying4 _), (trodAll_cons_mk (shut_int Tryz.underlying5 w0) (trodAll_cons_mk (shut_int Tryz.underlying5 w1) (trodAll_cons_mk (shut_int Tryz.underlying5 w2) trodAll_mk0))), rfl, Go.Ev.Kept.frame hg _, fun h => by cases h⟩

theorem over : Rows.pastRealRow.holds Tryz.pinned (OpenSpec.ofChange Rows.pastRealSpec) :=
  OpenClaim.holds_of_wide 3 Tryz.f3 rfl rfl rfl rfl rfl rfl rfl ⟨rfl, rfl, rfl, rfl, rfl⟩ rfl rfl rfl rfl rfl (by as_aux_lemma => kernel_rfl) Tryz.func3 closed
    (of_decide_eq_true (by as_aux_lemma => kernel_rfl)) (by unfold Func.isWrapper; first | (rw [if_pos (by decide +kernel)]; kernel_rfl) | (rw [if_neg (by decide +kernel)]; exact ⟨rfl, rfl⟩))
    (fun os started H enc _ => lifted os started H enc)

/-- The card: the row, tied to the program's text. -/
theorem proved : Rows.PastRealCardSaid :=
  Claim7.holds_tied_plain_at .later [] [.handle] true (true, "dd02136aa56d72b4ed9e372863dfb1f1c7391d8394638ee7427da759d85aae58") true
    over (fun _ h => by cases h) (by as_aux_lemma => kernel_rfl) (fun _ h => by cases h) pastReal_row_tie rfl ⟨rfl, rfl⟩ shMain rfl
    (fun f fn hf hfn => by
      obtain rfl : f = 3 := Option.some.inj ((show Tryz.prog.funcNamed Rows.pastRealRow.func = some 3 by as_aux_lemma => kernel_rfl).symm.trans hf) |>.symm
      obtain rfl : fn = Tryz.f3 := (Option.some.inj (Tryz.func3.symm.trans hfn)).symm
      exact ⟨shLooks, fun j t ht => by
        rw [Tryz.params3] at ht
        have h5 : t = 5 ∨ t = 4 := by
          rcases j with _ | _ | _ | j <;> simp at ht <;> first | exact .inl ht.symm | exact .inr ht.symm
        rcases h5 with rfl | rfl
        · exact shW5
        · exact shW4⟩)
    (by as_aux_lemma => kernel_rfl)
#print axioms proved
end Go.Proofs.YtgilcomfkfkefaaGreatDoor.pastReal
