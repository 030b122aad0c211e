/-
  ProcOpens, the tied card: for each rest of the arguments that counts the evaluator runs the program's code, and a theorem says that what it answers is what the program does.
-/
import Derived.Test.YthnkbbceiipcdaaGreatDoorRows
import Derived.Test.YthnkbbceiipcdaaGreatDoorTie
import Derived.Test.YthnkbbceiipcdaaGreatDoorCards
import Derived.Test.YthnkbbceiipcdaaGreatDoorKvSA
import Derived.Test.YthnkbbceiipcdaaGreatDoorProcOpensR0
import Derived.Test.YthnkbbceiipcdaaGreatDoorLaid
import Derived.Test.YthnkbbceiipcdaaGreatDoorLaidB
import Derived.Test.YthnkbbceiipcdaaGreatDoorLaidG
import Derived.Test.YthnkbbceiipcdaaGreatDoorProcOpensClosed
import Derived.SevenTiedAt
import Derived.WalkKit
import Derived.ProofKit
import Derived.OpenShut
namespace Go.Proofs.YthnkbbceiipcdaaGreatDoor.procOpens
open Go.ChangeShapes Go.WideShapes Go.ChangeAt Go.RowKit
set_option linter.unusedVariables false


/-! ### The walk: the evaluator's runs, one for each rest. -/
/-- which of the ranges an int is in -/
def nR (x : Int) : Nat := if x < 2 then 0 else if x < 9 then x.toNat - 1 else 8
theorem nR_lt (x : Int) : nR x < 9 := by
  unfold nR
  split
  · omega
  · split <;> omega
/-- what is told of it -/
def nC : Nat → Nat
  | 0 => 2059932225370872777432142708737
  | 1 => 554597137599850363154807652354
  | 2 => 554597137599850363154807652355
  | 3 => 554597137599850363154807652356
  | 4 => 554597137599850363154807652357
  | 5 => 554597137599850363154807652358
  | 6 => 554597137599850363154807652359
  | 7 => 554597137599850363154807652360
  | _ => 2059932225389319521505852260361
theorem nC_lt (r : Nat) : nC r < 2 ^ 128 := by unfold nC; split <;> decide
theorem nC_rel (x : Int) (h1 : -9223372036854775808 ≤ x) (h2 : x ≤ 9223372036854775807) (σ : Go.Ev.Sig) (I : Go.Ev.Imm) : Go.Ev.VR σ I (nC (nR x)) (.int .i64 x) := by
  unfold nR
  split
  · refine Go.Ev.CRp.toV ?_
    show Go.Ev.CRp σ I 2059932225370872777432142708737 _
    unfold Go.Ev.CRp
    rw [show Go.Ev.hi 2059932225370872777432142708737 = 26 from by decide +kernel]
    refine ⟨x, rfl, h1, h2, ?_⟩
    rw [if_neg (by decide +kernel)]
    show x ≤ (((2059932225370872777432142708737 % 18446744073709551616 : Nat)) : Int)
    have : 2059932225370872777432142708737 % 18446744073709551616 = 1 := by decide +kernel
    omega
  · split
    · rename_i q1 q2
      obtain ⟨n, rfl⟩ : ∃ n : Nat, x = n := ⟨x.toNat, by omega⟩
      have hn : n = 2 ∨ n = 3 ∨ n = 4 ∨ n = 5 ∨ n = 6 ∨ n = 7 ∨ n = 8 := by omega
      rcases hn with rfl | rfl | rfl | rfl | rfl | rfl | rfl
      all_goals (refine Go.Ev.CRp.toV ?_; show Go.Ev.CRp σ I _ _; unfold Go.Ev.CRp; exact ⟨_, rfl, by decide, by decide, by decide +kernel⟩)
    · refine Go.Ev.CRp.toV ?_
      show Go.Ev.CRp σ I 2059932225389319521505852260361 _
      unfold Go.Ev.CRp
      rw [show Go.Ev.hi 2059932225389319521505852260361 = 26 from by decide +kernel]
      refine ⟨x, rfl, h1, h2, ?_⟩
      rw [if_pos (by decide +kernel)]
      show (((2059932225389319521505852260361 % 18446744073709551616 : Nat)) : Int) ≤ x
      have : 2059932225389319521505852260361 % 18446744073709551616 = 9 := by decide +kernel
      omega
theorem runs_0 (r1 : Nat) (h1 : r1 < 9) : Go.Ev.isTr (Go.Ev.runTop Go.Ev.XA (.tup 189 4294967334) 5000 5 Tryz.f5 (Go.Ev.argF2 (Go.Ev.restC 0 4) (nC r1))) = true := by
  match r1, h1 with
  | 0, _ => exact (congrArg (fun F => Go.Ev.isTr (Go.Ev.runTop Go.Ev.XA (.tup 189 4294967334) 5000 5 Tryz.f5 F)) (show Go.Ev.argF2 (Go.Ev.restC 0 4) (nC 0) = 238523856062967437207525373111532833932727113788936423208795781572731043845708166808793225979086094907473920 from by decide +kernel)).trans Go.Ev.procOpens_0_0
  | 1, _ => exact (congrArg (fun F => Go.Ev.isTr (Go.Ev.runTop Go.Ev.XA (.tup 189 4294967334) 5000 5 Tryz.f5 F)) (show Go.Ev.argF2 (Go.Ev.restC 0 4) (nC 1) = 64217961247722002325102985068690018521425490807570628789747717687178175247648961959511273526724455858962432 from by decide +kernel)).trans Go.Ev.procOpens_0_1
  | 2, _ => exact (congrArg (fun F => Go.Ev.isTr (Go.Ev.runTop Go.Ev.XA (.tup 189 4294967334) 5000 5 Tryz.f5 F)) (show Go.Ev.argF2 (Go.Ev.restC 0 4) (nC 2) = 64217961247722002325102985068805810610662807002994199774756405595031445232314602523550731110732368988602368 from by decide +kernel)).trans Go.Ev.procOpens_0_2
  | 3, _ => exact (congrArg (fun F => Go.Ev.isTr (Go.Ev.runTop Go.Ev.XA (.tup 189 4294967334) 5000 5 Tryz.f5 F)) (show Go.Ev.argF2 (Go.Ev.restC 0 4) (nC 3) = 64217961247722002325102985068921602699900123198417770759765093502884715216980243087590188694740282118242304 from by decide +kernel)).trans Go.Ev.procOpens_0_3
  | 4, _ => exact (congrArg (fun F => Go.Ev.isTr (Go.Ev.runTop Go.Ev.XA (.tup 189 4294967334) 5000 5 Tryz.f5 F)) (show Go.Ev.argF2 (Go.Ev.restC 0 4) (nC 4) = 64217961247722002325102985069037394789137439393841341744773781410737985201645883651629646278748195247882240 from by decide +kernel)).trans Go.Ev.procOpens_0_4
  | 5, _ => exact (congrArg (fun F => Go.Ev.isTr (Go.Ev.runTop Go.Ev.XA (.tup 189 4294967334) 5000 5 Tryz.f5 F)) (show Go.Ev.argF2 (Go.Ev.restC 0 4) (nC 5) = 64217961247722002325102985069153186878374755589264912729782469318591255186311524215669103862756108377522176 from by decide +kernel)).trans Go.Ev.procOpens_0_5
  | 6, _ => exact (congrArg (fun F => Go.Ev.isTr (Go.Ev.runTop Go.Ev.XA (.tup 189 4294967334) 5000 5 Tryz.f5 F)) (show Go.Ev.argF2 (Go.Ev.restC 0 4) (nC 6) = 64217961247722002325102985069268978967612071784688483714791157226444525170977164779708561446764021507162112 from by decide +kernel)).trans Go.Ev.procOpens_0_6
  | 7, _ => exact (congrArg (fun F => Go.Ev.isTr (Go.Ev.runTop Go.Ev.XA (.tup 189 4294967334) 5000 5 Tryz.f5 F)) (show Go.Ev.argF2 (Go.Ev.restC 0 4) (nC 7) = 64217961247722002325102985069384771056849387980112054699799845134297795155642805343748019030771934636802048 from by decide +kernel)).trans Go.Ev.procOpens_0_7
  | 8, _ => exact (congrArg (fun F => Go.Ev.isTr (Go.Ev.runTop Go.Ev.XA (.tup 189 4294967334) 5000 5 Tryz.f5 F)) (show Go.Ev.argF2 (Go.Ev.restC 0 4) (nC 8) = 238523856065103424243446283194854192352795195466927695611221937605504245330855511046889527201172362031529984 from by decide +kernel)).trans Go.Ev.procOpens_0_8
  | n + 9, h => exact absurd (show n + 9 < 9 from h) (by omega)
theorem runs_1 (r1 : Nat) (h1 : r1 < 9) : Go.Ev.isTr (Go.Ev.runTop Go.Ev.XA (.tup 189 4294967334) 5000 5 Tryz.f5 (Go.Ev.argF2 (Go.Ev.restC 1 4) (nC r1))) = true := by
  match r1, h1 with
  | 0, _ => exact (congrArg (fun F => Go.Ev.isTr (Go.Ev.runTop Go.Ev.XA (.tup 189 4294967334) 5000 5 Tryz.f5 F)) (show Go.Ev.argF2 (Go.Ev.restC 1 4) (nC 0) = 238523856062967437207525373111532833932727113788936423208795781572731384128075087747256689353693526675685376 from by decide +kernel)).trans Go.Ev.procOpens_1_0
  | 1, _ => exact (congrArg (fun F => Go.Ev.isTr (Go.Ev.runTop Go.Ev.XA (.tup 189 4294967334) 5000 5 Tryz.f5 F)) (show Go.Ev.argF2 (Go.Ev.restC 1 4) (nC 1) = 64217961247722002325102985068690018521425490807570628789747717687178515530015882897974736901331887627173888 from by decide +kernel)).trans Go.Ev.procOpens_1_1
  | 2, _ => exact (congrArg (fun F => Go.Ev.isTr (Go.Ev.runTop Go.Ev.XA (.tup 189 4294967334) 5000 5 Tryz.f5 F)) (show Go.Ev.argF2 (Go.Ev.restC 1 4) (nC 2) = 64217961247722002325102985068805810610662807002994199774756405595031785514681523462014194485339800756813824 from by decide +kernel)).trans Go.Ev.procOpens_1_2
  | 3, _ => exact (congrArg (fun F => Go.Ev.isTr (Go.Ev.runTop Go.Ev.XA (.tup 189 4294967334) 5000 5 Tryz.f5 F)) (show Go.Ev.argF2 (Go.Ev.restC 1 4) (nC 3) = 64217961247722002325102985068921602699900123198417770759765093502885055499347164026053652069347713886453760 from by decide +kernel)).trans Go.Ev.procOpens_1_3
  | 4, _ => exact (congrArg (fun F => Go.Ev.isTr (Go.Ev.runTop Go.Ev.XA (.tup 189 4294967334) 5000 5 Tryz.f5 F)) (show Go.Ev.argF2 (Go.Ev.restC 1 4) (nC 4) = 64217961247722002325102985069037394789137439393841341744773781410738325484012804590093109653355627016093696 from by decide +kernel)).trans Go.Ev.procOpens_1_4
  | 5, _ => exact (congrArg (fun F => Go.Ev.isTr (Go.Ev.runTop Go.Ev.XA (.tup 189 4294967334) 5000 5 Tryz.f5 F)) (show Go.Ev.argF2 (Go.Ev.restC 1 4) (nC 5) = 64217961247722002325102985069153186878374755589264912729782469318591595468678445154132567237363540145733632 from by decide +kernel)).trans Go.Ev.procOpens_1_5
  | 6, _ => exact (congrArg (fun F => Go.Ev.isTr (Go.Ev.runTop Go.Ev.XA (.tup 189 4294967334) 5000 5 Tryz.f5 F)) (show Go.Ev.argF2 (Go.Ev.restC 1 4) (nC 6) = 64217961247722002325102985069268978967612071784688483714791157226444865453344085718172024821371453275373568 from by decide +kernel)).trans Go.Ev.procOpens_1_6
  | 7, _ => exact (congrArg (fun F => Go.Ev.isTr (Go.Ev.runTop Go.Ev.XA (.tup 189 4294967334) 5000 5 Tryz.f5 F)) (show Go.Ev.argF2 (Go.Ev.restC 1 4) (nC 7) = 64217961247722002325102985069384771056849387980112054699799845134298135438009726282211482405379366405013504 from by decide +kernel)).trans Go.Ev.procOpens_1_7
  | 8, _ => exact (congrArg (fun F => Go.Ev.isTr (Go.Ev.runTop Go.Ev.XA (.tup 189 4294967334) 5000 5 Tryz.f5 F)) (show Go.Ev.argF2 (Go.Ev.restC 1 4) (nC 8) = 238523856065103424243446283194854192352795195466927695611221937605504585613222431985352990575779793799741440 from by decide +kernel)).trans Go.Ev.procOpens_1_8
  | n + 9, h => exact absurd (show n + 9 < 9 from h) (by omega)
theorem runs_2 (r1 : Nat) (h1 : r1 < 9) : Go.Ev.isTr (Go.Ev.runTop Go.Ev.XA (.tup 189 4294967334) 5000 5 Tryz.f5 (Go.Ev.argF2 (Go.Ev.restC 2 4) (nC r1))) = true := by
  match r1, h1 with
  | 0, _ => exact (congrArg (fun F => Go.Ev.isTr (Go.Ev.runTop Go.Ev.XA (.tup 189 4294967334) 5000 5 Tryz.f5 F)) (show Go.Ev.argF2 (Go.Ev.restC 2 4) (nC 0) = 238523856062967437207525373111532833932727113788936423208795781572731724410442008685720152728300958443896832 from by decide +kernel)).trans Go.Ev.procOpens_2_0
  | 1, _ => exact (congrArg (fun F => Go.Ev.isTr (Go.Ev.runTop Go.Ev.XA (.tup 189 4294967334) 5000 5 Tryz.f5 F)) (show Go.Ev.argF2 (Go.Ev.restC 2 4) (nC 1) = 64217961247722002325102985068690018521425490807570628789747717687178855812382803836438200275939319395385344 from by decide +kernel)).trans Go.Ev.procOpens_2_1
  | 2, _ => exact (congrArg (fun F => Go.Ev.isTr (Go.Ev.runTop Go.Ev.XA (.tup 189 4294967334) 5000 5 Tryz.f5 F)) (show Go.Ev.argF2 (Go.Ev.restC 2 4) (nC 2) = 64217961247722002325102985068805810610662807002994199774756405595032125797048444400477657859947232525025280 from by decide +kernel)).trans Go.Ev.procOpens_2_2
  | 3, _ => exact (congrArg (fun F => Go.Ev.isTr (Go.Ev.runTop Go.Ev.XA (.tup 189 4294967334) 5000 5 Tryz.f5 F)) (show Go.Ev.argF2 (Go.Ev.restC 2 4) (nC 3) = 64217961247722002325102985068921602699900123198417770759765093502885395781714084964517115443955145654665216 from by decide +kernel)).trans Go.Ev.procOpens_2_3
  | 4, _ => exact (congrArg (fun F => Go.Ev.isTr (Go.Ev.runTop Go.Ev.XA (.tup 189 4294967334) 5000 5 Tryz.f5 F)) (show Go.Ev.argF2 (Go.Ev.restC 2 4) (nC 4) = 64217961247722002325102985069037394789137439393841341744773781410738665766379725528556573027963058784305152 from by decide +kernel)).trans Go.Ev.procOpens_2_4
  | 5, _ => exact (congrArg (fun F => Go.Ev.isTr (Go.Ev.runTop Go.Ev.XA (.tup 189 4294967334) 5000 5 Tryz.f5 F)) (show Go.Ev.argF2 (Go.Ev.restC 2 4) (nC 5) = 64217961247722002325102985069153186878374755589264912729782469318591935751045366092596030611970971913945088 from by decide +kernel)).trans Go.Ev.procOpens_2_5
  | 6, _ => exact (congrArg (fun F => Go.Ev.isTr (Go.Ev.runTop Go.Ev.XA (.tup 189 4294967334) 5000 5 Tryz.f5 F)) (show Go.Ev.argF2 (Go.Ev.restC 2 4) (nC 6) = 64217961247722002325102985069268978967612071784688483714791157226445205735711006656635488195978885043585024 from by decide +kernel)).trans Go.Ev.procOpens_2_6
  | 7, _ => exact (congrArg (fun F => Go.Ev.isTr (Go.Ev.runTop Go.Ev.XA (.tup 189 4294967334) 5000 5 Tryz.f5 F)) (show Go.Ev.argF2 (Go.Ev.restC 2 4) (nC 7) = 64217961247722002325102985069384771056849387980112054699799845134298475720376647220674945779986798173224960 from by decide +kernel)).trans Go.Ev.procOpens_2_7
  | 8, _ => exact (congrArg (fun F => Go.Ev.isTr (Go.Ev.runTop Go.Ev.XA (.tup 189 4294967334) 5000 5 Tryz.f5 F)) (show Go.Ev.argF2 (Go.Ev.restC 2 4) (nC 8) = 238523856065103424243446283194854192352795195466927695611221937605504925895589352923816453950387225567952896 from by decide +kernel)).trans Go.Ev.procOpens_2_8
  | n + 9, h => exact absurd (show n + 9 < 9 from h) (by omega)
theorem runs_3 (r1 : Nat) (h1 : r1 < 9) : Go.Ev.isTr (Go.Ev.runTop Go.Ev.XA (.tup 189 4294967334) 5000 5 Tryz.f5 (Go.Ev.argF2 (Go.Ev.restC 3 4) (nC r1))) = true := by
  match r1, h1 with
  | 0, _ => exact (congrArg (fun F => Go.Ev.isTr (Go.Ev.runTop Go.Ev.XA (.tup 189 4294967334) 5000 5 Tryz.f5 F)) (show Go.Ev.argF2 (Go.Ev.restC 3 4) (nC 0) = 238523856062967437207525373111532833932727113788936423208795781572732064692808929624183616102908390212108288 from by decide +kernel)).trans Go.Ev.procOpens_3_0
  | 1, _ => exact (congrArg (fun F => Go.Ev.isTr (Go.Ev.runTop Go.Ev.XA (.tup 189 4294967334) 5000 5 Tryz.f5 F)) (show Go.Ev.argF2 (Go.Ev.restC 3 4) (nC 1) = 64217961247722002325102985068690018521425490807570628789747717687179196094749724774901663650546751163596800 from by decide +kernel)).trans Go.Ev.procOpens_3_1
  | 2, _ => exact (congrArg (fun F => Go.Ev.isTr (Go.Ev.runTop Go.Ev.XA (.tup 189 4294967334) 5000 5 Tryz.f5 F)) (show Go.Ev.argF2 (Go.Ev.restC 3 4) (nC 2) = 64217961247722002325102985068805810610662807002994199774756405595032466079415365338941121234554664293236736 from by decide +kernel)).trans Go.Ev.procOpens_3_2
  | 3, _ => exact (congrArg (fun F => Go.Ev.isTr (Go.Ev.runTop Go.Ev.XA (.tup 189 4294967334) 5000 5 Tryz.f5 F)) (show Go.Ev.argF2 (Go.Ev.restC 3 4) (nC 3) = 64217961247722002325102985068921602699900123198417770759765093502885736064081005902980578818562577422876672 from by decide +kernel)).trans Go.Ev.procOpens_3_3
  | 4, _ => exact (congrArg (fun F => Go.Ev.isTr (Go.Ev.runTop Go.Ev.XA (.tup 189 4294967334) 5000 5 Tryz.f5 F)) (show Go.Ev.argF2 (Go.Ev.restC 3 4) (nC 4) = 64217961247722002325102985069037394789137439393841341744773781410739006048746646467020036402570490552516608 from by decide +kernel)).trans Go.Ev.procOpens_3_4
  | 5, _ => exact (congrArg (fun F => Go.Ev.isTr (Go.Ev.runTop Go.Ev.XA (.tup 189 4294967334) 5000 5 Tryz.f5 F)) (show Go.Ev.argF2 (Go.Ev.restC 3 4) (nC 5) = 64217961247722002325102985069153186878374755589264912729782469318592276033412287031059493986578403682156544 from by decide +kernel)).trans Go.Ev.procOpens_3_5
  | 6, _ => exact (congrArg (fun F => Go.Ev.isTr (Go.Ev.runTop Go.Ev.XA (.tup 189 4294967334) 5000 5 Tryz.f5 F)) (show Go.Ev.argF2 (Go.Ev.restC 3 4) (nC 6) = 64217961247722002325102985069268978967612071784688483714791157226445546018077927595098951570586316811796480 from by decide +kernel)).trans Go.Ev.procOpens_3_6
  | 7, _ => exact (congrArg (fun F => Go.Ev.isTr (Go.Ev.runTop Go.Ev.XA (.tup 189 4294967334) 5000 5 Tryz.f5 F)) (show Go.Ev.argF2 (Go.Ev.restC 3 4) (nC 7) = 64217961247722002325102985069384771056849387980112054699799845134298816002743568159138409154594229941436416 from by decide +kernel)).trans Go.Ev.procOpens_3_7
  | 8, _ => exact (congrArg (fun F => Go.Ev.isTr (Go.Ev.runTop Go.Ev.XA (.tup 189 4294967334) 5000 5 Tryz.f5 F)) (show Go.Ev.argF2 (Go.Ev.restC 3 4) (nC 8) = 238523856065103424243446283194854192352795195466927695611221937605505266177956273862279917324994657336164352 from by decide +kernel)).trans Go.Ev.procOpens_3_8
  | n + 9, h => exact absurd (show n + 9 < 9 from h) (by omega)
theorem runs (r0 : Nat) (h0 : r0 < 4) (r1 : Nat) (h1 : r1 < 9) : Go.Ev.isTr (Go.Ev.runTop Go.Ev.XA (.tup 189 4294967334) 5000 5 Tryz.f5 (Go.Ev.argF2 (Go.Ev.restC r0 4) (nC r1))) = true := by
  match r0, h0 with
  | 0, _ => exact runs_0 r1 h1
  | 1, _ => exact runs_1 r1 h1
  | 2, _ => exact runs_2 r1 h1
  | 3, _ => exact runs_3 r1 h1
  | n + 4, h => exact absurd h (by omega)
theorem walk (a0 : Int) (a1 : Int) (w0 : (Lit.int .u8 a0).wf = true) (w1 : (Lit.int .i64 a1).wf = true) (w : World) (hG : Go.Ev.Grounded (.tup 189 4294967334) w) :
    Calls Tryz.prog 5 #[.int .u8 a0, .int .i64 a1] w fun e w' => e = .returned (.bool true) ∧ Go.Ev.Kept w w' := by
  obtain ⟨x0, rfl, hx0⟩ := Go.Ev.u8_nat w0
  have q1 : -9223372036854775808 ≤ a1 ∧ a1 ≤ 9223372036854775807 := by
    have h := w1
    simp [Lit.wf, IntKind.min, IntKind.max, IntKind.signed, IntKind.bits] at h
    omega
  exact (Go.Ev.topA Tryz.func5 (by decide +kernel) (runs (x0 % 4) (Nat.mod_lt _ (by decide)) (nR a1) (nR_lt _)) (Go.Ev.args2 (Go.Ev.restC_lt (Nat.lt_trans (Nat.mod_lt x0 (show 0 < 4 by decide)) (by decide)) (by decide)) (nC_lt _) (fun σ I => Go.Ev.restC_rel hx0 (by decide) (by decide)) (fun σ I => nC_rel a1 q1.1 q1.2 σ I)) w hG).mono fun e w' h => ⟨h.1, h.2⟩

/-! ### THE ROW's STEP: WRITTEN OUT: LEAVE IT -/
set_option maxRecDepth 100000 in
theorem lifted (os : Os) (started : os.Started) (H : Type) (enc : TypeId × Value → H) :
    ReturnsInHanded {} Tryz.checked os 5 .any (fun w args => (Rows.procOpensSpec.pre enc Tryz.prog Tryz.f5 [] false w args ∧ laidMetH Tryz.prog laidList w) ∧ sizedMet enc Tryz.prog Tryz.f5 (OpenSpec.ofChange Rows.procOpensSpec) false w args)
      (Rows.procOpensSpec.post enc Tryz.prog Tryz.f5 false true false false) := by
  refine returnsInHanded_of_change_and (C := Tryz.checked) (X := fun w _ => laidMetH Tryz.prog laidList w) (fun _ _ _ hh h => h.of_heap hh) ownKnobs started (by as_aux_lemma => kernel_rfl) Tryz.func5
    (ChangeSpec.witness_at (enc := enc) (C := Tryz.checked) (os := os) (X := fun w _ => laidMetH Tryz.prog laidList w) false (laidWorld os) #[.int .u8 0, .int .i64 0] 8 rfl (by as_aux_lemma => kernel_rfl) (by as_aux_lemma => kernel_rfl) (by as_aux_lemma => kernel_rfl) (by as_aux_lemma => kernel_rfl) (by as_aux_lemma => kernel_rfl) (laidWorld_met os _)) ?_
  intro W base args ds gs before hval0 hW _ _ hL _
  have hval : ∀ (j : Nat) t v, Tryz.f5.params[j]? = some t → args[j]? = some v → Value.okWide Tryz.prog W .any base t v := hval0
  have hW' := hW
  obtain ⟨p, q, hA0, hV, rfl, hfz, hnd⟩ := hW
  have hA : DataW.TrodAll enc Tryz.prog W 0 (fun _ => true) true Tryz.f5.params.toList args.toList ds p := hA0
  rw [Tryz.params5] at hA hval
  obtain ⟨v0, vs0, d0, ds0, p0, q0, hargs, rfl, rfl, h0, r0⟩ := trodAll_cons hA
  obtain ⟨v1, vs1, d1, ds1, p1, q1, rfl, rfl, rfl, h1, r1⟩ := trodAll_cons r0
  obtain ⟨rfl, rfl, rfl⟩ := trodAll_nil r1
  obtain rfl : args = #[v0, v1] := by cases args; simp_all
  obtain ⟨rfl, rfl⟩ := trodVars_none hV
  obtain ⟨a0, rfl, rfl, rfl, w0⟩ := open_int Tryz.underlying5 (hval 0 5 v0 rfl rfl) h0
  obtain ⟨a1, rfl, rfl, rfl, w1⟩ := open_int Tryz.underlying3 (hval 1 3 v1 rfl rfl) h1
  clear hA0 hval0
  simp only [List.append_nil] at hW'
  refine (walk a0 a1 w0 w1 W (grounded_of hL)).mono fun e W' ⟨he, hg⟩ => ?_
  subst he
  exact ⟨_, rfl, _, _, _, [], _, [], hW', trodAll_mk1 (shut_bool Tryz.underlying4 _), (trodAll_cons_mk (shut_int Tryz.underlying5 w0) (trodAll_cons_mk (shut_int Tryz.underlying3 w1) trodAll_mk0)), rfl, Go.Ev.Kept.frame hg _, fun h => by cases h⟩

theorem over : Rows.procOpensRow.holds Tryz.pinned (OpenSpec.ofChange Rows.procOpensSpec) :=
  OpenClaim.holds_of_wide 5 Tryz.f5 rfl rfl rfl rfl rfl rfl rfl ⟨rfl, rfl, rfl, rfl, rfl⟩ rfl rfl rfl rfl rfl (by as_aux_lemma => kernel_rfl) Tryz.func5 closed
    (of_decide_eq_true (by as_aux_lemma => kernel_rfl)) (by unfold Func.isWrapper; first | (rw [if_pos (by decide +kernel)]; kernel_rfl) | (rw [if_neg (by decide +kernel)]; exact ⟨rfl, rfl⟩))
    (fun os started H enc _ => lifted os started H enc)

/-- The card: the row, tied to the program's text. -/
theorem proved : Rows.ProcOpensCardSaid :=
  Claim7.holds_tied_plain_at .later [] [.handle] true (true, "89d7fbc8fce874ba4788c64fa73d0d8ea9e038812cb9c8ad8135a6fbdb2f15fc") true
    over (fun _ h => by cases h) (by as_aux_lemma => kernel_rfl) (fun _ h => by cases h) procOpens_row_tie rfl ⟨rfl, rfl⟩ shMain rfl
    (fun f fn hf hfn => by
      obtain rfl : f = 5 := Option.some.inj ((show Tryz.prog.funcNamed Rows.procOpensRow.func = some 5 by as_aux_lemma => kernel_rfl).symm.trans hf) |>.symm
      obtain rfl : fn = Tryz.f5 := (Option.some.inj (Tryz.func5.symm.trans hfn)).symm
      exact ⟨shLooks, fun j t ht => by
        rw [Tryz.params5] at ht
        have h5 : t = 3 ∨ t = 5 ∨ t = 4 := by
          rcases j with _ | _ | _ | j <;> simp at ht <;> (subst ht; simp)
        rcases h5 with rfl | rfl | rfl
        · exact shW3
        · exact shW5
        · exact shW4⟩)
    (by as_aux_lemma => kernel_rfl)
#print axioms proved
end Go.Proofs.YthnkbbceiipcdaaGreatDoor.procOpens
