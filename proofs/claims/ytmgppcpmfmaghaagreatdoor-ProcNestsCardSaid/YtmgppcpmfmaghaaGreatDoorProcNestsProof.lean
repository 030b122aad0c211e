/-
  ProcNests, the tied card: for each rest of the arguments that counts the evaluator runs the program's code, and a theorem says that what it answers is what the program does.
-/
import Derived.Test.YtmgppcpmfmaghaaGreatDoorRows
import Derived.Test.YtmgppcpmfmaghaaGreatDoorTie
import Derived.Test.YtmgppcpmfmaghaaGreatDoorCards
import Derived.Test.YtmgppcpmfmaghaaGreatDoorFvSeat
import Derived.Test.YtmgppcpmfmaghaaGreatDoorProcNestsR0
import Derived.Test.YtmgppcpmfmaghaaGreatDoorProcNestsR1
import Derived.Test.YtmgppcpmfmaghaaGreatDoorProcNestsR2
import Derived.Test.YtmgppcpmfmaghaaGreatDoorProcNestsR3
import Derived.Test.YtmgppcpmfmaghaaGreatDoorLaid
import Derived.Test.YtmgppcpmfmaghaaGreatDoorLaidB
import Derived.Test.YtmgppcpmfmaghaaGreatDoorLaidG
import Derived.Test.YtmgppcpmfmaghaaGreatDoorProcNestsClosed
import Derived.SevenTiedAt
import Derived.WalkKit
import Derived.ProofKit
import Derived.OpenShut
namespace Go.Proofs.YtmgppcpmfmaghaaGreatDoor.procNests
open Go.ChangeShapes Go.WideShapes Go.ChangeAt Go.RowKit
set_option linter.unusedVariables false


/-! ### The walk: the evaluator's runs, one for each rest. -/
def md : Nat → Nat
  | 0 => 2
  | 1 => 3
  | 2 => 4
  | 3 => 4
  | _ => 4
theorem md_pos (r : Nat) : 0 < md r := by unfold md; split <;> decide
theorem md_lt (r : Nat) : md r < 256 := by unfold md; split <;> decide
theorem runs (r0 : Nat) (h0 : r0 < 5) (r1 : Nat) (h1 : r1 < (md r0)) : Go.Ev.isTr (Go.Ev.runTop Go.Ev.XA (.tup 232 38) 2000 12 Tryz.f12 (Go.Ev.argF2 (Go.Ev.restC r0 5) (Go.Ev.restC r1 (md r0)))) = true := by
  match r0, h0, r1, h1 with
  | 0, _, 0, _ => exact (congrArg (fun F => Go.Ev.isTr (Go.Ev.runTop Go.Ev.XA (.tup 232 38) 2000 12 Tryz.f12 F)) (show Go.Ev.argF2 (Go.Ev.restC 0 5) (Go.Ev.restC 0 (md 0)) = 220175867135046865115633452421819919601428042176460244914088756753014417190133779418812655247241898969006080 from by decide +kernel)).trans Go.Ev.procNests_0_0
  | 0, _, 1, _ => exact (congrArg (fun F => Go.Ev.isTr (Go.Ev.runTop Go.Ev.XA (.tup 232 38) 2000 12 Tryz.f12 F)) (show Go.Ev.argF2 (Go.Ev.restC 0 5) (Go.Ev.restC 1 (md 0)) = 220175867135046865115633452421935711690665358371883815899097444660867687174799419982852112831249812098646016 from by decide +kernel)).trans Go.Ev.procNests_0_1
  | 1, _, 0, _ => exact (congrArg (fun F => Go.Ev.isTr (Go.Ev.runTop Go.Ev.XA (.tup 232 38) 2000 12 Tryz.f12 F)) (show Go.Ev.argF2 (Go.Ev.restC 1 5) (Go.Ev.restC 0 (md 1)) = 220175867135046865116130775658229706243583424424607065754189212903812105189941164334169278118861864112750592 from by decide +kernel)).trans Go.Ev.procNests_1_0
  | 1, _, 1, _ => exact (congrArg (fun F => Go.Ev.isTr (Go.Ev.runTop Go.Ev.XA (.tup 232 38) 2000 12 Tryz.f12 F)) (show Go.Ev.argF2 (Go.Ev.restC 1 5) (Go.Ev.restC 1 (md 1)) = 220175867135046865116130775658345498332820740620030636739197900811665375174606804898208735702869777242390528 from by decide +kernel)).trans Go.Ev.procNests_1_1
  | 1, _, 2, _ => exact (congrArg (fun F => Go.Ev.isTr (Go.Ev.runTop Go.Ev.XA (.tup 232 38) 2000 12 Tryz.f12 F)) (show Go.Ev.argF2 (Go.Ev.restC 1 5) (Go.Ev.restC 2 (md 1)) = 220175867135046865116130775658461290422058056815454207724206588719518645159272445462248193286877690372030464 from by decide +kernel)).trans Go.Ev.procNests_1_2
  | 2, _, 0, _ => exact (congrArg (fun F => Go.Ev.isTr (Go.Ev.runTop Go.Ev.XA (.tup 232 38) 2000 12 Tryz.f12 F)) (show Go.Ev.argF2 (Go.Ev.restC 2 5) (Go.Ev.restC 0 (md 2)) = 220175867135046865116628098894639492885738806672753886594289669054609793189748549249525900990481829256495104 from by decide +kernel)).trans Go.Ev.procNests_2_0
  | 2, _, 1, _ => exact (congrArg (fun F => Go.Ev.isTr (Go.Ev.runTop Go.Ev.XA (.tup 232 38) 2000 12 Tryz.f12 F)) (show Go.Ev.argF2 (Go.Ev.restC 2 5) (Go.Ev.restC 1 (md 2)) = 220175867135046865116628098894755284974976122868177457579298356962463063174414189813565358574489742386135040 from by decide +kernel)).trans Go.Ev.procNests_2_1
  | 2, _, 2, _ => exact (congrArg (fun F => Go.Ev.isTr (Go.Ev.runTop Go.Ev.XA (.tup 232 38) 2000 12 Tryz.f12 F)) (show Go.Ev.argF2 (Go.Ev.restC 2 5) (Go.Ev.restC 2 (md 2)) = 220175867135046865116628098894871077064213439063601028564307044870316333159079830377604816158497655515774976 from by decide +kernel)).trans Go.Ev.procNests_2_2
  | 2, _, 3, _ => exact (congrArg (fun F => Go.Ev.isTr (Go.Ev.runTop Go.Ev.XA (.tup 232 38) 2000 12 Tryz.f12 F)) (show Go.Ev.argF2 (Go.Ev.restC 2 5) (Go.Ev.restC 3 (md 2)) = 220175867135046865116628098894986869153450755259024599549315732778169603143745470941644273742505568645414912 from by decide +kernel)).trans Go.Ev.procNests_2_3
  | 3, _, 0, _ => exact (congrArg (fun F => Go.Ev.isTr (Go.Ev.runTop Go.Ev.XA (.tup 232 38) 2000 12 Tryz.f12 F)) (show Go.Ev.argF2 (Go.Ev.restC 3 5) (Go.Ev.restC 0 (md 3)) = 220175867135046865116628098894639492885738806672753886594289669054610133472115470187989364365089261024706560 from by decide +kernel)).trans Go.Ev.procNests_3_0
  | 3, _, 1, _ => exact (congrArg (fun F => Go.Ev.isTr (Go.Ev.runTop Go.Ev.XA (.tup 232 38) 2000 12 Tryz.f12 F)) (show Go.Ev.argF2 (Go.Ev.restC 3 5) (Go.Ev.restC 1 (md 3)) = 220175867135046865116628098894755284974976122868177457579298356962463403456781110752028821949097174154346496 from by decide +kernel)).trans Go.Ev.procNests_3_1
  | 3, _, 2, _ => exact (congrArg (fun F => Go.Ev.isTr (Go.Ev.runTop Go.Ev.XA (.tup 232 38) 2000 12 Tryz.f12 F)) (show Go.Ev.argF2 (Go.Ev.restC 3 5) (Go.Ev.restC 2 (md 3)) = 220175867135046865116628098894871077064213439063601028564307044870316673441446751316068279533105087283986432 from by decide +kernel)).trans Go.Ev.procNests_3_2
  | 3, _, 3, _ => exact (congrArg (fun F => Go.Ev.isTr (Go.Ev.runTop Go.Ev.XA (.tup 232 38) 2000 12 Tryz.f12 F)) (show Go.Ev.argF2 (Go.Ev.restC 3 5) (Go.Ev.restC 3 (md 3)) = 220175867135046865116628098894986869153450755259024599549315732778169943426112391880107737117113000413626368 from by decide +kernel)).trans Go.Ev.procNests_3_3
  | 4, _, 0, _ => exact (congrArg (fun F => Go.Ev.isTr (Go.Ev.runTop Go.Ev.XA (.tup 232 38) 2000 12 Tryz.f12 F)) (show Go.Ev.argF2 (Go.Ev.restC 4 5) (Go.Ev.restC 0 (md 4)) = 220175867135046865116628098894639492885738806672753886594289669054610473754482391126452827739696692792918016 from by decide +kernel)).trans Go.Ev.procNests_4_0
  | 4, _, 1, _ => exact (congrArg (fun F => Go.Ev.isTr (Go.Ev.runTop Go.Ev.XA (.tup 232 38) 2000 12 Tryz.f12 F)) (show Go.Ev.argF2 (Go.Ev.restC 4 5) (Go.Ev.restC 1 (md 4)) = 220175867135046865116628098894755284974976122868177457579298356962463743739148031690492285323704605922557952 from by decide +kernel)).trans Go.Ev.procNests_4_1
  | 4, _, 2, _ => exact (congrArg (fun F => Go.Ev.isTr (Go.Ev.runTop Go.Ev.XA (.tup 232 38) 2000 12 Tryz.f12 F)) (show Go.Ev.argF2 (Go.Ev.restC 4 5) (Go.Ev.restC 2 (md 4)) = 220175867135046865116628098894871077064213439063601028564307044870317013723813672254531742907712519052197888 from by decide +kernel)).trans Go.Ev.procNests_4_2
  | 4, _, 3, _ => exact (congrArg (fun F => Go.Ev.isTr (Go.Ev.runTop Go.Ev.XA (.tup 232 38) 2000 12 Tryz.f12 F)) (show Go.Ev.argF2 (Go.Ev.restC 4 5) (Go.Ev.restC 3 (md 4)) = 220175867135046865116628098894986869153450755259024599549315732778170283708479312818571200491720432181837824 from by decide +kernel)).trans Go.Ev.procNests_4_3
  | n + 5, h, _, _ => exact absurd h (by omega)
  | 0, _, n + 2, h => exact absurd (show n + 2 < 2 from h) (by omega)
  | 1, _, n + 3, h => exact absurd (show n + 3 < 3 from h) (by omega)
  | 2, _, n + 4, h => exact absurd (show n + 4 < 4 from h) (by omega)
  | 3, _, n + 4, h => exact absurd (show n + 4 < 4 from h) (by omega)
  | 4, _, n + 4, h => exact absurd (show n + 4 < 4 from h) (by omega)
theorem walk (a0 : Int) (a1 : Int) (w0 : (Lit.int .u8 a0).wf = true) (w1 : (Lit.int .u8 a1).wf = true) (w : World) (hG : Go.Ev.Grounded (.tup 232 38) w) :
    Calls Tryz.prog 12 #[.int .u8 a0, .int .u8 a1] w fun e w' => e = .returned (.bool true) ∧ Go.Ev.Kept w w' := by
  obtain ⟨x0, rfl, hx0⟩ := Go.Ev.u8_nat w0
  obtain ⟨x1, rfl, hx1⟩ := Go.Ev.u8_nat w1
  exact (Go.Ev.topA Tryz.func12 rfl (show Go.Ev.isImm (.tup 232 38) from trivial) (runs (x0 % 5) (Nat.mod_lt _ (by decide)) (x1 % md (x0 % 5)) (Nat.mod_lt _ (md_pos _))) (Go.Ev.args2 (Go.Ev.restC_lt (Nat.lt_trans (Nat.mod_lt x0 (show 0 < 5 by decide)) (by decide)) (by decide)) (Go.Ev.restC_lt (Nat.lt_trans (Nat.mod_lt x1 (md_pos (x0 % 5))) (md_lt _)) (Nat.lt_trans (md_lt _) (by decide))) (fun σ I => Go.Ev.restC_rel hx0 (by decide) (by decide)) (fun σ I => Go.Ev.restC_rel hx1 (md_pos _) (md_lt _))) w hG).mono fun e w' h => ⟨h.1, h.2⟩

/-! ### THE ROW's STEP: WRITTEN OUT: LEAVE IT -/
set_option maxRecDepth 100000 in
theorem lifted (os : Os) (started : os.Started) (H : Type) (enc : TypeId × Value → H) :
    ReturnsInHanded {} Tryz.checked os 12 .any (fun w args => (Rows.procNestsSpec.pre enc Tryz.prog Tryz.f12 [] false w args ∧ laidMetH Tryz.prog laidList w) ∧ sizedMet enc Tryz.prog Tryz.f12 (OpenSpec.ofChange Rows.procNestsSpec) false w args)
      (Rows.procNestsSpec.post enc Tryz.prog Tryz.f12 false true false false) := by
  refine returnsInHanded_of_change_and (C := Tryz.checked) (X := fun w _ => laidMetH Tryz.prog laidList w) (fun _ _ _ hh h => h.of_heap hh) ownKnobs started (by as_aux_lemma => kernel_rfl) Tryz.func12
    (ChangeSpec.witness_at (enc := enc) (C := Tryz.checked) (os := os) (X := fun w _ => laidMetH Tryz.prog laidList w) false (laidWorld os) #[.int .u8 0, .int .u8 0] 8 rfl (by as_aux_lemma => kernel_rfl) (by as_aux_lemma => kernel_rfl) (by as_aux_lemma => kernel_rfl) (by as_aux_lemma => kernel_rfl) (by as_aux_lemma => kernel_rfl) (laidWorld_met os _)) ?_
  intro W base args ds gs before hval0 hW _ _ hL _
  have hval : ∀ (j : Nat) t v, Tryz.f12.params[j]? = some t → args[j]? = some v → Value.okWide Tryz.prog W .any base t v := hval0
  have hW' := hW
  obtain ⟨p, q, hA0, hV, rfl, hfz, hnd⟩ := hW
  have hA : DataW.TrodAll enc Tryz.prog W 0 (fun _ => true) true Tryz.f12.params.toList args.toList ds p := hA0
  rw [Tryz.params12] at hA hval
  obtain ⟨v0, vs0, d0, ds0, p0, q0, hargs, rfl, rfl, h0, r0⟩ := trodAll_cons hA
  obtain ⟨v1, vs1, d1, ds1, p1, q1, rfl, rfl, rfl, h1, r1⟩ := trodAll_cons r0
  obtain ⟨rfl, rfl, rfl⟩ := trodAll_nil r1
  obtain rfl : args = #[v0, v1] := by cases args; simp_all
  obtain ⟨rfl, rfl⟩ := trodVars_none hV
  obtain ⟨a0, rfl, rfl, rfl, w0⟩ := open_int Tryz.underlying5 (hval 0 5 v0 rfl rfl) h0
  obtain ⟨a1, rfl, rfl, rfl, w1⟩ := open_int Tryz.underlying5 (hval 1 5 v1 rfl rfl) h1
  clear hA0 hval0
  simp only [List.append_nil] at hW'
  refine (walk a0 a1 w0 w1 W (grounded_of hL)).mono fun e W' ⟨he, hg⟩ => ?_
  subst he
  exact ⟨_, rfl, _, _, _, [], _, [], hW', trodAll_mk1 (shut_bool Tryz.underlying4 _), (trodAll_cons_mk (shut_int Tryz.underlying5 w0) (trodAll_cons_mk (shut_int Tryz.underlying5 w1) trodAll_mk0)), rfl, Go.Ev.Kept.frame hg _, fun h => by cases h⟩

theorem over : Rows.procNestsRow.holds Tryz.pinned (OpenSpec.ofChange Rows.procNestsSpec) :=
  OpenClaim.holds_of_wide 12 Tryz.f12 rfl rfl rfl rfl rfl rfl rfl ⟨rfl, rfl, rfl, rfl, rfl⟩ rfl rfl rfl rfl rfl (by as_aux_lemma => kernel_rfl) Tryz.func12 closed
    (of_decide_eq_true (by as_aux_lemma => kernel_rfl)) (by unfold Func.isWrapper; first | (rw [if_pos (by decide +kernel)]; kernel_rfl) | (rw [if_neg (by decide +kernel)]; exact ⟨rfl, rfl⟩))
    (fun os started H enc _ => lifted os started H enc)

/-- The card: the row, tied to the program's text. -/
theorem proved : Rows.ProcNestsCardSaid :=
  Claim7.holds_tied_plain_at .later [] [.handle] true (true, "1e6ce98f84b5395230a13ba54d306d10c5f587fd047defce14bfd4dcfd346dbe") true
    over (fun _ h => by cases h) (by as_aux_lemma => kernel_rfl) (fun _ h => by cases h) procNests_row_tie rfl ⟨rfl, rfl⟩ shMain rfl
    (fun f fn hf hfn => by
      obtain rfl : f = 12 := Option.some.inj ((show Tryz.prog.funcNamed Rows.procNestsRow.func = some 12 by as_aux_lemma => kernel_rfl).symm.trans hf) |>.symm
      obtain rfl : fn = Tryz.f12 := (Option.some.inj (Tryz.func12.symm.trans hfn)).symm
      exact ⟨shLooks, fun j t ht => by
        rw [Tryz.params12] at ht
        have h5 : t = 5 ∨ t = 4 := by
          rcases j with _ | _ | _ | j <;> simp at ht <;> first | exact .inl ht.symm | exact .inr ht.symm
        rcases h5 with rfl | rfl
        · exact shW5
        · exact shW4⟩)
    (by as_aux_lemma => kernel_rfl)
#print axioms proved
end Go.Proofs.YtmgppcpmfmaghaaGreatDoor.procNests
