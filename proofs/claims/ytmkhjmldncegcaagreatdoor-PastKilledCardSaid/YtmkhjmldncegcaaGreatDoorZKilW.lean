/-
  WALKS: PastKilled itself, for each pair of flags.
-/
import Derived.Test.YtmkhjmldncegcaaGreatDoorMH
set_option linter.unusedVariables false
set_option linter.unusedSimpArgs false
namespace Go.Proofs.YtmkhjmldncegcaaGreatDoor
open Go.RowKit Go.Maps Go.ChangeMaps Go.MapKept Go.Sort

/-- Three boxes of what was told, read in a later world. -/
theorem keep42 {w w' : World} {a b c : Nat} {x0 x1 x2 x3 x4 x5 x6 x7 x8 x9 x10 x11 x12 x13 y0 y1 y2 y3 y4 y5 y6 y7 y8 y9 y10 y11 y12 y13 z0 z1 z2 z3 z4 z5 z6 z7 z8 z9 z10 z11 z12 z13 : Value} {T : TypeId} (h1 : w.heap[a]? = some (.cells #[x0, x1, x2, x3, x4, x5, x6, x7, x8, x9, x10, x11, x12, x13] T (0, 0))) (h2 : w.heap[b]? = some (.cells #[y0, y1, y2, y3, y4, y5, y6, y7, y8, y9, y10, y11, y12, y13] T (0, 0))) (h3 : w.heap[c]? = some (.cells #[z0, z1, z2, z3, z4, z5, z6, z7, z8, z9, z10, z11, z12, z13] T (0, 0))) (e : Ext w w') :
    Ext w w' ∧ w'.cell? ⟨a, 0, none⟩ = some x0 ∧ w'.cell? ⟨a, 1, none⟩ = some x1 ∧ w'.cell? ⟨a, 2, none⟩ = some x2 ∧ w'.cell? ⟨a, 3, none⟩ = some x3 ∧ w'.cell? ⟨a, 4, none⟩ = some x4 ∧ w'.cell? ⟨a, 5, none⟩ = some x5 ∧ w'.cell? ⟨a, 6, none⟩ = some x6 ∧ w'.cell? ⟨a, 7, none⟩ = some x7 ∧ w'.cell? ⟨a, 8, none⟩ = some x8 ∧ w'.cell? ⟨a, 9, none⟩ = some x9 ∧ w'.cell? ⟨a, 10, none⟩ = some x10 ∧ w'.cell? ⟨a, 11, none⟩ = some x11 ∧ w'.cell? ⟨a, 12, none⟩ = some x12 ∧ w'.cell? ⟨a, 13, none⟩ = some x13 ∧ w'.cell? ⟨b, 0, none⟩ = some y0 ∧ w'.cell? ⟨b, 1, none⟩ = some y1 ∧ w'.cell? ⟨b, 2, none⟩ = some y2 ∧ w'.cell? ⟨b, 3, none⟩ = some y3 ∧ w'.cell? ⟨b, 4, none⟩ = some y4 ∧ w'.cell? ⟨b, 5, none⟩ = some y5 ∧ w'.cell? ⟨b, 6, none⟩ = some y6 ∧ w'.cell? ⟨b, 7, none⟩ = some y7 ∧ w'.cell? ⟨b, 8, none⟩ = some y8 ∧ w'.cell? ⟨b, 9, none⟩ = some y9 ∧ w'.cell? ⟨b, 10, none⟩ = some y10 ∧ w'.cell? ⟨b, 11, none⟩ = some y11 ∧ w'.cell? ⟨b, 12, none⟩ = some y12 ∧ w'.cell? ⟨b, 13, none⟩ = some y13 ∧ w'.cell? ⟨c, 0, none⟩ = some z0 ∧ w'.cell? ⟨c, 1, none⟩ = some z1 ∧ w'.cell? ⟨c, 2, none⟩ = some z2 ∧ w'.cell? ⟨c, 3, none⟩ = some z3 ∧ w'.cell? ⟨c, 4, none⟩ = some z4 ∧ w'.cell? ⟨c, 5, none⟩ = some z5 ∧ w'.cell? ⟨c, 6, none⟩ = some z6 ∧ w'.cell? ⟨c, 7, none⟩ = some z7 ∧ w'.cell? ⟨c, 8, none⟩ = some z8 ∧ w'.cell? ⟨c, 9, none⟩ = some z9 ∧ w'.cell? ⟨c, 10, none⟩ = some z10 ∧ w'.cell? ⟨c, 11, none⟩ = some z11 ∧ w'.cell? ⟨c, 12, none⟩ = some z12 ∧ w'.cell? ⟨c, 13, none⟩ = some z13 :=
  ⟨e, e.cell (show w.cell? ⟨a, 0, none⟩ = some x0 by rw [cellAt h1 0]; rfl), e.cell (show w.cell? ⟨a, 1, none⟩ = some x1 by rw [cellAt h1 1]; rfl), e.cell (show w.cell? ⟨a, 2, none⟩ = some x2 by rw [cellAt h1 2]; rfl), e.cell (show w.cell? ⟨a, 3, none⟩ = some x3 by rw [cellAt h1 3]; rfl), e.cell (show w.cell? ⟨a, 4, none⟩ = some x4 by rw [cellAt h1 4]; rfl), e.cell (show w.cell? ⟨a, 5, none⟩ = some x5 by rw [cellAt h1 5]; rfl), e.cell (show w.cell? ⟨a, 6, none⟩ = some x6 by rw [cellAt h1 6]; rfl), e.cell (show w.cell? ⟨a, 7, none⟩ = some x7 by rw [cellAt h1 7]; rfl), e.cell (show w.cell? ⟨a, 8, none⟩ = some x8 by rw [cellAt h1 8]; rfl), e.cell (show w.cell? ⟨a, 9, none⟩ = some x9 by rw [cellAt h1 9]; rfl), e.cell (show w.cell? ⟨a, 10, none⟩ = some x10 by rw [cellAt h1 10]; rfl), e.cell (show w.cell? ⟨a, 11, none⟩ = some x11 by rw [cellAt h1 11]; rfl), e.cell (show w.cell? ⟨a, 12, none⟩ = some x12 by rw [cellAt h1 12]; rfl), e.cell (show w.cell? ⟨a, 13, none⟩ = some x13 by rw [cellAt h1 13]; rfl), e.cell (show w.cell? ⟨b, 0, none⟩ = some y0 by rw [cellAt h2 0]; rfl), e.cell (show w.cell? ⟨b, 1, none⟩ = some y1 by rw [cellAt h2 1]; rfl), e.cell (show w.cell? ⟨b, 2, none⟩ = some y2 by rw [cellAt h2 2]; rfl), e.cell (show w.cell? ⟨b, 3, none⟩ = some y3 by rw [cellAt h2 3]; rfl), e.cell (show w.cell? ⟨b, 4, none⟩ = some y4 by rw [cellAt h2 4]; rfl), e.cell (show w.cell? ⟨b, 5, none⟩ = some y5 by rw [cellAt h2 5]; rfl), e.cell (show w.cell? ⟨b, 6, none⟩ = some y6 by rw [cellAt h2 6]; rfl), e.cell (show w.cell? ⟨b, 7, none⟩ = some y7 by rw [cellAt h2 7]; rfl), e.cell (show w.cell? ⟨b, 8, none⟩ = some y8 by rw [cellAt h2 8]; rfl), e.cell (show w.cell? ⟨b, 9, none⟩ = some y9 by rw [cellAt h2 9]; rfl), e.cell (show w.cell? ⟨b, 10, none⟩ = some y10 by rw [cellAt h2 10]; rfl), e.cell (show w.cell? ⟨b, 11, none⟩ = some y11 by rw [cellAt h2 11]; rfl), e.cell (show w.cell? ⟨b, 12, none⟩ = some y12 by rw [cellAt h2 12]; rfl), e.cell (show w.cell? ⟨b, 13, none⟩ = some y13 by rw [cellAt h2 13]; rfl), e.cell (show w.cell? ⟨c, 0, none⟩ = some z0 by rw [cellAt h3 0]; rfl), e.cell (show w.cell? ⟨c, 1, none⟩ = some z1 by rw [cellAt h3 1]; rfl), e.cell (show w.cell? ⟨c, 2, none⟩ = some z2 by rw [cellAt h3 2]; rfl), e.cell (show w.cell? ⟨c, 3, none⟩ = some z3 by rw [cellAt h3 3]; rfl), e.cell (show w.cell? ⟨c, 4, none⟩ = some z4 by rw [cellAt h3 4]; rfl), e.cell (show w.cell? ⟨c, 5, none⟩ = some z5 by rw [cellAt h3 5]; rfl), e.cell (show w.cell? ⟨c, 6, none⟩ = some z6 by rw [cellAt h3 6]; rfl), e.cell (show w.cell? ⟨c, 7, none⟩ = some z7 by rw [cellAt h3 7]; rfl), e.cell (show w.cell? ⟨c, 8, none⟩ = some z8 by rw [cellAt h3 8]; rfl), e.cell (show w.cell? ⟨c, 9, none⟩ = some z9 by rw [cellAt h3 9]; rfl), e.cell (show w.cell? ⟨c, 10, none⟩ = some z10 by rw [cellAt h3 10]; rfl), e.cell (show w.cell? ⟨c, 11, none⟩ = some z11 by rw [cellAt h3 11]; rfl), e.cell (show w.cell? ⟨c, 12, none⟩ = some z12 by rw [cellAt h3 12]; rfl), e.cell (show w.cell? ⟨c, 13, none⟩ = some z13 by rw [cellAt h3 13]; rfl)⟩

theorem kil_res_00 : serialA (kilH 1 21 []) = true ∧ (versA (kilH 1 21 [])).length = 2 ∧ HistOk (kilH 1 21 []) := ⟨kil_s false false, kil_n false false, kil_ok false false⟩
set_option maxHeartbeats 8000000 in
set_option maxRecDepth 100000 in
theorem killed_00 (w : World) (her : ErrType w) : Calls Tryz.prog 4 #[.bool false, .bool false] w fun e w' => e = .returned (.bool true) ∧ Ext w w' := by
  have HER := Lib.hid her
  have HKN := Lib.hid (known_any w her)
  clear her
  have HTP : Hid (∀ W, Calls Tryz.prog 15 #[.int .i64 1, .int .i64 2, .int .i64 9, .int .i64 2, .int .i64 3, .int .u64 0] W fun e w' => e = .returned (.agg #[.int .i64 1, .int .i64 2, .int .i64 9, .string ⟨#[]⟩, .string ⟨#[]⟩, .string ⟨#[]⟩, .int .i64 0, .int .i64 0, .int .i64 2, .int .i64 3, .int .i64 0, .string ⟨#[]⟩, .string ⟨#[]⟩, .int .u64 0]) ∧ Ext W w') := fun W => tell_any 1 2 9 2 3 0 W
  have HTQ : Hid (∀ W, Calls Tryz.prog 15 #[.int .i64 2, .int .i64 2, .int .i64 9, .int .i64 22, .int .i64 23, .int .u64 0] W fun e w' => e = .returned (.agg #[.int .i64 2, .int .i64 2, .int .i64 9, .string ⟨#[]⟩, .string ⟨#[]⟩, .string ⟨#[]⟩, .int .i64 0, .int .i64 0, .int .i64 22, .int .i64 23, .int .i64 0, .string ⟨#[]⟩, .string ⟨#[]⟩, .int .u64 0]) ∧ Ext W w') := fun W => tell_any 2 2 9 22 23 0 W
  have HTG : Hid (∀ W, Calls Tryz.prog 15 #[.int .i64 3, .int .i64 2, .int .i64 8, .int .i64 40, .int .i64 41, .int .u64 0] W fun e w' => e = .returned (.agg #[.int .i64 3, .int .i64 2, .int .i64 8, .string ⟨#[]⟩, .string ⟨#[]⟩, .string ⟨#[]⟩, .int .i64 0, .int .i64 0, .int .i64 40, .int .i64 41, .int .i64 0, .string ⟨#[]⟩, .string ⟨#[]⟩, .int .u64 0]) ∧ Ext W w') := fun W => tell_any 3 2 8 40 41 0 W
  go_enter Tryz.func4, Tryz.ntmps4
  go_wp2_with fail
  refine HKN.out.mono ?_
  rintro e w1 ⟨rfl, hx1⟩
  have HX1 := Lib.hid hx1
  clear hx1 HKN
  go_wp2_with fail
  refine (HTP.out _).mono ?_
  rintro e w2 ⟨rfl, hx2⟩
  have HX2 := Lib.hid (Ext.step HX1.out hx2)
  clear hx2 HTP HX1
  go_wp2_with fail
  have hbp := heap_new w2 (.cells #[.int .i64 1, .int .i64 2, .int .i64 9, .string ⟨#[]⟩, .string ⟨#[97]⟩, .string ⟨#[49]⟩, .int .i64 0, .int .i64 0, .int .i64 2, .int .i64 3, .int .i64 0, .string ⟨#[]⟩, .string ⟨#[]⟩, .int .u64 0] 38 (0, 0))
  have hxp := (Ext.rfl' w2).alloc (.cells #[.int .i64 1, .int .i64 2, .int .i64 9, .string ⟨#[]⟩, .string ⟨#[97]⟩, .string ⟨#[49]⟩, .int .i64 0, .int .i64 0, .int .i64 2, .int .i64 3, .int .i64 0, .string ⟨#[]⟩, .string ⟨#[]⟩, .int .u64 0] 38 (0, 0))
  generalize w2.alloc (.cells #[.int .i64 1, .int .i64 2, .int .i64 9, .string ⟨#[]⟩, .string ⟨#[97]⟩, .string ⟨#[49]⟩, .int .i64 0, .int .i64 0, .int .i64 2, .int .i64 3, .int .i64 0, .string ⟨#[]⟩, .string ⟨#[]⟩, .int .u64 0] 38) = WP at hbp hxp ⊢
  have HXP := Lib.hid (Ext.step HX2.out hxp)
  have HBP0 := Lib.hid hbp
  clear hbp hxp HX2
  refine (HTQ.out _).mono ?_
  rintro e w3 ⟨rfl, hx3⟩
  have HX3 := Lib.hid hx3
  clear hx3 HTQ
  go_wp2_with fail
  have hbq := heap_new w3 (.cells #[.int .i64 2, .int .i64 2, .int .i64 9, .string ⟨#[]⟩, .string ⟨#[98]⟩, .string ⟨#[50]⟩, .int .i64 0, .int .i64 0, .int .i64 22, .int .i64 23, .int .i64 0, .string ⟨#[]⟩, .string ⟨#[]⟩, .int .u64 0] 38 (0, 0))
  have hxq := (Ext.rfl' w3).alloc (.cells #[.int .i64 2, .int .i64 2, .int .i64 9, .string ⟨#[]⟩, .string ⟨#[98]⟩, .string ⟨#[50]⟩, .int .i64 0, .int .i64 0, .int .i64 22, .int .i64 23, .int .i64 0, .string ⟨#[]⟩, .string ⟨#[]⟩, .int .u64 0] 38 (0, 0))
  generalize w3.alloc (.cells #[.int .i64 2, .int .i64 2, .int .i64 9, .string ⟨#[]⟩, .string ⟨#[98]⟩, .string ⟨#[50]⟩, .int .i64 0, .int .i64 0, .int .i64 22, .int .i64 23, .int .i64 0, .string ⟨#[]⟩, .string ⟨#[]⟩, .int .u64 0] 38) = WQ at hbq hxq ⊢
  have HXQ := Lib.hid (Ext.step HX3.out hxq)
  have HBQ0 := Lib.hid hbq
  clear hbq hxq HX3
  refine (HTG.out _).mono ?_
  rintro e w4 ⟨rfl, hx4⟩
  have HX4 := Lib.hid hx4
  clear hx4 HTG
  go_wp2_with fail
  have hbg := heap_new w4 (.cells #[.int .i64 3, .int .i64 2, .int .i64 8, .string ⟨#[]⟩, .string ⟨#[97]⟩, .string ⟨#[]⟩, .int .i64 0, .int .i64 0, .int .i64 40, .int .i64 41, .int .i64 21, .string ⟨#[]⟩, .string ⟨#[]⟩, .int .u64 0] 38 (0, 0))
  have hxg := (Ext.rfl' w4).alloc (.cells #[.int .i64 3, .int .i64 2, .int .i64 8, .string ⟨#[]⟩, .string ⟨#[97]⟩, .string ⟨#[]⟩, .int .i64 0, .int .i64 0, .int .i64 40, .int .i64 41, .int .i64 21, .string ⟨#[]⟩, .string ⟨#[]⟩, .int .u64 0] 38 (0, 0))
  generalize w4.alloc (.cells #[.int .i64 3, .int .i64 2, .int .i64 8, .string ⟨#[]⟩, .string ⟨#[97]⟩, .string ⟨#[]⟩, .int .i64 0, .int .i64 0, .int .i64 40, .int .i64 41, .int .i64 21, .string ⟨#[]⟩, .string ⟨#[]⟩, .int .u64 0] 38) = WG at hbg hxg ⊢
  have e4 : Ext WQ WG := Ext.step HX4.out hxg
  have HBG := Lib.hid hbg
  have HBQ : Hid (WG.heap[w3.heap.size]? = some (.cells #[.int .i64 2, .int .i64 2, .int .i64 9, .string ⟨#[]⟩, .string ⟨#[98]⟩, .string ⟨#[50]⟩, .int .i64 0, .int .i64 0, .int .i64 22, .int .i64 23, .int .i64 0, .string ⟨#[]⟩, .string ⟨#[]⟩, .int .u64 0] 38 (0, 0))) := (e4.block _ (lt_heap HBQ0.out)).trans HBQ0.out
  have HBP : Hid (WG.heap[w2.heap.size]? = some (.cells #[.int .i64 1, .int .i64 2, .int .i64 9, .string ⟨#[]⟩, .string ⟨#[97]⟩, .string ⟨#[49]⟩, .int .i64 0, .int .i64 0, .int .i64 2, .int .i64 3, .int .i64 0, .string ⟨#[]⟩, .string ⟨#[]⟩, .int .u64 0] 38 (0, 0))) := ((Ext.step HXQ.out e4).block _ (lt_heap HBP0.out)).trans HBP0.out
  have HXG : Hid (Ext w WG) := Ext.step HXP.out (Ext.step HXQ.out e4)
  have K0 := Lib.hid (keep42 HBP.out HBQ.out HBG.out (Ext.rfl' WG))
  have K1 := Lib.hid (keep42 HBP.out HBQ.out HBG.out (show Ext WG WG.drew from Ext.drewN WG 1))
  clear hbg hxg e4 HX4 HBQ0 HBP0 HXP HXQ
  have HC0 : Hid (∀ W, Calls Tryz.prog 15 #[.int .i64 1, .int .i64 1, .int .i64 4, .int .i64 0, .int .i64 1, .int .u64 1] W fun e w' => e = .returned (.agg #[.int .i64 1, .int .i64 1, .int .i64 4, .string ⟨#[]⟩, .string ⟨#[]⟩, .string ⟨#[]⟩, .int .i64 0, .int .i64 0, .int .i64 0, .int .i64 1, .int .i64 0, .string ⟨#[]⟩, .string ⟨#[]⟩, .int .u64 1]) ∧ Ext W w') := fun W => tell_any 1 1 4 0 1 1 W
  have HC1 : Hid (∀ W, Calls Tryz.prog 15 #[.int .i64 1, .int .i64 3, .int .i64 6, .int .i64 4, .int .i64 0, .int .u64 2] W fun e w' => e = .returned (.agg #[.int .i64 1, .int .i64 3, .int .i64 6, .string ⟨#[]⟩, .string ⟨#[]⟩, .string ⟨#[]⟩, .int .i64 0, .int .i64 0, .int .i64 4, .int .i64 0, .int .i64 0, .string ⟨#[]⟩, .string ⟨#[]⟩, .int .u64 2]) ∧ Ext W w') := fun W => tell_any 1 3 6 4 0 2 W
  have HC2 : Hid (∀ W, Calls Tryz.prog 15 #[.int .i64 2, .int .i64 1, .int .i64 4, .int .i64 20, .int .i64 21, .int .u64 1] W fun e w' => e = .returned (.agg #[.int .i64 2, .int .i64 1, .int .i64 4, .string ⟨#[]⟩, .string ⟨#[]⟩, .string ⟨#[]⟩, .int .i64 0, .int .i64 0, .int .i64 20, .int .i64 21, .int .i64 0, .string ⟨#[]⟩, .string ⟨#[]⟩, .int .u64 1]) ∧ Ext W w') := fun W => tell_any 2 1 4 20 21 1 W
  have HC3 : Hid (∀ W, Calls Tryz.prog 15 #[.int .i64 2, .int .i64 3, .int .i64 6, .int .i64 24, .int .i64 30, .int .u64 2] W fun e w' => e = .returned (.agg #[.int .i64 2, .int .i64 3, .int .i64 6, .string ⟨#[]⟩, .string ⟨#[]⟩, .string ⟨#[]⟩, .int .i64 0, .int .i64 0, .int .i64 24, .int .i64 30, .int .i64 0, .string ⟨#[]⟩, .string ⟨#[]⟩, .int .u64 2]) ∧ Ext W w') := fun W => tell_any 2 3 6 24 30 2 W
  have HC4 : Hid (∀ W, Calls Tryz.prog 15 #[.int .i64 3, .int .i64 1, .int .i64 3, .int .i64 32, .int .i64 33, .int .u64 2] W fun e w' => e = .returned (.agg #[.int .i64 3, .int .i64 1, .int .i64 3, .string ⟨#[]⟩, .string ⟨#[]⟩, .string ⟨#[]⟩, .int .i64 0, .int .i64 0, .int .i64 32, .int .i64 33, .int .i64 0, .string ⟨#[]⟩, .string ⟨#[]⟩, .int .u64 2]) ∧ Ext W w') := fun W => tell_any 3 1 3 32 33 2 W
  have iw2 : IntKind.u64.wrap (2 : Int) = 2 := by decide
  have iw3 : IntKind.u64.wrap (3 : Int) = 3 := by decide
  go_region_held3 (fun w' => Ext WG w' ∧ w'.cell? ⟨w2.heap.size, 0, none⟩ = some (.int .i64 1) ∧ w'.cell? ⟨w2.heap.size, 1, none⟩ = some (.int .i64 2) ∧ w'.cell? ⟨w2.heap.size, 2, none⟩ = some (.int .i64 9) ∧ w'.cell? ⟨w2.heap.size, 3, none⟩ = some (.string ⟨#[]⟩) ∧ w'.cell? ⟨w2.heap.size, 4, none⟩ = some (.string ⟨#[97]⟩) ∧ w'.cell? ⟨w2.heap.size, 5, none⟩ = some (.string ⟨#[49]⟩) ∧ w'.cell? ⟨w2.heap.size, 6, none⟩ = some (.int .i64 0) ∧ w'.cell? ⟨w2.heap.size, 7, none⟩ = some (.int .i64 0) ∧ w'.cell? ⟨w2.heap.size, 8, none⟩ = some (.int .i64 2) ∧ w'.cell? ⟨w2.heap.size, 9, none⟩ = some (.int .i64 3) ∧ w'.cell? ⟨w2.heap.size, 10, none⟩ = some (.int .i64 0) ∧ w'.cell? ⟨w2.heap.size, 11, none⟩ = some (.string ⟨#[]⟩) ∧ w'.cell? ⟨w2.heap.size, 12, none⟩ = some (.string ⟨#[]⟩) ∧ w'.cell? ⟨w2.heap.size, 13, none⟩ = some (.int .u64 0) ∧ w'.cell? ⟨w3.heap.size, 0, none⟩ = some (.int .i64 2) ∧ w'.cell? ⟨w3.heap.size, 1, none⟩ = some (.int .i64 2) ∧ w'.cell? ⟨w3.heap.size, 2, none⟩ = some (.int .i64 9) ∧ w'.cell? ⟨w3.heap.size, 3, none⟩ = some (.string ⟨#[]⟩) ∧ w'.cell? ⟨w3.heap.size, 4, none⟩ = some (.string ⟨#[98]⟩) ∧ w'.cell? ⟨w3.heap.size, 5, none⟩ = some (.string ⟨#[50]⟩) ∧ w'.cell? ⟨w3.heap.size, 6, none⟩ = some (.int .i64 0) ∧ w'.cell? ⟨w3.heap.size, 7, none⟩ = some (.int .i64 0) ∧ w'.cell? ⟨w3.heap.size, 8, none⟩ = some (.int .i64 22) ∧ w'.cell? ⟨w3.heap.size, 9, none⟩ = some (.int .i64 23) ∧ w'.cell? ⟨w3.heap.size, 10, none⟩ = some (.int .i64 0) ∧ w'.cell? ⟨w3.heap.size, 11, none⟩ = some (.string ⟨#[]⟩) ∧ w'.cell? ⟨w3.heap.size, 12, none⟩ = some (.string ⟨#[]⟩) ∧ w'.cell? ⟨w3.heap.size, 13, none⟩ = some (.int .u64 0) ∧ w'.cell? ⟨w4.heap.size, 0, none⟩ = some (.int .i64 3) ∧ w'.cell? ⟨w4.heap.size, 1, none⟩ = some (.int .i64 2) ∧ w'.cell? ⟨w4.heap.size, 2, none⟩ = some (.int .i64 8) ∧ w'.cell? ⟨w4.heap.size, 3, none⟩ = some (.string ⟨#[]⟩) ∧ w'.cell? ⟨w4.heap.size, 4, none⟩ = some (.string ⟨#[97]⟩) ∧ w'.cell? ⟨w4.heap.size, 5, none⟩ = some (.string ⟨#[]⟩) ∧ w'.cell? ⟨w4.heap.size, 6, none⟩ = some (.int .i64 0) ∧ w'.cell? ⟨w4.heap.size, 7, none⟩ = some (.int .i64 0) ∧ w'.cell? ⟨w4.heap.size, 8, none⟩ = some (.int .i64 40) ∧ w'.cell? ⟨w4.heap.size, 9, none⟩ = some (.int .i64 41) ∧ w'.cell? ⟨w4.heap.size, 10, none⟩ = some (.int .i64 21) ∧ w'.cell? ⟨w4.heap.size, 11, none⟩ = some (.string ⟨#[]⟩) ∧ w'.cell? ⟨w4.heap.size, 12, none⟩ = some (.string ⟨#[]⟩) ∧ w'.cell? ⟨w4.heap.size, 13, none⟩ = some (.int .u64 0))
    (first | (with_reducible exact KC4.out) | (with_reducible exact KC3.out) | (with_reducible exact KC2.out) | (with_reducible exact KC1.out) | (with_reducible exact KC0.out) | (with_reducible exact K1.out) | (with_reducible exact K0.out) | (with_reducible exact keep42 HBP.out HBQ.out HBG.out (KC4.out.1.alloc _)))
    (first
      | (go_at_call 15; with_reducible refine (HC0.out _).mono ?_; rintro e u0 ⟨rfl, hx⟩
         have KC0 := Lib.hid (keep42 HBP.out HBQ.out HBG.out (show Ext WG u0 from by first | (with_reducible exact hx) | exact Ext.step K1.out.1 hx)); clear hx)
      | (go_at_call 15; with_reducible refine (HC1.out _).mono ?_; rintro e u1 ⟨rfl, hx⟩
         have KC1 := Lib.hid (keep42 HBP.out HBQ.out HBG.out (Ext.step KC0.out.1 hx)); clear hx)
      | (go_at_call 15; with_reducible refine (HC2.out _).mono ?_; rintro e u2 ⟨rfl, hx⟩
         have KC2 := Lib.hid (keep42 HBP.out HBQ.out HBG.out (Ext.step KC1.out.1 hx)); clear hx)
      | (go_at_call 15; with_reducible refine (HC3.out _).mono ?_; rintro e u3 ⟨rfl, hx⟩
         have KC3 := Lib.hid (keep42 HBP.out HBQ.out HBG.out (Ext.step KC2.out.1 hx)); clear hx)
      | (go_at_call 15; with_reducible refine (HC4.out _).mono ?_; rintro e u4 ⟨rfl, hx⟩
         have KC4 := Lib.hid (keep42 HBP.out HBQ.out HBG.out (Ext.step KC3.out.1 hx)); clear hx))
  have hT : Tolds (u4.alloc (.cells #[.int .i64 1, .int .i64 1, .int .i64 4, .string ⟨#[]⟩, .string ⟨#[]⟩, .string ⟨#[]⟩, .int .i64 0, .int .i64 0, .int .i64 0, .int .i64 1, .int .i64 0, .string ⟨#[]⟩, .string ⟨#[]⟩, .int .u64 1, .int .i64 1, .int .i64 2, .int .i64 9, .string ⟨#[]⟩, .string ⟨#[97]⟩, .string ⟨#[49]⟩, .int .i64 0, .int .i64 0, .int .i64 2, .int .i64 3, .int .i64 0, .string ⟨#[]⟩, .string ⟨#[]⟩, .int .u64 0, .int .i64 1, .int .i64 3, .int .i64 6, .string ⟨#[]⟩, .string ⟨#[]⟩, .string ⟨#[]⟩, .int .i64 0, .int .i64 0, .int .i64 4, .int .i64 0, .int .i64 0, .string ⟨#[]⟩, .string ⟨#[]⟩, .int .u64 2, .int .i64 2, .int .i64 1, .int .i64 4, .string ⟨#[]⟩, .string ⟨#[]⟩, .string ⟨#[]⟩, .int .i64 0, .int .i64 0, .int .i64 20, .int .i64 21, .int .i64 0, .string ⟨#[]⟩, .string ⟨#[]⟩, .int .u64 1, .int .i64 2, .int .i64 2, .int .i64 9, .string ⟨#[]⟩, .string ⟨#[98]⟩, .string ⟨#[50]⟩, .int .i64 0, .int .i64 0, .int .i64 22, .int .i64 23, .int .i64 0, .string ⟨#[]⟩, .string ⟨#[]⟩, .int .u64 0, .int .i64 2, .int .i64 3, .int .i64 6, .string ⟨#[]⟩, .string ⟨#[]⟩, .string ⟨#[]⟩, .int .i64 0, .int .i64 0, .int .i64 24, .int .i64 30, .int .i64 0, .string ⟨#[]⟩, .string ⟨#[]⟩, .int .u64 2, .int .i64 3, .int .i64 1, .int .i64 3, .string ⟨#[]⟩, .string ⟨#[]⟩, .string ⟨#[]⟩, .int .i64 0, .int .i64 0, .int .i64 32, .int .i64 33, .int .i64 0, .string ⟨#[]⟩, .string ⟨#[]⟩, .int .u64 2, .int .i64 3, .int .i64 2, .int .i64 8, .string ⟨#[]⟩, .string ⟨#[97]⟩, .string ⟨#[]⟩, .int .i64 0, .int .i64 0, .int .i64 40, .int .i64 41, .int .i64 21, .string ⟨#[]⟩, .string ⟨#[]⟩, .int .u64 0] 38)) (.slice (some ⟨u4.heap.size, 0, none⟩) 8 8) (kilH 1 21 []) := tolds_lit u4 (kilH 1 21 []) (by decide)
  have hx5 : Ext WG (u4.alloc (.cells #[.int .i64 1, .int .i64 1, .int .i64 4, .string ⟨#[]⟩, .string ⟨#[]⟩, .string ⟨#[]⟩, .int .i64 0, .int .i64 0, .int .i64 0, .int .i64 1, .int .i64 0, .string ⟨#[]⟩, .string ⟨#[]⟩, .int .u64 1, .int .i64 1, .int .i64 2, .int .i64 9, .string ⟨#[]⟩, .string ⟨#[97]⟩, .string ⟨#[49]⟩, .int .i64 0, .int .i64 0, .int .i64 2, .int .i64 3, .int .i64 0, .string ⟨#[]⟩, .string ⟨#[]⟩, .int .u64 0, .int .i64 1, .int .i64 3, .int .i64 6, .string ⟨#[]⟩, .string ⟨#[]⟩, .string ⟨#[]⟩, .int .i64 0, .int .i64 0, .int .i64 4, .int .i64 0, .int .i64 0, .string ⟨#[]⟩, .string ⟨#[]⟩, .int .u64 2, .int .i64 2, .int .i64 1, .int .i64 4, .string ⟨#[]⟩, .string ⟨#[]⟩, .string ⟨#[]⟩, .int .i64 0, .int .i64 0, .int .i64 20, .int .i64 21, .int .i64 0, .string ⟨#[]⟩, .string ⟨#[]⟩, .int .u64 1, .int .i64 2, .int .i64 2, .int .i64 9, .string ⟨#[]⟩, .string ⟨#[98]⟩, .string ⟨#[50]⟩, .int .i64 0, .int .i64 0, .int .i64 22, .int .i64 23, .int .i64 0, .string ⟨#[]⟩, .string ⟨#[]⟩, .int .u64 0, .int .i64 2, .int .i64 3, .int .i64 6, .string ⟨#[]⟩, .string ⟨#[]⟩, .string ⟨#[]⟩, .int .i64 0, .int .i64 0, .int .i64 24, .int .i64 30, .int .i64 0, .string ⟨#[]⟩, .string ⟨#[]⟩, .int .u64 2, .int .i64 3, .int .i64 1, .int .i64 3, .string ⟨#[]⟩, .string ⟨#[]⟩, .string ⟨#[]⟩, .int .i64 0, .int .i64 0, .int .i64 32, .int .i64 33, .int .i64 0, .string ⟨#[]⟩, .string ⟨#[]⟩, .int .u64 2, .int .i64 3, .int .i64 2, .int .i64 8, .string ⟨#[]⟩, .string ⟨#[97]⟩, .string ⟨#[]⟩, .int .i64 0, .int .i64 0, .int .i64 40, .int .i64 41, .int .i64 21, .string ⟨#[]⟩, .string ⟨#[]⟩, .int .u64 0] 38)) := KC4.out.1.alloc _
  generalize u4.alloc (.cells #[.int .i64 1, .int .i64 1, .int .i64 4, .string ⟨#[]⟩, .string ⟨#[]⟩, .string ⟨#[]⟩, .int .i64 0, .int .i64 0, .int .i64 0, .int .i64 1, .int .i64 0, .string ⟨#[]⟩, .string ⟨#[]⟩, .int .u64 1, .int .i64 1, .int .i64 2, .int .i64 9, .string ⟨#[]⟩, .string ⟨#[97]⟩, .string ⟨#[49]⟩, .int .i64 0, .int .i64 0, .int .i64 2, .int .i64 3, .int .i64 0, .string ⟨#[]⟩, .string ⟨#[]⟩, .int .u64 0, .int .i64 1, .int .i64 3, .int .i64 6, .string ⟨#[]⟩, .string ⟨#[]⟩, .string ⟨#[]⟩, .int .i64 0, .int .i64 0, .int .i64 4, .int .i64 0, .int .i64 0, .string ⟨#[]⟩, .string ⟨#[]⟩, .int .u64 2, .int .i64 2, .int .i64 1, .int .i64 4, .string ⟨#[]⟩, .string ⟨#[]⟩, .string ⟨#[]⟩, .int .i64 0, .int .i64 0, .int .i64 20, .int .i64 21, .int .i64 0, .string ⟨#[]⟩, .string ⟨#[]⟩, .int .u64 1, .int .i64 2, .int .i64 2, .int .i64 9, .string ⟨#[]⟩, .string ⟨#[98]⟩, .string ⟨#[50]⟩, .int .i64 0, .int .i64 0, .int .i64 22, .int .i64 23, .int .i64 0, .string ⟨#[]⟩, .string ⟨#[]⟩, .int .u64 0, .int .i64 2, .int .i64 3, .int .i64 6, .string ⟨#[]⟩, .string ⟨#[]⟩, .string ⟨#[]⟩, .int .i64 0, .int .i64 0, .int .i64 24, .int .i64 30, .int .i64 0, .string ⟨#[]⟩, .string ⟨#[]⟩, .int .u64 2, .int .i64 3, .int .i64 1, .int .i64 3, .string ⟨#[]⟩, .string ⟨#[]⟩, .string ⟨#[]⟩, .int .i64 0, .int .i64 0, .int .i64 32, .int .i64 33, .int .i64 0, .string ⟨#[]⟩, .string ⟨#[]⟩, .int .u64 2, .int .i64 3, .int .i64 2, .int .i64 8, .string ⟨#[]⟩, .string ⟨#[97]⟩, .string ⟨#[]⟩, .int .i64 0, .int .i64 0, .int .i64 40, .int .i64 41, .int .i64 21, .string ⟨#[]⟩, .string ⟨#[]⟩, .int .u64 0] 38) = W5 at hT hx5 ⊢
  have HX5 : Hid (Ext w W5) := Ext.step HXG.out hx5
  have HT := Lib.hid hT
  have HVR := Lib.hid (versions_any _ (kilH 1 21 []) W5 (HX5.out.cell HER.out) hT kil_res_00.2.2)
  clear hT hx5 K0 K1 KC0 KC1 KC2 KC3 KC4 HC0 HC1 HC2 HC3 HC4 HBP HBQ HBG HXG
  go_wp2_with fail
  refine HVR.out.mono ?_
  rintro e w6 ⟨vmb, σv, vrows, rfl, hv, hx6, _, _⟩
  have hvn : vrows.length = 2 := hv.2.2.length.trans kil_res_00.2.1
  have HV := Lib.hid hv.1
  have HVN := Lib.hid hvn
  have HX6 : Hid (Ext w w6) := Ext.step HX5.out hx6
  have HSR : Hid (∀ W, Ext w6 W → Calls Tryz.prog 17 #[.slice (some ⟨u4.heap.size, 0, none⟩) 8 8] W fun e w' => e = .returned (.bool true) ∧ Ext W w') := fun W e => by
    have := serial_any _ (kilH 1 21 []) W ((Ext.step HX6.out e).cell HER.out) (HT.out.ext (Ext.step hx6 e)) kil_res_00.2.2
    rw [kil_res_00.1] at this; exact this
  clear hv hvn hx6 HVR
  go_wp2_with fail
  refine (HSR.out _ (by first | exact Ext.rfl' w6 | exact Ext.drewN w6 1)).mono ?_
  rintro e w7 ⟨rfl, hx7⟩
  have e67 : Ext w6 w7 := by first | exact hx7 | exact Ext.step (Ext.drewN w6 1) hx7
  have hMv := HV.out.ext e67
  have hlen : ∀ ty, (Builtin.len_ #[41] ty #[.map (some vmb)]).run Tryz.prog w7 = .ok (.int .i64 2) w7 := fun ty => by
    have := hMv.len (t := 41) (e := 24) Tryz.underlying41 ty
    rw [HVN.out] at this; exact this
  have HX7 : Hid (Ext w w7) := Ext.step HX6.out e67
  clear hMv e67 hx7 HSR
  go_wp2_with fail
  go_ret
  exact ⟨rfl, HX7.out⟩

theorem kil_res_01 : serialA (kilH 1 0 [49]) = false ∧ (versA (kilH 1 0 [49])).length = 2 ∧ HistOk (kilH 1 0 [49]) := ⟨kil_s false true, kil_n false true, kil_ok false true⟩
set_option maxHeartbeats 8000000 in
set_option maxRecDepth 100000 in
theorem killed_01 (w : World) (her : ErrType w) : Calls Tryz.prog 4 #[.bool false, .bool true] w fun e w' => e = .returned (.bool true) ∧ Ext w w' := by
  have HER := Lib.hid her
  have HKN := Lib.hid (known_any w her)
  clear her
  have HTP : Hid (∀ W, Calls Tryz.prog 15 #[.int .i64 1, .int .i64 2, .int .i64 9, .int .i64 2, .int .i64 3, .int .u64 0] W fun e w' => e = .returned (.agg #[.int .i64 1, .int .i64 2, .int .i64 9, .string ⟨#[]⟩, .string ⟨#[]⟩, .string ⟨#[]⟩, .int .i64 0, .int .i64 0, .int .i64 2, .int .i64 3, .int .i64 0, .string ⟨#[]⟩, .string ⟨#[]⟩, .int .u64 0]) ∧ Ext W w') := fun W => tell_any 1 2 9 2 3 0 W
  have HTQ : Hid (∀ W, Calls Tryz.prog 15 #[.int .i64 2, .int .i64 2, .int .i64 9, .int .i64 22, .int .i64 23, .int .u64 0] W fun e w' => e = .returned (.agg #[.int .i64 2, .int .i64 2, .int .i64 9, .string ⟨#[]⟩, .string ⟨#[]⟩, .string ⟨#[]⟩, .int .i64 0, .int .i64 0, .int .i64 22, .int .i64 23, .int .i64 0, .string ⟨#[]⟩, .string ⟨#[]⟩, .int .u64 0]) ∧ Ext W w') := fun W => tell_any 2 2 9 22 23 0 W
  have HTG : Hid (∀ W, Calls Tryz.prog 15 #[.int .i64 3, .int .i64 2, .int .i64 8, .int .i64 40, .int .i64 41, .int .u64 0] W fun e w' => e = .returned (.agg #[.int .i64 3, .int .i64 2, .int .i64 8, .string ⟨#[]⟩, .string ⟨#[]⟩, .string ⟨#[]⟩, .int .i64 0, .int .i64 0, .int .i64 40, .int .i64 41, .int .i64 0, .string ⟨#[]⟩, .string ⟨#[]⟩, .int .u64 0]) ∧ Ext W w') := fun W => tell_any 3 2 8 40 41 0 W
  go_enter Tryz.func4, Tryz.ntmps4
  go_wp2_with fail
  refine HKN.out.mono ?_
  rintro e w1 ⟨rfl, hx1⟩
  have HX1 := Lib.hid hx1
  clear hx1 HKN
  go_wp2_with fail
  refine (HTP.out _).mono ?_
  rintro e w2 ⟨rfl, hx2⟩
  have HX2 := Lib.hid (Ext.step HX1.out hx2)
  clear hx2 HTP HX1
  go_wp2_with fail
  have hbp := heap_new w2 (.cells #[.int .i64 1, .int .i64 2, .int .i64 9, .string ⟨#[]⟩, .string ⟨#[97]⟩, .string ⟨#[49]⟩, .int .i64 0, .int .i64 0, .int .i64 2, .int .i64 3, .int .i64 0, .string ⟨#[]⟩, .string ⟨#[]⟩, .int .u64 0] 38 (0, 0))
  have hxp := (Ext.rfl' w2).alloc (.cells #[.int .i64 1, .int .i64 2, .int .i64 9, .string ⟨#[]⟩, .string ⟨#[97]⟩, .string ⟨#[49]⟩, .int .i64 0, .int .i64 0, .int .i64 2, .int .i64 3, .int .i64 0, .string ⟨#[]⟩, .string ⟨#[]⟩, .int .u64 0] 38 (0, 0))
  generalize w2.alloc (.cells #[.int .i64 1, .int .i64 2, .int .i64 9, .string ⟨#[]⟩, .string ⟨#[97]⟩, .string ⟨#[49]⟩, .int .i64 0, .int .i64 0, .int .i64 2, .int .i64 3, .int .i64 0, .string ⟨#[]⟩, .string ⟨#[]⟩, .int .u64 0] 38) = WP at hbp hxp ⊢
  have HXP := Lib.hid (Ext.step HX2.out hxp)
  have HBP0 := Lib.hid hbp
  clear hbp hxp HX2
  refine (HTQ.out _).mono ?_
  rintro e w3 ⟨rfl, hx3⟩
  have HX3 := Lib.hid hx3
  clear hx3 HTQ
  go_wp2_with fail
  have hbq := heap_new w3 (.cells #[.int .i64 2, .int .i64 2, .int .i64 9, .string ⟨#[]⟩, .string ⟨#[98]⟩, .string ⟨#[50]⟩, .int .i64 0, .int .i64 0, .int .i64 22, .int .i64 23, .int .i64 0, .string ⟨#[]⟩, .string ⟨#[]⟩, .int .u64 0] 38 (0, 0))
  have hxq := (Ext.rfl' w3).alloc (.cells #[.int .i64 2, .int .i64 2, .int .i64 9, .string ⟨#[]⟩, .string ⟨#[98]⟩, .string ⟨#[50]⟩, .int .i64 0, .int .i64 0, .int .i64 22, .int .i64 23, .int .i64 0, .string ⟨#[]⟩, .string ⟨#[]⟩, .int .u64 0] 38 (0, 0))
  generalize w3.alloc (.cells #[.int .i64 2, .int .i64 2, .int .i64 9, .string ⟨#[]⟩, .string ⟨#[98]⟩, .string ⟨#[50]⟩, .int .i64 0, .int .i64 0, .int .i64 22, .int .i64 23, .int .i64 0, .string ⟨#[]⟩, .string ⟨#[]⟩, .int .u64 0] 38) = WQ at hbq hxq ⊢
  have HXQ := Lib.hid (Ext.step HX3.out hxq)
  have HBQ0 := Lib.hid hbq
  clear hbq hxq HX3
  refine (HTG.out _).mono ?_
  rintro e w4 ⟨rfl, hx4⟩
  have HX4 := Lib.hid hx4
  clear hx4 HTG
  go_wp2_with fail
  have hbg := heap_new w4 (.cells #[.int .i64 3, .int .i64 2, .int .i64 8, .string ⟨#[]⟩, .string ⟨#[97]⟩, .string ⟨#[]⟩, .int .i64 0, .int .i64 0, .int .i64 40, .int .i64 41, .int .i64 0, .string ⟨#[]⟩, .string ⟨#[49]⟩, .int .u64 0] 38 (0, 0))
  have hxg := (Ext.rfl' w4).alloc (.cells #[.int .i64 3, .int .i64 2, .int .i64 8, .string ⟨#[]⟩, .string ⟨#[97]⟩, .string ⟨#[]⟩, .int .i64 0, .int .i64 0, .int .i64 40, .int .i64 41, .int .i64 0, .string ⟨#[]⟩, .string ⟨#[49]⟩, .int .u64 0] 38 (0, 0))
  generalize w4.alloc (.cells #[.int .i64 3, .int .i64 2, .int .i64 8, .string ⟨#[]⟩, .string ⟨#[97]⟩, .string ⟨#[]⟩, .int .i64 0, .int .i64 0, .int .i64 40, .int .i64 41, .int .i64 0, .string ⟨#[]⟩, .string ⟨#[49]⟩, .int .u64 0] 38) = WG at hbg hxg ⊢
  have e4 : Ext WQ WG := Ext.step HX4.out hxg
  have HBG := Lib.hid hbg
  have HBQ : Hid (WG.heap[w3.heap.size]? = some (.cells #[.int .i64 2, .int .i64 2, .int .i64 9, .string ⟨#[]⟩, .string ⟨#[98]⟩, .string ⟨#[50]⟩, .int .i64 0, .int .i64 0, .int .i64 22, .int .i64 23, .int .i64 0, .string ⟨#[]⟩, .string ⟨#[]⟩, .int .u64 0] 38 (0, 0))) := (e4.block _ (lt_heap HBQ0.out)).trans HBQ0.out
  have HBP : Hid (WG.heap[w2.heap.size]? = some (.cells #[.int .i64 1, .int .i64 2, .int .i64 9, .string ⟨#[]⟩, .string ⟨#[97]⟩, .string ⟨#[49]⟩, .int .i64 0, .int .i64 0, .int .i64 2, .int .i64 3, .int .i64 0, .string ⟨#[]⟩, .string ⟨#[]⟩, .int .u64 0] 38 (0, 0))) := ((Ext.step HXQ.out e4).block _ (lt_heap HBP0.out)).trans HBP0.out
  have HXG : Hid (Ext w WG) := Ext.step HXP.out (Ext.step HXQ.out e4)
  have K0 := Lib.hid (keep42 HBP.out HBQ.out HBG.out (Ext.rfl' WG))
  have K1 := Lib.hid (keep42 HBP.out HBQ.out HBG.out (show Ext WG WG.drew from Ext.drewN WG 1))
  clear hbg hxg e4 HX4 HBQ0 HBP0 HXP HXQ
  have HC0 : Hid (∀ W, Calls Tryz.prog 15 #[.int .i64 1, .int .i64 1, .int .i64 4, .int .i64 0, .int .i64 1, .int .u64 1] W fun e w' => e = .returned (.agg #[.int .i64 1, .int .i64 1, .int .i64 4, .string ⟨#[]⟩, .string ⟨#[]⟩, .string ⟨#[]⟩, .int .i64 0, .int .i64 0, .int .i64 0, .int .i64 1, .int .i64 0, .string ⟨#[]⟩, .string ⟨#[]⟩, .int .u64 1]) ∧ Ext W w') := fun W => tell_any 1 1 4 0 1 1 W
  have HC1 : Hid (∀ W, Calls Tryz.prog 15 #[.int .i64 1, .int .i64 3, .int .i64 6, .int .i64 4, .int .i64 0, .int .u64 2] W fun e w' => e = .returned (.agg #[.int .i64 1, .int .i64 3, .int .i64 6, .string ⟨#[]⟩, .string ⟨#[]⟩, .string ⟨#[]⟩, .int .i64 0, .int .i64 0, .int .i64 4, .int .i64 0, .int .i64 0, .string ⟨#[]⟩, .string ⟨#[]⟩, .int .u64 2]) ∧ Ext W w') := fun W => tell_any 1 3 6 4 0 2 W
  have HC2 : Hid (∀ W, Calls Tryz.prog 15 #[.int .i64 2, .int .i64 1, .int .i64 4, .int .i64 20, .int .i64 21, .int .u64 1] W fun e w' => e = .returned (.agg #[.int .i64 2, .int .i64 1, .int .i64 4, .string ⟨#[]⟩, .string ⟨#[]⟩, .string ⟨#[]⟩, .int .i64 0, .int .i64 0, .int .i64 20, .int .i64 21, .int .i64 0, .string ⟨#[]⟩, .string ⟨#[]⟩, .int .u64 1]) ∧ Ext W w') := fun W => tell_any 2 1 4 20 21 1 W
  have HC3 : Hid (∀ W, Calls Tryz.prog 15 #[.int .i64 2, .int .i64 3, .int .i64 6, .int .i64 24, .int .i64 30, .int .u64 2] W fun e w' => e = .returned (.agg #[.int .i64 2, .int .i64 3, .int .i64 6, .string ⟨#[]⟩, .string ⟨#[]⟩, .string ⟨#[]⟩, .int .i64 0, .int .i64 0, .int .i64 24, .int .i64 30, .int .i64 0, .string ⟨#[]⟩, .string ⟨#[]⟩, .int .u64 2]) ∧ Ext W w') := fun W => tell_any 2 3 6 24 30 2 W
  have HC4 : Hid (∀ W, Calls Tryz.prog 15 #[.int .i64 3, .int .i64 1, .int .i64 3, .int .i64 32, .int .i64 33, .int .u64 2] W fun e w' => e = .returned (.agg #[.int .i64 3, .int .i64 1, .int .i64 3, .string ⟨#[]⟩, .string ⟨#[]⟩, .string ⟨#[]⟩, .int .i64 0, .int .i64 0, .int .i64 32, .int .i64 33, .int .i64 0, .string ⟨#[]⟩, .string ⟨#[]⟩, .int .u64 2]) ∧ Ext W w') := fun W => tell_any 3 1 3 32 33 2 W
  have iw2 : IntKind.u64.wrap (2 : Int) = 2 := by decide
  have iw3 : IntKind.u64.wrap (3 : Int) = 3 := by decide
  go_region_held3 (fun w' => Ext WG w' ∧ w'.cell? ⟨w2.heap.size, 0, none⟩ = some (.int .i64 1) ∧ w'.cell? ⟨w2.heap.size, 1, none⟩ = some (.int .i64 2) ∧ w'.cell? ⟨w2.heap.size, 2, none⟩ = some (.int .i64 9) ∧ w'.cell? ⟨w2.heap.size, 3, none⟩ = some (.string ⟨#[]⟩) ∧ w'.cell? ⟨w2.heap.size, 4, none⟩ = some (.string ⟨#[97]⟩) ∧ w'.cell? ⟨w2.heap.size, 5, none⟩ = some (.string ⟨#[49]⟩) ∧ w'.cell? ⟨w2.heap.size, 6, none⟩ = some (.int .i64 0) ∧ w'.cell? ⟨w2.heap.size, 7, none⟩ = some (.int .i64 0) ∧ w'.cell? ⟨w2.heap.size, 8, none⟩ = some (.int .i64 2) ∧ w'.cell? ⟨w2.heap.size, 9, none⟩ = some (.int .i64 3) ∧ w'.cell? ⟨w2.heap.size, 10, none⟩ = some (.int .i64 0) ∧ w'.cell? ⟨w2.heap.size, 11, none⟩ = some (.string ⟨#[]⟩) ∧ w'.cell? ⟨w2.heap.size, 12, none⟩ = some (.string ⟨#[]⟩) ∧ w'.cell? ⟨w2.heap.size, 13, none⟩ = some (.int .u64 0) ∧ w'.cell? ⟨w3.heap.size, 0, none⟩ = some (.int .i64 2) ∧ w'.cell? ⟨w3.heap.size, 1, none⟩ = some (.int .i64 2) ∧ w'.cell? ⟨w3.heap.size, 2, none⟩ = some (.int .i64 9) ∧ w'.cell? ⟨w3.heap.size, 3, none⟩ = some (.string ⟨#[]⟩) ∧ w'.cell? ⟨w3.heap.size, 4, none⟩ = some (.string ⟨#[98]⟩) ∧ w'.cell? ⟨w3.heap.size, 5, none⟩ = some (.string ⟨#[50]⟩) ∧ w'.cell? ⟨w3.heap.size, 6, none⟩ = some (.int .i64 0) ∧ w'.cell? ⟨w3.heap.size, 7, none⟩ = some (.int .i64 0) ∧ w'.cell? ⟨w3.heap.size, 8, none⟩ = some (.int .i64 22) ∧ w'.cell? ⟨w3.heap.size, 9, none⟩ = some (.int .i64 23) ∧ w'.cell? ⟨w3.heap.size, 10, none⟩ = some (.int .i64 0) ∧ w'.cell? ⟨w3.heap.size, 11, none⟩ = some (.string ⟨#[]⟩) ∧ w'.cell? ⟨w3.heap.size, 12, none⟩ = some (.string ⟨#[]⟩) ∧ w'.cell? ⟨w3.heap.size, 13, none⟩ = some (.int .u64 0) ∧ w'.cell? ⟨w4.heap.size, 0, none⟩ = some (.int .i64 3) ∧ w'.cell? ⟨w4.heap.size, 1, none⟩ = some (.int .i64 2) ∧ w'.cell? ⟨w4.heap.size, 2, none⟩ = some (.int .i64 8) ∧ w'.cell? ⟨w4.heap.size, 3, none⟩ = some (.string ⟨#[]⟩) ∧ w'.cell? ⟨w4.heap.size, 4, none⟩ = some (.string ⟨#[97]⟩) ∧ w'.cell? ⟨w4.heap.size, 5, none⟩ = some (.string ⟨#[]⟩) ∧ w'.cell? ⟨w4.heap.size, 6, none⟩ = some (.int .i64 0) ∧ w'.cell? ⟨w4.heap.size, 7, none⟩ = some (.int .i64 0) ∧ w'.cell? ⟨w4.heap.size, 8, none⟩ = some (.int .i64 40) ∧ w'.cell? ⟨w4.heap.size, 9, none⟩ = some (.int .i64 41) ∧ w'.cell? ⟨w4.heap.size, 10, none⟩ = some (.int .i64 0) ∧ w'.cell? ⟨w4.heap.size, 11, none⟩ = some (.string ⟨#[]⟩) ∧ w'.cell? ⟨w4.heap.size, 12, none⟩ = some (.string ⟨#[49]⟩) ∧ w'.cell? ⟨w4.heap.size, 13, none⟩ = some (.int .u64 0))
    (first | (with_reducible exact KC4.out) | (with_reducible exact KC3.out) | (with_reducible exact KC2.out) | (with_reducible exact KC1.out) | (with_reducible exact KC0.out) | (with_reducible exact K1.out) | (with_reducible exact K0.out) | (with_reducible exact keep42 HBP.out HBQ.out HBG.out (KC4.out.1.alloc _)))
    (first
      | (go_at_call 15; with_reducible refine (HC0.out _).mono ?_; rintro e u0 ⟨rfl, hx⟩
         have KC0 := Lib.hid (keep42 HBP.out HBQ.out HBG.out (show Ext WG u0 from by first | (with_reducible exact hx) | exact Ext.step K1.out.1 hx)); clear hx)
      | (go_at_call 15; with_reducible refine (HC1.out _).mono ?_; rintro e u1 ⟨rfl, hx⟩
         have KC1 := Lib.hid (keep42 HBP.out HBQ.out HBG.out (Ext.step KC0.out.1 hx)); clear hx)
      | (go_at_call 15; with_reducible refine (HC2.out _).mono ?_; rintro e u2 ⟨rfl, hx⟩
         have KC2 := Lib.hid (keep42 HBP.out HBQ.out HBG.out (Ext.step KC1.out.1 hx)); clear hx)
      | (go_at_call 15; with_reducible refine (HC3.out _).mono ?_; rintro e u3 ⟨rfl, hx⟩
         have KC3 := Lib.hid (keep42 HBP.out HBQ.out HBG.out (Ext.step KC2.out.1 hx)); clear hx)
      | (go_at_call 15; with_reducible refine (HC4.out _).mono ?_; rintro e u4 ⟨rfl, hx⟩
         have KC4 := Lib.hid (keep42 HBP.out HBQ.out HBG.out (Ext.step KC3.out.1 hx)); clear hx))
  have hT : Tolds (u4.alloc (.cells #[.int .i64 1, .int .i64 1, .int .i64 4, .string ⟨#[]⟩, .string ⟨#[]⟩, .string ⟨#[]⟩, .int .i64 0, .int .i64 0, .int .i64 0, .int .i64 1, .int .i64 0, .string ⟨#[]⟩, .string ⟨#[]⟩, .int .u64 1, .int .i64 1, .int .i64 2, .int .i64 9, .string ⟨#[]⟩, .string ⟨#[97]⟩, .string ⟨#[49]⟩, .int .i64 0, .int .i64 0, .int .i64 2, .int .i64 3, .int .i64 0, .string ⟨#[]⟩, .string ⟨#[]⟩, .int .u64 0, .int .i64 1, .int .i64 3, .int .i64 6, .string ⟨#[]⟩, .string ⟨#[]⟩, .string ⟨#[]⟩, .int .i64 0, .int .i64 0, .int .i64 4, .int .i64 0, .int .i64 0, .string ⟨#[]⟩, .string ⟨#[]⟩, .int .u64 2, .int .i64 2, .int .i64 1, .int .i64 4, .string ⟨#[]⟩, .string ⟨#[]⟩, .string ⟨#[]⟩, .int .i64 0, .int .i64 0, .int .i64 20, .int .i64 21, .int .i64 0, .string ⟨#[]⟩, .string ⟨#[]⟩, .int .u64 1, .int .i64 2, .int .i64 2, .int .i64 9, .string ⟨#[]⟩, .string ⟨#[98]⟩, .string ⟨#[50]⟩, .int .i64 0, .int .i64 0, .int .i64 22, .int .i64 23, .int .i64 0, .string ⟨#[]⟩, .string ⟨#[]⟩, .int .u64 0, .int .i64 2, .int .i64 3, .int .i64 6, .string ⟨#[]⟩, .string ⟨#[]⟩, .string ⟨#[]⟩, .int .i64 0, .int .i64 0, .int .i64 24, .int .i64 30, .int .i64 0, .string ⟨#[]⟩, .string ⟨#[]⟩, .int .u64 2, .int .i64 3, .int .i64 1, .int .i64 3, .string ⟨#[]⟩, .string ⟨#[]⟩, .string ⟨#[]⟩, .int .i64 0, .int .i64 0, .int .i64 32, .int .i64 33, .int .i64 0, .string ⟨#[]⟩, .string ⟨#[]⟩, .int .u64 2, .int .i64 3, .int .i64 2, .int .i64 8, .string ⟨#[]⟩, .string ⟨#[97]⟩, .string ⟨#[]⟩, .int .i64 0, .int .i64 0, .int .i64 40, .int .i64 41, .int .i64 0, .string ⟨#[]⟩, .string ⟨#[49]⟩, .int .u64 0] 38)) (.slice (some ⟨u4.heap.size, 0, none⟩) 8 8) (kilH 1 0 [49]) := tolds_lit u4 (kilH 1 0 [49]) (by decide)
  have hx5 : Ext WG (u4.alloc (.cells #[.int .i64 1, .int .i64 1, .int .i64 4, .string ⟨#[]⟩, .string ⟨#[]⟩, .string ⟨#[]⟩, .int .i64 0, .int .i64 0, .int .i64 0, .int .i64 1, .int .i64 0, .string ⟨#[]⟩, .string ⟨#[]⟩, .int .u64 1, .int .i64 1, .int .i64 2, .int .i64 9, .string ⟨#[]⟩, .string ⟨#[97]⟩, .string ⟨#[49]⟩, .int .i64 0, .int .i64 0, .int .i64 2, .int .i64 3, .int .i64 0, .string ⟨#[]⟩, .string ⟨#[]⟩, .int .u64 0, .int .i64 1, .int .i64 3, .int .i64 6, .string ⟨#[]⟩, .string ⟨#[]⟩, .string ⟨#[]⟩, .int .i64 0, .int .i64 0, .int .i64 4, .int .i64 0, .int .i64 0, .string ⟨#[]⟩, .string ⟨#[]⟩, .int .u64 2, .int .i64 2, .int .i64 1, .int .i64 4, .string ⟨#[]⟩, .string ⟨#[]⟩, .string ⟨#[]⟩, .int .i64 0, .int .i64 0, .int .i64 20, .int .i64 21, .int .i64 0, .string ⟨#[]⟩, .string ⟨#[]⟩, .int .u64 1, .int .i64 2, .int .i64 2, .int .i64 9, .string ⟨#[]⟩, .string ⟨#[98]⟩, .string ⟨#[50]⟩, .int .i64 0, .int .i64 0, .int .i64 22, .int .i64 23, .int .i64 0, .string ⟨#[]⟩, .string ⟨#[]⟩, .int .u64 0, .int .i64 2, .int .i64 3, .int .i64 6, .string ⟨#[]⟩, .string ⟨#[]⟩, .string ⟨#[]⟩, .int .i64 0, .int .i64 0, .int .i64 24, .int .i64 30, .int .i64 0, .string ⟨#[]⟩, .string ⟨#[]⟩, .int .u64 2, .int .i64 3, .int .i64 1, .int .i64 3, .string ⟨#[]⟩, .string ⟨#[]⟩, .string ⟨#[]⟩, .int .i64 0, .int .i64 0, .int .i64 32, .int .i64 33, .int .i64 0, .string ⟨#[]⟩, .string ⟨#[]⟩, .int .u64 2, .int .i64 3, .int .i64 2, .int .i64 8, .string ⟨#[]⟩, .string ⟨#[97]⟩, .string ⟨#[]⟩, .int .i64 0, .int .i64 0, .int .i64 40, .int .i64 41, .int .i64 0, .string ⟨#[]⟩, .string ⟨#[49]⟩, .int .u64 0] 38)) := KC4.out.1.alloc _
  generalize u4.alloc (.cells #[.int .i64 1, .int .i64 1, .int .i64 4, .string ⟨#[]⟩, .string ⟨#[]⟩, .string ⟨#[]⟩, .int .i64 0, .int .i64 0, .int .i64 0, .int .i64 1, .int .i64 0, .string ⟨#[]⟩, .string ⟨#[]⟩, .int .u64 1, .int .i64 1, .int .i64 2, .int .i64 9, .string ⟨#[]⟩, .string ⟨#[97]⟩, .string ⟨#[49]⟩, .int .i64 0, .int .i64 0, .int .i64 2, .int .i64 3, .int .i64 0, .string ⟨#[]⟩, .string ⟨#[]⟩, .int .u64 0, .int .i64 1, .int .i64 3, .int .i64 6, .string ⟨#[]⟩, .string ⟨#[]⟩, .string ⟨#[]⟩, .int .i64 0, .int .i64 0, .int .i64 4, .int .i64 0, .int .i64 0, .string ⟨#[]⟩, .string ⟨#[]⟩, .int .u64 2, .int .i64 2, .int .i64 1, .int .i64 4, .string ⟨#[]⟩, .string ⟨#[]⟩, .string ⟨#[]⟩, .int .i64 0, .int .i64 0, .int .i64 20, .int .i64 21, .int .i64 0, .string ⟨#[]⟩, .string ⟨#[]⟩, .int .u64 1, .int .i64 2, .int .i64 2, .int .i64 9, .string ⟨#[]⟩, .string ⟨#[98]⟩, .string ⟨#[50]⟩, .int .i64 0, .int .i64 0, .int .i64 22, .int .i64 23, .int .i64 0, .string ⟨#[]⟩, .string ⟨#[]⟩, .int .u64 0, .int .i64 2, .int .i64 3, .int .i64 6, .string ⟨#[]⟩, .string ⟨#[]⟩, .string ⟨#[]⟩, .int .i64 0, .int .i64 0, .int .i64 24, .int .i64 30, .int .i64 0, .string ⟨#[]⟩, .string ⟨#[]⟩, .int .u64 2, .int .i64 3, .int .i64 1, .int .i64 3, .string ⟨#[]⟩, .string ⟨#[]⟩, .string ⟨#[]⟩, .int .i64 0, .int .i64 0, .int .i64 32, .int .i64 33, .int .i64 0, .string ⟨#[]⟩, .string ⟨#[]⟩, .int .u64 2, .int .i64 3, .int .i64 2, .int .i64 8, .string ⟨#[]⟩, .string ⟨#[97]⟩, .string ⟨#[]⟩, .int .i64 0, .int .i64 0, .int .i64 40, .int .i64 41, .int .i64 0, .string ⟨#[]⟩, .string ⟨#[49]⟩, .int .u64 0] 38) = W5 at hT hx5 ⊢
  have HX5 : Hid (Ext w W5) := Ext.step HXG.out hx5
  have HT := Lib.hid hT
  have HVR := Lib.hid (versions_any _ (kilH 1 0 [49]) W5 (HX5.out.cell HER.out) hT kil_res_01.2.2)
  clear hT hx5 K0 K1 KC0 KC1 KC2 KC3 KC4 HC0 HC1 HC2 HC3 HC4 HBP HBQ HBG HXG
  go_wp2_with fail
  refine HVR.out.mono ?_
  rintro e w6 ⟨vmb, σv, vrows, rfl, hv, hx6, _, _⟩
  have hvn : vrows.length = 2 := hv.2.2.length.trans kil_res_01.2.1
  have HV := Lib.hid hv.1
  have HVN := Lib.hid hvn
  have HX6 : Hid (Ext w w6) := Ext.step HX5.out hx6
  have HSR : Hid (∀ W, Ext w6 W → Calls Tryz.prog 17 #[.slice (some ⟨u4.heap.size, 0, none⟩) 8 8] W fun e w' => e = .returned (.bool false) ∧ Ext W w') := fun W e => by
    have := serial_any _ (kilH 1 0 [49]) W ((Ext.step HX6.out e).cell HER.out) (HT.out.ext (Ext.step hx6 e)) kil_res_01.2.2
    rw [kil_res_01.1] at this; exact this
  clear hv hvn hx6 HVR
  go_wp2_with fail
  refine (HSR.out _ (by first | exact Ext.rfl' w6 | exact Ext.drewN w6 1)).mono ?_
  rintro e w7 ⟨rfl, hx7⟩
  have e67 : Ext w6 w7 := by first | exact hx7 | exact Ext.step (Ext.drewN w6 1) hx7
  have hMv := HV.out.ext e67
  have hlen : ∀ ty, (Builtin.len_ #[41] ty #[.map (some vmb)]).run Tryz.prog w7 = .ok (.int .i64 2) w7 := fun ty => by
    have := hMv.len (t := 41) (e := 24) Tryz.underlying41 ty
    rw [HVN.out] at this; exact this
  have HX7 : Hid (Ext w w7) := Ext.step HX6.out e67
  clear hMv e67 hx7 HSR
  go_wp2_with fail
  go_ret
  exact ⟨rfl, HX7.out⟩

theorem kil_res_10 : serialA (kilH 2 21 []) = false ∧ (versA (kilH 2 21 [])).length = 3 ∧ HistOk (kilH 2 21 []) := ⟨kil_s true false, kil_n true false, kil_ok true false⟩
set_option maxHeartbeats 8000000 in
set_option maxRecDepth 100000 in
theorem killed_10 (w : World) (her : ErrType w) : Calls Tryz.prog 4 #[.bool true, .bool false] w fun e w' => e = .returned (.bool true) ∧ Ext w w' := by
  have HER := Lib.hid her
  have HKN := Lib.hid (known_any w her)
  clear her
  have HTP : Hid (∀ W, Calls Tryz.prog 15 #[.int .i64 1, .int .i64 2, .int .i64 9, .int .i64 2, .int .i64 3, .int .u64 0] W fun e w' => e = .returned (.agg #[.int .i64 1, .int .i64 2, .int .i64 9, .string ⟨#[]⟩, .string ⟨#[]⟩, .string ⟨#[]⟩, .int .i64 0, .int .i64 0, .int .i64 2, .int .i64 3, .int .i64 0, .string ⟨#[]⟩, .string ⟨#[]⟩, .int .u64 0]) ∧ Ext W w') := fun W => tell_any 1 2 9 2 3 0 W
  have HTQ : Hid (∀ W, Calls Tryz.prog 15 #[.int .i64 2, .int .i64 2, .int .i64 9, .int .i64 22, .int .i64 23, .int .u64 0] W fun e w' => e = .returned (.agg #[.int .i64 2, .int .i64 2, .int .i64 9, .string ⟨#[]⟩, .string ⟨#[]⟩, .string ⟨#[]⟩, .int .i64 0, .int .i64 0, .int .i64 22, .int .i64 23, .int .i64 0, .string ⟨#[]⟩, .string ⟨#[]⟩, .int .u64 0]) ∧ Ext W w') := fun W => tell_any 2 2 9 22 23 0 W
  have HTG : Hid (∀ W, Calls Tryz.prog 15 #[.int .i64 3, .int .i64 2, .int .i64 8, .int .i64 40, .int .i64 41, .int .u64 0] W fun e w' => e = .returned (.agg #[.int .i64 3, .int .i64 2, .int .i64 8, .string ⟨#[]⟩, .string ⟨#[]⟩, .string ⟨#[]⟩, .int .i64 0, .int .i64 0, .int .i64 40, .int .i64 41, .int .i64 0, .string ⟨#[]⟩, .string ⟨#[]⟩, .int .u64 0]) ∧ Ext W w') := fun W => tell_any 3 2 8 40 41 0 W
  go_enter Tryz.func4, Tryz.ntmps4
  go_wp2_with fail
  refine HKN.out.mono ?_
  rintro e w1 ⟨rfl, hx1⟩
  have HX1 := Lib.hid hx1
  clear hx1 HKN
  go_wp2_with fail
  refine (HTP.out _).mono ?_
  rintro e w2 ⟨rfl, hx2⟩
  have HX2 := Lib.hid (Ext.step HX1.out hx2)
  clear hx2 HTP HX1
  go_wp2_with fail
  have hbp := heap_new w2 (.cells #[.int .i64 1, .int .i64 2, .int .i64 9, .string ⟨#[]⟩, .string ⟨#[97]⟩, .string ⟨#[49]⟩, .int .i64 0, .int .i64 0, .int .i64 2, .int .i64 3, .int .i64 0, .string ⟨#[]⟩, .string ⟨#[]⟩, .int .u64 0] 38 (0, 0))
  have hxp := (Ext.rfl' w2).alloc (.cells #[.int .i64 1, .int .i64 2, .int .i64 9, .string ⟨#[]⟩, .string ⟨#[97]⟩, .string ⟨#[49]⟩, .int .i64 0, .int .i64 0, .int .i64 2, .int .i64 3, .int .i64 0, .string ⟨#[]⟩, .string ⟨#[]⟩, .int .u64 0] 38 (0, 0))
  generalize w2.alloc (.cells #[.int .i64 1, .int .i64 2, .int .i64 9, .string ⟨#[]⟩, .string ⟨#[97]⟩, .string ⟨#[49]⟩, .int .i64 0, .int .i64 0, .int .i64 2, .int .i64 3, .int .i64 0, .string ⟨#[]⟩, .string ⟨#[]⟩, .int .u64 0] 38) = WP at hbp hxp ⊢
  have HXP := Lib.hid (Ext.step HX2.out hxp)
  have HBP0 := Lib.hid hbp
  clear hbp hxp HX2
  refine (HTQ.out _).mono ?_
  rintro e w3 ⟨rfl, hx3⟩
  have HX3 := Lib.hid hx3
  clear hx3 HTQ
  go_wp2_with fail
  have hbq := heap_new w3 (.cells #[.int .i64 2, .int .i64 2, .int .i64 9, .string ⟨#[]⟩, .string ⟨#[98]⟩, .string ⟨#[50]⟩, .int .i64 0, .int .i64 0, .int .i64 22, .int .i64 23, .int .i64 0, .string ⟨#[]⟩, .string ⟨#[]⟩, .int .u64 0] 38 (0, 0))
  have hxq := (Ext.rfl' w3).alloc (.cells #[.int .i64 2, .int .i64 2, .int .i64 9, .string ⟨#[]⟩, .string ⟨#[98]⟩, .string ⟨#[50]⟩, .int .i64 0, .int .i64 0, .int .i64 22, .int .i64 23, .int .i64 0, .string ⟨#[]⟩, .string ⟨#[]⟩, .int .u64 0] 38 (0, 0))
  generalize w3.alloc (.cells #[.int .i64 2, .int .i64 2, .int .i64 9, .string ⟨#[]⟩, .string ⟨#[98]⟩, .string ⟨#[50]⟩, .int .i64 0, .int .i64 0, .int .i64 22, .int .i64 23, .int .i64 0, .string ⟨#[]⟩, .string ⟨#[]⟩, .int .u64 0] 38) = WQ at hbq hxq ⊢
  have HXQ := Lib.hid (Ext.step HX3.out hxq)
  have HBQ0 := Lib.hid hbq
  clear hbq hxq HX3
  refine (HTG.out _).mono ?_
  rintro e w4 ⟨rfl, hx4⟩
  have HX4 := Lib.hid hx4
  clear hx4 HTG
  go_wp2_with fail
  have hbg := heap_new w4 (.cells #[.int .i64 3, .int .i64 2, .int .i64 8, .string ⟨#[]⟩, .string ⟨#[97]⟩, .string ⟨#[]⟩, .int .i64 0, .int .i64 0, .int .i64 40, .int .i64 41, .int .i64 21, .string ⟨#[]⟩, .string ⟨#[]⟩, .int .u64 0] 38 (0, 0))
  have hxg := (Ext.rfl' w4).alloc (.cells #[.int .i64 3, .int .i64 2, .int .i64 8, .string ⟨#[]⟩, .string ⟨#[97]⟩, .string ⟨#[]⟩, .int .i64 0, .int .i64 0, .int .i64 40, .int .i64 41, .int .i64 21, .string ⟨#[]⟩, .string ⟨#[]⟩, .int .u64 0] 38 (0, 0))
  generalize w4.alloc (.cells #[.int .i64 3, .int .i64 2, .int .i64 8, .string ⟨#[]⟩, .string ⟨#[97]⟩, .string ⟨#[]⟩, .int .i64 0, .int .i64 0, .int .i64 40, .int .i64 41, .int .i64 21, .string ⟨#[]⟩, .string ⟨#[]⟩, .int .u64 0] 38) = WG at hbg hxg ⊢
  have e4 : Ext WQ WG := Ext.step HX4.out hxg
  have HBG := Lib.hid hbg
  have HBQ : Hid (WG.heap[w3.heap.size]? = some (.cells #[.int .i64 2, .int .i64 2, .int .i64 9, .string ⟨#[]⟩, .string ⟨#[98]⟩, .string ⟨#[50]⟩, .int .i64 0, .int .i64 0, .int .i64 22, .int .i64 23, .int .i64 0, .string ⟨#[]⟩, .string ⟨#[]⟩, .int .u64 0] 38 (0, 0))) := (e4.block _ (lt_heap HBQ0.out)).trans HBQ0.out
  have HBP : Hid (WG.heap[w2.heap.size]? = some (.cells #[.int .i64 1, .int .i64 2, .int .i64 9, .string ⟨#[]⟩, .string ⟨#[97]⟩, .string ⟨#[49]⟩, .int .i64 0, .int .i64 0, .int .i64 2, .int .i64 3, .int .i64 0, .string ⟨#[]⟩, .string ⟨#[]⟩, .int .u64 0] 38 (0, 0))) := ((Ext.step HXQ.out e4).block _ (lt_heap HBP0.out)).trans HBP0.out
  have HXG : Hid (Ext w WG) := Ext.step HXP.out (Ext.step HXQ.out e4)
  have K0 := Lib.hid (keep42 HBP.out HBQ.out HBG.out (Ext.rfl' WG))
  have K1 := Lib.hid (keep42 HBP.out HBQ.out HBG.out (show Ext WG WG.drew from Ext.drewN WG 1))
  clear hbg hxg e4 HX4 HBQ0 HBP0 HXP HXQ
  have HC0 : Hid (∀ W, Calls Tryz.prog 15 #[.int .i64 1, .int .i64 1, .int .i64 4, .int .i64 0, .int .i64 1, .int .u64 1] W fun e w' => e = .returned (.agg #[.int .i64 1, .int .i64 1, .int .i64 4, .string ⟨#[]⟩, .string ⟨#[]⟩, .string ⟨#[]⟩, .int .i64 0, .int .i64 0, .int .i64 0, .int .i64 1, .int .i64 0, .string ⟨#[]⟩, .string ⟨#[]⟩, .int .u64 1]) ∧ Ext W w') := fun W => tell_any 1 1 4 0 1 1 W
  have HC1 : Hid (∀ W, Calls Tryz.prog 15 #[.int .i64 1, .int .i64 3, .int .i64 6, .int .i64 4, .int .i64 0, .int .u64 2] W fun e w' => e = .returned (.agg #[.int .i64 1, .int .i64 3, .int .i64 6, .string ⟨#[]⟩, .string ⟨#[]⟩, .string ⟨#[]⟩, .int .i64 0, .int .i64 0, .int .i64 4, .int .i64 0, .int .i64 0, .string ⟨#[]⟩, .string ⟨#[]⟩, .int .u64 2]) ∧ Ext W w') := fun W => tell_any 1 3 6 4 0 2 W
  have HC2 : Hid (∀ W, Calls Tryz.prog 15 #[.int .i64 2, .int .i64 1, .int .i64 4, .int .i64 20, .int .i64 21, .int .u64 2] W fun e w' => e = .returned (.agg #[.int .i64 2, .int .i64 1, .int .i64 4, .string ⟨#[]⟩, .string ⟨#[]⟩, .string ⟨#[]⟩, .int .i64 0, .int .i64 0, .int .i64 20, .int .i64 21, .int .i64 0, .string ⟨#[]⟩, .string ⟨#[]⟩, .int .u64 2]) ∧ Ext W w') := fun W => tell_any 2 1 4 20 21 2 W
  have HC3 : Hid (∀ W, Calls Tryz.prog 15 #[.int .i64 2, .int .i64 3, .int .i64 6, .int .i64 24, .int .i64 30, .int .u64 3] W fun e w' => e = .returned (.agg #[.int .i64 2, .int .i64 3, .int .i64 6, .string ⟨#[]⟩, .string ⟨#[]⟩, .string ⟨#[]⟩, .int .i64 0, .int .i64 0, .int .i64 24, .int .i64 30, .int .i64 0, .string ⟨#[]⟩, .string ⟨#[]⟩, .int .u64 3]) ∧ Ext W w') := fun W => tell_any 2 3 6 24 30 3 W
  have HC4 : Hid (∀ W, Calls Tryz.prog 15 #[.int .i64 3, .int .i64 1, .int .i64 3, .int .i64 32, .int .i64 33, .int .u64 3] W fun e w' => e = .returned (.agg #[.int .i64 3, .int .i64 1, .int .i64 3, .string ⟨#[]⟩, .string ⟨#[]⟩, .string ⟨#[]⟩, .int .i64 0, .int .i64 0, .int .i64 32, .int .i64 33, .int .i64 0, .string ⟨#[]⟩, .string ⟨#[]⟩, .int .u64 3]) ∧ Ext W w') := fun W => tell_any 3 1 3 32 33 3 W
  have iw2 : IntKind.u64.wrap (2 : Int) = 2 := by decide
  have iw3 : IntKind.u64.wrap (3 : Int) = 3 := by decide
  go_region_held3 (fun w' => Ext WG w' ∧ w'.cell? ⟨w2.heap.size, 0, none⟩ = some (.int .i64 1) ∧ w'.cell? ⟨w2.heap.size, 1, none⟩ = some (.int .i64 2) ∧ w'.cell? ⟨w2.heap.size, 2, none⟩ = some (.int .i64 9) ∧ w'.cell? ⟨w2.heap.size, 3, none⟩ = some (.string ⟨#[]⟩) ∧ w'.cell? ⟨w2.heap.size, 4, none⟩ = some (.string ⟨#[97]⟩) ∧ w'.cell? ⟨w2.heap.size, 5, none⟩ = some (.string ⟨#[49]⟩) ∧ w'.cell? ⟨w2.heap.size, 6, none⟩ = some (.int .i64 0) ∧ w'.cell? ⟨w2.heap.size, 7, none⟩ = some (.int .i64 0) ∧ w'.cell? ⟨w2.heap.size, 8, none⟩ = some (.int .i64 2) ∧ w'.cell? ⟨w2.heap.size, 9, none⟩ = some (.int .i64 3) ∧ w'.cell? ⟨w2.heap.size, 10, none⟩ = some (.int .i64 0) ∧ w'.cell? ⟨w2.heap.size, 11, none⟩ = some (.string ⟨#[]⟩) ∧ w'.cell? ⟨w2.heap.size, 12, none⟩ = some (.string ⟨#[]⟩) ∧ w'.cell? ⟨w2.heap.size, 13, none⟩ = some (.int .u64 0) ∧ w'.cell? ⟨w3.heap.size, 0, none⟩ = some (.int .i64 2) ∧ w'.cell? ⟨w3.heap.size, 1, none⟩ = some (.int .i64 2) ∧ w'.cell? ⟨w3.heap.size, 2, none⟩ = some (.int .i64 9) ∧ w'.cell? ⟨w3.heap.size, 3, none⟩ = some (.string ⟨#[]⟩) ∧ w'.cell? ⟨w3.heap.size, 4, none⟩ = some (.string ⟨#[98]⟩) ∧ w'.cell? ⟨w3.heap.size, 5, none⟩ = some (.string ⟨#[50]⟩) ∧ w'.cell? ⟨w3.heap.size, 6, none⟩ = some (.int .i64 0) ∧ w'.cell? ⟨w3.heap.size, 7, none⟩ = some (.int .i64 0) ∧ w'.cell? ⟨w3.heap.size, 8, none⟩ = some (.int .i64 22) ∧ w'.cell? ⟨w3.heap.size, 9, none⟩ = some (.int .i64 23) ∧ w'.cell? ⟨w3.heap.size, 10, none⟩ = some (.int .i64 0) ∧ w'.cell? ⟨w3.heap.size, 11, none⟩ = some (.string ⟨#[]⟩) ∧ w'.cell? ⟨w3.heap.size, 12, none⟩ = some (.string ⟨#[]⟩) ∧ w'.cell? ⟨w3.heap.size, 13, none⟩ = some (.int .u64 0) ∧ w'.cell? ⟨w4.heap.size, 0, none⟩ = some (.int .i64 3) ∧ w'.cell? ⟨w4.heap.size, 1, none⟩ = some (.int .i64 2) ∧ w'.cell? ⟨w4.heap.size, 2, none⟩ = some (.int .i64 8) ∧ w'.cell? ⟨w4.heap.size, 3, none⟩ = some (.string ⟨#[]⟩) ∧ w'.cell? ⟨w4.heap.size, 4, none⟩ = some (.string ⟨#[97]⟩) ∧ w'.cell? ⟨w4.heap.size, 5, none⟩ = some (.string ⟨#[]⟩) ∧ w'.cell? ⟨w4.heap.size, 6, none⟩ = some (.int .i64 0) ∧ w'.cell? ⟨w4.heap.size, 7, none⟩ = some (.int .i64 0) ∧ w'.cell? ⟨w4.heap.size, 8, none⟩ = some (.int .i64 40) ∧ w'.cell? ⟨w4.heap.size, 9, none⟩ = some (.int .i64 41) ∧ w'.cell? ⟨w4.heap.size, 10, none⟩ = some (.int .i64 21) ∧ w'.cell? ⟨w4.heap.size, 11, none⟩ = some (.string ⟨#[]⟩) ∧ w'.cell? ⟨w4.heap.size, 12, none⟩ = some (.string ⟨#[]⟩) ∧ w'.cell? ⟨w4.heap.size, 13, none⟩ = some (.int .u64 0))
    (first | (with_reducible exact KC4.out) | (with_reducible exact KC3.out) | (with_reducible exact KC2.out) | (with_reducible exact KC1.out) | (with_reducible exact KC0.out) | (with_reducible exact K1.out) | (with_reducible exact K0.out) | (with_reducible exact keep42 HBP.out HBQ.out HBG.out (KC4.out.1.alloc _)))
    (first
      | (go_at_call 15; with_reducible refine (HC0.out _).mono ?_; rintro e u0 ⟨rfl, hx⟩
         have KC0 := Lib.hid (keep42 HBP.out HBQ.out HBG.out (show Ext WG u0 from by first | (with_reducible exact hx) | exact Ext.step K1.out.1 hx)); clear hx)
      | (go_at_call 15; with_reducible refine (HC1.out _).mono ?_; rintro e u1 ⟨rfl, hx⟩
         have KC1 := Lib.hid (keep42 HBP.out HBQ.out HBG.out (Ext.step KC0.out.1 hx)); clear hx)
      | (go_at_call 15; with_reducible refine (HC2.out _).mono ?_; rintro e u2 ⟨rfl, hx⟩
         have KC2 := Lib.hid (keep42 HBP.out HBQ.out HBG.out (Ext.step KC1.out.1 hx)); clear hx)
      | (go_at_call 15; with_reducible refine (HC3.out _).mono ?_; rintro e u3 ⟨rfl, hx⟩
         have KC3 := Lib.hid (keep42 HBP.out HBQ.out HBG.out (Ext.step KC2.out.1 hx)); clear hx)
      | (go_at_call 15; with_reducible refine (HC4.out _).mono ?_; rintro e u4 ⟨rfl, hx⟩
         have KC4 := Lib.hid (keep42 HBP.out HBQ.out HBG.out (Ext.step KC3.out.1 hx)); clear hx))
  have hT : Tolds (u4.alloc (.cells #[.int .i64 1, .int .i64 1, .int .i64 4, .string ⟨#[]⟩, .string ⟨#[]⟩, .string ⟨#[]⟩, .int .i64 0, .int .i64 0, .int .i64 0, .int .i64 1, .int .i64 0, .string ⟨#[]⟩, .string ⟨#[]⟩, .int .u64 1, .int .i64 1, .int .i64 2, .int .i64 9, .string ⟨#[]⟩, .string ⟨#[97]⟩, .string ⟨#[49]⟩, .int .i64 0, .int .i64 0, .int .i64 2, .int .i64 3, .int .i64 0, .string ⟨#[]⟩, .string ⟨#[]⟩, .int .u64 0, .int .i64 1, .int .i64 3, .int .i64 6, .string ⟨#[]⟩, .string ⟨#[]⟩, .string ⟨#[]⟩, .int .i64 0, .int .i64 0, .int .i64 4, .int .i64 0, .int .i64 0, .string ⟨#[]⟩, .string ⟨#[]⟩, .int .u64 2, .int .i64 2, .int .i64 1, .int .i64 4, .string ⟨#[]⟩, .string ⟨#[]⟩, .string ⟨#[]⟩, .int .i64 0, .int .i64 0, .int .i64 20, .int .i64 21, .int .i64 0, .string ⟨#[]⟩, .string ⟨#[]⟩, .int .u64 2, .int .i64 2, .int .i64 2, .int .i64 9, .string ⟨#[]⟩, .string ⟨#[98]⟩, .string ⟨#[50]⟩, .int .i64 0, .int .i64 0, .int .i64 22, .int .i64 23, .int .i64 0, .string ⟨#[]⟩, .string ⟨#[]⟩, .int .u64 0, .int .i64 2, .int .i64 3, .int .i64 6, .string ⟨#[]⟩, .string ⟨#[]⟩, .string ⟨#[]⟩, .int .i64 0, .int .i64 0, .int .i64 24, .int .i64 30, .int .i64 0, .string ⟨#[]⟩, .string ⟨#[]⟩, .int .u64 3, .int .i64 3, .int .i64 1, .int .i64 3, .string ⟨#[]⟩, .string ⟨#[]⟩, .string ⟨#[]⟩, .int .i64 0, .int .i64 0, .int .i64 32, .int .i64 33, .int .i64 0, .string ⟨#[]⟩, .string ⟨#[]⟩, .int .u64 3, .int .i64 3, .int .i64 2, .int .i64 8, .string ⟨#[]⟩, .string ⟨#[97]⟩, .string ⟨#[]⟩, .int .i64 0, .int .i64 0, .int .i64 40, .int .i64 41, .int .i64 21, .string ⟨#[]⟩, .string ⟨#[]⟩, .int .u64 0] 38)) (.slice (some ⟨u4.heap.size, 0, none⟩) 8 8) (kilH 2 21 []) := tolds_lit u4 (kilH 2 21 []) (by decide)
  have hx5 : Ext WG (u4.alloc (.cells #[.int .i64 1, .int .i64 1, .int .i64 4, .string ⟨#[]⟩, .string ⟨#[]⟩, .string ⟨#[]⟩, .int .i64 0, .int .i64 0, .int .i64 0, .int .i64 1, .int .i64 0, .string ⟨#[]⟩, .string ⟨#[]⟩, .int .u64 1, .int .i64 1, .int .i64 2, .int .i64 9, .string ⟨#[]⟩, .string ⟨#[97]⟩, .string ⟨#[49]⟩, .int .i64 0, .int .i64 0, .int .i64 2, .int .i64 3, .int .i64 0, .string ⟨#[]⟩, .string ⟨#[]⟩, .int .u64 0, .int .i64 1, .int .i64 3, .int .i64 6, .string ⟨#[]⟩, .string ⟨#[]⟩, .string ⟨#[]⟩, .int .i64 0, .int .i64 0, .int .i64 4, .int .i64 0, .int .i64 0, .string ⟨#[]⟩, .string ⟨#[]⟩, .int .u64 2, .int .i64 2, .int .i64 1, .int .i64 4, .string ⟨#[]⟩, .string ⟨#[]⟩, .string ⟨#[]⟩, .int .i64 0, .int .i64 0, .int .i64 20, .int .i64 21, .int .i64 0, .string ⟨#[]⟩, .string ⟨#[]⟩, .int .u64 2, .int .i64 2, .int .i64 2, .int .i64 9, .string ⟨#[]⟩, .string ⟨#[98]⟩, .string ⟨#[50]⟩, .int .i64 0, .int .i64 0, .int .i64 22, .int .i64 23, .int .i64 0, .string ⟨#[]⟩, .string ⟨#[]⟩, .int .u64 0, .int .i64 2, .int .i64 3, .int .i64 6, .string ⟨#[]⟩, .string ⟨#[]⟩, .string ⟨#[]⟩, .int .i64 0, .int .i64 0, .int .i64 24, .int .i64 30, .int .i64 0, .string ⟨#[]⟩, .string ⟨#[]⟩, .int .u64 3, .int .i64 3, .int .i64 1, .int .i64 3, .string ⟨#[]⟩, .string ⟨#[]⟩, .string ⟨#[]⟩, .int .i64 0, .int .i64 0, .int .i64 32, .int .i64 33, .int .i64 0, .string ⟨#[]⟩, .string ⟨#[]⟩, .int .u64 3, .int .i64 3, .int .i64 2, .int .i64 8, .string ⟨#[]⟩, .string ⟨#[97]⟩, .string ⟨#[]⟩, .int .i64 0, .int .i64 0, .int .i64 40, .int .i64 41, .int .i64 21, .string ⟨#[]⟩, .string ⟨#[]⟩, .int .u64 0] 38)) := KC4.out.1.alloc _
  generalize u4.alloc (.cells #[.int .i64 1, .int .i64 1, .int .i64 4, .string ⟨#[]⟩, .string ⟨#[]⟩, .string ⟨#[]⟩, .int .i64 0, .int .i64 0, .int .i64 0, .int .i64 1, .int .i64 0, .string ⟨#[]⟩, .string ⟨#[]⟩, .int .u64 1, .int .i64 1, .int .i64 2, .int .i64 9, .string ⟨#[]⟩, .string ⟨#[97]⟩, .string ⟨#[49]⟩, .int .i64 0, .int .i64 0, .int .i64 2, .int .i64 3, .int .i64 0, .string ⟨#[]⟩, .string ⟨#[]⟩, .int .u64 0, .int .i64 1, .int .i64 3, .int .i64 6, .string ⟨#[]⟩, .string ⟨#[]⟩, .string ⟨#[]⟩, .int .i64 0, .int .i64 0, .int .i64 4, .int .i64 0, .int .i64 0, .string ⟨#[]⟩, .string ⟨#[]⟩, .int .u64 2, .int .i64 2, .int .i64 1, .int .i64 4, .string ⟨#[]⟩, .string ⟨#[]⟩, .string ⟨#[]⟩, .int .i64 0, .int .i64 0, .int .i64 20, .int .i64 21, .int .i64 0, .string ⟨#[]⟩, .string ⟨#[]⟩, .int .u64 2, .int .i64 2, .int .i64 2, .int .i64 9, .string ⟨#[]⟩, .string ⟨#[98]⟩, .string ⟨#[50]⟩, .int .i64 0, .int .i64 0, .int .i64 22, .int .i64 23, .int .i64 0, .string ⟨#[]⟩, .string ⟨#[]⟩, .int .u64 0, .int .i64 2, .int .i64 3, .int .i64 6, .string ⟨#[]⟩, .string ⟨#[]⟩, .string ⟨#[]⟩, .int .i64 0, .int .i64 0, .int .i64 24, .int .i64 30, .int .i64 0, .string ⟨#[]⟩, .string ⟨#[]⟩, .int .u64 3, .int .i64 3, .int .i64 1, .int .i64 3, .string ⟨#[]⟩, .string ⟨#[]⟩, .string ⟨#[]⟩, .int .i64 0, .int .i64 0, .int .i64 32, .int .i64 33, .int .i64 0, .string ⟨#[]⟩, .string ⟨#[]⟩, .int .u64 3, .int .i64 3, .int .i64 2, .int .i64 8, .string ⟨#[]⟩, .string ⟨#[97]⟩, .string ⟨#[]⟩, .int .i64 0, .int .i64 0, .int .i64 40, .int .i64 41, .int .i64 21, .string ⟨#[]⟩, .string ⟨#[]⟩, .int .u64 0] 38) = W5 at hT hx5 ⊢
  have HX5 : Hid (Ext w W5) := Ext.step HXG.out hx5
  have HT := Lib.hid hT
  have HVR := Lib.hid (versions_any _ (kilH 2 21 []) W5 (HX5.out.cell HER.out) hT kil_res_10.2.2)
  clear hT hx5 K0 K1 KC0 KC1 KC2 KC3 KC4 HC0 HC1 HC2 HC3 HC4 HBP HBQ HBG HXG
  go_wp2_with fail
  refine HVR.out.mono ?_
  rintro e w6 ⟨vmb, σv, vrows, rfl, hv, hx6, _, _⟩
  have hvn : vrows.length = 3 := hv.2.2.length.trans kil_res_10.2.1
  have HV := Lib.hid hv.1
  have HVN := Lib.hid hvn
  have HX6 : Hid (Ext w w6) := Ext.step HX5.out hx6
  have HSR : Hid (∀ W, Ext w6 W → Calls Tryz.prog 17 #[.slice (some ⟨u4.heap.size, 0, none⟩) 8 8] W fun e w' => e = .returned (.bool false) ∧ Ext W w') := fun W e => by
    have := serial_any _ (kilH 2 21 []) W ((Ext.step HX6.out e).cell HER.out) (HT.out.ext (Ext.step hx6 e)) kil_res_10.2.2
    rw [kil_res_10.1] at this; exact this
  clear hv hvn hx6 HVR
  go_wp2_with fail
  refine (HSR.out _ (by first | exact Ext.rfl' w6 | exact Ext.drewN w6 1)).mono ?_
  rintro e w7 ⟨rfl, hx7⟩
  have e67 : Ext w6 w7 := by first | exact hx7 | exact Ext.step (Ext.drewN w6 1) hx7
  have hMv := HV.out.ext e67
  have hlen : ∀ ty, (Builtin.len_ #[41] ty #[.map (some vmb)]).run Tryz.prog w7 = .ok (.int .i64 3) w7 := fun ty => by
    have := hMv.len (t := 41) (e := 24) Tryz.underlying41 ty
    rw [HVN.out] at this; exact this
  have HX7 : Hid (Ext w w7) := Ext.step HX6.out e67
  clear hMv e67 hx7 HSR
  go_wp2_with fail
  go_ret
  exact ⟨rfl, HX7.out⟩

theorem kil_res_11 : serialA (kilH 2 0 [49]) = true ∧ (versA (kilH 2 0 [49])).length = 3 ∧ HistOk (kilH 2 0 [49]) := ⟨kil_s true true, kil_n true true, kil_ok true true⟩
set_option maxHeartbeats 8000000 in
set_option maxRecDepth 100000 in
theorem killed_11 (w : World) (her : ErrType w) : Calls Tryz.prog 4 #[.bool true, .bool true] w fun e w' => e = .returned (.bool true) ∧ Ext w w' := by
  have HER := Lib.hid her
  have HKN := Lib.hid (known_any w her)
  clear her
  have HTP : Hid (∀ W, Calls Tryz.prog 15 #[.int .i64 1, .int .i64 2, .int .i64 9, .int .i64 2, .int .i64 3, .int .u64 0] W fun e w' => e = .returned (.agg #[.int .i64 1, .int .i64 2, .int .i64 9, .string ⟨#[]⟩, .string ⟨#[]⟩, .string ⟨#[]⟩, .int .i64 0, .int .i64 0, .int .i64 2, .int .i64 3, .int .i64 0, .string ⟨#[]⟩, .string ⟨#[]⟩, .int .u64 0]) ∧ Ext W w') := fun W => tell_any 1 2 9 2 3 0 W
  have HTQ : Hid (∀ W, Calls Tryz.prog 15 #[.int .i64 2, .int .i64 2, .int .i64 9, .int .i64 22, .int .i64 23, .int .u64 0] W fun e w' => e = .returned (.agg #[.int .i64 2, .int .i64 2, .int .i64 9, .string ⟨#[]⟩, .string ⟨#[]⟩, .string ⟨#[]⟩, .int .i64 0, .int .i64 0, .int .i64 22, .int .i64 23, .int .i64 0, .string ⟨#[]⟩, .string ⟨#[]⟩, .int .u64 0]) ∧ Ext W w') := fun W => tell_any 2 2 9 22 23 0 W
  have HTG : Hid (∀ W, Calls Tryz.prog 15 #[.int .i64 3, .int .i64 2, .int .i64 8, .int .i64 40, .int .i64 41, .int .u64 0] W fun e w' => e = .returned (.agg #[.int .i64 3, .int .i64 2, .int .i64 8, .string ⟨#[]⟩, .string ⟨#[]⟩, .string ⟨#[]⟩, .int .i64 0, .int .i64 0, .int .i64 40, .int .i64 41, .int .i64 0, .string ⟨#[]⟩, .string ⟨#[]⟩, .int .u64 0]) ∧ Ext W w') := fun W => tell_any 3 2 8 40 41 0 W
  go_enter Tryz.func4, Tryz.ntmps4
  go_wp2_with fail
  refine HKN.out.mono ?_
  rintro e w1 ⟨rfl, hx1⟩
  have HX1 := Lib.hid hx1
  clear hx1 HKN
  go_wp2_with fail
  refine (HTP.out _).mono ?_
  rintro e w2 ⟨rfl, hx2⟩
  have HX2 := Lib.hid (Ext.step HX1.out hx2)
  clear hx2 HTP HX1
  go_wp2_with fail
  have hbp := heap_new w2 (.cells #[.int .i64 1, .int .i64 2, .int .i64 9, .string ⟨#[]⟩, .string ⟨#[97]⟩, .string ⟨#[49]⟩, .int .i64 0, .int .i64 0, .int .i64 2, .int .i64 3, .int .i64 0, .string ⟨#[]⟩, .string ⟨#[]⟩, .int .u64 0] 38 (0, 0))
  have hxp := (Ext.rfl' w2).alloc (.cells #[.int .i64 1, .int .i64 2, .int .i64 9, .string ⟨#[]⟩, .string ⟨#[97]⟩, .string ⟨#[49]⟩, .int .i64 0, .int .i64 0, .int .i64 2, .int .i64 3, .int .i64 0, .string ⟨#[]⟩, .string ⟨#[]⟩, .int .u64 0] 38 (0, 0))
  generalize w2.alloc (.cells #[.int .i64 1, .int .i64 2, .int .i64 9, .string ⟨#[]⟩, .string ⟨#[97]⟩, .string ⟨#[49]⟩, .int .i64 0, .int .i64 0, .int .i64 2, .int .i64 3, .int .i64 0, .string ⟨#[]⟩, .string ⟨#[]⟩, .int .u64 0] 38) = WP at hbp hxp ⊢
  have HXP := Lib.hid (Ext.step HX2.out hxp)
  have HBP0 := Lib.hid hbp
  clear hbp hxp HX2
  refine (HTQ.out _).mono ?_
  rintro e w3 ⟨rfl, hx3⟩
  have HX3 := Lib.hid hx3
  clear hx3 HTQ
  go_wp2_with fail
  have hbq := heap_new w3 (.cells #[.int .i64 2, .int .i64 2, .int .i64 9, .string ⟨#[]⟩, .string ⟨#[98]⟩, .string ⟨#[50]⟩, .int .i64 0, .int .i64 0, .int .i64 22, .int .i64 23, .int .i64 0, .string ⟨#[]⟩, .string ⟨#[]⟩, .int .u64 0] 38 (0, 0))
  have hxq := (Ext.rfl' w3).alloc (.cells #[.int .i64 2, .int .i64 2, .int .i64 9, .string ⟨#[]⟩, .string ⟨#[98]⟩, .string ⟨#[50]⟩, .int .i64 0, .int .i64 0, .int .i64 22, .int .i64 23, .int .i64 0, .string ⟨#[]⟩, .string ⟨#[]⟩, .int .u64 0] 38 (0, 0))
  generalize w3.alloc (.cells #[.int .i64 2, .int .i64 2, .int .i64 9, .string ⟨#[]⟩, .string ⟨#[98]⟩, .string ⟨#[50]⟩, .int .i64 0, .int .i64 0, .int .i64 22, .int .i64 23, .int .i64 0, .string ⟨#[]⟩, .string ⟨#[]⟩, .int .u64 0] 38) = WQ at hbq hxq ⊢
  have HXQ := Lib.hid (Ext.step HX3.out hxq)
  have HBQ0 := Lib.hid hbq
  clear hbq hxq HX3
  refine (HTG.out _).mono ?_
  rintro e w4 ⟨rfl, hx4⟩
  have HX4 := Lib.hid hx4
  clear hx4 HTG
  go_wp2_with fail
  have hbg := heap_new w4 (.cells #[.int .i64 3, .int .i64 2, .int .i64 8, .string ⟨#[]⟩, .string ⟨#[97]⟩, .string ⟨#[]⟩, .int .i64 0, .int .i64 0, .int .i64 40, .int .i64 41, .int .i64 0, .string ⟨#[]⟩, .string ⟨#[49]⟩, .int .u64 0] 38 (0, 0))
  have hxg := (Ext.rfl' w4).alloc (.cells #[.int .i64 3, .int .i64 2, .int .i64 8, .string ⟨#[]⟩, .string ⟨#[97]⟩, .string ⟨#[]⟩, .int .i64 0, .int .i64 0, .int .i64 40, .int .i64 41, .int .i64 0, .string ⟨#[]⟩, .string ⟨#[49]⟩, .int .u64 0] 38 (0, 0))
  generalize w4.alloc (.cells #[.int .i64 3, .int .i64 2, .int .i64 8, .string ⟨#[]⟩, .string ⟨#[97]⟩, .string ⟨#[]⟩, .int .i64 0, .int .i64 0, .int .i64 40, .int .i64 41, .int .i64 0, .string ⟨#[]⟩, .string ⟨#[49]⟩, .int .u64 0] 38) = WG at hbg hxg ⊢
  have e4 : Ext WQ WG := Ext.step HX4.out hxg
  have HBG := Lib.hid hbg
  have HBQ : Hid (WG.heap[w3.heap.size]? = some (.cells #[.int .i64 2, .int .i64 2, .int .i64 9, .string ⟨#[]⟩, .string ⟨#[98]⟩, .string ⟨#[50]⟩, .int .i64 0, .int .i64 0, .int .i64 22, .int .i64 23, .int .i64 0, .string ⟨#[]⟩, .string ⟨#[]⟩, .int .u64 0] 38 (0, 0))) := (e4.block _ (lt_heap HBQ0.out)).trans HBQ0.out
  have HBP : Hid (WG.heap[w2.heap.size]? = some (.cells #[.int .i64 1, .int .i64 2, .int .i64 9, .string ⟨#[]⟩, .string ⟨#[97]⟩, .string ⟨#[49]⟩, .int .i64 0, .int .i64 0, .int .i64 2, .int .i64 3, .int .i64 0, .string ⟨#[]⟩, .string ⟨#[]⟩, .int .u64 0] 38 (0, 0))) := ((Ext.step HXQ.out e4).block _ (lt_heap HBP0.out)).trans HBP0.out
  have HXG : Hid (Ext w WG) := Ext.step HXP.out (Ext.step HXQ.out e4)
  have K0 := Lib.hid (keep42 HBP.out HBQ.out HBG.out (Ext.rfl' WG))
  have K1 := Lib.hid (keep42 HBP.out HBQ.out HBG.out (show Ext WG WG.drew from Ext.drewN WG 1))
  clear hbg hxg e4 HX4 HBQ0 HBP0 HXP HXQ
  have HC0 : Hid (∀ W, Calls Tryz.prog 15 #[.int .i64 1, .int .i64 1, .int .i64 4, .int .i64 0, .int .i64 1, .int .u64 1] W fun e w' => e = .returned (.agg #[.int .i64 1, .int .i64 1, .int .i64 4, .string ⟨#[]⟩, .string ⟨#[]⟩, .string ⟨#[]⟩, .int .i64 0, .int .i64 0, .int .i64 0, .int .i64 1, .int .i64 0, .string ⟨#[]⟩, .string ⟨#[]⟩, .int .u64 1]) ∧ Ext W w') := fun W => tell_any 1 1 4 0 1 1 W
  have HC1 : Hid (∀ W, Calls Tryz.prog 15 #[.int .i64 1, .int .i64 3, .int .i64 6, .int .i64 4, .int .i64 0, .int .u64 2] W fun e w' => e = .returned (.agg #[.int .i64 1, .int .i64 3, .int .i64 6, .string ⟨#[]⟩, .string ⟨#[]⟩, .string ⟨#[]⟩, .int .i64 0, .int .i64 0, .int .i64 4, .int .i64 0, .int .i64 0, .string ⟨#[]⟩, .string ⟨#[]⟩, .int .u64 2]) ∧ Ext W w') := fun W => tell_any 1 3 6 4 0 2 W
  have HC2 : Hid (∀ W, Calls Tryz.prog 15 #[.int .i64 2, .int .i64 1, .int .i64 4, .int .i64 20, .int .i64 21, .int .u64 2] W fun e w' => e = .returned (.agg #[.int .i64 2, .int .i64 1, .int .i64 4, .string ⟨#[]⟩, .string ⟨#[]⟩, .string ⟨#[]⟩, .int .i64 0, .int .i64 0, .int .i64 20, .int .i64 21, .int .i64 0, .string ⟨#[]⟩, .string ⟨#[]⟩, .int .u64 2]) ∧ Ext W w') := fun W => tell_any 2 1 4 20 21 2 W
  have HC3 : Hid (∀ W, Calls Tryz.prog 15 #[.int .i64 2, .int .i64 3, .int .i64 6, .int .i64 24, .int .i64 30, .int .u64 3] W fun e w' => e = .returned (.agg #[.int .i64 2, .int .i64 3, .int .i64 6, .string ⟨#[]⟩, .string ⟨#[]⟩, .string ⟨#[]⟩, .int .i64 0, .int .i64 0, .int .i64 24, .int .i64 30, .int .i64 0, .string ⟨#[]⟩, .string ⟨#[]⟩, .int .u64 3]) ∧ Ext W w') := fun W => tell_any 2 3 6 24 30 3 W
  have HC4 : Hid (∀ W, Calls Tryz.prog 15 #[.int .i64 3, .int .i64 1, .int .i64 3, .int .i64 32, .int .i64 33, .int .u64 3] W fun e w' => e = .returned (.agg #[.int .i64 3, .int .i64 1, .int .i64 3, .string ⟨#[]⟩, .string ⟨#[]⟩, .string ⟨#[]⟩, .int .i64 0, .int .i64 0, .int .i64 32, .int .i64 33, .int .i64 0, .string ⟨#[]⟩, .string ⟨#[]⟩, .int .u64 3]) ∧ Ext W w') := fun W => tell_any 3 1 3 32 33 3 W
  have iw2 : IntKind.u64.wrap (2 : Int) = 2 := by decide
  have iw3 : IntKind.u64.wrap (3 : Int) = 3 := by decide
  go_region_held3 (fun w' => Ext WG w' ∧ w'.cell? ⟨w2.heap.size, 0, none⟩ = some (.int .i64 1) ∧ w'.cell? ⟨w2.heap.size, 1, none⟩ = some (.int .i64 2) ∧ w'.cell? ⟨w2.heap.size, 2, none⟩ = some (.int .i64 9) ∧ w'.cell? ⟨w2.heap.size, 3, none⟩ = some (.string ⟨#[]⟩) ∧ w'.cell? ⟨w2.heap.size, 4, none⟩ = some (.string ⟨#[97]⟩) ∧ w'.cell? ⟨w2.heap.size, 5, none⟩ = some (.string ⟨#[49]⟩) ∧ w'.cell? ⟨w2.heap.size, 6, none⟩ = some (.int .i64 0) ∧ w'.cell? ⟨w2.heap.size, 7, none⟩ = some (.int .i64 0) ∧ w'.cell? ⟨w2.heap.size, 8, none⟩ = some (.int .i64 2) ∧ w'.cell? ⟨w2.heap.size, 9, none⟩ = some (.int .i64 3) ∧ w'.cell? ⟨w2.heap.size, 10, none⟩ = some (.int .i64 0) ∧ w'.cell? ⟨w2.heap.size, 11, none⟩ = some (.string ⟨#[]⟩) ∧ w'.cell? ⟨w2.heap.size, 12, none⟩ = some (.string ⟨#[]⟩) ∧ w'.cell? ⟨w2.heap.size, 13, none⟩ = some (.int .u64 0) ∧ w'.cell? ⟨w3.heap.size, 0, none⟩ = some (.int .i64 2) ∧ w'.cell? ⟨w3.heap.size, 1, none⟩ = some (.int .i64 2) ∧ w'.cell? ⟨w3.heap.size, 2, none⟩ = some (.int .i64 9) ∧ w'.cell? ⟨w3.heap.size, 3, none⟩ = some (.string ⟨#[]⟩) ∧ w'.cell? ⟨w3.heap.size, 4, none⟩ = some (.string ⟨#[98]⟩) ∧ w'.cell? ⟨w3.heap.size, 5, none⟩ = some (.string ⟨#[50]⟩) ∧ w'.cell? ⟨w3.heap.size, 6, none⟩ = some (.int .i64 0) ∧ w'.cell? ⟨w3.heap.size, 7, none⟩ = some (.int .i64 0) ∧ w'.cell? ⟨w3.heap.size, 8, none⟩ = some (.int .i64 22) ∧ w'.cell? ⟨w3.heap.size, 9, none⟩ = some (.int .i64 23) ∧ w'.cell? ⟨w3.heap.size, 10, none⟩ = some (.int .i64 0) ∧ w'.cell? ⟨w3.heap.size, 11, none⟩ = some (.string ⟨#[]⟩) ∧ w'.cell? ⟨w3.heap.size, 12, none⟩ = some (.string ⟨#[]⟩) ∧ w'.cell? ⟨w3.heap.size, 13, none⟩ = some (.int .u64 0) ∧ w'.cell? ⟨w4.heap.size, 0, none⟩ = some (.int .i64 3) ∧ w'.cell? ⟨w4.heap.size, 1, none⟩ = some (.int .i64 2) ∧ w'.cell? ⟨w4.heap.size, 2, none⟩ = some (.int .i64 8) ∧ w'.cell? ⟨w4.heap.size, 3, none⟩ = some (.string ⟨#[]⟩) ∧ w'.cell? ⟨w4.heap.size, 4, none⟩ = some (.string ⟨#[97]⟩) ∧ w'.cell? ⟨w4.heap.size, 5, none⟩ = some (.string ⟨#[]⟩) ∧ w'.cell? ⟨w4.heap.size, 6, none⟩ = some (.int .i64 0) ∧ w'.cell? ⟨w4.heap.size, 7, none⟩ = some (.int .i64 0) ∧ w'.cell? ⟨w4.heap.size, 8, none⟩ = some (.int .i64 40) ∧ w'.cell? ⟨w4.heap.size, 9, none⟩ = some (.int .i64 41) ∧ w'.cell? ⟨w4.heap.size, 10, none⟩ = some (.int .i64 0) ∧ w'.cell? ⟨w4.heap.size, 11, none⟩ = some (.string ⟨#[]⟩) ∧ w'.cell? ⟨w4.heap.size, 12, none⟩ = some (.string ⟨#[49]⟩) ∧ w'.cell? ⟨w4.heap.size, 13, none⟩ = some (.int .u64 0))
    (first | (with_reducible exact KC4.out) | (with_reducible exact KC3.out) | (with_reducible exact KC2.out) | (with_reducible exact KC1.out) | (with_reducible exact KC0.out) | (with_reducible exact K1.out) | (with_reducible exact K0.out) | (with_reducible exact keep42 HBP.out HBQ.out HBG.out (KC4.out.1.alloc _)))
    (first
      | (go_at_call 15; with_reducible refine (HC0.out _).mono ?_; rintro e u0 ⟨rfl, hx⟩
         have KC0 := Lib.hid (keep42 HBP.out HBQ.out HBG.out (show Ext WG u0 from by first | (with_reducible exact hx) | exact Ext.step K1.out.1 hx)); clear hx)
      | (go_at_call 15; with_reducible refine (HC1.out _).mono ?_; rintro e u1 ⟨rfl, hx⟩
         have KC1 := Lib.hid (keep42 HBP.out HBQ.out HBG.out (Ext.step KC0.out.1 hx)); clear hx)
      | (go_at_call 15; with_reducible refine (HC2.out _).mono ?_; rintro e u2 ⟨rfl, hx⟩
         have KC2 := Lib.hid (keep42 HBP.out HBQ.out HBG.out (Ext.step KC1.out.1 hx)); clear hx)
      | (go_at_call 15; with_reducible refine (HC3.out _).mono ?_; rintro e u3 ⟨rfl, hx⟩
         have KC3 := Lib.hid (keep42 HBP.out HBQ.out HBG.out (Ext.step KC2.out.1 hx)); clear hx)
      | (go_at_call 15; with_reducible refine (HC4.out _).mono ?_; rintro e u4 ⟨rfl, hx⟩
         have KC4 := Lib.hid (keep42 HBP.out HBQ.out HBG.out (Ext.step KC3.out.1 hx)); clear hx))
  have hT : Tolds (u4.alloc (.cells #[.int .i64 1, .int .i64 1, .int .i64 4, .string ⟨#[]⟩, .string ⟨#[]⟩, .string ⟨#[]⟩, .int .i64 0, .int .i64 0, .int .i64 0, .int .i64 1, .int .i64 0, .string ⟨#[]⟩, .string ⟨#[]⟩, .int .u64 1, .int .i64 1, .int .i64 2, .int .i64 9, .string ⟨#[]⟩, .string ⟨#[97]⟩, .string ⟨#[49]⟩, .int .i64 0, .int .i64 0, .int .i64 2, .int .i64 3, .int .i64 0, .string ⟨#[]⟩, .string ⟨#[]⟩, .int .u64 0, .int .i64 1, .int .i64 3, .int .i64 6, .string ⟨#[]⟩, .string ⟨#[]⟩, .string ⟨#[]⟩, .int .i64 0, .int .i64 0, .int .i64 4, .int .i64 0, .int .i64 0, .string ⟨#[]⟩, .string ⟨#[]⟩, .int .u64 2, .int .i64 2, .int .i64 1, .int .i64 4, .string ⟨#[]⟩, .string ⟨#[]⟩, .string ⟨#[]⟩, .int .i64 0, .int .i64 0, .int .i64 20, .int .i64 21, .int .i64 0, .string ⟨#[]⟩, .string ⟨#[]⟩, .int .u64 2, .int .i64 2, .int .i64 2, .int .i64 9, .string ⟨#[]⟩, .string ⟨#[98]⟩, .string ⟨#[50]⟩, .int .i64 0, .int .i64 0, .int .i64 22, .int .i64 23, .int .i64 0, .string ⟨#[]⟩, .string ⟨#[]⟩, .int .u64 0, .int .i64 2, .int .i64 3, .int .i64 6, .string ⟨#[]⟩, .string ⟨#[]⟩, .string ⟨#[]⟩, .int .i64 0, .int .i64 0, .int .i64 24, .int .i64 30, .int .i64 0, .string ⟨#[]⟩, .string ⟨#[]⟩, .int .u64 3, .int .i64 3, .int .i64 1, .int .i64 3, .string ⟨#[]⟩, .string ⟨#[]⟩, .string ⟨#[]⟩, .int .i64 0, .int .i64 0, .int .i64 32, .int .i64 33, .int .i64 0, .string ⟨#[]⟩, .string ⟨#[]⟩, .int .u64 3, .int .i64 3, .int .i64 2, .int .i64 8, .string ⟨#[]⟩, .string ⟨#[97]⟩, .string ⟨#[]⟩, .int .i64 0, .int .i64 0, .int .i64 40, .int .i64 41, .int .i64 0, .string ⟨#[]⟩, .string ⟨#[49]⟩, .int .u64 0] 38)) (.slice (some ⟨u4.heap.size, 0, none⟩) 8 8) (kilH 2 0 [49]) := tolds_lit u4 (kilH 2 0 [49]) (by decide)
  have hx5 : Ext WG (u4.alloc (.cells #[.int .i64 1, .int .i64 1, .int .i64 4, .string ⟨#[]⟩, .string ⟨#[]⟩, .string ⟨#[]⟩, .int .i64 0, .int .i64 0, .int .i64 0, .int .i64 1, .int .i64 0, .string ⟨#[]⟩, .string ⟨#[]⟩, .int .u64 1, .int .i64 1, .int .i64 2, .int .i64 9, .string ⟨#[]⟩, .string ⟨#[97]⟩, .string ⟨#[49]⟩, .int .i64 0, .int .i64 0, .int .i64 2, .int .i64 3, .int .i64 0, .string ⟨#[]⟩, .string ⟨#[]⟩, .int .u64 0, .int .i64 1, .int .i64 3, .int .i64 6, .string ⟨#[]⟩, .string ⟨#[]⟩, .string ⟨#[]⟩, .int .i64 0, .int .i64 0, .int .i64 4, .int .i64 0, .int .i64 0, .string ⟨#[]⟩, .string ⟨#[]⟩, .int .u64 2, .int .i64 2, .int .i64 1, .int .i64 4, .string ⟨#[]⟩, .string ⟨#[]⟩, .string ⟨#[]⟩, .int .i64 0, .int .i64 0, .int .i64 20, .int .i64 21, .int .i64 0, .string ⟨#[]⟩, .string ⟨#[]⟩, .int .u64 2, .int .i64 2, .int .i64 2, .int .i64 9, .string ⟨#[]⟩, .string ⟨#[98]⟩, .string ⟨#[50]⟩, .int .i64 0, .int .i64 0, .int .i64 22, .int .i64 23, .int .i64 0, .string ⟨#[]⟩, .string ⟨#[]⟩, .int .u64 0, .int .i64 2, .int .i64 3, .int .i64 6, .string ⟨#[]⟩, .string ⟨#[]⟩, .string ⟨#[]⟩, .int .i64 0, .int .i64 0, .int .i64 24, .int .i64 30, .int .i64 0, .string ⟨#[]⟩, .string ⟨#[]⟩, .int .u64 3, .int .i64 3, .int .i64 1, .int .i64 3, .string ⟨#[]⟩, .string ⟨#[]⟩, .string ⟨#[]⟩, .int .i64 0, .int .i64 0, .int .i64 32, .int .i64 33, .int .i64 0, .string ⟨#[]⟩, .string ⟨#[]⟩, .int .u64 3, .int .i64 3, .int .i64 2, .int .i64 8, .string ⟨#[]⟩, .string ⟨#[97]⟩, .string ⟨#[]⟩, .int .i64 0, .int .i64 0, .int .i64 40, .int .i64 41, .int .i64 0, .string ⟨#[]⟩, .string ⟨#[49]⟩, .int .u64 0] 38)) := KC4.out.1.alloc _
  generalize u4.alloc (.cells #[.int .i64 1, .int .i64 1, .int .i64 4, .string ⟨#[]⟩, .string ⟨#[]⟩, .string ⟨#[]⟩, .int .i64 0, .int .i64 0, .int .i64 0, .int .i64 1, .int .i64 0, .string ⟨#[]⟩, .string ⟨#[]⟩, .int .u64 1, .int .i64 1, .int .i64 2, .int .i64 9, .string ⟨#[]⟩, .string ⟨#[97]⟩, .string ⟨#[49]⟩, .int .i64 0, .int .i64 0, .int .i64 2, .int .i64 3, .int .i64 0, .string ⟨#[]⟩, .string ⟨#[]⟩, .int .u64 0, .int .i64 1, .int .i64 3, .int .i64 6, .string ⟨#[]⟩, .string ⟨#[]⟩, .string ⟨#[]⟩, .int .i64 0, .int .i64 0, .int .i64 4, .int .i64 0, .int .i64 0, .string ⟨#[]⟩, .string ⟨#[]⟩, .int .u64 2, .int .i64 2, .int .i64 1, .int .i64 4, .string ⟨#[]⟩, .string ⟨#[]⟩, .string ⟨#[]⟩, .int .i64 0, .int .i64 0, .int .i64 20, .int .i64 21, .int .i64 0, .string ⟨#[]⟩, .string ⟨#[]⟩, .int .u64 2, .int .i64 2, .int .i64 2, .int .i64 9, .string ⟨#[]⟩, .string ⟨#[98]⟩, .string ⟨#[50]⟩, .int .i64 0, .int .i64 0, .int .i64 22, .int .i64 23, .int .i64 0, .string ⟨#[]⟩, .string ⟨#[]⟩, .int .u64 0, .int .i64 2, .int .i64 3, .int .i64 6, .string ⟨#[]⟩, .string ⟨#[]⟩, .string ⟨#[]⟩, .int .i64 0, .int .i64 0, .int .i64 24, .int .i64 30, .int .i64 0, .string ⟨#[]⟩, .string ⟨#[]⟩, .int .u64 3, .int .i64 3, .int .i64 1, .int .i64 3, .string ⟨#[]⟩, .string ⟨#[]⟩, .string ⟨#[]⟩, .int .i64 0, .int .i64 0, .int .i64 32, .int .i64 33, .int .i64 0, .string ⟨#[]⟩, .string ⟨#[]⟩, .int .u64 3, .int .i64 3, .int .i64 2, .int .i64 8, .string ⟨#[]⟩, .string ⟨#[97]⟩, .string ⟨#[]⟩, .int .i64 0, .int .i64 0, .int .i64 40, .int .i64 41, .int .i64 0, .string ⟨#[]⟩, .string ⟨#[49]⟩, .int .u64 0] 38) = W5 at hT hx5 ⊢
  have HX5 : Hid (Ext w W5) := Ext.step HXG.out hx5
  have HT := Lib.hid hT
  have HVR := Lib.hid (versions_any _ (kilH 2 0 [49]) W5 (HX5.out.cell HER.out) hT kil_res_11.2.2)
  clear hT hx5 K0 K1 KC0 KC1 KC2 KC3 KC4 HC0 HC1 HC2 HC3 HC4 HBP HBQ HBG HXG
  go_wp2_with fail
  refine HVR.out.mono ?_
  rintro e w6 ⟨vmb, σv, vrows, rfl, hv, hx6, _, _⟩
  have hvn : vrows.length = 3 := hv.2.2.length.trans kil_res_11.2.1
  have HV := Lib.hid hv.1
  have HVN := Lib.hid hvn
  have HX6 : Hid (Ext w w6) := Ext.step HX5.out hx6
  have HSR : Hid (∀ W, Ext w6 W → Calls Tryz.prog 17 #[.slice (some ⟨u4.heap.size, 0, none⟩) 8 8] W fun e w' => e = .returned (.bool true) ∧ Ext W w') := fun W e => by
    have := serial_any _ (kilH 2 0 [49]) W ((Ext.step HX6.out e).cell HER.out) (HT.out.ext (Ext.step hx6 e)) kil_res_11.2.2
    rw [kil_res_11.1] at this; exact this
  clear hv hvn hx6 HVR
  go_wp2_with fail
  refine (HSR.out _ (by first | exact Ext.rfl' w6 | exact Ext.drewN w6 1)).mono ?_
  rintro e w7 ⟨rfl, hx7⟩
  have e67 : Ext w6 w7 := by first | exact hx7 | exact Ext.step (Ext.drewN w6 1) hx7
  have hMv := HV.out.ext e67
  have hlen : ∀ ty, (Builtin.len_ #[41] ty #[.map (some vmb)]).run Tryz.prog w7 = .ok (.int .i64 3) w7 := fun ty => by
    have := hMv.len (t := 41) (e := 24) Tryz.underlying41 ty
    rw [HVN.out] at this; exact this
  have HX7 : Hid (Ext w w7) := Ext.step HX6.out e67
  clear hMv e67 hx7 HSR
  go_wp2_with fail
  go_ret
  exact ⟨rfl, HX7.out⟩

theorem killed_any (c v : Bool) (w : World) (her : ErrType w) : Calls Tryz.prog 4 #[.bool c, .bool v] w fun e w' => e = .returned (.bool true) ∧ Ext w w' := by
  cases c <;> cases v
  · exact killed_00 w her
  · exact killed_01 w her
  · exact killed_10 w her
  · exact killed_11 w her
end Go.Proofs.YtmkhjmldncegcaaGreatDoor
