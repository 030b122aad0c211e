/-
  An evaluator of the model's code on packed numbers: what the kernel can reckon fast.
-/
import GoSem.Step
import GoSem.ClaimKeys
set_option linter.unusedVariables false
set_option linter.unusedSimpArgs false
set_option maxRecDepth 10000
noncomputable section
namespace Go.Ev
/-- A map's entries, the last one first: key, value, birth. -/
inductive ML where | nil | cons (k v b : Nat) (l : ML)
/-- What is behind a number in the heap: a row of n cells (its elements' type; op: its capacity isn't known), a text, a struct's value, a tuple, a closure, a map (count, clock), a channel (capacity, count); nothing. -/
inductive Obj where
  | row (n N e : Nat) (op : Bool)
  | str (n N : Nat)
  | agg (n N : Nat)
  | tup (n N : Nat)
  | clo (f n1 N1 n2 N2 : Nat)
  | map (c q : Nat) (l : ML)
  | chan (c n N : Nat)
  | dead
structure N8 (α : Type) where
  mk ::
  c0 : α
  c1 : α
  c2 : α
  c3 : α
  c4 : α
  c5 : α
  c6 : α
  c7 : α
inductive S8 where | s0 | s1 | s2 | s3 | s4 | s5 | s6 | s7
abbrev T1 := N8 Obj
abbrev T2 := N8 T1
abbrev T3 := N8 T2
abbrev T4 := N8 T3
abbrev T5 := N8 T4
abbrev T6 := N8 T5
abbrev HT := T6
def e0 : Obj := .dead
def e1 : T1 := .mk e0 e0 e0 e0 e0 e0 e0 e0
def e2 : T2 := .mk e1 e1 e1 e1 e1 e1 e1 e1
def e3 : T3 := .mk e2 e2 e2 e2 e2 e2 e2 e2
def e4 : T4 := .mk e3 e3 e3 e3 e3 e3 e3 e3
def e5 : T5 := .mk e4 e4 e4 e4 e4 e4 e4 e4
def e6 : T6 := .mk e5 e5 e5 e5 e5 e5 e5 e5
def HT.e : HT := e6
/-- A frame: place t is digit t + 1. -/
abbrev FR := Nat
/-- What is told of a type: is a value of it more than one cell by nature; cells, kind, element; how many elements; its zero value (cells from digit 1 on; is it plain?); its fields: place, type; a map's key's kind. -/
structure Ty where
  agg : Bool
  sz : Nat
  kind : Nat
  elem : Nat
  arr : Option Nat
  zok : Bool
  zn : Nat
  zN : Nat
  fs : List (Nat × Nat)
  key : Nat
/-- The program, and tables made out of it: types; functions that are taken by a law of their own; regions that draw (by function and number: their reads that may stand between acts). -/
structure Env where
  P : Program
  ty : Nat → Ty
  orc : Nat → Nat
  dr : Nat → Nat → Option (List (Nat × Nat × Nat))
/-- What a piece of code ends with. -/
inductive Out where
  | norm (f : FR) (H : HT) (x : Nat)
  | ret (f : FR) (H : HT) (x : Nat)
  | exit (i : Nat) (f : FR) (H : HT) (x : Nat)
  | bad (n : Nat)
abbrev K0 := Nat → HT → Nat → Out
def br : Out → Out → Bool → Out := @Bool.rec (fun _ => Out)
def sel : Nat → Nat → Bool → Nat := @Bool.rec (fun _ => Nat)
def and' : Bool → Bool → Bool := fun a b => @Bool.rec (fun _ => Bool) false b a
def or' : Bool → Bool → Bool := fun a b => @Bool.rec (fun _ => Bool) b true a
def not' : Bool → Bool := @Bool.rec (fun _ => Bool) true false
/-- x reckoned, then k -/
def frc (k : Nat → Out) (x : Nat) : Out := @Nat.rec (fun _ => Out) (.bad 1) (fun m _ => k m) (Nat.add x 1)
/-- digit i of N, to the base 2^128 -/
def dig (N i : Nat) : Nat := Nat.mod (Nat.shiftRight N (Nat.shiftLeft i 7)) 340282366920938463463374607431768211456
/-- n digits of N from i on -/
def digs (N i n : Nat) : Nat := Nat.mod (Nat.shiftRight N (Nat.shiftLeft i 7)) (Nat.shiftLeft 1 (Nat.shiftLeft n 7))
/-- N with digit i put to c; digit 0 is there to make numbers unlike -/
def put (N i c : Nat) : Nat := Nat.xor N (Nat.xor (Nat.mul (Nat.mod c 18446744073709551616) 2654435769) (Nat.shiftLeft (Nat.xor (dig N i) c) (Nat.shiftLeft i 7)))
/-- N with n digits from i on put to M -/
def puts (N i n M : Nat) : Nat := Nat.xor N (Nat.xor (Nat.mul (Nat.mod M 18446744073709551616) 2654435769) (Nat.shiftLeft (Nat.xor (digs N i n) M) (Nat.shiftLeft i 7)))
def hi (c : Nat) : Nat := Nat.shiftRight c 96
def lo (c : Nat) : Nat := Nat.mod c 18446744073709551616
def tg (t : Nat) : Nat := Nat.shiftLeft t 96
def boolC : Bool → Nat := @Bool.rec (fun _ => Nat) 237684487542793012780631851008 237684487542793012780631851009
def intC (n : Nat) : Nat := Nat.add n 554597137599850363154807652352
def s8 : Nat → S8 := @Nat.rec (fun _ => S8) .s0 (fun d _ => @Nat.rec (fun _ => S8) .s1 (fun d _ => @Nat.rec (fun _ => S8) .s2 (fun d _ => @Nat.rec (fun _ => S8) .s3 (fun d _ => @Nat.rec (fun _ => S8) .s4 (fun d _ => @Nat.rec (fun _ => S8) .s5 (fun d _ => @Nat.rec (fun _ => S8) .s6 (fun _ _ => .s7) d) d) d) d) d) d)
def get0 (x : Obj) (_ : Nat) : Obj := x
def g1_0 : T1 → Nat → Obj := fun t i => get0 t.1 i
def g1_1 : T1 → Nat → Obj := fun t i => get0 t.2 i
def g1_2 : T1 → Nat → Obj := fun t i => get0 t.3 i
def g1_3 : T1 → Nat → Obj := fun t i => get0 t.4 i
def g1_4 : T1 → Nat → Obj := fun t i => get0 t.5 i
def g1_5 : T1 → Nat → Obj := fun t i => get0 t.6 i
def g1_6 : T1 → Nat → Obj := fun t i => get0 t.7 i
def g1_7 : T1 → Nat → Obj := fun t i => get0 t.8 i
def get1 : T1 → Nat → Obj := fun t i => @S8.rec (fun _ => T1 → Nat → Obj) g1_0 g1_1 g1_2 g1_3 g1_4 g1_5 g1_6 g1_7 (s8 (Nat.land i 7)) t (Nat.shiftRight i 3)
def g2_0 : T2 → Nat → Obj := fun t i => get1 t.1 i
def g2_1 : T2 → Nat → Obj := fun t i => get1 t.2 i
def g2_2 : T2 → Nat → Obj := fun t i => get1 t.3 i
def g2_3 : T2 → Nat → Obj := fun t i => get1 t.4 i
def g2_4 : T2 → Nat → Obj := fun t i => get1 t.5 i
def g2_5 : T2 → Nat → Obj := fun t i => get1 t.6 i
def g2_6 : T2 → Nat → Obj := fun t i => get1 t.7 i
def g2_7 : T2 → Nat → Obj := fun t i => get1 t.8 i
def get2 : T2 → Nat → Obj := fun t i => @S8.rec (fun _ => T2 → Nat → Obj) g2_0 g2_1 g2_2 g2_3 g2_4 g2_5 g2_6 g2_7 (s8 (Nat.land i 7)) t (Nat.shiftRight i 3)
def g3_0 : T3 → Nat → Obj := fun t i => get2 t.1 i
def g3_1 : T3 → Nat → Obj := fun t i => get2 t.2 i
def g3_2 : T3 → Nat → Obj := fun t i => get2 t.3 i
def g3_3 : T3 → Nat → Obj := fun t i => get2 t.4 i
def g3_4 : T3 → Nat → Obj := fun t i => get2 t.5 i
def g3_5 : T3 → Nat → Obj := fun t i => get2 t.6 i
def g3_6 : T3 → Nat → Obj := fun t i => get2 t.7 i
def g3_7 : T3 → Nat → Obj := fun t i => get2 t.8 i
def get3 : T3 → Nat → Obj := fun t i => @S8.rec (fun _ => T3 → Nat → Obj) g3_0 g3_1 g3_2 g3_3 g3_4 g3_5 g3_6 g3_7 (s8 (Nat.land i 7)) t (Nat.shiftRight i 3)
def g4_0 : T4 → Nat → Obj := fun t i => get3 t.1 i
def g4_1 : T4 → Nat → Obj := fun t i => get3 t.2 i
def g4_2 : T4 → Nat → Obj := fun t i => get3 t.3 i
def g4_3 : T4 → Nat → Obj := fun t i => get3 t.4 i
def g4_4 : T4 → Nat → Obj := fun t i => get3 t.5 i
def g4_5 : T4 → Nat → Obj := fun t i => get3 t.6 i
def g4_6 : T4 → Nat → Obj := fun t i => get3 t.7 i
def g4_7 : T4 → Nat → Obj := fun t i => get3 t.8 i
def get4 : T4 → Nat → Obj := fun t i => @S8.rec (fun _ => T4 → Nat → Obj) g4_0 g4_1 g4_2 g4_3 g4_4 g4_5 g4_6 g4_7 (s8 (Nat.land i 7)) t (Nat.shiftRight i 3)
def g5_0 : T5 → Nat → Obj := fun t i => get4 t.1 i
def g5_1 : T5 → Nat → Obj := fun t i => get4 t.2 i
def g5_2 : T5 → Nat → Obj := fun t i => get4 t.3 i
def g5_3 : T5 → Nat → Obj := fun t i => get4 t.4 i
def g5_4 : T5 → Nat → Obj := fun t i => get4 t.5 i
def g5_5 : T5 → Nat → Obj := fun t i => get4 t.6 i
def g5_6 : T5 → Nat → Obj := fun t i => get4 t.7 i
def g5_7 : T5 → Nat → Obj := fun t i => get4 t.8 i
def get5 : T5 → Nat → Obj := fun t i => @S8.rec (fun _ => T5 → Nat → Obj) g5_0 g5_1 g5_2 g5_3 g5_4 g5_5 g5_6 g5_7 (s8 (Nat.land i 7)) t (Nat.shiftRight i 3)
def g6_0 : T6 → Nat → Obj := fun t i => get5 t.1 i
def g6_1 : T6 → Nat → Obj := fun t i => get5 t.2 i
def g6_2 : T6 → Nat → Obj := fun t i => get5 t.3 i
def g6_3 : T6 → Nat → Obj := fun t i => get5 t.4 i
def g6_4 : T6 → Nat → Obj := fun t i => get5 t.5 i
def g6_5 : T6 → Nat → Obj := fun t i => get5 t.6 i
def g6_6 : T6 → Nat → Obj := fun t i => get5 t.7 i
def g6_7 : T6 → Nat → Obj := fun t i => get5 t.8 i
def get6 : T6 → Nat → Obj := fun t i => @S8.rec (fun _ => T6 → Nat → Obj) g6_0 g6_1 g6_2 g6_3 g6_4 g6_5 g6_6 g6_7 (s8 (Nat.land i 7)) t (Nat.shiftRight i 3)
def get (H : HT) (i : Nat) : Obj := get6 H i
def set0 (_ x : Obj) (_ : Nat) (k : Obj → Out) : Out := k x
def s1_0 : T1 → Obj → Nat → (T1 → Out) → Out := fun t x i k => @N8.rec Obj (fun _ => Out) (fun c0 c1 c2 c3 c4 c5 c6 c7 => set0 c0 x i fun c => k (.mk c c1 c2 c3 c4 c5 c6 c7)) t
def s1_1 : T1 → Obj → Nat → (T1 → Out) → Out := fun t x i k => @N8.rec Obj (fun _ => Out) (fun c0 c1 c2 c3 c4 c5 c6 c7 => set0 c1 x i fun c => k (.mk c0 c c2 c3 c4 c5 c6 c7)) t
def s1_2 : T1 → Obj → Nat → (T1 → Out) → Out := fun t x i k => @N8.rec Obj (fun _ => Out) (fun c0 c1 c2 c3 c4 c5 c6 c7 => set0 c2 x i fun c => k (.mk c0 c1 c c3 c4 c5 c6 c7)) t
def s1_3 : T1 → Obj → Nat → (T1 → Out) → Out := fun t x i k => @N8.rec Obj (fun _ => Out) (fun c0 c1 c2 c3 c4 c5 c6 c7 => set0 c3 x i fun c => k (.mk c0 c1 c2 c c4 c5 c6 c7)) t
def s1_4 : T1 → Obj → Nat → (T1 → Out) → Out := fun t x i k => @N8.rec Obj (fun _ => Out) (fun c0 c1 c2 c3 c4 c5 c6 c7 => set0 c4 x i fun c => k (.mk c0 c1 c2 c3 c c5 c6 c7)) t
def s1_5 : T1 → Obj → Nat → (T1 → Out) → Out := fun t x i k => @N8.rec Obj (fun _ => Out) (fun c0 c1 c2 c3 c4 c5 c6 c7 => set0 c5 x i fun c => k (.mk c0 c1 c2 c3 c4 c c6 c7)) t
def s1_6 : T1 → Obj → Nat → (T1 → Out) → Out := fun t x i k => @N8.rec Obj (fun _ => Out) (fun c0 c1 c2 c3 c4 c5 c6 c7 => set0 c6 x i fun c => k (.mk c0 c1 c2 c3 c4 c5 c c7)) t
def s1_7 : T1 → Obj → Nat → (T1 → Out) → Out := fun t x i k => @N8.rec Obj (fun _ => Out) (fun c0 c1 c2 c3 c4 c5 c6 c7 => set0 c7 x i fun c => k (.mk c0 c1 c2 c3 c4 c5 c6 c)) t
def set1 : T1 → Obj → Nat → (T1 → Out) → Out := fun t x i k => @S8.rec (fun _ => T1 → Obj → Nat → (T1 → Out) → Out) s1_0 s1_1 s1_2 s1_3 s1_4 s1_5 s1_6 s1_7 (s8 (Nat.land i 7)) t x (Nat.shiftRight i 3) k
def s2_0 : T2 → Obj → Nat → (T2 → Out) → Out := fun t x i k => @N8.rec T1 (fun _ => Out) (fun c0 c1 c2 c3 c4 c5 c6 c7 => set1 c0 x i fun c => k (.mk c c1 c2 c3 c4 c5 c6 c7)) t
def s2_1 : T2 → Obj → Nat → (T2 → Out) → Out := fun t x i k => @N8.rec T1 (fun _ => Out) (fun c0 c1 c2 c3 c4 c5 c6 c7 => set1 c1 x i fun c => k (.mk c0 c c2 c3 c4 c5 c6 c7)) t
def s2_2 : T2 → Obj → Nat → (T2 → Out) → Out := fun t x i k => @N8.rec T1 (fun _ => Out) (fun c0 c1 c2 c3 c4 c5 c6 c7 => set1 c2 x i fun c => k (.mk c0 c1 c c3 c4 c5 c6 c7)) t
def s2_3 : T2 → Obj → Nat → (T2 → Out) → Out := fun t x i k => @N8.rec T1 (fun _ => Out) (fun c0 c1 c2 c3 c4 c5 c6 c7 => set1 c3 x i fun c => k (.mk c0 c1 c2 c c4 c5 c6 c7)) t
def s2_4 : T2 → Obj → Nat → (T2 → Out) → Out := fun t x i k => @N8.rec T1 (fun _ => Out) (fun c0 c1 c2 c3 c4 c5 c6 c7 => set1 c4 x i fun c => k (.mk c0 c1 c2 c3 c c5 c6 c7)) t
def s2_5 : T2 → Obj → Nat → (T2 → Out) → Out := fun t x i k => @N8.rec T1 (fun _ => Out) (fun c0 c1 c2 c3 c4 c5 c6 c7 => set1 c5 x i fun c => k (.mk c0 c1 c2 c3 c4 c c6 c7)) t
def s2_6 : T2 → Obj → Nat → (T2 → Out) → Out := fun t x i k => @N8.rec T1 (fun _ => Out) (fun c0 c1 c2 c3 c4 c5 c6 c7 => set1 c6 x i fun c => k (.mk c0 c1 c2 c3 c4 c5 c c7)) t
def s2_7 : T2 → Obj → Nat → (T2 → Out) → Out := fun t x i k => @N8.rec T1 (fun _ => Out) (fun c0 c1 c2 c3 c4 c5 c6 c7 => set1 c7 x i fun c => k (.mk c0 c1 c2 c3 c4 c5 c6 c)) t
def set2 : T2 → Obj → Nat → (T2 → Out) → Out := fun t x i k => @S8.rec (fun _ => T2 → Obj → Nat → (T2 → Out) → Out) s2_0 s2_1 s2_2 s2_3 s2_4 s2_5 s2_6 s2_7 (s8 (Nat.land i 7)) t x (Nat.shiftRight i 3) k
def s3_0 : T3 → Obj → Nat → (T3 → Out) → Out := fun t x i k => @N8.rec T2 (fun _ => Out) (fun c0 c1 c2 c3 c4 c5 c6 c7 => set2 c0 x i fun c => k (.mk c c1 c2 c3 c4 c5 c6 c7)) t
def s3_1 : T3 → Obj → Nat → (T3 → Out) → Out := fun t x i k => @N8.rec T2 (fun _ => Out) (fun c0 c1 c2 c3 c4 c5 c6 c7 => set2 c1 x i fun c => k (.mk c0 c c2 c3 c4 c5 c6 c7)) t
def s3_2 : T3 → Obj → Nat → (T3 → Out) → Out := fun t x i k => @N8.rec T2 (fun _ => Out) (fun c0 c1 c2 c3 c4 c5 c6 c7 => set2 c2 x i fun c => k (.mk c0 c1 c c3 c4 c5 c6 c7)) t
def s3_3 : T3 → Obj → Nat → (T3 → Out) → Out := fun t x i k => @N8.rec T2 (fun _ => Out) (fun c0 c1 c2 c3 c4 c5 c6 c7 => set2 c3 x i fun c => k (.mk c0 c1 c2 c c4 c5 c6 c7)) t
def s3_4 : T3 → Obj → Nat → (T3 → Out) → Out := fun t x i k => @N8.rec T2 (fun _ => Out) (fun c0 c1 c2 c3 c4 c5 c6 c7 => set2 c4 x i fun c => k (.mk c0 c1 c2 c3 c c5 c6 c7)) t
def s3_5 : T3 → Obj → Nat → (T3 → Out) → Out := fun t x i k => @N8.rec T2 (fun _ => Out) (fun c0 c1 c2 c3 c4 c5 c6 c7 => set2 c5 x i fun c => k (.mk c0 c1 c2 c3 c4 c c6 c7)) t
def s3_6 : T3 → Obj → Nat → (T3 → Out) → Out := fun t x i k => @N8.rec T2 (fun _ => Out) (fun c0 c1 c2 c3 c4 c5 c6 c7 => set2 c6 x i fun c => k (.mk c0 c1 c2 c3 c4 c5 c c7)) t
def s3_7 : T3 → Obj → Nat → (T3 → Out) → Out := fun t x i k => @N8.rec T2 (fun _ => Out) (fun c0 c1 c2 c3 c4 c5 c6 c7 => set2 c7 x i fun c => k (.mk c0 c1 c2 c3 c4 c5 c6 c)) t
def set3 : T3 → Obj → Nat → (T3 → Out) → Out := fun t x i k => @S8.rec (fun _ => T3 → Obj → Nat → (T3 → Out) → Out) s3_0 s3_1 s3_2 s3_3 s3_4 s3_5 s3_6 s3_7 (s8 (Nat.land i 7)) t x (Nat.shiftRight i 3) k
def s4_0 : T4 → Obj → Nat → (T4 → Out) → Out := fun t x i k => @N8.rec T3 (fun _ => Out) (fun c0 c1 c2 c3 c4 c5 c6 c7 => set3 c0 x i fun c => k (.mk c c1 c2 c3 c4 c5 c6 c7)) t
def s4_1 : T4 → Obj → Nat → (T4 → Out) → Out := fun t x i k => @N8.rec T3 (fun _ => Out) (fun c0 c1 c2 c3 c4 c5 c6 c7 => set3 c1 x i fun c => k (.mk c0 c c2 c3 c4 c5 c6 c7)) t
def s4_2 : T4 → Obj → Nat → (T4 → Out) → Out := fun t x i k => @N8.rec T3 (fun _ => Out) (fun c0 c1 c2 c3 c4 c5 c6 c7 => set3 c2 x i fun c => k (.mk c0 c1 c c3 c4 c5 c6 c7)) t
def s4_3 : T4 → Obj → Nat → (T4 → Out) → Out := fun t x i k => @N8.rec T3 (fun _ => Out) (fun c0 c1 c2 c3 c4 c5 c6 c7 => set3 c3 x i fun c => k (.mk c0 c1 c2 c c4 c5 c6 c7)) t
def s4_4 : T4 → Obj → Nat → (T4 → Out) → Out := fun t x i k => @N8.rec T3 (fun _ => Out) (fun c0 c1 c2 c3 c4 c5 c6 c7 => set3 c4 x i fun c => k (.mk c0 c1 c2 c3 c c5 c6 c7)) t
def s4_5 : T4 → Obj → Nat → (T4 → Out) → Out := fun t x i k => @N8.rec T3 (fun _ => Out) (fun c0 c1 c2 c3 c4 c5 c6 c7 => set3 c5 x i fun c => k (.mk c0 c1 c2 c3 c4 c c6 c7)) t
def s4_6 : T4 → Obj → Nat → (T4 → Out) → Out := fun t x i k => @N8.rec T3 (fun _ => Out) (fun c0 c1 c2 c3 c4 c5 c6 c7 => set3 c6 x i fun c => k (.mk c0 c1 c2 c3 c4 c5 c c7)) t
def s4_7 : T4 → Obj → Nat → (T4 → Out) → Out := fun t x i k => @N8.rec T3 (fun _ => Out) (fun c0 c1 c2 c3 c4 c5 c6 c7 => set3 c7 x i fun c => k (.mk c0 c1 c2 c3 c4 c5 c6 c)) t
def set4 : T4 → Obj → Nat → (T4 → Out) → Out := fun t x i k => @S8.rec (fun _ => T4 → Obj → Nat → (T4 → Out) → Out) s4_0 s4_1 s4_2 s4_3 s4_4 s4_5 s4_6 s4_7 (s8 (Nat.land i 7)) t x (Nat.shiftRight i 3) k
def s5_0 : T5 → Obj → Nat → (T5 → Out) → Out := fun t x i k => @N8.rec T4 (fun _ => Out) (fun c0 c1 c2 c3 c4 c5 c6 c7 => set4 c0 x i fun c => k (.mk c c1 c2 c3 c4 c5 c6 c7)) t
def s5_1 : T5 → Obj → Nat → (T5 → Out) → Out := fun t x i k => @N8.rec T4 (fun _ => Out) (fun c0 c1 c2 c3 c4 c5 c6 c7 => set4 c1 x i fun c => k (.mk c0 c c2 c3 c4 c5 c6 c7)) t
def s5_2 : T5 → Obj → Nat → (T5 → Out) → Out := fun t x i k => @N8.rec T4 (fun _ => Out) (fun c0 c1 c2 c3 c4 c5 c6 c7 => set4 c2 x i fun c => k (.mk c0 c1 c c3 c4 c5 c6 c7)) t
def s5_3 : T5 → Obj → Nat → (T5 → Out) → Out := fun t x i k => @N8.rec T4 (fun _ => Out) (fun c0 c1 c2 c3 c4 c5 c6 c7 => set4 c3 x i fun c => k (.mk c0 c1 c2 c c4 c5 c6 c7)) t
def s5_4 : T5 → Obj → Nat → (T5 → Out) → Out := fun t x i k => @N8.rec T4 (fun _ => Out) (fun c0 c1 c2 c3 c4 c5 c6 c7 => set4 c4 x i fun c => k (.mk c0 c1 c2 c3 c c5 c6 c7)) t
def s5_5 : T5 → Obj → Nat → (T5 → Out) → Out := fun t x i k => @N8.rec T4 (fun _ => Out) (fun c0 c1 c2 c3 c4 c5 c6 c7 => set4 c5 x i fun c => k (.mk c0 c1 c2 c3 c4 c c6 c7)) t
def s5_6 : T5 → Obj → Nat → (T5 → Out) → Out := fun t x i k => @N8.rec T4 (fun _ => Out) (fun c0 c1 c2 c3 c4 c5 c6 c7 => set4 c6 x i fun c => k (.mk c0 c1 c2 c3 c4 c5 c c7)) t
def s5_7 : T5 → Obj → Nat → (T5 → Out) → Out := fun t x i k => @N8.rec T4 (fun _ => Out) (fun c0 c1 c2 c3 c4 c5 c6 c7 => set4 c7 x i fun c => k (.mk c0 c1 c2 c3 c4 c5 c6 c)) t
def set5 : T5 → Obj → Nat → (T5 → Out) → Out := fun t x i k => @S8.rec (fun _ => T5 → Obj → Nat → (T5 → Out) → Out) s5_0 s5_1 s5_2 s5_3 s5_4 s5_5 s5_6 s5_7 (s8 (Nat.land i 7)) t x (Nat.shiftRight i 3) k
def s6_0 : T6 → Obj → Nat → (T6 → Out) → Out := fun t x i k => @N8.rec T5 (fun _ => Out) (fun c0 c1 c2 c3 c4 c5 c6 c7 => set5 c0 x i fun c => k (.mk c c1 c2 c3 c4 c5 c6 c7)) t
def s6_1 : T6 → Obj → Nat → (T6 → Out) → Out := fun t x i k => @N8.rec T5 (fun _ => Out) (fun c0 c1 c2 c3 c4 c5 c6 c7 => set5 c1 x i fun c => k (.mk c0 c c2 c3 c4 c5 c6 c7)) t
def s6_2 : T6 → Obj → Nat → (T6 → Out) → Out := fun t x i k => @N8.rec T5 (fun _ => Out) (fun c0 c1 c2 c3 c4 c5 c6 c7 => set5 c2 x i fun c => k (.mk c0 c1 c c3 c4 c5 c6 c7)) t
def s6_3 : T6 → Obj → Nat → (T6 → Out) → Out := fun t x i k => @N8.rec T5 (fun _ => Out) (fun c0 c1 c2 c3 c4 c5 c6 c7 => set5 c3 x i fun c => k (.mk c0 c1 c2 c c4 c5 c6 c7)) t
def s6_4 : T6 → Obj → Nat → (T6 → Out) → Out := fun t x i k => @N8.rec T5 (fun _ => Out) (fun c0 c1 c2 c3 c4 c5 c6 c7 => set5 c4 x i fun c => k (.mk c0 c1 c2 c3 c c5 c6 c7)) t
def s6_5 : T6 → Obj → Nat → (T6 → Out) → Out := fun t x i k => @N8.rec T5 (fun _ => Out) (fun c0 c1 c2 c3 c4 c5 c6 c7 => set5 c5 x i fun c => k (.mk c0 c1 c2 c3 c4 c c6 c7)) t
def s6_6 : T6 → Obj → Nat → (T6 → Out) → Out := fun t x i k => @N8.rec T5 (fun _ => Out) (fun c0 c1 c2 c3 c4 c5 c6 c7 => set5 c6 x i fun c => k (.mk c0 c1 c2 c3 c4 c5 c c7)) t
def s6_7 : T6 → Obj → Nat → (T6 → Out) → Out := fun t x i k => @N8.rec T5 (fun _ => Out) (fun c0 c1 c2 c3 c4 c5 c6 c7 => set5 c7 x i fun c => k (.mk c0 c1 c2 c3 c4 c5 c6 c)) t
def set6 : T6 → Obj → Nat → (T6 → Out) → Out := fun t x i k => @S8.rec (fun _ => T6 → Obj → Nat → (T6 → Out) → Out) s6_0 s6_1 s6_2 s6_3 s6_4 s6_5 s6_6 s6_7 (s8 (Nat.land i 7)) t x (Nat.shiftRight i 3) k
def set (H : HT) (x : Obj) (i : Nat) (k : HT → Out) : Out := set6 H x i k
-- frames
/-- place t -/
def fget (t : Nat) (f : FR) : Nat := dig f (Nat.succ t)
/-- place t put to c -/
def fput (t : Nat) (f : FR) (c : Nat) (k : FR → Out) : Out := frc k (put f (Nat.succ t) c)
def f0 : FR := 0
/-- packed arguments as a frame -/
def fargs (N nx : Nat) (k : FR → Out) : Out := frc k (Nat.xor N (Nat.mul (Nat.land nx 4294967295) 2654435769))
/-- a new thing; k: its number -/
def new (x : Obj) (H : HT) (nx : Nat) (k : K0) : Out := br (.bad 2) (set H x nx fun H => frc (fun nx' => k nx H nx') (Nat.succ nx)) (Nat.blt nx 262144)
-- texts: length and bytes, the first one lowest
def strObj (k : Nat → Nat → Out) : Obj → Out := @Obj.rec (fun _ => Out) (fun _ _ _ _ => .bad 4) k (fun _ _ => .bad 4) (fun _ _ => .bad 4) (fun _ _ _ _ _ => .bad 4) (fun _ _ _ => .bad 4) (fun _ _ _ => .bad 4) (.bad 4)
def str (c : Nat) (H : HT) (k : Nat → Nat → Out) : Out :=
  br (br (.bad 3) (strObj k (get H (lo c))) (Nat.beq (hi c) 13))
    (k (Nat.land (Nat.shiftRight c 88) 255) (Nat.mod c 309485009821345068724781056)) (Nat.beq (hi c) 12)
def mkStr (n N : Nat) (H : HT) (nx : Nat) (k : K0) : Out :=
  br (frc (fun n => frc (fun N => new (.str n N) H nx fun i H nx => k (Nat.add i 1029966112685436388716071354368) H nx) N) n)
    (frc (fun c => k c H nx) (Nat.add N (Nat.add (Nat.shiftLeft n 88) 950737950171172051122527404032))) (Nat.ble n 11)
/-- texts in order: n bytes N, m bytes M -/
def slt (n N m M : Nat) : Bool :=
  @Nat.rec (fun _ => Nat → Nat → Nat → Bool) (fun m _ _ => Nat.blt 0 m)
    (fun _ ih m N M => @Bool.rec (fun _ => Bool)
      (@Bool.rec (fun _ => Bool) (Nat.blt (Nat.land N 255) (Nat.land M 255)) (ih (Nat.pred m) (Nat.shiftRight N 8) (Nat.shiftRight M 8)) (Nat.beq (Nat.land N 255) (Nat.land M 255)))
      false (Nat.beq m 0)) n m N M
-- constants
def intTag : IntKind → Nat
  | .i8 => 4 | .i16 => 5 | .i32 => 6 | .i64 => 7 | .u8 => 8 | .u16 => 9 | .u32 => 10 | .u64 => 11
def packB : List UInt8 → Nat
  | [] => 0
  | b :: l => b.toNat + 256 * packB l
/-- a value of one cell that needs nothing of the heap; 0: no such -/
def encC : Value → Nat
  | .bool b => boolC b
  | .int k n => if k.min ≤ n ∧ n ≤ k.max then tg (intTag k) + (n % 18446744073709551616).toNat else 0
  | .string s => if s.data.toList.length ≤ 11 then tg 12 + s.data.toList.length * 2 ^ 88 + packB s.data.toList else 0
  | .pointer none => tg 14
  | .slice none 0 0 => tg 15
  | .map none => tg 16
  | .chan none => tg 17
  | .nilFunc => tg 20
  | .nilIface => tg 21
  | _ => 0
def packL : List Nat → Nat
  | [] => 0
  | c :: l => c + packL l * 340282366920938463463374607431768211456
/-- cells from digit 1 on -/
def packV (l : List Value) : Nat := packL (0 :: l.map encC)
def packOk (l : List Value) : Bool := l.all fun v => encC v != 0
def constK2 (v : Value) (H : HT) (nx : Nat) (k : K0) : Out :=
  match v with
  | .string s => new (.str s.data.toList.length (packB s.data.toList)) H nx fun i H nx => frc (fun c => k c H nx) (Nat.add i 1029966112685436388716071354368)
  | .agg cs => br (.bad 5) (new (.agg cs.toList.length (packV cs.toList)) H nx fun i H nx => frc (fun c => k c H nx) (Nat.add i 79228162514264337593543950336)) (packOk cs.toList)
  | _ => .bad 7
def constK (v : Value) (_f : FR) (H : HT) (nx : Nat) (k : K0) : Out := br (constK2 v H nx k) (k (encC v) H nx) (Nat.ble 1 (encC v))
def argTmp (t : Nat) (f : FR) (H : HT) (nx : Nat) (k : K0) : Out := frc (fun c => k c H nx) (fget t f)
def argFn (g : Nat) (_f : FR) (H : HT) (nx : Nat) (k : K0) : Out := br (.bad 8) (k (Nat.add g 1426106925256758076683791106048) H nx) (Nat.blt g 18446744073709551616)
def argNo (_g : Nat) (_f : FR) (_ : HT) (_ : Nat) (_ : K0) : Out := .bad 8
def arg : Operand → FR → HT → Nat → K0 → Out := @Operand.rec (fun _ => FR → HT → Nat → K0 → Out) argTmp constK argNo argFn
def arg2 (x y : Operand) (f : FR) (H : HT) (nx : Nat) (k : Nat → Nat → HT → Nat → Out) : Out :=
  arg x f H nx fun a H nx => arg y f H nx fun b H nx => k a b H nx
-- types
def aggT (X : Env) (t : TypeId) : Bool := (X.ty t).agg
def szT (X : Env) (t : TypeId) : Nat := (X.ty t).sz
def elemT (X : Env) (t : TypeId) : TypeId := (X.ty t).elem
def arrT (X : Env) (t : TypeId) : Option Nat := (X.ty t).arr
/-- a map's key's kind -/
def keyT (X : Env) (t : TypeId) : Nat := (X.ty t).key
def kindT (X : Env) (t : TypeId) : Nat := (X.ty t).kind
def zokT (X : Env) (t : TypeId) : Bool := (X.ty t).zok
def znT (X : Env) (t : TypeId) : Nat := (X.ty t).zn
def zNT (X : Env) (t : TypeId) : Nat := (X.ty t).zN
def fieldT (X : Env) (t : TypeId) (i : Nat) : Option (Nat × TypeId) := (X.ty t).fs[i]?
/-- what is to be told of a type -/
def okT (P : Program) (t : TypeId) : Bool := (P.underlying t).isSome
/-- a zero value that can be packed; a type whose form is told, its parts' too -/
def zGood (P : Program) (t : TypeId) (i : TypeInfo) (v : Value) : Bool := packOk v.cells.toList && (i.size == v.cells.size && (decide (i.bytes ≤ 8388608) && match P.underlying t with | some (.struct fs) => fs.toList.all (fun f => okT P f.type) | some (.array _ e) => okT P e | some _ => true | none => false))
def tyOf (P : Program) (t : TypeId) : Ty :=
  let u := P.underlying t
  let z : Option (List Value) := match P.info? t with | some i => (match i.zero with | some v => if zGood P t i v = true then some v.cells.toList else none | none => none) | none => none
  { agg := match u with | some (.struct _) | some (.array _ _) => true | _ => false
    sz := if okT P t = true then P.cellsOf t else 0
    kind := match u with | some (.int k) => intTag k | some .string => 12 | some .bool => 3 | some (.slice e) => if okT P e = true then 15 else 0 | some (.pointer _) => 14 | some (.map _ _) => 16 | some (.chan _ _) => 17 | some (.func _ _ _) => 18 | some (.interface _) => 21 | some (.struct _) => 1 | some (.array _ _) => 2 | _ => 0
    elem := match u with | some (.slice e) => e | some (.array _ e) => e | some (.pointer e) => e | some (.chan _ e) => e | some (.map _ e) => e | _ => 0
    arr := match u with | some (.array n e) => if okT P e = true then some n else none | _ => none
    zok := z.isSome
    zn := match z with | some l => l.length | none => 0
    zN := match z with | some l => packV l | none => 0
    fs := match u with | some (.struct fs) => fs.toList.map fun f => (f.offset, f.type) | _ => []
    key := match u with | some (.map k _) => (match P.underlying k with | some (.int q) => intTag q | some .string => 12 | some .bool => 3 | _ => 0) | _ => 0 }
-- what is behind a number
def rowObj (k : Nat → Nat → Nat → Bool → Out) : Obj → Out := @Obj.rec (fun _ => Out) k (fun _ _ => .bad 10) (fun _ _ => .bad 10) (fun _ _ => .bad 10) (fun _ _ _ _ _ => .bad 10) (fun _ _ _ => .bad 10) (fun _ _ _ => .bad 10) (.bad 11)
def rowK (H : HT) (i : Nat) (k : Nat → Nat → Nat → Bool → Out) : Out := rowObj k (get H i)
def aggObj (k : Nat → Nat → Out) : Obj → Out := @Obj.rec (fun _ => Out) (fun _ _ _ _ => .bad 13) (fun _ _ => .bad 13) k (fun _ _ => .bad 13) (fun _ _ _ _ _ => .bad 13) (fun _ _ _ => .bad 13) (fun _ _ _ => .bad 13) (.bad 13)
def aggK (H : HT) (c : Nat) (k : Nat → Nat → Out) : Out := br (.bad 12) (aggObj k (get H (lo c))) (Nat.beq (hi c) 1)
def tupObj (k : Nat → Nat → Out) : Obj → Out := @Obj.rec (fun _ => Out) (fun _ _ _ _ => .bad 15) (fun _ _ => .bad 15) (fun _ _ => .bad 15) k (fun _ _ _ _ _ => .bad 15) (fun _ _ _ => .bad 15) (fun _ _ _ => .bad 15) (.bad 15)
def tupK (H : HT) (c : Nat) (k : Nat → Nat → Out) : Out := br (.bad 14) (tupObj k (get H (lo c))) (Nat.beq (hi c) 2)
def mapObj (k : Nat → Nat → ML → Out) : Obj → Out := @Obj.rec (fun _ => Out) (fun _ _ _ _ => .bad 16) (fun _ _ => .bad 16) (fun _ _ => .bad 16) (fun _ _ => .bad 16) (fun _ _ _ _ _ => .bad 16) k (fun _ _ _ => .bad 16) (.bad 16)
def mapK (H : HT) (i : Nat) (k : Nat → Nat → ML → Out) : Out := mapObj k (get H i)
def chanObj (k : Nat → Nat → Nat → Out) : Obj → Out := @Obj.rec (fun _ => Out) (fun _ _ _ _ => .bad 17) (fun _ _ => .bad 17) (fun _ _ => .bad 17) (fun _ _ => .bad 17) (fun _ _ _ _ _ => .bad 17) (fun _ _ _ => .bad 17) k (.bad 17)
/-- a channel's first number is below this; an iterator's (over a map) is above: the map's number, behind it -/
def itC : Nat := 4294967296
def chanK (H : HT) (i : Nat) (k : Nat → Nat → Nat → Out) : Out := chanObj (fun c n N => br (.bad 17) (k c n N) (Nat.blt c itC)) (get H i)
def iterK (H : HT) (i : Nat) (k : Nat → Nat → Nat → Out) : Out := chanObj (fun c n N => br (k c n N) (.bad 17) (Nat.blt c itC)) (get H i)
/-- the block of a pointer, slice, map, channel -/
def blk (c : Nat) : Nat := Nat.pred (Nat.land c 16777215)
def off (c : Nat) : Nat := Nat.land (Nat.shiftRight c 24) 16777215
def sln (c : Nat) : Nat := Nat.land (Nat.shiftRight c 48) 16777215
def scp (c : Nat) : Nat := Nat.land (Nat.shiftRight c 72) 16777215
/-- not nil: its block's number -/
def some' (c : Nat) : Bool := not' (Nat.beq (Nat.land c 16777215) 0)
def isPtr (c : Nat) : Bool := and' (Nat.beq (hi c) 14) (some' c)
def isSl (c : Nat) : Bool := and' (Nat.beq (hi c) 15) (some' c)
def mkPtr (b o : Nat) : Nat := Nat.add (Nat.add (Nat.succ b) (Nat.shiftLeft o 24)) 1109194275199700726309615304704
def mkSl (b o n c : Nat) : Nat := Nat.add (Nat.add (Nat.add (Nat.succ b) (Nat.shiftLeft o 24)) (Nat.add (Nat.shiftLeft n 48) (Nat.shiftLeft c 72))) 1188422437713965063903159255040
def ptrK (b o : Nat) (H : HT) (nx : Nat) (k : K0) : Out := br (.bad 9) (frc (fun c => k c H nx) (mkPtr b o)) (Nat.ble o 16777215)
def slG (b o n c : Nat) (H : HT) (nx : Nat) (k : K0) : Out := br (.bad 9) (frc (fun c => k c H nx) (mkSl b o n c)) (and' (Nat.ble o 16777215) (Nat.ble n 16777214))
/-- the capacity known -/
def slK (b o n c : Nat) (H : HT) (nx : Nat) (k : K0) : Out := br (.bad 9) (slG b o n c H nx k) (Nat.ble c 8388607)
/-- not known; s cells an element -/
def opn (s : Nat) : Nat := Nat.add 8388608 s
def isOpn (c : Nat) : Bool := Nat.ble 8388608 (scp c)
def slU (b o n s : Nat) (H : HT) (nx : Nat) (k : K0) : Out := br (.bad 9) (slG b o n (opn s) H nx k) (and' (Nat.ble 1 s) (Nat.ble s 8388607))
/-- a struct's value, n cells from digit 1 on -/
def newAgg (n M : Nat) (H : HT) (nx : Nat) (k : K0) : Out := frc (fun M => new (.agg n M) H nx fun i H nx => frc (fun c => k c H nx) (Nat.add i 79228162514264337593543950336)) M
def newTup (n M : Nat) (H : HT) (nx : Nat) (k : K0) : Out := frc (fun M => new (.tup n M) H nx fun i H nx => frc (fun c => k c H nx) (Nat.add i 158456325028528675187087900672)) M
/-- a value of type t out of cells: from cell o on -/
def take (agg : Bool) (sz N o : Nat) (H : HT) (nx : Nat) (k : K0) : Out :=
  br (frc (fun c => k c H nx) (dig N (Nat.succ o))) (newAgg sz (digs N o (Nat.succ sz)) H nx k) agg
/-- cells with a value of type t laid in at o -/
def lay (agg : Bool) (sz N o c : Nat) (H : HT) (k : Nat → Out) : Out :=
  br (br (.bad 19) (frc k (put N (Nat.succ o) c)) (and' (Nat.ble 237684487542793012780631851008 c) (and' (not' (Nat.beq c 1822247737828079764651510857728)) (Nat.beq sz 1))))
    (aggK H c fun n M => br (.bad 18) (frc k (puts N (Nat.succ o) sz (Nat.mod (Nat.shiftRight M 128) (Nat.shiftLeft 1 (Nat.shiftLeft sz 7))))) (Nat.beq n sz)) agg
-- numbers
/-- whatever x (its low bits) as an int of kind h -/
def wr (h x : Nat) (k : Nat → Out) : Out :=
  br (br (br (br (.bad 20)
      (frc k (Nat.add (Nat.mod (Nat.add (Nat.mod (Nat.add x 2147483648) 4294967296) 18446744071562067968) 18446744073709551616) 475368975085586025561263702016)) (Nat.beq h 6))
      (frc k (Nat.add (Nat.mod x 4294967296) 792281625142643375935439503360)) (Nat.beq h 10))
      (frc k (Nat.add (Nat.mod x 256) 633825300114114700748351602688)) (Nat.beq h 8))
    (frc k (Nat.add (Nat.mod x 18446744073709551616) (Nat.shiftLeft h 96))) (or' (Nat.beq h 7) (Nat.beq h 11))
def wrK (h x : Nat) (H : HT) (nx : Nat) (k : K0) : Out := wr h x fun c => k c H nx
def isI (h : Nat) : Bool := and' (Nat.ble 4 h) (Nat.ble h 11)
/-- both ints of one kind -/
def ints (a b : Nat) (k : Nat → Out) : Out := frc (fun h => br (.bad 21) (k h) (and' (isI h) (Nat.beq h (hi b)))) (hi a)
/-- of kind h: is n below 0? -/
def sgn (h n : Nat) : Bool := and' (Nat.ble h 7) (Nat.ble 9223372036854775808 n)
def strs (a b : Nat) (H : HT) (k : Nat → Nat → Nat → Nat → Out) : Out := str a H fun n N => str b H fun m M => k n N m M
def isS (c : Nat) : Bool := or' (Nat.beq (hi c) 12) (Nat.beq (hi c) 13)
abbrev BinK := Bool → Nat → Nat → HT → Nat → K0 → Out
def opAdd : BinK := fun _ a b H nx k =>
  br (ints a b fun h => wrK h (Nat.add a b) H nx k)
    (strs a b H fun n N m M => frc (fun n' => br (.bad 6) (mkStr n' (Nat.add N (Nat.shiftLeft M (Nat.shiftLeft n 3))) H nx k) (Nat.ble n' 16777214)) (Nat.add n m)) (isS a)
def opSub : BinK := fun _ a b H nx k => ints a b fun h => wrK h (Nat.sub (Nat.add a 340282366920938463463374607431768211456) b) H nx k
def opMul : BinK := fun _ a b H nx k => ints a b fun h => wrK h (Nat.mul (lo a) (lo b)) H nx k
/-- neither is below 0, the second isn't 0 -/
def nonneg (a b : Nat) (k : Nat → Out) : Out := ints a b fun h => br (.bad 22) (k h) (and' (not' (sgn h (lo a))) (and' (not' (sgn h (lo b))) (not' (Nat.beq (lo b) 0))))
def opQuo : BinK := fun _ a b H nx k => nonneg a b fun h => wrK h (Nat.div (lo a) (lo b)) H nx k
/-- a number of which only the rest is known: r, m in its low bits; kind 24: a byte, 25: an int -/
def remSym (a b : Nat) (H : HT) (nx : Nat) (k : K0) : Out :=
  br (.bad 22) (frc (fun c => k c H nx) (Nat.add (Nat.mod (Nat.land a 4294967295) (lo b)) (Nat.shiftLeft (hi b) 96)))
    (and' (not' (Nat.beq (lo b) 0)) (and' (or' (and' (Nat.beq (hi a) 24) (Nat.beq (hi b) 8)) (and' (Nat.beq (hi a) 25) (Nat.beq (hi b) 7)))
      (and' (Nat.beq (Nat.mod (Nat.land (Nat.shiftRight a 32) 4294967295) (lo b)) 0) (Nat.ble (lo b) 4294967295))))
def opRem : BinK := fun _ a b H nx k =>
  br (nonneg a b fun h => wrK h (Nat.mod (lo a) (lo b)) H nx k)
    (remSym a b H nx k) (Nat.ble 1901475900342344102245054808064 a)
/-- both of a kind of 64 or 8 bits -/
def bits (a b : Nat) (k : Nat → Out) : Out := ints a b fun h => br (.bad 23) (k h) (or' (Nat.beq h 7) (or' (Nat.beq h 11) (Nat.beq h 8)))
/-- the lowest bit of a byte of which a rest by an even number is known -/
def andSym (a b : Nat) (H : HT) (nx : Nat) (k : K0) : Out := br (.bad 23) (frc (fun c => k c H nx) (Nat.add (Nat.land a 1) 633825300114114700748351602688)) (and' (Nat.beq b 633825300114114700748351602689) (Nat.beq (Nat.land (Nat.shiftRight a 32) 1) 0))
def opAnd : BinK := fun _ a b H nx k => br (bits a b fun h => wrK h (Nat.land (lo a) (lo b)) H nx k) (andSym a b H nx k) (Nat.beq (hi a) 24)
def opOr : BinK := fun _ a b H nx k => bits a b fun h => wrK h (Nat.lor (lo a) (lo b)) H nx k
def opXor : BinK := fun _ a b H nx k => bits a b fun h => wrK h (Nat.xor (lo a) (lo b)) H nx k
def opAndNot : BinK := fun _ _ _ _ _ _ => .bad 23
/-- shifts: the count isn't below 0 -/
def shifts (a b : Nat) (k : Nat → Out) : Out := frc (fun h => br (.bad 23) (k h) (and' (and' (isI h) (isI (hi b))) (not' (sgn (hi b) (lo b))))) (hi a)
def opShl : BinK := fun _ a b H nx k => shifts a b fun h => br (.bad 23) (wrK h (Nat.shiftLeft (lo a) (sel (lo b) 64 (Nat.ble 64 (lo b)))) H nx k) (or' (Nat.beq h 7) (Nat.beq h 11))
/-- a byte of which a rest is known, shifted right -/
def shrSym (a b : Nat) (H : HT) (nx : Nat) (k : K0) : Out := br (.bad 23) (frc (fun m => br (.bad 23)
  (frc (fun c => k c H nx) (Nat.add (Nat.add (Nat.shiftRight (Nat.land a 4294967295) (lo b)) (Nat.shiftLeft (Nat.shiftRight m (lo b)) 32)) 1901475900342344102245054808064))
  (and' (Nat.beq (Nat.shiftLeft (Nat.shiftRight m (lo b)) (lo b)) m) (Nat.ble 1 m))) (Nat.land (Nat.shiftRight a 32) 4294967295)) (and' (isI (hi b)) (Nat.ble (lo b) 7))
def opShr : BinK := fun _ a b H nx k => br (shifts a b fun h => br (.bad 23) (wrK h (Nat.shiftRight (lo a) (sel (lo b) 64 (Nat.ble 64 (lo b)))) H nx k) (not' (sgn h (lo a)))) (shrSym a b H nx k) (Nat.beq (hi a) 24)
/-- ints in order: less -/
def ilt (h a b : Nat) : Bool := @Bool.rec (fun _ => Bool) (Nat.blt a b) (Nat.blt (Nat.mod (Nat.add a 9223372036854775808) 18446744073709551616) (Nat.mod (Nat.add b 9223372036854775808) 18446744073709551616)) (Nat.ble h 7)
def boolK' (b : Bool) (H : HT) (nx : Nat) (k : K0) : Out := br (k 237684487542793012780631851008 H nx) (k 237684487542793012780631851009 H nx) b
/-- an int of which a bound alone is known (tag 26): at most the low 64 bits' number, or (bit 64) at least that -/
def isUp (c : Nat) : Bool := and' (Nat.beq (hi c) 26) (Nat.beq (Nat.land (Nat.shiftRight c 64) 1) 1)
def isDn (c : Nat) : Bool := and' (Nat.beq (hi c) 26) (Nat.beq (Nat.land (Nat.shiftRight c 64) 1) 0)
/-- an int that isn't below 0 -/
def isNn (c : Nat) : Bool := and' (Nat.beq (hi c) 7) (Nat.blt (lo c) 9223372036854775808)
/-- a text of which a bound alone is known: a name (tag 28) with 1 (of 1 to 8 bytes) or 2 (9 to 20) in bits 64 on -/
def isTx (c : Nat) : Bool := and' (Nat.beq (hi c) 28) (Nat.ble 1 (Nat.land (Nat.shiftRight c 64) 3))
/-- an int that is out of another one's bound -/
def farB (a b : Nat) : Bool := and' (isNn b) (or' (and' (isUp a) (Nat.blt (lo b) (lo a))) (and' (isDn a) (Nat.blt (lo a) (lo b))))
/-- cells that are unlike by their bounds -/
def unE (kd a b : Nat) : Bool := or' (and' (Nat.beq kd 12) (or' (and' (isTx a) (Nat.beq b 950737950171172051122527404032)) (and' (isTx b) (Nat.beq a 950737950171172051122527404032)))) (and' (Nat.beq kd 7) (or' (farB a b) (farB b a)))
def ltYes (a b : Nat) : Bool := or' (and' (isNn a) (and' (isUp b) (Nat.blt (lo a) (lo b)))) (and' (isDn a) (and' (isNn b) (Nat.blt (lo a) (lo b))))
def ltNo (a b : Nat) : Bool := or' (and' (isNn a) (and' (isDn b) (Nat.ble (lo b) (lo a)))) (and' (isUp a) (and' (isNn b) (Nat.ble (lo b) (lo a))))
/-- is a less than b, as far as bounds tell -/
def ltS (a b : Nat) (k : Bool → Out) : Out := br (br (.bad 24) (k false) (ltNo a b)) (k true) (ltYes a b)
/-- is one of the two told by a bound? -/
def bnd (a b : Nat) : Bool := or' (Nat.ble 1901475900342344102245054808064 a) (Nat.ble 1901475900342344102245054808064 b)
def cmp (fi : Nat → Bool) (fs : Nat → Nat → Nat → Nat → Bool) (gs : (Bool → Out) → Out) (a b : Nat) (H : HT) (nx : Nat) (k : K0) : Out :=
  br (br (ints a b fun h => boolK' (fi h) H nx k) (strs a b H fun n N m M => boolK' (fs n N m M) H nx k) (isS a)) (gs fun r => boolK' r H nx k) (bnd a b)
def opLss : BinK := fun _ a b H nx k => cmp (fun h => ilt h a b) (fun n N m M => slt n N m M) (fun k => ltS a b k) a b H nx k
def opGtr : BinK := fun _ a b H nx k => cmp (fun h => ilt h b a) (fun n N m M => slt m M n N) (fun k => ltS b a k) a b H nx k
def opLeq : BinK := fun _ a b H nx k => cmp (fun h => not' (ilt h b a)) (fun n N m M => not' (slt m M n N)) (fun k => ltS b a fun r => k (not' r)) a b H nx k
def opGeq : BinK := fun _ a b H nx k => cmp (fun h => not' (ilt h a b)) (fun n N m M => not' (slt n N m M)) (fun k => ltS a b fun r => k (not' r)) a b H nx k
-- equality
/-- a pointer, slice, map, channel, function (of such a type: kd) of which one is nil -/
def eqN (kd a b : Nat) (k : Bool → Out) : Out :=
  br (.bad 25) (k (Nat.beq a b)) (or' (and' (and' (Nat.ble 14 kd) (Nat.ble kd 17)) (and' (and' (Nat.beq (hi a) kd) (Nat.beq (hi b) kd)) (or' (not' (some' a)) (not' (some' b)))))
    (and' (Nat.beq kd 18) (or' (and' (Nat.beq (hi a) 20) (and' (Nat.ble 18 (hi b)) (Nat.ble (hi b) 20))) (and' (Nat.beq (hi b) 20) (and' (Nat.ble 18 (hi a)) (Nat.ble (hi a) 20))))))
def compT (X : Env) (t : TypeId) : Bool := match X.P.info? t with | some i => i.comparable | none => false
/-- interfaces: one is nil, or both hold ints -/
def eqI (lit : Bool) (X : Env) (a b : Nat) (k : Bool → Out) : Out :=
  br (br (br (.bad 27)
        (br (k false) (frc (fun t => br (.bad 26) (k (Nat.beq a b)) (and' (compT X t) (and' (isI (kindT X t)) (and' (Nat.beq (Nat.land (hi a) 255) (kindT X t)) (Nat.beq (Nat.land (hi b) 255) (kindT X t)))))) (Nat.pred (Nat.shiftRight a 104)))
          (Nat.beq (Nat.shiftRight a 104) (Nat.shiftRight b 104))) (and' (Nat.ble 256 (hi a)) (Nat.ble 256 (hi b))))
      (k false) (or' (and' (Nat.beq (hi a) 21) (Nat.ble 256 (hi b))) (and' (Nat.beq (hi b) 21) (Nat.ble 256 (hi a)))))
    (br (.bad 28) (k true) lit) (and' (Nat.beq (hi a) 21) (Nat.beq (hi b) 21))
/-- the plain kinds of a value's cells, in order -/
def plainT (P : Program) : Nat → TypeId → Option (List Nat)
  | 0, _ => none
  | d + 1, t => match P.underlying t with
    | some (.int k) => if P.cellsOf t = 1 then some [intTag k] else none
    | some .bool => if P.cellsOf t = 1 then some [3] else none
    | some .string => if P.cellsOf t = 1 then some [12] else none
    | some (.struct fs) => (match fs.toList.foldl (fun acc f => match acc with | none => none | some l => if f.offset = l.length then (match plainT P d f.type with | some l' => some (l ++ l') | none => none) else none) (some []) with
      | some l => if P.cellsOf t = l.length then some l else none
      | none => none)
    | _ => none
/-- plain cells of kind kd -/
def eqK (kd a b : Nat) (H : HT) (k : Bool → Out) : Out :=
  br (br (br (.bad 30) (k (Nat.beq a b)) (and' (Nat.ble 3 kd) (and' (Nat.ble kd 11) (and' (Nat.beq (hi a) kd) (Nat.beq (hi b) kd)))))
    (strs a b H fun n N m M => br (.bad 30) (k (and' (Nat.beq n m) (Nat.beq N M))) (and' (Nat.ble n 16777214) (Nat.ble m 16777214))) (Nat.beq kd 12)) (k false) (unE kd a b)
def eqA (H : HT) (k : Bool → Out) (ks : List Nat) (N M : Nat) : Out :=
  @List.rec Nat (fun _ => Bool → Nat → Nat → Out) (fun acc _ _ => k acc)
    (fun kd _ ih acc N M => frc (fun a => frc (fun b => eqK kd a b H fun e => frc (fun N => frc (fun M => br (ih false N M) (ih acc N M) e) (Nat.shiftRight M 128)) (Nat.shiftRight N 128)) (dig M 1)) (dig N 1)) ks true N M
def isLit (x : Operand) : Bool := match x with | .const _ => true | _ => false
def litOf (x y : Operand) : Bool := or' (isLit x) (isLit y)
def eqAny (lit : Bool) (X : Env) (t : TypeId) (a b : Nat) (H : HT) (k : Bool → Out) : Out :=
  br (br (br (eqN (kindT X t) a b k) (eqI lit X a b k) (Nat.beq (kindT X t) 21))
      (match plainT X.P 8 t with
       | some ks => br (.bad 29) (aggK H a fun n N => aggK H b fun m M => br (.bad 30) (eqA H k ks N M) (and' (Nat.beq n ks.length) (Nat.beq m ks.length))) (X.P.keyTypeAt 8 t)
       | none => .bad 29) (Nat.beq (kindT X t) 1))
    (eqK (kindT X t) a b H k) (and' (Nat.ble 3 (kindT X t)) (Nat.ble (kindT X t) 12))
def noBin : BinK := fun _ _ _ _ _ _ => .bad 31
def binF : BinOp → BinK := @BinOp.rec (fun _ => BinK) opAdd opSub opMul opQuo opRem opAnd opOr opXor opShl opShr opAndNot noBin noBin opLss opLeq opGtr opGeq
abbrev CallT := Nat → Nat → HT → Nat → K0 → Out
abbrev OpK := Env → CallT → FR → HT → Nat → K0 → Out
def eEql (t : TypeId) (x y : Operand) : OpK := fun X _ f H nx k => arg2 x y f H nx fun a b H nx => eqAny (litOf x y) X t a b H fun e => boolK' e H nx k
def eNeq (t : TypeId) (x y : Operand) : OpK := fun X _ f H nx k => arg2 x y f H nx fun a b H nx => eqAny (litOf x y) X t a b H fun e => boolK' (not' e) H nx k
def eBin0 (op : BinOp) (_t : TypeId) (x y : Operand) : OpK := fun _ _ f H nx k => arg2 x y f H nx fun a b H nx => binF op true a b H nx k
def eBin : BinOp → TypeId → Operand → Operand → TypeId → OpK := fun op t x y _ =>
  @BinOp.rec (fun _ => BinOp → TypeId → Operand → Operand → OpK) eBin0 eBin0 eBin0 eBin0 eBin0 eBin0 eBin0 eBin0 eBin0 eBin0 eBin0 (fun _ => eEql) (fun _ => eNeq) eBin0 eBin0 eBin0 eBin0 op op t x y
def eMove (x : Operand) : OpK := fun _ _ f H nx k => arg x f H nx k
def boolK (c : Nat) (yes no : Out) : Out := br (br (.bad 31) no (Nat.beq c 237684487542793012780631851008)) yes (Nat.beq c 237684487542793012780631851009)
def ePick (c a b : Operand) : OpK := fun _ _ f H nx k => arg c f H nx fun c H nx => boolK c (arg a f H nx k) (arg b f H nx k)
def unF : UnOp → Nat → HT → Nat → K0 → Out
  | .not => fun a H nx k => boolK a (k 237684487542793012780631851008 H nx) (k 237684487542793012780631851009 H nx)
  | .neg => fun a H nx k => ints a a fun h => wrK h (Nat.sub 340282366920938463463374607431768211456 (lo a)) H nx k
  | .xor => fun _ _ _ _ => .bad 32
  | .plus => fun _ _ _ _ => .bad 32
def eUn (op : UnOp) (_t : TypeId) (x : Operand) : OpK := fun _ _ f H nx k => arg x f H nx fun a H nx => unF op a H nx k
/-- a new row of n cells -/
def newRow (n N e : Nat) (op : Bool) (H : HT) (nx : Nat) (k : K0) : Out := frc (fun n => frc (fun N => br (.bad 33) (new (.row n N e op) H nx k) (Nat.ble n 16777214)) N) n
def newVar (n N e : Nat) (H : HT) (nx : Nat) (k : K0) : Out := newRow n N e false H nx fun i H nx => ptrK i 0 H nx k
def eAlloc (t : TypeId) : OpK := fun X _ _ H nx k => br (.bad 33) (newVar (znT X t) (zNT X t) t H nx k) (zokT X t)
def eBox (t : TypeId) (x : Operand) : OpK := fun X _ f H nx k => arg x f H nx fun a H nx =>
  br (br (.bad 34) (newVar 1 (Nat.shiftLeft a 128) t H nx k) (and' (Nat.ble 237684487542793012780631851008 a) (not' (Nat.beq a 1822247737828079764651510857728)))) (aggK H a fun n N => newVar n N t H nx k) (Nat.beq (hi a) 1)
/-- parts laid into cells -/
def fill (place : Nat → Option (Nat × TypeId)) (f : FR) (X : Env) (k : K0) (ps : List (Nat × Operand)) (n N : Nat) (H : HT) (nx : Nat) : Out :=
  @List.rec (Nat × Operand) (fun _ => Nat → HT → Nat → Out) (fun N H nx => k N H nx)
    (fun p _ ih N H nx => match place p.1 with
      | some (o, t) => arg p.2 f H nx fun c H nx => br (.bad 35) (lay (aggT X t) (szT X t) N o c H fun N => ih N H nx) (Nat.ble (Nat.add o (szT X t)) n)
      | none => .bad 35) ps N H nx
def placeB (X : Env) (t : TypeId) (i : Nat) : Option (Nat × TypeId) := match arrT X t with | some _ => some (i * szT X (elemT X t), elemT X t) | none => fieldT X t i
def placeE (X : Env) (t : TypeId) (i : Nat) : Option (Nat × TypeId) := some (i * szT X (elemT X t), elemT X t)
def eBuild (t : TypeId) (ps : Array (Nat × Operand)) : OpK := fun X _ f H nx k =>
  br (.bad 36) (fill (placeB X t) f X (fun N H nx => newAgg (znT X t) N H nx k) ps.toList (znT X t) (zNT X t) H nx) (and' (zokT X t) (aggT X t))
/-- n times m cells (those of M from digit 1 on): from digit 1 on -/
def rep (n m M : Nat) : Nat := Nat.shiftLeft (Nat.mul (Nat.shiftRight M 128) (Nat.div (Nat.pred (Nat.shiftLeft 1 (Nat.shiftLeft (Nat.mul n m) 7))) (Nat.pred (Nat.shiftLeft 1 (Nat.shiftLeft m 7))))) 128
def eBuildSlice (t : TypeId) (n : Nat) (ps : Array (Nat × Operand)) : OpK := fun X _ f H nx k =>
  br (.bad 37) (fill (placeE X t) f X (fun N H nx => newRow (Nat.mul n (znT X (elemT X t))) N (elemT X t) false H nx fun i H nx => slK i 0 n n H nx k) ps.toList (Nat.mul n (znT X (elemT X t))) (rep n (znT X (elemT X t)) (zNT X (elemT X t))) H nx) (and' (zokT X (elemT X t)) (Nat.beq (kindT X t) 15))
def eLoad (t : TypeId) (x : Operand) : OpK := fun X _ f H nx k => arg x f H nx fun p H nx =>
  br (.bad 38) (rowK H (blk p) fun n N _ _ => br (.bad 39) (take (aggT X t) (szT X t) N (off p) H nx k) (and' (Nat.ble 1 (szT X t)) (Nat.ble (Nat.add (off p) (szT X t)) n))) (isPtr p)
def setRow (b n N e : Nat) (op : Bool) (H : HT) (k : HT → Out) : Out := set H (.row n N e op) b k
def eStore (t : TypeId) (x y : Operand) : OpK := fun X _ f H nx k => arg2 x y f H nx fun p c H nx =>
  br (.bad 40) (frc (fun b => rowK H b fun n N e op => br (.bad 41) (lay (aggT X t) (szT X t) N (off p) c H fun N => setRow b n N e op H fun H => k 1822247737828079764651510857728 H nx) (Nat.ble (Nat.add (off p) (szT X t)) n)) (blk p)) (isPtr p)
def eNil (x : Operand) : OpK := fun _ _ f H nx k => arg x f H nx fun c H nx =>
  br (.bad 42) (k c H nx) (or' (isPtr c) (or' (Nat.ble 256 (hi c)) (or' (Nat.beq (hi c) 18) (Nat.beq (hi c) 19))))
/-- a count: not below 0, not great -/
def natK (c : Nat) (k : Nat → Out) : Out := br (.bad 50) (frc k (lo c)) (and' (isI (hi c)) (Nat.ble (lo c) 16777214))
/-- bytes as a text -/
def bytesText (N o n : Nat) (k : Nat → Out) : Out :=
  @Nat.rec (fun _ => Nat → Nat → Out) (fun _ s => k s)
    (fun _ ih o s => frc (fun c => br (.bad 53) (frc (fun s => frc (fun o => ih o s) (Nat.pred o)) (Nat.add (Nat.land c 255) (Nat.shiftLeft s 8))) (Nat.beq (hi c) 8)) (dig N o)) n (Nat.add o n) 0
/-- a text as cells, from digit 1 on -/
def textCells (n S : Nat) (k : Nat → Out) : Out :=
  @Nat.rec (fun _ => Nat → Nat → Out) (fun N _ => k N)
    (fun _ ih N j => frc (fun N => frc (fun j => ih N j) (Nat.succ j)) (Nat.add N (Nat.shiftLeft (Nat.add (Nat.land (Nat.shiftRight S (Nat.shiftLeft j 3)) 255) 633825300114114700748351602688) (Nat.shiftLeft (Nat.succ j) 7)))) n 0 0
def cvText (X : Env) (s : TypeId) (a : Nat) (H : HT) (nx : Nat) (k : K0) : Out :=
  br (.bad 52) (br (br (.bad 52) (rowK H (blk a) fun m N _ _ => br (.bad 52) (frc (fun n => bytesText N (off a) n fun S => mkStr n S H nx k) (sln a)) (Nat.ble (Nat.add (off a) (sln a)) m))
        (isSl a))
     (k 950737950171172051122527404032 H nx) (Nat.beq a 1188422437713965063903159255040)) (Nat.beq (kindT X (elemT X s)) 8)
def cvBytes (X : Env) (d : TypeId) (a : Nat) (H : HT) (nx : Nat) (k : K0) : Out :=
  br (.bad 54) (str a H fun n S => textCells n S fun N => newRow n N (elemT X d) true H nx fun i H nx => slU i 0 n (szT X (elemT X d)) H nx k) (and' (Nat.beq (kindT X (elemT X d)) 8) (Nat.beq (szT X (elemT X d)) 1))
def cvSym (a : Nat) (H : HT) (nx : Nat) (k : K0) : Out := frc (fun c => k c H nx) (Nat.add (Nat.mod a 18446744073709551616) 1980704062856608439838598758400)
def eConvert (s d : TypeId) (x : Operand) : OpK := fun X _ f H nx k => arg x f H nx fun a H nx => br (.bad 51) (
  br (br (br (br (br (.bad 51)
        (k a H nx) (and' (Nat.beq (kindT X d) 12) (isS a)))
      (cvBytes X d a H nx k) (and' (Nat.beq (kindT X d) 15) (isS a)))
      (cvText X s a H nx k) (and' (Nat.beq (kindT X s) 15) (Nat.beq (kindT X d) 12)))
      (ints a a fun _ => wrK (kindT X d) (lo a) H nx k) (and' (isI (kindT X d)) (isI (hi a))))
      (cvSym a H nx k) (and' (Nat.beq (hi a) 24) (Nat.beq (kindT X d) 7))) (Nat.ble 1 (kindT X s))
def eIface (t : TypeId) (x : Operand) : OpK := fun X _ f H nx k => arg x f H nx fun a H nx =>
  br (.bad 55) (frc (fun c => k c H nx) (Nat.add a (Nat.shiftLeft (Nat.succ t) 104))) (and' (not' (Nat.beq (kindT X t) 21)) (and' (not' (Nat.beq (kindT X t) 0)) (and' (Nat.blt t 16777214) (and' (not' (Nat.beq (hi a) 19)) (and' (Nat.ble 3 (hi a)) (Nat.ble (hi a) 21))))))
/-- operands packed, from digit 1 on; k: the digits -/
def packK (f : FR) (k : K0) (xs : List Operand) (H : HT) (nx : Nat) : Out :=
  @List.rec Operand (fun _ => Nat → Nat → HT → Nat → Out) (fun _ N H nx => k N H nx)
    (fun x _ ih j N H nx => arg x f H nx fun c H nx => frc (fun N => frc (fun j => ih j N H nx) (Nat.succ j)) (Nat.add N (Nat.shiftLeft c (Nat.shiftLeft j 7)))) xs 1 0 H nx
/-- the same, plain cells alone -/
def packC (f : FR) (k : K0) (xs : List Operand) (H : HT) (nx : Nat) : Out :=
  @List.rec Operand (fun _ => Nat → Nat → HT → Nat → Out) (fun _ N H nx => k N H nx)
    (fun x _ ih j N H nx => arg x f H nx fun c H nx => br (.bad 56) (frc (fun N => frc (fun j => ih j N H nx) (Nat.succ j)) (Nat.add N (Nat.shiftLeft c (Nat.shiftLeft j 7)))) (and' (Nat.ble 237684487542793012780631851008 c) (and' (not' (Nat.beq c 1822247737828079764651510857728)) (not' (Nat.beq (hi c) 19))))) xs 1 0 H nx
def eMakeFunc (fn : Fn) (a b : Array Operand) : OpK := fun _ _ f H nx k =>
  match fn with
  | .func g => packC f (fun N1 H nx => packC f (fun N2 H nx => new (.clo g a.size N1 b.size N2) H nx fun i H nx => frc (fun c => k c H nx) (Nat.add i 1505335087771022414277335056384)) b.toList H nx) a.toList H nx
  | _ => .bad 56
def mkMap (i : Nat) : Nat := Nat.add (Nat.succ i) 1267650600228229401496703205376
def eMakeMap (_t : TypeId) (r : Option Operand) : OpK := fun _ _ _ H nx k =>
  match r with
  | none => new (.map 0 0 .nil) H nx fun i H nx => frc (fun c => k c H nx) (mkMap i)
  | some _ => .bad 57
def eMakeChan (t : TypeId) (x : Operand) : OpK := fun X _ f H nx k => arg x f H nx fun c H nx => natK c fun n => br (.bad 59) (new (.chan n 0 0) H nx fun i H nx => frc (fun c => k c H nx) (Nat.add (Nat.succ i) 1346878762742493739090247155712)) (and' (Nat.beq (kindT X t) 17) (zokT X (elemT X t)))
def eMakeSlice (t : TypeId) (l c : Operand) : OpK := fun X _ f H nx k => arg2 l c f H nx fun a b H nx => natK a fun n => natK b fun m =>
  br (.bad 58) (newRow (Nat.mul m (znT X (elemT X t))) (rep m (znT X (elemT X t)) (zNT X (elemT X t))) (elemT X t) false H nx fun i H nx => slK i 0 n m H nx k) (and' (zokT X (elemT X t)) (and' (Nat.ble n m) (Nat.beq (kindT X t) 15)))
def eFieldAddr (t : TypeId) (x : Operand) (i : Nat) : OpK := fun X _ f H nx k => arg x f H nx fun p H nx =>
  match fieldT X t i with
  | some (o, u) => br (.bad 60) (ptrK (blk p) (Nat.add (off p) o) H nx k) (and' (isPtr p) (Nat.ble 1 (szT X u)))
  | none => .bad 61
def eField (t : TypeId) (x : Operand) (i : Nat) : OpK := fun X _ f H nx k => arg x f H nx fun a H nx =>
  match fieldT X t i with
  | some (o, u) => aggK H a fun n N => br (.bad 62) (take (aggT X u) (szT X u) N o H nx k) (and' (Nat.ble 1 (szT X u)) (Nat.ble (Nat.add o (szT X u)) n))
  | none => .bad 63
def eIndexAddr (t : TypeId) (x i : Operand) : OpK := fun X _ f H nx k => arg2 x i f H nx fun a c H nx => natK c fun j =>
  br (match arrT X t with
      | some n => br (.bad 64) (ptrK (blk a) (Nat.add (off a) (Nat.mul j (szT X (elemT X t)))) H nx k) (and' (isPtr a) (and' (Nat.ble 1 (szT X (elemT X t))) (Nat.blt j n)))
      | none => .bad 64)
    (br (.bad 65) (ptrK (blk a) (Nat.add (off a) (Nat.mul j (szT X (elemT X t)))) H nx k) (and' (Nat.ble 1 (szT X (elemT X t))) (Nat.blt j (sln a)))) (and' (isSl a) (Nat.beq (kindT X t) 15))
def eIndex (t : TypeId) (x i : Operand) : OpK := fun X _ f H nx k => arg2 x i f H nx fun a c H nx => natK c fun j =>
  br (match arrT X t with
      | some n => aggK H a fun m N => br (.bad 66) (take (aggT X (elemT X t)) (szT X (elemT X t)) N (Nat.mul j (szT X (elemT X t))) H nx k) (and' (Nat.blt j n) (and' (Nat.ble 1 (szT X (elemT X t))) (Nat.ble (Nat.add (Nat.mul j (szT X (elemT X t))) (szT X (elemT X t))) m)))
      | none => .bad 67)
    (str a H fun n S => br (.bad 68) (frc (fun c => k c H nx) (Nat.add (Nat.land (Nat.shiftRight S (Nat.shiftLeft j 3)) 255) 633825300114114700748351602688)) (Nat.blt j n)) (and' (isS a) (Nat.beq (kindT X t) 12))
def optK (x : Option Operand) (d : Nat) (f : FR) (H : HT) (nx : Nat) (k : K0) : Out :=
  @Option.rec Operand (fun _ => Nat → FR → HT → Nat → K0 → Out) (fun d _ H nx k => k d H nx) (fun x _ f H nx k => arg x f H nx fun c H nx => natK c fun n => k n H nx) x d f H nx k
/-- a part of what lies at block b from cell o on: s cells an element, the bound m known -/
def partK (b o s l h m : Nat) (H : HT) (nx : Nat) (k : K0) : Out := br (slK b (Nat.add o (Nat.mul l s)) (Nat.sub h l) (Nat.sub m l) H nx k) (slK b o 0 0 H nx k) (Nat.beq m l)
def slNil (a l : Nat) (h m : Option Operand) (f : FR) (H : HT) (nx : Nat) (k : K0) : Out :=
  optK h 0 f H nx fun h H nx => optK m 0 f H nx fun m H nx => br (.bad 71) (k a H nx) (and' (Nat.beq l 0) (and' (Nat.beq h 0) (Nat.beq m 0)))
def slStr (a l : Nat) (h : Option Operand) (f : FR) (H : HT) (nx : Nat) (k : K0) : Out :=
  str a H fun n S => optK h n f H nx fun h H nx => br (.bad 75)
      (frc (fun n' => frc (fun S => mkStr n' S H nx k) (Nat.mod (Nat.shiftRight S (Nat.shiftLeft l 3)) (Nat.shiftLeft 1 (Nat.shiftLeft n' 3)))) (Nat.sub h l)) (and' (Nat.ble l h) (Nat.ble h n))
/-- the capacity known -/
def slKnown (a l s : Nat) (h m : Option Operand) (f : FR) (H : HT) (nx : Nat) (k : K0) : Out :=
  optK h (sln a) f H nx fun h H nx => optK m (scp a) f H nx fun m H nx => br (.bad 72) (partK (blk a) (off a) s l h m H nx k) (and' (Nat.ble l h) (and' (Nat.ble h m) (Nat.ble m (scp a))))
/-- not known: n elements are there at the least -/
def slOpenB (a l s kb : Nat) (h m : Option Operand) (f : FR) (H : HT) (nx : Nat) (k : K0) : Out :=
  optK h (sln a) f H nx fun h H nx =>
    @Option.rec Operand (fun _ => Out)
      (br (.bad 77) (br (slU (blk a) (Nat.add (off a) (Nat.mul l s)) (Nat.sub h l) s H nx k) (k 1743019575313815427057966907392 H nx) (Nat.beq l kb)) (and' (Nat.ble l h) (Nat.ble h kb)))
      (fun x => arg x f H nx fun c H nx => natK c fun m => br (.bad 76) (partK (blk a) (off a) s l h m H nx k) (and' (Nat.ble l h) (and' (Nat.ble h m) (Nat.ble m kb)))) m
/-- the row's own bound serves -/
def slOpen (a l s : Nat) (h m : Option Operand) (f : FR) (H : HT) (nx : Nat) (k : K0) : Out :=
  rowK H (blk a) fun n _ _ _ => frc (fun kb => slOpenB a l s kb h m f H nx k) (Nat.div (Nat.sub n (off a)) s)
def slArr (X : Env) (t : TypeId) (a l : Nat) (h m : Option Operand) (f : FR) (H : HT) (nx : Nat) (k : K0) : Out :=
  match arrT X t with
  | some n => optK h n f H nx fun h H nx => optK m n f H nx fun m H nx => br (.bad 73) (partK (blk a) (off a) (szT X (elemT X t)) l h m H nx k) (and' (Nat.ble l h) (and' (Nat.ble h m) (Nat.ble m n)))
  | none => .bad 74
def noneB (m : Option Operand) : Bool := match m with | none => true | some _ => false
/-- a third bound wants a second one -/
def hiMax (h m : Option Operand) (k : Out) : Out := @Option.rec Operand (fun _ => Out) k (fun _ => @Option.rec Operand (fun _ => Out) (.bad 79) (fun _ => k) h) m
/-- pure: does the row's own bound serve? -/
def eSlice0 (own : Bool) (t : TypeId) (x : Operand) (l h m : Option Operand) : OpK := fun X _ f H nx k => arg x f H nx fun a H nx => hiMax h m <| optK l 0 f H nx fun l H nx =>
  br (br (br (br (.bad 70)
      (slNil a l h m f H nx k) (and' (or' (Nat.beq a 1188422437713965063903159255040) (Nat.beq a 1743019575313815427057966907392)) (Nat.beq (kindT X t) 15)))
      (br (slKnown a l (szT X (elemT X t)) h m f H nx k)
        (br (.bad 78) (br (slOpenB a l (szT X (elemT X t)) (sln a) h m f H nx k) (slOpen a l (szT X (elemT X t)) h m f H nx k) own) (Nat.beq (scp a) (opn (szT X (elemT X t))))) (isOpn a)) (and' (isSl a) (Nat.beq (kindT X t) 15)))
      (slArr X t a l h m f H nx k) (isPtr a))
      (slStr a l h f H nx k) (and' (and' (isS a) (Nat.beq (kindT X t) 12)) (noneB m))
def eSlice : TypeId → Operand → Option Operand → Option Operand → Option Operand → OpK := eSlice0 true
-- maps
def keyK (kt c : Nat) (k : Out) : Out := br (.bad 80) k (and' (Nat.ble 3 kt) (Nat.beq (hi c) kt))
def mapNil (m : Nat) (k : Out) : Out := br (.bad 84) k (and' (Nat.beq (hi m) 16) (some' m))
/-- a key's value; 0: none -/
def look (key : Nat) : ML → Nat := @ML.rec (fun _ => Nat) 0 (fun k v _ _ ih => sel ih v (Nat.beq k key))
/-- a key's birth -/
def lookB (key : Nat) : ML → Nat := @ML.rec (fun _ => Nat) 0 (fun k _ b _ ih => sel ih b (Nat.beq k key))
/-- the key's value put to v -/
def updM (key v : Nat) : ML → (ML → Out) → Out :=
  @ML.rec (fun _ => (ML → Out) → Out) (fun k => k .nil) (fun k' v' b' l ih k => br (ih fun l => k (.cons k' v' b' l)) (k (.cons k' v b' l)) (Nat.beq k' key))
/-- the value of the entry of that birth put to v -/
def updB (born v : Nat) : ML → (ML → Out) → Out :=
  @ML.rec (fun _ => (ML → Out) → Out) (fun _ => .bad 79) (fun k' v' b' l ih k => br (ih fun l => k (.cons k' v' b' l)) (k (.cons k' v b' l)) (Nat.beq b' born))
/-- the key's entry away -/
def delM (key : Nat) : ML → (ML → Out) → Out :=
  @ML.rec (fun _ => (ML → Out) → Out) (fun k => k .nil) (fun k' v' b' l ih k => br (ih fun l => k (.cons k' v' b' l)) (k l) (Nat.beq k' key))
/-- are the map's keys of the key's kind? -/
def headK (key : Nat) (l : ML) (k : Out) : Out := @ML.rec (fun _ => Out) k (fun k' _ _ _ _ => br (.bad 80) k (Nat.beq (hi k') (hi key))) l
/-- a value, no tuple -/
def valOk (v : Nat) : Bool := and' (Nat.ble 79228162514264337593543950336 v) (and' (not' (Nat.beq v 1822247737828079764651510857728)) (not' (Nat.beq (hi v) 2)))
/-- the zero value as a cell -/
def zeroC (X : Env) (t : TypeId) (H : HT) (nx : Nat) (k : K0) : Out :=
  match X.P.info? t with
  | some i => (match i.zero with | some v => constK v f0 H nx k | none => .bad 81)
  | none => .bad 82
def pair (a b : Nat) (H : HT) (nx : Nat) (k : K0) : Out := newTup 2 (Nat.add (Nat.shiftLeft a 128) (Nat.shiftLeft b 256)) H nx k
def okK (ok : Bool) (v b : Nat) (H : HT) (nx : Nat) (k : K0) : Out := br (k v H nx) (pair v b H nx k) ok
def eLookup (t : TypeId) (x i : Operand) (ok : Bool) : OpK := fun X _ f H nx k => arg2 x i f H nx fun m key H nx => keyK (keyT X t) key <|
  br (.bad 83) (br
    (mapK H (blk m) fun _ _ l => headK key l <| frc (fun v => br (zeroC X (elemT X t) H nx fun v H nx => okK ok v 237684487542793012780631851008 H nx k) (okK ok v 237684487542793012780631851009 H nx k) (Nat.ble 1 v)) (look key l))
    (zeroC X (elemT X t) H nx fun v H nx => okK ok v 237684487542793012780631851008 H nx k) (Nat.beq m 1267650600228229401496703205376)) (Nat.beq (hi m) 16)
def setMap (b c q : Nat) (l : ML) (H : HT) (k : HT → Out) : Out := frc (fun c => frc (fun q => set H (.map c q l) b k) q) c
def eMapUpdate (t : TypeId) (m key v : Operand) : OpK := fun X _ f H nx k => arg2 m key f H nx fun m key H nx => arg v f H nx fun v H nx => keyK (keyT X t) key <| mapNil m <| br (.bad 86)
  (frc (fun b => mapK H b fun c q l => headK key l <|
      br (setMap b (Nat.succ c) (Nat.succ q) (.cons key v q l) H fun H => k 1822247737828079764651510857728 H nx) (updM key v l fun l => setMap b c q l H fun H => k 1822247737828079764651510857728 H nx) (Nat.ble 1 (look key l))) (blk m)) (valOk v)
/-- a key's entry, made if there is none: its value, its birth -/
def eMapEntry (t : TypeId) (m key : Operand) : OpK := fun X _ f H nx k => arg2 m key f H nx fun m key H nx => keyK (keyT X t) key <| mapNil m <|
  frc (fun b => mapK H b fun c q l => headK key l <| br (.bad 84) (
    br (zeroC X (elemT X t) H nx fun v H nx => setMap b (Nat.succ c) (Nat.succ q) (.cons key v q l) H fun H => pair v (intC q) H nx k)
      (pair (look key l) (intC (lookB key l)) H nx k) (Nat.ble 1 (look key l))) (Nat.ble q 16777214)) (blk m)
def eEntryStore (_t : TypeId) (m s v : Operand) : OpK := fun _ _ f H nx k => arg2 m s f H nx fun m s H nx => arg v f H nx fun v H nx => mapNil m <| natK s fun s => br (.bad 86)
  (frc (fun b => mapK H b fun c q l => updB s v l fun l => setMap b c q l H fun H => k 1822247737828079764651510857728 H nx) (blk m)) (valOk v)
def eAssert (x : Operand) (_t u : TypeId) (ok : Bool) : OpK := fun X _ f H nx k => arg x f H nx fun a H nx =>
  br (br (.bad 85)
    (br (br (.bad 86) (zeroC X u H nx fun v H nx => pair v 237684487542793012780631851008 H nx k) ok)
        (frc (fun c => okK ok c 237684487542793012780631851009 H nx k) (Nat.mod a 20282409603651670423947251286016)) (Nat.beq (Nat.shiftRight a 104) (Nat.succ u))) (Nat.ble 256 (hi a)))
    (.bad 87) (or' (Nat.beq (kindT X u) 21) (Nat.beq (kindT X u) 0))
def eExtract (x : Operand) (i : Nat) : OpK := fun _ _ f H nx k => arg x f H nx fun a H nx => tupK H a fun n N => br (.bad 88) (frc (fun c => k c H nx) (dig N (Nat.succ i))) (Nat.blt i n)
-- builtins
/-- a text's or slice's length -/
def lenS (kd a : Nat) (H : HT) (k : Nat → Out) : Out := br (br (br (.bad 90) (k 0) (and' (Nat.beq kd 15) (or' (Nat.beq a 1188422437713965063903159255040) (Nat.beq a 1743019575313815427057966907392)))) (frc k (sln a)) (and' (Nat.beq kd 15) (isSl a))) (str a H fun n _ => k n) (and' (Nat.beq kd 12) (isS a))
def lenK (kd a : Nat) (H : HT) (k : Nat → Out) : Out :=
  br (br (lenS kd a H k) (br (k 0) (chanK H (blk a) fun _ n _ => k n) (some' a)) (and' (Nat.beq kd 17) (Nat.beq (hi a) 17))) (br (k 0) (mapK H (blk a) fun c _ _ => k c) (some' a)) (and' (Nat.beq kd 16) (Nat.beq (hi a) 16))
/-- a slice's or text's cells: their count, digits from 1 on -/
def cellsK (s a : Nat) (H : HT) (k : Nat → Nat → Out) : Out :=
  br (br (br (.bad 91) (k 0 0) (or' (Nat.beq a 1188422437713965063903159255040) (Nat.beq a 1743019575313815427057966907392)))
     (rowK H (blk a) fun n N _ _ => br (.bad 92) (frc (fun m => frc (fun M => k m M) (digs N (off a) (Nat.succ (Nat.mul m s)))) (sln a)) (Nat.ble (Nat.add (off a) (Nat.mul (sln a) s)) n)) (isSl a))
    (br (.bad 91) (str a H fun n S => textCells n S fun N => k n N) (Nat.beq s 1)) (isS a)
/-- the digits from 1 on alone -/
def low1 (N : Nat) : Nat := Nat.shiftLeft (Nat.shiftRight N 128) 128
def join (n s N M : Nat) : Nat := Nat.add N (Nat.shiftLeft (low1 M) (Nat.shiftLeft (Nat.mul n s) 7))
/-- a new row for an append: its capacity not known -/
def grow (e s n N m M : Nat) (H : HT) (nx : Nat) (k : K0) : Out :=
  newRow (Nat.mul (Nat.add n m) s) (join n s N M) e true H nx fun i H nx => slU i 0 (Nat.add n m) s H nx k
/-- m elements laid into a row from cell o on -/
def layRow (b o s m M : Nat) (H : HT) (k : HT → Out) : Out :=
  rowK H b fun n' N e op => br (.bad 93) (frc (fun R => setRow b n' R e op H k) (puts N (Nat.succ o) (Nat.mul m s) (Nat.mod (Nat.shiftRight M 128) (Nat.shiftLeft 1 (Nat.shiftLeft (Nat.mul m s) 7))))) (Nat.ble (Nat.add o (Nat.mul m s)) n')
def inPlace (a s m M : Nat) (H : HT) (nx : Nat) (k : K0) : Out :=
  frc (fun b => layRow b (Nat.add (off a) (Nat.mul (sln a) s)) s m M H fun H => frc (fun n => br (.bad 93) (slG b (off a) n (scp a) H nx k) (Nat.ble n 16777214)) (Nat.add (sln a) m)) (blk a)
def kill (b : Nat) (H : HT) (k : HT → Out) : Out := set H .dead b k
/-- an append of m elements whose cells are M's digits from 1 on -/
def app (e s a m M : Nat) (H : HT) (nx : Nat) (k : K0) : Out :=
    br (cellsK s a H fun n N =>
        br (grow e s n N m M H nx k)
           (br (br (grow e s n N m M H nx k) (inPlace a s m M H nx k) (Nat.ble (Nat.add n m) (scp a)))
              (rowK H (blk a) fun n' _ _ _ => br (.bad 89) (br (kill (blk a) H fun H => grow e s n N m M H nx k) (inPlace a s m M H nx k) (Nat.ble (Nat.add (off a) (Nat.mul (Nat.add n m) s)) n')) (Nat.beq (scp a) (opn s)))
              (isOpn a)) (isSl a))
      (k a H nx) (Nat.beq m 0)
def bAppend (t u : TypeId) (a b : Nat) (X : Env) (H : HT) (nx : Nat) (k : K0) : Out :=
  frc (fun s => br (.bad 89) (br (cellsK s b H fun m M => app (elemT X t) s a m M H nx k)
    (natK b fun m => frc (fun M => app (elemT X t) s a m M H nx k) (rep m (znT X (elemT X t)) (zNT X (elemT X t)))) (isI (kindT X u)))
    (and' (Nat.ble 1 s) (and' (Nat.beq (kindT X t) 15) (and' (or' (Nat.beq a 1188422437713965063903159255040) (isSl a)) (and' (zokT X (elemT X t)) (Nat.ble 1 (kindT X u))))))) (szT X (elemT X t))
def bCopy (t : TypeId) (a b : Nat) (X : Env) (H : HT) (nx : Nat) (k : K0) : Out :=
  frc (fun s => br (.bad 94) (cellsK s b H fun m M => lenS 15 a H fun n => frc (fun c =>
    br (frc (fun b => layRow b (off a) s c M H fun H => frc (fun r => k r H nx) (intC c)) (blk a))
      (k (intC 0) H nx) (Nat.beq c 0)) (sel m n (Nat.ble n m))) (and' (Nat.ble 1 s) (Nat.beq (kindT X t) 15))) (szT X (elemT X t))
def bDelete (t : TypeId) (m key : Nat) (X : Env) (H : HT) (nx : Nat) (k : K0) : Out := keyK (keyT X t) key <|
  br (.bad 95) (br (k 1822247737828079764651510857728 H nx) (frc (fun b => mapK H b fun c q l => headK key l <| br (k 1822247737828079764651510857728 H nx) (delM key l fun l => setMap b (Nat.pred c) q l H fun H => k 1822247737828079764651510857728 H nx) (Nat.ble 1 (look key l))) (blk m)) (some' m)) (Nat.beq (hi m) 16)
def argT (ts : Array TypeId) (i : Nat) : TypeId := match ts.toList[i]? with | some t => t | none => 0
/-- a type that is told -/
def withT (ts : Array TypeId) (i : Nat) (F : TypeId → Out) : Out := match ts.toList[i]? with | some t => F t | none => .bad 101
def nth (xs : Array Operand) (i : Nat) : Operand := match xs.toList[i]? with | some x => x | none => .global 0
/-- the one of two that is greater (less), as far as bounds tell; the less of a number that is at least so much and one that is, is at least so much -/
def mmS (mx : Bool) (a b : Nat) (k : Nat → Out) : Out := @Bool.rec (fun _ => Out)
  (br (ltS b a fun r => k (sel a b r)) (k a) (and' (isUp a) (and' (isNn b) (Nat.ble (lo a) (lo b))))) (ltS a b fun r => k (sel a b r)) mx
def minmax (mx : Bool) (f : FR) (k : K0) (xs : List Operand) (a : Nat) (H : HT) (nx : Nat) : Out :=
  @List.rec Operand (fun _ => Nat → HT → Nat → Out) k
    (fun x _ ih a H nx => arg x f H nx fun b H nx => br (ints a b fun h => br (ih a H nx) (ih b H nx) (@Bool.rec (fun _ => Bool) (ilt h b a) (ilt h a b) mx)) (mmS mx a b fun c => ih c H nx) (bnd a b)) xs a H nx
def bClear (t : TypeId) (a : Nat) (X : Env) (H : HT) (nx : Nat) (k : K0) : Out :=
  br (.bad 99) (br (br (.bad 97) (frc (fun b => frc (fun n => layRow b (off a) (znT X (elemT X t)) n (rep n (znT X (elemT X t)) (zNT X (elemT X t))) H fun H => k 1822247737828079764651510857728 H nx) (sln a)) (blk a)) (isSl a)) (k 1822247737828079764651510857728 H nx) (or' (Nat.beq a 1188422437713965063903159255040) (Nat.beq a 1743019575313815427057966907392))) (and' (zokT X (elemT X t)) (Nat.beq (kindT X t) 15))
/-- the length of a text of which a bound alone is known -/
def lenTx (a : Nat) : Nat := sel 2059932225389319521505852260361 2059932225370872777432142708744 (Nat.beq (Nat.land (Nat.shiftRight a 64) 3) 1)
def bLen (t : TypeId) (a : Nat) (X : Env) (H : HT) (nx : Nat) (k : K0) : Out :=
  match arrT X t with
      | some n => br (.bad 90) (k (intC n) H nx) (Nat.ble n 16777214)
      | none => br (lenK (kindT X t) a H fun n => br (.bad 90) (frc (fun c => k c H nx) (intC n)) (Nat.ble n 16777214)) (frc (fun c => k c H nx) (lenTx a)) (and' (Nat.beq (kindT X t) 12) (isTx a))
def eBuiltin : Builtin → Array Operand → Array TypeId → OpK
  | .append => fun xs ts X _ f H nx k => withT ts 0 fun t => withT ts 1 fun u => arg2 (nth xs 0) (nth xs 1) f H nx fun a b H nx => bAppend t u a b X H nx k
  | .copy => fun xs ts X _ f H nx k => withT ts 0 fun t => arg2 (nth xs 0) (nth xs 1) f H nx fun a b H nx => bCopy t a b X H nx k
  | .delete => fun xs ts X _ f H nx k => withT ts 0 fun t => arg2 (nth xs 0) (nth xs 1) f H nx fun a b H nx => bDelete t a b X H nx k
  | .len => fun xs ts X _ f H nx k => withT ts 0 fun t => arg (nth xs 0) f H nx fun a H nx => bLen t a X H nx k
  | .cap => fun xs ts X _ f H nx k => withT ts 0 fun t => arg (nth xs 0) f H nx fun a H nx => br (.bad 96) (br (br (.bad 96) (k (intC 0) H nx) (Nat.beq a 1188422437713965063903159255040)) (frc (fun c => k c H nx) (intC (scp a))) (and' (isSl a) (not' (isOpn a)))) (Nat.beq (kindT X t) 15)
  | .min => fun xs _ _ _ f H nx k => arg (nth xs 0) f H nx fun a H nx => minmax false f k (xs.toList.drop 1) a H nx
  | .max => fun xs _ _ _ f H nx k => arg (nth xs 0) f H nx fun a H nx => minmax true f k (xs.toList.drop 1) a H nx
  | .clear => fun xs ts X _ f H nx k => withT ts 0 fun t => arg (nth xs 0) f H nx fun a H nx => bClear t a X H nx k
  | _ => fun _ _ _ _ _ _ _ _ => .bad 100
-- channels: one goroutine
def chanNil (m : Nat) (k : Out) : Out := br (.bad 110) k (and' (Nat.beq (hi m) 17) (some' m))
def sendK (b cap n N v : Nat) (H : HT) (k : HT → Out) : Out := br (.bad 111) (frc (fun n' => frc (fun N => set H (.chan cap n' N) b k) (Nat.add N (Nat.shiftLeft v (Nat.shiftLeft n' 7)))) (Nat.succ n)) (valOk v)
def recvK (b cap n N : Nat) (H : HT) (k : Nat → HT → Out) : Out := frc (fun v => frc (fun n => frc (fun N => set H (.chan cap n N) b fun H => k v H) (Nat.shiftLeft (Nat.shiftRight N 256) 128)) (Nat.pred n)) (dig N 1)
def eSend (c x : Operand) : OpK := fun _ _ f H nx k => arg2 c x f H nx fun c v H nx => chanNil c <|
  frc (fun b => chanK H b fun cap n N => br (.bad 111) (sendK b cap n N v H fun H => k 1822247737828079764651510857728 H nx) (Nat.blt n cap)) (blk c)
def eRecv (t : TypeId) (c : Operand) (ok : Bool) : OpK := fun X _ f H nx k => arg c f H nx fun c H nx => chanNil c <| br (.bad 112) (
  frc (fun b => chanK H b fun cap n N => br (recvK b cap n N H fun v H => okK ok v 237684487542793012780631851009 H nx k) (.bad 113) (Nat.beq n 0)) (blk c)) (and' (Nat.beq (kindT X t) 17) (zokT X (elemT X t)))
/-- a select of one case and a default -/
def selRecv (ch : Operand) (z : TypeId) : OpK := fun X _ f H nx k => arg ch f H nx fun c H nx => chanNil c <| zeroC X z H nx fun z H nx =>
  frc (fun b => chanK H b fun cap n N =>
    br (recvK b cap n N H fun v H => newTup 3 (Nat.add (Nat.shiftLeft (intC 0) 128) (Nat.add (Nat.shiftLeft 237684487542793012780631851009 256) (Nat.shiftLeft v 384))) H nx k)
       (newTup 3 (Nat.add (Nat.shiftLeft (intC 18446744073709551615) 128) (Nat.add (Nat.shiftLeft 237684487542793012780631851008 256) (Nat.shiftLeft z 384))) H nx k)
      (Nat.beq n 0)) (blk c)
def selSend (ch v : Operand) (z : TypeId) : OpK := fun X _ f H nx k => arg2 ch v f H nx fun c v H nx => chanNil c <| zeroC X z H nx fun _ H nx =>
  frc (fun b => chanK H b fun cap n N =>
    br (newTup 2 (Nat.add (Nat.shiftLeft (intC 18446744073709551615) 128) (Nat.shiftLeft 237684487542793012780631851008 256)) H nx k)
       (sendK b cap n N v H fun H => newTup 2 (Nat.add (Nat.shiftLeft (intC 0) 128) (Nat.shiftLeft 237684487542793012780631851008 256)) H nx k) (Nat.blt n cap)) (blk c)
def no0 : OpK := fun _ _ _ _ _ _ => .bad 130
def eSelect (cs : Array SelectCase) (blocking : Bool) : OpK :=
  match cs.toList, blocking with
  | [s], false => (match s.send with | none => selRecv s.chan s.elem | some v => selSend s.chan v s.elem)
  | _, _ => no0
-- calls
def cloObj (k : Nat → Nat → Nat → Nat → Nat → Out) : Obj → Out := @Obj.rec (fun _ => Out) (fun _ _ _ _ => .bad 121) (fun _ _ => .bad 121) (fun _ _ => .bad 121) (fun _ _ => .bad 121) k (fun _ _ _ => .bad 121) (fun _ _ _ => .bad 121) (.bad 121)
def eCallV (x : Operand) (xs : Array Operand) : OpK := fun _ call f H nx k => arg x f H nx fun c H nx =>
  packK f (fun N H nx =>
    br (br (.bad 120)
        (cloObj (fun g n1 N1 n2 N2 => frc (fun F => call g F H nx k) (Nat.add (low1 N1) (Nat.add (Nat.shiftLeft N (Nat.shiftLeft n1 7)) (Nat.shiftLeft N2 (Nat.shiftLeft (Nat.add n1 xs.size) 7))))) (get H (lo c))) (Nat.beq (hi c) 19))
      (frc (fun g => call g N H nx k) (lo c)) (Nat.beq (hi c) 18)) xs.toList H nx
/-- how many arguments, told in digit 0: 256 for none -/
def cntA (n : Nat) : Nat := sel n 256 (Nat.beq n 0)
def eCallF (g : Nat) (xs : Array Operand) : OpK := fun _ call f H nx k => packK f (fun N H nx => br (.bad 119) (frc (fun F => call g F H nx k) (Nat.add N (cntA xs.size))) (Nat.ble xs.size 255)) xs.toList H nx
/-- a type's method of that name, its own, called with the value as it is -/
def methT (X : Env) (t : TypeId) (name : String) : Option Nat :=
  match X.P.info? t with
  | some i => (match i.methods.toList.find? (fun m => m.name == name) with
    | some m => if m.path.toList.length = 0 then (match m.func with | some (f, p) => if (p && kindT X t == 14) || (!p && kindT X t != 14 && kindT X t != 0) then some f else none | none => none) else none
    | none => none)
  | none => none
def eInvoke (x : Operand) (name : String) (xs : Array Operand) : OpK := fun X call f H nx k => arg x f H nx fun c H nx =>
  packK f (fun N H nx =>
    br (.bad 122) (frc (fun t => match methT X t name with
        | some g => frc (fun F => call g F H nx k) (Nat.add (Nat.shiftLeft N 128) (Nat.shiftLeft (Nat.mod c 20282409603651670423947251286016) 128))
        | none => .bad 123) (Nat.pred (Nat.shiftRight c 104))) (Nat.ble 256 (hi c))) xs.toList H nx
def eCall (c : Call) : OpK :=
  match c.callee with
  | .value (.func g) => eCallF g c.args
  | .value x => eCallV x c.args
  | .invoke x m => eInvoke x m c.args
  | .builtin b => eBuiltin b c.args c.argTypes
-- ranges over a map of at most one entry
def isNilM : ML → Bool := @ML.rec (fun _ => Bool) true (fun _ _ _ _ _ => false)
def eRange (t : TypeId) (x : Operand) : OpK := fun X _ f H nx k => arg x f H nx fun m H nx =>
  br (.bad 190) (mapK H (blk m) fun _ q _ => frc (fun c => new (.chan c 0 q) H nx fun i H nx => ptrK i 0 H nx k) (Nat.add itC (Nat.succ (blk m)))) (and' (Nat.beq (kindT X t) 16) (and' (Nat.beq (hi m) 16) (some' m)))
def over (H : HT) (nx : Nat) (k : K0) : Out := newTup 1 (Nat.shiftLeft 237684487542793012780631851008 128) H nx k
def stepIt (b c n N q key v bo : Nat) (H : HT) (nx : Nat) (k : K0) : Out := br (br (.bad 192) (over H nx k) (Nat.beq n (Nat.succ bo)))
  (frc (fun n => set H (.chan c n q) b fun H => newTup 3 (Nat.add (Nat.shiftLeft 237684487542793012780631851009 128) (Nat.add (Nat.shiftLeft key 256) (Nat.shiftLeft v 384))) H nx k) (Nat.succ bo)) (Nat.beq n 0)
def eNext (x : Operand) (s : Bool) : OpK := fun _ _ f H nx k => arg x f H nx fun p H nx => br (.bad 191)
  (frc (fun b => iterK H b fun c n N => frc (fun mb => mapK H mb fun _ q l =>
      @ML.rec (fun _ => Out) (over H nx k) (fun key v bo l' _ => br (.bad 193) (stepIt b c n N q key v bo H nx k) (and' (isNilM l') (and' (Nat.blt bo N) (Nat.ble N q)))) l) (Nat.sub c 4294967297)) (blk p)) (and' (not' s) (and' (isPtr p) (Nat.beq (off p) 0)))
def eEntry (x : Operand) : OpK := fun _ _ f H nx k => arg x f H nx fun p H nx => br (.bad 194)
  (iterK H (blk p) fun c n N => frc (fun mb => mapK H mb fun _ q l =>
      @ML.rec (fun _ => Out) (.bad 196) (fun key v bo l' _ => br (.bad 195) (pair key v H nx k) (and' (isNilM l') (and' (Nat.beq q N) (Nat.beq n (Nat.succ bo))))) l) (Nat.sub c 4294967297)) (and' (isPtr p) (Nat.beq (off p) 0))
def no1 (_ : Nat) : OpK := no0
def noX (_ : Operand) : OpK := no0
def noC (_ : Call) : OpK := no0
def opF : Op → OpK :=
  @Op.rec (fun _ => OpK) eMove eMove ePick eAlloc eBox eBuild eBuildSlice eMapUpdate eLoad eStore no1 no1 eNil
    eBin eUn eConvert (fun _ => noX) eIface eMakeFunc eMakeMap eMakeChan eMakeSlice eSlice eFieldAddr eField eIndexAddr eIndex
    eLookup eMapUpdate eMapEntry eEntryStore eRange (fun x s => eNext x s) eEntry eAssert eExtract eCall noC noC noX
    eSend eRecv eSelect
abbrev KF := FR → HT → Nat → Out
/-- the result laid into its place -/
def finNone : FR → KF → K0 := fun f k _ H nx => k f H nx
def finSome (t : Nat) : FR → KF → K0 := fun f k c H nx => fput t f c fun f => k f H nx
def fin : Option Nat → FR → KF → K0 := @Option.rec Nat (fun _ => FR → KF → K0) finNone finSome
def dstOf (ops : List Oper) (j : Nat) : Nat := match ops[j]? with | some o => (match o.dst with | some t => Nat.succ t | none => 0) | none => 0
abbrev StepK := List Oper → OpK → Option Nat → Env → CallT → FR → HT → Nat → KF → Out
def stepPlain : StepK := fun _ g d X call f H nx k => g X call f H nx (fin d f k)
def stepGuard (w : Nat × Bool) : StepK := fun all g d X call f H nx k =>
  br (.bad 131) (frc (fun c =>
    br (br (.bad 131) (fin d f k 1822247737828079764651510857728 H nx) (or' (Nat.beq c 1822247737828079764651510857728) (or' (Nat.beq c 237684487542793012780631851008) (Nat.beq c 237684487542793012780631851009))))
       (g X call f H nx (fin d f k)) (Nat.beq c (boolC w.2))) (fget (Nat.pred (dstOf all w.1)) f)) (Nat.ble 1 (dstOf all w.1))
def stepO : Option (Nat × Bool) → StepK := @Option.rec (Nat × Bool) (fun _ => StepK) stepPlain stepGuard
def runOps : List Oper → List Oper → Env → CallT → FR → HT → Nat → Out :=
  @List.rec Oper (fun _ => List Oper → Env → CallT → FR → HT → Nat → Out) (fun _ _ _ f H nx => .norm f H nx)
    (fun o _ ih all X call f H nx => stepO o.guard all (opF o.op) o.dst X call f H nx (ih all X call))
-- regions that draw their order
/-- what an operation is: 0 reckons alone, 1 makes memory, 2 reads, 3 whatever else -/
def cls (X : Env) : Op → Nat
  | .move _ | .assign _ | .pick .. | .build .. | .nilCheck _ | .binOp .. | .unOp .. | .makeInterface .. | .makeFunc .. | .slice .. | .fieldAddr .. | .field .. | .indexAddr .. | .index .. | .typeAssert .. | .extract .. => 0
  | .call { callee := .builtin .len, .. } | .call { callee := .builtin .min, .. } | .call { callee := .builtin .max, .. } => 0
  | .convert s d _ => if kindT X d == 15 then 1 else if kindT X s == 15 then 2 else 0
  | .alloc _ | .box .. | .buildSlice .. | .makeMap .. | .makeSlice .. => 1
  | .load .. => 2
  | _ => 3
def bLenS (t : TypeId) (a : Nat) (X : Env) (H : HT) (nx : Nat) (k : K0) : Out := br (lenS (kindT X t) a H fun n => br (.bad 90) (frc (fun c => k c H nx) (intC n)) (Nat.ble n 16777214)) (frc (fun c => k c H nx) (lenTx a)) (and' (Nat.beq (kindT X t) 12) (isTx a))
/-- the forms that look at no memory -/
def opPure (o : Op) : OpK := match o with
  | .slice t x l h m => eSlice0 false t x l h m
  | .call { callee := .builtin .len, args := xs, argTypes := ts, .. } => fun X _ f H nx k => withT ts 0 fun t => arg (nth xs 0) f H nx fun a H nx => bLenS t a X H nx k
  | o => opF o
def opD (X : Env) (o : Op) : OpK := match cls X o with | 0 => opPure o | _ => opF o
/-- all that comes ahead of each operation, by bits -/
def clos (ops : List Oper) : List Nat := ops.foldl (fun acc o => acc ++ [o.after.toList.foldl (fun s e => if Region.binds .any e then s ||| 2 ^ e.on ||| acc.getD e.on 0 else s) 0]) []
def tmpsOf (o : Oper) : List Nat := o.op.operands.toList.filterMap fun | .tmp t => some t | _ => none
/-- may a region run in whatever order its edges allow? edges lead back; each place is written once; who reads what another one writes is in order with it; whatever acts is in one order -/
def drawOk (X : Env) (ops : List Oper) : Bool :=
  let b := clos ops
  let bit (i j : Nat) : Bool := (b.getD j 0).testBit i      -- i ahead of j
  let l := ops.zipIdx
  l.all (fun (o, i) => o.after.toList.all (fun e => !Region.binds .any e || e.on < i)
    && (match o.guard with | none => true | some (j, _) => bit j i && (match (ops[j]?).bind (·.dst) with | some _ => true | none => false))
    && l.all (fun (p, j) => (i == j
      || ((match o.dst with
        | none => true
        | some t => p.dst != some t && ((!(tmpsOf p).contains t) || bit i j || bit j i))
       && (!(cls X o.op == 3 && cls X p.op == 3) || bit i j || bit j i)))
      && (cls X o.op != 2 || (match p.dst with | some t => !(tmpsOf o).contains t || j < i | none => true))
      && (!bit j i || j < i)))
/-- the reads that may stand between other acts: how many acts are ahead of it for sure, how many may be -/
def drawReads (X : Env) (ops : List Oper) : List (Nat × Nat × Nat) :=
  let b := clos ops
  let bit (i j : Nat) : Bool := (b.getD j 0).testBit i
  let l := ops.zipIdx
  l.filterMap fun (o, i) => if cls X o.op == 2 then
      let lo := (l.filter fun (p, j) => cls X p.op == 3 && bit j i).length
      let hi := (l.filter fun (p, j) => cls X p.op == 3 && !bit i j).length
      if lo == hi then none else some (i, lo, hi)
    else none
/-- heaps, the last one first; how many acts were done -/
inductive SL where | nil | cons (H : HT) (n : Nat) (l : SL)
def snap (c : Nat) (H : HT) (n : Nat) (s : SL) : SL := match c with | 3 => .cons H (n + 1) s | 1 => .cons H n s | _ => s
def cnt (c n : Nat) : Nat := match c with | 3 => n + 1 | _ => n
def runOpsD : List Oper → List Oper → Nat → SL → (SL → KF) → Env → CallT → FR → HT → Nat → Out :=
  @List.rec Oper (fun _ => List Oper → Nat → SL → (SL → KF) → Env → CallT → FR → HT → Nat → Out) (fun _ _ s k _ _ f H nx => k s f H nx)
    (fun o _ ih all n s k X call f H nx => stepO o.guard all (opD X o.op) o.dst X call f H nx fun f H nx => ih all (cnt (cls X o.op) n) (snap (cls X o.op) H n s) k X call f H nx)
def isRow : Obj → Bool := @Obj.rec (fun _ => Bool) (fun _ _ _ _ => true) (fun _ _ => false) (fun _ _ => false) (fun _ _ => false) (fun _ _ _ _ _ => false) (fun _ _ _ => false) (fun _ _ _ => false) false
/-- is there a row in the last of the heaps? -/
def headRow (b : Nat) (s : SL) : Bool := match s with | .nil => false | .cons H _ _ => isRow (get H b)
/-- n cells at o of row b: the same in all heaps behind lo to hi acts, and where the row came -/
def sameSeg (b o n lo hi : Nat) (k : Out) (s : SL) : Out :=
  @SL.rec (fun _ => Nat → Out) (fun _ => k)
    (fun H m l ih r => br (br (ih r) (.bad 137) (and' (not' (isRow (get H b))) (and' (headRow b l) (Nat.ble m hi))))
       (rowK H b fun n' N _ _ => br (.bad 132)
          (frc (fun c => br (br (.bad 133) (ih r) (Nat.beq r c)) (ih c) (Nat.beq r 0)) (Nat.succ (digs N (Nat.succ o) n)))
          (Nat.ble (Nat.add o n) n'))
       (and' (isRow (get H b)) (and' (Nat.ble lo m) (or' (Nat.ble m hi) (not' (headRow b l)))))) s 0
def chkRead (X : Env) (o : Op) (lo hi : Nat) (f : FR) (s : SL) (k : Out) : Out :=
  match o with
      | .load t (.tmp a) => frc (fun p => br (br (.bad 134) (frc (fun b => frc (fun o => frc (fun n => sameSeg b o n lo hi k s) (szT X t)) (off p)) (blk p)) (isPtr p)) k (Nat.beq p 1822247737828079764651510857728)) (fget a f)
      | .convert _ _ (.tmp a) => frc (fun p => br (br (.bad 134) (frc (fun b => frc (fun o => frc (fun n => sameSeg b o n lo hi k s) (sln p)) (off p)) (blk p)) (isSl p)) k (or' (Nat.beq p 1822247737828079764651510857728) (Nat.beq p 1188422437713965063903159255040))) (fget a f)
      | _ => .bad 134
def opAt (ops : List Oper) (i : Nat) : Op := match ops[i]? with | some o => o.op | none => .alloc 0
def chkReads (X : Env) (ops : List Oper) (f : FR) (s : SL) (k : Out) (l : List (Nat × Nat × Nat)) : Out :=
  @List.rec (Nat × Nat × Nat) (fun _ => Out) k (fun x _ ih => chkRead X (opAt ops x.1) x.2.1 x.2.2 f s ih) l
/-- a region that draws: l: its reads that may stand between acts -/
def runDrawL (l : List (Nat × Nat × Nat)) (ops : List Oper) (X : Env) (call : CallT) (f : FR) (H : HT) (nx : Nat) : Out :=
  @List.rec (Nat × Nat × Nat) (fun _ => Out)
    (runOpsD ops ops 0 .nil (fun _ f H nx => .norm f H nx) X call f H nx)
    (fun _ _ _ => runOpsD ops ops 0 (.cons H 0 .nil) (fun s f H nx => chkReads X ops f s (.norm f H nx) l) X call f H nx) l
def runDraw (r : Nat) (ops : List Oper) (X : Env) (call : CallT) (g : Nat) (f : FR) (H : HT) (nx : Nat) : Out :=
  @Option.rec (List (Nat × Nat × Nat)) (fun _ => Out) (.bad 135) (fun l => runDrawL l ops X call f H nx) (X.dr g r)
def runReg (draw : Bool) : Nat → List Oper → Env → CallT → Nat → FR → HT → Nat → Out :=
  @Bool.rec (fun _ => Nat → List Oper → Env → CallT → Nat → FR → HT → Nat → Out) (fun _ ops X call _ f H nx => runOps ops ops X call f H nx) runDraw draw
-- functions
def resCell (X : Env) (r : ResultVar) (f : FR) (H : HT) (nx : Nat) (k : K0) : Out :=
  match r with
  | .tmp t => frc (fun c => k c H nx) (fget t f)
  | .cell a t => frc (fun p => br (.bad 140) (rowK H (blk p) fun n N _ _ => br (.bad 141) (take (aggT X t) (szT X t) N (off p) H nx k) (and' (Nat.ble 1 (szT X t)) (Nat.ble (Nat.add (off p) (szT X t)) n))) (isPtr p)) (fget a f)
def resRow (X : Env) (k : K0) (l : List ResultVar) (f : FR) (H : HT) (nx : Nat) : Out :=
  @List.rec ResultVar (fun _ => Nat → Nat → HT → Nat → Out) (fun j N H nx => newTup (Nat.pred j) N H nx k)
      (fun r _ ih j N H nx => resCell X r f H nx fun c H nx => br (.bad 143) (frc (fun N => frc (fun j => ih j N H nx) (Nat.succ j)) (Nat.add N (Nat.shiftLeft c (Nat.shiftLeft j 7)))) (valOk c)) l 1 0 H nx
def resK (X : Env) (fn : Func) (f : FR) (H : HT) (nx : Nat) (k : K0) : Out :=
  match fn.results.toList with
  | [] => k 1822247737828079764651510857728 H nx
  | [r] => resCell X r f H nx k
  | l => resRow X k l f H nx
def fnOf (X : Env) (g : Nat) : Option Func := X.P.funcs.toList[g]?
abbrev RunT := Nat → Code → FR → HT → Nat → Out
/-- places within the frame alone -/
def codeOk (n : Nat) : Code → Bool
  | .region _ ops _ => ops.toList.all fun o => match o.dst with | some t => t < n | none => true
  | .seq a b => codeOk n a && codeOk n b
  | .cond _ a b => codeOk n a && codeOk n b
  | .block _ b => codeOk n b
  | .loop b => codeOk n b
  | .scope b => codeOk n b
  | _ => true
def funcOk (fn : Func) : Bool := (match fn.body with | some c => codeOk fn.ntmps c | none => true) && fn.params.size + fn.nfree ≤ fn.ntmps
def afterCall (X : Env) (fn : Func) (k : K0) : Out → Out :=
  @Out.rec (fun _ => Out) (fun f H nx => resK X fn f H nx k) (fun f H nx => resK X fn f H nx k) (fun _ _ _ _ => .bad 151) (fun n => .bad n)
/-- all that is asked of a function ahead: its places; its regions that draw -/
def drawsOk (X : Env) (g : Nat) : Code → Bool
  | .region r ops true => match X.dr g r with | some l => drawOk X ops.toList && l == drawReads X ops.toList | none => true
  | .seq a b => drawsOk X g a && drawsOk X g b
  | .cond _ a b => drawsOk X g a && drawsOk X g b
  | .block _ b => drawsOk X g b
  | .loop b => drawsOk X g b
  | .scope b => drawsOk X g b
  | _ => true
def fnOk (X : Env) (g : Nat) (fn : Func) : Bool := match fn.body with | some c => funcOk fn && drawsOk X g c | none => true
def callFn (fn : Func) (X : Env) (run : RunT) (g F : Nat) (H : HT) (nx : Nat) (k : K0) : Out :=
  @Option.rec Code (fun _ => Out) (.bad (1000 + g)) (fun c => fargs F nx fun F => afterCall X fn k (run g c F H nx)) fn.body
-- functions that are taken by a law of their own
def oClone (F : Nat) (H : HT) (nx : Nat) (k : K0) : Out := frc (fun c => br (.bad 170) (mapK H (blk c) fun n q l => new (.map n q l) H nx fun i H nx => frc (fun c => k c H nx) (Nat.add (Nat.shiftLeft (Nat.shiftRight c 104) 104) (mkMap i))) (and' (Nat.beq (dig F 0) 1) (and' (Nat.beq (Nat.land (hi c) 255) 16) (and' (Nat.ble 256 (hi c)) (some' c))))) (dig F 1)
def oOverlaps (X : Env) (t : TypeId) (F : Nat) (H : HT) (nx : Nat) (k : K0) : Out := frc (fun a => frc (fun b => br (.bad 171)
  (br (boolK' (and' (Nat.beq (blk a) (blk b)) (and' (Nat.blt (off a) (Nat.add (off b) (Nat.mul (sln b) (szT X (elemT X t))))) (Nat.blt (off b) (Nat.add (off a) (Nat.mul (sln a) (szT X (elemT X t))))))) H nx k) (k 237684487542793012780631851008 H nx) (or' (Nat.beq (sln a) 0) (Nat.beq (sln b) 0)))
  (and' (Nat.beq (dig F 0) 2) (and' (Nat.beq (hi a) 15) (Nat.beq (hi b) 15)))) (dig F 2)) (dig F 1)
def gndObj (k : Nat → Nat → Out) : Obj → Out := @Obj.rec (fun _ => Out) (fun _ _ _ _ => .bad 173) (fun _ _ => .bad 173) (fun _ _ => .bad 173) k (fun _ _ _ _ _ => .bad 173) (fun _ _ _ => .bad 173) (fun _ _ _ => .bad 173) (.bad 173)
/-- errors.As: an error of type T into a variable of type T; the ground says what errors.errorType holds -/
def oAs (T TP R E : Nat) (F : Nat) (H : HT) (nx : Nat) (k : K0) : Out := br (.bad 173) (frc (fun e => frc (fun t =>
  br (br (.bad 173) (gndObj (fun R' E' => br (.bad 173) (frc (fun p => frc (fun c => br (.bad 173) (frc (fun b => rowK H b fun n N et op => br (.bad 173) (lay false 1 N (off p) c H fun N => setRow b n N et op H fun H => k 237684487542793012780631851009 H nx) (Nat.ble (Nat.add (off p) 1) n)) (blk p)) (and' (isPtr p) (Nat.beq (hi c) 7))) (Nat.mod e 20282409603651670423947251286016)) (Nat.mod t 20282409603651670423947251286016)) (and' (Nat.beq R' R) (Nat.beq E' E))) (get H 0))
      (and' (Nat.beq (Nat.shiftRight e 104) (Nat.succ T)) (Nat.beq (Nat.shiftRight t 104) (Nat.succ TP))))
    (k 237684487542793012780631851008 H nx) (Nat.beq e 1663791412799551089464422957056)) (dig F 2)) (dig F 1)) (Nat.beq (dig F 0) 2)
/-- errors.Is of errors of type T, or of none -/
def oIs (T : TypeId) (F : Nat) (H : HT) (nx : Nat) (k : K0) : Out := br (.bad 174) (frc (fun e => frc (fun t => br (.bad 174)
  (br (br (.bad 174) (boolK' (Nat.beq e t) H nx k) (and' (Nat.beq (Nat.shiftRight e 104) (Nat.succ T)) (Nat.beq (Nat.land (hi e) 255) 7)))
    (k 237684487542793012780631851008 H nx) (Nat.beq e 1663791412799551089464422957056)) (and' (Nat.beq (Nat.shiftRight t 104) (Nat.succ T)) (Nat.beq (Nat.land (hi t) 255) 7))) (dig F 2)) (dig F 1)) (Nat.beq (dig F 0) 2)
def insS (x : Nat) : List Nat → List Nat := @List.rec Nat (fun _ => List Nat) [x] (fun y l ih => @Bool.rec (fun _ => List Nat) (y :: ih) (x :: y :: l) (Nat.ble x y))
def sortM : ML → List Nat := @ML.rec (fun _ => List Nat) [] (fun k _ _ _ ih => insS k ih)
/-- an int's cell, not below 0 -/
def intOk (c : Nat) : Bool := and' (Nat.ble 554597137599850363154807652352 c) (Nat.blt c (Nat.add 554597137599850363154807652352 9223372036854775808))
def packSK (k : Nat → Out) (l : List Nat) : Nat → Nat → Out := @List.rec Nat (fun _ => Nat → Nat → Out) (fun _ N => k N) (fun c _ ih j N => br (.bad 176) (frc (fun N => frc (fun j => ih j N) (Nat.succ j)) (Nat.add N (Nat.shiftLeft c (Nat.shiftLeft j 7)))) (intOk c)) l
/-- the keys of the map at cell o of the receiver, sorted (ints that aren't below 0) -/
def oKeys (X : Env) (o : Nat) (t : TypeId) (F : Nat) (H : HT) (nx : Nat) (k : K0) : Out := frc (fun p => br (.bad 175) (rowK H (blk p) fun n N _ _ => br (.bad 175) (frc (fun m =>
    br (.bad 176) (mapK H (blk m) fun c _ l => br (packSK (fun N => newRow c N (elemT X t) true H nx fun i H nx => slU i 0 c 1 H nx k) (sortM l) 1 0) (k 1188422437713965063903159255040 H nx) (Nat.beq c 0)) (and' (Nat.beq (hi m) 16) (some' m))) (dig N (Nat.succ (Nat.add (off p) o)))) (Nat.blt (Nat.add (off p) o) n)) (and' (Nat.beq (dig F 0) 1) (isPtr p))) (dig F 1)
def ins (i s N m M : Nat) : Nat := Nat.add (Nat.mod N (Nat.shiftLeft 1 (Nat.shiftLeft (Nat.succ (Nat.mul i s)) 7))) (Nat.add (Nat.shiftLeft (low1 M) (Nat.shiftLeft (Nat.mul i s) 7)) (Nat.shiftLeft (Nat.shiftRight N (Nat.shiftLeft (Nat.succ (Nat.mul i s)) 7)) (Nat.shiftLeft (Nat.succ (Nat.mul (Nat.add i m) s)) 7)))
/-- a row of n cells R under a new number -/
def insNew (s n R et : Nat) (H : HT) (nx : Nat) (k : K0) : Out := newRow (Nat.mul n s) R et true H nx fun i H nx => slU i 0 n s H nx k
def oInsert (X : Env) (t : TypeId) (F : Nat) (H : HT) (nx : Nat) (k : K0) : Out := br (.bad 178) (frc (fun a => frc (fun v => frc (fun s => br (.bad 178) (natK (dig F 2) fun i =>
   cellsK s v H fun m M => cellsK s a H fun n N => rowK H (blk v) fun nv _ _ opv => br (.bad 178)
     (frc (fun R => br (insNew s (Nat.add n m) R (elemT X t) H nx k)
        (rowK H (blk a) fun n' _ _ _ => br (.bad 178) (kill (blk a) H fun H => insNew s (Nat.add n m) R (elemT X t) H nx k)
          (and' (Nat.ble (Nat.add (off a) (Nat.mul n s)) n') (or' (and' (isOpn a) (Nat.beq (scp a) (opn s))) (and' (not' (isOpn a)) (Nat.ble (Nat.add (off a) (Nat.mul (scp a) s)) n')))))
        (isSl a)) (ins i s N m M))
     (and' (Nat.ble i n) (and' (Nat.ble 1 m) (and' (not' opv) (Nat.ble (Nat.add (off v) (Nat.mul m s)) nv)))))
   (and' (Nat.ble 1 s) (and' (Nat.beq (hi (dig F 2)) 7) (and' (isSl v) (or' (Nat.beq a 1188422437713965063903159255040) (and' (isSl a) (not' (Nat.beq (blk v) (blk a)))))))))
   (szT X (elemT X t))) (dig F 3)) (dig F 1)) (Nat.beq (dig F 0) 3)
/-- a u64 as eight bytes -/
def oNum (F : Nat) (H : HT) (nx : Nat) (k : K0) : Out := frc (fun a => br (.bad 181) (frc (fun N => mkStr 8 N H nx k) (Nat.mod a 18446744073709551616)) (and' (Nat.beq (dig F 0) 1) (Nat.beq (hi a) 11))) (dig F 1)
/-- h times 33 and the next byte, n times -/
def sumK (k : Nat → Out) : Nat → Nat → Nat → Out := @Nat.rec (fun _ => Nat → Nat → Out) (fun _ h => k h) (fun _ ih N h => frc (fun h => frc (fun N => ih N h) (Nat.shiftRight N 8)) (Nat.mod (Nat.add (Nat.mul h 33) (Nat.land N 255)) 18446744073709551616))
def oSum (F : Nat) (H : HT) (nx : Nat) (k : K0) : Out := br (.bad 182) (frc (fun a => str a H fun n N => br (.bad 182) (sumK (fun h => frc (fun c => k c H nx) (Nat.add h 871509787656907713528983453696)) n N 5381) (Nat.ble n 16777214)) (dig F 1)) (Nat.beq (dig F 0) 1)
/-- n ints from digit o on -/
def intsB (N : Nat) : Nat → Nat → Bool := @Nat.rec (fun _ => Nat → Bool) (fun _ => true) (fun _ ih o => and' (Nat.beq (hi (dig N o)) 7) (ih (Nat.succ o)))
/-- the first place of v among n cells from digit o on, i ahead; or -1 -/
def idxK (N v : Nat) (k : Nat → Out) : Nat → Nat → Nat → Out := @Nat.rec (fun _ => Nat → Nat → Out) (fun _ _ => k 554597137618297107228517203967) (fun _ ih o i => br (frc (fun o => frc (fun i => ih o i) (Nat.succ i)) (Nat.succ o)) (frc k (intC i)) (Nat.beq (dig N o) v))
/-- slices.Index at []int -/
def oIdx (F : Nat) (H : HT) (nx : Nat) (k : K0) : Out := br (.bad 183) (frc (fun a => frc (fun v => br (.bad 183)
  (br (br (.bad 183) (rowK H (blk a) fun n N _ _ => br (.bad 183) (idxK N v (fun c => k c H nx) (sln a) (Nat.succ (off a)) 0) (and' (Nat.ble (Nat.add (off a) (sln a)) n) (intsB N (sln a) (Nat.succ (off a))))) (isSl a))
     (k 554597137618297107228517203967 H nx) (Nat.beq a 1188422437713965063903159255040)) (Nat.beq (hi v) 7)) (dig F 2)) (dig F 1)) (Nat.beq (dig F 0) 2)
/-- how often a byte is in a text -/
def cntB (b : Nat) (k : Nat → Out) : Nat → Nat → Nat → Out := @Nat.rec (fun _ => Nat → Nat → Out) (fun _ a => k a) (fun _ ih N a => frc (fun N' => frc (fun a => ih N' a) (sel a (Nat.succ a) (Nat.beq (Nat.land N 255) b))) (Nat.shiftRight N 8))
/-- strings.Count of a text of one byte -/
def oCount (F : Nat) (H : HT) (nx : Nat) (k : K0) : Out := br (.bad 184) (frc (fun a => frc (fun b => str a H fun n N => str b H fun m M => br (.bad 184) (cntB M (fun c => br (.bad 184) (frc (fun c => k c H nx) (intC c)) (Nat.ble c 16777214)) n N 0) (and' (Nat.beq m 1) (Nat.blt M 256))) (dig F 2)) (dig F 1)) (Nat.beq (dig F 0) 2)
/-- the first place of a byte in a text, i ahead; or -1 -/
def posB (b : Nat) (k : Nat → Out) : Nat → Nat → Nat → Out := @Nat.rec (fun _ => Nat → Nat → Out) (fun _ _ => k 554597137618297107228517203967) (fun _ ih N i => br (frc (fun N => frc (fun i => ih N i) (Nat.succ i)) (Nat.shiftRight N 8)) (frc k (intC i)) (Nat.beq (Nat.land N 255) b))
/-- strings.Index of a text of one byte -/
def oIndex (F : Nat) (H : HT) (nx : Nat) (k : K0) : Out := br (.bad 183) (frc (fun a => frc (fun b => str a H fun n N => str b H fun m M => br (.bad 183) (posB M (fun c => k c H nx) n N 0) (and' (and' (Nat.beq m 1) (Nat.blt M 256)) (Nat.ble n 16777214))) (dig F 2)) (dig F 1)) (Nat.beq (dig F 0) 2)
/-- how many digits, to the base ten -/
def digN (u : Nat) : Nat := sel (sel (sel 4 3 (Nat.ble u 999)) 2 (Nat.ble u 99)) 1 (Nat.ble u 9)
/-- strconv's count of digits; the table is in the world's block Z -/
def oDig (Z F : Nat) (H : HT) (nx : Nat) (k : K0) : Out := br (.bad 186) (gndObj (fun _ E' => br (.bad 186) (frc (fun a => br (.bad 186) (frc (fun c => k c H nx) (intC (digN (lo a)))) (and' (Nat.beq (hi a) 11) (and' (Nat.ble 1 (lo a)) (Nat.ble (lo a) 9999)))) (dig F 1)) (Nat.beq (Nat.mod (Nat.div E' 65536) 65536) Z)) (get H 0)) (Nat.beq (dig F 0) 1)
/-- strings.Repeat of a text of one byte -/
def oRepeat (F : Nat) (H : HT) (nx : Nat) (k : K0) : Out := br (.bad 187) (frc (fun a => frc (fun b => str a H fun n N => natK b fun m => br (.bad 187) (frc (fun M => mkStr m M H nx k) (Nat.mul N (Nat.div (Nat.pred (Nat.shiftLeft 1 (Nat.shiftLeft m 3))) 255))) (and' (Nat.beq n 1) (Nat.beq (hi b) 7))) (dig F 2)) (dig F 1)) (Nat.beq (dig F 0) 2)
/-- texts in order: a list of (length, bytes, cell) -/
abbrev TX := Nat × Nat × Nat
def insT (n N c : Nat) : List TX → List TX := @List.rec TX (fun _ => List TX) [(n, N, c)] (fun y l ih => @Bool.rec (fun _ => List TX) ((n, N, c) :: y :: l) (y :: ih) (slt y.1 y.2.1 n N))
def sortT (H : HT) (k : List TX → Out) (l : ML) : Out := @ML.rec (fun _ => (List TX → Out) → Out) (fun k => k []) (fun c _ _ _ ih k => br (.bad 189) (str c H fun n N => ih fun L => k (insT n N c L)) (Nat.blt c 340282366920938463463374607431768211456)) l k
def packTK (k : Nat → Out) (l : List TX) : Nat → Nat → Out := @List.rec TX (fun _ => Nat → Nat → Out) (fun _ N => k N) (fun c _ ih j N => frc (fun N => frc (fun j => ih j N) (Nat.succ j)) (Nat.add N (Nat.shiftLeft c.2.2 (Nat.shiftLeft j 7)))) l
/-- slices.Sorted at strings, of maps.Keys: a closure (K's two) whose one free cell, a variable's, holds the map -/
def oSorted (K : Nat) (t : TypeId) (F : Nat) (H : HT) (nx : Nat) (k : K0) : Out := br (.bad 188) (frc (fun f => br (.bad 188)
  (cloObj (fun g n1 N1 n2 N2 => br (.bad 188) (frc (fun p => br (.bad 188) (rowK H (blk p) fun n N _ op => br (.bad 188) (frc (fun m => br (.bad 189) (mapK H (blk m) fun c _ l =>
    br (sortT H (fun L => packTK (fun N => newRow c N t true H nx fun i H nx => slU i 0 c 1 H nx k) L 1 0) l) (k 1188422437713965063903159255040 H nx) (Nat.beq c 0)) (and' (Nat.beq (hi m) 16) (some' m))) (dig N 1)) (and' (Nat.ble 1 n) (not' op))) (and' (isPtr p) (Nat.beq (off p) 0))) (dig N2 1)) (and' (and' (or' (Nat.beq g (Nat.land (Nat.div K 65536) 65535)) (Nat.beq g (Nat.div K 4294967296))) (Nat.beq n1 0)) (Nat.beq n2 1))) (get H (lo f))) (Nat.beq (hi f) 19)) (dig F 1)) (Nat.beq (dig F 0) 1)
/-- a function of no arguments that says yes, on the ground R, E -/
def oTrue (R E F : Nat) (H : HT) (nx : Nat) (k : K0) : Out := br (.bad 189) (gndObj (fun R' E' => br (.bad 189) (k 237684487542793012780631851009 H nx) (and' (Nat.beq R' R) (Nat.beq E' E))) (get H 0)) (Nat.beq (dig F 0) 256)
/-- an int as eight bytes -/
def oNumI (F : Nat) (H : HT) (nx : Nat) (k : K0) : Out := frc (fun a => br (.bad 181) (frc (fun N => mkStr 8 N H nx k) (Nat.mod a 18446744073709551616)) (and' (Nat.beq (dig F 0) 1) (Nat.beq (hi a) 7))) (dig F 1)
/-- eight bytes taken as a number: the text ahead, an error behind it, at a pointer; C: the error that tells that bytes lack -/
def oCutNum (C F : Nat) (H : HT) (nx : Nat) (k : K0) : Out := br (.bad 197) (frc (fun p => br (.bad 197) (frc (fun b => rowK H b fun n N e op => br (.bad 197) (frc (fun t => frc (fun er => str t H fun m M => br
  (br (.bad 198) (lay false 1 N (Nat.add (off p) 1) C H fun N => setRow b n N e op H fun H => k 871509787656907713528983453696 H nx) (or' (Nat.beq er 1663791412799551089464422957056) (Nat.ble 256 (hi er))))
  (mkStr (Nat.sub m 8) (Nat.shiftRight M 64) H nx fun c H nx => rowK H b fun n N e op => lay false 1 N (off p) c H fun N => setRow b n N e op H fun H => frc (fun c => k c H nx) (Nat.add (Nat.mod M 18446744073709551616) 871509787656907713528983453696))
  (and' (Nat.ble 8 m) (Nat.beq er 1663791412799551089464422957056))) (dig N (Nat.succ (Nat.add (off p) 1)))) (dig N (Nat.succ (off p)))) (Nat.ble (Nat.add (off p) 2) n)) (blk p)) (isPtr p)) (dig F 1)) (Nat.beq (dig F 0) 1)
/-- a text taken: two bytes of its length, then its bytes; all there -/
def oCutText (F : Nat) (H : HT) (nx : Nat) (k : K0) : Out := br (.bad 197) (frc (fun p => br (.bad 197) (frc (fun b => rowK H b fun n N e op => br (.bad 197) (frc (fun t => frc (fun er => str t H fun m M => frc (fun q => br (.bad 199)
  (mkStr (Nat.sub m (Nat.add q 2)) (Nat.shiftRight M (Nat.shiftLeft (Nat.add q 2) 3)) H nx fun c H nx => rowK H b fun n N e op => lay false 1 N (off p) c H fun N => setRow b n N e op H fun H => mkStr q (Nat.mod (Nat.shiftRight M 16) (Nat.shiftLeft 1 (Nat.shiftLeft q 3))) H nx k)
  (and' (Nat.ble (Nat.add q 2) m) (Nat.beq er 1663791412799551089464422957056))) (Nat.mod M 65536)) (dig N (Nat.succ (Nat.add (off p) 1)))) (dig N (Nat.succ (off p)))) (Nat.ble (Nat.add (off p) 2) n)) (blk p)) (isPtr p)) (dig F 1)) (Nat.beq (dig F 0) 1)
/-- cmp.Compare at ints -/
def oCmp (F : Nat) (H : HT) (nx : Nat) (k : K0) : Out := br (.bad 193) (frc (fun a => frc (fun b => br (.bad 193) (frc (fun x => frc (fun y => br (br (k 554597137599850363154807652352 H nx) (k 554597137599850363154807652353 H nx) (Nat.blt y x)) (k 554597137618297107228517203967 H nx) (Nat.blt x y)) (Nat.mod (Nat.add b 9223372036854775808) 18446744073709551616)) (Nat.mod (Nat.add a 9223372036854775808) 18446744073709551616)) (and' (Nat.beq (hi a) 7) (Nat.beq (hi b) 7))) (dig F 2)) (dig F 1)) (Nat.beq (dig F 0) 2)
/-- the first cell of n from digit o on that is no nought; or nought -/
def orK (N : Nat) (k : Nat → Out) : Nat → Nat → Out := @Nat.rec (fun _ => Nat → Out) (fun _ => k 554597137599850363154807652352) (fun _ ih o => br (frc k (dig N o)) (frc (fun o => ih o) (Nat.succ o)) (Nat.beq (dig N o) 554597137599850363154807652352))
/-- cmp.Or at ints -/
def oOr (F : Nat) (H : HT) (nx : Nat) (k : K0) : Out := br (.bad 192) (frc (fun a => br (.bad 192) (rowK H (blk a) fun n N _ _ => br (.bad 192) (orK N (fun c => k c H nx) (sln a) (Nat.succ (off a))) (and' (Nat.ble (Nat.add (off a) (sln a)) n) (intsB N (sln a) (Nat.succ (off a))))) (isSl a)) (dig F 1)) (Nat.beq (dig F 0) 1)
/-- the greatest version told ahead of a time: of n rows of 14 cells each from digit 0 of N on; b: the time -/
def tldB (E b : Nat) : Bool := and' (Nat.beq (dig E 2) 554597137599850363154807652358) (and' (Nat.beq (dig E 10) 554597137599850363154807652352) (and' (ilt 7 554597137599850363154807652352 (dig E 9)) (ilt 7 (dig E 9) b)))
def tldOk (E : Nat) : Bool := and' (Nat.beq (hi (dig E 2)) 7) (and' (Nat.beq (hi (dig E 9)) 7) (and' (Nat.beq (hi (dig E 10)) 7) (Nat.beq (hi (dig E 13)) 11)))
def tldK (b : Nat) (k : Nat → Out) : Nat → Nat → Nat → Out := @Nat.rec (fun _ => Nat → Nat → Out) (fun _ a => k a) (fun _ ih N a => frc (fun E => br (.bad 194) (frc (fun a => frc (fun N => ih N a) (Nat.shiftRight N 1792)) (sel a (sel (lo (dig E 13)) a (Nat.ble (lo (dig E 13)) a)) (tldB E b))) (tldOk E)) (Nat.mod N (Nat.shiftLeft 1 1792)))
/-- past.told -/
def oTold (F : Nat) (H : HT) (nx : Nat) (k : K0) : Out := br (.bad 194) (frc (fun a => frc (fun b => br (.bad 194) (rowK H (blk a) fun n N _ _ => br (.bad 194) (frc (fun N => tldK b (fun r => frc (fun c => k c H nx) (Nat.add r 871509787656907713528983453696)) (sln a) N 0) (Nat.shiftRight N (Nat.shiftLeft (Nat.succ (off a)) 7))) (and' (Nat.ble 1 (sln a)) (Nat.ble (Nat.add (off a) (Nat.mul (sln a) 14)) n))) (and' (isSl a) (Nat.beq (hi b) 7))) (dig F 2)) (dig F 1)) (Nat.beq (dig F 0) 2)
/-- the cell of an error: type, number -/
def errC (T : Nat) : Nat := Nat.add (Nat.shiftLeft (Nat.succ (Nat.land T 65535)) 104) (Nat.add (Nat.div T 65536) 554597137599850363154807652352)
/-- what a function is taken by: its law's number in the low five bits, a type above -/
def orcG (T : TypeId) : Nat → Func → Env → Nat → HT → Nat → K0 → Out
  | 1 => fun _ _ F H nx k => oClone F H nx k
  | 2 => fun fn X F H nx k => oOverlaps X (argT fn.params 0) F H nx k
  | 3 => fun _ _ F H nx k => oAs (Nat.land T 65535) (Nat.land (Nat.shiftRight T 16) 65535) (Nat.land (Nat.shiftRight T 32) 65535) (Nat.shiftRight T 48) F H nx k
  | 4 => fun _ _ F H nx k => oIs T F H nx k
  | 5 => fun fn X F H nx k => oKeys X 1 (argT fn.resultTypes 0) F H nx k
  | 6 => fun fn X F H nx k => oInsert X (argT fn.params 0) F H nx k
  | 7 => fun _ _ F H nx k => oNum F H nx k
  | 8 => fun _ _ F H nx k => oSum F H nx k
  | 9 => fun _ _ F H nx k => oIdx F H nx k
  | 10 => fun _ _ F H nx k => oCount F H nx k
  | 11 => fun _ _ F H nx k => oIndex F H nx k
  | 12 => fun _ _ F H nx k => oDig T F H nx k
  | 13 => fun _ _ F H nx k => oRepeat F H nx k
  | 14 => fun _ _ F H nx k => oSorted T (Nat.land T 65535) F H nx k
  | 15 => fun _ _ F H nx k => oTrue (Nat.land T 65535) (Nat.div T 65536) F H nx k
  | 16 => fun _ _ F H nx k => oNumI F H nx k
  | 17 => fun _ _ F H nx k => frc (fun C => oCutNum C F H nx k) (errC T)
  | 18 => fun _ _ F H nx k => oCutText F H nx k
  | 19 => fun _ _ F H nx k => oCmp F H nx k
  | 20 => fun _ _ F H nx k => oOr F H nx k
  | 21 => fun _ _ F H nx k => oTold F H nx k
  | _ => fun _ _ _ _ _ _ => .bad 180
def orc (c : Nat) : Func → Env → Nat → HT → Nat → K0 → Out := orcG (Nat.shiftRight c 5) (Nat.land c 31)
def callBy (X : Env) (run : RunT) (g : Nat) (F : Nat) (H : HT) (nx : Nat) (k : K0) : Out :=
  @Option.rec Func (fun _ => Out) (.bad 150)
    (fun fn => br (orc (X.orc g) fn X F H nx k) (callFn fn X run g F H nx k) (Nat.beq (X.orc g) 0)) (fnOf X g)
abbrev CodeK := Env → RunT → Nat → FR → HT → Nat → Out
def runF : Code → CodeK :=
  @Code.rec (fun _ => CodeK) (fun _ _ _ f H nx => .norm f H nx)
    (fun r ops d X run g f H nx => runReg d r ops.toList X (callBy X run) g f H nx)
    (fun _ _ iha ihb X run g f H nx => @Out.rec (fun _ => Out) (ihb X run g) .ret .exit .bad (iha X run g f H nx))
    (fun c _ _ iha ihb X run g f H nx => arg c f H nx fun c H nx => boolK c (iha X run g f H nx) (ihb X run g f H nx))
    (fun i _ ih X run g f H nx => @Out.rec (fun _ => Out) .norm .ret (fun j f H nx => br (.exit j f H nx) (.norm f H nx) (Nat.beq j i)) .bad (ih X run g f H nx))
    (fun b ih X run g f H nx => @Out.rec (fun _ => Out) (run g (.loop b)) .ret .exit .bad (ih X run g f H nx))
    (fun _ _ _ _ _ _ _ _ _ _ _ _ => .bad 160)
    (fun i _ _ _ f H nx => .exit i f H nx)
    (fun _ ih X run g f H nx => ih X run g f H nx)
    (fun _ _ _ _ f H nx => .norm f H nx)
    (fun _ _ _ _ _ _ _ => .bad 161)
    (fun _ _ _ f H nx => .ret f H nx)
    (fun _ _ _ _ _ _ _ => .bad 162)
/-- the whole; fuel: the depth of calls and rounds -/
def runN : Nat → Env → RunT := @Nat.rec (fun _ => Env → RunT) (fun _ _ _ _ _ _ => .bad 0) (fun _ ih X g c f H nx => runF c X (ih X) g f H nx)
/-- tables as they are typed -/
def t8 {α : Type} (s : S8) (t : N8 α) : α := @S8.rec (fun _ => N8 α → α) (fun f => f.1) (fun f => f.2) (fun f => f.3) (fun f => f.4) (fun f => f.5) (fun f => f.6) (fun f => f.7) (fun f => f.8) s t
def tyAt (T : N8 (N8 (N8 (N8 Ty)))) (t : Nat) : Ty := t8 (s8 (Nat.land t 7)) (t8 (s8 (Nat.land (Nat.shiftRight t 3) 7)) (t8 (s8 (Nat.land (Nat.shiftRight t 6) 7)) (t8 (s8 (Nat.shiftRight t 9)) T)))
def find2 {α : Type} (g : Nat) : List (Nat × α) → Option α := @List.rec (Nat × α) (fun _ => Option α) none (fun x _ ih => @Bool.rec (fun _ => Option α) ih (some x.2) (Nat.beq x.1 g))
def drAt (l : List (Nat × List (Nat × List (Nat × Nat × Nat)))) (g r : Nat) : Option (List (Nat × Nat × Nat)) := @Option.rec (List (Nat × List (Nat × Nat × Nat))) (fun _ => Option (List (Nat × Nat × Nat))) none (find2 r) (find2 g l)
def orcAt (l : List (Nat × Nat)) (g : Nat) : Nat := @Option.rec Nat (fun _ => Nat) 0 (fun x => x) (find2 g l)
def envOf (P : Program) (T : N8 (N8 (N8 (N8 Ty)))) (l : List (Nat × List (Nat × List (Nat × Nat × Nat)))) (o : List (Nat × Nat)) : Env := ⟨P, fun t => @Bool.rec (fun _ => Ty) (tyOf P t) (tyAt T t) (Nat.blt t P.types.size), orcAt o, drAt l⟩

end Go.Ev
namespace Go.Ev
def isTr (o : Out) : Bool := match o with | .exit c _ _ _ => Nat.beq c 237684487542793012780631851009 | _ => false
/-- the function run from a heap of the evaluator's that holds the ground alone -/
noncomputable def runTop (X : Env) (G : Obj) (n g : Nat) (fn : Func) (F : Nat) : Out := new G HT.e 0 fun _ H nx => callFn fn X (Ev.runN n X) g F H nx (fun c H nx => .exit c 0 H nx)
/-- the heap that holds the listed things alone -/
noncomputable def mkHK : List (Nat × Obj) → (HT → Out) → Out := @List.rec (Nat × Obj) (fun _ => (HT → Out) → Out) (fun k => k .e) (fun x _ ih k => ih fun H => set H x.2 x.1 k)
def mlEq : ML → ML → Bool
  | .nil, .nil => true
  | .cons a b c l, .cons a' b' c' l' => Nat.beq a a' && Nat.beq b b' && Nat.beq c c' && mlEq l l'
  | _, _ => false
def objEq : Obj → Obj → Bool
  | .row n N e o, .row n' N' e' o' => Nat.beq n n' && Nat.beq N N' && Nat.beq e e' && (o == o')
  | .str n N, .str n' N' => Nat.beq n n' && Nat.beq N N'
  | .agg n N, .agg n' N' => Nat.beq n n' && Nat.beq N N'
  | .tup n N, .tup n' N' => Nat.beq n n' && Nat.beq N N'
  | .clo g n N m M, .clo g' n' N' m' M' => Nat.beq g g' && Nat.beq n n' && Nat.beq N N' && Nat.beq m m' && Nat.beq M M'
  | .map c q l, .map c' q' l' => Nat.beq c c' && Nat.beq q q' && mlEq l l'
  | .chan c n N, .chan c' n' N' => Nat.beq c c' && Nat.beq n n' && Nat.beq N N'
  | _, _ => false
/-- all that the list says the heap says -/
noncomputable def chkL (H : HT) : List (Nat × Obj) → Bool
  | [] => true
  | x :: l => Nat.blt x.1 262144 && objEq (get H x.1) x.2 && chkL H l
/-- rows of lines said to a script, with branches -/
inductive Tr where
  | fin
  | says (l m : ByteArray) (t : Tr)
  | both (a b : Tr)
  | told (c : Nat) (L : List (Nat × Obj)) (n : Nat)
noncomputable def both2 (b : Out) : Out → Out := @Out.rec (fun _ => Out) (fun _ _ _ => .bad 301) (fun _ _ _ => .bad 302) (fun i _ _ _ => br (.bad 303) b (Nat.beq i 237684487542793012780631851009)) .bad
noncomputable def toldB (c0 : Nat) (L : List (Nat × Obj)) (n c : Nat) (H : HT) (nx : Nat) : Bool := Nat.beq c c0 && Nat.ble nx n && chkL H L
noncomputable def sayK (X : Env) (n g : Nat) (fn : Func) (l m : ByteArray) (ih : K0) (c : Nat) (H : HT) (nx : Nat) : Out :=
  constK (.string l) 0 H nx fun c1 H nx => constK (.string m) 0 H nx fun c2 H nx => frc (fun F => callFn fn X (Ev.runN n X) g F H nx fun r H nx => br (.bad 300) (ih c H nx) (Nat.beq r 237684487542793012780631851009)) (packL [0, c, c1, c2])
noncomputable def trK (X : Env) (n g : Nat) (fn : Func) : Tr → K0 :=
  @Tr.rec (fun _ => K0) (fun _ H nx => .exit 237684487542793012780631851009 0 H nx) (fun l m _ ih => sayK X n g fn l m ih) (fun _ _ iha ihb c H nx => both2 (ihb c H nx) (iha c H nx)) (fun c0 L k c H nx => .exit (boolC (toldB c0 L k c H nx)) 0 H nx)
end Go.Ev
