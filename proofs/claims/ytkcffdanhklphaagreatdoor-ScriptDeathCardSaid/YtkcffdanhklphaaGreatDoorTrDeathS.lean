/-
  ScriptDeath: the lines as trees, the state in their midst.
-/
import Derived.Test.YtkcffdanhklphaaGreatDoorTrW
set_option linter.unusedVariables false
set_option linter.unusedSimpArgs false
set_option maxRecDepth 100000
namespace Go.Proofs.YtkcffdanhklphaaGreatDoor
open Go.RowKit
noncomputable section
def pk (h : Nat) (l : List (Nat × Nat × Nat)) : Nat := Nat.add h (Nat.shiftLeft (Ev.pkC l) 128)
def py (h y : Nat) : Nat := Nat.add h (Nat.shiftLeft y 128)
def pz (y k : Nat) (l : List (Nat × Nat × Nat)) : Nat := Nat.add y (Nat.shiftLeft (Ev.pkC l) (Nat.mul 128 k))
def rpS (c k n r : Nat) : Nat := @Nat.rec (fun _ => Nat) r (fun _ ih => Nat.add c (Nat.shiftLeft ih (Nat.mul 8 k))) n
def us (l : List (Nat × Nat × Nat)) : Nat := @List.rec (Nat × Nat × Nat) (fun _ => Nat) 0 (fun x _ ih => rpS x.1 x.2.1 x.2.2 ih) l
def gG0 : Ev.Obj := .tup 76 38654967845
def x0 : Ev.Obj := .row 3 (pk 747157246263361151266593 [(15,39614085979499496091347322127,1),(15,39614085979499496091347322174,1),(16,1343,1)]) 89 false
def x1 : Ev.Obj := .row 2 (pk 1975600951149738449690717 [(15,39614085979499214616370610245,1),(7,2,1)]) 98 false
def x2 : Ev.Obj := .row 6 (pk 1975600951149720751843185 [(3,1,1),(14,4,1),(14,135,1),(14,8,1),(15,39614085979499214616370610250,1),(7,19,1)]) 59 false
def x3 : Ev.Obj := .row 1 377439253340108957125338211221677653100129406550201760809794769961274 44 false
def x4 : Ev.Obj := .row 11 (pk 2418478901712940791680574 [(7,1,1),(3,1,1),(15,39614147370264054871711810658,1),(3,1,1),(7,3,1),(3,1,1),(7,300,1),(14,0,2),(14,548,1),(14,816,1)]) 139 false
def x5 : Ev.Obj := .row 2 (pk 0 [(7,1,1),(7,2,1)]) 3 true
def x6 : Ev.Obj := .row 11 (pk 747157246259244149921004 [(7,2,1),(3,1,1),(15,39614147370263210446781677856,1),(3,0,1),(7,2,1),(3,1,1),(7,300,1),(14,0,4)]) 139 false
def x7 : Ev.Obj := .row 2 (pk 0 [(14,38,1),(14,72,1)]) 107 true
def x8 : Ev.Obj := .row 17 (pk 2654435769 [(7,1,1),(7,0,1),(11,0,1),(7,0,1),(11,0,1),(7,0,1),(11,0,1),(7,0,1),(11,0,1),(7,0,1),(11,0,1),(7,0,1),(11,0,1),(7,0,1),(11,0,1),(7,0,1),(11,0,1)]) 95 false
def x9 : Ev.Obj := .str 64 (us [(127953990649872618253,9,1),(0,1,47),(2,1,1),(0,1,7)])
def x10 : Ev.Obj := .str 64 (us [(115120714392545262830,9,1),(0,1,7),(1,1,1),(0,1,39),(2,1,1),(0,1,7)])
def x11 : Ev.Obj := .row 14 (pk 21235486152 [(7,2,1),(7,1,2),(12,0,3),(7,0,1),(7,300,1),(7,6,1),(7,8,1),(7,0,1),(12,0,2),(11,0,1)]) 151 true
def x12 : Ev.Obj := .row 21 (pk 2513317413157 [(7,1,1),(7,300,1),(7,9,1),(11,1,1),(7,0,4),(7,2,1),(11,1,1),(14,812,1),(15,0,1),(17,1243,1),(11,2,1),(7,2,1),(7,1,1),(7,0,2),(7,3,1),(3,1,1),(21,0,1)]) 402 false
def x13 : Ev.Obj := .map 1 1 (.cons 554597137599850363154807652354 79228162514264337593543951380 0 .nil)
def x14 : Ev.Obj := .row 6 (pk 1413983201886 [(14,4,1),(16,807,1),(15,0,2),(7,3,1),(7,300,1)]) 200 false
def x15 : Ev.Obj := .row 16 (pk 2142133902035 [(11,1,1),(7,0,4),(7,2,1),(15,0,1),(14,809,1),(7,2,1),(7,1,1),(7,0,1),(3,1,1),(12,0,3),(3,0,1)]) 345 false
def x16 : Ev.Obj := .row 1 377439253340108957125338211494584111370722054247828195972201733035724 135 false
def x17 : Ev.Obj := .row 1 404399201614197736959966806242300046516052875760979733881369410210366 341 false
def x18 : Ev.Obj := .row 10 (pk 0 [(3073,107,1),(7,1,1),(3073,118,1),(7,0,2),(15,0,1),(7,0,4)]) 257 true
def x19 : Ev.Obj := .agg 14 (pk 2654435769 [(7,1,1),(15,39614128480797278968200823827,1),(15,0,2),(12,0,1),(15,0,2),(7,0,1),(11,0,1),(7,0,5)])
def y0 : Nat := Ev.pkC [(7,1,3),(12,0,3),(7,0,1),(7,300,1),(7,3,1),(7,5,1),(7,0,1),(12,0,2),(11,0,1),(7,1,1),(7,2,1),(7,4,1),(12,0,3),(7,0,2),(7,9,1),(7,13,1),(7,0,1),(12,0,2),(11,1,1),(7,1,1),(7,3,1),(7,9,1),(12,0,1),(3073,107,1),(3073,118,1),(7,0,2),(7,14,1),(7,15,1),(7,0,1),(12,0,2),(11,0,1),(7,1,1),(7,4,1),(7,6,1),(12,0,3),(7,0,2),(7,16,1),(7,0,2),(12,0,2),(11,2,1)]
def x20 : Ev.Obj := .row 56 (py 17060193764 y0) 151 true
def x21 : Ev.Obj := .str 38 (us [(20250202135821387051,9,1),(0,1,7),(1,1,1),(0,1,7),(23789569,4,1),(0,1,7),(7733249,3,1)])
def x22 : Ev.Obj := .row 3 (pk 2223870599685 [(13,189,1),(13,225,1),(13,1233,1)]) 9 true
def x23 : Ev.Obj := .row 3 (pk 0 [(13,189,1),(13,225,1),(13,1233,1)]) 9 true
def L_n3 : List (Nat × Ev.Obj) := [(0, gG0), (3, x0), (7, x1), (9, x2), (11, x3), (37, x4), (68, x5), (71, x6), (73, x7), (134, x8), (189, x9), (225, x10), (287, x11), (547, x12), (806, x13), (808, x14), (811, x15), (813, x16), (815, x17), (1042, x18), (1044, x19), (1121, x20), (1233, x21), (1242, .chan 1 0 0), (1294, x22), (1341, x23), (1342, .map 0 0 .nil)]
theorem ok_n3 : Ev.okS ⟨[], L_n3, 1352⟩ = true := by decide +kernel
def tx0 : ByteArray := ⟨#[103, 111, 111, 100]⟩
def tx1 : ByteArray := ⟨#[121, 101, 115]⟩
def tx2 : ByteArray := ⟨#[99, 111, 109, 109, 105, 116, 32, 50]⟩
def tx3 : ByteArray := ⟨#[111, 107]⟩
def tx4 : ByteArray := ⟨#[112, 117, 116, 32, 50, 32, 45, 32, 108, 32, 119, 32, 48]⟩
def tx5 : ByteArray := ⟨#[103, 101, 116, 32, 50, 32, 45, 32, 107]⟩
def tx6 : ByteArray := ⟨#[101, 114, 114, 111, 114, 32, 50, 49]⟩
def tx7 : ByteArray := ⟨#[111, 107, 32, 118]⟩
def tx8 : ByteArray := ⟨#[119, 114, 105, 116, 101, 32, 50]⟩
def tx9 : ByteArray := ⟨#[107, 105, 108, 108, 32, 49]⟩
def tx10 : ByteArray := ⟨#[115, 116, 101, 112, 32, 49]⟩
def tx11 : ByteArray := ⟨#[97, 115, 107, 32, 99, 111, 109, 109, 105, 116, 32, 49]⟩
def tx12 : ByteArray := ⟨#[112, 117, 116, 32, 49, 32, 45, 32, 107, 32, 118, 32, 48]⟩
def tx13 : ByteArray := ⟨#[119, 114, 105, 116, 101, 32, 49]⟩
def tx14 : ByteArray := ⟨#[111, 112, 101, 110, 32, 50, 32, 51, 48, 48]⟩
def tx15 : ByteArray := ⟨#[111, 112, 101, 110, 32, 49, 32, 51, 48, 48]⟩
def tx16 : ByteArray := ⟨#[115, 112, 97, 119, 110]⟩
def tx17 : ByteArray := ⟨#[50]⟩
def tx18 : ByteArray := ⟨#[49]⟩
def dE (k : Nat) : Ev.Tr := .says tx9 tx3 (.says tx8 tx3 (.says tx5 (if k < 4 then tx6 else tx7) (.says tx4 tx3 (.says tx2 tx3 (.says tx0 tx1 (.fin))))))
def dD (base : Ev.Tr) : Nat → Nat → Ev.Tr
  | 0, _ => base
  | n + 1, k => .both (dE k) (.says tx10 tx3 (dD base n (k + 1)))
def dC : Ev.Tr := (.told 1109194275199700726309615304716 L_n3 1352)
def dT : Ev.Tr := .says tx16 tx18 (.says tx16 tx17 (.says tx15 tx3 (.says tx14 tx3 (.says tx13 tx3 (.says tx12 tx3 (.says tx11 tx3 (dD (.told 1109194275199700726309615304716 L_n3 1352) 3 0)))))))
def dS (t : Nat) : Ev.Tr := bif Nat.blt t 3 then dD dC (3 - t) t else dD (dE 5) (5 - t) t
def dN (t : Nat) : Ev.Tr := bif Nat.beq t 2 then dC else dS (t + 1)
end
end Go.Proofs.YtkcffdanhklphaaGreatDoor
