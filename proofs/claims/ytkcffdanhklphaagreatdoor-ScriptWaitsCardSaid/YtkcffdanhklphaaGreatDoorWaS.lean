/-
  ScriptWaits: a line asked by hand: the states.
-/
import Derived.Test.YtkcffdanhklphaaGreatDoorWaB
set_option linter.unusedVariables false
set_option maxRecDepth 100000
namespace Go.Proofs.YtkcffdanhklphaaGreatDoor
open Go.Ev (HT Out)
noncomputable def pk (h : Nat) (l : List (Nat × Nat × Nat)) : Nat := Nat.add h (Nat.shiftLeft (Ev.pkC l) 128)
noncomputable def py (h y : Nat) : Nat := Nat.add h (Nat.shiftLeft y 128)
noncomputable def pz (y k : Nat) (l : List (Nat × Nat × Nat)) : Nat := Nat.add y (Nat.shiftLeft (Ev.pkC l) (Nat.mul 128 k))
noncomputable def rpS (c k n r : Nat) : Nat := @Nat.rec (fun _ => Nat) r (fun _ ih => Nat.add c (Nat.shiftLeft ih (Nat.mul 8 k))) n
noncomputable def us (l : List (Nat × Nat × Nat)) : Nat := @List.rec (Nat × Nat × Nat) (fun _ => Nat) 0 (fun x _ ih => rpS x.1 x.2.1 x.2.2 ih) l
noncomputable def gG0 : Ev.Obj := .tup 76 38654967845
noncomputable def x0 : Ev.Obj := .row 3 (pk 747157246260187016615871 [(15,39614085979499214616370610404,1),(15,39614085979499214616370610408,1),(16,233,1)]) 89 false
noncomputable def x1 : Ev.Obj := .row 2 (pk 1975600951149738449690717 [(15,39614085979499214616370610245,1),(7,2,1)]) 98 false
noncomputable def x2 : Ev.Obj := .row 6 (pk 1975600951149712709822424 [(3,1,1),(14,4,1),(14,135,1),(14,8,1),(15,39614085979499214616370610250,1),(7,13,1)]) 59 false
noncomputable def x3 : Ev.Obj := .row 1 377439253340108957125338211221677653100129406550201760809794769961274 44 false
noncomputable def x4 : Ev.Obj := .row 11 (pk 1975600951150640960561208 [(7,1,1),(3,1,1),(15,39614147370263491921758388755,1),(3,0,1),(7,4,1),(3,1,1),(7,300,1),(14,0,2),(14,548,1),(14,816,1)]) 139 false
noncomputable def x5 : Ev.Obj := .row 2 (pk 0 [(7,1,1),(7,2,1)]) 3 true
noncomputable def x6 : Ev.Obj := .row 11 (pk 747157246259244149921004 [(7,2,1),(3,1,1),(15,39614147370263210446781677856,1),(3,0,1),(7,2,1),(3,1,1),(7,300,1),(14,0,4)]) 139 false
noncomputable def x7 : Ev.Obj := .row 2 (pk 0 [(14,38,1),(14,72,1)]) 107 true
noncomputable def x8 : Ev.Obj := .row 17 (pk 2654435769 [(7,1,1),(7,0,1),(11,0,1),(7,0,1),(11,0,1),(7,0,1),(11,0,1),(7,0,1),(11,0,1),(7,0,1),(11,0,1),(7,0,1),(11,0,1),(7,0,1),(11,0,1),(7,0,1),(11,0,1)]) 95 false
noncomputable def x9 : Ev.Obj := .str 64 (us [(127953990649872618253,9,1),(0,1,47),(2,1,1),(0,1,7)])
noncomputable def x10 : Ev.Obj := .str 64 (us [(115120714392545262830,9,1),(0,1,7),(1,1,1),(0,1,39),(2,1,1),(0,1,7)])
noncomputable def x11 : Ev.Obj := .row 2 (pk 1098441369100 [(13,189,1),(13,225,1)]) 9 true
noncomputable def x12 : Ev.Obj := .row 2 (pk 0 [(13,189,1),(13,225,1)]) 9 true
noncomputable def x13 : Ev.Obj := .row 14 (pk 21235486152 [(7,2,1),(7,1,2),(12,0,3),(7,0,1),(7,300,1),(7,6,1),(7,8,1),(7,0,1),(12,0,2),(11,0,1)]) 151 true
noncomputable def y0 : Nat := Ev.pkC [(7,1,3),(12,0,3),(7,0,1),(7,300,1),(7,3,1),(7,5,1),(7,0,1),(12,0,2),(11,0,1),(7,1,1),(7,2,1),(7,4,1),(12,0,3),(7,0,2),(7,9,1),(7,13,1),(7,0,1),(12,0,2),(11,1,1)]
noncomputable def x14 : Ev.Obj := .row 28 (py 49424840513 y0) 151 true
noncomputable def x15 : Ev.Obj := .row 21 (pk 1435070745277 [(7,1,1),(7,300,1),(7,0,1),(11,1,1),(7,0,4),(7,2,1),(11,1,1),(14,812,1),(15,0,1),(17,0,1),(11,0,1),(7,0,5),(3,0,1),(21,0,1)]) 402 false
noncomputable def x16 : Ev.Obj := .row 6 (pk 1412730783605 [(14,4,1),(16,807,1),(15,0,2),(7,2,1),(7,300,1)]) 200 false
noncomputable def x17 : Ev.Obj := .row 16 (pk 2147438537121 [(11,1,1),(7,0,4),(7,2,1),(15,0,1),(14,809,1),(7,0,3),(3,1,1),(12,0,3),(3,0,1)]) 345 false
noncomputable def x18 : Ev.Obj := .row 1 377439253340108957125338211494584111370722054247828195972201733035724 135 false
noncomputable def x19 : Ev.Obj := .row 1 404399201614197736959966806242300046516052875760979733881369410210366 341 false
noncomputable def x20 : Ev.Obj := .row 6 (pk 1975600951149675749052358 [(3,1,1),(14,4,1),(14,135,1),(14,8,1),(15,39614085979499214616370610250,1),(7,14,1)]) 59 false
noncomputable def x21 : Ev.Obj := .row 11 (pk 1975600951151757747037702 [(7,2,1),(3,1,1),(15,39614147370263491921758389099,1),(3,1,1),(7,0,1),(3,1,1),(7,300,1),(14,0,4)]) 139 false
noncomputable def y1 : Nat := Ev.pkC [(7,2,1),(7,1,2),(12,0,3),(7,0,1),(7,300,1),(7,6,1),(7,8,1),(7,0,1),(12,0,2),(11,0,1),(7,2,2),(7,4,1),(12,0,3),(7,0,2),(7,14,1),(7,0,2),(12,0,2),(11,0,1)]
noncomputable def x22 : Ev.Obj := .row 28 (py 21235486152 y1) 151 true
noncomputable def x23 : Ev.Obj := .row 6 (pk 1975600951149925226323614 [(3,1,1),(14,4,1),(14,135,1),(14,8,1),(15,39614085979499214616370610250,1),(7,15,1)]) 59 false
noncomputable def x24 : Ev.Obj := .row 11 (pk 1975600951149688830787363 [(7,2,1),(3,1,1),(15,39614147370263491921758389099,1),(3,1,1),(7,1,1),(3,1,1),(7,300,1),(14,0,2),(14,892,1),(14,0,1)]) 139 false
noncomputable def x25 : Ev.Obj := .row 21 (pk 793685732871 [(7,2,1),(7,300,1),(7,1,1),(11,0,1),(7,0,5),(11,0,1),(14,0,1),(15,0,1),(17,0,1),(11,0,1),(7,0,5),(3,0,1),(21,0,1)]) 402 false
noncomputable def L_T1 : List (Nat × Ev.Obj) := [(0, gG0), (3, x0), (7, x1), (9, x2), (11, x3), (37, x4), (68, x5), (71, x6), (73, x7), (134, x8), (189, x9), (225, x10), (227, x11), (231, x12), (232, .map 0 0 .nil), (287, x13), (530, x14), (547, x15), (806, .map 0 0 .nil), (808, x16), (811, x17), (813, x18), (815, x19)]
theorem ok_T1 : Ev.okS ⟨[], L_T1, 846⟩ = true := by decide +kernel
noncomputable def L_A0 : List (Nat × Ev.Obj) := [(0, gG0), (3, x0), (7, x1), (9, x20), (11, x3), (37, x4), (68, x5), (71, x21), (73, x7), (134, x8), (189, x9), (225, x10), (227, x11), (231, x12), (232, .map 0 0 .nil), (530, x14), (547, x15), (806, .map 0 0 .nil), (808, x16), (811, x17), (813, x18), (815, x19), (874, x22)]
theorem ok_A0 : Ev.okS ⟨[], L_A0, 875⟩ = true := by decide +kernel
noncomputable def L_A1 : List (Nat × Ev.Obj) := [(0, gG0), (3, x0), (7, x1), (9, x23), (11, x3), (37, x4), (68, x5), (71, x24), (73, x7), (134, x8), (189, x9), (225, x10), (227, x11), (231, x12), (232, .map 0 0 .nil), (530, x14), (547, x15), (806, .map 0 0 .nil), (808, x16), (811, x17), (813, x18), (815, x19), (874, x22), (891, x25)]
theorem ok_A1 : Ev.okS ⟨[], L_A1, 898⟩ = true := by decide +kernel
noncomputable def cS : Nat := 1109194275199700726309615304716
/-- the machine's row, the process's row behind j + 1 steps -/
noncomputable def N9 (j : Nat) : Nat := @Nat.rec (fun _ => Nat) (pk 1975600951149925226323614 [(3,1,1),(14,4,1),(14,135,1),(14,8,1),(15,39614085979499214616370610250,1),(7,15,1)]) (fun k ih => Ev.put (Ev.put ih 6 (iA (Nat.add k 16))) 3 1109194275199700726309615304839) j
noncomputable def N71 (j : Nat) : Nat := @Nat.rec (fun _ => Nat) (pk 1975600951149688830787363 [(7,2,1),(3,1,1),(15,39614147370263491921758389099,1),(3,1,1),(7,1,1),(3,1,1),(7,300,1),(14,0,2),(14,892,1),(14,0,1)]) (fun k ih => Ev.put ih 5 (iA (Nat.add k 2))) j
noncomputable def Lj (j : Nat) : List (Nat × Ev.Obj) := [(0, gG0), (3, x0), (7, x1), (9, .row 6 (N9 j) 59 false), (11, x3), (37, x4), (68, x5), (71, .row 11 (N71 j) 139 false), (73, x7), (134, x8), (189, x9), (225, x10), (227, x11), (231, x12), (232, .map 0 0 .nil), (530, x14), (547, x15), (806, .map 0 0 .nil), (808, x16), (811, x17), (813, x18), (815, x19), (874, x22), (891, x25)]
noncomputable def Lk (k : Nat) : List (Nat × Ev.Obj) := @Nat.rec (fun _ => List (Nat × Ev.Obj)) L_A0 (fun j _ => Lj j) k
noncomputable def nk (k : Nat) : Nat := @Nat.rec (fun _ => Nat) 875 (fun j _ => Nat.add 898 (Nat.mul 21 j)) k
noncomputable def rnd (k : Nat) : Bool := Ev.okS ⟨[], Lk k, nk k⟩ && Ev.isTr (Ev.mkHK (Lk k) fun H => stepK cS (Lk (Nat.succ k)) (nk (Nat.succ k)) H (nk k))
def lineW : ByteArray := ⟨#[119, 114, 105, 116, 101, 32, 50]⟩
def waitsW : ByteArray := ⟨#[119, 97, 105, 116, 115]⟩
theorem run_does : Ev.isTr (Ev.mkHK L_T1 fun H => doesK cS lineW (Lk 0) (nk 0) H 846) = true := by decide +kernel
theorem run_last : (Ev.okS ⟨[], Lk 1000, nk 1000⟩ && Ev.okS ⟨[], Lk 1000, 22000⟩ && Ev.isTr (Ev.mkHK (Lk 1000) fun H => lastK cS waitsW (Lk 1000) 22000 H (nk 1000))) = true := by decide +kernel
end Go.Proofs.YtkcffdanhklphaaGreatDoor
